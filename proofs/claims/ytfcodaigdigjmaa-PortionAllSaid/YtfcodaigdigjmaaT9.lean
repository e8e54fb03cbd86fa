/- Slots shared out: what the shares are, each by itself. No program in sight. -/
import Derived.Test.YtfcodaigdigjmaaS9
namespace Go.Proofs.Ytfcodaigdigjmaa
open Go.RowKit
/-! ### The order of what is left -/
theorem lks_at {ws : List W64} {n m : Nat} {x : Lk} (h : x ∈ lks ws n m) (hm : m < 4294967296) : x.who.toNat < m ∧ lkAt ws n x.who.toNat = x := by
  obtain ⟨i, hi, he⟩ := List.mem_map.1 h
  have hi := List.mem_range.1 hi
  rw [← he, who_at (by omega)]
  exact ⟨hi, rfl⟩
theorem lks_nodup (ws : List W64) (n : Nat) {m : Nat} (hm : m < 4294967296) : (lks ws n m).Pairwise (· ≠ ·) := by
  unfold lks
  rw [List.pairwise_map]
  refine List.Pairwise.imp_of_mem ?_ (List.pairwise_lt_range (n := m))
  intro a b ha hb hab he
  have ha := List.mem_range.1 ha
  have hb := List.mem_range.1 hb
  have := congrArg (fun x : Lk => x.who.toNat) he
  simp only [who_at (show a < 4294967296 by omega), who_at (show b < 4294967296 by omega)] at this
  omega
theorem sort_strict {ws : List W64} (n : Nat) (hl : ws.length ≤ 40) : (sortT ws n).Pairwise (fun a b => key a < key b) := by
  have h1 := srt_sorted (lks ws n ws.length)
  have h2 : (srt (lks ws n ws.length)).Pairwise (· ≠ ·) := (srt_perm _).symm.pairwise (lks_nodup ws n (by omega)) fun h => Ne.symm h
  exact (h1.and h2).imp fun h => Nat.lt_of_le_of_ne h.1 fun e => h.2 (key_inj e)
theorem mem_sort {ws : List W64} {n : Nat} {x : Lk} : x ∈ sortT ws n ↔ x ∈ lks ws n ws.length := (srt_perm _).mem_iff
theorem at_mem {ws : List W64} {n i : Nat} (hi : i < ws.length) : lkAt ws n i ∈ sortT ws n := mem_sort.2 (List.mem_map_of_mem (List.mem_range.2 hi))
/-- Who are served first. -/
def wN (ws : List W64) (n k : Nat) : List Nat := ((sortT ws n).take k).map fun x => x.who.toNat
theorem wN_mem {ws : List W64} {n k i : Nat} (hl : ws.length ≤ 40) (hi : i < ws.length) : i ∈ wN ws n k ↔ lkAt ws n i ∈ (sortT ws n).take k := by
  constructor
  · intro h
    obtain ⟨x, hx, he⟩ := List.mem_map.1 h
    have := (lks_at (mem_sort.1 (List.mem_of_mem_take hx)) (by omega)).2
    rw [he] at this
    rwa [this]
  · intro h
    exact List.mem_map.2 ⟨_, h, who_at (by omega)⟩
theorem take_count : ∀ {l : List Lk} (_ : l.Pairwise (fun a b => key a < key b)) {x : Lk} (_ : x ∈ l) (k : Nat), x ∈ l.take k ↔ l.countP (fun y => decide (key y < key x)) < k
  | y :: l, h, x, hx, k => by
    have hc := List.pairwise_cons.1 h
    rcases List.mem_cons.1 hx with rfl | hx
    · have h0 : (x :: l).countP (fun y => decide (key y < key x)) = 0 := by
        rw [List.countP_eq_zero]
        intro z hz
        rcases List.mem_cons.1 hz with rfl | hz
        · simp
        · have := hc.1 z hz
          simp; omega
      rw [h0]
      cases k with
      | zero => simp
      | succ k => simp
    · have hy := hc.1 x hx
      rw [List.countP_cons, if_pos (by simpa using hy)]
      cases k with
      | zero => simp
      | succ k =>
        rw [List.take_succ_cons, List.mem_cons, take_count hc.2 hx k]
        constructor
        · rintro (rfl | h)
          · omega
          · omega
        · intro h; exact .inr (by omega)
def rank (ws : List W64) (n i : Nat) : Nat := (List.range ws.length).countP fun j => decide (key (lkAt ws n j) < key (lkAt ws n i))
theorem mem_rank {ws : List W64} {n k i : Nat} (hl : ws.length ≤ 40) (hi : i < ws.length) : i ∈ wN ws n k ↔ rank ws n i < k := by
  rw [wN_mem hl hi, take_count (sort_strict n hl) (at_mem hi), rank, sortT, (srt_perm _).countP_eq, lks, List.countP_map]
  rfl
theorem rest_at (ws : List W64) (n i : Nat) : (lkAt ws n i).rest.toNat = rN ws n i := by
  rw [lkAt, BitVec.toNat_ofNat]
  exact Nat.mod_eq_of_lt (rN_lt ws n i)
theorem key_at {ws : List W64} {n i j : Nat} (hi : i < 4294967296) (hj : j < 4294967296) : key (lkAt ws n j) < key (lkAt ws n i) ↔ rN ws n i < rN ws n j ∨ (rN ws n j = rN ws n i ∧ j < i) := by
  rw [key_lt, rest_at, rest_at, who_at hi, who_at hj]
/-! ### Each one's share -/
theorem bump_count (l : List Lk) : ∀ (o : List Int) {i : Nat}, i < o.length → (bump o l).getD i 0 = o.getD i 0 + ((l.map fun x => x.who.toNat).count i : Int) := by
  induction l with
  | nil => intro o i _; simp [bump]
  | cons x l ih =>
    intro o i hi
    have := ih (o.set x.who.toNat (o.getD x.who.toNat 0 + 1)) (i := i) (by simpa using hi)
    rw [show bump o (x :: l) = bump (o.set x.who.toNat (o.getD x.who.toNat 0 + 1)) l from rfl, this, getD_setA hi, List.map_cons, List.count_cons]
    by_cases h : x.who.toNat = i
    · subst h
      simp
      omega
    · simp [h]
theorem count_one : ∀ {l : List Nat} {i : Nat}, l.Nodup → i ∈ l → l.count i = 1
  | x :: l, i, hd, hi => by
    have hc := List.pairwise_cons.1 hd
    rw [List.count_cons]
    rcases List.mem_cons.1 hi with rfl | h
    · rw [List.count_eq_zero_of_not_mem fun h => hc.1 _ h rfl]; simp
    · have hne : x ≠ i := fun e => hc.1 _ h e
      rw [count_one hc.2 h]; simp [hne]
theorem wN_nodup {ws : List W64} {n k : Nat} (hl : ws.length ≤ 40) : (wN ws n k).Nodup := by
  unfold wN
  rw [List.Nodup, List.pairwise_map]
  refine List.Pairwise.imp_of_mem ?_ (((sort_strict n hl).sublist (List.take_sublist k _)))
  intro a b ha hb hab he
  have h1 := (lks_at (mem_sort.1 (List.mem_of_mem_take ha)) (by omega)).2
  have h2 := (lks_at (mem_sort.1 (List.mem_of_mem_take hb)) (by omega)).2
  rw [he] at h1
  have : a = b := h1.symm.trans h2
  subst this
  exact Nat.lt_irrefl _ hab
@[simp] theorem share_len (ws : List W64) (n : Nat) : (shareL ws n).length = ws.length := by simp [shareL, outT]
theorem share_at {ws : List W64} {n i : Nat} (hl : ws.length ≤ 40) (hi : i < ws.length) : (shareL ws n).getD i 0 = (qN ws n i : Int) + if rank ws n i < leftN ws n then 1 else 0 := by
  rw [shareL, bump_count _ _ (by simpa [outT] using hi), out_get hi, if_pos hi]
  congr 1
  have hd := wN_nodup (ws := ws) (n := n) (k := leftN ws n) hl
  have he := mem_rank (n := n) (k := leftN ws n) hl hi
  show (((wN ws n (leftN ws n)).count i : Nat) : Int) = _
  by_cases h : rank ws n i < leftN ws n
  · rw [if_pos h, count_one hd (he.2 h)]; rfl
  · rw [if_neg h, List.count_eq_zero_of_not_mem fun hh => h (he.1 hh)]; rfl
/-! ### What is left is less than those who have a rest -/
theorem rest_count : ∀ (l : List Nat) (f : Nat → Nat) (T : Nat), (∀ x ∈ l, f x ≤ T) → (l.map f).sum ≤ l.countP (fun x => decide (0 < f x)) * T
  | [], _, _, _ => by simp
  | x :: l, f, T, h => by
    have ih := rest_count l f T fun y hy => h y (.tail _ hy)
    have hx := h x (.head _)
    rw [List.map_cons, List.sum_cons, List.countP_cons, Nat.add_mul]
    by_cases h0 : 0 < f x
    · rw [if_pos (by simpa using h0)]; omega
    · rw [if_neg (by simpa using h0)]; omega
theorem qr {ws : List W64} {n i : Nat} (hT : 0 < totN ws) : totN ws * qN ws n i + rN ws n i = n * (ws.getD i 0).toNat := by
  rw [qN, rN, remF, if_neg (by omega)]
  exact Nat.div_add_mod _ _
theorem r_lt {ws : List W64} {n i : Nat} (hT : 0 < totN ws) : rN ws n i < totN ws := by
  rw [rN, remF, if_neg (by omega)]
  exact Nat.mod_lt _ hT
theorem sum_mulL (T : Nat) (f : Nat → Nat) : ∀ l : List Nat, (l.map fun i => T * f i).sum = T * (l.map f).sum
  | [] => rfl
  | x :: l => by rw [List.map_cons, List.sum_cons, List.map_cons, List.sum_cons, sum_mulL T f l, Nat.mul_add]
theorem sum_addL (f g : Nat → Nat) : ∀ l : List Nat, (l.map fun i => f i + g i).sum = (l.map f).sum + (l.map g).sum
  | [] => rfl
  | x :: l => by
    have := sum_addL f g l
    simp only [List.map_cons, List.sum_cons] at this ⊢
    omega
theorem sum_ws (ws : List W64) : ((List.range ws.length).map fun i => (ws.getD i 0).toNat).sum = (ws.map BitVec.toNat).sum := by
  congr 1
  apply List.ext_getElem (by simp)
  intro i h1 h2
  have hi : i < ws.length := by simpa using h2
  simp [hi]
theorem sum_rest {ws : List W64} {n : Nat} (hl : ws.length ≤ 40) (hT : 0 < totN ws) : ((List.range ws.length).map (rN ws n)).sum = totN ws * leftN ws n := by
  have h1 : ((List.range ws.length).map fun i => totN ws * qN ws n i + rN ws n i).sum = ((List.range ws.length).map fun i => n * (ws.getD i 0).toNat).sum := by
    congr 1
    exact List.map_congr_left fun i _ => qr hT
  rw [sum_addL, sum_mulL, sum_mulL n, sum_ws, ← tot_sum (by omega)] at h1
  have h2 := (sumQ_le (ws := ws) (n := n) hl (.inr hT)).1
  have h3 : totN ws * (n - sumQ ws n ws.length) + totN ws * sumQ ws n ws.length = n * totN ws := by
    rw [← Nat.mul_add, Nat.sub_add_cancel h2, Nat.mul_comm]
  unfold leftN
  unfold sumQ at h3 ⊢
  omega
theorem countP_le {p q : Nat → Bool} : ∀ {l : List Nat}, (∀ x ∈ l, p x = true → q x = true) → l.countP p ≤ l.countP q
  | [], _ => by simp
  | x :: l, h => by
    have ih := countP_le (l := l) fun y hy => h y (.tail _ hy)
    have hx := h x (.head _)
    rw [List.countP_cons, List.countP_cons]
    by_cases hp : p x = true
    · rw [if_pos hp, if_pos (hx hp)]; omega
    · rw [if_neg hp]; omega
theorem left_rank {ws : List W64} {n i : Nat} (hl : ws.length ≤ 40) (hT : 0 < totN ws) (hi : i < ws.length) (h0 : rN ws n i = 0) : ¬ rank ws n i < leftN ws n := by
  have h1 := rest_count (List.range ws.length) (rN ws n) (totN ws) fun x _ => Nat.le_of_lt (r_lt hT)
  rw [sum_rest hl hT, Nat.mul_comm] at h1
  have h2 := Nat.le_of_mul_le_mul_right h1 hT
  have h3 : (List.range ws.length).countP (fun x => decide (0 < rN ws n x)) ≤ rank ws n i := countP_le fun j hj hp => by
    have hj := List.mem_range.1 hj
    have hp : 0 < rN ws n j := by simpa using hp
    rw [decide_eq_true_eq, key_at (by omega) (by omega)]
    omega
  omega
theorem share_none {ws : List W64} {n i : Nat} (hl : ws.length ≤ 40) (hT : 0 < totN ws) (hi : i < ws.length) (h0 : (ws.getD i 0).toNat = 0) : (shareL ws n).getD i 0 = 0 := by
  have h1 : rN ws n i = 0 := by rw [rN, h0, Nat.mul_zero, remF]; split <;> simp
  rw [share_at hl hi, if_neg (left_rank hl hT hi h1), qN, h0, Nat.mul_zero, Nat.zero_div]
  rfl
theorem share_mono {ws : List W64} {n a b : Nat} (hl : ws.length ≤ 40) (hT : 0 < totN ws) (hn : 0 < n) (ha : a < ws.length) (hb : b < ws.length) (h : (ws.getD a 0).toNat < (ws.getD b 0).toNat) : (shareL ws n).getD a 0 ≤ (shareL ws n).getD b 0 := by
  rw [share_at hl ha, share_at hl hb]
  have h1 : n * (ws.getD a 0).toNat < n * (ws.getD b 0).toNat := Nat.mul_lt_mul_of_pos_left h hn
  have h2 : qN ws n a ≤ qN ws n b := Nat.div_le_div_right (Nat.le_of_lt h1)
  rcases Nat.lt_or_eq_of_le h2 with h3 | h3
  · split <;> split <;> omega
  · have e1 := qr (n := n) (i := a) hT
    have e2 := qr (n := n) (i := b) hT
    rw [h3] at e1
    have h4 : rN ws n a < rN ws n b := by omega
    have h5 : rank ws n b ≤ rank ws n a := countP_le fun j hj hp => by
      have hj := List.mem_range.1 hj
      rw [decide_eq_true_eq, key_at (by omega) (by omega)] at hp ⊢
      omega
    rw [h3]
    split <;> split <;> omega
theorem share_step {ws : List W64} {n i : Nat} (hl : ws.length ≤ 40) (hi : i < ws.length) : (shareL ws n).getD i 0 = (qN ws n i : Int) ∨ (shareL ws n).getD i 0 = (qN ws n i : Int) + 1 := by
  rw [share_at hl hi]
  split <;> omega
theorem sum_set : ∀ (o : List Int) {i : Nat}, i < o.length → (o.set i (o.getD i 0 + 1)).sum = o.sum + 1
  | x :: o, 0, _ => by simp; omega
  | x :: o, i + 1, h => by
    have := sum_set o (i := i) (by simpa using h)
    simp only [List.set_cons_succ, List.sum_cons, List.getD_cons_succ]
    omega
theorem bump_sum (l : List Lk) : ∀ (o : List Int), (∀ x ∈ l, x.who.toNat < o.length) → (bump o l).sum = o.sum + l.length := by
  induction l with
  | nil => intro o _; simp [bump]
  | cons x l ih =>
    intro o h
    rw [show bump o (x :: l) = bump (o.set x.who.toNat (o.getD x.who.toNat 0 + 1)) l from rfl, ih _ (fun y hy => by simpa using h y (.tail _ hy)), sum_set o (h x (.head _)), List.length_cons]
    omega
theorem cast_sum (f : Nat → Nat) : ∀ l : List Nat, (l.map fun i => (f i : Int)).sum = (((l.map f).sum : Nat) : Int)
  | [] => rfl
  | x :: l => by rw [List.map_cons, List.sum_cons, cast_sum f l, List.map_cons, List.sum_cons]; omega
theorem share_sum {ws : List W64} {n : Nat} (hl : ws.length ≤ 40) (hT : 0 < totN ws) : sumC (shareL ws n) ws.length = n := by
  unfold sumC
  rw [List.take_of_length_le (by simp), shareL, bump_sum _ _ (fun x hx => by
    have := (lks_at (mem_sort.1 (List.mem_of_mem_take hx)) (by omega)).1
    simpa [outT] using this)]
  have h1 : outT ws n ws.length = (List.range ws.length).map fun i => (qN ws n i : Int) := List.map_congr_left fun i hi => by rw [if_pos (List.mem_range.1 hi)]
  have h2 := left_le (ws := ws) (n := n) hl (.inr hT)
  have h3 := (sumQ_le (ws := ws) (n := n) hl (.inr hT)).1
  rw [h1, cast_sum, List.length_take, sort_len]
  unfold leftN at *
  unfold sumQ at *
  omega
theorem share_pos {ws : List W64} {n x : Nat} (hl : ws.length ≤ 40) (hn : n ≤ 200) (hx : x ≤ ws.length) : 0 ≤ sumC (shareL ws n) x ∧ sumC (shareL ws n) x ≤ 201 * x := by
  induction x with
  | zero => rw [sumC_0]; omega
  | succ x ih =>
    have h1 := ih (by omega)
    have h2 := share_at (n := n) hl (show x < ws.length by omega)
    have h3 := qN_le (n := n) hl (show x < ws.length by omega)
    rw [sumC_succ (by simp; omega), h2]
    split <;> omega
theorem part_q {ws : List W64} {n i : Nat} (hl : ws.length ≤ 40) (hn : n ≤ 200) (hT : 0 < totN ws) (hi : i < ws.length) : partF (BitVec.ofNat 64 n) (ws.getD i 0) (totN ws) = BitVec.ofNat 64 (qN ws n i) := by
  have h1 := qN_le (n := n) hl hi
  have h2 : (BitVec.ofNat 64 n).toNat = n := by rw [BitVec.toNat_ofNat]; omega
  unfold partF
  rw [h2, if_neg (by omega), show n * (ws.getD i 0).toNat / totN ws = qN ws n i from rfl, if_pos (by omega)]
/-! ### Twice all, and one who has none -/
theorem shareL_ext {us ws : List W64} {n : Nat} (hl : ws.length ≤ 40) (he : us.length = ws.length) (h : ∀ i, i < ws.length → qN us n i = qN ws n i ∧ (rank us n i < leftN us n ↔ rank ws n i < leftN ws n)) : shareL us n = shareL ws n := by
  apply eqI_all (by simp [he])
  intro i hi
  have hi : i < ws.length := by simpa [he] using hi
  obtain ⟨h1, h2⟩ := h i hi
  rw [share_at (by omega) (by omega), share_at hl hi, h1]
  congr 1
  by_cases h3 : rank ws n i < leftN ws n
  · rw [if_pos h3, if_pos (h2.2 h3)]
  · rw [if_neg h3, if_neg fun h => h3 (h2.1 h)]
theorem sumQ_congr {us ws : List W64} {n : Nat} : ∀ {m : Nat}, (∀ i, i < m → qN us n i = qN ws n i) → sumQ us n m = sumQ ws n m
  | 0, _ => rfl
  | m + 1, h => by rw [sumQ_succ, sumQ_succ, sumQ_congr fun i hi => h i (by omega), h m (by omega)]
theorem countP_eq {p q : Nat → Bool} {l : List Nat} (h : ∀ x ∈ l, p x = q x) : l.countP p = l.countP q :=
  Nat.le_antisymm (countP_le fun x hx hp => by rw [← h x hx]; exact hp) (countP_le fun x hx hp => by rw [h x hx]; exact hp)
def dblL (ws : List W64) (x : Nat) : List W64 := (ws.take x).map fun w => 2 * w
theorem dbl_len {ws : List W64} {x : Nat} (h : x ≤ ws.length) : (dblL ws x).length = x := by simp [dblL, Nat.min_eq_left h]
theorem dbl_succ {ws : List W64} {x : Nat} (h : x < ws.length) : dblL ws (x + 1) = dblL ws x ++ [2 * ws.getD x 0] := by
  rw [dblL, List.take_add_one, List.getElem?_eq_getElem h, Option.toList_some, List.map_append, List.getD_eq_getElem?_getD, List.getElem?_eq_getElem h]
  rfl
theorem dbl_at {ws : List W64} {i : Nat} (h : ∀ j, j < ws.length → (ws.getD j 0).toNat < 9223372036854775808) (hi : i < ws.length) : ((dblL ws ws.length).getD i 0).toNat = 2 * (ws.getD i 0).toNat := by
  have := h i hi
  have e : (dblL ws ws.length).getD i 0 = 2 * ws.getD i 0 := by
    simp [dblL, hi]
  rw [e, BitVec.toNat_mul]
  simp only [BitVec.reduceToNat]
  omega
theorem dbl_tot {ws : List W64} (hl : ws.length ≤ 40) (h : ∀ j, j < ws.length → (ws.getD j 0).toNat < 9223372036854775808) : totN (dblL ws ws.length) = 2 * totN ws := by
  have hd := dbl_len (Nat.le_refl ws.length)
  rw [tot_sum (by omega), tot_sum (by omega), ← sum_ws, ← sum_ws, hd, ← sum_mulL]
  congr 1
  exact List.map_congr_left fun i hi => dbl_at h (List.mem_range.1 hi)
theorem dbl_q {ws : List W64} {n i : Nat} (hl : ws.length ≤ 40) (h : ∀ j, j < ws.length → (ws.getD j 0).toNat < 9223372036854775808) (hi : i < ws.length) : qN (dblL ws ws.length) n i = qN ws n i := by
  rw [qN, qN, dbl_tot hl h, dbl_at h hi, show n * (2 * (ws.getD i 0).toNat) = 2 * (n * (ws.getD i 0).toNat) by rw [Nat.mul_left_comm]]
  exact Nat.mul_div_mul_left _ _ (by decide)
theorem dbl_r {ws : List W64} {n i : Nat} (hl : ws.length ≤ 40) (h : ∀ j, j < ws.length → (ws.getD j 0).toNat < 9223372036854775808) (hi : i < ws.length) : rN (dblL ws ws.length) n i = 2 * rN ws n i := by
  rw [rN, rN, dbl_tot hl h, dbl_at h hi, show n * (2 * (ws.getD i 0).toNat) = 2 * (n * (ws.getD i 0).toNat) by rw [Nat.mul_left_comm], remF, remF]
  by_cases h0 : totN ws = 0
  · rw [if_pos (by omega), if_pos h0]
  · rw [if_neg (by omega), if_neg h0, Nat.mul_mod_mul_left]
theorem dbl_share {ws : List W64} {n : Nat} (hl : ws.length ≤ 40) (h : ∀ j, j < ws.length → (ws.getD j 0).toNat < 9223372036854775808) : shareL (dblL ws ws.length) n = shareL ws n := by
  have hd := dbl_len (Nat.le_refl ws.length)
  have hL : leftN (dblL ws ws.length) n = leftN ws n := by rw [leftN, leftN, hd, sumQ_congr fun i hi => dbl_q hl h hi]
  refine shareL_ext hl hd fun i hi => ⟨dbl_q hl h hi, ?_⟩
  rw [hL]
  have : rank (dblL ws ws.length) n i = rank ws n i := by
    unfold rank
    rw [hd]
    refine countP_eq fun j hj => decide_eq_decide.2 ?_
    have hj := List.mem_range.1 hj
    rw [key_at (by omega) (by omega), key_at (by omega) (by omega), dbl_r hl h hi, dbl_r hl h hj]
    omega
  rw [this]
theorem dbl_E {ws : List W64} {n : Int} (hl : ws.length ≤ 40) (h : ∀ j, j < ws.length → (ws.getD j 0).toNat < 9223372036854775808) : shareE (dblL ws ws.length) n = shareE ws n := by
  have hd := dbl_len (Nat.le_refl ws.length)
  unfold shareE
  rw [hd, dbl_tot hl h]
  congr 1
  by_cases h0 : n > 0 ∧ totN ws = 0
  · rw [if_pos h0, if_pos ⟨h0.1, by omega⟩]
  · rw [if_neg h0, if_neg fun hh => h0 ⟨hh.1, by omega⟩]
theorem app_at {ws : List W64} {i : Nat} (hi : i < ws.length) : (ws ++ [0]).getD i 0 = ws.getD i 0 := by
  simp only [List.getD_eq_getElem?_getD]
  rw [List.getElem?_append_left hi]
theorem app_at' (ws : List W64) : (ws ++ [0]).getD ws.length 0 = (0 : W64) := by simp
theorem app_tot {ws : List W64} (hl : ws.length ≤ 39) : totN (ws ++ [0]) = totN ws := by
  rw [tot_sum (by simp; omega), tot_sum (by omega)]
  simp
theorem app_q {ws : List W64} {n i : Nat} (hl : ws.length ≤ 39) (hi : i < ws.length) : qN (ws ++ [0]) n i = qN ws n i := by rw [qN, qN, app_tot hl, app_at hi]
theorem app_r {ws : List W64} {n i : Nat} (hl : ws.length ≤ 39) (hi : i < ws.length) : rN (ws ++ [0]) n i = rN ws n i := by rw [rN, rN, app_tot hl, app_at hi]
theorem app_q' (ws : List W64) (n : Nat) : qN (ws ++ [0]) n ws.length = 0 := by rw [qN, app_at']; simp
theorem app_r' (ws : List W64) (n : Nat) : rN (ws ++ [0]) n ws.length = 0 := by rw [rN, app_at', remF]; simp
theorem app_E {ws : List W64} {n : Int} (hl : ws.length ≤ 39) : shareE (ws ++ [0]) n = shareE ws n := by
  unfold shareE
  rw [app_tot hl]
  simp only [List.length_append, List.length_cons, List.length_nil]
  have e1 : ¬ ws.length + (0 + 1) > 40 := by omega
  have e2 : ¬ ws.length > 40 := by omega
  simp only [e1, e2]
theorem app_share {ws : List W64} {n : Nat} (hl : ws.length ≤ 39) (hT : n = 0 ∨ 0 < totN ws) : shareL (ws ++ [0]) n = shareL ws n ++ [0] := by
  have hlen : (ws ++ [0]).length = ws.length + 1 := by simp
  have hS : sumQ (ws ++ [0]) n (ws.length + 1) = sumQ ws n ws.length := by rw [sumQ_succ, app_q', sumQ_congr fun i hi => app_q hl hi, Nat.add_zero]
  have hL : leftN (ws ++ [0]) n = leftN ws n := by rw [leftN, leftN, hlen, hS]
  apply eqI_all (by simp)
  intro i hi
  have hi : i < ws.length + 1 := by simpa using hi
  rw [share_at (by omega) (by omega), hL]
  rcases Nat.lt_succ_iff_lt_or_eq.1 hi with h1 | rfl
  · have hr : rank (ws ++ [0]) n i = rank ws n i := by
      unfold rank
      rw [hlen, List.range_succ, List.countP_append]
      have h2 : List.countP (fun j => decide (key (lkAt (ws ++ [0]) n j) < key (lkAt (ws ++ [0]) n i))) [ws.length] = 0 := by
        rw [List.countP_eq_zero]
        intro j hj
        obtain rfl := List.mem_singleton.1 hj
        rw [decide_eq_true_eq, key_at (by omega) (by omega), app_r', app_r hl h1]
        omega
      rw [h2, Nat.add_zero]
      refine countP_eq fun j hj => decide_eq_decide.2 ?_
      have hj := List.mem_range.1 hj
      rw [key_at (by omega) (by omega), key_at (by omega) (by omega), app_r hl h1, app_r hl hj]
    have e : (shareL ws n ++ [0]).getD i 0 = (shareL ws n).getD i 0 := by
      simp only [List.getD_eq_getElem?_getD]
      rw [List.getElem?_append_left (by simpa using h1)]
    rw [e, share_at (by omega) h1, hr, app_q hl h1]
  · have hr : ws.length ≤ rank (ws ++ [0]) n ws.length := by
      unfold rank
      rw [hlen, List.range_succ, List.countP_append]
      have h2 : List.countP (fun j => decide (key (lkAt (ws ++ [0]) n j) < key (lkAt (ws ++ [0]) n ws.length))) (List.range ws.length) = (List.range ws.length).length := by
        rw [List.countP_eq_length]
        intro j hj
        have hj := List.mem_range.1 hj
        rw [decide_eq_true_eq, key_at (by omega) (by omega), app_r']
        omega
      rw [h2, List.length_range]
      omega
    have hle := left_le (ws := ws) (n := n) (by omega) hT
    have e : (shareL ws n ++ [0]).getD ws.length (0 : Int) = 0 := by
      rw [List.getD_eq_getElem?_getD, List.getElem?_append_right (by simp)]
      simp
    rw [if_neg (by omega), app_q', e]
    rfl
/-! ### The document's way: the best one that is left, each time -/
def qL (ws : List W64) (n x : Nat) : List Int := (List.range x).map fun i => (qN ws n i : Int)
@[simp] theorem qL_len (ws : List W64) (n x : Nat) : (qL ws n x).length = x := by simp [qL]
theorem qL_succ (ws : List W64) (n x : Nat) : qL ws n (x + 1) = qL ws n x ++ [(qN ws n x : Int)] := by simp [qL, List.range_succ]
theorem qL_all (ws : List W64) (n : Nat) : qL ws n ws.length = outT ws n ws.length := List.map_congr_left fun i hi => by rw [if_pos (List.mem_range.1 hi)]
def rC (ws : List W64) (n x : Nat) : List Value := (List.range x).flatMap fun i => (wd (rN ws n i)).map u64
theorem rC_succ (ws : List W64) (n x : Nat) : rC ws n (x + 1) = rC ws n x ++ (wd (rN ws n x)).map u64 := by simp [rC, List.range_succ]
@[simp] theorem rC_len (ws : List W64) (n x : Nat) : (rC ws n x).length = x * 4 := by
  induction x with
  | zero => rfl
  | succ x ih => rw [rC_succ, List.length_append, ih, List.length_map, wd_len']; omega
theorem rC_piece (ws : List W64) (n : Nat) {x i : Nat} (h : i < x) : ((rC ws n x).drop (i * 4)).take 4 = (wd (rN ws n i)).map u64 := by
  induction x with
  | zero => omega
  | succ x ih =>
    rw [rC_succ]
    rcases Nat.lt_succ_iff_lt_or_eq.1 h with h1 | rfl
    · rw [List.drop_append_of_le_length (by simp; omega), List.take_append_of_le_length (by simp; omega)]
      exact ih h1
    · rw [show i * 4 = (rC ws n i).length by simp, List.drop_left, List.take_of_length_le (by simp)]
def bsL (ws : List W64) (n k : Nat) : List Value := (List.range ws.length).map fun i => .bool (decide (i ∈ wN ws n k))
@[simp] theorem bsL_len (ws : List W64) (n k : Nat) : (bsL ws n k).length = ws.length := by simp [bsL]
theorem bsL_0 (ws : List W64) (n : Nat) : bsL ws n 0 = List.replicate ws.length (.bool false) := by
  rw [List.eq_replicate_iff]
  refine ⟨by simp, fun b hb => ?_⟩
  obtain ⟨i, _, rfl⟩ := List.mem_map.1 hb
  simp [wN]
theorem bsL_get (ws : List W64) (n k : Nat) {j : Nat} (h : j < ws.length) : (bsL ws n k)[j]? = some (.bool (decide (j ∈ wN ws n k))) := by
  rw [List.getElem?_eq_getElem (by simpa using h)]
  simp [bsL]
theorem wN_succ {ws : List W64} {n k : Nat} (h : k < (sortT ws n).length) : wN ws n (k + 1) = wN ws n k ++ [((sortT ws n).getD k lkD).who.toNat] := by
  rw [wN, List.take_add_one, List.getElem?_eq_getElem h, Option.toList_some, List.map_append, List.getD_eq_getElem?_getD, List.getElem?_eq_getElem h]
  rfl
theorem bsL_set {ws : List W64} {n k : Nat} (h : k < (sortT ws n).length) : (bsL ws n k).set ((sortT ws n).getD k lkD).who.toNat (.bool true) = bsL ws n (k + 1) := by
  apply List.ext_getElem (by simp)
  intro j h1 h2
  rw [List.getElem_set]
  simp only [bsL, List.getElem_map, List.getElem_range, wN_succ h, List.mem_append, List.mem_singleton]
  by_cases he : ((sortT ws n).getD k lkD).who.toNat = j
  · rw [if_pos he]; exact (congrArg Value.bool (decide_eq_true (.inr he.symm))).symm
  · rw [if_neg he]; exact congrArg Value.bool (decide_eq_decide.2 ⟨.inl, fun h => h.resolve_right fun e => he e.symm⟩)
def bestF (ws : List W64) (n k : Nat) : Nat → Int
  | 0 => -1
  | j + 1 => if j ∈ wN ws n k then bestF ws n k j else if bestF ws n k j < 0 then j else if cmpN (rN ws n j) (rN ws n (bestF ws n k j).toNat) > 0 then j else bestF ws n k j
theorem best_at (ws : List W64) (n k : Nat) : ∀ j, bestF ws n k j = -1 ∨ ∃ b : Nat, bestF ws n k j = b ∧ b < j
  | 0 => .inl rfl
  | j + 1 => by
    rw [bestF]
    have ih := best_at ws n k j
    split
    · rcases ih with h | ⟨b, h1, h2⟩
      · exact .inl h
      · exact .inr ⟨b, h1, by omega⟩
    · split
      · exact .inr ⟨j, rfl, by omega⟩
      · split
        · exact .inr ⟨j, rfl, by omega⟩
        · rcases ih with h | ⟨b, h1, h2⟩
          · exact .inl h
          · exact .inr ⟨b, h1, by omega⟩
theorem best_skip {ws : List W64} {n k j : Nat} (h : j ∈ wN ws n k) : bestF ws n k (j + 1) = bestF ws n k j := by rw [bestF, if_pos h]
theorem best_first {ws : List W64} {n k j : Nat} (h : j ∉ wN ws n k) (h1 : bestF ws n k j < 0) : bestF ws n k (j + 1) = j := by rw [bestF, if_neg h, if_pos h1]
theorem best_new {ws : List W64} {n k j b : Nat} (h : j ∉ wN ws n k) (h1 : bestF ws n k j = (b : Int)) (h2 : cmpN (rN ws n j) (rN ws n b) > 0) : bestF ws n k (j + 1) = j := by
  rw [bestF, if_neg h, if_neg (by omega), h1, Int.toNat_natCast, if_pos h2]
theorem best_old {ws : List W64} {n k j b : Nat} (h : j ∉ wN ws n k) (h1 : bestF ws n k j = (b : Int)) (h2 : ¬ cmpN (rN ws n j) (rN ws n b) > 0) : bestF ws n k (j + 1) = bestF ws n k j := by
  rw [bestF, if_neg h, if_neg (by omega), if_neg (by rwa [h1, Int.toNat_natCast])]
theorem best_is {ws : List W64} {n k : Nat} (hl : ws.length ≤ 40) : ∀ {j : Nat}, j ≤ ws.length → (bestF ws n k j = -1 ∧ ∀ i, i < j → i ∈ wN ws n k) ∨ ∃ b : Nat, bestF ws n k j = b ∧ b < j ∧ b ∉ wN ws n k ∧ ∀ i, i < j → i ∉ wN ws n k → key (lkAt ws n b) ≤ key (lkAt ws n i)
  | 0, _ => .inl ⟨rfl, fun i hi => absurd hi (by omega)⟩
  | j + 1, hj => by
    have ih := best_is (n := n) (k := k) hl (j := j) (by omega)
    by_cases h : j ∈ wN ws n k
    · rw [best_skip h]
      rcases ih with ⟨h1, h2⟩ | ⟨b, h1, h2, h3, h4⟩
      · refine .inl ⟨h1, fun i hi => ?_⟩
        rcases Nat.lt_succ_iff_lt_or_eq.1 hi with h5 | rfl
        · exact h2 i h5
        · exact h
      · refine .inr ⟨b, h1, by omega, h3, fun i hi hn => ?_⟩
        rcases Nat.lt_succ_iff_lt_or_eq.1 hi with h5 | rfl
        · exact h4 i h5 hn
        · exact absurd h hn
    · rcases ih with ⟨h1, h2⟩ | ⟨b, h1, h2, h3, h4⟩
      · rw [best_first h (by omega)]
        refine .inr ⟨j, rfl, by omega, h, fun i hi hn => ?_⟩
        rcases Nat.lt_succ_iff_lt_or_eq.1 hi with h5 | rfl
        · exact absurd (h2 i h5) hn
        · exact Nat.le_refl _
      · by_cases h5 : cmpN (rN ws n j) (rN ws n b) > 0
        · rw [best_new h h1 h5]
          have h6 : key (lkAt ws n j) < key (lkAt ws n b) := key_gt (by rw [rest_at, rest_at]; exact h5)
          refine .inr ⟨j, rfl, by omega, h, fun i hi hn => ?_⟩
          rcases Nat.lt_succ_iff_lt_or_eq.1 hi with h7 | rfl
          · exact Nat.le_trans (Nat.le_of_lt h6) (h4 i h7 hn)
          · exact Nat.le_refl _
        · rw [best_old h h1 h5]
          refine .inr ⟨b, h1, by omega, h3, fun i hi hn => ?_⟩
          rcases Nat.lt_succ_iff_lt_or_eq.1 hi with h7 | rfl
          · exact h4 i h7 hn
          · refine Nat.le_of_lt ((key_at (by omega) (by omega)).2 ?_)
            unfold cmpN at h5
            split at h5
            · omega
            · split at h5
              · omega
              · omega
theorem best_all {ws : List W64} {n k : Nat} (hl : ws.length ≤ 40) (hk : k < (sortT ws n).length) : bestF ws n k ws.length = (((sortT ws n).getD k lkD).who.toNat : Int) := by
  have hS := sort_strict (ws := ws) n hl
  have hx : (sortT ws n).getD k lkD ∈ sortT ws n := by rw [List.getD_eq_getElem?_getD, List.getElem?_eq_getElem hk]; exact List.getElem_mem hk
  obtain ⟨h1, h2⟩ := lks_at (mem_sort.1 hx) (by omega)
  have hnew : ((sortT ws n).getD k lkD).who.toNat ∉ wN ws n k := by
    rw [wN_mem hl h1, h2]
    intro hm
    obtain ⟨p, hp, he⟩ := List.getElem_of_mem hm
    rw [List.length_take] at hp
    rw [List.getElem_take] at he
    have := List.pairwise_iff_getElem.1 hS p k (by omega) hk (by omega)
    rw [he, List.getD_eq_getElem?_getD, List.getElem?_eq_getElem hk] at this
    exact Nat.lt_irrefl _ this
  rcases best_is (n := n) (k := k) hl (Nat.le_refl ws.length) with ⟨_, h3⟩ | ⟨b, e, h3, h4, h5⟩
  · exact absurd (h3 _ h1) hnew
  · rw [e]
    have h6 := h5 _ h1 hnew
    rw [h2] at h6
    have h7 : lkAt ws n b ∈ (sortT ws n).drop k := by
      have hm := at_mem (n := n) h3
      rw [← List.take_append_drop k (sortT ws n), List.mem_append] at hm
      exact hm.resolve_left fun hh => h4 ((wN_mem hl h3).2 hh)
    have hd : (sortT ws n).drop k = (sortT ws n).getD k lkD :: (sortT ws n).drop (k + 1) := by
      rw [List.drop_eq_getElem_cons hk, List.getD_eq_getElem?_getD, List.getElem?_eq_getElem hk]; rfl
    rw [hd] at h7
    have h8 := hS.drop (i := k)
    rw [hd] at h8
    have h9 : key ((sortT ws n).getD k lkD) ≤ key (lkAt ws n b) := by
      rcases List.mem_cons.1 h7 with h | h
      · rw [h]; exact Nat.le_refl _
      · exact Nat.le_of_lt ((List.pairwise_cons.1 h8).1 _ h)
    rw [← key_inj (Nat.le_antisymm h6 h9), who_at (by omega)]
end Go.Proofs.Ytfcodaigdigjmaa
