/- What is due, in a heap: the plain side. No program in sight. -/
import Derived.Test.YtmefjbmaghjpfaaH1
namespace Go.Proofs.Ytmefjbmaghjpfaa
open Go.RowKit
abbrev W64 := BitVec 64
structure It where
  due : W64
  id : Int
deriving DecidableEq
def itD : It := ⟨0, 0⟩
def It.cells (x : It) : List Value := [u64 x.due, it x.id]
def itC (l : List It) : List Value := l.flatMap It.cells
@[simp] theorem itC_len (l : List It) : (itC l).length = l.length * 2 := by
  induction l with
  | nil => rfl
  | cons x l ih => simp only [itC, List.flatMap_cons, List.length_append, List.length_cons, It.cells, List.length_nil] at ih ⊢; omega
theorem itC_append (l m : List It) : itC (l ++ m) = itC l ++ itC m := List.flatMap_append
theorem itC_one (x : It) : itC [x] = x.cells := by simp [itC]
theorem it_piece : ∀ {l : List It} {k : Nat}, k < l.length → ((itC l).drop (k * 2)).take 2 = (l.getD k itD).cells
  | [], _, h => by simp at h
  | x :: l, 0, _ => by rw [Nat.zero_mul, List.drop_zero]; exact List.take_left' rfl
  | x :: l, k + 1, h => by
    have := it_piece (l := l) (k := k) (by simpa using h)
    rw [show (k + 1) * 2 = 2 + k * 2 by omega, ← List.drop_drop]
    exact this
theorem it_at {l : List It} {k m : Nat} (h : k < l.length) (hm : m < 2) : (itC l)[k * 2 + m]? = (l.getD k itD).cells[m]? := by
  rw [← it_piece h, List.getElem?_take_of_lt hm, List.getElem?_drop]
theorem it_due {l : List It} {k : Nat} (h : k < l.length) : (itC l)[k * 2 + 0]? = some (u64 (l.getD k itD).due) := by rw [it_at h (by decide)]; rfl
theorem it_id {l : List It} {k : Nat} (h : k < l.length) : (itC l)[k * 2 + 1]? = some (it (l.getD k itD).id) := by rw [it_at h (by decide)]; rfl
theorem it_ones (l : List It) : ∀ a ∈ itC l, a.oneCell' = true := by
  intro a ha
  obtain ⟨x, _, hx⟩ := List.mem_flatMap.1 ha
  simp only [It.cells, List.mem_cons, List.not_mem_nil, or_false] at hx
  rcases hx with rfl | rfl <;> rfl
theorem it_one1 (x : It) : ∀ a ∈ x.cells, a.oneCell' = true := by
  intro a ha
  exact it_ones [x] a (by rw [itC_one]; exact ha)
structure En where
  due : W64
  id : Int
  ord : W64
def enD : En := ⟨0, 0, 0⟩
def En.item (x : En) : It := ⟨x.due, x.id⟩
def En.cells (x : En) : List Value := [u64 x.due, it x.id, u64 x.ord]
theorem En.cells_len (x : En) : x.cells.length = 3 := rfl
def enC (l : List En) : List Value := l.flatMap En.cells
@[simp] theorem enC_len (l : List En) : (enC l).length = l.length * 3 := by
  induction l with
  | nil => rfl
  | cons x l ih => simp only [enC, List.flatMap_cons, List.length_append, List.length_cons, En.cells_len] at ih ⊢; omega
theorem enC_append (l m : List En) : enC (l ++ m) = enC l ++ enC m := List.flatMap_append
theorem enC_one (x : En) : enC [x] = x.cells := by simp [enC]
theorem en_piece : ∀ {l : List En} {k : Nat}, k < l.length → ((enC l).drop (k * 3)).take 3 = (l.getD k enD).cells
  | [], _, h => by simp at h
  | x :: l, 0, _ => by rw [Nat.zero_mul, List.drop_zero]; exact List.take_left' rfl
  | x :: l, k + 1, h => by
    have := en_piece (l := l) (k := k) (by simpa using h)
    rw [show (k + 1) * 3 = 3 + k * 3 by omega, ← List.drop_drop]
    exact this
theorem en_at {l : List En} {k m : Nat} (h : k < l.length) (hm : m < 3) : (enC l)[k * 3 + m]? = (l.getD k enD).cells[m]? := by
  rw [← en_piece h, List.getElem?_take_of_lt hm, List.getElem?_drop]
theorem en_due {l : List En} {k : Nat} (h : k < l.length) : (enC l)[k * 3 + 0]? = some (u64 (l.getD k enD).due) := by rw [en_at h (by decide)]; rfl
theorem en_take (l : List En) (k : Nat) : (enC l).take (k * 3) = enC (l.take k) := by
  induction l generalizing k with
  | nil => simp [enC]
  | cons x l ih =>
    cases k with
    | zero => simp [enC]
    | succ k =>
      have := ih k
      simp only [enC, List.flatMap_cons, List.take_succ_cons] at this ⊢
      rw [show (k + 1) * 3 = x.cells.length + k * 3 by rw [En.cells_len]; omega, List.take_append, List.take_of_length_le (by omega), Nat.add_sub_cancel_left, this]
theorem en_splice : ∀ {l : List En} {k : Nat} (_ : k < l.length) (x : En), splice (enC l) (k * 3) x.cells = enC (l.set k x)
  | y :: l, 0, _, x => by
    simp only [splice, enC, List.flatMap_cons, List.set_cons_zero, Nat.zero_mul, List.take_zero, List.nil_append, Nat.zero_add]
    rw [show x.cells.length = y.cells.length from rfl, List.drop_left]
  | y :: l, k + 1, h, x => by
    have := en_splice (l := l) (k := k) (by simpa using h) x
    simp only [splice, enC, List.flatMap_cons, List.set_cons_succ] at this ⊢
    rw [show (k + 1) * 3 = y.cells.length + k * 3 by rw [En.cells_len]; omega, List.take_append, Nat.add_assoc, List.drop_append]
    simp only [Nat.add_sub_cancel_left]
    rw [List.take_of_length_le (by omega), List.drop_of_length_le (by omega), List.nil_append, ← this]
    simp
theorem en_one (l : List En) : ∀ a ∈ enC l, a.oneCell' = true := by
  intro a ha
  obtain ⟨x, _, hx⟩ := List.mem_flatMap.1 ha
  simp only [En.cells, List.mem_cons, List.not_mem_nil, or_false] at hx
  rcases hx with rfl | rfl | rfl <;> rfl
theorem en_one1 (x : En) : ∀ a ∈ x.cells, a.oneCell' = true := by
  intro a ha
  exact en_one [x] a (by rw [enC_one]; exact ha)
/-- The less, the sooner. -/
def key (x : En) : Nat := x.due.toNat * 18446744073709551616 + x.ord.toNat
def K (l : List En) : Nat → Nat := fun k => key (l.getD k enD)
theorem key_lt (a b : En) : key a < key b ↔ a.due.toNat < b.due.toNat ∨ (a.due.toNat = b.due.toNat ∧ a.ord.toNat < b.ord.toNat) := by
  unfold key
  have h3 := a.ord.isLt; have h4 := b.ord.isLt
  omega
theorem key_ord {a b : En} (h : a.due = b.due) : a.ord.toNat < b.ord.toNat ↔ key a < key b := by rw [key_lt, h]; omega
theorem key_no {a b : En} (h1 : ¬ a.due.toNat < b.due.toNat) (h2 : ¬ a.due = b.due) : ¬ key a < key b := by
  rw [key_lt]
  rintro (h | ⟨h, _⟩)
  · exact h1 h
  · exact h2 (BitVec.eq_of_toNat_eq h)
theorem swp_K {l : List En} {i j : Nat} (hi : i < l.length) (hj : j < l.length) : K (swp enD l i j) = swF (K l) i j := by
  funext k
  by_cases hk : k < l.length
  · exact swp_key (key := key) hi hj hk
  · unfold K swF
    rw [if_neg (by omega), if_neg (by omega), List.getD_eq_getElem?_getD, List.getElem?_eq_none (by simp; omega)]
    dsimp only
    rw [List.getD_eq_getElem?_getD, List.getElem?_eq_none (by omega)]
theorem push_inv {l : List En} {x : En} (h : heapTo (K l) l.length) : upInv (K (l ++ [x])) (l ++ [x]).length l.length := by
  have e : ∀ k, k < l.length → K (l ++ [x]) k = K l k := fun k hk => by
    unfold K
    rw [List.getD_eq_getElem?_getD, List.getElem?_append_left hk, List.getD_eq_getElem?_getD]
  have hl : (l ++ [x]).length = l.length + 1 := by simp
  refine ⟨fun k k0 kn ke => ?_, fun k k0 kn kp l0 => ?_⟩
  · rw [e _ (by omega), e _ (by omega)]
    exact h k k0 (by omega)
  · omega
/-! ### From some place on -/
def hpFrom (f : Nat → Nat) (n a : Nat) : Prop := ∀ k, 0 < k → k < n → a ≤ (k - 1) / 2 → f ((k - 1) / 2) ≤ f k
def dnInvA (f : Nat → Nat) (n a i : Nat) : Prop := (∀ k, 0 < k → k < n → a ≤ (k - 1) / 2 → (k - 1) / 2 ≠ i → f ((k - 1) / 2) ≤ f k) ∧ (∀ k, 0 < k → k < n → (k - 1) / 2 = i → 0 < i → a ≤ (i - 1) / 2 → f ((i - 1) / 2) ≤ f k)
theorem dn_stepA {f : Nat → Nat} {n a i j : Nat} (h : dnInvA f n a i) (ha : a ≤ i) (hj : j < n) (h0 : 0 < j) (hi : i = (j - 1) / 2) (hmin : ∀ k, 0 < k → k < n → (k - 1) / 2 = i → f j ≤ f k) (hlt : f j < f i) : dnInvA (swF f i j) n a j := by
  have hij : i ≠ j := by omega
  have fi : swF f i j i = f j := by simp [swF]
  have fj : swF f i j j = f i := by simp [swF, Ne.symm hij]
  have fo : ∀ k, k ≠ i → k ≠ j → swF f i j k = f k := fun k h1 h2 => by simp [swF, h1, h2]
  refine ⟨fun k k0 kn ka kp => ?_, fun k k0 kn kp j0 ja => ?_⟩
  · by_cases ekj : k = j
    · subst ekj
      rw [← hi, fi, fj]
      omega
    · by_cases eki : k = i
      · subst eki
        rw [fo _ (by omega) kp, fi]
        exact h.2 j h0 hj hi.symm k0 ka
      · rw [fo k eki ekj]
        by_cases e1 : (k - 1) / 2 = i
        · rw [e1, fi]
          exact hmin k k0 kn e1
        · rw [fo _ e1 kp]
          exact h.1 k k0 kn ka e1
  · rw [← hi, fi, fo k (by omega) (by omega)]
    have := h.1 k k0 kn (by omega) (by omega)
    rw [kp] at this
    exact this
theorem dn_doneA {f : Nat → Nat} {n a i : Nat} (h : dnInvA f n a i) (hm : ∀ k, 0 < k → k < n → (k - 1) / 2 = i → f i ≤ f k) : hpFrom f n a := fun k k0 kn ka => by
  by_cases e : (k - 1) / 2 = i
  · rw [e]; exact hm k k0 kn e
  · exact h.1 k k0 kn ka e
theorem hp_all {f : Nat → Nat} {n : Nat} (h : hpFrom f n 0) : heapTo f n := fun k k0 kn => h k k0 kn (Nat.zero_le _)
theorem hp_dn {f : Nat → Nat} {n a : Nat} (h : hpFrom f n (a + 1)) : dnInvA f n a a := ⟨fun k k0 kn ka kp => h k k0 kn (by omega), fun k k0 kn kp h0 h1 => by omega⟩
theorem hp_top (f : Nat → Nat) (n : Nat) : hpFrom f n (n / 2) := fun k k0 kn ka => by omega
theorem hpFrom_congr {f g : Nat → Nat} {n a : Nat} (h : hpFrom f n a) (e : ∀ k, k < n → g k = f k) : hpFrom g n a := fun k k0 kn ka => by rw [e _ (by omega), e k kn]; exact h k k0 kn ka
theorem pop_inv {l : List En} {n : Nat} (hn : l.length = n + 1) (h : heapTo (K l) l.length) : dnInvA (K (swp enD l 0 n)) n 0 0 := by
  rw [swp_K (by omega) (by omega)]
  have fo : ∀ k, k ≠ 0 → k ≠ n → swF (K l) 0 n k = K l k := fun k h1 h2 => by simp [swF, h1, h2]
  refine ⟨fun k k0 kn _ kp => ?_, fun k k0 kn kp l0 => by omega⟩
  rw [fo _ kp (by omega), fo _ (by omega) (by omega)]
  exact h k k0 (by omega)
theorem pop_split {z : List En} {n : Nat} (hn : z.length = n + 1) : z = z.take n ++ [z.getD n enD] := by
  have h := List.take_append_drop n z
  rw [List.drop_eq_getElem_cons (by omega), List.drop_of_length_le (by omega)] at h
  rw [List.getD_eq_getElem?_getD, List.getElem?_eq_getElem (by omega)]
  exact h.symm
theorem K_take {z : List En} {n k : Nat} (hk : k < n) : K (z.take n) k = K z k := by
  unfold K
  rw [List.getD_eq_getElem?_getD, List.getElem?_take_of_lt hk, List.getD_eq_getElem?_getD]
theorem pop_min {l z : List En} {n : Nat} (hl : l.length = n + 1) (hz : z.length = n + 1) (hp : z.Perm (swp enD l 0 n)) (hh : heapTo (K l) l.length) (hn : z.getD n enD = (swp enD l 0 n).getD n enD) :
    (z.getD n enD :: z.take n).Perm l ∧ ∀ y ∈ z.take n, key (z.getD n enD) ≤ key y := by
  have h0 : (swp enD l 0 n).getD n enD = l.getD 0 enD := by
    rw [swp_get (by omega) (by omega) (by omega)]
    split
    · rename_i e; subst e; rfl
    · rw [if_pos rfl]
  have hpl : (z.getD n enD :: z.take n).Perm l := by
    have h1 : (z.take n ++ [z.getD n enD]).Perm l := by rw [← pop_split hz]; exact hp.trans (swp_perm (by omega) (by omega))
    exact (List.perm_append_comm (l₁ := [z.getD n enD]) (l₂ := z.take n)).trans h1
  refine ⟨hpl, fun y hy => ?_⟩
  have hyl : y ∈ l := hpl.mem_iff.1 (.tail _ hy)
  obtain ⟨k, hk, rfl⟩ := List.getElem_of_mem hyl
  have hm := heap_min hh k hk
  unfold K at hm
  rw [hn, h0]
  have e : l[k] = l.getD k enD := by rw [List.getD_eq_getElem?_getD, List.getElem?_eq_getElem hk]; rfl
  rw [e]
  exact hm
theorem take_heap {z : List En} {n : Nat} (hz : z.length = n + 1) (h : heapTo (K z) n) : heapTo (K (z.take n)) (z.take n).length := by
  rw [List.length_take, hz, Nat.min_eq_left (by omega)]
  exact heapTo_congr h fun k hk => K_take hk
theorem par_div (j : Nat) : ((j : Int) - 1).tdiv 2 = (((j - 1) / 2 : Nat) : Int) := by
  cases j with
  | zero => rfl
  | succ j =>
    rw [show (((j + 1 : Nat) : Int) - 1) = (j : Int) by omega, Nat.add_sub_cancel]
    rfl
/-! ### What there is, in order -/
/-- A heap that holds these, in order. -/
def QR (hs : List En) (o : Nat) (L : List It) : Prop := ∃ ss : List En, hs.Perm ss ∧ ss.Pairwise (fun a b => key a < key b) ∧ ss.map En.item = L ∧ heapTo (K hs) hs.length ∧ ∀ x ∈ ss, x.ord.toNat < o
theorem QR.len {hs : List En} {o : Nat} {L : List It} (h : QR hs o L) : hs.length = L.length := by
  obtain ⟨ss, h1, _, h3, _⟩ := h
  rw [h1.length_eq, ← h3, List.length_map]
theorem QR.heap {hs : List En} {o : Nat} {L : List It} (h : QR hs o L) : heapTo (K hs) hs.length := by
  obtain ⟨ss, _, _, _, h4, _⟩ := h
  exact h4
theorem QR.nil : QR [] 0 [] := ⟨[], .refl _, .nil, rfl, fun k _ h => absurd h (Nat.not_lt_zero _), fun x hx => by cases hx⟩
def insI (x : It) (L : List It) : List It := L.takeWhile (fun y => decide (y.due.toNat ≤ x.due.toNat)) ++ x :: L.dropWhile (fun y => decide (y.due.toNat ≤ x.due.toNat))
theorem insI_len (x : It) (L : List It) : (insI x L).length = L.length + 1 := by
  have := congrArg List.length (List.takeWhile_append_dropWhile (p := fun y : It => decide (y.due.toNat ≤ x.due.toNat)) (l := L))
  simp only [insI, List.length_append, List.length_cons] at this ⊢
  omega
theorem ins_srtd {x : En} : ∀ {l : List En}, l.Pairwise (fun a b => key a < key b) → (∀ y ∈ l, y.ord.toNat < x.ord.toNat) →
    ∃ s : List En, s.Perm (l ++ [x]) ∧ s.Pairwise (fun a b => key a < key b) ∧ s.map En.item = insI x.item (l.map En.item)
  | [], _, _ => ⟨[x], .refl _, List.pairwise_singleton _ _, rfl⟩
  | y :: l, h, ho => by
    have hc := List.pairwise_cons.1 h
    have hy := ho y (.head _)
    by_cases hle : y.due.toNat ≤ x.due.toNat
    · obtain ⟨s, h1, h2, h3⟩ := ins_srtd hc.2 fun z hz => ho z (.tail _ hz)
      refine ⟨y :: s, h1.cons y, List.pairwise_cons.2 ⟨fun z hz => ?_, h2⟩, ?_⟩
      · have hm := h1.mem_iff.1 hz
        rcases List.mem_append.1 hm with hm | hm
        · exact hc.1 z hm
        · obtain rfl := List.mem_singleton.1 hm
          rw [key_lt]
          omega
      · have e : decide (y.item.due.toNat ≤ x.item.due.toNat) = true := decide_eq_true hle
        rw [List.map_cons, h3, List.map_cons]
        simp only [insI, List.takeWhile_cons, List.dropWhile_cons, e, if_true, List.cons_append]
    · refine ⟨x :: y :: l, List.perm_append_comm (l₁ := [x]), List.pairwise_cons.2 ⟨fun z hz => ?_, h⟩, ?_⟩
      · have hxy : key x < key y := by rw [key_lt]; omega
        rcases List.mem_cons.1 hz with rfl | hz
        · exact hxy
        · exact Nat.lt_trans hxy (hc.1 z hz)
      · have e : decide (y.item.due.toNat ≤ x.item.due.toNat) = false := decide_eq_false hle
        rw [List.map_cons, List.map_cons]
        simp only [insI, List.takeWhile_cons, List.dropWhile_cons, e]
        rfl
theorem QR.push {hs ys : List En} {o : Nat} {L : List It} {x : En} (h : QR hs o L) (ho : x.ord.toNat = o) (hp : ys.Perm (hs ++ [x])) (hh : heapTo (K ys) ys.length) : QR ys (o + 1) (insI x.item L) := by
  obtain ⟨ss, h1, h2, h3, h4, h5⟩ := h
  obtain ⟨s, e1, e2, e3⟩ := ins_srtd (x := x) h2 fun y hy => by rw [ho]; exact h5 y hy
  refine ⟨s, (hp.trans (h1.append_right _)).trans e1.symm, e2, by rw [e3, h3], hh, fun y hy => ?_⟩
  rcases List.mem_append.1 (e1.mem_iff.1 hy) with hy | hy
  · have := h5 y hy; omega
  · obtain rfl := List.mem_singleton.1 hy
    omega
theorem QR.pop {hs ys : List En} {o : Nat} {L : List It} {x : En} (h : QR hs o L) (hp : (x :: ys).Perm hs) (hh : heapTo (K ys) ys.length) (hm : ∀ y ∈ ys, key x ≤ key y) : ∃ L', L = x.item :: L' ∧ QR ys o L' := by
  obtain ⟨ss, h1, h2, h3, h4, h5⟩ := h
  have h6 := hp.trans h1
  match ss, h6 with
  | [], h6 => exact absurd h6.length_eq (by simp)
  | s :: ss, h6 =>
    have hc := List.pairwise_cons.1 h2
    have hxs : x = s := by
      rcases List.mem_cons.1 (h6.mem_iff.1 (.head _)) with h | h
      · exact h
      · have h7 := hc.1 x h
        rcases List.mem_cons.1 (h6.mem_iff.2 (.head _)) with h8 | h8
        · exact h8.symm
        · have := hm s h8; omega
    subst hxs
    refine ⟨ss.map En.item, by rw [← h3]; rfl, ss, h6.cons_inv, hc.2, rfl, hh, fun y hy => h5 y (.tail _ hy)⟩
theorem QR.first {hs : List En} {o : Nat} {L : List It} (h : QR hs o L) (h0 : 0 < hs.length) : (hs.getD 0 enD).due = (L.getD 0 itD).due := by
  obtain ⟨ss, h1, h2, h3, h4, h5⟩ := h
  match ss, h1 with
  | [], h1 => exact absurd h1.length_eq (by rw [List.length_nil]; omega)
  | s :: ss, h1 =>
    have hc := List.pairwise_cons.1 h2
    have hm : ∀ y ∈ hs, key (hs.getD 0 enD) ≤ key y := fun y hy => by
      obtain ⟨k, hk, rfl⟩ := List.getElem_of_mem hy
      have := heap_min h4 k hk
      unfold K at this
      rwa [List.getD_eq_getElem?_getD (i := k), List.getElem?_eq_getElem hk] at this
    have hx : hs.getD 0 enD ∈ hs := by rw [List.getD_eq_getElem?_getD, List.getElem?_eq_getElem h0]; exact List.getElem_mem h0
    have : hs.getD 0 enD = s := by
      rcases List.mem_cons.1 (h1.mem_iff.1 hx) with h | h
      · exact h
      · have h7 := hc.1 _ h
        have := hm s (h1.mem_iff.2 (.head _))
        omega
    rw [this, ← h3]
    rfl
theorem QR.filter {hs ys : List En} {o : Nat} {L : List It} {id : Int} (h : QR hs o L) (hp : ys.Perm (hs.filter fun x => decide (x.id ≠ id))) (hh : heapTo (K ys) ys.length) : QR ys o (L.filter fun x => decide (x.id ≠ id)) := by
  obtain ⟨ss, h1, h2, h3, h4, h5⟩ := h
  refine ⟨ss.filter fun x => decide (x.id ≠ id), hp.trans (h1.filter _), h2.filter _, ?_, hh, fun y hy => h5 y (List.mem_filter.1 hy).1⟩
  rw [← h3, List.filter_map]
  rfl
def addE (L : List It) : Int := if 100 ≤ L.length then 52 else 0
def addO (o : Nat) (L : List It) : Nat := if 100 ≤ L.length then o else o + 1
def addL (x : It) (L : List It) : List It := if 100 ≤ L.length then L else insI x L
def nxE (L : List It) : Int := if L.length = 0 then 51 else 0
def dueP (now : W64) (y : It) : Bool := decide (y.due.toNat ≤ now.toNat)
theorem due_none {now : W64} {R : List It} (h : ¬ (0 < R.length ∧ (R.getD 0 itD).due.toNat ≤ now.toNat)) : R.takeWhile (dueP now) = [] ∧ R.dropWhile (dueP now) = R := by
  match R with
  | [] => exact ⟨rfl, rfl⟩
  | x :: R =>
    have e : dueP now x = false := decide_eq_false fun hh => h ⟨by simp, hh⟩
    simp [e]
theorem due_some {now : W64} {x : It} {R : List It} (h : x.due.toNat ≤ now.toNat) : (x :: R).takeWhile (dueP now) = x :: R.takeWhile (dueP now) ∧ (x :: R).dropWhile (dueP now) = R.dropWhile (dueP now) := by
  have e : dueP now x = true := decide_eq_true h
  simp [e]
theorem due_all (L : List It) : L.takeWhile (dueP 18446744073709551615#64) = L := by
  induction L with
  | nil => rfl
  | cons x l ih =>
    have e : dueP 18446744073709551615#64 x = true := decide_eq_true (by have := x.due.isLt; simp only [BitVec.reduceToNat]; omega)
    rw [List.takeWhile_cons, e, if_pos rfl, ih]
def idxF (xs : List En) (id : Int) : Int := if xs.findIdx (fun x => decide (x.id = id)) < xs.length then (xs.findIdx (fun x => decide (x.id = id)) : Nat) else -1
theorem idx_hit {xs : List En} {id : Int} {x : Nat} (hx : x < xs.length) (h : (xs.getD x enD).id = id) (hn : ∀ j, j < x → (xs.getD j enD).id ≠ id) : idxF xs id = x := by
  have e : xs.findIdx (fun x => decide (x.id = id)) = x := by
    rw [List.findIdx_eq hx]
    refine ⟨decide_eq_true (by rwa [List.getD_eq_getElem?_getD, List.getElem?_eq_getElem hx] at h), fun j hj => decide_eq_false ?_⟩
    have := hn j hj
    rwa [List.getD_eq_getElem?_getD, List.getElem?_eq_getElem (by omega)] at this
  rw [idxF, e, if_pos hx]
theorem idx_none {xs : List En} {id : Int} (hn : ∀ j, j < xs.length → (xs.getD j enD).id ≠ id) : idxF xs id = -1 := by
  have e : ¬ xs.findIdx (fun x => decide (x.id = id)) < xs.length := fun h => by
    have h1 := List.findIdx_getElem (w := h)
    have h2 := hn _ h
    rw [List.getD_eq_getElem?_getD, List.getElem?_eq_getElem h] at h2
    exact h2 (of_decide_eq_true h1)
  rw [idxF, if_neg e]
theorem idx_is (xs : List En) (id : Int) : (idxF xs id = -1 ∧ xs.filter (fun x => decide (x.id ≠ id)) = xs) ∨ ∃ i : Nat, idxF xs id = i ∧ i < xs.length ∧ (xs.take (i + 1)).filter (fun x => decide (x.id ≠ id)) = xs.take i := by
  unfold idxF
  by_cases h : xs.findIdx (fun x => decide (x.id = id)) < xs.length
  · rw [if_pos h]
    refine .inr ⟨_, rfl, h, ?_⟩
    have h1 := List.findIdx_getElem (w := h)
    rw [List.take_add_one, List.getElem?_eq_getElem h, Option.toList_some, List.filter_append]
    have e : List.filter (fun x => decide (x.id ≠ id)) [xs[xs.findIdx fun x => decide (x.id = id)]] = [] := by
      rw [List.filter_cons, if_neg (by simpa using h1)]
      rfl
    rw [e, List.append_nil, List.filter_eq_self]
    intro a ha
    obtain ⟨j, hj, rfl⟩ := List.getElem_of_mem ha
    rw [List.length_take] at hj
    rw [List.getElem_take]
    have := List.not_of_lt_findIdx (p := fun x : En => decide (x.id = id)) (xs := xs) (i := j) (by omega)
    simpa using this
  · rw [if_neg h]
    refine .inl ⟨rfl, List.filter_eq_self.2 fun a ha => ?_⟩
    obtain ⟨j, hj, rfl⟩ := List.getElem_of_mem ha
    have h2 := List.findIdx_le_length (p := fun x : En => decide (x.id = id)) (xs := xs)
    have := List.not_of_lt_findIdx (p := fun x : En => decide (x.id = id)) (xs := xs) (i := j) (by omega)
    simpa using this
theorem splice_take {cs us : List Value} {o : Nat} (h : o ≤ cs.length) : (splice cs o us).take o = cs.take o := by
  rw [splice, List.append_assoc, List.take_append_of_le_length (by rw [List.length_take]; omega), List.take_take, Nat.min_self]
theorem cut_it (L : List It) (l h : Nat) : ((itC L).drop (l * 2)).take ((h - l) * 2) = itC ((L.drop l).take (h - l)) := by
  have hd : ∀ (L : List It) (l : Nat), (itC L).drop (l * 2) = itC (L.drop l) := by
    intro L
    induction L with
    | nil => intro l; simp [itC]
    | cons x L ih =>
      intro l
      cases l with
      | zero => simp
      | succ l =>
        rw [show (l + 1) * 2 = 2 + l * 2 by omega, ← List.drop_drop]
        exact ih l
  have ht : ∀ (L : List It) (l : Nat), (itC L).take (l * 2) = itC (L.take l) := by
    intro L
    induction L with
    | nil => intro l; simp [itC]
    | cons x L ih =>
      intro l
      cases l with
      | zero => simp [itC]
      | succ l =>
        have := ih l
        simp only [itC, List.flatMap_cons, List.take_succ_cons] at this ⊢
        rw [show (l + 1) * 2 = x.cells.length + l * 2 by simp [It.cells]; omega, List.take_append, List.take_of_length_le (by omega), Nat.add_sub_cancel_left, this]
  rw [hd, ht]
theorem radd_eq {v : Value} {L : List It} {x : Nat} {d : W64} {id : Int} (hx : x ≤ L.length) :
    Res.rd v (0 + (x - 0) + 1 + (L.length - x)) 2 ([] ++ itC ((L.drop 0).take (x - 0)) ++ List.flatMap (fun v : Value => v.cells.toList) [.agg (⟨d, id⟩ : It).cells.toArray] ++ itC ((L.drop x).take (L.length - x))) =
    Res.rd v (L.take x ++ (⟨d, id⟩ : It) :: L.drop x).length 2 (itC (L.take x ++ (⟨d, id⟩ : It) :: L.drop x)) := by
  have h1 : List.take (L.length - x) (List.drop x L) = List.drop x L := List.take_of_length_le (by simp)
  have h2 : (L.take x ++ (⟨d, id⟩ : It) :: L.drop x).length = 0 + (x - 0) + 1 + (L.length - x) := by simp [Nat.min_eq_left hx]; omega
  rw [h1, h2, List.drop_zero, Nat.sub_zero, itC_append, List.nil_append, List.append_assoc]
  rfl
theorem ins_at {L : List It} {x : It} : ∀ {k : Nat}, k ≤ L.length → (∀ j, j < k → (L.getD j itD).due.toNat ≤ x.due.toNat) → ¬ (k < L.length ∧ (L.getD k itD).due.toNat ≤ x.due.toNat) → insI x L = L.take k ++ x :: L.drop k := by
  induction L with
  | nil => intro k hk _ _; simp [insI]
  | cons y L ih =>
    intro k hk h1 h2
    cases k with
    | zero =>
      have e : decide (y.due.toNat ≤ x.due.toNat) = false := decide_eq_false fun h => h2 ⟨by simp, h⟩
      simp only [insI, List.takeWhile_cons, List.dropWhile_cons, e]
      rfl
    | succ k =>
      have e : decide (y.due.toNat ≤ x.due.toNat) = true := decide_eq_true (h1 0 (by omega))
      have := ih (k := k) (by simpa using hk) (fun j hj => h1 (j + 1) (by omega)) (fun h => h2 ⟨by simpa using h.1, h.2⟩)
      simp only [insI, List.takeWhile_cons, List.dropWhile_cons, e, if_true, List.cons_append, List.take_succ_cons, List.drop_succ_cons] at this ⊢
      rw [this]
theorem getI_all {a b : List It} (hl : a.length = b.length) (h : ∀ j, j < a.length → a.getD j itD = b.getD j itD) : a = b := by
  apply List.ext_getElem hl
  intro i h1 h2
  have := h i h1
  rwa [List.getD_eq_getElem?_getD, List.getD_eq_getElem?_getD, List.getElem?_eq_getElem h1, List.getElem?_eq_getElem h2] at this
theorem getI_succ {a b : List It} {x : Nat} (h : ∀ j, j < x → a.getD j itD = b.getD j itD) (h1 : (a.getD x itD).due = (b.getD x itD).due) (h2 : (a.getD x itD).id = (b.getD x itD).id) : ∀ j, j < x + 1 → a.getD j itD = b.getD j itD := fun j hj => by
  rcases Nat.lt_succ_iff_lt_or_eq.1 hj with h3 | rfl
  · exact h j h3
  · have e : ∀ x y : It, x.due = y.due → x.id = y.id → x = y := fun x y h1 h2 => by cases x; cases y; simp_all
    exact e _ _ h1 h2
theorem keepI_succ {L : List It} {i : Nat} (h : i < L.length) (p : It → Bool) : (L.take (i + 1)).filter p = (L.take i).filter p ++ if p (L.getD i itD) then [L.getD i itD] else [] := by
  rw [List.take_add_one, List.getElem?_eq_getElem h, Option.toList_some, List.filter_append, List.getD_eq_getElem?_getD, List.getElem?_eq_getElem h]
  simp [List.filter_cons]
/-! ### What is taken out -/
theorem keep_succ {hs : List En} {i : Nat} (h : i < hs.length) (p : En → Bool) : (hs.take (i + 1)).filter p = (hs.take i).filter p ++ if p (hs.getD i enD) then [hs.getD i enD] else [] := by
  rw [List.take_add_one, List.getElem?_eq_getElem h, Option.toList_some, List.filter_append, List.getD_eq_getElem?_getD, List.getElem?_eq_getElem h]
  simp [List.filter_cons]
theorem en_set_take {l : List En} {i : Nat} (h : i < l.length) (x : En) : (l.set i x).take (i + 1) = l.take i ++ [x] := by
  rw [List.take_add_one, List.getElem?_set_self h, List.take_set_of_le (Nat.le_refl _)]
  rfl
end Go.Proofs.Ytmefjbmaghjpfaa
