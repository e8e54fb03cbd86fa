/- Texts of ours, gathered: L2 L3 V15 B V1 K7 R1 R2 R15 V2 K10 K11 C8s. -/
import Derived.Test.YthfipbjmpeegbaaGreatDoorRows
import Derived.KernelRfl
import Derived.Test.YthfipbjmpeegbaaGreatDoorW03
/- Numbers of four words, as_ the walks want them. -/
namespace Go.Proofs.YthfipbjmpeegbaaGreatDoor
open Go.RowKit
/-- One bit taken in: what is left, and whether it went. -/
def brF (r m t : Nat) : Nat := if m ≤ 2 * r + t then 2 * r + t - m else 2 * r + t
def brG (r m t : Nat) : Nat := if m ≤ 2 * r + t then 1 else 0

theorem cmp_ge (a b : Nat) : cmpN a b ≥ 0 ↔ b ≤ a := by unfold cmpN; split <;> (try split) <;> omega
/-- The sum of stakes. -/
def totN (l : List W64) : Nat := (l.map BitVec.toNat).sum % 115792089237316195423570985008687907853269984665640564039457584007913129639936
theorem tot_lt (l : List W64) : totN l < 115792089237316195423570985008687907853269984665640564039457584007913129639936 := Nat.mod_lt _ (by decide)
theorem w_lt (x : W64) : x.toNat < 115792089237316195423570985008687907853269984665640564039457584007913129639936 := by have := x.isLt; omega
theorem tot_succ {l : List W64} {x : Nat} (h : x < l.length) : wd (totN (l.take x) + (l.getD x 0).toNat) = wd (totN (l.take (x + 1))) := by
  rw [← wd_mod]
  congr 1
  unfold totN
  rw [List.take_add_one, List.getElem?_eq_getElem h, List.getD_eq_getElem?_getD, List.getElem?_eq_getElem h]
  simp only [Option.toList_some, Option.getD_some, List.map_append, List.map_cons, List.map_nil, List.sum_append_nat, List.sum_cons, List.sum_nil]
  omega
theorem tot_0 (l : List W64) : totN (l.take 0) = 0 := by simp [totN]
attribute [irreducible] brF brG totN
end Go.Proofs.YthfipbjmpeegbaaGreatDoor

/- Numbers of eight words: products. No program in sight. -/
namespace Go.Proofs.YthfipbjmpeegbaaGreatDoor
open Go.RowKit
def val : List W64 → Nat
  | [] => 0
  | x :: l => x.toNat + 18446744073709551616 * val l
theorem val_set : ∀ (ws : List W64) (k : Nat) (x : W64), k < ws.length → val (ws.set k x) + (ws.getD k 0).toNat * 18446744073709551616 ^ k = val ws + x.toNat * 18446744073709551616 ^ k
  | [], k, x, h => by simp at h
  | w :: ws, 0, x, _ => by simp [val]; omega
  | w :: ws, k + 1, x, h => by
    have ih := val_set ws k x (by simpa using h)
    simp only [List.set_cons_succ, val, List.getD_cons_succ, Nat.pow_succ]
    have h1 : ∀ a b c d : Nat, a + c * b = d → ∀ B, B * a + c * (b * B) = B * d := fun a b c d e B => by rw [← e, Nat.mul_add]; congr 1; rw [← Nat.mul_assoc, Nat.mul_comm]
    have e1 := h1 _ _ _ _ ih 18446744073709551616
    rw [Nat.mul_add] at e1
    have e2 : 18446744073709551616 * (x.toNat * 18446744073709551616 ^ k) = x.toNat * (18446744073709551616 ^ k * 18446744073709551616) := by rw [Nat.mul_left_comm, Nat.mul_comm 18446744073709551616]
    omega
def wd8 (n : Nat) : List W64 := (List.range 8).map fun j => BitVec.ofNat 64 (n / 18446744073709551616 ^ j)
@[simp] theorem wd8_len (n : Nat) : (wd8 n).length = 8 := rfl
theorem val_get : ∀ (ws : List W64) (k : Nat), k < ws.length → BitVec.ofNat 64 (val ws / 18446744073709551616 ^ k) = ws.getD k 0
  | [], k, h => by simp at h
  | w :: ws, 0, _ => by
    apply BitVec.eq_of_toNat_eq
    simp only [val, Nat.pow_zero, Nat.div_one, BitVec.toNat_ofNat, List.getD_cons_zero]
    have := w.isLt
    omega
  | w :: ws, k + 1, h => by
    have ih := val_get ws k (by simpa using h)
    rw [List.getD_cons_succ, ← ih, Nat.pow_succ, Nat.mul_comm, ← Nat.div_div_eq_div_mul]
    congr 2
    simp only [val]
    have := w.isLt
    omega
theorem val_wd8 {ws : List W64} (h : ws.length = 8) : ws = wd8 (val ws) := by
  apply List.ext_getElem (by rw [h, wd8_len])
  intro i h1 h2
  have := val_get ws i h1
  simp only [List.getD_eq_getElem?_getD, List.getElem?_eq_getElem h1, Option.getD_some] at this
  rw [← this]
  simp [wd8]
theorem wd8_take (n : Nat) : (wd8 n).take 4 = wd n := by
  simp [wd8, wd, List.range_succ]
def mlo (x y w c : W64) : W64 := BitVec.ofNat 64 (x.toNat * y.toNat + w.toNat + c.toNat)
def mhi (x y w c : W64) : W64 := BitVec.ofNat 64 ((x.toNat * y.toNat + w.toNat + c.toNat) / 18446744073709551616)
theorem mlo_eq (x y w c : W64) : x * y + w + 0#64 + c + 0#64 = mlo x y w c := by
  apply BitVec.eq_of_toNat_eq
  simp only [mlo, BitVec.toNat_add, BitVec.toNat_mul, BitVec.toNat_ofNat]
  generalize x.toNat * y.toNat = m
  omega
theorem mul_bd (x y : W64) : x.toNat * y.toNat ≤ 340282366920938463426481119284349108225 := Nat.mul_le_mul (show x.toNat ≤ 18446744073709551615 by omega) (show y.toNat ≤ 18446744073709551615 by omega)
theorem mhi_eq (x y w c : W64) : BitVec.ofNat 64 (x.toNat * y.toNat / 18446744073709551616) + BitVec.ofNat 64 (((x * y).toNat + w.toNat + (0#64).toNat) / 18446744073709551616) + BitVec.ofNat 64 (((x * y + w + 0#64).toNat + c.toNat + (0#64).toNat) / 18446744073709551616) = mhi x y w c := by
  apply BitVec.eq_of_toNat_eq
  have hb := mul_bd x y
  simp only [mhi, BitVec.toNat_add, BitVec.toNat_mul, BitVec.toNat_ofNat]
  generalize x.toNat * y.toNat = m at *
  omega
theorem m_split (x y w c : W64) : (mlo x y w c).toNat + (mhi x y w c).toNat * 18446744073709551616 = x.toNat * y.toNat + w.toNat + c.toNat := by
  have hb := mul_bd x y
  simp only [mlo, mhi, BitVec.toNat_ofNat]
  generalize x.toNat * y.toNat = m at *
  omega
theorem pw_eq (i : Nat) : pw i = 18446744073709551616 ^ i := by rw [pw, show (18446744073709551616 : Nat) = 2 ^ 64 from rfl, ← Nat.pow_mul]
theorem mod_pw_succ (a : Nat) {i : Nat} (h : i < 4) : a % pw (i + 1) = a % pw i + (wat a i).toNat * pw i := by
  rw [wat_nat a i h, show (2 : Nat) ^ (64 * i) = pw i from rfl, pw_succ, Nat.mod_mul]
  rw [Nat.mul_comm (pw i)]
/-- What a product's words are, i rows and j words of a row being done; c is to be carried. -/
def MulI (a b i j : Nat) (c : W64) (ws : List W64) : Prop :=
  ws.length = 8 ∧ val ws + c.toNat * pw (i + j) = (a % pw i) * b + (wat a i).toNat * (b % pw j) * pw i ∧ ∀ k, i + 4 ≤ k → k < 8 → ws.getD k 0 = 0
theorem MulI.step {a b i j : Nat} {c : W64} {ws : List W64} (h : MulI a b i j c ws) (hi : i < 4) (hj : j < 4) :
    MulI a b i (j + 1) (mhi (wat a i) (wat b j) (ws.getD (i + j) 0) c) (ws.set (i + j) (mlo (wat a i) (wat b j) (ws.getD (i + j) 0) c)) := by
  obtain ⟨h1, h2, h3⟩ := h
  refine ⟨by simp [h1], ?_, fun k hk hk8 => ?_⟩
  · have hs := val_set ws (i + j) (mlo (wat a i) (wat b j) (ws.getD (i + j) 0) c) (by omega)
    have hm := m_split (wat a i) (wat b j) (ws.getD (i + j) 0) c
    have e1 : pw (i + (j + 1)) = pw (i + j) * 18446744073709551616 := by rw [← Nat.add_assoc, pw_succ]
    have e2 : pw (i + j) = pw i * pw j := by rw [pw_eq, pw_eq, pw_eq, Nat.pow_add]
    rw [← pw_eq] at hs
    rw [mod_pw_succ b hj, e1]
    generalize mlo (wat a i) (wat b j) (ws.getD (i + j) 0) c = lo at *
    generalize mhi (wat a i) (wat b j) (ws.getD (i + j) 0) c = hi' at *
    generalize (wat a i).toNat = x at *
    generalize (wat b j).toNat = y at *
    generalize (ws.getD (i + j) 0).toNat = w at *
    generalize c.toNat = cc at *
    have e3 : (lo.toNat + hi'.toNat * 18446744073709551616) * pw (i + j) = (x * y + w + cc) * pw (i + j) := by rw [hm]
    simp only [Nat.add_mul, Nat.mul_add] at e3 ⊢
    have e4 : hi'.toNat * (pw (i + j) * 18446744073709551616) = hi'.toNat * 18446744073709551616 * pw (i + j) := by rw [Nat.mul_assoc, Nat.mul_comm 18446744073709551616]
    have e5 : x * (y * pw j) * pw i = x * y * pw (i + j) := by rw [e2, ← Nat.mul_assoc x y, Nat.mul_assoc, Nat.mul_comm (pw j)]
    rw [e4, e5]
    omega
  · rw [List.getD_eq_getElem?_getD, List.getElem?_set_ne (by omega), ← List.getD_eq_getElem?_getD]
    exact h3 k hk hk8
theorem MulI.start (a b : Nat) {i : Nat} {ws : List W64} (h1 : ws.length = 8) (h2 : val ws = (a % pw i) * b) (h3 : ∀ k, i + 4 ≤ k → k < 8 → ws.getD k 0 = 0) : MulI a b i 0 0 ws :=
  ⟨h1, by simp [h2, pw_0, Nat.mod_one], h3⟩
theorem MulI.row {a b i : Nat} {c : W64} {ws : List W64} (h : MulI a b i 4 c ws) (hb : b < 115792089237316195423570985008687907853269984665640564039457584007913129639936) (hi : i < 4) : (ws.set (i + 4) c).length = 8 ∧ val (ws.set (i + 4) c) = (a % pw (i + 1)) * b ∧ ∀ k, i + 1 + 4 ≤ k → k < 8 → (ws.set (i + 4) c).getD k 0 = 0 := by
  obtain ⟨h1, h2, h3⟩ := h
  refine ⟨by simp [h1], ?_, fun k hk hk8 => ?_⟩
  · have hs := val_set ws (i + 4) c (by omega)
    rw [h3 (i + 4) (Nat.le_refl _) (by omega), ← pw_eq] at hs
    rw [pw_4, Nat.mod_eq_of_lt hb] at h2
    rw [mod_pw_succ a hi, Nat.add_mul]
    have e : (wat a i).toNat * pw i * b = (wat a i).toNat * b * pw i := by rw [Nat.mul_assoc, Nat.mul_assoc, Nat.mul_comm b]
    rw [e]
    simp at hs
    omega
  · rw [List.getD_eq_getElem?_getD, List.getElem?_set_ne (by omega), ← List.getD_eq_getElem?_getD]
    exact h3 k (by omega) hk8
theorem cmp_gt (a b : Nat) : cmpN a b > 0 ↔ b < a := by unfold cmpN; split <;> (try split) <;> omega
section
variable {P : Program} {N : Nat} {C : Beg} {E : Env} {Γ H : RL} {ty : TypeId}
/-- The array that a slice begins with. -/
theorem Yv.s2a {T e m b o n c : Nat} {x : Operand} (hT : P.underlying T = some (.array m e)) (hx : ev E x = some (.slice (some ⟨b, o, none⟩) n c)) (h : m ≤ n) : Yv P N C E Γ H (.sliceToArrayPointer T x) ty (ptr b o) := by
  intro dst pos aft gd a w he _
  have : ¬ n < m := by omega
  simp [execOp, he.ev hx, Instr.arrayAt, underlying, hT, this]
end
end Go.Proofs.YthfipbjmpeegbaaGreatDoor

/- Votes: what a tally holds, sums over it, quorums. No program in sight. -/
namespace Go.Proofs.YthfipbjmpeegbaaGreatDoor
open Go.RowKit
set_option linter.unusedVariables false
set_option linter.unusedSimpArgs false
def sumS (S : List W64) : Nat := (S.map BitVec.toNat).sum
def stk (S : List W64) (i : Int) : Nat := (S.getD i.toNat 0).toNat
abbrev VE := Int × D32 × Nat
def gsum (w : VE → Nat) (es : List VE) : Nat := (es.map w).sum
def forW (S : List W64) (v : D32) (e : VE) : Nat := if e.2.1 = v then stk S e.1 else 0
structure TOk (S : List W64) (m : MM Int D32) : Prop where
  ok : m.Ok
  rng : ∀ e ∈ m.es, 0 ≤ e.1 ∧ e.1 < S.length
/-- Sums by who votes. -/
def byN (S : List W64) (q : Nat → Bool) : Nat := ((List.range S.length).map fun i => if q i then (S.getD i 0).toNat else 0).sum
theorem stk0 (S : List W64) (i : Nat) : S.getD i 0 = 0#64 ↔ stk S (i : Int) = 0 :=
  ⟨fun h => by simp only [stk, Int.toNat_natCast, h]; rfl, fun h => BitVec.eq_of_toNat_eq (by simpa [stk] using h)⟩
theorem gsum_snoc (w : VE → Nat) (p : List VE) (e : VE) : gsum w (p ++ [e]) = gsum w p + w e := by simp [gsum]
theorem gsum_perm {w : VE → Nat} {p q : List VE} (h : p.Perm q) : gsum w p = gsum w q := (h.map w).sum_nat
theorem sum_upd (f : Nat → Nat) (k a : Nat) : ∀ n, k < n → ((List.range n).map fun i => if i = k then a else f i).sum + f k = ((List.range n).map f).sum + a
  | 0, h => absurd h (by omega)
  | n + 1, h => by
    rw [List.range_succ, List.map_append, List.map_append, List.sum_append, List.sum_append]
    by_cases hk : k = n
    · subst hk
      have : (List.range k).map (fun i => if i = k then a else f i) = (List.range k).map f := List.map_congr_left fun i hi => if_neg (by have := List.mem_range.1 hi; omega)
      simp [this]
      omega
    · have := sum_upd f k a n (by omega)
      simp [Ne.symm hk]
      omega
theorem gsum_by {S : List W64} (w : Option D32 → Bool) (hw : w none = false) : ∀ (es : List VE), (es.map (·.1)).Nodup → (∀ e ∈ es, 0 ≤ e.1 ∧ e.1 < S.length) →
    gsum (fun e => if w (some e.2.1) then stk S e.1 else 0) es = byN S fun i => w (MM.findL es (i : Int))
  | [], _, _ => by
    have : ∀ l : List Nat, (l.map fun _ => 0).sum = 0 := fun l => by
      induction l with
      | nil => rfl
      | cons a l ih => simpa using ih
    simp [gsum, byN, MM.findL, hw, this]
  | e :: es, hn, hr => by
    simp only [List.map_cons, List.nodup_cons] at hn
    obtain ⟨h0, h1⟩ := hr e (.head _)
    have ih := gsum_by w hw es hn.2 fun x hx => hr x (.tail _ hx)
    have h2 := sum_upd (fun i => if w (MM.findL es (i : Int)) then (S.getD i 0).toNat else 0) e.1.toNat (if w (some e.2.1) then stk S e.1 else 0) S.length (by omega)
    have hz : MM.findL es ((e.1.toNat : Nat) : Int) = none := by
      cases hf : MM.findL es ((e.1.toNat : Nat) : Int) with
      | none => rfl
      | some v =>
        obtain ⟨c, hc⟩ := (MM.mem_findL hn.2).1 hf
        exact absurd (List.mem_map.2 ⟨_, hc, by show ((e.1.toNat : Nat) : Int) = e.1; omega⟩) hn.1
    have h3 : byN S (fun i => w (MM.findL (e :: es) (i : Int))) = ((List.range S.length).map fun i => if i = e.1.toNat then (if w (some e.2.1) then stk S e.1 else 0) else if w (MM.findL es (i : Int)) then (S.getD i 0).toNat else 0).sum := by
      unfold byN
      congr 1
      refine List.map_congr_left fun i hi => ?_
      by_cases hi : i = e.1.toNat
      · have hf : MM.findL (e :: es) (i : Int) = some e.2.1 := by simp only [MM.findL]; exact if_pos (by omega)
        rw [if_pos hi]
        simp only [hf, stk, ← hi]
      · have hf : MM.findL (e :: es) (i : Int) = MM.findL es (i : Int) := by simp only [MM.findL]; exact if_neg (by omega)
        simp only [hf, if_neg hi]
    rw [h3]
    simp only [hz, hw, Bool.false_eq_true, if_false, Nat.add_zero] at h2
    have h5 : byN S (fun i : Nat => w (MM.findL es (i : Int))) = ((List.range S.length).map fun i : Nat => if w (MM.findL es (i : Int)) then (S.getD i 0).toNat else 0).sum := rfl
    have h4 : gsum (fun e => if w (some e.2.1) then stk S e.1 else 0) (e :: es) = (if w (some e.2.1) then stk S e.1 else 0) + gsum (fun e => if w (some e.2.1) then stk S e.1 else 0) es := rfl
    rw [h4, ih, h5]
    omega
def forA (S : List W64) (g : Int → Option D32) (v : D32) : Nat := byN S fun i => decide (g i = some v)
theorem for_by {S : List W64} {m : MM Int D32} (h : TOk S m) (v : D32) : gsum (forW S v) m.es = forA S m.get v := by
  rw [forA, show (fun i : Nat => decide (m.get i = some v)) = fun i : Nat => (fun o => decide (o = some v)) (MM.findL m.es (i : Int)) from rfl, ← gsum_by (fun o => decide (o = some v)) rfl m.es h.ok.nk h.rng]
  congr 1
  funext e
  simp [forW]
theorem byN_mono {S : List W64} {p q : Nat → Bool} (h : ∀ i, i < S.length → p i = true → q i = true) : byN S p ≤ byN S q := by
  unfold byN
  generalize hl : List.range S.length = l
  have hm : ∀ i ∈ l, i < S.length := fun i hi => by rw [← hl] at hi; exact List.mem_range.1 hi
  clear hl
  induction l with
  | nil => exact Nat.le_refl _
  | cons a l ih =>
    have := ih fun i hi => hm i (.tail _ hi)
    simp only [List.map_cons, List.sum_cons]
    have h1 := h a (hm a (.head _))
    by_cases hp : p a = true
    · rw [if_pos hp, if_pos (h1 hp)]; omega
    · rw [if_neg hp]; omega
theorem byN_or {S : List W64} (p q : Nat → Bool) : byN S (fun i => p i || q i) + byN S (fun i => p i && q i) = byN S p + byN S q := by
  have key : ∀ (x y : Bool) (n : Nat), (if (x || y) = true then n else 0) + (if (x && y) = true then n else 0) = (if x = true then n else 0) + if y = true then n else 0 := fun x y n => by cases x <;> cases y <;> simp
  unfold byN
  generalize List.range S.length = l
  induction l with
  | nil => rfl
  | cons a l ih =>
    have := key (p a) (q a) (S.getD a 0).toNat
    simp only [List.map_cons, List.sum_cons] at ih ⊢
    omega
theorem byN_all (S : List W64) : byN S (fun _ => true) = sumS S := by
  unfold byN sumS
  congr 1
  apply List.ext_getElem (by simp)
  intro i h1 h2
  simp at h1
  simp [List.getD_eq_getElem?_getD, h1]
theorem byN_le {S : List W64} (p : Nat → Bool) : byN S p ≤ sumS S := by rw [← byN_all]; exact byN_mono fun _ _ _ => rfl
/-- What a quorum is for. -/
def Quo (S : List W64) (g : Int → Option D32) (v : D32) : Prop := 2 * sumS S < 3 * forA S g v
def QuoR (S : List W64) (g : Int → Option D32) : Option D32 → Prop
  | some v => Quo S g v
  | none => ∀ v, ¬ Quo S g v
theorem forA_some {S : List W64} {g : Int → Option D32} {v : D32} (h : 0 < forA S g v) : ∃ i : Nat, i < S.length ∧ g i = some v := by
  apply Classical.byContradiction
  intro hn
  have : forA S g v ≤ byN S fun _ => false := byN_mono fun i hi hp => absurd ⟨i, hi, of_decide_eq_true hp⟩ hn
  have h0 : byN S (fun _ => false) = 0 := by
    unfold byN
    generalize List.range S.length = l
    induction l with
    | nil => rfl
    | cons a l ih => simpa using ih
  omega
theorem Quo.uniq {S : List W64} {g : Int → Option D32} {u v : D32} (hu : Quo S g u) (hv : Quo S g v) : u = v := by
  apply Classical.byContradiction
  intro hne
  have h1 := byN_or (S := S) (fun i => decide (g i = some u)) (fun i => decide (g i = some v))
  have h2 := byN_le (S := S) (fun i => decide (g i = some u) || decide (g i = some v))
  have h3 : byN S (fun i => decide (g i = some u) && decide (g i = some v)) ≤ byN S fun _ => false := byN_mono fun i _ hp => by
    simp at hp
    exact absurd (Option.some.inj (hp.1.symm.trans hp.2)) hne
  have h0 : byN S (fun _ => false) = 0 := by
    unfold byN
    generalize List.range S.length = l
    induction l with
    | nil => rfl
    | cons a l ih => simpa using ih
  unfold Quo forA at hu hv
  omega
theorem QuoR.uniq {S : List W64} {g : Int → Option D32} {o o' : Option D32} (h : QuoR S g o) (h' : QuoR S g o') : o = o' := by
  cases o <;> cases o'
  · rfl
  · exact absurd h' (h _)
  · exact absurd h (h' _)
  · rw [Quo.uniq h h']
theorem tok_put {S : List W64} {m : MM Int D32} (h : TOk S m) {k : Int} (v : D32) (h0 : 0 ≤ k) (h1 : k < S.length) : TOk S (m.put k v) := by
  refine ⟨MM.ok_put h.ok k v, fun e he => ?_⟩
  have hk := MM.ok_put h.ok k v
  have : (m.put k v).get e.1 = some e.2.1 := (MM.get_iff hk).2 ⟨e.2.2, he⟩
  rw [MM.get_put] at this
  split at this
  · rename_i e1; rw [e1]; exact ⟨h0, h1⟩
  · obtain ⟨c, hc⟩ := (MM.get_iff h.ok).1 this
    have h2 := h.rng _ hc
    exact h2
theorem tok_nil (S : List W64) : TOk S MM.nil := ⟨MM.ok_nil, by simp [MM.nil]⟩
/-- How a vote is answered. -/
def voteE (S : List W64) (g : Int → Option D32) (who : Int) (v : D32) : Int :=
  if who < 0 ∨ (S.length : Int) ≤ who then 1 else if stk S who = 0 then 51 else if g who = some v then 13 else if (g who).isSome then 52 else 0
theorem d32_neq (a b : D32) : (!decide (a.1 = b.1)) = decide (a ≠ b) := by rw [← decide_not]; exact decide_eq_decide.2 (not_congr Subtype.ext_iff.symm)
theorem d32_eq (a b : D32) : decide (a.1 = b.1) = decide (a = b) := decide_eq_decide.2 Subtype.ext_iff.symm
theorem totN_sum {S : List W64} (h : sumS S < 115792089237316195423570985008687907853269984665640564039457584007913129639936) : totN S = sumS S := by
  rw [totN]
  exact Nat.mod_eq_of_lt h
theorem walk_len {m : MM Int D32} {p : List VE} (hw : m.Walk p) : p.length ≤ m.es.length := by
  obtain ⟨hn, hs⟩ := hw
  generalize m.es = l at hs
  induction p generalizing l with
  | nil => exact Nat.zero_le _
  | cons a p ih =>
    rw [List.nodup_cons] at hn
    have ha := hs a (.head _)
    have h1 := List.perm_cons_erase ha
    have h2 := ih hn.2 (l.erase a) fun e he => by
      have := (h1.mem_iff).1 (hs e (.tail _ he))
      rcases List.mem_cons.1 this with rfl | h
      · exact absurd he hn.1
      · exact h
    have h3 := h1.length_eq
    simp only [List.length_cons] at h3 ⊢
    omega
theorem forA_le (S : List W64) (g : Int → Option D32) (v : D32) : forA S g v ≤ sumS S := byN_le _
def newE (S : List W64) : Int := if S.length < 1 ∨ 40 < S.length then 2 else if 9223372036854775808 ≤ totN S then 10 else 0
end Go.Proofs.YthfipbjmpeegbaaGreatDoor

/- Closed facts of the loaded program: sizes, places, bodies. Printed by a program of ours. -/
namespace Go.Proofs.YthfipbjmpeegbaaGreatDoor
open Go.RowKit
set_option maxRecDepth 100000
theorem sz_5 : (Tryz.prog.info? 5).map (·.size) = some 1 := by kernel_rfl
theorem sz_30 : (Tryz.prog.info? 30).map (·.size) = some 1 := by kernel_rfl
theorem mkey_90 : MKey Tryz.prog 3 itK := MKey.int Tryz.underlying3
theorem mkey_91 : MKey Tryz.prog 3 itK := MKey.int Tryz.underlying3
theorem sz_145 : (Tryz.prog.info? 145).map (·.size) = some 73 := by kernel_rfl
theorem info_23 : (Tryz.prog.info? 23).map (fun i => (i.zero, i.size, i.bytes)) = some (some (Value.slice none 0 0), 1, 24) := by kernel_rfl
theorem ext_83 (x y c : BitVec 64) (hc : c.toNat ≤ 1) (w : World) : (callFunc 83 #[u64 x, u64 y, u64 c]).run Tryz.prog w = .ok (.value (.tuple #[u64 (x + y + c), u64 (BitVec.ofNat 64 ((x.toNat + y.toNat + c.toNat) / 18446744073709551616))])) w := add64 Tryz.func83 rfl rfl (by kernel_rfl) (by kernel_rfl) x y c hc w
theorem agg_132 : Agg Tryz.prog 132 8 := Agg.mk Tryz.underlying132 rfl (by kernel_rfl)
theorem mkey_67 : MKey Tryz.prog 53 dgV := MKey.dig Tryz.underlying53 Tryz.underlying5 sz_5
theorem mkey_60 : MKey Tryz.prog 30 (fun a : BitVec 64 => u64 a) := MKey.u64 Tryz.underlying30
theorem info_5 : (Tryz.prog.info? 5).map (fun i => (i.zero, i.size, i.bytes)) = some (some (Value.int .u8 0), 1, 1) := by kernel_rfl
theorem one_30 : One Tryz.prog 30 := One.mk Tryz.underlying30 rfl
theorem zero_87 : (Tryz.prog.info? 87).map (·.zero) = some (some (Value.agg #[Value.int .u64 0, Value.int .u64 0, Value.int .u64 0, Value.int .u64 0])) := by kernel_rfl
theorem one_5 : One Tryz.prog 5 := One.mk Tryz.underlying5 rfl
theorem mixed : Tryz.prog.follows .mixedOrders = true := by kernel_rfl
theorem agg_87 : Agg Tryz.prog 87 4 := Agg.mk Tryz.underlying87 rfl (by kernel_rfl)
theorem sz_87 : (Tryz.prog.info? 87).map (·.size) = some 4 := by kernel_rfl
theorem body_39 : Body Tryz.prog 39 := Body.mk Tryz.func39 rfl (by decide)
theorem bld_117 : Bld Tryz.prog 117 (fun i => (#[(0, 1), (1, 1)] : Array (Nat × Nat))[i]?) [.slice none 0 0, .int .i64 0] := by intro parts; kernel_rfl
theorem fa_117_1 : FA Tryz.prog 117 1 1 := FA.mk (m := 0) Tryz.underlying117 rfl rfl (by kernel_rfl)
theorem one_26 : One Tryz.prog 26 := One.mk Tryz.underlying26 rfl
theorem fa_117_0 : FA Tryz.prog 117 0 0 := FA.mk (m := 0) Tryz.underlying117 rfl rfl (by kernel_rfl)
theorem sz_23 : (Tryz.prog.info? 23).map (·.size) = some 1 := by kernel_rfl
theorem sz_26 : (Tryz.prog.info? 26).map (·.size) = some 1 := by kernel_rfl
theorem one_23 : One Tryz.prog 23 := One.mk Tryz.underlying23 rfl
theorem body_64 : Body Tryz.prog 64 := Body.mk Tryz.func64 rfl (by decide)
theorem body_62 : Body Tryz.prog 62 := Body.mk Tryz.func62 rfl (by decide)
theorem body_63 : Body Tryz.prog 63 := Body.mk Tryz.func63 rfl (by decide)
theorem body_42 : Body Tryz.prog 42 := Body.mk Tryz.func42 rfl (by decide)
theorem body_65 : Body Tryz.prog 65 := Body.mk Tryz.func65 rfl (by decide)
theorem body_27 : Body Tryz.prog 27 := Body.mk Tryz.func27 rfl (by decide)
theorem body_120 : Body Tryz.prog 120 := Body.mk Tryz.func120 rfl (by decide)
theorem zero_139 : (Tryz.prog.info? 139).map (·.zero) = some (some (Value.agg #[Value.int .u32 0, Value.int .u32 0, Value.int .u32 0, Value.int .u32 0, Value.int .u32 0, Value.int .u32 0, Value.int .u32 0, Value.int .u32 0])) := by kernel_rfl
theorem fa_145_0 : FA Tryz.prog 145 0 0 := FA.mk (m := 7) Tryz.underlying145 rfl rfl (by kernel_rfl)
theorem agg_139 : Agg Tryz.prog 139 8 := Agg.mk Tryz.underlying139 rfl (by kernel_rfl)
theorem sz_139 : (Tryz.prog.info? 139).map (·.size) = some 8 := by kernel_rfl
theorem sz_138 : (Tryz.prog.info? 138).map (·.size) = some 1 := by kernel_rfl
theorem one_138 : One Tryz.prog 138 := One.mk Tryz.underlying138 rfl
theorem agg_145 : Agg Tryz.prog 145 73 := Agg.mk Tryz.underlying145 rfl (by kernel_rfl)
theorem zero_145 : (Tryz.prog.info? 145).map (·.zero) = some (some (Value.agg #[Value.int .u32 0, Value.int .u32 0, Value.int .u32 0, Value.int .u32 0, Value.int .u32 0, Value.int .u32 0, Value.int .u32 0, Value.int .u32 0, Value.int .u8 0, Value.int .u8 0, Value.int .u8 0, Value.int .u8 0, Value.int .u8 0, Value.int .u8 0, Value.int .u8 0, Value.int .u8 0, Value.int .u8 0, Value.int .u8 0, Value.int .u8 0, Value.int .u8 0, Value.int .u8 0, Value.int .u8 0, Value.int .u8 0, Value.int .u8 0, Value.int .u8 0, Value.int .u8 0, Value.int .u8 0, Value.int .u8 0, Value.int .u8 0, Value.int .u8 0, Value.int .u8 0, Value.int .u8 0, Value.int .u8 0, Value.int .u8 0, Value.int .u8 0, Value.int .u8 0, Value.int .u8 0, Value.int .u8 0, Value.int .u8 0, Value.int .u8 0, Value.int .u8 0, Value.int .u8 0, Value.int .u8 0, Value.int .u8 0, Value.int .u8 0, Value.int .u8 0, Value.int .u8 0, Value.int .u8 0, Value.int .u8 0, Value.int .u8 0, Value.int .u8 0, Value.int .u8 0, Value.int .u8 0, Value.int .u8 0, Value.int .u8 0, Value.int .u8 0, Value.int .u8 0, Value.int .u8 0, Value.int .u8 0, Value.int .u8 0, Value.int .u8 0, Value.int .u8 0, Value.int .u8 0, Value.int .u8 0, Value.int .u8 0, Value.int .u8 0, Value.int .u8 0, Value.int .u8 0, Value.int .u8 0, Value.int .u8 0, Value.int .u8 0, Value.int .u8 0, Value.int .u64 0])) := by kernel_rfl
theorem zero_164 : (Tryz.prog.info? 164).map (·.zero) = some (some (Value.agg #[Value.int .u32 0, Value.int .u32 0, Value.int .u32 0, Value.int .u32 0, Value.int .u32 0, Value.int .u32 0, Value.int .u32 0, Value.int .u32 0, Value.int .u32 0, Value.int .u32 0, Value.int .u32 0, Value.int .u32 0, Value.int .u32 0, Value.int .u32 0, Value.int .u32 0, Value.int .u32 0, Value.int .u32 0, Value.int .u32 0, Value.int .u32 0, Value.int .u32 0, Value.int .u32 0, Value.int .u32 0, Value.int .u32 0, Value.int .u32 0, Value.int .u32 0, Value.int .u32 0, Value.int .u32 0, Value.int .u32 0, Value.int .u32 0, Value.int .u32 0, Value.int .u32 0, Value.int .u32 0, Value.int .u32 0, Value.int .u32 0, Value.int .u32 0, Value.int .u32 0, Value.int .u32 0, Value.int .u32 0, Value.int .u32 0, Value.int .u32 0, Value.int .u32 0, Value.int .u32 0, Value.int .u32 0, Value.int .u32 0, Value.int .u32 0, Value.int .u32 0, Value.int .u32 0, Value.int .u32 0, Value.int .u32 0, Value.int .u32 0, Value.int .u32 0, Value.int .u32 0, Value.int .u32 0, Value.int .u32 0, Value.int .u32 0, Value.int .u32 0, Value.int .u32 0, Value.int .u32 0, Value.int .u32 0, Value.int .u32 0, Value.int .u32 0, Value.int .u32 0, Value.int .u32 0, Value.int .u32 0])) := by kernel_rfl
theorem fa_145_1 : FA Tryz.prog 145 1 8 := FA.mk (m := 63) Tryz.underlying145 rfl rfl (by kernel_rfl)
theorem body_109 : Body Tryz.prog 109 := Body.mk Tryz.func109 rfl (by decide)
theorem body_87 : Body Tryz.prog 87 := Body.mk Tryz.func87 rfl (by decide)
theorem body_110 : Body Tryz.prog 110 := Body.mk Tryz.func110 rfl (by decide)
theorem bld_139 : Bld Tryz.prog 139 (fun i => some (i * 1, 1)) [.int .u32 0, .int .u32 0, .int .u32 0, .int .u32 0, .int .u32 0, .int .u32 0, .int .u32 0, .int .u32 0] := by intro parts; kernel_rfl
theorem fa_145_2 : FA Tryz.prog 145 2 72 := FA.mk (m := 0) Tryz.underlying145 rfl rfl (by kernel_rfl)
theorem body_84 : Body Tryz.prog 84 := Body.mk Tryz.func84 rfl (by decide)
theorem bld_145 : Bld Tryz.prog 145 (fun i => (#[(0, 8), (8, 64), (72, 1)] : Array (Nat × Nat))[i]?) [.int .u32 0, .int .u32 0, .int .u32 0, .int .u32 0, .int .u32 0, .int .u32 0, .int .u32 0, .int .u32 0, .int .u8 0, .int .u8 0, .int .u8 0, .int .u8 0, .int .u8 0, .int .u8 0, .int .u8 0, .int .u8 0, .int .u8 0, .int .u8 0, .int .u8 0, .int .u8 0, .int .u8 0, .int .u8 0, .int .u8 0, .int .u8 0, .int .u8 0, .int .u8 0, .int .u8 0, .int .u8 0, .int .u8 0, .int .u8 0, .int .u8 0, .int .u8 0, .int .u8 0, .int .u8 0, .int .u8 0, .int .u8 0, .int .u8 0, .int .u8 0, .int .u8 0, .int .u8 0, .int .u8 0, .int .u8 0, .int .u8 0, .int .u8 0, .int .u8 0, .int .u8 0, .int .u8 0, .int .u8 0, .int .u8 0, .int .u8 0, .int .u8 0, .int .u8 0, .int .u8 0, .int .u8 0, .int .u8 0, .int .u8 0, .int .u8 0, .int .u8 0, .int .u8 0, .int .u8 0, .int .u8 0, .int .u8 0, .int .u8 0, .int .u8 0, .int .u8 0, .int .u8 0, .int .u8 0, .int .u8 0, .int .u8 0, .int .u8 0, .int .u8 0, .int .u8 0, .int .u64 0] := by intro parts; kernel_rfl
theorem zero_53 : (Tryz.prog.info? 53).map (·.zero) = some (some (Value.agg #[Value.int .u8 0, Value.int .u8 0, Value.int .u8 0, Value.int .u8 0, Value.int .u8 0, Value.int .u8 0, Value.int .u8 0, Value.int .u8 0, Value.int .u8 0, Value.int .u8 0, Value.int .u8 0, Value.int .u8 0, Value.int .u8 0, Value.int .u8 0, Value.int .u8 0, Value.int .u8 0, Value.int .u8 0, Value.int .u8 0, Value.int .u8 0, Value.int .u8 0, Value.int .u8 0, Value.int .u8 0, Value.int .u8 0, Value.int .u8 0, Value.int .u8 0, Value.int .u8 0, Value.int .u8 0, Value.int .u8 0, Value.int .u8 0, Value.int .u8 0, Value.int .u8 0, Value.int .u8 0])) := by kernel_rfl
theorem body_86 : Body Tryz.prog 86 := Body.mk Tryz.func86 rfl (by decide)
theorem body_70 : Body Tryz.prog 70 := Body.mk Tryz.func70 rfl (by decide)
theorem zero_147 : (Tryz.prog.info? 147).map (·.zero) = some (some (Value.agg #[Value.int .u8 0, Value.int .u8 0, Value.int .u8 0, Value.int .u8 0, Value.int .u8 0, Value.int .u8 0, Value.int .u8 0, Value.int .u8 0])) := by kernel_rfl
theorem agg_53 : Agg Tryz.prog 53 32 := Agg.mk Tryz.underlying53 rfl (by kernel_rfl)
theorem sz_53 : (Tryz.prog.info? 53).map (·.size) = some 32 := by kernel_rfl
theorem bld_164 : Bld Tryz.prog 164 (fun i => some (i * 1, 1)) [.int .u32 0, .int .u32 0, .int .u32 0, .int .u32 0, .int .u32 0, .int .u32 0, .int .u32 0, .int .u32 0, .int .u32 0, .int .u32 0, .int .u32 0, .int .u32 0, .int .u32 0, .int .u32 0, .int .u32 0, .int .u32 0, .int .u32 0, .int .u32 0, .int .u32 0, .int .u32 0, .int .u32 0, .int .u32 0, .int .u32 0, .int .u32 0, .int .u32 0, .int .u32 0, .int .u32 0, .int .u32 0, .int .u32 0, .int .u32 0, .int .u32 0, .int .u32 0, .int .u32 0, .int .u32 0, .int .u32 0, .int .u32 0, .int .u32 0, .int .u32 0, .int .u32 0, .int .u32 0, .int .u32 0, .int .u32 0, .int .u32 0, .int .u32 0, .int .u32 0, .int .u32 0, .int .u32 0, .int .u32 0, .int .u32 0, .int .u32 0, .int .u32 0, .int .u32 0, .int .u32 0, .int .u32 0, .int .u32 0, .int .u32 0, .int .u32 0, .int .u32 0, .int .u32 0, .int .u32 0, .int .u32 0, .int .u32 0, .int .u32 0, .int .u32 0] := by intro parts; kernel_rfl
theorem sz_164 : (Tryz.prog.info? 164).map (·.size) = some 64 := by kernel_rfl
theorem body_108 : Body Tryz.prog 108 := Body.mk Tryz.func108 rfl (by decide)
theorem body_81 : Body Tryz.prog 81 := Body.mk Tryz.func81 rfl (by decide)
theorem bld_53 : Bld Tryz.prog 53 (fun i => some (i * 1, 1)) [.int .u8 0, .int .u8 0, .int .u8 0, .int .u8 0, .int .u8 0, .int .u8 0, .int .u8 0, .int .u8 0, .int .u8 0, .int .u8 0, .int .u8 0, .int .u8 0, .int .u8 0, .int .u8 0, .int .u8 0, .int .u8 0, .int .u8 0, .int .u8 0, .int .u8 0, .int .u8 0, .int .u8 0, .int .u8 0, .int .u8 0, .int .u8 0, .int .u8 0, .int .u8 0, .int .u8 0, .int .u8 0, .int .u8 0, .int .u8 0, .int .u8 0, .int .u8 0] := by intro parts; kernel_rfl
theorem body_14 : Body Tryz.prog 14 := Body.mk Tryz.func14 rfl (by decide)
theorem body_68 : Body Tryz.prog 68 := Body.mk Tryz.func68 rfl (by decide)
theorem body_67 : Body Tryz.prog 67 := Body.mk Tryz.func67 rfl (by decide)
theorem body_66 : Body Tryz.prog 66 := Body.mk Tryz.func66 rfl (by decide)
theorem body_47 : Body Tryz.prog 47 := Body.mk Tryz.func47 rfl (by decide)
theorem body_46 : Body Tryz.prog 46 := Body.mk Tryz.func46 rfl (by decide)
theorem body_41 : Body Tryz.prog 41 := Body.mk Tryz.func41 rfl (by decide)
theorem body_43 : Body Tryz.prog 43 := Body.mk Tryz.func43 rfl (by decide)
theorem body_44 : Body Tryz.prog 44 := Body.mk Tryz.func44 rfl (by decide)
theorem body_45 : Body Tryz.prog 45 := Body.mk Tryz.func45 rfl (by decide)
theorem body_61 : Body Tryz.prog 61 := Body.mk Tryz.func61 rfl (by decide)
theorem body_38 : Body Tryz.prog 38 := Body.mk Tryz.func38 rfl (by decide)
theorem body_40 : Body Tryz.prog 40 := Body.mk Tryz.func40 rfl (by decide)
theorem bld_87 : Bld Tryz.prog 87 (fun i => some (i * 1, 1)) [.int .u64 0, .int .u64 0, .int .u64 0, .int .u64 0] := by intro parts; kernel_rfl
theorem body_85 : Body Tryz.prog 85 := Body.mk Tryz.func85 rfl (by decide)
theorem body_69 : Body Tryz.prog 69 := Body.mk Tryz.func69 rfl (by decide)
theorem body_71 : Body Tryz.prog 71 := Body.mk Tryz.func71 rfl (by decide)
theorem body_72 : Body Tryz.prog 72 := Body.mk Tryz.func72 rfl (by decide)
theorem body_82 : Body Tryz.prog 82 := Body.mk Tryz.func82 rfl (by decide)
theorem body_59 : Body Tryz.prog 59 := Body.mk Tryz.func59 rfl (by decide)
theorem body_58 : Body Tryz.prog 58 := Body.mk Tryz.func58 rfl (by decide)
theorem body_48 : Body Tryz.prog 48 := Body.mk Tryz.func48 rfl (by decide)
theorem body_35 : Body Tryz.prog 35 := Body.mk Tryz.func35 rfl (by decide)
theorem body_60 : Body Tryz.prog 60 := Body.mk Tryz.func60 rfl (by decide)
theorem zero_132 : (Tryz.prog.info? 132).map (·.zero) = some (some (Value.agg #[Value.int .u64 0, Value.int .u64 0, Value.int .u64 0, Value.int .u64 0, Value.int .u64 0, Value.int .u64 0, Value.int .u64 0, Value.int .u64 0])) := by kernel_rfl
theorem body_98 : Body Tryz.prog 98 := Body.mk Tryz.func98 rfl (by decide)
theorem sz_132 : (Tryz.prog.info? 132).map (·.size) = some 8 := by kernel_rfl
theorem body_76 : Body Tryz.prog 76 := Body.mk Tryz.func76 rfl (by decide)
theorem body_37 : Body Tryz.prog 37 := Body.mk Tryz.func37 rfl (by decide)
theorem info_30 : (Tryz.prog.info? 30).map (fun i => (i.zero, i.size, i.bytes)) = some (some (Value.int .u64 0), 1, 8) := by kernel_rfl
theorem one_56 : One Tryz.prog 56 := One.mk Tryz.underlying56 rfl
theorem fa_93_0 : FA Tryz.prog 93 0 0 := FA.mk (m := 0) Tryz.underlying93 rfl rfl (by kernel_rfl)
theorem one_22 : One Tryz.prog 22 := One.mk Tryz.underlying22 rfl
theorem body_78 : Body Tryz.prog 78 := Body.mk Tryz.func78 rfl (by decide)
theorem fa_93_2 : FA Tryz.prog 93 2 2 := FA.mk (m := 0) Tryz.underlying93 rfl rfl (by kernel_rfl)
theorem one_90 : One Tryz.prog 90 := One.mk Tryz.underlying90 rfl
theorem body_77 : Body Tryz.prog 77 := Body.mk Tryz.func77 rfl (by decide)
theorem zf_53 : (Tryz.prog.info? 53).bind (·.zero) = some (Value.agg #[Value.int .u8 0, Value.int .u8 0, Value.int .u8 0, Value.int .u8 0, Value.int .u8 0, Value.int .u8 0, Value.int .u8 0, Value.int .u8 0, Value.int .u8 0, Value.int .u8 0, Value.int .u8 0, Value.int .u8 0, Value.int .u8 0, Value.int .u8 0, Value.int .u8 0, Value.int .u8 0, Value.int .u8 0, Value.int .u8 0, Value.int .u8 0, Value.int .u8 0, Value.int .u8 0, Value.int .u8 0, Value.int .u8 0, Value.int .u8 0, Value.int .u8 0, Value.int .u8 0, Value.int .u8 0, Value.int .u8 0, Value.int .u8 0, Value.int .u8 0, Value.int .u8 0, Value.int .u8 0]) := by kernel_rfl
theorem fa_93_3 : FA Tryz.prog 93 3 3 := FA.mk (m := 0) Tryz.underlying93 rfl rfl (by kernel_rfl)
theorem one_91 : One Tryz.prog 91 := One.mk Tryz.underlying91 rfl
theorem body_36 : Body Tryz.prog 36 := Body.mk Tryz.func36 rfl (by decide)
theorem bld_93 : Bld Tryz.prog 93 (fun i => (#[(0, 1), (1, 1), (2, 1), (3, 1)] : Array (Nat × Nat))[i]?) [.slice none 0 0, .int .u64 0, .map none, .map none] := by intro parts; kernel_rfl
theorem body_22 : Body Tryz.prog 22 := Body.mk Tryz.func22 rfl (by decide)
theorem fa_93_1 : FA Tryz.prog 93 1 1 := FA.mk (m := 0) Tryz.underlying93 rfl rfl (by kernel_rfl)
theorem body_54 : Body Tryz.prog 54 := Body.mk Tryz.func54 rfl (by decide)
theorem body_53 : Body Tryz.prog 53 := Body.mk Tryz.func53 rfl (by decide)
theorem one_67 : One Tryz.prog 67 := One.mk Tryz.underlying67 rfl
theorem body_51 : Body Tryz.prog 51 := Body.mk Tryz.func51 rfl (by decide)
theorem one_73 : One Tryz.prog 73 := One.mk Tryz.underlying73 rfl
theorem info_53 : (Tryz.prog.info? 53).map (fun i => (i.zero, i.size, i.bytes)) = some (some (Value.agg #[Value.int .u8 0, Value.int .u8 0, Value.int .u8 0, Value.int .u8 0, Value.int .u8 0, Value.int .u8 0, Value.int .u8 0, Value.int .u8 0, Value.int .u8 0, Value.int .u8 0, Value.int .u8 0, Value.int .u8 0, Value.int .u8 0, Value.int .u8 0, Value.int .u8 0, Value.int .u8 0, Value.int .u8 0, Value.int .u8 0, Value.int .u8 0, Value.int .u8 0, Value.int .u8 0, Value.int .u8 0, Value.int .u8 0, Value.int .u8 0, Value.int .u8 0, Value.int .u8 0, Value.int .u8 0, Value.int .u8 0, Value.int .u8 0, Value.int .u8 0, Value.int .u8 0, Value.int .u8 0]), 32, 32) := by kernel_rfl
theorem sz_73 : (Tryz.prog.info? 73).map (·.size) = some 1 := by kernel_rfl
theorem body_73 : Body Tryz.prog 73 := Body.mk Tryz.func73 rfl (by decide)
theorem body_49 : Body Tryz.prog 49 := Body.mk Tryz.func49 rfl (by decide)
theorem body_50 : Body Tryz.prog 50 := Body.mk Tryz.func50 rfl (by decide)
theorem body_21 : Body Tryz.prog 21 := Body.mk Tryz.func21 rfl (by decide)
theorem bld_62 : Bld Tryz.prog 62 (fun i => (#[(0, 1), (1, 1)] : Array (Nat × Nat))[i]?) [.slice none 0 0, .map none] := by intro parts; kernel_rfl
theorem bld_33 : Bld Tryz.prog 33 (fun i => (#[(0, 1), (1, 1), (2, 1)] : Array (Nat × Nat))[i]?) [.int .u64 0, .int .i64 0, .slice none 0 0] := by intro parts; kernel_rfl
theorem info_33 : (Tryz.prog.info? 33).map (fun i => (i.zero, i.size, i.bytes)) = some (some (Value.agg #[Value.int .u64 0, Value.int .i64 0, Value.slice none 0 0]), 3, 40) := by kernel_rfl
theorem bld_48 : Bld Tryz.prog 48 (fun i => (#[(0, 1), (1, 1), (2, 1)] : Array (Nat × Nat))[i]?) [.int .u64 0, .int .i64 0, .slice none 0 0] := by intro parts; kernel_rfl
theorem info_48 : (Tryz.prog.info? 48).map (fun i => (i.zero, i.size, i.bytes)) = some (some (Value.agg #[Value.int .u64 0, Value.int .i64 0, Value.slice none 0 0]), 3, 40) := by kernel_rfl
theorem body_23 : Body Tryz.prog 23 := Body.mk Tryz.func23 rfl (by decide)
theorem fa_33_2 : FA Tryz.prog 33 2 2 := FA.mk (m := 0) Tryz.underlying33 rfl rfl (by kernel_rfl)
theorem body_24 : Body Tryz.prog 24 := Body.mk Tryz.func24 rfl (by decide)
theorem fa_33_0 : FA Tryz.prog 33 0 0 := FA.mk (m := 0) Tryz.underlying33 rfl rfl (by kernel_rfl)
theorem fa_62_1 : FA Tryz.prog 62 1 1 := FA.mk (m := 0) Tryz.underlying62 rfl rfl (by kernel_rfl)
theorem one_60 : One Tryz.prog 60 := One.mk Tryz.underlying60 rfl
theorem zf_69 : (Tryz.prog.info? 69).bind (·.zero) = some (Value.agg #[Value.pointer none, Value.map none]) := by kernel_rfl
theorem zero_69 : (Tryz.prog.info? 69).map (·.zero) = some (some (Value.agg #[Value.pointer none, Value.map none])) := by kernel_rfl
theorem sz_69 : (Tryz.prog.info? 69).map (·.size) = some 2 := by kernel_rfl
theorem body_25 : Body Tryz.prog 25 := Body.mk Tryz.func25 rfl (by decide)
theorem fa_69_0 : FA Tryz.prog 69 0 0 := FA.mk (m := 0) Tryz.underlying69 rfl rfl (by kernel_rfl)
theorem fa_33_1 : FA Tryz.prog 33 1 1 := FA.mk (m := 0) Tryz.underlying33 rfl rfl (by kernel_rfl)
theorem one_3 : One Tryz.prog 3 := One.mk Tryz.underlying3 rfl
theorem body_26 : Body Tryz.prog 26 := Body.mk Tryz.func26 rfl (by decide)
theorem fa_69_1 : FA Tryz.prog 69 1 1 := FA.mk (m := 0) Tryz.underlying69 rfl rfl (by kernel_rfl)
theorem zf_23 : (Tryz.prog.info? 23).bind (·.zero) = some (Value.slice none 0 0) := by kernel_rfl
theorem agg_69 : Agg Tryz.prog 69 2 := Agg.mk Tryz.underlying69 rfl (by kernel_rfl)
theorem fa_62_0 : FA Tryz.prog 62 0 0 := FA.mk (m := 0) Tryz.underlying62 rfl rfl (by kernel_rfl)
theorem sz_56 : (Tryz.prog.info? 56).map (·.size) = some 1 := by kernel_rfl
theorem sz_67 : (Tryz.prog.info? 67).map (·.size) = some 1 := by kernel_rfl
theorem body_29 : Body Tryz.prog 29 := Body.mk Tryz.func29 rfl (by decide)
theorem body_28 : Body Tryz.prog 28 := Body.mk Tryz.func28 rfl (by decide)
theorem body_32 : Body Tryz.prog 32 := Body.mk Tryz.func32 rfl (by decide)
theorem body_12 : Body Tryz.prog 12 := Body.mk Tryz.func12 rfl (by decide)
theorem body_119 : Body Tryz.prog 119 := Body.mk Tryz.func119 rfl (by decide)
theorem body_105 : Body Tryz.prog 105 := Body.mk Tryz.func105 rfl (by decide)
theorem body_116 : Body Tryz.prog 116 := Body.mk Tryz.func116 rfl (by decide)
theorem sz_3 : (Tryz.prog.info? 3).map (·.size) = some 1 := by kernel_rfl
theorem body_122 : Body Tryz.prog 122 := Body.mk Tryz.func122 rfl (by decide)
theorem zero_3 : (Tryz.prog.info? 3).map (·.zero) = some (some (Value.int .i64 0)) := by kernel_rfl
theorem body_118 : Body Tryz.prog 118 := Body.mk Tryz.func118 rfl (by decide)
theorem body_97 : Body Tryz.prog 97 := Body.mk Tryz.func97 rfl (by decide)
theorem body_75 : Body Tryz.prog 75 := Body.mk Tryz.func75 rfl (by decide)
theorem one_167 : One Tryz.prog 167 := One.mk Tryz.underlying167 rfl
theorem sz_167 : (Tryz.prog.info? 167).map (·.size) = some 1 := by kernel_rfl
theorem zero_167 : (Tryz.prog.info? 167).map (·.zero) = some (some (Value.int .u64 0)) := by kernel_rfl
theorem body_112 : Body Tryz.prog 112 := Body.mk Tryz.func112 rfl (by decide)
theorem body_113 : Body Tryz.prog 113 := Body.mk Tryz.func113 rfl (by decide)
theorem body_99 : Body Tryz.prog 99 := Body.mk Tryz.func99 rfl (by decide)
theorem body_100 : Body Tryz.prog 100 := Body.mk Tryz.func100 rfl (by decide)
theorem body_101 : Body Tryz.prog 101 := Body.mk Tryz.func101 rfl (by decide)
theorem body_102 : Body Tryz.prog 102 := Body.mk Tryz.func102 rfl (by decide)
theorem body_103 : Body Tryz.prog 103 := Body.mk Tryz.func103 rfl (by decide)
theorem body_104 : Body Tryz.prog 104 := Body.mk Tryz.func104 rfl (by decide)
theorem body_106 : Body Tryz.prog 106 := Body.mk Tryz.func106 rfl (by decide)
theorem body_107 : Body Tryz.prog 107 := Body.mk Tryz.func107 rfl (by decide)
theorem body_80 : Body Tryz.prog 80 := Body.mk Tryz.func80 rfl (by decide)
theorem body_8 : Body Tryz.prog 8 := Body.mk Tryz.func8 rfl (by decide)
theorem body_9 : Body Tryz.prog 9 := Body.mk Tryz.func9 rfl (by decide)
theorem body_10 : Body Tryz.prog 10 := Body.mk Tryz.func10 rfl (by decide)
theorem body_11 : Body Tryz.prog 11 := Body.mk Tryz.func11 rfl (by decide)
theorem body_16 : Body Tryz.prog 16 := Body.mk Tryz.func16 rfl (by decide)
theorem body_15 : Body Tryz.prog 15 := Body.mk Tryz.func15 rfl (by decide)
theorem body_13 : Body Tryz.prog 13 := Body.mk Tryz.func13 rfl (by decide)
theorem body_57 : Body Tryz.prog 57 := Body.mk Tryz.func57 rfl (by decide)
theorem sz_22 : (Tryz.prog.info? 22).map (·.size) = some 1 := by kernel_rfl
theorem body_79 : Body Tryz.prog 79 := Body.mk Tryz.func79 rfl (by decide)
theorem body_55 : Body Tryz.prog 55 := Body.mk Tryz.func55 rfl (by decide)
theorem body_56 : Body Tryz.prog 56 := Body.mk Tryz.func56 rfl (by decide)
theorem body_34 : Body Tryz.prog 34 := Body.mk Tryz.func34 rfl (by decide)
theorem body_33 : Body Tryz.prog 33 := Body.mk Tryz.func33 rfl (by decide)
theorem body_7 : Body Tryz.prog 7 := Body.mk Tryz.func7 rfl (by decide)
theorem sz_33 : (Tryz.prog.info? 33).map (·.size) = some 3 := by kernel_rfl
theorem agg_33 : Agg Tryz.prog 33 3 := Agg.mk Tryz.underlying33 rfl (by kernel_rfl)
theorem body_17 : Body Tryz.prog 17 := Body.mk Tryz.func17 rfl (by decide)
theorem body_18 : Body Tryz.prog 18 := Body.mk Tryz.func18 rfl (by decide)
theorem sz_48 : (Tryz.prog.info? 48).map (·.size) = some 3 := by kernel_rfl
theorem fa_48_0 : FA Tryz.prog 48 0 0 := FA.mk (m := 0) Tryz.underlying48 rfl rfl (by kernel_rfl)
theorem fa_48_1 : FA Tryz.prog 48 1 1 := FA.mk (m := 0) Tryz.underlying48 rfl rfl (by kernel_rfl)
theorem fa_48_2 : FA Tryz.prog 48 2 2 := FA.mk (m := 0) Tryz.underlying48 rfl rfl (by kernel_rfl)
theorem sz_4 : (Tryz.prog.info? 4).map (·.size) = some 1 := by kernel_rfl
theorem one_4 : One Tryz.prog 4 := One.mk Tryz.underlying4 rfl
theorem body_19 : Body Tryz.prog 19 := Body.mk Tryz.func19 rfl (by decide)
theorem zero_33 : (Tryz.prog.info? 33).map (·.zero) = some (some (Value.agg #[Value.int .u64 0, Value.int .i64 0, Value.slice none 0 0])) := by kernel_rfl
theorem body_20 : Body Tryz.prog 20 := Body.mk Tryz.func20 rfl (by decide)
theorem zqa {p : Prop} (h : p := by repeat (first | exact List.Mem.head _ | refine List.Mem.tail _ ?_)) : p := h
theorem zqb {p : Prop} (h : p := by first | exact ltb rfl | (simp; done) | (simp; omega) | omega | (simp [*]; omega)) : p := h
theorem zqc {p : Prop} (h : p := by repeat (first | exact Lend.same _ _ | exact Lend.row _ _ _ _ _ _ (by decide) | apply Lend.there)) : p := h
theorem zqd {p : Prop} (h : p := by repeat (first | exact Picks.nil _ | apply Picks.cons | exact Pull.here _ _ | apply Pull.there)) : p := h
theorem zqe {p : Prop} (h : p := by repeat (first | exact Subs.nil _ | apply Subs.cons | exact List.Mem.head _ | refine List.Mem.tail _ ?_)) : p := h
theorem zqf {p : Prop} (h : p := by first | (constructor <;> omega) | (constructor <;> simp <;> omega)) : p := h
theorem zqg {p : Prop} (h : p := by first | omega | (simp; omega)) : p := h
end Go.Proofs.YthfipbjmpeegbaaGreatDoor

/- Walks: numbers of four words; products; what is more than a third; a tally. -/
namespace Go.Proofs.YthfipbjmpeegbaaGreatDoor
open Go.RowKit
set_option maxRecDepth 100000
set_option linter.unusedVariables false
set_option linter.unusedSimpArgs false
theorem f60_spec (a b : Nat) (ha : a < 115792089237316195423570985008687907853269984665640564039457584007913129639936) (hb : b < 115792089237316195423570985008687907853269984665640564039457584007913129639936) :
    Spec Tryz.prog 60 #[(.agg ((wd a).map u64).toArray), (.agg ((wd b).map u64).toArray)] [] []
      (fun r Γ' H' => r = (.tuple #[.agg ((wd (a + b)).map u64).toArray, u64 (BitVec.ofNat 64 ((a + b) / 115792089237316195423570985008687907853269984665640564039457584007913129639936))]) ∧ Γ' = [] ∧ H' = []) := by
  refine Spec.of_args Tryz.func60 rfl Tryz.ntmps60 (by simp) fun w => ?_
  refine .seq (.region ?_)
  refine .bx fun b2 => ?_
  refine .bx fun b3 => ?_
  refine .al zero_87 fun b4 => ?_
  refine .w (.as (v' := u64 (cry a b 0)) (.assign rfl) (by rw [cry_0]; rfl)) ?_
  refine .nil (.tn (.seq (.seq (.region ?_))))
  refine .w (.move rfl) ?_
  refine .nil (.tn (.block ?_))
  refine .lp (ι := Nat) (fun x => x ≤ 4) (fun T x => (2, ptr b2 0) :: (3, ptr b3 0) :: (4, ptr b4 0) :: (5, u64 (cry a b x)) :: (7, it (x : Int)) :: T) (fun T _ => T) (fun T x => Res.cells b2 ((wd a).map u64) 87 :: Res.cells b3 ((wd b).map u64) 87 :: Res.cells b4 (tw (wat (a + b)) x) 87 :: T) (fun x => 4 - x) 0 [24, 25] ?_ (fun x hx => ?_)
  · exact Nat.zero_le _
  refine .seq (.region ?_)
  refine .w (.bin rfl rfl BinR.lss_i) ?_
  refine .nil (.tn (.seq ?_))
  refine .cn rfl (fun hc1 => ?_) (fun hc1 => ?_)
  · refine .skip (.tn (.seq (.block (.seq (.region ?_)))))
    refine .w (.move rfl) ?_
    refine .w (.assign rfl) ?_
    refine .nil (.tn ?_)
    refine JC.draw (.one 0 (.one 1 (.one 2 (.one 3 (.one 4 (.one 5 (.one 6 (.one 7 (.one 8 (.one 9 (.one 10 (.one 11 (.one 12 (.one 13 (.one 14 .nil))))))))))))))) (fun i => ([13] : List Nat).contains i) (fun i => ([13] : List Nat).contains i) (fun i => ([0, 1, 2, 4, 5, 7, 8, 9, 10, 11, 12, 14] : List Nat).contains i) mixed (by kernel_rfl) (by decide) (by kernel_rfl) ?_
    refine .uw rfl (.move rfl) ?_
    refine .uw rfl (.move rfl) ?_
    refine .uw rfl (.ixA Tryz.underlying87 sz_30 rfl rfl) ?_
    refine .w rfl (.ld one_30 rfl (hj := by first | exact wd_get _ (by omega) | rfl | exact tab_get zqg | exact gm (d := 0) zqg)) ?_
    refine .uw rfl (.move rfl) ?_
    refine .uw rfl (.ixA Tryz.underlying87 sz_30 rfl rfl) ?_
    refine .w rfl (.ld one_30 rfl (hj := by first | exact wd_get _ (by omega) | rfl | exact tab_get zqg | exact gm (d := 0) zqg)) ?_
    refine .uw rfl (.move rfl) ?_
    refine .uw rfl (.as (v' := .tuple #[u64 (wat (a + b) x), u64 (cry a b (x + 1))]) (.ext rfl (ext_83 _ _ _ (cry_le _ _ _))) (by rw [add_word a b (by omega), add_cry a b (by omega)])) ?_
    refine .uw rfl (.move rfl) ?_
    refine .uw rfl (.as (v' := u64 (wat (a + b) x)) (.extract rfl rfl) rfl) ?_
    refine .uw rfl (.as (v' := u64 (cry a b (x + 1))) (.extract rfl rfl) rfl) ?_
    refine .uw rfl (.ixA Tryz.underlying87 sz_30 rfl rfl) ?_
    first | refine .mw0 rfl (.s1 sz_30) ?_ | refine .mw0 rfl (.sr1 sz_30) ?_
    rintro _ _ _ ⟨rfl, rfl⟩
    refine kp ?_
    refine .uw rfl (.assign rfl) ?_
    refine .nil (.block_normal (.tn (.region ?_)))
    refine .w (.bin rfl rfl (BinR.add_i zqf)) ?_
    refine .w (.move rfl) ?_
    refine .nil ?_
    rw [tw_set]
    refine .hd (x + 1) ?_
    exact ⟨by omega, by omega⟩
  · obtain rfl : x = 4 := by omega
    rw [tw_4]
    refine .exit (.then_exit (.then_exit (.block_exit (.tn (.seq (.region ?_))))))
    refine .w (.lda agg_87 rfl) ?_
    refine .w (.as (v' := u64 (BitVec.ofNat 64 ((a + b) / 115792089237316195423570985008687907853269984665640564039457584007913129639936))) (.move rfl) (congrArg u64 (cry_4 ha hb))) ?_
    first | refine .sa sz_87 ?_ | refine .so sz_87 ?_ | refine .sr sz_87 ?_
    refine .w (.assign rfl) ?_
    refine .nil (.tn (.ret ?_))
    exact .dn [] [] (res2 rfl (.cl agg_87) (.tmp rfl)) ⟨rfl, rfl, rfl⟩

theorem f37_spec (a b : Nat) (ha : a < 115792089237316195423570985008687907853269984665640564039457584007913129639936) (hb : b < 115792089237316195423570985008687907853269984665640564039457584007913129639936) :
    Spec Tryz.prog 37 #[(.agg ((wd a).map u64).toArray), (.agg ((wd b).map u64).toArray)] [] []
      (fun r Γ' H' => r = (it (cmpN a b)) ∧ Γ' = [] ∧ H' = []) := by
  refine Spec.of_args Tryz.func37 rfl Tryz.ntmps37 (by simp) fun w => ?_
  refine .seq (.region ?_)
  refine .bx fun b2 => ?_
  refine .bx fun b3 => ?_
  refine .w (.assign rfl) ?_
  refine .nil (.tn (.scope (.seq (.region ?_))))
  refine .w (.assign rfl) ?_
  refine .nil (.tn (.seq (.label (.tn (.seq (.seq (.region ?_)))))))
  refine .w (.move rfl) ?_
  refine .nil (.tn (.block ?_))
  refine .lp (ι := Nat) (fun x => x ≤ 4 ∧ a / pw (4 - x) = b / pw (4 - x)) (fun T x => (2, ptr b2 0) :: (3, ptr b3 0) :: (5, it 0) :: (8, it (x : Int)) :: T) (fun T _ => T) (fun T x => Res.cells b2 ((wd a).map u64) 87 :: Res.cells b3 ((wd b).map u64) 87 :: T) (fun x => 4 - x) 0 [4, 30] ?_ (fun x hx => ?_)
  · exact ⟨Nat.zero_le _, by show a / pw 4 = b / pw 4; rw [pw_4, Nat.div_eq_of_lt ha, Nat.div_eq_of_lt hb]⟩
  refine .seq (.region ?_)
  refine .w (.bin rfl rfl BinR.lss_i) ?_
  refine .nil (.tn (.seq ?_))
  refine .cn rfl (fun hc1 => ?_) (fun hc1 => ?_)
  · refine .skip (.tn (.seq (.block (.seq (.region ?_)))))
    refine .w (.move rfl) ?_
    refine .w (.assign rfl) ?_
    refine .nil (.tn (.seq (.region ?_)))
    refine .w (.move rfl) ?_
    refine .w (.asI ((3 - x : Nat) : Int) (.bin rfl rfl (BinR.sub_i zqf))) ?_
    refine .w (.assign rfl) ?_
    refine .nil (.tn (.block (.seq ?_)))
    refine JC.draw (.one 0 (.one 1 (.one 2 (.one 3 (.one 4 (.one 5 (.one 6 (.one 7 .nil)))))))) (fun i => ([] : List Nat).contains i) (fun i => ([] : List Nat).contains i) (fun i => ([0, 1, 3, 4, 6, 7] : List Nat).contains i) mixed (by kernel_rfl) (by decide) (by kernel_rfl) ?_
    refine .uw rfl (.move rfl) ?_
    refine .uw rfl (.ixA Tryz.underlying87 sz_30 rfl rfl) ?_
    refine .w rfl (.ld one_30 rfl (hj := by first | exact wd_get _ (by omega) | rfl | exact tab_get zqg | exact gm (d := 0) zqg)) ?_
    refine .uw rfl (.move rfl) ?_
    refine .uw rfl (.ixA Tryz.underlying87 sz_30 rfl rfl) ?_
    refine .w rfl (.ld one_30 rfl (hj := by first | exact wd_get _ (by omega) | rfl | exact tab_get zqg | exact gm (d := 0) zqg)) ?_
    refine .uw rfl (.bin rfl rfl (BinR.lss_u64)) ?_
    refine .uw rfl (.assign rfl) ?_
    refine .nil (.tn ?_)
    refine .cn rfl (fun hc2 => ?_) (fun hc2 => ?_)
    · have hres : cmpN a b = -1 := by simp [cmpN, cmp_step (by omega) hx.2 hc2]
      refine .seq (.region ?_)
      refine .w (.assign rfl) ?_
      refine .nil (.tn (.exit (.block_other (by decide) (.block_other (by decide) (.then_exit (.then_exit (.block_exit (.tn (.seq (.region ?_))))))))))
      refine .w (.as (v' := it (cmpN a b)) (.move rfl) (congrArg it hres.symm)) ?_
      refine .w (.assign rfl) ?_
      refine .nil (.tn (.ret (.scope_ret ?_)))
      exact .dn [] [] (res1 rfl (.tmp rfl)) ⟨rfl, rfl, rfl⟩
    · refine .seq ?_
      refine JC.draw (.one 0 (.one 1 (.one 2 (.one 3 (.one 4 (.one 5 (.one 6 (.one 7 .nil)))))))) (fun i => ([] : List Nat).contains i) (fun i => ([] : List Nat).contains i) (fun i => ([0, 1, 3, 4, 6, 7] : List Nat).contains i) mixed (by kernel_rfl) (by decide) (by kernel_rfl) ?_
      refine .uw rfl (.move rfl) ?_
      refine .uw rfl (.ixA Tryz.underlying87 sz_30 rfl rfl) ?_
      refine .w rfl (.ld one_30 rfl (hj := by first | exact wd_get _ (by omega) | rfl | exact tab_get zqg | exact gm (d := 0) zqg)) ?_
      refine .uw rfl (.move rfl) ?_
      refine .uw rfl (.ixA Tryz.underlying87 sz_30 rfl rfl) ?_
      refine .w rfl (.ld one_30 rfl (hj := by first | exact wd_get _ (by omega) | rfl | exact tab_get zqg | exact gm (d := 0) zqg)) ?_
      refine .uw rfl (.bin rfl rfl (BinR.gtr_u64)) ?_
      refine .uw rfl (.assign rfl) ?_
      refine .nil (.tn ?_)
      refine .cn rfl (fun hc3 => ?_) (fun hc3 => ?_)
      · have hres : cmpN a b = 1 := by have h := cmp_step (by omega) hx.2.symm hc3; rw [cmpN, if_neg (by omega), if_pos h]
        refine .seq (.region ?_)
        refine .w (.assign rfl) ?_
        refine .nil (.tn (.exit (.block_other (by decide) (.block_other (by decide) (.then_exit (.then_exit (.block_exit (.tn (.seq (.region ?_))))))))))
        refine .w (.as (v' := it (cmpN a b)) (.move rfl) (congrArg it hres.symm)) ?_
        refine .w (.assign rfl) ?_
        refine .nil (.tn (.ret (.scope_ret ?_)))
        exact .dn [] [] (res1 rfl (.tmp rfl)) ⟨rfl, rfl, rfl⟩
      · refine .skip (.block_normal (.block_normal (.tn (.region ?_))))
        refine .w (.bin rfl rfl (BinR.add_i zqf)) ?_
        refine .w (.move rfl) ?_
        refine .nil ?_
        refine .hd (x + 1) ?_
        exact ⟨⟨by omega, cmp_next (by omega) hx.2 hc2 (by omega)⟩, by omega⟩
  · obtain rfl : x = 4 := by omega
    have hres : cmpN a b = 0 := by have h := hx.2; simp only [Nat.sub_self, pw_0, Nat.div_one] at h; simp [cmpN, h]
    refine .exit (.then_exit (.then_exit (.block_exit (.tn (.seq (.region ?_))))))
    refine .w (.as (v' := it (cmpN a b)) (.move rfl) (congrArg it hres.symm)) ?_
    refine .w (.assign rfl) ?_
    refine .nil (.tn (.ret (.scope_ret ?_)))
    exact .dn [] [] (res1 rfl (.tmp rfl)) ⟨rfl, rfl, rfl⟩

theorem f98_spec (x y : W64) :
    Spec Tryz.prog 98 #[u64 x, u64 y] [] []
      (fun r Γ' H' => r = (.tuple #[u64 (BitVec.ofNat 64 (x.toNat * y.toNat / 18446744073709551616)), u64 (x * y)]) ∧ Γ' = [] ∧ H' = []) := by
  refine Spec.of_args Tryz.func98 rfl Tryz.ntmps98 (by simp) fun w => ?_
  refine .seq (.region ?_)
  refine .w (.assign rfl) ?_
  refine .w (.assign rfl) ?_
  refine .nil (.tn (.seq (.region ?_)))
  refine .w (.move rfl) ?_
  refine .w (.bin rfl rfl (BinR.and_u64 (b := 4294967295#64))) ?_
  refine .w (.assign rfl) ?_
  refine .nil (.tn (.seq (.region ?_)))
  refine .w (.move rfl) ?_
  refine .w (.bin rfl rfl (BinR.shr_u64_u64 (n := 32#64))) ?_
  refine .w (.assign rfl) ?_
  refine .nil (.tn (.seq (.region ?_)))
  refine .w (.move rfl) ?_
  refine .w (.bin rfl rfl (BinR.and_u64 (b := 4294967295#64))) ?_
  refine .w (.assign rfl) ?_
  refine .nil (.tn (.seq (.region ?_)))
  refine .w (.move rfl) ?_
  refine .w (.bin rfl rfl (BinR.shr_u64_u64 (n := 32#64))) ?_
  refine .w (.assign rfl) ?_
  refine .nil (.tn (.seq (.region ?_)))
  refine .w (.move rfl) ?_
  refine .w (.move rfl) ?_
  refine .w (.bin rfl rfl (BinR.mul_u64)) ?_
  refine .w (.assign rfl) ?_
  refine .nil (.tn (.seq (.region ?_)))
  refine .w (.move rfl) ?_
  refine .w (.move rfl) ?_
  refine .w (.bin rfl rfl (BinR.mul_u64)) ?_
  refine .w (.move rfl) ?_
  refine .w (.bin rfl rfl (BinR.shr_u64_u64 (n := 32#64))) ?_
  refine .w (.bin rfl rfl (BinR.add_u64)) ?_
  refine .w (.assign rfl) ?_
  refine .nil (.tn (.seq (.region ?_)))
  refine .w (.move rfl) ?_
  refine .w (.bin rfl rfl (BinR.and_u64 (b := 4294967295#64))) ?_
  refine .w (.assign rfl) ?_
  refine .nil (.tn (.seq (.region ?_)))
  refine .w (.move rfl) ?_
  refine .w (.bin rfl rfl (BinR.shr_u64_u64 (n := 32#64))) ?_
  refine .w (.assign rfl) ?_
  refine .nil (.tn (.seq (.region ?_)))
  refine .w (.move rfl) ?_
  refine .w (.move rfl) ?_
  refine .w (.move rfl) ?_
  refine .w (.bin rfl rfl (BinR.mul_u64)) ?_
  refine .w (.bin rfl rfl (BinR.add_u64)) ?_
  refine .w (.assign rfl) ?_
  refine .nil (.tn (.seq (.region ?_)))
  refine .w (.move rfl) ?_
  refine .w (.move rfl) ?_
  refine .w (.bin rfl rfl (BinR.mul_u64)) ?_
  refine .w (.move rfl) ?_
  refine .w (.bin rfl rfl (BinR.add_u64)) ?_
  refine .w (.move rfl) ?_
  refine .w (.bin rfl rfl (BinR.shr_u64_u64 (n := 32#64))) ?_
  refine .w (.bin rfl rfl (BinR.add_u64)) ?_
  refine .w (.as (v' := u64 (BitVec.ofNat 64 (x.toNat * y.toNat / 18446744073709551616))) (.assign rfl) (congrArg u64 (mul64 x y))) ?_
  refine .nil (.tn (.seq (.region ?_)))
  refine .w (.move rfl) ?_
  refine .w (.move rfl) ?_
  refine .w (.bin rfl rfl (BinR.mul_u64)) ?_
  refine .w (.assign rfl) ?_
  refine .nil (.tn (.ret ?_))
  exact .dn [] [] (res2 rfl (.tmp rfl) (.tmp rfl)) ⟨rfl, rfl, rfl⟩

theorem f36_spec (v : Value) (l : List W64) :
    Spec Tryz.prog 36 #[v] [Res.rd v l.length 1 (l.map u64)] []
      (fun r Γ' H' => r = (.agg ((wd (totN l)).map u64).toArray) ∧ Γ' = [] ∧ H' = []) := by
  refine Spec.of_args Tryz.func36 rfl Tryz.ntmps36 (by simp) fun w => ?_
  refine JC.know (φ := l.length ≤ 9223372036854775807) (fun w hs => by obtain ⟨_, _, _, _, _, _, h⟩ := hs.rdForm (.head _); unfold maxLen at h; omega) fun hll => ?_
  refine .seq (.region ?_)
  refine .al zero_87 fun b2 => ?_
  refine .nil (.tn (.seq (.region ?_)))
  refine .al zero_87 fun b3 => ?_
  refine .nil (.tn (.seq (.seq (.region ?_))))
  refine .w (.move rfl) ?_
  refine .w (.len Tryz.underlying22 rfl) ?_
  refine .w (.move rfl) ?_
  refine .nil (.tn (.block ?_))
  refine .lp (ι := Nat) (fun x => x ≤ l.length) (fun T x => (2, ptr b2 0) :: (3, ptr b3 0) :: (6, v) :: (7, it (l.length : Int)) :: (8, it (x : Int)) :: T) (fun T x => Res.rd v l.length 1 (l.map u64) :: T) (fun T x => Res.cells b2 ((wd 0).map u64) 87 :: Res.cells b3 ((wd (totN (l.take x))).map u64) 87 :: T) (fun x => l.length - x) 0 [20] ?_ (fun x hx => ?_) (hH := (by rw [tot_0]; repeat (first | exact Picks.nil _ | apply Picks.cons | exact Pull.here _ _ | apply Pull.there)))
  · exact Nat.zero_le _
  refine .seq (.region ?_)
  refine .w (.bin rfl rfl BinR.lss_i) ?_
  refine .nil (.tn (.seq ?_))
  refine .cn rfl (fun hc1 => ?_) (fun hc1 => ?_)
  · refine .skip (.tn (.seq (.block (.seq (.region ?_)))))
    refine .w (.ix1 Tryz.underlying22 sz_30 rfl rfl) ?_
    refine .w (.ld one_30 rfl) ?_
    refine .w (.assign rfl) ?_
    refine .nil (.tn (.region ?_))
    refine .w (.lda agg_87 rfl) ?_
    refine .w (.move rfl) ?_
    refine .w (.as (v' := .agg ((wd (l.getD x 0).toNat).map u64).toArray) (.build bld_87 rfl rfl) (by rw [wd_small]; rfl)) ?_
    refine .c (f60_spec (totN (l.take x)) (l.getD x 0).toNat (tot_lt _) (w_lt _)) body_60 ?_
    rw [tot_succ (by omega)]
    refine .w (.move rfl) ?_
    refine .w (.as (v' := .agg ((wd (totN (l.take (x + 1)))).map u64).toArray) (.extract rfl rfl) rfl) ?_
    refine .w (.extract rfl rfl) ?_
    first | refine .sa sz_87 ?_ | refine .so sz_87 ?_ | refine .sr sz_87 ?_
    refine .nil (.block_normal (.tn (.region ?_)))
    refine .w (.asI ((x + 1 : Nat) : Int) (.bin rfl rfl (BinR.add_i zqf))) ?_
    refine .w (.move rfl) ?_
    refine .nil ?_
    refine .hd (x + 1) ?_
    exact ⟨by omega, by omega⟩
  · obtain rfl : x = l.length := by omega
    rw [List.take_length]
    refine .exit (.then_exit (.then_exit (.block_exit (.tn (.seq (.region ?_))))))
    refine .w (.lda agg_87 rfl) ?_
    first | refine .sa sz_87 ?_ | refine .so sz_87 ?_ | refine .sr sz_87 ?_
    refine .nil (.tn (.ret ?_))
    exact .dn [] [] (res1 rfl (.cl agg_87)) ⟨rfl, rfl, rfl⟩

theorem f76_spec (a b : Nat) (ha : a < 115792089237316195423570985008687907853269984665640564039457584007913129639936) (hb : b < 115792089237316195423570985008687907853269984665640564039457584007913129639936) :
    Spec Tryz.prog 76 #[(.agg ((wd a).map u64).toArray), (.agg ((wd b).map u64).toArray)] [] []
      (fun r Γ' H' => r = (.agg ((wd8 (a * b)).map u64).toArray) ∧ Γ' = [] ∧ H' = []) := by
  refine Spec.of_args Tryz.func76 rfl Tryz.ntmps76 (by simp) fun w => ?_
  refine .seq (.region ?_)
  refine .bx fun b2 => ?_
  refine .bx fun b3 => ?_
  refine .al zero_132 fun b4 => ?_
  refine .nil (.tn (.seq (.region ?_)))
  refine .al zero_132 fun b5 => ?_
  refine .nil (.tn (.seq (.seq (.region ?_))))
  refine .w (.lda agg_87 rfl) ?_
  refine .w (.move rfl) ?_
  refine .nil (.tn (.block ?_))
  refine .lp (ι := Nat × List W64) (fun x => x.1 ≤ 4 ∧ x.2.length = 8 ∧ val x.2 = (a % pw x.1) * b ∧ ∀ k, x.1 + 4 ≤ k → k < 8 → x.2.getD k 0 = 0) (fun T x => (15, it (x.1 : Int)) :: T) (fun T _ => T) (fun T x => Res.cells b5 (x.2.map u64) 132 :: T) (fun x => 4 - x.1) (0, List.replicate 8 0) [3, 4, 5, 14, 63] ?_ (fun x hx => ?_)
  · exact ⟨by decide, rfl, by simp [pw_0, Nat.mod_one, val, List.replicate], fun k _ h => by rw [List.getD_eq_getElem?_getD, List.getElem?_replicate, if_pos h]; rfl⟩
  obtain ⟨i, ws⟩ := x
  obtain ⟨hi, hw1, hw2, hw3⟩ := hx
  dsimp only at hi hw1 hw2 hw3 ⊢
  refine .seq (.region ?_)
  refine .w (.bin rfl rfl BinR.lss_i) ?_
  refine .nil (.tn (.seq ?_))
  refine .cn rfl (fun hc1 => ?_) (fun hc1 => ?_)
  · skip
    refine .skip (.tn (.seq (.block (.seq (.region ?_)))))
    refine .w (.move rfl) ?_
    refine .w (.as (v' := u64 (wat a i)) (.indexAgg Tryz.underlying87 Tryz.underlying30 sz_30 rfl rfl zqb (by first | rfl | exact gm (d := 0) zqg)) rfl) ?_
    refine .w (.assign rfl) ?_
    refine .w (.assign rfl) ?_
    refine .nil (.tn (.seq (.region ?_)))
    refine .w (.assign rfl) ?_
    refine .nil (.tn (.seq (.seq (.region ?_))))
    refine .w (.lda agg_87 rfl) ?_
    refine .w (.move rfl) ?_
    refine .nil (.tn (.block ?_))
    refine .lp (ι := Nat × W64 × List W64) (fun x => x.1 ≤ 4 ∧ MulI a b i x.1 x.2.1 x.2.2) (fun T x => (20, it (x.1 : Int)) :: (8, u64 x.2.1) :: T) (fun T _ => T) (fun T x => Res.cells b5 (x.2.2.map u64) 132 :: T) (fun x => 4 - x.1) (0, 0, ws) [3, 4, 5, 6, 7, 14, 15, 16, 17, 18, 19, 58, 59, 60, 61, 62, 63] ?_ (fun x hx => ?_)
    · exact ⟨Nat.zero_le _, MulI.start a b hw1 hw2 hw3⟩
    clear hw1 hw2 hw3
    obtain ⟨j, c, ws⟩ := x
    obtain ⟨hj, hI⟩ := hx
    dsimp only at hj hI ⊢
    have hw1 := hI.1
    refine .seq (.region ?_)
    refine .w (.bin rfl rfl BinR.lss_i) ?_
    refine .nil (.tn (.seq ?_))
    refine .cn rfl (fun hc2 => ?_) (fun hc2 => ?_)
    · skip
      refine .skip (.tn (.seq (.block (.seq (.region ?_)))))
      refine .w (.move rfl) ?_
      refine .w (.as (v' := u64 (wat b j)) (.indexAgg Tryz.underlying87 Tryz.underlying30 sz_30 rfl rfl zqb (by first | rfl | exact gm (d := 0) zqg)) rfl) ?_
      refine .w (.assign rfl) ?_
      refine .w (.assign rfl) ?_
      refine .nil (.tn (.seq (.region ?_)))
      refine .w (.move rfl) ?_
      refine .w (.move rfl) ?_
      refine .c (f98_spec (wat a i) (wat b j)) body_98 ?_
      refine .w (.move rfl) ?_
      refine .w (.as (v' := u64 (BitVec.ofNat 64 ((wat a i).toNat * (wat b j).toNat / 18446744073709551616))) (.extract rfl rfl) rfl) ?_
      refine .w (.as (v' := u64 (wat a i * wat b j)) (.extract rfl rfl) rfl) ?_
      refine .w (.assign rfl) ?_
      refine .w (.assign rfl) ?_
      refine .nil (.tn (.seq (.region ?_)))
      refine .w (.assign rfl) ?_
      refine .nil (.tn (.seq (.region ?_)))
      refine .w (.move rfl) ?_
      refine .w (.move rfl) ?_
      refine .w (.move rfl) ?_
      refine .w (.asI ((i + j : Nat) : Int) (.bin rfl rfl (BinR.add_i zqf))) ?_
      refine .w (.ixA Tryz.underlying132 sz_30 rfl rfl) ?_
      refine .w (.ld one_30 rfl (hj := by exact gm (d := 0) (by omega))) ?_
      refine .w (.ext rfl (ext_83 _ _ 0#64 (by decide))) ?_
      refine .w (.move rfl) ?_
      refine .w (.as (v' := u64 (wat a i * wat b j + (ws.getD (i + j) 0) + 0#64)) (.extract rfl rfl) rfl) ?_
      refine .w (.as (v' := u64 (BitVec.ofNat 64 (((wat a i * wat b j).toNat + (ws.getD (i + j) 0).toNat + (0#64).toNat) / 18446744073709551616))) (.extract rfl rfl) rfl) ?_
      refine .w (.assign rfl) ?_
      refine .w (.assign rfl) ?_
      refine .nil (.tn (.seq (.region ?_)))
      refine .w (.move rfl) ?_
      refine .w (.move rfl) ?_
      refine .w (.bin rfl rfl (BinR.add_u64)) ?_
      refine .w (.assign rfl) ?_
      refine .nil (.tn (.seq (.region ?_)))
      refine .w (.move rfl) ?_
      refine .w (.move rfl) ?_
      refine .w (.ext rfl (ext_83 _ _ 0#64 (by decide))) ?_
      refine .w (.move rfl) ?_
      refine .w (.as (v' := u64 (mlo (wat a i) (wat b j) (ws.getD (i + j) 0) c)) (.extract rfl rfl) (congrArg u64 (mlo_eq _ _ _ _))) ?_
      refine .w (.as (v' := u64 (BitVec.ofNat 64 (((wat a i * wat b j + (ws.getD (i + j) 0) + 0#64).toNat + c.toNat + (0#64).toNat) / 18446744073709551616))) (.extract rfl rfl) rfl) ?_
      refine .w (.assign rfl) ?_
      refine .w (.assign rfl) ?_
      refine .nil (.tn (.region ?_))
      refine .w (.move rfl) ?_
      refine .w (.move rfl) ?_
      refine .w (.asI ((i + j : Nat) : Int) (.bin rfl rfl (BinR.add_i zqf))) ?_
      refine .w (.move rfl) ?_
      refine .w (.move rfl) ?_
      refine .w (.move rfl) ?_
      refine .w (.as (v' := u64 (mhi (wat a i) (wat b j) (ws.getD (i + j) 0) c)) (.bin rfl rfl (BinR.add_u64)) (congrArg u64 (mhi_eq _ _ _ _))) ?_
      refine .w (.ixA Tryz.underlying132 sz_30 rfl rfl) ?_
      first | refine .s1 sz_30 ?_ | refine .sr1 sz_30 ?_
      refine .w (.assign rfl) ?_
      refine .nil (.block_normal (.tn (.region ?_)))
      refine .w (.asI ((j + 1 : Nat) : Int) (.bin rfl rfl (BinR.add_i zqf))) ?_
      refine .w (.move rfl) ?_
      refine .nil ?_
      rw [← List.map_set]
      refine .hd (j + 1, mhi (wat a i) (wat b j) (ws.getD (i + j) 0) c, ws.set (i + j) (mlo (wat a i) (wat b j) (ws.getD (i + j) 0) c)) ?_
      exact ⟨⟨by dsimp only; omega, hI.step (by omega) (by omega)⟩, by dsimp only; omega⟩
    · obtain rfl : j = 4 := by omega
      refine .exit (.then_exit (.then_exit (.block_exit (.tn (.region ?_)))))
      refine .w (.move rfl) ?_
      refine .w (.asI ((i + 4 : Nat) : Int) (.bin rfl rfl (BinR.add_i zqf))) ?_
      refine .w (.move rfl) ?_
      refine .w (.ixA Tryz.underlying132 sz_30 rfl rfl) ?_
      first | refine .s1 sz_30 ?_ | refine .sr1 sz_30 ?_
      refine .nil (.block_normal (.tn (.region ?_)))
      refine .w (.asI ((i + 1 : Nat) : Int) (.bin rfl rfl (BinR.add_i zqf))) ?_
      refine .w (.move rfl) ?_
      refine .nil ?_
      rw [← List.map_set]
      refine .hd (i + 1, ws.set (i + 4) c) ?_
      exact ⟨⟨by dsimp only; omega, (hI.row hb (by omega)).1, (hI.row hb (by omega)).2.1, (hI.row hb (by omega)).2.2⟩, by dsimp only; omega⟩
  · obtain rfl : i = 4 := by omega
    obtain rfl : ws = wd8 (a * b) := by rw [val_wd8 hw1, hw2, pw_4, Nat.mod_eq_of_lt ha]
    refine .exit (.then_exit (.then_exit (.block_exit (.tn (.seq (.region ?_))))))
    refine .w (.lda agg_132 rfl) ?_
    first | refine .sa sz_132 ?_ | refine .so sz_132 ?_ | refine .sr sz_132 ?_
    refine .nil (.tn (.ret ?_))
    exact .dn [] [] (res1 rfl (.cl agg_132)) ⟨rfl, rfl, rfl⟩

theorem f53_spec (px al : W64) :
    Spec Tryz.prog 53 #[u64 px, u64 al] [] []
      (fun r Γ' H' => r = (.bool (decide (al.toNat < 3 * px.toNat))) ∧ Γ' = [] ∧ H' = []) := by
  refine Spec.of_args Tryz.func53 rfl Tryz.ntmps53 (by simp) fun w => ?_
  refine .seq (.region ?_)
  refine .w (.assign rfl) ?_
  refine .nil (.tn (.seq (.region ?_)))
  refine .w (.move rfl) ?_
  refine .w (.as (v' := .agg ((wd px.toNat).map u64).toArray) (.build bld_87 rfl rfl) (by rw [wd_small]; rfl)) ?_
  refine .w (.as (v' := .agg ((wd 3).map u64).toArray) (.build bld_87 rfl rfl) rfl) ?_
  refine .c (f76_spec px.toNat 3 (w_lt _) (by decide)) body_76 ?_
  refine .al zero_132 fun b5 => ?_
  first | refine .sa sz_132 ?_ | refine .so sz_132 ?_ | refine .sr sz_132 ?_
  refine .nil (.tn (.seq (.region ?_)))
  refine .w (.cutArr (l := 0) (h := 4) Tryz.underlying132 sz_30 rfl rfl ⟨_, rfl⟩ zqb zqb zqb) ?_
  refine .w (.s2a Tryz.underlying87 rfl (by decide)) ?_
  refine .w (.as (v' := .agg ((wd (px.toNat * 3)).map u64).toArray) (.lda agg_87 rfl) (congrArg (fun l : List Value => Value.agg l.toArray) (by rw [List.drop_zero, ← List.map_take, wd8_take]))) ?_
  refine .w (.move rfl) ?_
  refine .w (.as (v' := .agg ((wd al.toNat).map u64).toArray) (.build bld_87 rfl rfl) (by rw [wd_small]; rfl)) ?_
  refine .c (f37_spec (px.toNat * 3) al.toNat (by have := px.isLt; omega) (w_lt _)) body_37 ?_
  refine .w (.as (v' := .bool (decide (al.toNat < 3 * px.toNat))) (.bin rfl rfl BinR.gtr_i) (congrArg Value.bool (decide_eq_decide.2 (by rw [cmp_gt]; omega)))) ?_
  refine .w (.assign rfl) ?_
  refine .nil (.tn (.ret ?_))
  exact .dn [] [] (res1 rfl (.tmp rfl)) ⟨rfl, rfl, rfl⟩

theorem f22_spec (v : Value) (n : Nat) (xs : List Value) (hn : n ≤ 1000000000) (h1 : ∀ a ∈ xs, a.oneCell' = true) :
    Spec Tryz.prog 22 #[v] [Res.rd v n 1 xs] []
      (fun r Γ' H' => True ∧ Γ' = [] ∧ H' = [Res.row r n 30 1 xs]) := by
  refine Spec.know (φ := ∃ A c, v = .slice A n c ∧ (A = none → xs = []) ∧ xs.length = n * 1 ∧ n ≤ c ∧ n ≤ maxLen) (fun w hs => hs.rdForm (.head _)) ?_
  rintro ⟨A, c, rfl, hA, hl, hc, hm⟩
  refine Spec.of_args Tryz.func22 rfl Tryz.ntmps22 (by simp) fun w => ?_
  refine .seq (.region ?_)
  refine .w (.assign rfl) ?_
  refine .nil (.tn (.seq (.seq (.region ?_))))
  refine .w (.move rfl) ?_
  refine .w (.bin rfl rfl (BinR.eql_s Tryz.underlying22)) ?_
  refine .nil (.tn ?_)
  refine .cn rfl (fun hc1 => ?_) (fun hc1 => ?_)
  · have hA0 : A = none := by cases A <;> simp_all
    have hx := hA hA0
    have hn0 : n = 0 := by rw [hx] at hl; simpa using hl.symm
    subst hx hn0
    refine .seq (.region ?_)
    refine JO.nilRow 30 1 ?_
    refine JO.v (Yv.assign rfl) (by decide) ?_
    refine .nil (.tn (.ret (.then_ret ?_)))
    exact .dn [] [Res.row (.slice none 0 0) 0 30 1 []] (res1 rfl (.tmp rfl)) ⟨trivial, rfl, rfl⟩
  · refine .skip (.tn (.seq (.region ?_)))
    refine .le Tryz.underlying22 sz_30 fun v5 => ?_
    refine .w (.move rfl) ?_
    refine .ap Tryz.underlying22 info_30 (fun v7 => ?_) (hone := h1)
    refine .w (.assign rfl) ?_
    refine .nil (.tn (.ret ?_))
    exact .dn [] [Res.row _ (0 + n) 30 1 ([] ++ xs)] (res1 rfl (.tmp rfl)) ⟨trivial, rfl, by rw [Nat.zero_add, List.nil_append]⟩

theorem eql_dig {x y : Operand} {a b : D32} : BinR Tryz.prog .eql 53 x y (dgV a) (dgV b) (.bool (decide (a = b))) := by
  have := BinR.eql_arr (P := Tryz.prog) (x := x) (y := y) (f := u8) (g := fun x => (x.toNat : Int)) (k := .u8) Tryz.underlying53 Tryz.underlying5 sz_5 (by kernel_rfl) (fun _ => rfl) (fun _ _ h => u8_inj h) a.1 b.1 a.2 b.2
  rw [d32_eq] at this
  exact this
theorem neq_dig {x y : Operand} {a b : D32} : BinR Tryz.prog .neq 53 x y (dgV a) (dgV b) (.bool (decide (a ≠ b))) := by
  have := BinR.neq_arr (P := Tryz.prog) (x := x) (y := y) (f := u8) (g := fun x => (x.toNat : Int)) (k := .u8) Tryz.underlying53 Tryz.underlying5 sz_5 (by kernel_rfl) (fun _ => rfl) (fun _ _ h => u8_inj h) a.1 b.1 a.2 b.2
  rw [d32_neq] at this
  exact this

theorem f78_spec (who : Int) (x v : D32) (bv bt p a b : Nat) (sv : Value) (al : W64) (S : List W64) (h0 : 0 ≤ who) (h1 : who < S.length) :
    Spec Tryz.prog 78 #[(it who), (dgV x), (ptr bv 0), (ptr bt 0)] [Res.cells bv (v.1.map u8) 53, Res.cells bt [ptr p 0] 56, Res.cells p [sv, u64 al, .map (some a), .map (some b)] 93, Res.rd sv S.length 1 (S.map u64)] []
      (fun r Γ' H' => r = (u64 (BitVec.ofNat 64 (forW S v (who, x, 0)))) ∧ Γ' = [] ∧ H' = []) := by
  refine Spec.of_args Tryz.func78 rfl Tryz.ntmps78 (by simp) fun w => ?_
  obtain ⟨i, rfl⟩ : ∃ i : Nat, who = i := ⟨who.toNat, by omega⟩
  refine .seq (.region ?_)
  refine .bx fun b5 => ?_
  refine .w (.assign rfl) ?_
  refine .nil (.tn (.seq (.seq (.region ?_))))
  refine .w (.as (v' := dgV x) (.lda agg_53 rfl) rfl) ?_
  refine .w (.as (v' := dgV v) (.lda agg_53 rfl) rfl) ?_
  refine .w (.bin rfl rfl (neq_dig)) ?_
  refine .nil (.tn ?_)
  refine .cn rfl (fun hc1 => ?_) (fun hc1 => ?_)
  · rw [forW, if_neg hc1]
    refine .seq (.region ?_)
    refine .w (.assign rfl) ?_
    refine .nil (.tn (.ret (.then_ret ?_)))
    exact .dn [] [] (res1 rfl (.tmp rfl)) ⟨rfl, rfl, rfl⟩
  · have hxv : x = v := hc1
    rw [forW, if_pos hxv]
    refine .skip (.tn (.seq (.region ?_)))
    refine .w (.ld one_56 rfl) ?_
    refine .w (.nilCheck rfl) ?_
    refine .w (.fieldAddr fa_93_0 rfl) ?_
    refine .w (.ld one_22 rfl) ?_
    refine .w (.move rfl) ?_
    refine .w (.ix1 Tryz.underlying22 sz_30 rfl rfl) ?_
    refine .w (.as (v' := u64 (BitVec.ofNat 64 (stk S (i : Int)))) (.ld one_30 rfl) (by simp [stk])) ?_
    refine .w (.assign rfl) ?_
    refine .nil (.tn (.ret ?_))
    exact .dn [] [] (res1 rfl (.tmp rfl)) ⟨rfl, rfl, rfl⟩

theorem f77For_spec (v : D32) (bv : Nat) (bt : Nat) (p a b : Nat) (sv : Value) (al : W64) (S : List W64) (m : MM Int D32) (hT : TOk S m) (hS : sumS S < 18446744073709551616) :
    Spec Tryz.prog 77 #[(.map (some a)), (.func (.func 78) #[] #[ptr bv 0, ptr bt 0])] [Res.cells bv (v.1.map u8) 53, Res.cells bt [ptr p 0] 56, Res.cells p [sv, u64 al, .map (some a), .map (some b)] 93, Res.rd sv S.length 1 (S.map u64), mpR a itK dgV m] []
      (fun r Γ' H' => r = (u64 (BitVec.ofNat 64 (gsum (forW S v) m.es))) ∧ Γ' = [] ∧ H' = []) := by
  refine Spec.of_args Tryz.func77 rfl Tryz.ntmps77 (by simp) fun w => ?_
  refine .seq (.region ?_)
  refine .w (.assign rfl) ?_
  refine .nil (.tn (.seq (.region ?_)))
  refine .w (.assign rfl) ?_
  refine .nil (.tn (.seq (.seq (.region ?_))))
  refine .w (.move rfl) ?_
  refine .rg Tryz.underlying90 fun r9 => ?_
  refine .nil (.tn (.block ?_))
  refine .lp (ι := List VE) (fun x => m.Walk x) (fun T x => (5, u64 (BitVec.ofNat 64 (gsum (forW S v) x))) :: T) (fun T _ => T) (fun T x => miR r9 a m x :: T) (fun x => m.es.length - x.length) ([]) [1, 4, 9, 21] ?_ (fun x hx => ?_)
  · exact MM.Walk.nil
  have hW := hx
  refine .seq (.region ?_)
  refine .nx hT.ok hW ?_ ?_
  · intro hp
    refine .w (.extract rfl rfl) ?_
    refine .nil (.tn (.seq ?_))
    refine .cf rfl ?_
    refine .exit (.then_exit (.then_exit (.block_exit (.tn (.seq (.region ?_))))))
    refine .w (.move rfl) ?_
    refine .w (.assign rfl) ?_
    refine .nil (.tn (.ret ?_))
    exact .dn [] [] (res1 rfl (.tmp rfl)) ⟨by rw [gsum_perm hp], rfl, rfl⟩
  · intro e he hnp hw2
    refine .w (.extract rfl rfl) ?_
    refine .nil (.tn (.seq ?_))
    refine .ct rfl ?_
    refine .skip (.tn (.block (.seq (.region ?_))))
    refine .w (.en hT.ok he) ?_
    refine .w (.as (v' := it e.1) (.extract rfl rfl) rfl) ?_
    refine .w (.as (v' := dgV e.2.1) (.extract rfl rfl) rfl) ?_
    refine .al zero_53 fun b7 => ?_
    refine .w (.assign rfl) ?_
    first | refine .sa sz_53 ?_ | refine .so sz_53 ?_ | refine .sr sz_53 ?_
    refine .nil (.tn (.region ?_))
    refine .w (.move rfl) ?_
    refine .w (.move rfl) ?_
    refine .w (.move rfl) ?_
    refine .w (.as (v' := dgV e.2.1) (.lda agg_53 rfl) rfl) ?_
    refine JO.callF (f78_spec e.1 e.2.1 v bv bt p a b sv al S (hT.rng e he).1 (hT.rng e he).2) body_78 rfl rfl rfl zqd (by repeat (first | exact Lends.nil _ | apply Lends.cons | exact Lend.same _ _ | exact Lend.row _ _ _ _ _ _ (by decide) | apply Lend.there)) (by rintro _ _ _ ⟨_, h, _⟩; exact h) (by decide) ?_
    rintro _ _ ⟨_, ⟨rfl, _, rfl⟩, hH⟩
    simp only [List.cons_append, List.nil_append] at hH; subst hH
    refine .w (.as (v' := u64 (BitVec.ofNat 64 (gsum (forW S v) (x ++ [e])))) (.bin rfl rfl (BinR.add_u64)) (by rw [gsum_snoc, BitVec.ofNat_add]; rfl)) ?_
    refine .w (.assign rfl) ?_
    refine .nil (.block_normal ?_)
    refine .hd (x ++ [e]) ?_
    exact ⟨hw2, by have := walk_len hw2; simp at this ⊢; omega⟩

theorem f54_spec (p a b : Nat) (sv : Value) (al : W64) (S : List W64) (m : MM Int D32) (v : D32) (hT : TOk S m) (hS : sumS S < 18446744073709551616) :
    Spec Tryz.prog 54 #[(ptr p 0), (dgV v)] [Res.cells p [sv, u64 al, .map (some a), .map (some b)] 93, Res.rd sv S.length 1 (S.map u64), mpR a itK dgV m] []
      (fun r Γ' H' => r = (u64 (BitVec.ofNat 64 (forA S m.get v))) ∧ Γ' = [] ∧ H' = []) := by
  refine Spec.of_args Tryz.func54 rfl Tryz.ntmps54 (by simp) fun w => ?_
  refine .seq (.region ?_)
  refine .bx fun b2 => ?_
  refine .bx fun b3 => ?_
  refine .w (.assign rfl) ?_
  refine .nil (.tn (.seq (.region ?_)))
  refine .w (.ld one_56 rfl) ?_
  refine .w (.nilCheck rfl) ?_
  refine .w (.fieldAddr fa_93_2 rfl) ?_
  refine .w (.ld one_90 rfl) ?_
  refine .w (.makeFunc rfl rfl) ?_
  refine .c (f77For_spec v b3 b2 p a b sv al S m hT hS) body_77 ?_
  rw [for_by hT]
  refine .w (.assign rfl) ?_
  refine .nil (.tn (.ret ?_))
  exact .dn [] [] (res1 rfl (.tmp rfl)) ⟨rfl, rfl, rfl⟩

theorem f26_spec (p a b : Nat) (sv : Value) (al : W64) (S : List W64) (m : MM Int D32) (tw : MM Int Bool) (who : Int) (v : D32) (hT : TOk S m) (hln : S.length ≤ 1000000) :
    Spec Tryz.prog 26 #[(ptr p 0), (it who), (dgV v)] [Res.cells p [sv, u64 al, .map (some a), .map (some b)] 93, Res.rd sv S.length 1 (S.map u64)] [mpR a itK dgV m, mpR b itK blV tw]
      (fun r Γ' H' => ∃ m' tw', r = it (voteE S m.get who v) ∧ (TOk S m') ∧ m' = (if voteE S m.get who v = 0 then m.put who v else m) ∧ (tw.Ok → tw'.Ok) ∧ tw' = (if voteE S m.get who v = 52 then tw.put who true else tw) ∧ Γ' = [] ∧ H' = [mpR a itK dgV m', mpR b itK blV tw']) := by
  refine Spec.of_args Tryz.func26 rfl Tryz.ntmps26 (by simp) fun w => ?_
  refine .seq (.region ?_)
  refine .bx fun b5 => ?_
  refine .w (.assign rfl) ?_
  refine .nil (.tn (.seq (.seq (.region ?_))))
  refine .w (.move rfl) ?_
  refine .w (.bin rfl rfl BinR.lss_i) ?_
  refine .w (.move rfl) ?_
  refine .join 8 19 (.bool (decide (who < 0 ∨ (S.length : Int) ≤ who))) ?_ ?_
  · refine .gn (g := 10) rfl (fun hg6 hg6' => ?_) (fun hg6 hg6' => ?_)
    · refine .gf (g := 11) rfl rfl hg6 (by decide) ?_
      refine .gf (g := 11) rfl rfl hg6 (by decide) ?_
      refine .gf (g := 11) rfl rfl hg6 (by decide) ?_
      refine .gf (g := 11) rfl rfl hg6 (by decide) ?_
      refine .gf (g := 11) rfl rfl hg6 (by decide) ?_
      refine .gf (g := 11) rfl rfl hg6 (by decide) ?_
      refine .gf (g := 11) rfl rfl hg6 (by decide) ?_
      refine .w (.pick1 rfl hg6 rfl) ?_
      refine .nil ?_
      refine .head () (by first | (refine ⟨by first | rfl | exact congrArg (fun b => some (Value.bool b)) (by first | exact (decide_eq_true (by omega)).symm | exact (decide_eq_false (by omega)).symm | exact decide_eq_decide.2 (by omega)) | (simp [*]; done) | (show some _ = some _; simp [*]; done), ?_⟩; repeat (first | exact trivial | refine ⟨rfl, ?_⟩))) (fun _ h => h) (Picks.perm zqd) ?_
      trivial
    · refine .gt (g := 11) rfl rfl hg6 ?_
      refine .w (.move rfl) ?_
      refine .gt (g := 11) rfl rfl hg6 ?_
      refine .w (.move rfl) ?_
      refine .gt (g := 11) rfl rfl hg6 ?_
      refine .w (.nilCheck rfl) ?_
      refine .gt (g := 11) rfl rfl hg6 ?_
      refine .w (.fieldAddr fa_93_0 rfl) ?_
      refine .gt (g := 11) rfl rfl hg6 ?_
      refine .w (.ld one_22 rfl) ?_
      refine .gt (g := 11) rfl rfl hg6 ?_
      refine .w (.len Tryz.underlying22 rfl) ?_
      refine .gt (g := 11) rfl rfl hg6 ?_
      refine .w (.bin rfl rfl BinR.geq_i) ?_
      refine .w (.pick0 rfl hg6 rfl) ?_
      refine .nil ?_
      refine .head () (by first | (refine ⟨by first | rfl | exact congrArg (fun b => some (Value.bool b)) (by first | exact (decide_eq_true (by omega)).symm | exact (decide_eq_false (by omega)).symm | exact decide_eq_decide.2 (by omega)) | (simp [*]; done) | (show some _ = some _; simp [*]; done), ?_⟩; repeat (first | exact trivial | refine ⟨rfl, ?_⟩))) (fun _ h => h) (Picks.perm zqd) ?_
      trivial
  · refine .nil (.tn ?_)
    refine .cn rfl (fun hc1 => ?_) (fun hc1 => ?_)
    · have hE : voteE S m.get who v = 1 := if_pos hc1
      refine .seq (.region ?_)
      refine .w (.assign rfl) ?_
      refine .nil (.tn (.ret (.then_ret ?_)))
      exact .dn [] [mpR a itK dgV m, mpR b itK blV tw] (res1 rfl (.tmp rfl)) ⟨m, tw, by rw [hE], hT, by rw [hE]; rfl, id, by rw [hE]; rfl, rfl, rfl⟩
    · obtain ⟨i, rfl⟩ : ∃ i : Nat, who = i := ⟨who.toNat, by omega⟩
      have hil : i < S.length := by omega
      refine .skip (.tn (.seq (.region ?_)))
      refine .w (.move rfl) ?_
      refine .w (.nilCheck rfl) ?_
      refine .w (.fieldAddr fa_93_2 rfl) ?_
      refine .w (.ld one_90 rfl) ?_
      refine .w (.move rfl) ?_
      refine .w (.as (v' := .tuple #[dgV ((m.get (i : Int)).getD D0), .bool (m.get (i : Int)).isSome]) (.lk2 ((i : Nat) : Int) Tryz.underlying90 mkey_90 zf_53) (by cases m.get (i : Int) <;> rfl)) ?_
      refine .w (.move rfl) ?_
      refine .w (.as (v' := dgV ((m.get (i : Int)).getD D0)) (.extract rfl rfl) rfl) ?_
      refine .w (.as (v' := .bool (m.get (i : Int)).isSome) (.extract rfl rfl) rfl) ?_
      refine .al zero_53 fun b7 => ?_
      first | refine .sa sz_53 ?_ | refine .so sz_53 ?_ | refine .sr sz_53 ?_
      refine .w (.assign rfl) ?_
      refine .nil (.tn (.seq (.block (.seq (.region ?_)))))
      refine .w (.move rfl) ?_
      refine .w (.nilCheck rfl) ?_
      refine .w (.fieldAddr fa_93_0 rfl) ?_
      refine .w (.ld one_22 rfl) ?_
      refine .w (.move rfl) ?_
      refine .w (.ix1 Tryz.underlying22 sz_30 rfl rfl) ?_
      refine .w (.ld one_30 rfl) ?_
      refine .w (.as (v' := .bool (decide (stk S i = 0))) (.bin rfl rfl (BinR.eql_u64 (b := 0#64))) (congrArg Value.bool (decide_eq_decide.2 (stk0 S i)))) ?_
      refine .w (.assign rfl) ?_
      refine .nil (.tn ?_)
      refine .cn rfl (fun hc2 => ?_) (fun hc2 => ?_)
      · try simp only [BitVec.reduceToNat] at hc2
        have hE : voteE S m.get i v = 51 := by rw [voteE, if_neg hc1, if_pos hc2]
        refine .seq (.region ?_)
        refine .w (.assign rfl) ?_
        refine .nil (.tn (.ret (.block_ret (.then_ret ?_))))
        exact .dn [] [mpR a itK dgV m, mpR b itK blV tw] (res1 rfl (.tmp rfl)) ⟨m, tw, by rw [hE], hT, by rw [hE]; rfl, id, by rw [hE]; rfl, rfl, rfl⟩
      · try simp only [BitVec.reduceToNat] at hc2
        skip
        refine .seq (.region ?_)
        refine .w (.move rfl) ?_
        refine .join 5 44 (.bool (decide (m.get ((i : Nat) : Int) = some v))) ?_ ?_
        · refine .w (.move rfl) ?_
          refine .gn (g := 8) rfl (fun hg39 hg39' => ?_) (fun hg39 hg39' => ?_)
          · refine .gt (g := 40) rfl rfl hg39 ?_
            refine .w (.as (v' := dgV ((m.get (i : Int)).getD D0)) (.lda agg_53 rfl) rfl) ?_
            refine .gt (g := 40) rfl rfl hg39 ?_
            refine .w (.as (v' := dgV v) (.lda agg_53 rfl) rfl) ?_
            refine .gt (g := 40) rfl rfl hg39 ?_
            refine .w (.bin rfl rfl (eql_dig)) ?_
            refine .w (.pick1 rfl hg39 rfl) ?_
            refine .nil ?_
            refine .head () (by first | (refine ⟨by first | rfl | exact congrArg some (congrArg Value.bool (by first | (obtain ⟨u, hu⟩ := Option.isSome_iff_exists.1 hg39'; rw [hu]; simp; done) | (cases hm : m.get ((i : Nat) : Int) <;> simp_all; done))), ?_⟩; repeat (first | exact trivial | refine ⟨rfl, ?_⟩))) (fun _ h => h) (Picks.perm zqd) ?_
            trivial
          · refine .gf (g := 40) rfl rfl hg39 (by decide) ?_
            refine .gf (g := 40) rfl rfl hg39 (by decide) ?_
            refine .gf (g := 40) rfl rfl hg39 (by decide) ?_
            refine .w (.pick0 rfl hg39 rfl) ?_
            refine .nil ?_
            refine .head () (by first | (refine ⟨by first | rfl | exact congrArg some (congrArg Value.bool (by first | (obtain ⟨u, hu⟩ := Option.isSome_iff_exists.1 hg39'; rw [hu]; simp; done) | (cases hm : m.get ((i : Nat) : Int) <;> simp_all; done))), ?_⟩; repeat (first | exact trivial | refine ⟨rfl, ?_⟩))) (fun _ h => h) (Picks.perm zqd) ?_
            trivial
        · refine .w (.assign rfl) ?_
          refine .nil (.tn ?_)
          refine .cn rfl (fun hc3 => ?_) (fun hc3 => ?_)
          · have hE : voteE S m.get i v = 13 := by rw [voteE, if_neg hc1, if_neg hc2, if_pos hc3]
            refine .seq (.region ?_)
            refine .w (.assign rfl) ?_
            refine .nil (.tn (.ret (.block_ret (.then_ret ?_))))
            exact .dn [] [mpR a itK dgV m, mpR b itK blV tw] (res1 rfl (.tmp rfl)) ⟨m, tw, by rw [hE], hT, by rw [hE]; rfl, id, by rw [hE]; rfl, rfl, rfl⟩
          · skip
            refine .seq (.region ?_)
            refine .w (.move rfl) ?_
            refine .w (.assign rfl) ?_
            refine .nil (.tn ?_)
            refine .cn rfl (fun hc4 => ?_) (fun hc4 => ?_)
            · have hE : voteE S m.get i v = 52 := by rw [voteE, if_neg hc1, if_neg hc2, if_neg hc3, if_pos hc4]
              refine .seq (.region ?_)
              refine .w (.move rfl) ?_
              refine .w (.nilCheck rfl) ?_
              refine .w (.fieldAddr fa_93_3 rfl) ?_
              refine .w (.ld one_91 rfl) ?_
              refine .w (.move rfl) ?_
              refine .mu ((i : Nat) : Int) true Tryz.underlying91 mkey_91 ?_
              refine .nil (.tn (.seq (.region ?_)))
              refine .w (.assign rfl) ?_
              refine .nil (.tn (.ret (.block_ret (.then_ret ?_))))
              exact .dn [] [mpR a itK dgV m, mpR b itK blV (tw.put i true)] (res1 rfl (.tmp rfl)) ⟨m, tw.put i true, by rw [hE], hT, by rw [hE]; rfl, fun h => MM.ok_put h _ _, by rw [hE]; rfl, rfl, rfl⟩
            · have hE : voteE S m.get i v = 0 := by rw [voteE, if_neg hc1, if_neg hc2, if_neg hc3, if_neg (by rw [hc4]; decide)]
              refine .skip (.block_normal (.tn (.seq ?_)))
              refine JC.draw (.one 0 (.one 1 (.one 2 (.one 3 (.one 4 (.one 5 (.one 6 .nil))))))) (fun i => ([6] : List Nat).contains i) (fun i => ([6] : List Nat).contains i) (fun i => ([0, 1, 2, 4] : List Nat).contains i) mixed (by kernel_rfl) (by decide) (by kernel_rfl) ?_
              refine .uw rfl (.move rfl) ?_
              refine .uw rfl (.nilCheck rfl) ?_
              refine .uw rfl (.fieldAddr fa_93_2 rfl) ?_
              refine .w rfl (.ld one_90 rfl) ?_
              refine .uw rfl (.move rfl) ?_
              refine .w rfl (.as (v' := dgV v) (.lda agg_53 rfl) rfl) ?_
              refine .mw0 rfl (.mu ((i : Nat) : Int) v Tryz.underlying90 mkey_90) ?_
              rintro _ _ _ ⟨rfl, rfl⟩
              refine kp ?_
              refine .nil (.tn (.seq (.region ?_)))
              refine .w (.assign rfl) ?_
              refine .nil (.tn (.ret ?_))
              exact .dn [] [mpR a itK dgV (m.put i v), mpR b itK blV tw] (res1 rfl (.tmp rfl)) ⟨m.put i v, tw, by rw [hE], tok_put hT v (by omega) (by omega), by rw [hE]; rfl, id, by rw [hE]; rfl, rfl, rfl⟩

set_option maxHeartbeats 1000000 in
theorem f21ok_spec (u : Value) (S : List W64) (h1 : 1 ≤ S.length) (h2 : S.length ≤ 40) (h3 : sumS S < 9223372036854775808) :
    Spec Tryz.prog 21 #[u] [Res.var 0 [u64 9223372036854775808, u64 0, u64 0, u64 0], Res.rd u S.length 1 (S.map u64)] []
      (fun r Γ' H' => ∃ p a b sv, r = .tuple #[ptr p 0, it 0] ∧ Γ' = [] ∧ H' = [Res.cells p [sv, u64 (BitVec.ofNat 64 (sumS S)), .map (some a), .map (some b)] 93, Res.row sv S.length 30 1 (S.map u64), mpR a itK dgV MM.nil, mpR b itK blV MM.nil]) := by
  refine Spec.of_args Tryz.func21 rfl Tryz.ntmps21 (by simp) fun w => ?_
  refine JC.know (φ := S.length ≤ 9223372036854775807) (fun w hs => by obtain ⟨_, _, _, _, _, _, h⟩ := hs.rdForm (.tail _ (.head _)); unfold maxLen at h; omega) fun hln => ?_
  have htot : totN S = sumS S := totN_sum (by omega)
  refine .seq (.region ?_)
  refine .w (.assign rfl) ?_
  refine .w (.assign rfl) ?_
  refine .nil (.tn (.seq (.region ?_)))
  refine .w (.move rfl) ?_
  refine .c (f36_spec u S) body_36 ?_
  refine .al zero_87 fun b4 => ?_
  first | refine .sa sz_87 ?_ | refine .so sz_87 ?_ | refine .sr sz_87 ?_
  refine .nil (.tn (.seq (.block (.seq (.region ?_)))))
  refine .w (.move rfl) ?_
  refine .join 7 15 (.bool (decide (S.length < 1 ∨ 40 < S.length))) ?_ ?_
  · refine .w (.len Tryz.underlying22 rfl) ?_
    refine .w (.bin rfl rfl BinR.lss_i) ?_
    refine .w (.move rfl) ?_
    refine .gn (g := 10) rfl (fun hg11 hg11' => ?_) (fun hg11 hg11' => ?_)
    · refine .gf (g := 11) rfl rfl hg11 (by decide) ?_
      refine .gf (g := 11) rfl rfl hg11 (by decide) ?_
      refine .gf (g := 11) rfl rfl hg11 (by decide) ?_
      refine .w (.pick1 rfl hg11 rfl) ?_
      refine .nil ?_
      refine .head () (by first | (refine ⟨by first | rfl | exact congrArg (fun b => some (Value.bool b)) (by first | exact (decide_eq_true (by omega)).symm | exact (decide_eq_false (by omega)).symm | exact decide_eq_decide.2 (by omega)) | (simp [*]; done) | (show some _ = some _; simp [*]; done), ?_⟩; repeat (first | exact trivial | refine ⟨rfl, ?_⟩))) (fun _ h => h) (Picks.perm zqd) ?_
      trivial
    · refine .gt (g := 11) rfl rfl hg11 ?_
      refine .w (.move rfl) ?_
      refine .gt (g := 11) rfl rfl hg11 ?_
      refine .w (.len Tryz.underlying22 rfl) ?_
      refine .gt (g := 11) rfl rfl hg11 ?_
      refine .w (.bin rfl rfl BinR.gtr_i) ?_
      refine .w (.pick0 rfl hg11 rfl) ?_
      refine .nil ?_
      refine .head () (by first | (refine ⟨by first | rfl | exact congrArg (fun b => some (Value.bool b)) (by first | exact (decide_eq_true (by omega)).symm | exact (decide_eq_false (by omega)).symm | exact decide_eq_decide.2 (by omega)) | (simp [*]; done) | (show some _ = some _; simp [*]; done), ?_⟩; repeat (first | exact trivial | refine ⟨rfl, ?_⟩))) (fun _ h => h) (Picks.perm zqd) ?_
      trivial
  · refine .w (.assign rfl) ?_
    refine .nil (.tn ?_)
    refine .cn rfl (fun hc1 => ?_) (fun hc1 => ?_)
    · exact absurd hc1 (by omega)
    · refine .seq (.region ?_)
      refine .w (.as (v' := .agg ((wd (totN S)).map u64).toArray) (.lda agg_87 rfl) rfl) ?_
      refine .w (.as (v' := .agg ((wd 9223372036854775808).map u64).toArray) (.lda agg_87 rfl) rfl) ?_
      refine .c (f37_spec (totN S) 9223372036854775808 (tot_lt _) (by decide)) body_37 ?_
      refine .w (.as (v' := .bool (decide (9223372036854775808 ≤ totN S))) (.bin rfl rfl BinR.geq_i) (congrArg Value.bool (decide_eq_decide.2 (cmp_ge _ _)))) ?_
      refine .w (.assign rfl) ?_
      refine .nil (.tn ?_)
      refine .cn rfl (fun hc2 => ?_) (fun hc2 => ?_)
      · exact absurd hc2 (by omega)
      · refine .skip (.block_normal (.tn (.seq ?_)))
        refine JC.draw (.one 0 (.one 2 (.one 3 (.alt 1 (.alt 4 (.one 5 (.one 6 (.one 7 (.one 8 (.one 9 .nil))))) (.alt 5 (.one 4 (.one 6 (.one 7 (.one 8 (.one 9 .nil))))) .nil)) (.alt 4 (.alt 1 (.one 5 (.one 6 (.one 7 (.one 8 (.one 9 .nil))))) (.alt 5 (.one 1 (.one 6 (.one 7 (.one 8 (.one 9 .nil))))) .nil)) (.alt 5 (.alt 1 (.one 4 (.one 6 (.one 7 (.one 8 (.one 9 .nil))))) (.alt 4 (.one 1 (.one 6 (.one 7 (.one 8 (.one 9 .nil))))) .nil)) .nil)))))) (fun i => ([7] : List Nat).contains i) (fun i => ([1, 4, 5, 7] : List Nat).contains i) (fun i => ([0, 2, 6, 8, 9] : List Nat).contains i) mixed (by kernel_rfl) (by decide) (by kernel_rfl) ?_
        refine .uw rfl (.move rfl) ?_
        refine .uw rfl (.ixA (j := 0) Tryz.underlying87 sz_30 rfl rfl) ?_
        refine .w rfl (.as (v' := u64 (BitVec.ofNat 64 (totN S))) (.ld one_30 rfl) rfl) ?_
        refine JR.alt rfl ?_ ?_
        · refine .mw rfl (.cb (f22_spec u S.length (S.map u64) (by omega) (one_map fun _ => rfl)) body_22) ?_
          rintro sv _ _ ⟨_, ⟨_, _, rfl⟩, hΓ, hH⟩
          simp only [List.cons_append, List.nil_append] at hH; subst hΓ hH
          refine kp ?_
          refine JR.know (φ := ∃ A c, sv = .slice A S.length c) (fun w hs => hs.rowSl zqa) fun ⟨A, c, hsv⟩ => ?_
          subst hsv
          refine JR.alt rfl ?_ ?_
          · refine .mw rfl (.mm itK dgV) ?_
            rintro v25 _ _ ⟨b25, rfl, rfl, rfl⟩
            refine kp ?_
            refine .mw rfl (.mm itK blV) ?_
            rintro v26 _ _ ⟨b26, rfl, rfl, rfl⟩
            refine kp ?_
            refine .uw rfl (.build bld_93 rfl rfl) ?_
            refine .mw rfl (Mv.box rfl) ?_
            rintro _ _ _ ⟨b28, rfl, rfl, rfl⟩
            refine kp ?_
            refine .uw rfl (.assign rfl) ?_
            refine .uw rfl (.assign rfl) ?_
            refine .nil (.tn (.ret ?_))
            rw [← htot]
            exact .dn [] [Res.cells _ [_, _, _, _] 93, Res.row _ S.length 30 1 (S.map u64), mpR _ itK dgV MM.nil, mpR _ itK blV MM.nil] (res2 rfl (.tmp rfl) (.tmp rfl)) ⟨_, _, _, _, rfl, rfl, rfl⟩
          refine JA.alt rfl ?_ ?_
          · refine .mw rfl (.mm itK blV) ?_
            rintro v26 _ _ ⟨b26, rfl, rfl, rfl⟩
            refine kp ?_
            refine .mw rfl (.mm itK dgV) ?_
            rintro v25 _ _ ⟨b25, rfl, rfl, rfl⟩
            refine kp ?_
            refine .uw rfl (.build bld_93 rfl rfl) ?_
            refine .mw rfl (Mv.box rfl) ?_
            rintro _ _ _ ⟨b28, rfl, rfl, rfl⟩
            refine kp ?_
            refine .uw rfl (.assign rfl) ?_
            refine .uw rfl (.assign rfl) ?_
            refine .nil (.tn (.ret ?_))
            rw [← htot]
            exact .dn [] [Res.cells _ [_, _, _, _] 93, Res.row _ S.length 30 1 (S.map u64), mpR _ itK dgV MM.nil, mpR _ itK blV MM.nil] (res2 rfl (.tmp rfl) (.tmp rfl)) ⟨_, _, _, _, rfl, rfl, rfl⟩
          exact JA.nil
        refine JA.alt rfl ?_ ?_
        · refine .mw rfl (.mm itK dgV) ?_
          rintro v25 _ _ ⟨b25, rfl, rfl, rfl⟩
          refine kp ?_
          refine JR.alt rfl ?_ ?_
          · refine .mw rfl (.cb (f22_spec u S.length (S.map u64) (by omega) (one_map fun _ => rfl)) body_22) ?_
            rintro sv _ _ ⟨_, ⟨_, _, rfl⟩, hΓ, hH⟩
            simp only [List.cons_append, List.nil_append] at hH; subst hΓ hH
            refine kp ?_
            refine JR.know (φ := ∃ A c, sv = .slice A S.length c) (fun w hs => hs.rowSl zqa) fun ⟨A, c, hsv⟩ => ?_
            subst hsv
            refine .mw rfl (.mm itK blV) ?_
            rintro v26 _ _ ⟨b26, rfl, rfl, rfl⟩
            refine kp ?_
            refine .uw rfl (.build bld_93 rfl rfl) ?_
            refine .mw rfl (Mv.box rfl) ?_
            rintro _ _ _ ⟨b28, rfl, rfl, rfl⟩
            refine kp ?_
            refine .uw rfl (.assign rfl) ?_
            refine .uw rfl (.assign rfl) ?_
            refine .nil (.tn (.ret ?_))
            rw [← htot]
            exact .dn [] [Res.cells _ [_, _, _, _] 93, Res.row _ S.length 30 1 (S.map u64), mpR _ itK dgV MM.nil, mpR _ itK blV MM.nil] (res2 rfl (.tmp rfl) (.tmp rfl)) ⟨_, _, _, _, rfl, rfl, rfl⟩
          refine JA.alt rfl ?_ ?_
          · refine .mw rfl (.mm itK blV) ?_
            rintro v26 _ _ ⟨b26, rfl, rfl, rfl⟩
            refine kp ?_
            refine .mw rfl (.cb (f22_spec u S.length (S.map u64) (by omega) (one_map fun _ => rfl)) body_22) ?_
            rintro sv _ _ ⟨_, ⟨_, _, rfl⟩, hΓ, hH⟩
            simp only [List.cons_append, List.nil_append] at hH; subst hΓ hH
            refine kp ?_
            refine JR.know (φ := ∃ A c, sv = .slice A S.length c) (fun w hs => hs.rowSl zqa) fun ⟨A, c, hsv⟩ => ?_
            subst hsv
            refine .uw rfl (.build bld_93 rfl rfl) ?_
            refine .mw rfl (Mv.box rfl) ?_
            rintro _ _ _ ⟨b28, rfl, rfl, rfl⟩
            refine kp ?_
            refine .uw rfl (.assign rfl) ?_
            refine .uw rfl (.assign rfl) ?_
            refine .nil (.tn (.ret ?_))
            rw [← htot]
            exact .dn [] [Res.cells _ [_, _, _, _] 93, Res.row _ S.length 30 1 (S.map u64), mpR _ itK dgV MM.nil, mpR _ itK blV MM.nil] (res2 rfl (.tmp rfl) (.tmp rfl)) ⟨_, _, _, _, rfl, rfl, rfl⟩
          exact JA.nil
        refine JA.alt rfl ?_ ?_
        · refine .mw rfl (.mm itK blV) ?_
          rintro v26 _ _ ⟨b26, rfl, rfl, rfl⟩
          refine kp ?_
          refine JR.alt rfl ?_ ?_
          · refine .mw rfl (.cb (f22_spec u S.length (S.map u64) (by omega) (one_map fun _ => rfl)) body_22) ?_
            rintro sv _ _ ⟨_, ⟨_, _, rfl⟩, hΓ, hH⟩
            simp only [List.cons_append, List.nil_append] at hH; subst hΓ hH
            refine kp ?_
            refine JR.know (φ := ∃ A c, sv = .slice A S.length c) (fun w hs => hs.rowSl zqa) fun ⟨A, c, hsv⟩ => ?_
            subst hsv
            refine .mw rfl (.mm itK dgV) ?_
            rintro v25 _ _ ⟨b25, rfl, rfl, rfl⟩
            refine kp ?_
            refine .uw rfl (.build bld_93 rfl rfl) ?_
            refine .mw rfl (Mv.box rfl) ?_
            rintro _ _ _ ⟨b28, rfl, rfl, rfl⟩
            refine kp ?_
            refine .uw rfl (.assign rfl) ?_
            refine .uw rfl (.assign rfl) ?_
            refine .nil (.tn (.ret ?_))
            rw [← htot]
            exact .dn [] [Res.cells _ [_, _, _, _] 93, Res.row _ S.length 30 1 (S.map u64), mpR _ itK dgV MM.nil, mpR _ itK blV MM.nil] (res2 rfl (.tmp rfl) (.tmp rfl)) ⟨_, _, _, _, rfl, rfl, rfl⟩
          refine JA.alt rfl ?_ ?_
          · refine .mw rfl (.mm itK dgV) ?_
            rintro v25 _ _ ⟨b25, rfl, rfl, rfl⟩
            refine kp ?_
            refine .mw rfl (.cb (f22_spec u S.length (S.map u64) (by omega) (one_map fun _ => rfl)) body_22) ?_
            rintro sv _ _ ⟨_, ⟨_, _, rfl⟩, hΓ, hH⟩
            simp only [List.cons_append, List.nil_append] at hH; subst hΓ hH
            refine kp ?_
            refine JR.know (φ := ∃ A c, sv = .slice A S.length c) (fun w hs => hs.rowSl zqa) fun ⟨A, c, hsv⟩ => ?_
            subst hsv
            refine .uw rfl (.build bld_93 rfl rfl) ?_
            refine .mw rfl (Mv.box rfl) ?_
            rintro _ _ _ ⟨b28, rfl, rfl, rfl⟩
            refine kp ?_
            refine .uw rfl (.assign rfl) ?_
            refine .uw rfl (.assign rfl) ?_
            refine .nil (.tn (.ret ?_))
            rw [← htot]
            exact .dn [] [Res.cells _ [_, _, _, _] 93, Res.row _ S.length 30 1 (S.map u64), mpR _ itK dgV MM.nil, mpR _ itK blV MM.nil] (res2 rfl (.tmp rfl) (.tmp rfl)) ⟨_, _, _, _, rfl, rfl, rfl⟩
          exact JA.nil
        exact JA.nil

set_option maxHeartbeats 1000000 in
theorem f21no_spec (u : Value) (S : List W64) (hbad : newE S ≠ 0) :
    Spec Tryz.prog 21 #[u] [Res.var 0 [u64 9223372036854775808, u64 0, u64 0, u64 0], Res.rd u S.length 1 (S.map u64)] []
      (fun r Γ' H' => r = (.tuple #[.pointer none, it (newE S)]) ∧ Γ' = [] ∧ H' = []) := by
  refine Spec.of_args Tryz.func21 rfl Tryz.ntmps21 (by simp) fun w => ?_
  refine JC.know (φ := S.length ≤ 9223372036854775807) (fun w hs => by obtain ⟨_, _, _, _, _, _, h⟩ := hs.rdForm (.tail _ (.head _)); unfold maxLen at h; omega) fun hln => ?_
  refine .seq (.region ?_)
  refine .w (.assign rfl) ?_
  refine .w (.assign rfl) ?_
  refine .nil (.tn (.seq (.region ?_)))
  refine .w (.move rfl) ?_
  refine .c (f36_spec u S) body_36 ?_
  refine .al zero_87 fun b4 => ?_
  first | refine .sa sz_87 ?_ | refine .so sz_87 ?_ | refine .sr sz_87 ?_
  refine .nil (.tn (.seq (.block (.seq (.region ?_)))))
  refine .w (.move rfl) ?_
  refine .join 7 15 (.bool (decide (S.length < 1 ∨ 40 < S.length))) ?_ ?_
  · refine .w (.len Tryz.underlying22 rfl) ?_
    refine .w (.bin rfl rfl BinR.lss_i) ?_
    refine .w (.move rfl) ?_
    refine .gn (g := 10) rfl (fun hg11 hg11' => ?_) (fun hg11 hg11' => ?_)
    · refine .gf (g := 11) rfl rfl hg11 (by decide) ?_
      refine .gf (g := 11) rfl rfl hg11 (by decide) ?_
      refine .gf (g := 11) rfl rfl hg11 (by decide) ?_
      refine .w (.pick1 rfl hg11 rfl) ?_
      refine .nil ?_
      refine .head () (by first | (refine ⟨by first | rfl | exact congrArg (fun b => some (Value.bool b)) (by first | exact (decide_eq_true (by omega)).symm | exact (decide_eq_false (by omega)).symm | exact decide_eq_decide.2 (by omega)) | (simp [*]; done) | (show some _ = some _; simp [*]; done), ?_⟩; repeat (first | exact trivial | refine ⟨rfl, ?_⟩))) (fun _ h => h) (Picks.perm zqd) ?_
      trivial
    · refine .gt (g := 11) rfl rfl hg11 ?_
      refine .w (.move rfl) ?_
      refine .gt (g := 11) rfl rfl hg11 ?_
      refine .w (.len Tryz.underlying22 rfl) ?_
      refine .gt (g := 11) rfl rfl hg11 ?_
      refine .w (.bin rfl rfl BinR.gtr_i) ?_
      refine .w (.pick0 rfl hg11 rfl) ?_
      refine .nil ?_
      refine .head () (by first | (refine ⟨by first | rfl | exact congrArg (fun b => some (Value.bool b)) (by first | exact (decide_eq_true (by omega)).symm | exact (decide_eq_false (by omega)).symm | exact decide_eq_decide.2 (by omega)) | (simp [*]; done) | (show some _ = some _; simp [*]; done), ?_⟩; repeat (first | exact trivial | refine ⟨rfl, ?_⟩))) (fun _ h => h) (Picks.perm zqd) ?_
      trivial
  · refine .w (.assign rfl) ?_
    refine .nil (.tn ?_)
    refine .cn rfl (fun hc1 => ?_) (fun hc1 => ?_)
    · have hE : newE S = 2 := if_pos hc1
      refine .seq (.region ?_)
      refine .w (.assign rfl) ?_
      refine .w (.assign rfl) ?_
      refine .nil (.tn (.ret (.block_ret (.then_ret ?_))))
      exact .dn [] [] (res2 rfl (.tmp rfl) (.tmp rfl)) ⟨by rw [hE], rfl, rfl⟩
    · skip
      refine .seq (.region ?_)
      refine .w (.as (v' := .agg ((wd (totN S)).map u64).toArray) (.lda agg_87 rfl) rfl) ?_
      refine .w (.as (v' := .agg ((wd 9223372036854775808).map u64).toArray) (.lda agg_87 rfl) rfl) ?_
      refine .c (f37_spec (totN S) 9223372036854775808 (tot_lt _) (by decide)) body_37 ?_
      refine .w (.as (v' := .bool (decide (9223372036854775808 ≤ totN S))) (.bin rfl rfl BinR.geq_i) (congrArg Value.bool (decide_eq_decide.2 (cmp_ge _ _)))) ?_
      refine .w (.assign rfl) ?_
      refine .nil (.tn ?_)
      refine .cn rfl (fun hc2 => ?_) (fun hc2 => ?_)
      · have hE : newE S = 10 := by rw [newE, if_neg hc1, if_pos hc2]
        refine .seq (.region ?_)
        refine .w (.assign rfl) ?_
        refine .w (.assign rfl) ?_
        refine .nil (.tn (.ret (.block_ret (.then_ret ?_))))
        exact .dn [] [] (res2 rfl (.tmp rfl) (.tmp rfl)) ⟨by rw [hE], rfl, rfl⟩
      · exact absurd (by rw [newE, if_neg hc1, if_neg hc2]) hbad

theorem f32_spec (p a b : Nat) (sv : Value) (al : W64) (S : List W64) (m : MM Int D32) (v : D32) (hT : TOk S m) (hS : sumS S < 18446744073709551616) (hal : al.toNat = sumS S) :
    Spec Tryz.prog 32 #[(ptr p 0), (dgV v)] [Res.cells p [sv, u64 al, .map (some a), .map (some b)] 93, Res.rd sv S.length 1 (S.map u64), mpR a itK dgV m] []
      (fun r Γ' H' => r = (.bool (decide (sumS S < 3 * forA S m.get v))) ∧ Γ' = [] ∧ H' = []) := by
  refine Spec.of_args Tryz.func32 rfl Tryz.ntmps32 (by simp) fun w => ?_
  have hfl := forA_le S m.get v
  refine .seq (.region ?_)
  refine .bx fun b3 => ?_
  refine .w (.assign rfl) ?_
  refine .nil (.tn (.seq ?_))
  refine JC.draw (.one 0 (.one 1 (.one 3 (.one 4 (.one 5 (.one 6 (.one 2 (.one 7 (.one 8 .nil))))))))) (fun i => ([7] : List Nat).contains i) (fun i => ([2, 7] : List Nat).contains i) (fun i => ([0, 3, 4, 5, 8] : List Nat).contains i) mixed (by kernel_rfl) (by decide) (by kernel_rfl) ?_
  refine .uw rfl (.move rfl) ?_
  refine .w rfl (.as (v' := dgV v) (.lda agg_53 rfl) rfl) ?_
  refine .uw rfl (.move rfl) ?_
  refine .uw rfl (.nilCheck rfl) ?_
  refine .uw rfl (.fieldAddr fa_93_1 rfl) ?_
  refine .w rfl (.ld one_30 rfl) ?_
  refine .mw rfl (.c (f54_spec p a b sv al S m v hT hS) body_54) ?_
  rintro _ _ _ ⟨rfl, rfl, rfl⟩
  refine kp ?_
  refine .mw rfl (.c (f53_spec (BitVec.ofNat 64 (forA S m.get v)) al) body_53) ?_
  rintro _ _ _ ⟨rfl, rfl, rfl⟩
  rw [BitVec.toNat_ofNat, Nat.mod_eq_of_lt (by omega), hal]
  refine kp ?_
  refine .uw rfl (.assign rfl) ?_
  refine .nil (.tn (.ret ?_))
  exact .dn [] [] (res1 rfl (.tmp rfl)) ⟨rfl, rfl, rfl⟩
end Go.Proofs.YthfipbjmpeegbaaGreatDoor

/- Rows of what has more cells than one: made, read, written by blocks. No program in sight. -/
namespace Go.Proofs.YthfipbjmpeegbaaGreatDoor
open Go.RowKit
set_option linter.unusedVariables false
set_option linter.unusedSimpArgs false
/-! ### Blocks -/
/-- All of them have s cells. -/
class FS {α : Type} (f : α → List Value) (s : outParam Nat) : Prop where
  len : ∀ a, (f a).length = s
  one : ∀ a, ∀ v ∈ f a, v.oneCell' = true
def bks {α : Type} (f : α → List Value) (l : List α) : List Value := l.flatMap f
section
variable {α : Type} {f : α → List Value} {s : Nat} [h : FS f s]
@[simp] theorem bks_nil : bks f [] = [] := rfl
theorem bks_cons (a : α) (l : List α) : bks f (a :: l) = f a ++ bks f l := rfl
theorem bks_len (l : List α) : (bks f l).length = l.length * s := by
  induction l with
  | nil => simp
  | cons a l ih => rw [bks_cons, List.length_append, h.len, ih, List.length_cons, Nat.succ_mul, Nat.add_comm]
theorem bks_take (l : List α) (k : Nat) : (bks f l).take (k * s) = bks f (l.take k) := by
  induction l generalizing k with
  | nil => simp
  | cons a l ih =>
    cases k with
    | zero => simp
    | succ k =>
      rw [bks_cons, List.take_succ_cons, bks_cons, ← ih k, List.take_append, h.len, List.take_of_length_le (by rw [h.len, Nat.succ_mul]; omega)]
      congr 2
      rw [Nat.succ_mul]; omega
theorem bks_drop (l : List α) (k : Nat) : (bks f l).drop (k * s) = bks f (l.drop k) := by
  induction l generalizing k with
  | nil => simp
  | cons a l ih =>
    cases k with
    | zero => simp
    | succ k =>
      rw [bks_cons, List.drop_succ_cons, ← ih k, List.drop_append, h.len, List.drop_of_length_le (by rw [h.len, Nat.succ_mul]; omega), List.nil_append]
      congr 1
      rw [Nat.succ_mul]; omega
theorem bks_piece {l : List α} {k : Nat} (d : α) (hk : k < l.length) : ((bks f l).drop (k * s)).take s = f (l.getD k d) := by
  have h1 := bks_take (f := f) (l.drop k) 1
  rw [Nat.one_mul] at h1
  rw [bks_drop, h1, List.drop_eq_getElem_cons hk, List.take_succ_cons, List.take_zero, bks_cons, bks_nil, List.append_nil, List.getD_eq_getElem?_getD, List.getElem?_eq_getElem hk, Option.getD_some]
theorem bks_get {l : List α} {k j : Nat} (d : α) (hk : k < l.length) (hj : j < s) : (bks f l)[k * s + j]? = (f (l.getD k d))[j]? := by
  rw [← bks_piece (f := f) d hk, List.getElem?_take_of_lt hj, List.getElem?_drop]
end
/-! ### Rows that are made -/
section
variable {P : Program} {N : Nat} {C : Beg} {Q : Exit → Act → World → Prop} {E : Env} {Γ H : RL} {ty : TypeId} {ops : Array Oper} {rest : List Oper}
theorem Mv.sr {T m : Nat} {x y : Operand} {v u : Value} {o n : Nat} {e : TypeId} {size : Nat} {us xs : List Value} {H' : RL} (hT : (P.info? T).map (·.size) = some m) (hx : ev E x = some (ptr (blk v) o) := by rfl) (hy : ev E y = some u := by rfl) (hu : u.cells = us.toArray := by rfl) (hm : us.length = m := by first | rfl | (simp; done) | (simp; omega) | (simp [*]; done) | fail) (h1 : ∀ a ∈ us, a.oneCell' = true := by first | (simp; done) | exact one_sing rfl | exact one_map (fun _ => rfl) | exact one_piece (one_map (fun _ => rfl)) | exact one_tab (fun _ => rfl) | exact one_tab (fun _ => by split <;> rfl) | fail) (hp : Upd H (Res.row v n e size xs) (Res.row v n e size (splice xs o us)) H' := by (repeat (first | exact Upd.here _ _ _ | apply Upd.there)); first | done | fail) (hn : 0 < n := by first | exact ltb rfl | (simp; done) | (simp; omega) | omega | (simp [*]; omega) | fail) (hl : o + m ≤ n * size := by first | (simp; done) | omega | (simp; omega) | fail) : Mv P N C E Γ H (.store T x y) ty (fun _ Γ1 H1 => Γ1 = Γ ∧ H1 = H') := .storeRow hT hx hy hu hm h1 hp hn hl
end
end Go.Proofs.YthfipbjmpeegbaaGreatDoor

/- The document's numbers of sixty-four bytes: the plain side. No program in sight. -/
namespace Go.Proofs.YthfipbjmpeegbaaGreatDoor
open Go.RowKit
/-- A number's byte. -/
def dgN (n i : Nat) : Nat := n / 256 ^ i % 256
/-- All its bytes. -/
def dgs (n : Nat) : List Value := tab 64 fun i => it ((dgN n i : Nat) : Int)
@[simp] theorem dgs_len (n : Nat) : (dgs n).length = 64 := tab_len
def dT (f : Nat → Nat) (k : Nat) : List Value := tab 64 fun j => if j < k then it ((f j : Nat) : Int) else it 0
@[simp] theorem dT_len (f : Nat → Nat) (k : Nat) : (dT f k).length = 64 := tab_len
/-! ### A sum -/
def cr8 (a b i : Nat) : Nat := (a % 256 ^ i + b % 256 ^ i) / 256 ^ i
/-! ### To and from words -/
attribute [irreducible] dgN cr8
end Go.Proofs.YthfipbjmpeegbaaGreatDoor

/- The document's numbers of sixty-four bytes: differences, division, products: the plain side. No program in sight. -/
namespace Go.Proofs.YthfipbjmpeegbaaGreatDoor
open Go.RowKit
def big : Nat := 256 ^ 64
/-! ### Differences -/
def br8 (a b i : Nat) : Nat := if a % 256 ^ i < b % 256 ^ i then 1 else 0
/-! ### Division, bit by bit -/
/-- How often it went so far. -/
def oftK (W m k : Nat) : Nat := W / 2 ^ k / m
/-! ### Products -/
/-- What a product's row has come to: a times the first k bytes of b, at byte i, over what was there. -/
def rowL (X a b i j : Nat) : Nat := X % 256 ^ (i + j) + a * 256 ^ i * (b % 256 ^ j)
/-- The bytes of a row that is under way. -/
def rowT (X a b i j : Nat) : List Value := tab 64 fun t => if t < i + j then it ((dgN (rowL X a b i j) t : Nat) : Int) else it ((dgN X t : Nat) : Int)
@[simp] theorem rowT_len (X a b i j : Nat) : (rowT X a b i j).length = 64 := tab_len
/-- The rows of a product, added up. -/
def prodK (a b i : Nat) : Nat := (a % 256 ^ i) * b
/-! ### Eight words -/
def w8at (n j : Nat) : W64 := BitVec.ofNat 64 (n / 2 ^ (64 * j))
def we8 (n : Nat) : List W64 := (List.range 8).map (w8at n)
@[simp] theorem we8_len (n : Nat) : (we8 n).length = 8 := by simp [we8]
/-- What is carried. -/
def rowC (X a b i j : Nat) : Nat := rowL X a b i j / 256 ^ (i + j)
attribute [irreducible] br8 oftK rowL prodK big w8at rowC
end Go.Proofs.YthfipbjmpeegbaaGreatDoor

/- The document's tally: what it holds. No program in sight. -/
namespace Go.Proofs.YthfipbjmpeegbaaGreatDoor
open Go.RowKit
set_option linter.unusedVariables false
set_option linter.unusedSimpArgs false
abbrev dgC (d : D32) : List Value := d.1.map u8
instance : FS dgC 32 := ⟨fun d => by simp [d.2], fun d v hv => by obtain ⟨x, _, rfl⟩ := List.mem_map.1 hv; rfl⟩
/-- Who has voted; what for; who voted twice. -/
def isT (n : Nat) (g : Int → Option D32) : List Value := tab n fun i => .bool (g (i : Int)).isSome
def agT (n : Nat) (t : Int → Bool) : List Value := tab n fun i => .bool (t (i : Int))
def vvL (n : Nat) (g : Int → Option D32) : List D32 := (List.range n).map fun i : Nat => (g (i : Int)).getD D0
@[simp] theorem vvL_len (n : Nat) (g : Int → Option D32) : (vvL n g).length = n := by simp [vvL]
@[simp] theorem isT_len (n : Nat) (g : Int → Option D32) : (isT n g).length = n := tab_len
@[simp] theorem agT_len (n : Nat) (t : Int → Bool) : (agT n t).length = n := tab_len
@[simp] theorem vv_len (n : Nat) (g : Int → Option D32) : (bks dgC (vvL n g)).length = n * 32 := by rw [bks_len, vvL_len]
theorem sum_succ {l : List W64} {x : Nat} (h : x < l.length) : (l.take x).sum + l.getD x 0 = (l.take (x + 1)).sum := by
  rw [List.take_succ_eq_append_getElem h, List.sum_append, List.getD_eq_getElem?_getD, List.getElem?_eq_getElem h]
  simp
instance (S : List W64) (g : Int → Option D32) (v : D32) : Decidable (Quo S g v) := inferInstanceAs (Decidable (_ < _))
end Go.Proofs.YthfipbjmpeegbaaGreatDoor

/- Walk: a sum. -/
namespace Go.Proofs.YthfipbjmpeegbaaGreatDoor
open Go.RowKit
set_option maxRecDepth 100000
set_option linter.unusedVariables false
set_option linter.unusedSimpArgs false
theorem f19_spec (v : Value) (l : List W64) :
    Spec Tryz.prog 19 #[v] [Res.rd v l.length 1 (l.map u64)] []
      (fun r Γ' H' => r = (u64 l.sum) ∧ Γ' = [] ∧ H' = []) := by
  refine Spec.of_args Tryz.func19 rfl Tryz.ntmps19 (by simp) fun w => ?_
  refine JC.know (φ := l.length ≤ 9223372036854775807) (fun w hs => by obtain ⟨_, _, _, _, _, _, h⟩ := hs.rdForm (.head _); unfold maxLen at h; omega) fun hll => ?_
  refine .seq (.region ?_)
  refine .w (.assign rfl) ?_
  refine .nil (.tn (.seq (.region ?_)))
  refine .w (.as (v' := (u64 (l.take 0).sum)) (.assign rfl) rfl) ?_
  refine .nil (.tn (.seq (.seq (.region ?_))))
  refine .w (.assign rfl) ?_
  refine .nil (.tn (.block ?_))
  refine .lp (ι := Nat) (fun x => x ≤ l.length) (fun T x => (3, u64 (l.take x).sum) :: (4, it (x : Int)) :: T) (fun T _ => T) (fun T _ => T) (fun x => l.length - x) 0 [0, 2, 17] ?_ (fun x hx => ?_)
  · exact Nat.zero_le _
  refine .seq (.seq (.region ?_))
  refine .w (.move rfl) ?_
  refine .w (.move rfl) ?_
  refine .w (.len Tryz.underlying22 rfl) ?_
  refine .w (.bin rfl rfl BinR.lss_i) ?_
  refine .nil (.tn ?_)
  refine .cn rfl (fun hc1 => ?_) (fun hc1 => ?_)
  · skip
    refine .skip (.tn (.seq (.block (.region ?_))))
    refine .w (.move rfl) ?_
    refine .w (.move rfl) ?_
    refine .w (.move rfl) ?_
    refine .w (.ix1 Tryz.underlying22 sz_30 rfl rfl) ?_
    refine .w (.ld one_30 rfl) ?_
    refine .w (.as (v' := (u64 (l.take (x + 1)).sum)) (.bin rfl rfl (BinR.add_u64)) (congrArg u64 (sum_succ (by omega)))) ?_
    refine .w (.assign rfl) ?_
    refine .nil (.block_normal (.tn (.region ?_)))
    refine .w (.move rfl) ?_
    refine .w (.asI ((x + 1 : Nat) : Int) (.bin rfl rfl (BinR.add_i zqf))) ?_
    refine .w (.assign rfl) ?_
    refine .nil ?_
    refine .hd (x + 1) ?_
    exact ⟨by omega, by omega⟩
  · obtain rfl : x = l.length := by omega
    rw [List.take_length]
    refine .exit (.then_exit (.then_exit (.block_exit (.tn (.seq (.region ?_))))))
    refine .w (.move rfl) ?_
    refine .w (.assign rfl) ?_
    refine .nil (.tn (.ret ?_))
    exact .dn [] [] (res1 rfl (.tmp rfl)) ⟨rfl, rfl, rfl⟩
end Go.Proofs.YthfipbjmpeegbaaGreatDoor

/- A range over a function whose rounds are of a kind of one's own (what came is kept in the state). No program in sight. -/
namespace Go.Proofs.YthfipbjmpeegbaaGreatDoor
open Go.RowKit
set_option linter.unusedVariables false
section
variable {P : Program} {N : Nat} {m : Md} {C : Beg} {Q : Exit → Act → World → Prop} {E : Env} {Γ H : RL}
theorem JX.rfg [hn : NPL Q] {ι : Type} {g : Operand} {ps : Array Tmp} {assign body : Code} {gf : FuncId} {lb : Array Value} (x0 : ι) (fin : ι → Prop) (I : ι → RL → Prop) {I0 Γi G : RL} (ok : ι → List Value → RL → ι → Prop) (hx : ev E g = some (.func (.func gf) #[] lb)) (hb : Body P gf) (hI0 : I x0 I0)
    (hit : ∀ l (X : Res) (R : ι → Res → Prop) r0, R x0 r0 → (∀ k vs Γy r y, ok k vs Γy y → R k r → YSpec P l vs.toArray (Γy ++ [X]) [r] fun b Γ' H' => b = .bool true ∧ Γ' = [] ∧ ∃ r', R y r' ∧ H' = [r']) → Spec P gf (#[.func (.yield l) #[] #[]] ++ lb) (Γi ++ [X]) [r0] fun _ Γ' H' => True ∧ Γ' = [] ∧ ∃ x r', fin x ∧ R x r' ∧ H' = [r'])
    (hround : ∀ l D fn T w0 k vs Γy y L, ok k vs Γy y → I k L → JX P N ⟨some l, []⟩ ⟨w0, Γy ++ [Res.all Γ], [rfR fn T ps assign body l D L]⟩ assign (Exit.then (RdK P body (roundPost P l (SpecPost (Γy ++ [Res.all Γ]) [rfR fn T ps assign body l D L] (fun b Γ' H' => b = .bool true ∧ Γ' = [] ∧ ∃ r', (∃ L', I y L' ∧ r' = rfR fn T ps assign body l D L') ∧ H' = [r']) w0)) l) fun _ _ _ => False)
      (ps.toList.zip vs ++ E) (Γy ++ Γ) (Res.ob l (lrec fn T ps assign body D .ready) :: Res.ob D (.deferred (some [])) :: L))
    (hnext : ∀ D x L, fin x → I x L → JQ N C .normal (QU ⟨none, [{ target := .collected D, args := #[] }]⟩ Q) E Γ (Res.ob D (.deferred (some [])) :: (L ++ G)))
    (hps : ∀ k vs Γy y, ok k vs Γy y → vs.length = ps.size) (hlt : ∀ p ∈ ps.toList, p < N) (hnd : ps.toList.Nodup) (hp : Picks I0 H G) (hg : Lends Γi (G ++ Γ)) :
    JX P N ⟨none, []⟩ C (.rangeFunc g ps assign body) Q E Γ H := by
  intro a w he hs
  have hu : (⟨none, []⟩ : Md).up a = a := by simp [Md.up]
  rw [hu]
  refine wpIn_rangeFunc ?_
  intro fn _
  have h1 := ((hs.perm hp.perm).newOb (.deferred (some [])))
  have h2 := h1.newOb (lrec fn a.tmps ps assign body w.heap.size .ready)
  have hsz : (w.alloc (.deferred (some []))).heap.size = w.heap.size + 1 := by simp
  rw [hsz] at h2
  obtain ⟨W1, hW1⟩ : ∃ W1, (w.alloc (.deferred (some []))).alloc (lrec fn a.tmps ps assign body w.heap.size .ready) = W1 := ⟨_, rfl⟩
  rw [hW1] at h2
  refine ⟨w.heap.size + 1, [{ target := .collected w.heap.size, args := #[] }], W1, { target := .fn (.func gf) lb, args := #[.func (.yield (w.heap.size + 1)) #[] #[]] }, W1, gf, #[.func (.yield (w.heap.size + 1)) #[] #[]] ++ lb, W1, by rw [← hW1]; exact run_enterLoop_outer _ _ _ _ _, ?_, fun _ _ => trivial, ?_, fun h => (by cases h), ?_⟩
  · simp only [resolve, he.ev hx]
    simp [Deferred.ofValue, Act.eval]
  · simp only [invoke]
    exact hb _ _
  · refine callsFW.2 ?_
    -- what one holds, in one
    have h3 : St C Γ (Res.sep (Res.ob (w.heap.size + 1) (lrec fn a.tmps ps assign body w.heap.size .ready) :: Res.ob w.heap.size (.deferred (some [])) :: I0) :: G) _ := St.sep.2 (by simpa using h2)
    have h4 := h3.bundle (G := Γ) (fun r h => h)
    have hc := hit (w.heap.size + 1) (Res.all Γ) (fun k r => ∃ L, I k L ∧ r = rfR fn a.tmps ps assign body (w.heap.size + 1) w.heap.size L) _ ⟨I0, hI0, rfl⟩ (fun k vs Γy r y hok hR w0 hs0 => by
      obtain ⟨L, hL, rfl⟩ := hR
      have hl0 : St ⟨w0, Γy ++ [Res.all Γ], [rfR fn a.tmps ps assign body (w.heap.size + 1) w.heap.size L]⟩ (Γy ++ Γ) (Res.ob (w.heap.size + 1) (lrec fn a.tmps ps assign body w.heap.size .ready) :: Res.ob w.heap.size (.deferred (some [])) :: L) w0 := by
        have hb0 := St.begin hs0
        have hb1 : St ⟨w0, Γy ++ [Res.all Γ], [rfR fn a.tmps ps assign body (w.heap.size + 1) w.heap.size L]⟩ (Γy ++ [Res.all Γ]) ((Res.ob (w.heap.size + 1) (lrec fn a.tmps ps assign body w.heap.size .ready) :: Res.ob w.heap.size (.deferred (some [])) :: L) ++ []) w0 := St.sep.1 hb0
        rw [List.append_nil] at hb1
        refine ⟨⟨?_, ?_, hb1.sat.hok, hb1.sat.hlt, hb1.sat.hdj, ?_⟩, hb1.stp, hb1.hsub, ?_⟩
        · intro r hr
          rcases List.mem_append.1 hr with hr | hr
          · exact hb1.sat.gok r (List.mem_append.2 (.inl hr))
          · exact (hb1.sat.gok (Res.all Γ) (List.mem_append.2 (.inr (.head _)))) r hr
        · intro r hr k hk
          rcases List.mem_append.1 hr with hr | hr
          · exact hb1.sat.glt r (List.mem_append.2 (.inl hr)) k hk
          · exact hb1.sat.glt (Res.all Γ) (List.mem_append.2 (.inr (.head _))) k ⟨r, hr, hk⟩
        · intro r hr s hs' k hk hk'
          rcases List.mem_append.1 hr with hr | hr
          · exact hb1.sat.ghd r (List.mem_append.2 (.inl hr)) s hs' k hk hk'
          · exact hb1.sat.ghd (Res.all Γ) (List.mem_append.2 (.inr (.head _))) s hs' k ⟨r, hr, hk⟩ hk'
        · rintro k ⟨r, hr, hk⟩
          rcases List.mem_append.1 hr with hr | hr
          · exact hb1.gsub k ⟨r, List.mem_append.2 (.inl hr), hk⟩
          · exact hb1.gsub k ⟨Res.all Γ, List.mem_append.2 (.inr (.head _)), r, hr, hk⟩
      have hl := Res.ob_ok.1 (hl0.sat.hok _ (.head _))
      have hy := run_yield (P := P) (args := vs.toArray) hl (by simpa using hps k vs Γy y hok)
      refine ⟨fn, _, assign, body, hy, roundIn_of_wpIn (F := FW none) trivial ?_⟩
      have h5 := hround (w.heap.size + 1) w.heap.size fn a.tmps w0 k vs Γy y L hok hL _ w0 (he.round hlt hnd) hl0
      have hu2 : ∀ b : Act, (⟨some (w.heap.size + 1), []⟩ : Md).up b = b := fun b => by simp [Md.up]
      rw [hu2] at h5
      exact h5)
    have h6 : St C (Res.all Γ :: Γ) ([rfR fn a.tmps ps assign body (w.heap.size + 1) w.heap.size I0] ++ G) _ := h4
    have hl2 : Lends (Γi ++ [Res.all Γ]) (G ++ (Res.all Γ :: Γ)) := by
      have hmono : ∀ {l : RL} {A B : RL}, Lends l A → (∀ r, Lend r A → Lend r B) → Lends l B := by
        intro l A B h hAB
        induction h with
        | nil => exact .nil _
        | cons r l A h1 _ ih => exact .cons _ _ _ (hAB _ h1) (ih hAB)
      have ins : ∀ (A : RL) (r : Res), Lend r (A ++ Γ) → Lend r (A ++ (Res.all Γ :: Γ)) := by
        intro A
        induction A with
        | nil => intro r h; exact Lend.there _ _ _ h
        | cons s A ih =>
          intro r h
          cases h with
          | same => exact Lend.same _ _
          | row => exact Lend.row _ _ _ _ _ _ (by assumption)
          | there _ _ _ h => exact Lend.there _ _ _ (ih _ h)
      have one : ∀ (A : RL), Lend (Res.all Γ) (A ++ (Res.all Γ :: Γ)) := by
        intro A
        induction A with
        | nil => exact .same _ _
        | cons s A ih => exact Lend.there _ _ _ ih
      have app : ∀ {l : RL} {A : RL} {r : Res}, Lends l A → Lend r A → Lends (l ++ [r]) A := by
        intro l A r h hr
        induction h with
        | nil => exact .cons _ _ _ hr (.nil _)
        | cons s l A h1 _ ih => exact .cons _ _ _ h1 (ih hr)
      exact app (hmono hg (ins G)) (one G)
    refine Calls.mono (hc _ (h6.sat.lend hl2)) ?_
    rintro e w' ⟨v, Γ', H', rfl, ⟨_, rfl, xf, _, hxf, ⟨L, hL, rfl⟩, rfl⟩, hst'⟩
    have hst2 : St ⟨W1, [], [rfR fn a.tmps ps assign body (w.heap.size + 1) w.heap.size I0]⟩ [] [rfR fn a.tmps ps assign body (w.heap.size + 1) w.heap.size L] w' := by
      refine ⟨⟨by simp, by simp, hst'.sat.hok, hst'.sat.hlt, hst'.sat.hdj, by simp⟩, hst'.stp, hst'.hsub, ?_⟩
      rintro k ⟨r, hr, _⟩
      cases hr
    have h7 := h6.frame (Γc := []) (by simp) hst2
    have h8 : St C (Res.all Γ :: Γ) ((Res.ob (w.heap.size + 1) (lrec fn a.tmps ps assign body w.heap.size .ready) :: Res.ob w.heap.size (.deferred (some [])) :: L) ++ G) w' := St.sep.1 (by unfold rfR at h7; simpa using h7)
    have hl := Res.ob_ok.1 (h8.sat.hok _ (.head _))
    have h9 := (show St C (Res.all Γ :: Γ) (Res.ob (w.heap.size + 1) (lrec fn a.tmps ps assign body w.heap.size .ready) :: ((Res.ob w.heap.size (.deferred (some [])) :: L) ++ G)) w' from h8).putOb (o' := lrec fn a.tmps ps assign body w.heap.size .exhausted)
    have h10 := (h9.perm (List.perm_append_singleton (Res.ob (w.heap.size + 1) (lrec fn a.tmps ps assign body w.heap.size .exhausted)) _).symm).weak (Γ' := Γ) (fun r h => .tail _ h)
    refine ⟨none, _, run_endLoop hl (by simp), ?_⟩
    have h11 := hnext w.heap.size xf L hxf hL (fun c a w hq => hn.np c _ w hq) a _ he h10
    unfold QU Md.up at h11
    rw [he.nd] at h11 ⊢
    exact h11
end
end Go.Proofs.YthfipbjmpeegbaaGreatDoor

/- Keys of a map, as_ they come by a range over maps.Keys. No program in sight. -/
namespace Go.Proofs.YthfipbjmpeegbaaGreatDoor
open Go.RowKit
set_option linter.unusedVariables false
theorem walkLen {α β : Type} [DecidableEq α] {m : MM α β} {p : List (α × β × Nat)} (hw : m.Walk p) : p.length ≤ m.es.length := by
  obtain ⟨hn, hs⟩ := hw
  generalize m.es = l at hs
  induction p generalizing l with
  | nil => exact Nat.zero_le _
  | cons a p ih =>
    rw [List.nodup_cons] at hn
    have h1 : a ∈ l := hs a (.head _)
    obtain ⟨l1, l2, rfl⟩ := List.append_of_mem h1
    have h2 := ih hn.2 (l1 ++ l2) fun e he => by
      have h3 := hs e (.tail _ he)
      have h4 : e ≠ a := fun h => hn.1 (h ▸ he)
      simp only [List.mem_append, List.mem_cons] at h3 ⊢
      rcases h3 with h | h | h
      · exact .inl h
      · exact absurd h h4
      · exact .inr h
    simp only [List.length_cons, List.length_append] at h2 ⊢
    omega
/-- A piece of bytes as_ an element. -/
abbrev slV : Value × List (BitVec 8) → Value := fun x => x.1
/-- What a round of it brings: one entry more. -/
def kOk {α β : Type} [DecidableEq α] (f : α → Value) (m : MM α β) (p : List (α × β × Nat)) (vs : List Value) (Γy : RL) (y : List (α × β × Nat)) : Prop := ∃ e, m.Walk (p ++ [e]) ∧ vs = [f e.1] ∧ Γy = [] ∧ y = p ++ [e]
end Go.Proofs.YthfipbjmpeegbaaGreatDoor

/- Numbers as_ words and bytes, and what is written and read: the plain side. No program in sight. -/
namespace Go.Proofs.YthfipbjmpeegbaaGreatDoor
open Go.RowKit

abbrev W4 := List (BitVec 64)

theorem eq_of_getD {α : Type} {a b : List α} {d : α} (hl : a.length = b.length) (h : ∀ j, j < a.length → a.getD j d = b.getD j d) : a = b := by
  apply List.ext_getElem hl
  intro i h1 h2
  have := h i h1
  simpa [List.getD_eq_getElem?_getD, h1, h2] using this

def natV (ws : W4) : Value := .agg (ws.map u64).toArray
/-- Byte k of a number (0: the lowest one), of its words. -/
def byteOf (ws : W4) (k : Nat) : BitVec 8 := ((ws.getD (k / 8) 0) >>> (8 * (k % 8))).setWidth 8
/-- A number's bytes, the highest one first. -/
def natBytes (ws : W4) : B8 := (List.range 32).map fun j => byteOf ws (31 - j)
@[simp] theorem natBytes_length (ws : W4) : (natBytes ws).length = 32 := by simp [natBytes]
theorem natBytes_map (ws : W4) : (natBytes ws).map u8 = tab 32 (fun j => u8 (byteOf ws (31 - j))) := by
  simp [natBytes, tab, Function.comp_def]

@[simp] theorem natV_size (ws : W4) : (natV ws).cells.size = ws.length := by simp [natV, Value.cells]
/-- The digits that the document's numbers have, the first k of them filled in. -/
def dgw (ws : W4) (k : Nat) : List Value := tab 64 (fun i => if i < k then it ((byteOf ws i).toNat : Int) else it 0)
@[simp] theorem dgw_length (ws : W4) (k : Nat) : (dgw ws k).length = 64 := tab_len
/-- A word with one byte laid into it: as_ limb.Of does. -/
def putByte (ws : W4) (k : Nat) (c : BitVec 8) : W4 := ws.set (k / 8) (ws.getD (k / 8) 0 ||| (c.setWidth 64 <<< (8 * (k % 8))))
/-- limb.Of behind i bytes. -/
def ofUpto (b : B8) (i : Nat) : W4 := (List.range i).foldl (fun ws j => putByte ws (b.length - 1 - j) (b.getD j 0)) [0, 0, 0, 0]
def ofBytes (b : B8) : W4 := ofUpto b b.length
@[simp] theorem putByte_length (ws : W4) (k : Nat) (c : BitVec 8) : (putByte ws k c).length = ws.length := by simp [putByte]
@[simp] theorem ofUpto_length (b : B8) (i : Nat) : (ofUpto b i).length = 4 := by
  unfold ofUpto
  induction i with
  | zero => rfl
  | succ i ih => rw [List.range_succ, List.foldl_append]; simpa [putByte_length] using ih
theorem ofUpto_succ (b : B8) (i : Nat) : ofUpto b (i + 1) = putByte (ofUpto b i) (b.length - 1 - i) (b.getD i 0) := by
  simp [ofUpto, List.range_succ]
@[simp] theorem ofBytes_length (b : B8) : (ofBytes b).length = 4 := ofUpto_length b _

/-- How many bits a number has. -/
def bitlen (n : Nat) : Nat := if n = 0 then 0 else n.log2 + 1
theorem bitlen_le {n k : Nat} (h : n < 2 ^ k) : bitlen n ≤ k := by
  unfold bitlen
  split
  · exact Nat.zero_le _
  · rename_i h0
    exact (Nat.log2_lt h0).2 h
theorem lt_bitlen {n k : Nat} (h : 2 ^ k ≤ n) : k < bitlen n := by
  have h0 : n ≠ 0 := by have : 0 < 2 ^ k := Nat.two_pow_pos k; omega
  unfold bitlen
  rw [if_neg h0]
  have := (Nat.le_log2 h0).2 h
  omega
theorem bitlen_lt {n k : Nat} (h : bitlen n ≤ k) : n < 2 ^ k := by
  rcases Nat.lt_or_ge n (2 ^ k) with h1 | h1
  · exact h1
  · exact absurd (lt_bitlen h1) (by omega)
theorem bitlen_div {n k : Nat} (h : 2 ^ k ≤ n) : bitlen n = bitlen (n / 2 ^ k) + k := by
  have hp : 0 < 2 ^ k := Nat.two_pow_pos k
  have h1 : 1 ≤ n / 2 ^ k := (Nat.le_div_iff_mul_le hp).2 (by omega)
  have hm : 0 < bitlen (n / 2 ^ k) := lt_bitlen (k := 0) (by simpa using h1)
  apply Nat.le_antisymm
  · apply bitlen_le
    have := bitlen_lt (n := n / 2 ^ k) (Nat.le_refl _)
    rw [Nat.pow_add]
    exact (Nat.div_lt_iff_lt_mul hp).1 this
  · have h2 : 2 ^ (bitlen (n / 2 ^ k) - 1) ≤ n / 2 ^ k := by
      rcases Nat.lt_or_ge (n / 2 ^ k) (2 ^ (bitlen (n / 2 ^ k) - 1)) with h3 | h3
      · have := bitlen_le h3; omega
      · exact h3
    have h4 : 2 ^ (bitlen (n / 2 ^ k) - 1 + k) ≤ n := by
      rw [Nat.pow_add]
      exact Nat.le_trans (Nat.mul_le_mul_right _ h2) (Nat.div_mul_le_self _ _)
    have := lt_bitlen h4
    omega
def len64 (x : BitVec 64) : Nat := bitlen x.toNat
theorem len64_le (x : BitVec 64) : len64 x ≤ 64 := bitlen_le x.isLt

theorem len64_s32 {y : BitVec 64} (h : y.toNat ≥ 4294967296) : (len64 y : Int) = len64 (y >>> 32) + 32 := by
  have := bitlen_div (n := y.toNat) (k := 32) h
  unfold len64
  rw [BitVec.toNat_ushiftRight, Nat.shiftRight_eq_div_pow]
  show (bitlen y.toNat : Int) = bitlen (y.toNat / 2 ^ 32) + 32
  omega
theorem len64_s16 {y : BitVec 64} (h : y.toNat ≥ 65536) : (len64 y : Int) = len64 (y >>> 16) + 16 := by
  have := bitlen_div (n := y.toNat) (k := 16) h
  unfold len64
  rw [BitVec.toNat_ushiftRight, Nat.shiftRight_eq_div_pow]
  show (bitlen y.toNat : Int) = bitlen (y.toNat / 2 ^ 16) + 16
  omega
theorem len64_s8 {y : BitVec 64} (h : y.toNat ≥ 256) : (len64 y : Int) = len64 (y >>> 8) + 8 := by
  have := bitlen_div (n := y.toNat) (k := 8) h
  unfold len64
  rw [BitVec.toNat_ushiftRight, Nat.shiftRight_eq_div_pow]
  show (bitlen y.toNat : Int) = bitlen (y.toNat / 2 ^ 8) + 8
  omega
theorem shr32 (y : BitVec 64) : (y >>> 32).toNat = y.toNat / 4294967296 := by rw [BitVec.toNat_ushiftRight, Nat.shiftRight_eq_div_pow]
theorem shr16 (y : BitVec 64) : (y >>> 16).toNat = y.toNat / 65536 := by rw [BitVec.toNat_ushiftRight, Nat.shiftRight_eq_div_pow]
theorem shr8 (y : BitVec 64) : (y >>> 8).toNat = y.toNat / 256 := by rw [BitVec.toNat_ushiftRight, Nat.shiftRight_eq_div_pow]
def lenTab : List UInt8 := List.append (List.append [0, 1, 2, 2, 3, 3, 3, 3, 4, 4, 4, 4, 4, 4, 4, 4, 5, 5, 5, 5, 5, 5, 5, 5, 5, 5, 5, 5, 5, 5, 5, 5, 6, 6, 6, 6, 6, 6, 6, 6, 6, 6, 6, 6, 6, 6, 6, 6, 6, 6, 6, 6, 6, 6, 6, 6, 6, 6, 6, 6, 6, 6, 6, 6] [7, 7, 7, 7, 7, 7, 7, 7, 7, 7, 7, 7, 7, 7, 7, 7, 7, 7, 7, 7, 7, 7, 7, 7, 7, 7, 7, 7, 7, 7, 7, 7, 7, 7, 7, 7, 7, 7, 7, 7, 7, 7, 7, 7, 7, 7, 7, 7, 7, 7, 7, 7, 7, 7, 7, 7, 7, 7, 7, 7, 7, 7, 7, 7]) (List.append [8, 8, 8, 8, 8, 8, 8, 8, 8, 8, 8, 8, 8, 8, 8, 8, 8, 8, 8, 8, 8, 8, 8, 8, 8, 8, 8, 8, 8, 8, 8, 8, 8, 8, 8, 8, 8, 8, 8, 8, 8, 8, 8, 8, 8, 8, 8, 8, 8, 8, 8, 8, 8, 8, 8, 8, 8, 8, 8, 8, 8, 8, 8, 8] [8, 8, 8, 8, 8, 8, 8, 8, 8, 8, 8, 8, 8, 8, 8, 8, 8, 8, 8, 8, 8, 8, 8, 8, 8, 8, 8, 8, 8, 8, 8, 8, 8, 8, 8, 8, 8, 8, 8, 8, 8, 8, 8, 8, 8, 8, 8, 8, 8, 8, 8, 8, 8, 8, 8, 8, 8, 8, 8, 8, 8, 8, 8, 8])
set_option maxRecDepth 100000 in
theorem lenTab_all : ∀ j, j < 256 → (lenTab.getD j 0).toBitVec = BitVec.ofNat 8 (bitlen j) := by decide +kernel
set_option maxRecDepth 100000 in
theorem lenTab_get (j : Nat) (h : j < (⟨lenTab.toArray⟩ : ByteArray).size) : ((⟨lenTab.toArray⟩ : ByteArray)[j]'h).toBitVec = BitVec.ofNat 8 (bitlen j) := by
  have h0 : j < 256 := h
  rw [← lenTab_all j h0]
  have : ((⟨lenTab.toArray⟩ : ByteArray)[j]'h) = lenTab[j]'(by exact h) := rfl
  rw [this, List.getD_eq_getElem?_getD, List.getElem?_eq_getElem (by exact h)]
  rfl
theorem len8v (y : BitVec 64) (h : y.toNat < 256) : (((BitVec.ofNat 8 (bitlen (y.setWidth 8).toNat)).toNat : Nat) : Int) = len64 y := by
  have h1 : (y.setWidth 8).toNat = y.toNat := by rw [BitVec.toNat_setWidth]; omega
  have h2 := bitlen_le (n := y.toNat) (k := 8) h
  rw [h1, BitVec.toNat_ofNat]
  unfold len64
  omega

theorem fits8 {a : Int} (y : BitVec 8) (h : 0 ≤ a ∧ a ≤ 1000) : Fits (a + (y.toNat : Int)) := by
  have := y.isLt
  constructor <;> omega

/-- How many bytes a small number takes. -/
def nsz (n : BitVec 64) : Nat := (len64 n + 7) / 8
theorem nsz_le (n : BitVec 64) : nsz n ≤ 8 := by have := len64_le n; unfold nsz; omega
/-- The k low bytes of a word, the highest one first. -/
def digs (n : BitVec 64) (k : Nat) : B8 := (List.range k).map fun j => (n >>> (8 * (k - 1 - j))).setWidth 8
@[simp] theorem digs_length (n : BitVec 64) (k : Nat) : (digs n k).length = k := by simp [digs]
theorem digs_succ (n : BitVec 64) (k : Nat) : digs n (k + 1) = (n >>> (8 * k)).setWidth 8 :: digs n k := by
  simp only [digs, List.range_succ_eq_map, List.map_cons, List.map_map]
  congr 1
  apply List.map_congr_left
  intro j _
  simp only [Function.comp]
  rw [show k + 1 - 1 - (j + 1) = k - 1 - j by omega]
theorem natBytes_drop (n : BitVec 64) (k : Nat) (hk : k ≤ 8) : (natBytes [n, 0, 0, 0]).drop (32 - k) = digs n k := by
  apply List.ext_getElem (by simp; omega)
  intro j h1 h2
  simp at h2
  simp only [natBytes, digs, List.getElem_drop, List.getElem_map, List.getElem_range, byteOf]
  rw [show 31 - (32 - k + j) = k - 1 - j by omega, Nat.div_eq_of_lt (show k - 1 - j < 8 by omega), Nat.mod_eq_of_lt (show k - 1 - j < 8 by omega)]
  rfl
/-- A small number, written: how many bytes, and they. -/
def smallB (n : BitVec 64) : B8 := BitVec.ofNat 8 (nsz n) :: digs n (nsz n)
theorem smallB_length (n : BitVec 64) : (smallB n).length = nsz n + 1 := by simp [smallB]
theorem putD (n : BitVec 64) (k : Nat) : u8 ((n >>> (8 * k) % 256#64).setWidth 8) = u8 ((n >>> (8 * k)).setWidth 8) := by
  apply congrArg u8
  apply BitVec.eq_of_toNat_eq
  rw [BitVec.toNat_setWidth, BitVec.toNat_setWidth, BitVec.toNat_umod]
  show (n >>> (8 * k)).toNat % 256 % 256 = _
  omega
theorem shr_quo (n : BitVec 64) (k : Nat) : (n >>> (8 * k)) / 256#64 = n >>> (8 * (k + 1)) := by
  apply BitVec.eq_of_toNat_eq
  rw [BitVec.toNat_udiv, BitVec.toNat_ushiftRight, BitVec.toNat_ushiftRight, Nat.shiftRight_eq_div_pow, Nat.shiftRight_eq_div_pow]
  show n.toNat / 2 ^ (8 * k) / 2 ^ 8 = _
  rw [Nat.div_div_eq_div_mul, ← Nat.pow_add]
  congr 2
theorem shr_big (n : BitVec 64) (k : Nat) (h : n >>> (8 * k) ≠ 0) : k < 8 := by
  rcases Nat.lt_or_ge k 8 with h1 | h1
  · exact h1
  · refine absurd (BitVec.eq_of_toNat_eq ?_) h
    rw [BitVec.toNat_ushiftRight, Nat.shiftRight_eq_div_pow]
    have : n.toNat < 2 ^ (8 * k) := Nat.lt_of_lt_of_le n.isLt (Nat.pow_le_pow_right (by decide) (by omega))
    rw [Nat.div_eq_of_lt this]
    rfl
theorem nsz_of {n : BitVec 64} {k : Nat} (h : n >>> (8 * k) = 0) (h1 : k = 0 ∨ n >>> (8 * (k - 1)) ≠ 0) : nsz n = k := by
  have e : ∀ m, (n >>> m).toNat = n.toNat / 2 ^ m := fun m => by rw [BitVec.toNat_ushiftRight, Nat.shiftRight_eq_div_pow]
  have h2 : n.toNat / 2 ^ (8 * k) = 0 := by rw [← e, h]; rfl
  have h3 : n.toNat < 2 ^ (8 * k) := by
    rcases Nat.div_eq_zero_iff.1 h2 with h | h
    · have : 0 < 2 ^ (8 * k) := Nat.two_pow_pos _; omega
    · exact h
  have h4 := bitlen_le h3
  unfold nsz len64
  rcases h1 with h1 | h1
  · subst h1; omega
  · have h5 : 2 ^ (8 * (k - 1)) ≤ n.toNat := by
      rcases Nat.lt_or_ge n.toNat (2 ^ (8 * (k - 1))) with h | h
      · exact absurd (BitVec.eq_of_toNat_eq (by rw [e, Nat.div_eq_of_lt h]; rfl)) h1
      · exact h
    have := lt_bitlen h5
    omega

theorem smallB_le (n : BitVec 64) : (smallB n).length ≤ 9 := by have := nsz_le n; rw [smallB_length]; omega
theorem digs_cons (n : BitVec 64) (k : Nat) : [u8 ((n >>> (8 * k)).setWidth 8)] ++ (digs n k).map u8 = (digs n (k + 1)).map u8 := by rw [digs_succ]; rfl
/-- Bytes, written: how many, and they. -/
def bytesB (b : B8) : B8 := smallB (BitVec.ofNat 64 b.length) ++ b

def flatB (l : List W4) : B8 := l.flatMap natBytes
def natsB (l : List W4) : B8 := smallB (BitVec.ofNat 64 l.length) ++ flatB l
theorem flatB_len (l : List W4) : (flatB l).length = l.length * 32 := by
  induction l with
  | nil => rfl
  | cons a l ih => simp only [flatB, List.flatMap_cons, List.length_append, natBytes_length, List.length_cons] at ih ⊢; omega

/-! ### A reader: what is left, and the first error -/
structure Rdr where
  b : B8
  e : Int
namespace Rdr
def wrong (r : Rdr) (e : Int) : Rdr := if r.e = 0 then ⟨[], e⟩ else r
theorem wrong_ne {r : Rdr} {e : Int} (h : e ≠ 0) : (r.wrong e).e ≠ 0 := by unfold wrong; split <;> assumption
def chk (r : Rdr) (n : Nat) : Rdr := if r.b.length < n then r.wrong 3 else r
def out (r : Rdr) (n : Nat) : B8 := if (r.chk n).e = 0 then r.b.take n else []
def aft (r : Rdr) (n : Nat) : Rdr := if (r.chk n).e = 0 then ⟨r.b.drop n, 0⟩ else r.chk n
theorem chk_lt {r : Rdr} {n : Nat} (h : r.b.length < n) : r.chk n = r.wrong 3 := if_pos h
theorem chk_ge {r : Rdr} {n : Nat} (h : ¬ r.b.length < n) : r.chk n = r := if_neg h
theorem out_bad {r : Rdr} {n : Nat} (h : (r.chk n).e ≠ 0) : r.out n = [] := if_neg h
theorem aft_bad {r : Rdr} {n : Nat} (h : (r.chk n).e ≠ 0) : r.aft n = r.chk n := if_neg h
theorem out_ok {r : Rdr} {n : Nat} (h : ¬ r.b.length < n) (h0 : r.e = 0) : r.out n = r.b.take n := if_pos (by rw [chk_ge h]; exact h0)
theorem aft_ok {r : Rdr} {n : Nat} (h : ¬ r.b.length < n) (h0 : r.e = 0) : r.aft n = ⟨r.b.drop n, 0⟩ := if_pos (by rw [chk_ge h]; exact h0)
theorem out_le (r : Rdr) (n : Nat) : (r.out n).length ≤ n := by
  unfold out
  split
  · exact List.length_take_le _ _
  · exact Nat.zero_le _
theorem chk_ok {r : Rdr} {n : Nat} (h : (r.chk n).e = 0) : ¬ r.b.length < n ∧ r.e = 0 := by
  have h1 : ¬ r.b.length < n := fun h1 => absurd h (by rw [chk_lt h1]; exact wrong_ne (by decide))
  exact ⟨h1, by rw [← chk_ge h1]; exact h⟩
theorem aft_e {r : Rdr} {n : Nat} (h : (r.aft n).e = 0) : (r.chk n).e = 0 := by
  by_cases h1 : (r.chk n).e = 0
  · exact h1
  · rw [aft_bad h1] at h; exact absurd h h1
theorem out_len {r : Rdr} {n : Nat} (h : (r.aft n).e = 0) : (r.out n).length = n := by
  obtain ⟨h1, h2⟩ := chk_ok (aft_e h)
  rw [out_ok h1 h2, List.length_take]
  omega
/-- A small number: its bytes, what is left behind them. -/
def k8 (r : Rdr) : BitVec 8 := (r.out 1).getD 0 0
def smO (r : Rdr) : B8 := if r.k8.toNat ≤ 8 then (r.aft 1).out r.k8.toNat else []
def smR (r : Rdr) : Rdr := if r.k8.toNat ≤ 8 then (r.aft 1).aft r.k8.toNat else r.aft 1
def smF (r : Rdr) (lim : BitVec 64) : Rdr :=
  if r.smR.e ≠ 0 then r.smR else if r.k8.toNat > 8 then r.smR.wrong 31 else if 0 < r.k8.toNat ∧ r.smO.getD 0 0 = 0 then r.smR.wrong 31
  else if ((ofBytes r.smO).getD 0 0).toNat > lim.toNat then r.smR.wrong 2 else r.smR
def smA (r : Rdr) (lim : BitVec 64) : Rdr := if (r.out 1).length = 0 then r.aft 1 else r.smF lim
def sm (r : Rdr) (lim : BitVec 64) : BitVec 64 := if (r.out 1).length = 0 then 0 else if (r.smF lim).e ≠ 0 then 0 else (ofBytes r.smO).getD 0 0
theorem smO_le (r : Rdr) : r.smO.length ≤ 8 := by
  unfold smO
  split
  · exact Nat.le_trans (out_le _ _) (by assumption)
  · exact Nat.zero_le _
theorem smO_len {r : Rdr} (h : r.smR.e = 0) (h8 : ¬ r.k8.toNat > 8) : r.smO.length = r.k8.toNat := by
  have h8 : r.k8.toNat ≤ 8 := by omega
  unfold smR at h
  rw [if_pos h8] at h
  unfold smO
  rw [if_pos h8]
  exact out_len h
/-- How many there are. -/
def cntR (r : Rdr) (m : Int) : Rdr := if m < 0 then r.wrong 2 else r
def cnt (r : Rdr) (m : Int) : BitVec 64 := (r.cntR m).sm (BitVec.ofInt 64 m)
def cntA (r : Rdr) (m : Int) : Rdr := (r.cntR m).smA (BitVec.ofInt 64 m)
def byO (r : Rdr) (m : Int) : B8 := (r.cntA m).out (r.cnt m).toNat
def byA (r : Rdr) (m : Int) : Rdr := (r.cntA m).aft (r.cnt m).toNat
def go : Nat → List W4 → Rdr → List W4 × Rdr
  | 0, acc, r => (acc, r)
  | n + 1, acc, r => if (r.aft 32).e ≠ 0 then ([], r.aft 32) else go n (acc ++ [ofBytes (r.out 32)]) (r.aft 32)
def naO (r : Rdr) (m : Int) : List W4 := (go (r.cnt m).toNat [] (r.cntA m)).1
def naA (r : Rdr) (m : Int) : Rdr := (go (r.cnt m).toNat [] (r.cntA m)).2
/-- How it ended. -/
def fin (r : Rdr) : Int := if r.e = 0 ∧ 0 < r.b.length then 30 else r.e
theorem wrong_b (r : Rdr) (e : Int) : (r.wrong e).b.length ≤ r.b.length := by
  unfold wrong
  split
  · exact Nat.zero_le _
  · exact Nat.le_refl _
theorem chk_b (r : Rdr) (n : Nat) : (r.chk n).b.length ≤ r.b.length := by
  unfold chk
  split
  · exact wrong_b _ _
  · exact Nat.le_refl _
theorem aft_b (r : Rdr) (n : Nat) : (r.aft n).b.length ≤ r.b.length := by
  unfold aft
  split
  · show (r.b.drop n).length ≤ _
    rw [List.length_drop]; omega
  · exact chk_b _ _
theorem out_b (r : Rdr) (n : Nat) : (r.out n).length ≤ r.b.length := by
  unfold out
  split
  · rw [List.length_take]; omega
  · exact Nat.zero_le _
theorem smR_b (r : Rdr) : r.smR.b.length ≤ r.b.length := by
  unfold smR
  split
  · exact Nat.le_trans (aft_b _ _) (aft_b _ _)
  · exact aft_b _ _
theorem smF_b (r : Rdr) (lim : BitVec 64) : (r.smF lim).b.length ≤ r.b.length := by
  unfold smF
  have := smR_b r
  split
  · exact this
  · split
    · exact Nat.le_trans (wrong_b _ _) this
    · split
      · exact Nat.le_trans (wrong_b _ _) this
      · split
        · exact Nat.le_trans (wrong_b _ _) this
        · exact this
theorem smA_b (r : Rdr) (lim : BitVec 64) : (r.smA lim).b.length ≤ r.b.length := by
  unfold smA
  split
  · exact aft_b _ _
  · exact smF_b _ _
theorem cntA_b (r : Rdr) (m : Int) : (r.cntA m).b.length ≤ r.b.length := by
  unfold cntA
  refine Nat.le_trans (smA_b _ _) ?_
  unfold cntR
  split
  · exact wrong_b _ _
  · exact Nat.le_refl _
theorem byO_b (r : Rdr) (m : Int) : (r.byO m).length ≤ r.b.length := Nat.le_trans (out_b _ _) (cntA_b _ _)
theorem byA_b (r : Rdr) (m : Int) : (r.byA m).b.length ≤ r.b.length := Nat.le_trans (aft_b _ _) (cntA_b _ _)
end Rdr
theorem Rdr.go_bad {n : Nat} {acc : List W4} {r : Rdr} (h : (r.aft 32).e ≠ 0) : Rdr.go (n + 1) acc r = ([], r.aft 32) := if_pos h
theorem Rdr.go_ok {n : Nat} {acc : List W4} {r : Rdr} (h : (r.aft 32).e = 0) : Rdr.go (n + 1) acc r = Rdr.go n (acc ++ [ofBytes (r.out 32)]) (r.aft 32) := if_neg (not_not_intro h)
theorem rd_take {v : Value} {b : B8} {n : Nat} (h : ¬ b.length < n) : Res.rd v (n - 0) 1 (((b.map u8).drop (0 * 1)).take ((n - 0) * 1)) = Res.rd v (b.take n).length 1 ((b.take n).map u8) := by
  rw [Nat.zero_mul, List.drop_zero, Nat.mul_one, Nat.sub_zero, List.map_take, List.length_take, Nat.min_eq_left (by omega)]
theorem digs_inj {a b : BitVec 64} {k : Nat} (h : digs a k = digs b k) (ha : nsz a ≤ k) (hb : nsz b ≤ k) : a = b := by
  have top : ∀ n : BitVec 64, nsz n ≤ k → n.toNat < 2 ^ (8 * k) := fun n hn => by
    refine Nat.lt_of_lt_of_le (bitlen_lt (n := n.toNat) (Nat.le_refl _)) (Nat.pow_le_pow_right (by decide) ?_)
    unfold nsz len64 at hn
    omega
  apply BitVec.eq_of_getLsbD_eq
  intro i hi
  rcases Nat.lt_or_ge i (8 * k) with hk | hk
  · have hj : k - 1 - i / 8 < k := by omega
    have h1 := congrArg (fun l => l[k - 1 - i / 8]?) h
    simp only [digs, List.getElem?_map, List.getElem?_range hj, Option.map_some, Option.some.injEq] at h1
    have h2 := congrArg (fun x : BitVec 8 => x.getLsbD (i % 8)) h1
    simp only [BitVec.getLsbD_setWidth, BitVec.getLsbD_ushiftRight] at h2
    rw [show 8 * (k - 1 - (k - 1 - i / 8)) + i % 8 = i by omega] at h2
    simpa [show i % 8 < 8 by omega] using h2
  · have z : ∀ n : BitVec 64, n.toNat < 2 ^ (8 * k) → n.getLsbD i = false := fun n hn => by
      rw [BitVec.getLsbD, Nat.testBit_lt_two_pow]
      exact Nat.lt_of_lt_of_le hn (Nat.pow_le_pow_right (by decide) hk)
    rw [z a (top a ha), z b (top b hb)]
/-! ### What is asked; an error stays -/
structure Ask where
  act : Int
  most : Int
  lim : BitVec 64
def Ask.cells (a : Ask) : List Value := [it a.act, it a.most, u64 a.lim]
def stepR (r : Rdr) (a : Ask) : Rdr := if a.act = 1 then r.smA a.lim else if a.act = 2 then r.aft 32 else if a.act = 3 then r.byA a.most else if a.act = 4 then r.naA a.most else r
def noneB (r : Rdr) (a : Ask) : Bool :=
  if a.act = 1 then decide (r.sm a.lim = 0#64) else if a.act = 2 then decide (ofBytes (r.out 32) = [0, 0, 0, 0])
  else if a.act = 3 then decide (((r.byO a.most).length : Int) = 0) else if a.act = 4 then decide (((r.naO a.most).length : Int) = 0) else true
namespace Rdr
section
variable {r : Rdr} (h : r.e ≠ 0)
include h
theorem chk_st (n : Nat) : r.chk n = r := by
  unfold chk
  split
  · exact if_neg h
  · rfl
theorem out_st (n : Nat) : r.out n = [] := out_bad (by rw [chk_st h]; exact h)
theorem aft_st (n : Nat) : r.aft n = r := by rw [aft_bad (by rw [chk_st h]; exact h), chk_st h]
theorem sm_st (lim : BitVec 64) : r.sm lim = 0 := if_pos (by rw [out_st h]; rfl)
theorem smA_st (lim : BitVec 64) : r.smA lim = r := by rw [smA, if_pos (by rw [out_st h]; rfl), aft_st h]
theorem cntR_st (m : Int) : r.cntR m = r := by
  unfold cntR
  split
  · exact if_neg h
  · rfl
theorem cnt_st (m : Int) : r.cnt m = 0 := by rw [cnt, cntR_st h, sm_st h]
theorem cntA_st (m : Int) : r.cntA m = r := by rw [cntA, cntR_st h, smA_st h]
theorem byO_st (m : Int) : r.byO m = [] := by rw [byO, cntA_st h, out_st h]
theorem byA_st (m : Int) : r.byA m = r := by rw [byA, cntA_st h, aft_st h]
theorem naO_st (m : Int) : r.naO m = [] := by rw [naO, cnt_st h]; rfl
theorem naA_st (m : Int) : r.naA m = r := by rw [naA, cnt_st h, cntA_st h]; rfl
end
end Rdr
theorem stepR_st {r : Rdr} (h : r.e ≠ 0) (a : Ask) : stepR r a = r := by
  unfold stepR
  rw [Rdr.smA_st h, Rdr.aft_st h, Rdr.byA_st h, Rdr.naA_st h]
  simp
theorem noneB_st {r : Rdr} (h : r.e ≠ 0) (a : Ask) : noneB r a = true := by
  unfold noneB
  rw [Rdr.sm_st h, Rdr.out_st h, Rdr.byO_st h, Rdr.naO_st h]
  have : ofBytes [] = [0, 0, 0, 0] := rfl
  simp [this]
theorem stays {r : Rdr} {bad : Int} (h : bad ≠ 0 → r.e = bad) (hb : bad ≠ 0) (a : Ask) : (stepR r a).fin = bad ∧ noneB r a = true ∧ (stepR r a).e = bad := by
  have h1 : r.e ≠ 0 := by rw [h hb]; exact hb
  rw [stepR_st h1, Rdr.fin, if_neg (fun h2 => h1 h2.1)]
  exact ⟨h hb, noneB_st h1 a, h hb⟩
end Go.Proofs.YthfipbjmpeegbaaGreatDoor
