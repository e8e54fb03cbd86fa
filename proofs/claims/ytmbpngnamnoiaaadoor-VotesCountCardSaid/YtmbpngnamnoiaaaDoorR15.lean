/- The document's tally: what it holds. No program in sight. -/
import Derived.Test.YtmbpngnamnoiaaaDoorK7
import Derived.Test.YtmbpngnamnoiaaaDoorV15
import Derived.Test.YtmbpngnamnoiaaaDoorR2
namespace Go.Proofs.YtmbpngnamnoiaaaDoor
open Go.RowKit
set_option linter.unusedVariables false
set_option linter.unusedSimpArgs false
abbrev dgC (d : D32) : List Value := d.1.map u8
instance : FS dgC 32 := ⟨fun d => by simp [d.2], fun d v hv => by obtain ⟨x, _, rfl⟩ := List.mem_map.1 hv; rfl⟩
/-- Who has voted; what for; who voted twice. -/
def isT (n : Nat) (g : Int → Option D32) : List Value := tab n fun i => .bool (g (i : Int)).isSome
def agT (n : Nat) (t : Int → Bool) : List Value := tab n fun i => .bool (t (i : Int))
def vvL (n : Nat) (g : Int → Option D32) : List D32 := (List.range n).map fun i : Nat => (g (i : Int)).getD D0
def gput (g : Int → Option D32) (k : Int) (v : D32) : Int → Option D32 := fun j => if j = k then some v else g j
def tput (t : Int → Bool) (k : Int) : Int → Bool := fun j => if j = k then true else t j
theorem isT_get {n j : Nat} (g : Int → Option D32) (h : j < n) : (isT n g)[j]? = some (.bool (g (j : Int)).isSome) := tab_get h
theorem agT_get {n j : Nat} (t : Int → Bool) (h : j < n) : (agT n t)[j]? = some (.bool (t (j : Int))) := tab_get h
@[simp] theorem vvL_len (n : Nat) (g : Int → Option D32) : (vvL n g).length = n := by simp [vvL]
theorem vvL_get {n j : Nat} (g : Int → Option D32) (h : j < n) : (vvL n g).getD j D0 = (g (j : Int)).getD D0 := by simp [vvL, List.getD_eq_getElem?_getD, h]
theorem isT_set {n k : Nat} (g : Int → Option D32) (v : D32) : (isT n g).set k (.bool true) = isT n (gput g k v) := by
  unfold isT
  rw [tab_set]
  refine tab_congr fun i hi => ?_
  unfold gput
  by_cases h : i = k
  · rw [if_pos h, if_pos (by omega)]; rfl
  · rw [if_neg h, if_neg (by omega)]
theorem agT_set {n k : Nat} (t : Int → Bool) : (agT n t).set k (.bool true) = agT n (tput t k) := by
  unfold agT
  rw [tab_set]
  refine tab_congr fun i hi => ?_
  unfold tput
  by_cases h : i = k
  · rw [if_pos h, if_pos (by omega)]
  · rw [if_neg h, if_neg (by omega)]
theorem vvL_set {n k : Nat} (g : Int → Option D32) (v : D32) : (vvL n g).set k v = vvL n (gput g k v) := by
  apply List.ext_getElem
  · simp [vvL]
  · intro i h1 h2
    simp [vvL] at h1
    simp only [vvL, List.getElem_set, List.getElem_map, List.getElem_range, gput]
    by_cases h : i = k
    · rw [if_pos h.symm, if_pos (by omega)]; rfl
    · rw [if_neg (Ne.symm h), if_neg (by omega)]
theorem vv_load {n j : Nat} (g : Int → Option D32) (h : j < n) : ((bks dgC (vvL n g)).drop (j * 32)).take 32 = ((g (j : Int)).getD D0).1.map u8 := by
  rw [bks_piece D0 (by rw [vvL_len]; exact h), vvL_get g h]
theorem vv_store {n k : Nat} (g : Int → Option D32) (v : D32) (h : k < n) : splice (bks dgC (vvL n g)) (k * 32) (v.1.map u8) = bks dgC (vvL n (gput g k v)) := by
  have := bks_set (f := dgC) v (l := vvL n g) (k := k) (by rw [vvL_len]; exact h)
  rw [← vvL_set]
  exact this
@[simp] theorem isT_len (n : Nat) (g : Int → Option D32) : (isT n g).length = n := tab_len
@[simp] theorem agT_len (n : Nat) (t : Int → Bool) : (agT n t).length = n := tab_len
@[simp] theorem vv_len (n : Nat) (g : Int → Option D32) : (bks dgC (vvL n g)).length = n * 32 := by rw [bks_len, vvL_len]
theorem isT_nil (n : Nat) : List.replicate n (Value.bool false) = isT n fun _ => none := by
  apply List.ext_getElem
  · simp [isT, tab]
  · intro i h1 h2; simp [isT, tab]
theorem agT_nil (n : Nat) : List.replicate n (Value.bool false) = agT n fun _ => false := by
  apply List.ext_getElem
  · simp [agT, tab]
  · intro i h1 h2; simp [agT, tab]
theorem vv_nil (n : Nat) : (List.replicate n (List.replicate 32 (Value.int .u8 0))).flatten = bks dgC (vvL n fun _ => none) := by
  have : vvL n (fun _ => none) = List.replicate n D0 := by
    apply List.ext_getElem
    · simp [vvL]
    · intro i h1 h2; simp [vvL]
  rw [this]
  induction n with
  | zero => rfl
  | succ n ih =>
    have ih := ih (by apply List.ext_getElem <;> simp [vvL])
    rw [List.replicate_succ, List.flatten_cons, show List.replicate (n + 1) D0 = D0 :: List.replicate n D0 from rfl, bks_cons, ← ih]
    rfl
/-- Sums up to i. -/
def byTo (S : List W64) (q : Nat → Bool) (k : Nat) : Nat := ((List.range k).map fun i => if q i then (S.getD i 0).toNat else 0).sum
theorem byTo_len (S : List W64) (q : Nat → Bool) : byTo S q S.length = byN S q := rfl
theorem byTo_0 (S : List W64) (q : Nat → Bool) : byTo S q 0 = 0 := rfl
theorem byTo_succ (S : List W64) (q : Nat → Bool) (k : Nat) : byTo S q (k + 1) = byTo S q k + if q k then (S.getD k 0).toNat else 0 := by
  simp [byTo, List.range_succ]
theorem byTo_u64 (S : List W64) (q : Nat → Bool) (k : Nat) (h : q k = true) : (BitVec.ofNat 64 (byTo S q k) + S.getD k 0 : W64) = BitVec.ofNat 64 (byTo S q (k + 1)) := by
  rw [byTo_succ, if_pos h, BitVec.ofNat_add]
  simp
theorem byTo_skip (S : List W64) (q : Nat → Bool) (k : Nat) (h : q k = false) : byTo S q k = byTo S q (k + 1) := by
  rw [byTo_succ, if_neg (by rw [h]; decide), Nat.add_zero]
/-- Who voted twice, in order. -/
def twL (t : Int → Bool) (n : Nat) : List Int := ((List.range n).filter fun i : Nat => t (i : Int)).map fun i : Nat => (i : Int)
theorem twL_succ (t : Int → Bool) (n : Nat) : twL t (n + 1) = twL t n ++ if t (n : Int) then [(n : Int)] else [] := by
  simp only [twL, List.range_succ, List.filter_append, List.map_append, List.filter_cons, List.filter_nil]
  cases t (n : Int) <;> rfl
theorem twL_len (t : Int → Bool) (n : Nat) : (twL t n).length ≤ n := by
  simp only [twL, List.length_map]
  exact Nat.le_trans (List.length_filter_le _ _) (by simp)
def newR (l : List W64) : Int := if l.length > 40 then 2 else if 9223372036854775808 ≤ totN l then 10 else 0
theorem newR_eq (l : List W64) : newR l = if l.length > 40 then 2 else if 9223372036854775808 ≤ totN l then 10 else 0 := rfl
theorem newT {T : Nat} (hT : T < 115792089237316195423570985008687907853269984665640564039457584007913129639936) (h1 : ¬ (wat T 1).toNat > 0) (h2 : ¬ (wat T 2).toNat > 0) (h3 : ¬ (wat T 3).toNat > 0) : (wat T 0).toNat ≥ 9223372036854775808 ↔ 9223372036854775808 ≤ T := by
  rw [wat_1, BitVec.toNat_ofNat] at h1
  rw [wat_2, BitVec.toNat_ofNat] at h2
  rw [wat_3, BitVec.toNat_ofNat] at h3
  rw [wat_0, BitVec.toNat_ofNat]
  omega
/-- The quorum of the document's is ours. -/
theorem quo_first {S : List W64} {g : Int → Option D32} (h : ∀ j, j < S.length → ∀ v, g (j : Int) = some v → ¬ Quo S g v) : QuoR S g none := fun v hv => by
  obtain ⟨i, hi, hg⟩ := forA_some (show 0 < forA S g v by unfold Quo at hv; omega)
  exact h i hi v hg hv
theorem getD_ext {α : Type} {l k : List α} {d : α} (h : l.length = k.length) (hj : ∀ j : Nat, j < l.length → l.getD j d = k.getD j d) : l = k := by
  apply List.ext_getElem h
  intro i h1 h2
  have := hj i h1
  simpa [List.getD_eq_getElem?_getD, h1, h2] using this
theorem sum_succ {l : List W64} {x : Nat} (h : x < l.length) : (l.take x).sum + l.getD x 0 = (l.take (x + 1)).sum := by
  rw [List.take_succ_eq_append_getElem h, List.sum_append, List.getD_eq_getElem?_getD, List.getElem?_eq_getElem h]
  simp
theorem sumW (S : List W64) : S.sum = BitVec.ofNat 64 (sumS S) := by
  induction S with
  | nil => rfl
  | cons a l ih =>
    rw [List.sum_cons, ih, show sumS (a :: l) = a.toNat + sumS l from rfl, BitVec.ofNat_add]
    simp
instance (S : List W64) (g : Int → Option D32) (v : D32) : Decidable (Quo S g v) := inferInstanceAs (Decidable (_ < _))
theorem quo_in {S : List W64} {g : Int → Option D32} {v : D32} (hS : sumS S < 18446744073709551616) : (decide (2 * (S.sum).toNat < 3 * (BitVec.ofNat 64 (forA S g v)).toNat)) = decide (Quo S g v) := by
  refine decide_eq_decide.2 ?_
  have h1 := forA_le S g v
  rw [sumW, BitVec.toNat_ofNat, BitVec.toNat_ofNat, Nat.mod_eq_of_lt hS, Nat.mod_eq_of_lt (by omega)]
  exact Iff.rfl
def quoB (S : List W64) (g : Int → Option D32) : Option D32 → Bool
  | some v => decide (Quo S g v)
  | none => false
theorem quo_yes {S : List W64} {o : Option D32} {g : Int → Option D32} (h : o.isSome = true) : decide (Quo S g (o.getD D0)) = quoB S g o := by
  cases o with
  | none => cases h
  | some v => rfl
theorem quo_not {S : List W64} {o : Option D32} {g : Int → Option D32} (h : o.isSome = false) : false = quoB S g o := by
  cases o with
  | none => rfl
  | some v => cases h
theorem quoB_t {S : List W64} {o : Option D32} {g : Int → Option D32} (h : quoB S g o = true) : ∃ v, o = some v ∧ Quo S g v := by
  cases o with
  | none => cases h
  | some v => exact ⟨v, rfl, of_decide_eq_true h⟩
theorem quoB_f {S : List W64} {o : Option D32} {g : Int → Option D32} (h : quoB S g o = false) {v : D32} (e : o = some v) : ¬ Quo S g v := by
  subst e
  exact of_decide_eq_false h
end Go.Proofs.YtmbpngnamnoiaaaDoor
