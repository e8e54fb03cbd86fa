/- What was left of one's part, in a heap: the plain side. No program in sight. -/
import Derived.Test.YtfcodaigdigjmaaH1
import Derived.Test.YtfcodaigdigjmaaL2
namespace Go.Proofs.Ytfcodaigdigjmaa
open Go.RowKit
structure Lk where
  who : BitVec 32
  rest : BitVec 256
def lkD : Lk := ⟨0, 0⟩
def Lk.cells (x : Lk) : List Value := it ((x.who.toNat : Nat) : Int) :: (wd x.rest.toNat).map u64
theorem Lk.cells_len (x : Lk) : x.cells.length = 5 := rfl
def lkC (l : List Lk) : List Value := l.flatMap Lk.cells
@[simp] theorem lkC_len (l : List Lk) : (lkC l).length = l.length * 5 := by
  induction l with
  | nil => rfl
  | cons x l ih => simp only [lkC, List.flatMap_cons, List.length_append, List.length_cons, Lk.cells_len] at ih ⊢; omega
theorem lkC_append (l m : List Lk) : lkC (l ++ m) = lkC l ++ lkC m := List.flatMap_append
theorem lkC_one (x : Lk) : lkC [x] = x.cells := by simp [lkC]
theorem lk_piece : ∀ {l : List Lk} {k : Nat}, k < l.length → ((lkC l).drop (k * 5)).take 5 = (l.getD k lkD).cells
  | [], _, h => by simp at h
  | x :: l, 0, _ => by rw [Nat.zero_mul, List.drop_zero]; exact List.take_left' rfl
  | x :: l, k + 1, h => by
    have := lk_piece (l := l) (k := k) (by simpa using h)
    rw [show (k + 1) * 5 = 5 + k * 5 by omega, ← List.drop_drop]
    exact this
theorem lk_at {l : List Lk} {k m : Nat} (h : k < l.length) (hm : m < 5) : (lkC l)[k * 5 + m]? = (l.getD k lkD).cells[m]? := by
  rw [← lk_piece h, List.getElem?_take_of_lt hm, List.getElem?_drop]
theorem lk_who {l : List Lk} {k : Nat} (h : k < l.length) : (lkC l)[k * 5 + 0]? = some (it (((l.getD k lkD).who.toNat : Nat) : Int)) := by rw [lk_at h (by decide)]; rfl
theorem lk_rest {l : List Lk} {k : Nat} (h : k < l.length) : ((lkC l).drop (k * 5 + 1)).take 4 = (wd (l.getD k lkD).rest.toNat).map u64 := by
  have e : ((lkC l).drop (k * 5 + 1)).take 4 = (((lkC l).drop (k * 5)).take 5).drop 1 := by rw [List.drop_take, List.drop_drop]
  rw [e, lk_piece h]
  rfl
theorem lk_splice : ∀ {l : List Lk} {k : Nat} (_ : k < l.length) (x : Lk), splice (lkC l) (k * 5) x.cells = lkC (l.set k x)
  | y :: l, 0, _, x => by
    simp only [splice, lkC, List.flatMap_cons, List.set_cons_zero, Nat.zero_mul, List.take_zero, List.nil_append, Nat.zero_add]
    rw [show x.cells.length = y.cells.length from rfl, List.drop_left]
  | y :: l, k + 1, h, x => by
    have := lk_splice (l := l) (k := k) (by simpa using h) x
    simp only [splice, lkC, List.flatMap_cons, List.set_cons_succ] at this ⊢
    rw [show (k + 1) * 5 = y.cells.length + k * 5 by rw [Lk.cells_len]; omega, List.take_append, Nat.add_assoc, List.drop_append]
    simp only [Nat.add_sub_cancel_left]
    rw [List.take_of_length_le (by omega), List.drop_of_length_le (by omega), List.nil_append, ← this]
    simp
theorem lk_one (l : List Lk) : ∀ a ∈ lkC l, a.oneCell' = true := by
  intro a ha
  obtain ⟨x, _, hx⟩ := List.mem_flatMap.1 ha
  simp only [Lk.cells, List.mem_cons, List.mem_map] at hx
  rcases hx with rfl | ⟨y, _, rfl⟩ <;> rfl
theorem lk_one1 (x : Lk) : ∀ a ∈ x.cells, a.oneCell' = true := by
  intro a ha
  exact lk_one [x] a (by rw [lkC_one]; exact ha)
/-- The less, the better. -/
def key (x : Lk) : Nat := (115792089237316195423570985008687907853269984665640564039457584007913129639935 - x.rest.toNat) * 4294967296 + x.who.toNat
def K (l : List Lk) : Nat → Nat := fun k => key (l.getD k lkD)
theorem key_lt (a b : Lk) : key a < key b ↔ b.rest.toNat < a.rest.toNat ∨ (a.rest.toNat = b.rest.toNat ∧ a.who.toNat < b.who.toNat) := by
  unfold key
  have h1 := a.rest.isLt; have h2 := b.rest.isLt; have h3 := a.who.isLt; have h4 := b.who.isLt
  omega
theorem key_inj {a b : Lk} (h : key a = key b) : a = b := by
  unfold key at h
  have h1 := a.rest.isLt; have h2 := b.rest.isLt; have h3 := a.who.isLt; have h4 := b.who.isLt
  cases a; cases b
  simp only [Lk.mk.injEq]
  exact ⟨BitVec.eq_of_toNat_eq (by dsimp only at *; omega), BitVec.eq_of_toNat_eq (by dsimp only at *; omega)⟩
theorem key_gt {a b : Lk} (h : cmpN a.rest.toNat b.rest.toNat > 0) : key a < key b := by
  refine (key_lt a b).2 (.inl ?_)
  unfold cmpN at h
  split at h
  · omega
  · split at h <;> omega
theorem key_eq {a b : Lk} (h : cmpN a.rest.toNat b.rest.toNat = 0) : ((a.who.toNat : Nat) : Int) < ((b.who.toNat : Nat) : Int) ↔ key a < key b := by
  rw [key_lt]
  unfold cmpN at h
  split at h
  · omega
  · split at h <;> omega
theorem key_no {a b : Lk} (h : ¬ cmpN a.rest.toNat b.rest.toNat > 0) (h2 : ¬ cmpN a.rest.toNat b.rest.toNat = 0) : ¬ key a < key b := by
  rw [key_lt]
  unfold cmpN at h h2
  split at h
  · omega
  · split at h <;> simp_all <;> omega
theorem rest_lt' (x : Lk) : x.rest.toNat < 115792089237316195423570985008687907853269984665640564039457584007913129639936 := x.rest.isLt
theorem par_div (j : Nat) : ((j : Int) - 1).tdiv 2 = (((j - 1) / 2 : Nat) : Int) := by
  cases j with
  | zero => rfl
  | succ j =>
    rw [show (((j + 1 : Nat) : Int) - 1) = (j : Int) by omega, Nat.add_sub_cancel]
    rfl
theorem swp_K {l : List Lk} {i j : Nat} (hi : i < l.length) (hj : j < l.length) : K (swp lkD l i j) = swF (K l) i j := by
  funext k
  by_cases hk : k < l.length
  · exact swp_key (key := key) hi hj hk
  · unfold K swF
    rw [if_neg (by omega), if_neg (by omega), List.getD_eq_getElem?_getD, List.getElem?_eq_none (by simp; omega)]
    dsimp only
    rw [List.getD_eq_getElem?_getD, List.getElem?_eq_none (by omega)]
theorem push_inv {l : List Lk} {x : Lk} (h : heapTo (K l) l.length) : upInv (K (l ++ [x])) (l ++ [x]).length l.length := by
  have e : ∀ k, k < l.length → K (l ++ [x]) k = K l k := fun k hk => by
    unfold K
    rw [List.getD_eq_getElem?_getD, List.getElem?_append_left hk, List.getD_eq_getElem?_getD]
  have hl : (l ++ [x]).length = l.length + 1 := by simp
  refine ⟨fun k k0 kn ke => ?_, fun k k0 kn kp l0 => ?_⟩
  · rw [e _ (by omega), e _ (by omega)]
    exact h k k0 (by omega)
  · omega
theorem pop_inv {l : List Lk} {n : Nat} (hn : l.length = n + 1) (h : heapTo (K l) l.length) : dnInv (K (swp lkD l 0 n)) n 0 := by
  rw [swp_K (by omega) (by omega)]
  have fo : ∀ k, k ≠ 0 → k ≠ n → swF (K l) 0 n k = K l k := fun k h1 h2 => by simp [swF, h1, h2]
  refine ⟨fun k k0 kn kp => ?_, fun k k0 kn kp l0 => by omega⟩
  rw [fo _ kp (by omega), fo _ (by omega) (by omega)]
  exact h k k0 (by omega)
theorem pop_split {z : List Lk} {n : Nat} (hn : z.length = n + 1) : z = z.take n ++ [z.getD n lkD] := by
  have h := List.take_append_drop n z
  rw [List.drop_eq_getElem_cons (by omega), List.drop_of_length_le (by omega)] at h
  rw [List.getD_eq_getElem?_getD, List.getElem?_eq_getElem (by omega)]
  exact h.symm
theorem K_take {z : List Lk} {n k : Nat} (hk : k < n) : K (z.take n) k = K z k := by
  unfold K
  rw [List.getD_eq_getElem?_getD, List.getElem?_take_of_lt hk, List.getD_eq_getElem?_getD]
theorem pop_min {l z : List Lk} {n : Nat} (hl : l.length = n + 1) (hz : z.length = n + 1) (hp : z.Perm (swp lkD l 0 n)) (hh : heapTo (K l) l.length) (hn : z.getD n lkD = (swp lkD l 0 n).getD n lkD) :
    (z.getD n lkD :: z.take n).Perm l ∧ ∀ y ∈ z.take n, key (z.getD n lkD) ≤ key y := by
  have h0 : (swp lkD l 0 n).getD n lkD = l.getD 0 lkD := by
    rw [swp_get (by omega) (by omega) (by omega)]
    split
    · rename_i e; subst e; rfl
    · rw [if_pos rfl]
  have hpl : (z.getD n lkD :: z.take n).Perm l := by
    have h1 : (z.take n ++ [z.getD n lkD]).Perm l := by rw [← pop_split hz]; exact hp.trans (swp_perm (by omega) (by omega))
    exact (List.perm_append_comm (l₁ := [z.getD n lkD]) (l₂ := z.take n)).trans h1
  refine ⟨hpl, fun y hy => ?_⟩
  have hyl : y ∈ l := hpl.mem_iff.1 (.tail _ hy)
  obtain ⟨k, hk, rfl⟩ := List.getElem_of_mem hyl
  have hm := heap_min hh k hk
  unfold K at hm
  rw [hn, h0]
  have e : l[k] = l.getD k lkD := by rw [List.getD_eq_getElem?_getD, List.getElem?_eq_getElem hk]; rfl
  rw [e]
  exact hm
theorem take_heap {z : List Lk} {n : Nat} (hz : z.length = n + 1) (h : heapTo (K z) n) : heapTo (K (z.take n)) (z.take n).length := by
  have e : (z.take n).length = n := by rw [List.length_take]; omega
  rw [e]
  exact heapTo_congr h fun k hk => K_take hk
attribute [irreducible] key
end Go.Proofs.Ytfcodaigdigjmaa
