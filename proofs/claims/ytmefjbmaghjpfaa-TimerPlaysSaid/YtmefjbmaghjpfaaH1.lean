/- Heaps: the plain side. No program in sight. -/
import Derived.Test.YtmefjbmaghjpfaaA11
namespace Go.Proofs.Ytmefjbmaghjpfaa
open Go.RowKit
/-! ### By keys -/
def heapTo (f : Nat → Nat) (n : Nat) : Prop := ∀ k, 0 < k → k < n → f ((k - 1) / 2) ≤ f k
def swF (f : Nat → Nat) (i j : Nat) : Nat → Nat := fun k => if k = i then f j else if k = j then f i else f k
def upInv (f : Nat → Nat) (n j : Nat) : Prop := (∀ k, 0 < k → k < n → k ≠ j → f ((k - 1) / 2) ≤ f k) ∧ (∀ k, 0 < k → k < n → (k - 1) / 2 = j → 0 < j → f ((j - 1) / 2) ≤ f k)
theorem up_done {f : Nat → Nat} {n j : Nat} (h : upInv f n j) (hj : j = 0 ∨ f ((j - 1) / 2) ≤ f j) : heapTo f n := fun k h0 hk => by
  by_cases e : k = j
  · subst e
    rcases hj with hj | hj
    · omega
    · exact hj
  · exact h.1 k h0 hk e
theorem up_step {f : Nat → Nat} {n j i : Nat} (h : upInv f n j) (hj : j < n) (h0 : 0 < j) (hi : i = (j - 1) / 2) (hlt : f j < f i) : upInv (swF f i j) n i := by
  have hij : i ≠ j := by omega
  have fi : swF f i j i = f j := by simp [swF]
  have fj : swF f i j j = f i := by simp [swF, Ne.symm hij]
  have fo : ∀ k, k ≠ i → k ≠ j → swF f i j k = f k := fun k h1 h2 => by simp [swF, h1, h2]
  refine ⟨fun k k0 kn ki => ?_, fun k k0 kn kp i0 => ?_⟩
  · by_cases ekj : k = j
    · subst ekj
      rw [← hi, fi, fj]
      omega
    · rw [fo k ki ekj]
      by_cases e1 : (k - 1) / 2 = i
      · rw [e1, fi]
        have := h.1 k k0 kn ekj
        rw [e1] at this
        omega
      · by_cases e2 : (k - 1) / 2 = j
        · rw [e2, fj, hi]
          exact h.2 k k0 kn e2 h0
        · rw [fo _ e1 e2]
          exact h.1 k k0 kn ekj
  · have hp : swF f i j ((i - 1) / 2) = f ((i - 1) / 2) := fo _ (by omega) (by omega)
    rw [hp]
    have h1 := h.1 i i0 (by omega) hij
    by_cases ekj : k = j
    · subst ekj; rw [fj]; exact h1
    · rw [fo k (by omega) ekj]
      have h2 := h.1 k k0 kn ekj
      rw [kp] at h2
      omega
def dnInv (f : Nat → Nat) (n i : Nat) : Prop := (∀ k, 0 < k → k < n → (k - 1) / 2 ≠ i → f ((k - 1) / 2) ≤ f k) ∧ (∀ k, 0 < k → k < n → (k - 1) / 2 = i → 0 < i → f ((i - 1) / 2) ≤ f k)
theorem dn_step {f : Nat → Nat} {n i j : Nat} (h : dnInv f n i) (hj : j < n) (h0 : 0 < j) (hi : i = (j - 1) / 2) (hmin : ∀ k, 0 < k → k < n → (k - 1) / 2 = i → f j ≤ f k) (hlt : f j < f i) : dnInv (swF f i j) n j := by
  have hij : i ≠ j := by omega
  have fi : swF f i j i = f j := by simp [swF]
  have fj : swF f i j j = f i := by simp [swF, Ne.symm hij]
  have fo : ∀ k, k ≠ i → k ≠ j → swF f i j k = f k := fun k h1 h2 => by simp [swF, h1, h2]
  refine ⟨fun k k0 kn kp => ?_, fun k k0 kn kp j0 => ?_⟩
  · by_cases ekj : k = j
    · subst ekj
      rw [← hi, fi, fj]
      omega
    · by_cases eki : k = i
      · subst eki
        rw [fo _ (by omega) kp, fi]
        exact h.2 j h0 hj hi.symm k0
      · rw [fo k eki ekj]
        by_cases e1 : (k - 1) / 2 = i
        · rw [e1, fi]
          exact hmin k k0 kn e1
        · rw [fo _ e1 kp]
          exact h.1 k k0 kn e1
  · rw [← hi, fi, fo k (by omega) (by omega)]
    have := h.1 k k0 kn (by omega)
    rw [kp] at this
    exact this
theorem dn_done {f : Nat → Nat} {n i : Nat} (h : dnInv f n i) (hm : ∀ k, 0 < k → k < n → (k - 1) / 2 = i → f i ≤ f k) : heapTo f n := fun k k0 kn => by
  by_cases e : (k - 1) / 2 = i
  · rw [e]; exact hm k k0 kn e
  · exact h.1 k k0 kn e
theorem heap_min {f : Nat → Nat} {n : Nat} (h : heapTo f n) : ∀ k, k < n → f 0 ≤ f k := by
  intro k
  induction k using Nat.strongRecOn with
  | ind k ih =>
    intro hk
    by_cases k0 : k = 0
    · subst k0; exact Nat.le_refl _
    · have h1 := ih ((k - 1) / 2) (by omega) (by omega)
      have h2 := h k (by omega) hk
      omega
theorem heap_less {f : Nat → Nat} {n m : Nat} (h : heapTo f n) (hm : m ≤ n) : heapTo f m := fun k k0 kn => h k k0 (by omega)
theorem heapTo_congr {f g : Nat → Nat} {n : Nat} (h : heapTo f n) (e : ∀ k, k < n → g k = f k) : heapTo g n := fun k k0 kn => by rw [e _ (by omega), e k kn]; exact h k k0 kn
/-! ### Lists -/
section
variable {α : Type} (d : α)
def swp (xs : List α) (i j : Nat) : List α := (xs.set i (xs.getD j d)).set j (xs.getD i d)
@[simp] theorem swp_len (xs : List α) (i j : Nat) : (swp d xs i j).length = xs.length := by simp [swp]
variable {d}
theorem getD_setA {l : List α} {i j : Nat} (hj : j < l.length) (x : α) : (l.set i x).getD j d = if i = j then x else l.getD j d := by
  rw [List.getD_eq_getElem?_getD, List.getElem?_set]
  by_cases h : i = j
  · subst h; rw [if_pos rfl, if_pos hj, if_pos rfl]; rfl
  · rw [if_neg h, if_neg h, List.getD_eq_getElem?_getD]
theorem swp_get {xs : List α} {i j k : Nat} (hi : i < xs.length) (_hj : j < xs.length) (hk : k < xs.length) : (swp d xs i j).getD k d = if k = i then xs.getD j d else if k = j then xs.getD i d else xs.getD k d := by
  unfold swp
  rw [getD_setA (by simpa using hk), getD_setA hk]
  by_cases e1 : j = k
  · subst e1
    rw [if_pos rfl]
    by_cases e2 : j = i
    · subst e2; rw [if_pos rfl]
    · rw [if_neg e2, if_pos rfl]
  · rw [if_neg e1]
    by_cases e2 : i = k
    · subst e2; rw [if_pos rfl, if_pos rfl]
    · rw [if_neg e2, if_neg (Ne.symm e2), if_neg (Ne.symm e1)]
theorem swp_key {key : α → Nat} {xs : List α} {i j : Nat} (hi : i < xs.length) (hj : j < xs.length) {k : Nat} (hk : k < xs.length) : key ((swp d xs i j).getD k d) = swF (fun k => key (xs.getD k d)) i j k := by
  rw [swp_get hi hj hk]
  unfold swF
  split
  · rfl
  · split <;> rfl
theorem set_perm : ∀ {l : List α} {i : Nat} (_ : i < l.length) (y : α), (l.getD i d :: l.set i y).Perm (y :: l)
  | x :: l, 0, _, y => by simpa using List.Perm.swap y x l
  | x :: l, i + 1, h, y => by
    have := set_perm (l := l) (i := i) (by simpa using h) y
    simp only [List.getD_cons_succ, List.set_cons_succ]
    exact (List.Perm.swap x _ _).trans ((this.cons x).trans (List.Perm.swap y x l))
theorem swp_perm {xs : List α} {i j : Nat} (hi : i < xs.length) (hj : j < xs.length) : (swp d xs i j).Perm xs := by
  have h1 := set_perm (d := d) hi (xs.getD j d)
  have h2 := set_perm (d := d) (l := xs.set i (xs.getD j d)) (i := j) (by simpa using hj) (xs.getD i d)
  have e : (xs.set i (xs.getD j d)).getD j d = xs.getD j d := by rw [getD_setA hj]; split <;> rfl
  rw [e] at h2
  exact (h2.trans h1).cons_inv
theorem perm_mem {xs ys : List α} (h : xs.Perm ys) {x : α} : x ∈ xs ↔ x ∈ ys := h.mem_iff
end
end Go.Proofs.Ytmefjbmaghjpfaa
