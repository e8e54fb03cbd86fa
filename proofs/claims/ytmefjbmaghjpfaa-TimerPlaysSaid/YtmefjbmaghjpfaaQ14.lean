/- What the chapter's laws say of it: the plain side. No program in sight. -/
import Derived.Test.YtmefjbmaghjpfaaP14
namespace Go.Proofs.Ytmefjbmaghjpfaa
open Go.RowKit
theorem addL_len (x : It) {L : List It} {n : Nat} (h : L.length ≤ n) : (addL x L).length ≤ n + 1 := by
  unfold addL
  split
  · omega
  · rw [insI_len]; omega
theorem addL_cap (x : It) {L : List It} (h : L.length ≤ 100) : (addL x L).length ≤ 100 := by
  unfold addL
  split
  · exact h
  · rw [insI_len]; omega
theorem addO_le {o n : Nat} (L : List It) (h : o ≤ n) : addO o L ≤ n + 1 := by
  unfold addO
  split <;> omega
/-! ### Up to one time, and then up to another one -/
theorem tw_two {a b : W64} (h : a.toNat ≤ b.toNat) (L : List It) : L.takeWhile (dueP a) ++ (L.dropWhile (dueP a)).takeWhile (dueP b) = L.takeWhile (dueP b) ∧ (L.dropWhile (dueP a)).dropWhile (dueP b) = L.dropWhile (dueP b) := by
  induction L with
  | nil => exact ⟨rfl, rfl⟩
  | cons x L ih =>
    by_cases hx : x.due.toNat ≤ a.toNat
    · have e1 : dueP a x = true := decide_eq_true hx
      have e2 : dueP b x = true := decide_eq_true (Nat.le_trans hx h)
      simp only [List.takeWhile_cons, List.dropWhile_cons, e1, e2, if_true, List.cons_append, ih.1, ih.2, and_self]
    · have e1 : dueP a x = false := decide_eq_false hx
      simp [List.takeWhile_cons, List.dropWhile_cons, e1]
theorem tw_dw_len (p : It → Bool) (L : List It) : (L.takeWhile p).length + (L.dropWhile p).length = L.length := by
  have := congrArg List.length (List.takeWhile_append_dropWhile (p := p) (l := L))
  rwa [List.length_append] at this
theorem tw_at {b : W64} : ∀ {L : List It} {k : Nat}, k < (L.takeWhile (dueP b)).length → ((L.takeWhile (dueP b)).getD k itD).due.toNat ≤ b.toNat
  | [], k, h => absurd h (by simp)
  | x :: L, k, h => by
    by_cases hx : x.due.toNat ≤ b.toNat
    · have e1 : dueP b x = true := decide_eq_true hx
      rw [List.takeWhile_cons, e1, if_pos rfl] at h ⊢
      cases k with
      | zero => exact hx
      | succ k => exact tw_at (L := L) (by simpa using h)
    · have e1 : dueP b x = false := decide_eq_false hx
      rw [List.takeWhile_cons, e1] at h
      exact absurd h (by simp)
def qL (ds : List W64) : Nat → List It
  | 0 => []
  | k + 1 => addL ⟨ds.getD k 0, (k : Int)⟩ (qL ds k)
def qO (ds : List W64) : Nat → Nat
  | 0 => 0
  | k + 1 => addO (qO ds k) (qL ds k)
theorem qL_len (ds : List W64) : ∀ {k : Nat}, k ≤ 100 → (qL ds k).length = k
  | 0, _ => rfl
  | k + 1, h => by
    have ih := qL_len ds (k := k) (by omega)
    rw [qL, addL, if_neg (by omega), insI_len, ih]
theorem qO_le (ds : List W64) : ∀ k, qO ds k ≤ k
  | 0 => Nat.le_refl _
  | k + 1 => addO_le _ (qO_le ds k)
/-! ### What is cancelled -/
theorem QR.sorted {hs : List En} {o : Nat} {L : List It} (h : QR hs o L) : L.Pairwise (fun a b => a.due.toNat ≤ b.due.toNat) := by
  obtain ⟨ss, _, h2, h3, _⟩ := h
  rw [← h3, List.pairwise_map]
  refine h2.imp fun {a b} hab => ?_
  rw [key_lt] at hab
  show a.due.toNat ≤ b.due.toNat
  omega
theorem ins_filter {x : It} (p : It → Bool) : ∀ {L : List It}, L.Pairwise (fun a b => a.due.toNat ≤ b.due.toNat) → (insI x L).filter p = if p x then insI x (L.filter p) else L.filter p
  | [], _ => by
    simp only [insI, List.takeWhile_nil, List.dropWhile_nil, List.nil_append, List.filter_nil]
    rw [List.filter_cons, List.filter_nil]
  | y :: L, h => by
    have hc := List.pairwise_cons.1 h
    have ih := ins_filter (x := x) p hc.2
    by_cases hy : y.due.toNat ≤ x.due.toNat
    · have e : decide (y.due.toNat ≤ x.due.toNat) = true := decide_eq_true hy
      have h1 : insI x (y :: L) = y :: insI x L := by
        simp only [insI, List.takeWhile_cons, List.dropWhile_cons, e, if_true, List.cons_append]
      rw [h1, List.filter_cons, List.filter_cons, ih]
      by_cases hp : p y = true
      · rw [if_pos hp, if_pos hp]
        by_cases hx : p x = true
        · rw [if_pos hx, if_pos hx]
          simp only [insI, List.takeWhile_cons, List.dropWhile_cons, e, if_true, List.cons_append]
        · rw [if_neg hx, if_neg hx]
      · rw [if_neg hp, if_neg hp]
    · have hall : ∀ z ∈ y :: L, decide (z.due.toNat ≤ x.due.toNat) = false := fun z hz => by
        rcases List.mem_cons.1 hz with rfl | hz
        · exact decide_eq_false hy
        · exact decide_eq_false fun h2 => hy (Nat.le_trans (hc.1 z hz) h2)
      have hins : ∀ M : List It, (∀ z ∈ M, decide (z.due.toNat ≤ x.due.toNat) = false) → insI x M = x :: M := fun M hM => by
        cases M with
        | nil => rfl
        | cons z M =>
          have := hM z (.head _)
          simp only [insI, List.takeWhile_cons, List.dropWhile_cons, this]
          rfl
      rw [hins _ hall, List.filter_cons, hins _ fun z hz => hall z (List.mem_filter.1 hz).1]
def keepP (id : Int) (y : It) : Bool := decide (y.id ≠ id)
theorem add_keep {x : It} {id : Int} {hs : List En} {o : Nat} {L : List It} (h : QR hs o L) (hl : L.length < 100) : (addL x L).filter (keepP id) = if x.id = id then L.filter (keepP id) else addL x (L.filter (keepP id)) := by
  have hf := List.length_filter_le (keepP id) L
  have h1 : addL x L = insI x L := by rw [addL, if_neg (by omega)]
  have h2 : addL x (L.filter (keepP id)) = insI x (L.filter (keepP id)) := by rw [addL, if_neg (by omega)]
  rw [h1, h2, ins_filter _ h.sorted]
  by_cases hx : x.id = id
  · have e : keepP id x = false := decide_eq_false fun hh => hh hx
    rw [if_neg (by rw [e]; decide), if_pos hx]
  · have e : keepP id x = true := decide_eq_true hx
    rw [if_pos e, if_neg hx]
theorem addL_len' {x : It} {L : List It} (h : L.length < 100) : (addL x L).length = L.length + 1 := by rw [addL, if_neg (by omega), insI_len]
/-- What one asks, of the queue. -/
structure OpD where
  todo : Int
  id : Int
  due : W64
def opD0 : OpD := ⟨0, 0, 0⟩
def OpD.cells (x : OpD) : List Value := [it x.todo, it x.id, u64 x.due]
def opC (l : List OpD) : List Value := l.flatMap OpD.cells
@[simp] theorem opC_len (l : List OpD) : (opC l).length = l.length * 3 := by
  induction l with
  | nil => rfl
  | cons x l ih => simp only [opC, List.flatMap_cons, List.length_append, List.length_cons, OpD.cells, List.length_nil] at ih ⊢; omega
theorem op_piece : ∀ {l : List OpD} {k : Nat}, k < l.length → ((opC l).drop (k * 3)).take 3 = (l.getD k opD0).cells
  | [], _, h => by simp at h
  | x :: l, 0, _ => by rw [Nat.zero_mul, List.drop_zero]; exact List.take_left' rfl
  | x :: l, k + 1, h => by
    have := op_piece (l := l) (k := k) (by simpa using h)
    rw [show (k + 1) * 3 = 3 + k * 3 by omega, ← List.drop_drop]
    exact this
theorem op_one (x : OpD) : ∀ a ∈ x.cells, a.oneCell' = true := by
  intro a ha
  simp only [OpD.cells, List.mem_cons, List.not_mem_nil, or_false] at ha
  rcases ha with rfl | rfl | rfl <;> rfl
end Go.Proofs.Ytmefjbmaghjpfaa
