/- Votes: the document's tally beside ours; who voted twice. No program in sight. -/
import Derived.Test.YtmbpngnamnoiaaaDoorT15
import Derived.Test.YtmbpngnamnoiaaaDoorK5
namespace Go.Proofs.YtmbpngnamnoiaaaDoor
open Go.RowKit
set_option linter.unusedVariables false
set_option linter.unusedSimpArgs false
theorem tok_out {S : List W64} {m : MM Int D32} (h : TOk S m) {k : Int} (hk : k < 0 ∨ (S.length : Int) ≤ k) : m.get k = none := by
  cases hf : m.get k with
  | none => rfl
  | some v =>
    obtain ⟨c, hc⟩ := (MM.get_iff h.ok).1 hf
    have := h.rng _ hc
    simp only at this
    omega
theorem vote_ref1 {S : List W64} {m m' : MM Int D32} {who : Int} {v : D32} (h : m' = if voteE S m.get who v = 0 then m.put who v else m) : (if voteE S m.get who v = 0 then gput m.get who v else m.get) = m'.get := by
  subst h
  split
  · funext j
    rw [MM.get_put]
    rfl
  · rfl
def isK (tw : MM Int Bool) : Int → Bool := fun k => (tw.get k).isSome
theorem vote_ref2 {S : List W64} {g : Int → Option D32} {tw tw' : MM Int Bool} {who : Int} {v : D32} (h : tw' = if voteE S g who v = 52 then tw.put who true else tw) : (if voteE S g who v = 52 then tput (isK tw) who else isK tw) = isK tw' := by
  subst h
  split
  · funext j
    unfold isK tput
    rw [MM.get_put]
    split <;> rfl
  · rfl
theorem isK_nil : isK MM.nil = fun _ => false := rfl
theorem twL_lt (t : Int → Bool) (n : Nat) : (twL t n).Pairwise (· < ·) := by
  unfold twL
  refine List.pairwise_map.2 ((List.pairwise_lt_range.filter _).imp fun h => ?_)
  omega
theorem mem_twL {t : Int → Bool} {n : Nat} {k : Int} : k ∈ twL t n ↔ 0 ≤ k ∧ k < n ∧ t k = true := by
  simp only [twL, List.mem_map, List.mem_filter, List.mem_range]
  constructor
  · rintro ⟨i, ⟨h1, h2⟩, rfl⟩
    exact ⟨by omega, by omega, h2⟩
  · rintro ⟨h1, h2, h3⟩
    exact ⟨k.toNat, ⟨by omega, by rw [Int.toNat_of_nonneg h1]; exact h3⟩, Int.toNat_of_nonneg h1⟩
theorem twice_eq {S : List W64} {tw : MM Int Bool} {n : Nat} (h : TW S tw n) : sortK (tw.es.map (·.1)) = twL (isK tw) S.length := by
  have h1 := twL_lt (isK tw) S.length
  have hp : (tw.es.map (·.1)).Perm (twL (isK tw) S.length) := by
    refine (List.perm_ext_iff_of_nodup h.ok.nk (h1.imp fun h e => by omega)).2 fun k => ?_
    rw [mem_twL, List.mem_map]
    constructor
    · rintro ⟨e, he, rfl⟩
      have h2 := h.rng e he
      refine ⟨h2.1, h2.2, ?_⟩
      unfold isK
      rw [(MM.get_iff h.ok).2 ⟨e.2.2, he⟩]
      rfl
    · rintro ⟨_, _, h3⟩
      obtain ⟨v, hv⟩ := Option.isSome_iff_exists.1 h3
      obtain ⟨c, hc⟩ := (MM.get_iff h.ok).1 hv
      exact ⟨_, hc, rfl⟩
  refine List.Perm.eq_of_pairwise (le := fun a b : Int => a ≤ b) (fun a b _ _ h1 h2 => Int.le_antisymm h1 h2) (sortK_sorted _) (h1.imp fun h => Int.le_of_lt h) ((sortK_perm _).trans hp)
end Go.Proofs.YtmbpngnamnoiaaaDoor
