/- Lists of votes, as they come in. -/
import Derived.Test.YtmbpngnamnoiaaaDoorZ15
import Derived.Test.YtmbpngnamnoiaaaDoorT15
namespace Go.Proofs.YtmbpngnamnoiaaaDoor
open Go.ChangeShapes Go.WideShapes Go.ChangeAt Go.RowKit
set_option maxRecDepth 100000
variable {H : Type} {enc : TypeId × Value → H} {w : World}
theorem came_vots {v : Value} (h : Came enc Tryd.prog w 40 [v]) : ∃ l : List VtE, Rds w [Res.rd v l.length 33 (bks vtC l)] := by
  obtain ⟨n, xs, h1, h2⟩ := h.slice (size := 33) Tryd.underlying40 (by kernel_rfl) (by decide)
  obtain ⟨l, rfl, rfl, _⟩ := pieces (f := vtC) (p := fun _ => True) (s := 33) (by decide) n xs (by obtain ⟨_, _, _, hl, _⟩ := h1; exact hl) (fun i hi => by
    obtain ⟨hl, hf⟩ := (h2 i hi).struct Tryd.underlying42
    have hl : ((xs.drop (i * 33)).take 33).length = 33 := hl.trans (by kernel_rfl)
    generalize (xs.drop (i * 33)).take 33 = cs at hl hf
    have s3 : Tryd.prog.cellsOf 3 = 1 := by kernel_rfl
    have s24 : Tryd.prog.cellsOf 31 = 32 := by kernel_rfl
    obtain ⟨k, hk, _⟩ := Came.it Tryd.underlying3 (by have h0 : Came enc Tryd.prog w 3 ((cs.drop 0).take (Tryd.prog.cellsOf 3)) := hf 0 _ rfl; rw [s3] at h0; exact h0)
    obtain ⟨m, hm⟩ := came_dig (by have h0 : Came enc Tryd.prog w 31 ((cs.drop 1).take (Tryd.prog.cellsOf 31)) := hf 1 _ rfl; rw [s24] at h0; exact h0)
    refine ⟨(k, m), ?_, trivial⟩
    have e : cs = (cs.drop 0).take 1 ++ (cs.drop 1).take 32 := by
      have t5 : (cs.drop 1).take 32 = cs.drop 1 := List.take_of_length_le (by simp; omega)
      rw [t5, List.drop_zero, List.take_append_drop]
    rw [e, hk, hm]
    simp [vtC])
  exact ⟨l, Rds.one h1⟩
end Go.Proofs.YtmbpngnamnoiaaaDoor
