/- Lists of what happens in a world, and of who is corrupt, as they come in. -/
import Derived.Test.YtncececcopalgaaDoorZ16
import Derived.Test.YtncececcopalgaaDoorY16
namespace Go.Proofs.YtncececcopalgaaDoor
open Go.ChangeShapes Go.WideShapes Go.ChangeAt Go.RowKit
set_option maxRecDepth 100000
variable {H : Type} {enc : TypeId × Value → H} {w : World}
theorem came_bools {v : Value} (h : Came enc Tryd.prog w 46 [v]) : ∃ l : List Bool, Rds w [Res.rd v l.length 1 (l.map Value.bool)] := by
  obtain ⟨n, xs, h1, h2⟩ := h.slice (size := 1) Tryd.underlying46 (by kernel_rfl) (by decide)
  obtain ⟨l, rfl, rfl, _⟩ := pieces (f := fun x => [Value.bool x]) (p := fun _ => True) (s := 1) (by decide) n xs (by obtain ⟨_, _, _, hl, _⟩ := h1; exact hl) (fun i hi => by
    obtain ⟨x, hx⟩ := (h2 i hi).bool Tryd.underlying4
    exact ⟨x, hx, trivial⟩)
  rw [map_flat] at h1
  exact ⟨l, Rds.one h1⟩
theorem came_picks {v : Value} (h : Came enc Tryd.prog w 47 [v]) : ∃ l : List PickE, Rds w [Res.rd v l.length 40 (piC l)] := by
  obtain ⟨n, xs, h1, h2⟩ := h.slice (size := 40) Tryd.underlying47 (by kernel_rfl) (by decide)
  obtain ⟨l, rfl, rfl, _⟩ := pieces (f := PickE.cells) (p := fun _ => True) (s := 40) (by decide) n xs (by obtain ⟨_, _, _, hl, _⟩ := h1; exact hl) (fun i hi => by
    obtain ⟨hl, hf⟩ := (h2 i hi).struct Tryd.underlying53
    have hl : ((xs.drop (i * 40)).take 40).length = 40 := hl.trans (by kernel_rfl)
    generalize (xs.drop (i * 40)).take 40 = cs at hl hf
    have s3 : Tryd.prog.cellsOf 3 = 1 := by kernel_rfl
    have s33 : Tryd.prog.cellsOf 33 = 36 := by kernel_rfl
    obtain ⟨k, hk, _⟩ := Came.it Tryd.underlying3 (by have h0 : Came enc Tryd.prog w 3 ((cs.drop 0).take (Tryd.prog.cellsOf 3)) := hf 0 _ rfl; rw [s3] at h0; exact h0)
    obtain ⟨r, hr, _⟩ := Came.it Tryd.underlying3 (by have h0 : Came enc Tryd.prog w 3 ((cs.drop 1).take (Tryd.prog.cellsOf 3)) := hf 1 _ rfl; rw [s3] at h0; exact h0)
    obtain ⟨f, hfr, _⟩ := Came.it Tryd.underlying3 (by have h0 : Came enc Tryd.prog w 3 ((cs.drop 2).take (Tryd.prog.cellsOf 3)) := hf 2 _ rfl; rw [s3] at h0; exact h0)
    obtain ⟨g, hg, _⟩ := Came.it Tryd.underlying3 (by have h0 : Came enc Tryd.prog w 3 ((cs.drop 3).take (Tryd.prog.cellsOf 3)) := hf 3 _ rfl; rw [s3] at h0; exact h0)
    obtain ⟨m, hm⟩ := came_msg (by have h0 : Came enc Tryd.prog w 33 ((cs.drop 4).take (Tryd.prog.cellsOf 33)) := hf 4 _ rfl; rw [s33] at h0; exact h0)
    refine ⟨⟨k, r, f, g, m⟩, ?_, trivial⟩
    have e : cs = (cs.drop 0).take 1 ++ ((cs.drop 1).take 1 ++ ((cs.drop 2).take 1 ++ ((cs.drop 3).take 1 ++ (cs.drop 4).take 36))) := by
      have t5 : (cs.drop 4).take 36 = cs.drop 4 := List.take_of_length_le (by simp; omega)
      rw [t5, ← List.drop_drop (i := 1) (j := 3), List.take_append_drop, ← List.drop_drop (i := 1) (j := 2), List.take_append_drop, ← List.drop_drop (i := 1) (j := 1), List.take_append_drop, List.drop_zero, List.take_append_drop]
    rw [e, hk, hr, hfr, hg, hm]
    simp [PickE.cells])
  exact ⟨l, Rds.one h1⟩
end Go.Proofs.YtncececcopalgaaDoor
