/- Lists as they come in. -/
import Derived.Test.YtmefjbmaghjpfaaA9
import Derived.Test.YtmefjbmaghjpfaaQ14
import Derived.Test.YtmefjbmaghjpfaaRows
namespace Go.Proofs.Ytmefjbmaghjpfaa
open Go.ChangeShapes Go.WideShapes Go.ChangeAt Go.RowKit
set_option maxRecDepth 100000
variable {H : Type} {enc : TypeId × Value → H} {w : World}
theorem came_ws {v : Value} (h : Came enc Try.prog w 22 [v]) : ∃ l : List W64, Rds w [Res.rd v l.length 1 (l.map u64)] := by
  obtain ⟨n, xs, h1, h2⟩ := h.slice (size := 1) Try.underlying22 (by kernel_rfl) (by decide)
  obtain ⟨l, rfl, rfl, _⟩ := pieces (f := fun x => [u64 x]) (p := fun _ => True) (s := 1) (by decide) n xs (by obtain ⟨_, _, _, hl, _⟩ := h1; exact hl) (fun i hi => by
    obtain ⟨x, hx⟩ := (h2 i hi).u64 Try.underlying23
    exact ⟨x, hx, trivial⟩)
  rw [map_flat] at h1
  exact ⟨l, Rds.one h1⟩
theorem came_ops {v : Value} (h : Came enc Try.prog w 37 [v]) : ∃ l : List OpD, Rds w [Res.rd v l.length 3 (opC l)] := by
  obtain ⟨n, xs, h1, h2⟩ := h.slice (size := 3) Try.underlying37 (by kernel_rfl) (by decide)
  obtain ⟨l, rfl, rfl, _⟩ := pieces (f := OpD.cells) (p := fun _ => True) (s := 3) (by decide) n xs (by obtain ⟨_, _, _, hl, _⟩ := h1; exact hl) (fun i hi => by
    obtain ⟨hl, hf⟩ := (h2 i hi).struct Try.underlying43
    have hl : ((xs.drop (i * 3)).take 3).length = 3 := hl.trans (by kernel_rfl)
    generalize (xs.drop (i * 3)).take 3 = cs at hl hf
    have s3 : Try.prog.cellsOf 3 = 1 := by kernel_rfl
    have s23 : Try.prog.cellsOf 23 = 1 := by kernel_rfl
    match cs, hl with
    | [c0, c1, c2], _ =>
      have f0 : Came enc Try.prog w 3 [c0] := by simpa [s3] using hf 0 _ rfl
      have f1 : Came enc Try.prog w 3 [c1] := by simpa [s3] using hf 1 _ rfl
      have f2 : Came enc Try.prog w 23 [c2] := by simpa [s23] using hf 2 _ rfl
      obtain ⟨a0, h0, _⟩ := f0.it Try.underlying3
      obtain ⟨a1, h1, _⟩ := f1.it Try.underlying3
      obtain ⟨b, hb⟩ := f2.u64 Try.underlying23
      have h0 : c0 = it a0 := by simpa using h0
      have h1 : c1 = it a1 := by simpa using h1
      have hb : c2 = u64 b := by simpa using hb
      exact ⟨⟨a0, a1, b⟩, by rw [h0, h1, hb]; rfl, trivial⟩)
  exact ⟨l, Rds.one h1⟩
end Go.Proofs.Ytmefjbmaghjpfaa
