/- A list of things to write, as it comes in. -/
import Derived.Test.YtganfkmkapogmaaDoorZ11
import Derived.Test.YtganfkmkapogmaaDoorW11
namespace Go.Proofs.YtganfkmkapogmaaDoor
open Go.ChangeShapes Go.WideShapes Go.ChangeAt Go.RowKit
set_option maxRecDepth 100000
variable {H : Type} {enc : TypeId × Value → H} {w : World}
theorem came_ops {v : Value} (h : Came enc Tryd.prog w 35 [v]) : ∃ l : List OpR, Rds w [Res.rd v l.length 4 (bks opC l), Res.all (pcRes (opP l))] := by
  obtain ⟨n, xs, h1, h2⟩ := h.slice (size := 4) Tryd.underlying35 (by kernel_rfl) (by decide)
  obtain ⟨l, rfl, rfl, h3⟩ := pieces (f := opC) (p := fun o => Rds w [Res.rd o.v o.b.length 1 (o.b.map u8)]) (s := 4) (by decide) n xs (by obtain ⟨_, _, _, hl, _⟩ := h1; exact hl) (fun i hi => by
    obtain ⟨hl, hf⟩ := (h2 i hi).struct Tryd.underlying37
    have hl : ((xs.drop (i * 4)).take 4).length = 4 := hl.trans (by kernel_rfl)
    generalize (xs.drop (i * 4)).take 4 = cs at hl hf
    have s3 : Tryd.prog.cellsOf 3 = 1 := by kernel_rfl
    have s4 : Tryd.prog.cellsOf 4 = 1 := by kernel_rfl
    have s22 : Tryd.prog.cellsOf 22 = 1 := by kernel_rfl
    match cs, hl with
    | [c0, c1, c2, c3], _ =>
      have f0 : Came enc Tryd.prog w 22 [c0] := by simpa [s22] using hf 0 _ rfl
      have f1 : Came enc Tryd.prog w 3 [c1] := by simpa [s3] using hf 1 _ rfl
      have f2 : Came enc Tryd.prog w 4 [c2] := by simpa [s4] using hf 2 _ rfl
      have f3 : Came enc Tryd.prog w 4 [c3] := by simpa [s4] using hf 3 _ rfl
      obtain ⟨a, ha, _⟩ := f1.it Tryd.underlying3
      obtain ⟨s, hs⟩ := f2.bool Tryd.underlying4
      obtain ⟨g, hg⟩ := f3.bool Tryd.underlying4
      obtain ⟨bs, hb⟩ := f0.bytes Tryd.underlying22 (by kernel_rfl) Tryd.underlying5
      have hb' := hb
      obtain ⟨B, c, e, _⟩ := hb'
      have ha : c1 = it a := by simpa using ha
      have hs : c2 = .bool s := by simpa using hs
      have hg : c3 = .bool g := by simpa using hg
      have ev : c0 = OpR.v ⟨B, bs.length, c, bs, a, s, g⟩ := by rw [OpR.v_eq]; exact e
      refine ⟨⟨B, bs.length, c, bs, a, s, g⟩, ?_, ?_⟩
      · rw [ha, hs, hg, ev]; rfl
      · rw [← ev]; exact Rds.one hb)
  refine ⟨l, (Rds.one h1).append (Rds.all fun r hr => ?_)⟩
  obtain ⟨d, hd, rfl⟩ := List.mem_map.1 hr
  obtain ⟨o, ho, rfl⟩ := List.mem_map.1 hd
  exact h3 o ho _ (.head _)
end Go.Proofs.YtganfkmkapogmaaDoor
