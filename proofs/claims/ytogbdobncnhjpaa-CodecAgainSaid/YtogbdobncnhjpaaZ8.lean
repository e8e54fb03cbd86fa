/- The codec's laws: what a list of questions is, as it comes in. -/
import Derived.Test.YtogbdobncnhjpaaA9
import Derived.Test.YtogbdobncnhjpaaF9
namespace Go.Proofs.Ytogbdobncnhjpaa
open Go.RowKit
variable {H : Type} {enc : TypeId × Value → H} {w : World}
theorem came_asks {v : Value} (h : Came enc Try.prog w 36 [v]) : ∃ l : List Ask, Rds w [Res.rd v l.length 3 (askCells l)] := by
  obtain ⟨n, xs, h1, h2⟩ := h.slice (size := 3) Try.underlying36 (by kernel_rfl) (by decide)
  obtain ⟨l, rfl, rfl, _⟩ := pieces (f := Ask.cells) (p := fun _ => True) (s := 3) (by decide) n xs (by obtain ⟨_, _, _, hl, _⟩ := h1; exact hl) (fun i hi => by
    obtain ⟨hl, hf⟩ := (h2 i hi).struct Try.underlying41
    have hl : ((xs.drop (i * 3)).take 3).length = 3 := hl.trans (by kernel_rfl)
    generalize (xs.drop (i * 3)).take 3 = cs at hl hf
    match cs, hl with
    | [c0, c1, c2], _ =>
      obtain ⟨a, ha, _⟩ := Came.it Try.underlying3 (hf 0 _ rfl)
      obtain ⟨b, hb, _⟩ := Came.it Try.underlying3 (hf 1 _ rfl)
      obtain ⟨c, hc⟩ := Came.u64 Try.underlying22 (hf 2 _ rfl)
      have ha : c0 = it a := by
        have h1 : Try.prog.cellsOf 3 = 1 := by kernel_rfl
        simpa [h1] using ha
      have hb : c1 = it b := by
        have h1 : Try.prog.cellsOf 3 = 1 := by kernel_rfl
        simpa [h1] using hb
      have hc : c2 = u64 c := by
        have h1 : Try.prog.cellsOf 22 = 1 := by kernel_rfl
        simpa [h1] using hc
      exact ⟨⟨a, b, c⟩, by rw [ha, hb, hc]; rfl, trivial⟩)
  exact ⟨l, Rds.one h1⟩
end Go.Proofs.Ytogbdobncnhjpaa
