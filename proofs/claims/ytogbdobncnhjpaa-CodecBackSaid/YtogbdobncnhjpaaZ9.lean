/- The codec's laws: what a list of things to put is, as it comes in. -/
import Derived.Test.YtogbdobncnhjpaaA9
import Derived.Test.YtogbdobncnhjpaaD8
import Derived.Test.YtogbdobncnhjpaaF9
namespace Go.Proofs.Ytogbdobncnhjpaa
open Go.RowKit
variable {H : Type} {enc : TypeId × Value → H} {w : World}
theorem came_nat {cs : List Value} (h : Came enc Try.prog w 44 cs) : ∃ ws : W4, cs = ws.map u64 ∧ ws.length = 4 := by
  obtain ⟨hl, he⟩ := h.array Try.underlying44
  have hl : cs.length = 4 := hl.trans (by kernel_rfl)
  have h1 : Try.prog.cellsOf 22 = 1 := by kernel_rfl
  rw [h1] at he
  match cs, hl with
  | [c0, c1, c2, c3], _ =>
    obtain ⟨a, ha⟩ := Came.u64 Try.underlying22 (he 0 (by decide))
    obtain ⟨b, hb⟩ := Came.u64 Try.underlying22 (he 1 (by decide))
    obtain ⟨c, hc⟩ := Came.u64 Try.underlying22 (he 2 (by decide))
    obtain ⟨d, hd⟩ := Came.u64 Try.underlying22 (he 3 (by decide))
    have ha : c0 = u64 a := by simpa using ha
    have hb : c1 = u64 b := by simpa using hb
    have hc : c2 = u64 c := by simpa using hc
    have hd : c3 = u64 d := by simpa using hd
    exact ⟨[a, b, c, d], by rw [ha, hb, hc, hd]; rfl, rfl⟩
theorem came_nats {v : Value} (h : Came enc Try.prog w 47 [v]) : ∃ l : List W4, IsRd w v l.length 4 (natCells l) ∧ ∀ ws ∈ l, ws.length = 4 := by
  obtain ⟨n, xs, h1, h2⟩ := h.slice (size := 4) Try.underlying47 (by kernel_rfl) (by decide)
  obtain ⟨l, rfl, rfl, h3⟩ := pieces (f := fun ws : W4 => ws.map u64) (p := fun ws => ws.length = 4) (s := 4) (by decide) n xs (by obtain ⟨_, _, _, hl, _⟩ := h1; exact hl) (fun i hi => came_nat (h2 i hi))
  exact ⟨l, h1, h3⟩
theorem came_puts {v : Value} (h : Came enc Try.prog w 32 [v]) : ∃ l : { l : List Put // ∀ d ∈ l, d.ok }, Rds w [Res.rd v l.1.length 8 (putCells l.1), Res.all (putRes l.1)] := by
  obtain ⟨n, xs, h1, h2⟩ := h.slice (size := 8) Try.underlying32 (by kernel_rfl) (by decide)
  obtain ⟨l, rfl, rfl, h3⟩ := pieces (f := Put.cells) (p := fun d => d.ok ∧ Rds w d.res) (s := 8) (by decide) n xs (by obtain ⟨_, _, _, hl, _⟩ := h1; exact hl) (fun i hi => by
    obtain ⟨hl, hf⟩ := (h2 i hi).struct Try.underlying52
    have hl : ((xs.drop (i * 8)).take 8).length = 8 := hl.trans (by kernel_rfl)
    generalize (xs.drop (i * 8)).take 8 = cs at hl hf
    have s3 : Try.prog.cellsOf 3 = 1 := by kernel_rfl
    have s22 : Try.prog.cellsOf 22 = 1 := by kernel_rfl
    have s44 : Try.prog.cellsOf 44 = 4 := by kernel_rfl
    have s25 : Try.prog.cellsOf 25 = 1 := by kernel_rfl
    have s47 : Try.prog.cellsOf 47 = 1 := by kernel_rfl
    match cs, hl with
    | [c0, c1, c2, c3, c4, c5, c6, c7], _ =>
      have f0 : Came enc Try.prog w 3 [c0] := by simpa [s3] using hf 0 _ rfl
      have f1 : Came enc Try.prog w 22 [c1] := by simpa [s22] using hf 1 _ rfl
      have f2 : Came enc Try.prog w 44 [c2, c3, c4, c5] := by simpa [s44] using hf 2 _ rfl
      have f3 : Came enc Try.prog w 25 [c6] := by simpa [s25] using hf 3 _ rfl
      have f4 : Came enc Try.prog w 47 [c7] := by simpa [s47] using hf 4 _ rfl
      obtain ⟨a, ha, _⟩ := f0.it Try.underlying3
      obtain ⟨b, hb⟩ := f1.u64 Try.underlying22
      obtain ⟨ws, hw, h4⟩ := came_nat f2
      obtain ⟨bs, hbs⟩ := f3.bytes Try.underlying25 (by kernel_rfl) Try.underlying5
      obtain ⟨l, hls, hl4⟩ := came_nats f4
      have ha : c0 = it a := by simpa using ha
      have hb : c1 = u64 b := by simpa using hb
      refine ⟨⟨a, b, ws, c6, bs, c7, l⟩, ?_, ⟨h4, hl4⟩, (Rds.one hbs).append (Rds.one hls)⟩
      rw [ha, hb]
      unfold Put.cells
      dsimp only
      rw [← hw]
      rfl)
  exact ⟨⟨l, fun d hd => (h3 d hd).1⟩, (Rds.one h1).append (Rds.all (Rds.flat fun d hd => (h3 d hd).2))⟩
end Go.Proofs.Ytogbdobncnhjpaa
