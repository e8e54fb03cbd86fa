/- Lists of pieces, and of what is done, as they come in. -/
import Derived.Test.YtffgimlkmfjgmaaA9
import Derived.Test.YtffgimlkmfjgmaaW17
import Derived.Test.YtffgimlkmfjgmaaRows
namespace Go.Proofs.Ytffgimlkmfjgmaa
open Go.RowKit
set_option maxRecDepth 100000
variable {H : Type} {enc : TypeId × Value → H} {w : World}
theorem came_pcs {v : Value} (h : Came enc Try.prog w 23 [v]) : ∃ l : Pcs, Rds w [Res.rd v l.length 1 (l.map Prod.fst), Res.all (pcRes l)] := by
  obtain ⟨n, xs, h1, h2⟩ := h.slice (size := 1) Try.underlying23 (by kernel_rfl) (by decide)
  have hlen : xs.length = n * 1 := by obtain ⟨_, _, _, hl, _⟩ := h1; exact hl
  obtain ⟨l, rfl, rfl, h3⟩ := pieces (f := fun x : Value × B8 => [x.1]) (p := fun x => Rds w [Res.rd x.1 x.2.length 1 (x.2.map u8)]) (s := 1) (by decide) n xs hlen (fun i hi => by
    have hc := h2 i hi
    have hl : ((xs.drop (i * 1)).take 1).length = 1 := by rw [List.length_take, List.length_drop]; omega
    generalize (xs.drop (i * 1)).take 1 = cs at hc hl
    match cs, hl with
    | [c], _ =>
      obtain ⟨b, hb⟩ := hc.bytes Try.underlying24 (by kernel_rfl) Try.underlying5
      exact ⟨(c, b), rfl, Rds.one hb⟩)
  rw [map_flat] at h1
  refine ⟨l, (Rds.one h1).append (Rds.all fun r hr => ?_)⟩
  obtain ⟨d, hd, rfl⟩ := List.mem_map.1 hr
  exact h3 d hd _ (.head _)
theorem came_oqs {v : Value} (h : Came enc Try.prog w 35 [v]) : ∃ l : List OpQ, Rds w [Res.rd v l.length 3 (bks oqC l), Res.all (oqRes l)] := by
  obtain ⟨n, xs, h1, h2⟩ := h.slice (size := 3) Try.underlying35 (by kernel_rfl) (by decide)
  obtain ⟨l, rfl, rfl, h3⟩ := pieces (f := oqC) (p := fun o => Rds w (oqR o)) (s := 3) (by decide) n xs (by obtain ⟨_, _, _, hl, _⟩ := h1; exact hl) (fun i hi => by
    obtain ⟨hl, hf⟩ := (h2 i hi).struct Try.underlying41
    have hl : ((xs.drop (i * 3)).take 3).length = 3 := hl.trans (by kernel_rfl)
    generalize (xs.drop (i * 3)).take 3 = cs at hl hf
    have s3 : Try.prog.cellsOf 3 = 1 := by kernel_rfl
    have s22 : Try.prog.cellsOf 23 = 1 := by kernel_rfl
    match cs, hl with
    | [c0, c1, c2], _ =>
      have f0 : Came enc Try.prog w 3 [c0] := by simpa [s3] using hf 0 _ rfl
      have f1 : Came enc Try.prog w 3 [c1] := by simpa [s3] using hf 1 _ rfl
      have f2 : Came enc Try.prog w 23 [c2] := by simpa [s22] using hf 2 _ rfl
      obtain ⟨a, ha, _⟩ := f0.it Try.underlying3
      obtain ⟨b, hb, _⟩ := f1.it Try.underlying3
      obtain ⟨Q, hQ⟩ := came_pcs f2
      have h0 := Res.rd_ok.1 (hQ _ (.head _)).1
      obtain ⟨B, c, e, _⟩ := h0
      have ha : c0 = it a := by simpa using ha
      have hb : c1 = it b := by simpa using hb
      have ev : c2 = OpQ.v ⟨a, b, B, Q.length, c, Q⟩ := by rw [OpQ.v_eq]; exact e
      refine ⟨⟨a, b, B, Q.length, c, Q⟩, ?_, ?_⟩
      · rw [ha, hb, ev]; rfl
      · unfold oqR; rw [← ev]; exact hQ)
  exact ⟨l, (Rds.one h1).append (Rds.all (Rds.flat fun d hd => h3 d hd))⟩
end Go.Proofs.Ytffgimlkmfjgmaa
