/- Lists as they come in. -/
import Derived.Test.YtfcodaigdigjmaaA9
import Derived.Test.YtfcodaigdigjmaaRows
namespace Go.Proofs.Ytfcodaigdigjmaa
open Go.ChangeShapes Go.WideShapes Go.ChangeAt Go.RowKit
set_option maxRecDepth 100000
variable {H : Type} {enc : TypeId × Value → H} {w : World}
theorem came_ws {v : Value} (h : Came enc Try.prog w 22 [v]) : ∃ l : List (BitVec 64), Rds w [Res.rd v l.length 1 (l.map u64)] := by
  obtain ⟨n, xs, h1, h2⟩ := h.slice (size := 1) Try.underlying22 (by kernel_rfl) (by decide)
  obtain ⟨l, rfl, rfl, _⟩ := pieces (f := fun x => [u64 x]) (p := fun _ => True) (s := 1) (by decide) n xs (by obtain ⟨_, _, _, hl, _⟩ := h1; exact hl) (fun i hi => by
    obtain ⟨x, hx⟩ := (h2 i hi).u64 Try.underlying24
    exact ⟨x, hx, trivial⟩)
  rw [map_flat] at h1
  exact ⟨l, Rds.one h1⟩
theorem came_ints {v : Value} (h : Came enc Try.prog w 25 [v]) : ∃ l : List Int, Rds w [Res.rd v l.length 1 (l.map it)] := by
  obtain ⟨n, xs, h1, h2⟩ := h.slice (size := 1) Try.underlying25 (by kernel_rfl) (by decide)
  obtain ⟨l, rfl, rfl, _⟩ := pieces (f := fun x => [it x]) (p := fun _ => True) (s := 1) (by decide) n xs (by obtain ⟨_, _, _, hl, _⟩ := h1; exact hl) (fun i hi => by
    obtain ⟨x, hx, _⟩ := (h2 i hi).it Try.underlying3
    exact ⟨x, hx, trivial⟩)
  rw [map_flat] at h1
  exact ⟨l, Rds.one h1⟩
end Go.Proofs.Ytfcodaigdigjmaa
