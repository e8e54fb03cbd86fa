/- A slice of slices of bytes, as it comes in. -/
import Derived.Test.YthnndggnpbddkaaDoorA9
import Derived.Test.YthnndggnpbddkaaDoorS6
import Derived.Test.YthnndggnpbddkaaDoorRows
namespace Go.Proofs.YthnndggnpbddkaaDoor
open Go.RowKit
variable {H : Type} {enc : TypeId × Value → H} {w : World}
theorem came_pcs {v : Value} (h : Came enc Tryd.prog w 22 [v]) : ∃ l : Pcs, Rds w [Res.rd v l.length 1 (l.map Prod.fst), Res.all (pcRes l)] := by
  obtain ⟨n, xs, h1, h2⟩ := h.slice (size := 1) Tryd.underlying22 (by kernel_rfl) (by decide)
  have hlen : xs.length = n * 1 := by obtain ⟨_, _, _, hl, _⟩ := h1; exact hl
  obtain ⟨l, rfl, rfl, h3⟩ := pieces (f := fun x : Value × B8 => [x.1]) (p := fun x => Rds w [Res.rd x.1 x.2.length 1 (x.2.map u8)]) (s := 1) (by decide) n xs hlen (fun i hi => by
    have hc := h2 i hi
    have hl : ((xs.drop (i * 1)).take 1).length = 1 := by rw [List.length_take, List.length_drop]; omega
    generalize (xs.drop (i * 1)).take 1 = cs at hc hl
    match cs, hl with
    | [c], _ =>
      obtain ⟨b, hb⟩ := hc.bytes Tryd.underlying32 (by kernel_rfl) Tryd.underlying5
      exact ⟨(c, b), rfl, Rds.one hb⟩)
  rw [map_flat] at h1
  refine ⟨l, (Rds.one h1).append (Rds.all fun r hr => ?_)⟩
  obtain ⟨d, hd, rfl⟩ := List.mem_map.1 hr
  exact h3 d hd _ (.head _)
end Go.Proofs.YthnndggnpbddkaaDoor
