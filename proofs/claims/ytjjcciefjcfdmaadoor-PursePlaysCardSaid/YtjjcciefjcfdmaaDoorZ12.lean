/- The package's variable, as the row lays it; lists as they come in. -/
import Derived.Test.YtjjcciefjcfdmaaDoorA9
import Derived.Test.YtjjcciefjcfdmaaDoorP12
import Derived.Test.YtjjcciefjcfdmaaDoorRows
import Derived.LaidMore
import Derived.Stop.Joined
namespace Go.Proofs.YtjjcciefjcfdmaaDoor
open Go.ChangeShapes Go.WideShapes Go.ChangeAt Go.RowKit
set_option maxRecDepth 100000
def laid2 : List (String × DataW Unit) := [("sortition/purse.limit", Rows.laid_sortition_purse_limit)]
theorem gS : Tryd.prog.globalNamed "sortition/purse.limit" = some 0 := by kernel_rfl
theorem tS : (Tryd.prog.globals[0]?).map (·.type) = some 51 := by kernel_rfl
theorem door_met (os : Os) (args : Array Value) : laidMetH Tryd.prog laid2 ((World.doorLaid Tryd.prog 400 os).forCall (fun _ _ => 0) ⟨#[], args, []⟩).memory :=
  laidMetH_of_parts3 (fuel := 8) (laidMet_of_run' 8 (by kernel_rfl) (by kernel_rfl)) (by kernel_rfl) (by kernel_rfl)
theorem lits {H : Type} {enc : TypeId × Value → H} {w : World} {base : Nat} {spare : Nat → Bool} {held : Bool} {n : Nat} {t m : Nat} {cs : List Value} {l : List W64} {ps : List MemPlace} (ht : Tryd.prog.underlying t = some (.array m 23)) (hc : Tryd.prog.cellsOf t = m)
    (hl : l.length = m) (h : DataW.trod enc Tryd.prog w base spare held n t cs = some (.agg (l.map fun x => .lit (.int .u64 (x.toNat : Int))), ps)) : cs = l.map u64 := by
  cases n with
  | zero => simp [DataW.trod] at h
  | succ n =>
    unfold DataW.trod at h
    rw [ht] at h
    dsimp only at h
    split at h
    · rename_i hlen
      obtain ⟨xs, hxs, hx⟩ := Option.map_eq_some_iff.1 h
      have h2 : xs.length = m := by simpa using mapM_some_length hxs
      simp only [Prod.mk.injEq, DataW.agg.injEq] at hx
      have c1 : Tryd.prog.cellsOf 23 = 1 := by kernel_rfl
      rw [hc] at hlen
      apply List.ext_getElem (by rw [List.length_map]; omega)
      intro i h3 h4
      have hi : i < m := by rw [List.length_map] at h4; omega
      have h5 := mapM_some_get hxs i i (by simp [hi])
      rw [List.getElem?_eq_getElem (show i < xs.length by omega), c1, Nat.mul_one] at h5
      obtain ⟨k, hk1, hk2, _⟩ := DataW.trod_int Tryd.underlying23 h5
      have h6 : (xs.map (·.1))[i]? = (l.map fun x => DataW.lit (.int .u64 (x.toNat : Int)))[i]? := by rw [hx.1]
      rw [List.getElem?_map, List.getElem?_map, List.getElem?_eq_getElem (show i < xs.length by omega), List.getElem?_eq_getElem (show i < l.length by simpa using h4)] at h6
      simp only [Option.map_some, Option.some.injEq, hk2, DataW.lit.injEq, Lit.int.injEq, true_and] at h6
      have h7 : cs[i] = .int .u64 k := by
        have := congrArg (fun x : List Value => x[0]?) hk1
        simp only [List.getElem?_take, List.getElem?_drop] at this
        simpa [h3] using this
      rw [h7, List.getElem_map, h6]
    · cases h
theorem lim_data : (Rows.laid_sortition_purse_limit : DataW Unit) = .agg ((wd 9223372036854775808).map fun x => .lit (.int .u64 (x.toNat : Int))) := by kernel_rfl
theorem var_heap {P : Program} {w : World} {name : String} {g : Nat} {cs : Array Value} (hg : P.globalNamed name = some g) (h : w.var? P name = some cs) : ∃ T r, w.heap[g]? = some (.cells cs T r) := by
  unfold World.var? at h
  rw [hg] at h
  simp only [Option.bind_some] at h
  split at h
  · rename_i c T r hh
    obtain rfl := Option.some.inj h
    exact ⟨T, r, hh⟩
  · cases h
theorem of_laid {w : World} (h : laidMetH Tryd.prog laid2 w) : Rds w [Res.var 0 ((wd 9223372036854775808).map u64)] := by
  rw [MakeChecks.laidMetH_plain _ _ _ (by kernel_rfl)] at h
  obtain ⟨ps, ⟨g0, t0, cs0, f0, p0, q0, hg0, ht0, hv0, hd0, _, _⟩, _, _⟩ := h
  obtain rfl := Option.some.inj (gS.symm.trans hg0)
  obtain rfl := Option.some.inj (tS.symm.trans ht0)
  rw [lim_data] at hd0
  have e0 := lits Tryd.underlying51 (by kernel_rfl) rfl hd0
  obtain ⟨T0, r0, k0⟩ := var_heap hg0 hv0
  intro r hr
  obtain rfl := List.mem_singleton.1 hr
  exact ⟨⟨T0, r0, by rw [← e0]; exact k0⟩, fun k hk => by cases hk; exact (Array.getElem?_eq_some_iff.1 k0).1⟩
variable {H : Type} {enc : TypeId × Value → H} {w : World}
theorem came_ws {v : Value} (h : Came enc Tryd.prog w 22 [v]) : ∃ l : List W64, Rds w [Res.rd v l.length 1 (l.map u64)] := by
  obtain ⟨n, xs, h1, h2⟩ := h.slice (size := 1) Tryd.underlying22 (by kernel_rfl) (by decide)
  obtain ⟨l, rfl, rfl, _⟩ := pieces (f := fun x => [u64 x]) (p := fun _ => True) (s := 1) (by decide) n xs (by obtain ⟨_, _, _, hl, _⟩ := h1; exact hl) (fun i hi => by
    obtain ⟨x, hx⟩ := (h2 i hi).u64 Tryd.underlying23
    exact ⟨x, hx, trivial⟩)
  rw [map_flat] at h1
  exact ⟨l, Rds.one h1⟩
theorem came_ops {v : Value} (h : Came enc Tryd.prog w 38 [v]) : ∃ l : List OpD, Rds w [Res.rd v l.length 5 (opCells l), Res.all (opRes l)] := by
  obtain ⟨n, xs, h1, h2⟩ := h.slice (size := 5) Tryd.underlying38 (by kernel_rfl) (by decide)
  obtain ⟨l, rfl, rfl, h3⟩ := pieces (f := OpD.cells) (p := fun d => Rds w [d.res]) (s := 5) (by decide) n xs (by obtain ⟨_, _, _, hl, _⟩ := h1; exact hl) (fun i hi => by
    obtain ⟨hl, hf⟩ := (h2 i hi).struct Tryd.underlying40
    have hl : ((xs.drop (i * 5)).take 5).length = 5 := hl.trans (by kernel_rfl)
    generalize (xs.drop (i * 5)).take 5 = cs at hl hf
    have s3 : Tryd.prog.cellsOf 3 = 1 := by kernel_rfl
    have s23 : Tryd.prog.cellsOf 23 = 1 := by kernel_rfl
    have s22 : Tryd.prog.cellsOf 22 = 1 := by kernel_rfl
    match cs, hl with
    | [c0, c1, c2, c3, c4], _ =>
      have f0 : Came enc Tryd.prog w 3 [c0] := by simpa [s3] using hf 0 _ rfl
      have f1 : Came enc Tryd.prog w 3 [c1] := by simpa [s3] using hf 1 _ rfl
      have f2 : Came enc Tryd.prog w 3 [c2] := by simpa [s3] using hf 2 _ rfl
      have f3 : Came enc Tryd.prog w 23 [c3] := by simpa [s23] using hf 3 _ rfl
      have f4 : Came enc Tryd.prog w 22 [c4] := by simpa [s22] using hf 4 _ rfl
      obtain ⟨a0, h0, _⟩ := f0.it Tryd.underlying3
      obtain ⟨a1, h1, _⟩ := f1.it Tryd.underlying3
      obtain ⟨a2, h2, _⟩ := f2.it Tryd.underlying3
      obtain ⟨b, hb⟩ := f3.u64 Tryd.underlying23
      obtain ⟨ws, hw⟩ := came_ws f4
      have h0 : c0 = it a0 := by simpa using h0
      have h1 : c1 = it a1 := by simpa using h1
      have h2 : c2 = it a2 := by simpa using h2
      have hb : c3 = u64 b := by simpa using hb
      refine ⟨⟨a0, a1, a2, b, c4, ws⟩, ?_, hw⟩
      rw [h0, h1, h2, hb]
      rfl)
  refine ⟨l, (Rds.one h1).append (Rds.all fun r hr => ?_)⟩
  obtain ⟨d, hd, rfl⟩ := List.mem_map.1 hr
  exact h3 d hd _ (.head _)
end Go.Proofs.YtjjcciefjcfdmaaDoor
