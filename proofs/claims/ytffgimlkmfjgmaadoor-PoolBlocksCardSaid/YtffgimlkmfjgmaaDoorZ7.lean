/- (for any seat whose variables 0, 1 are sha's) The package's variables, as the row lays them. -/
import Derived.Test.YtffgimlkmfjgmaaDoorA9
import Derived.Test.YtffgimlkmfjgmaaDoorG11
import Derived.Test.YtffgimlkmfjgmaaDoorRows
import Derived.LaidMore
import Derived.Stop.Joined
namespace Go.Proofs.YtffgimlkmfjgmaaDoor
open Go.ChangeShapes Go.WideShapes Go.ChangeAt Go.RowKit
set_option maxRecDepth 100000
def laid2 : List (String × DataW Unit) := [("sortition/sha.cubes", Rows.laid_sortition_sha_cubes), ("sortition/sha.squares", Rows.laid_sortition_sha_squares)]
theorem gC : Tryd.prog.globalNamed "sortition/sha.cubes" = some 0 := by kernel_rfl
theorem gS : Tryd.prog.globalNamed "sortition/sha.squares" = some 1 := by kernel_rfl
theorem tC : (Tryd.prog.globals[0]?).map (·.type) = some 93 := by kernel_rfl
theorem tS : (Tryd.prog.globals[1]?).map (·.type) = some 86 := by kernel_rfl
theorem door_met (os : Os) (args : Array Value) : laidMetH Tryd.prog laid2 ((World.doorLaid Tryd.prog 400 os).forCall (fun _ _ => 0) ⟨#[], args, []⟩).memory :=
  laidMetH_of_parts3 (fuel := 8) (laidMet_of_run' 8 (by kernel_rfl) (by kernel_rfl)) (by kernel_rfl) (by kernel_rfl)
theorem lits {H : Type} {enc : TypeId × Value → H} {w : World} {base : Nat} {spare : Nat → Bool} {held : Bool} {n : Nat} {t m : Nat} {cs : List Value} {l : List W32} {ps : List MemPlace} (ht : Tryd.prog.underlying t = some (.array m 85)) (hc : Tryd.prog.cellsOf t = m)
    (hl : l.length = m) (h : DataW.trod enc Tryd.prog w base spare held n t cs = some (.agg (l.map fun x => .lit (.int .u32 (x.toNat : Int))), ps)) : cs = l.map u32 := by
  cases n with
  | zero => simp [DataW.trod] at h
  | succ n =>
    unfold DataW.trod at h
    rw [ht] at h
    dsimp only at h
    split at h
    · rename_i hlen
      obtain ⟨xs, hxs, hx⟩ := Option.map_eq_some_iff.1 h
      have h2 : xs.length = m := by simpa using mapM_some_length hxs
      simp only [Prod.mk.injEq, DataW.agg.injEq] at hx
      have c1 : Tryd.prog.cellsOf 85 = 1 := by kernel_rfl
      rw [hc] at hlen
      apply List.ext_getElem (by rw [List.length_map]; omega)
      intro i h3 h4
      have hi : i < m := by rw [List.length_map] at h4; omega
      have h5 := mapM_some_get hxs i i (by simp [hi])
      rw [List.getElem?_eq_getElem (show i < xs.length by omega), c1, Nat.mul_one] at h5
      obtain ⟨k, hk1, hk2, _⟩ := DataW.trod_int Tryd.underlying85 h5
      have h6 : (xs.map (·.1))[i]? = (l.map fun x => DataW.lit (.int .u32 (x.toNat : Int)))[i]? := by rw [hx.1]
      rw [List.getElem?_map, List.getElem?_map, List.getElem?_eq_getElem (show i < xs.length by omega), List.getElem?_eq_getElem (show i < l.length by simpa using h4)] at h6
      simp only [Option.map_some, Option.some.injEq, hk2, DataW.lit.injEq, Lit.int.injEq, true_and] at h6
      have h7 : cs[i] = .int .u32 k := by
        have := congrArg (fun x : List Value => x[0]?) hk1
        simp only [List.getElem?_take, List.getElem?_drop] at this
        simpa [h3] using this
      rw [h7, List.getElem_map, h6]
    · cases h
theorem cub_data : (Rows.laid_sortition_sha_cubes : DataW Unit) = .agg (cub.map fun x => .lit (.int .u32 (x.toNat : Int))) := by kernel_rfl
theorem sqr_data : (Rows.laid_sortition_sha_squares : DataW Unit) = .agg (sqr.map fun x => .lit (.int .u32 (x.toNat : Int))) := by kernel_rfl
theorem var_heap {P : Program} {w : World} {name : String} {g : Nat} {cs : Array Value} (hg : P.globalNamed name = some g) (h : w.var? P name = some cs) : ∃ T r, w.heap[g]? = some (.cells cs T r) := by
  unfold World.var? at h
  rw [hg] at h
  simp only [Option.bind_some] at h
  split at h
  · rename_i c T r hh
    obtain rfl := Option.some.inj h
    exact ⟨T, r, hh⟩
  · cases h
theorem of_laid {w : World} (h : laidMetH Tryd.prog laid2 w) : Rds w [Res.var 1 (sqr.map u32), Res.var 0 (cub.map u32)] := by
  rw [MakeChecks.laidMetH_plain _ _ _ (by kernel_rfl)] at h
  obtain ⟨ps, ⟨g1, t1, cs1, f1, p1, q1, hg1, ht1, hv1, hd1, ⟨g0, t0, cs0, f0, p0, q0, hg0, ht0, hv0, hd0, _, _⟩, _⟩, _, _⟩ := h
  obtain rfl := Option.some.inj (gC.symm.trans hg1)
  obtain rfl := Option.some.inj (gS.symm.trans hg0)
  obtain rfl := Option.some.inj (tC.symm.trans ht1)
  obtain rfl := Option.some.inj (tS.symm.trans ht0)
  rw [cub_data] at hd1
  rw [sqr_data] at hd0
  have e1 := lits Tryd.underlying93 (by kernel_rfl) cub_len hd1
  have e0 := lits Tryd.underlying86 (by kernel_rfl) sqr_len hd0
  obtain ⟨T1, r1, k1⟩ := var_heap hg1 hv1
  obtain ⟨T0, r0, k0⟩ := var_heap hg0 hv0
  intro r hr
  rcases List.mem_cons.1 hr with rfl | hr
  · exact ⟨⟨T0, r0, by rw [← e0]; exact k0⟩, fun k hk => by cases hk; exact (Array.getElem?_eq_some_iff.1 k0).1⟩
  · obtain rfl := List.mem_singleton.1 hr
    exact ⟨⟨T1, r1, by rw [← e1]; exact k1⟩, fun k hk => by cases hk; exact (Array.getElem?_eq_some_iff.1 k1).1⟩
variable {H : Type} {enc : TypeId × Value → H} {w : World}
theorem came_pcs {v : Value} (h : Came enc Tryd.prog w 23 [v]) : ∃ l : Pcs, Rds w [Res.rd v l.length 1 (l.map Prod.fst), Res.all (pcRes l)] := by
  obtain ⟨n, xs, h1, h2⟩ := h.slice (size := 1) Tryd.underlying23 (by kernel_rfl) (by decide)
  have hlen : xs.length = n * 1 := by obtain ⟨_, _, _, hl, _⟩ := h1; exact hl
  obtain ⟨l, rfl, rfl, h3⟩ := pieces (f := fun x : Value × B8 => [x.1]) (p := fun x => Rds w [Res.rd x.1 x.2.length 1 (x.2.map u8)]) (s := 1) (by decide) n xs hlen (fun i hi => by
    have hc := h2 i hi
    have hl : ((xs.drop (i * 1)).take 1).length = 1 := by rw [List.length_take, List.length_drop]; omega
    generalize (xs.drop (i * 1)).take 1 = cs at hc hl
    match cs, hl with
    | [c], _ =>
      obtain ⟨b, hb⟩ := hc.bytes Tryd.underlying24 (by kernel_rfl) Tryd.underlying5
      exact ⟨(c, b), rfl, Rds.one hb⟩)
  rw [map_flat] at h1
  refine ⟨l, (Rds.one h1).append (Rds.all fun r hr => ?_)⟩
  obtain ⟨d, hd, rfl⟩ := List.mem_map.1 hr
  exact h3 d hd _ (.head _)
end Go.Proofs.YtffgimlkmfjgmaaDoor
