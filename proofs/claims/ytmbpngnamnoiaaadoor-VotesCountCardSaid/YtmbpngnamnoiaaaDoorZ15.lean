/- The package's variable, as the row lays it; values as they come in. -/
import Derived.Test.YtmbpngnamnoiaaaDoorA9
import Derived.Test.YtmbpngnamnoiaaaDoorR15
import Derived.Test.YtmbpngnamnoiaaaDoorRows
import Derived.LaidMore
import Derived.Stop.Joined
namespace Go.Proofs.YtmbpngnamnoiaaaDoor
open Go.ChangeShapes Go.WideShapes Go.ChangeAt Go.RowKit
set_option maxRecDepth 100000
def laid2 : List (String × DataW Unit) := [("sortition/votes.limit", Rows.laid_sortition_votes_limit)]
theorem gS : Tryd.prog.globalNamed "sortition/votes.limit" = some 0 := by kernel_rfl
theorem tS : (Tryd.prog.globals[0]?).map (·.type) = some 60 := by kernel_rfl
theorem door_met (os : Os) (args : Array Value) : laidMetH Tryd.prog laid2 ((World.doorLaid Tryd.prog 400 os).forCall (fun _ _ => 0) ⟨#[], args, []⟩).memory :=
  laidMetH_of_parts3 (fuel := 8) (laidMet_of_run' 8 (by kernel_rfl) (by kernel_rfl)) (by kernel_rfl) (by kernel_rfl)
theorem lits {H : Type} {enc : TypeId × Value → H} {w : World} {base : Nat} {spare : Nat → Bool} {held : Bool} {n : Nat} {t m : Nat} {cs : List Value} {l : List W64} {ps : List MemPlace} (ht : Tryd.prog.underlying t = some (.array m 34)) (hc : Tryd.prog.cellsOf t = m)
    (hl : l.length = m) (h : DataW.trod enc Tryd.prog w base spare held n t cs = some (.agg (l.map fun x => .lit (.int .u64 (x.toNat : Int))), ps)) : cs = l.map u64 := by
  cases n with
  | zero => simp [DataW.trod] at h
  | succ n =>
    unfold DataW.trod at h
    rw [ht] at h
    dsimp only at h
    split at h
    · rename_i hlen
      obtain ⟨xs, hxs, hx⟩ := Option.map_eq_some_iff.1 h
      have h2 : xs.length = m := by simpa using mapM_some_length hxs
      simp only [Prod.mk.injEq, DataW.agg.injEq] at hx
      have c1 : Tryd.prog.cellsOf 34 = 1 := by kernel_rfl
      rw [hc] at hlen
      apply List.ext_getElem (by rw [List.length_map]; omega)
      intro i h3 h4
      have hi : i < m := by rw [List.length_map] at h4; omega
      have h5 := mapM_some_get hxs i i (by simp [hi])
      rw [List.getElem?_eq_getElem (show i < xs.length by omega), c1, Nat.mul_one] at h5
      obtain ⟨k, hk1, hk2, _⟩ := DataW.trod_int Tryd.underlying34 h5
      have h6 : (xs.map (·.1))[i]? = (l.map fun x => DataW.lit (.int .u64 (x.toNat : Int)))[i]? := by rw [hx.1]
      rw [List.getElem?_map, List.getElem?_map, List.getElem?_eq_getElem (show i < xs.length by omega), List.getElem?_eq_getElem (show i < l.length by simpa using h4)] at h6
      simp only [Option.map_some, Option.some.injEq, hk2, DataW.lit.injEq, Lit.int.injEq, true_and] at h6
      have h7 : cs[i] = .int .u64 k := by
        have := congrArg (fun x : List Value => x[0]?) hk1
        simp only [List.getElem?_take, List.getElem?_drop] at this
        simpa [h3] using this
      rw [h7, List.getElem_map, h6]
    · cases h
theorem lim_data : (Rows.laid_sortition_votes_limit : DataW Unit) = .agg (([9223372036854775808, 0, 0, 0] : List W64).map fun x => .lit (.int .u64 (x.toNat : Int))) := by kernel_rfl
theorem var_heap {P : Program} {w : World} {name : String} {g : Nat} {cs : Array Value} (hg : P.globalNamed name = some g) (h : w.var? P name = some cs) : ∃ T r, w.heap[g]? = some (.cells cs T r) := by
  unfold World.var? at h
  rw [hg] at h
  simp only [Option.bind_some] at h
  split at h
  · rename_i c T r hh
    obtain rfl := Option.some.inj h
    exact ⟨T, r, hh⟩
  · cases h
theorem of_laid {w : World} (h : laidMetH Tryd.prog laid2 w) : Rds w [Res.var 0 [u64 9223372036854775808, u64 0, u64 0, u64 0]] := by
  rw [MakeChecks.laidMetH_plain _ _ _ (by kernel_rfl)] at h
  obtain ⟨ps, ⟨g0, t0, cs0, f0, p0, q0, hg0, ht0, hv0, hd0, _, _⟩, _, _⟩ := h
  obtain rfl := Option.some.inj (gS.symm.trans hg0)
  obtain rfl := Option.some.inj (tS.symm.trans ht0)
  rw [lim_data] at hd0
  have e0 := lits Tryd.underlying60 (by kernel_rfl) rfl hd0
  obtain ⟨T0, r0, k0⟩ := var_heap hg0 hv0
  intro r hr
  obtain rfl := List.mem_singleton.1 hr
  exact ⟨⟨T0, r0, by show w.heap[0]? = some (.cells ((([9223372036854775808, 0, 0, 0] : List W64).map u64).toArray) T0 r0); rw [← e0]; exact k0⟩, fun k hk => by cases hk; exact (Array.getElem?_eq_some_iff.1 k0).1⟩
variable {H : Type} {enc : TypeId × Value → H} {w : World}
theorem came_ws {v : Value} (h : Came enc Tryd.prog w 22 [v]) : ∃ l : List W64, Rds w [Res.rd v l.length 1 (l.map u64)] := by
  obtain ⟨n, xs, h1, h2⟩ := h.slice (size := 1) Tryd.underlying22 (by kernel_rfl) (by decide)
  obtain ⟨l, rfl, rfl, _⟩ := pieces (f := fun x => [u64 x]) (p := fun _ => True) (s := 1) (by decide) n xs (by obtain ⟨_, _, _, hl, _⟩ := h1; exact hl) (fun i hi => by
    obtain ⟨x, hx⟩ := (h2 i hi).u64 Tryd.underlying34
    exact ⟨x, hx, trivial⟩)
  rw [map_flat] at h1
  exact ⟨l, Rds.one h1⟩
theorem came_dig {cs : List Value} (h : Came enc Tryd.prog w 31 cs) : ∃ x : D32, cs = dgC x := by
  obtain ⟨hl, hf⟩ := h.array Tryd.underlying31
  have hl : cs.length = 32 := hl.trans (by kernel_rfl)
  have s8 : Tryd.prog.cellsOf 5 = 1 := by kernel_rfl
  obtain ⟨l, h1, h2, _⟩ := pieces (f := fun x : BitVec 8 => [u8 x]) (p := fun _ => True) (s := 1) (by decide) 32 cs (by omega) (fun i hi => by
    obtain ⟨x, hx⟩ := Came.u8 Tryd.underlying5 (show Came enc Tryd.prog w 5 ((cs.drop (i * 1)).take 1) by simpa [s8] using hf i hi)
    exact ⟨x, hx, trivial⟩)
  exact ⟨⟨l, by omega⟩, by rw [h2]; exact map_flat _ _⟩
theorem wf_le {n : Int} (h : (Lit.int .i64 n).wf = true) : n ≤ 9223372036854775807 := by
  unfold Lit.wf at h
  have h2 : n ≤ IntKind.i64.max := of_decide_eq_true (Bool.and_eq_true_iff.1 h).2
  exact Int.le_trans h2 (by decide)
theorem open_dig {W : World} {v : Value} {r : Reach} {b0 : Nat} {d : DataW H} {ps : List MemPlace} {base : Nat} {spare : Nat → Bool} {held : Bool} (hval : Value.okWide Tryd.prog W r b0 31 v) (h : DataW.Trod enc Tryd.prog W base spare held 31 v d ps) : ∃ x : D32, v = dgV x := by
  simp only [Value.okWide, Tryd.underlying31] at hval
  obtain ⟨cs, rfl, _, _⟩ := hval
  obtain ⟨m, hm⟩ := h
  obtain ⟨x, hx⟩ := came_dig (cs := cs.toList) ⟨_, _, _, m, _, hm⟩
  exact ⟨x, by show Value.agg cs = Value.agg (dgC x).toArray; rw [← hx]⟩
theorem came_bytes {v : Value} (h : Came enc Tryd.prog w 23 [v]) : ∃ l : List (BitVec 8), Rds w [Res.rd v l.length 1 (l.map u8)] := by
  obtain ⟨x, hx⟩ := h.bytes Tryd.underlying23 (by kernel_rfl) Tryd.underlying5
  exact ⟨x, Rds.one hx⟩
end Go.Proofs.YtmbpngnamnoiaaaDoor
