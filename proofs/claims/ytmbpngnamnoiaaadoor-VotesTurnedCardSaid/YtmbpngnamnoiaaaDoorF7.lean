/- Walks: more than a third; who voted twice. -/
import Derived.Test.YtmbpngnamnoiaaaDoorF4
import Derived.Test.YtmbpngnamnoiaaaDoorK5
namespace Go.Proofs.YtmbpngnamnoiaaaDoor
open Go.RowKit
set_option maxRecDepth 100000
set_option linter.unusedVariables false
set_option linter.unusedSimpArgs false
theorem f18_spec (p a b : Nat) (sv : Value) (al : W64) (S : List W64) (m : MM Int D32) (v : D32) (hT : TOk S m) (hS : sumS S < 18446744073709551616) (hal : al.toNat = sumS S) :
    Spec Tryd.prog 18 #[(ptr p 0), (dgV v)] [Res.cells p [sv, u64 al, .map (some a), .map (some b)] 67, Res.rd sv S.length 1 (S.map u64), mpR a itK dgV m] []
      (fun r Γ' H' => r = (.bool (decide (sumS S < 3 * forA S m.get v))) ∧ Γ' = [] ∧ H' = []) := by
  refine Spec.of_args Tryd.func18 rfl Tryd.ntmps18 (by simp) fun w => ?_
  have hfl := forA_le S m.get v
  refine .seq (.region ?_)
  refine .bx fun b3 => ?_
  refine .w (.assign rfl) ?_
  refine .nil (.tn (.seq ?_))
  refine JC.draw (.one 0 (.one 1 (.one 3 (.one 4 (.one 5 (.one 6 (.one 2 (.one 7 (.one 8 .nil))))))))) (fun i => ([7] : List Nat).contains i) (fun i => ([2, 7] : List Nat).contains i) (fun i => ([0, 3, 4, 5, 8] : List Nat).contains i) mixed (by kernel_rfl) (by decide) (by kernel_rfl) ?_
  refine .uw rfl (.move rfl) ?_
  refine .w rfl (.as (v' := dgV v) (.lda agg_31 rfl) rfl) ?_
  refine .uw rfl (.move rfl) ?_
  refine .uw rfl (.nilCheck rfl) ?_
  refine .uw rfl (.fieldAddr fa_67_1 rfl) ?_
  refine .w rfl (.ld one_34 rfl) ?_
  refine .mw rfl (.c (f12_spec p a b sv al S m v hT hS) body_12) ?_
  rintro _ _ _ ⟨rfl, rfl, rfl⟩
  refine kp ?_
  refine .mw rfl (.c (f16_spec (BitVec.ofNat 64 (forA S m.get v)) al) body_16) ?_
  rintro _ _ _ ⟨rfl, rfl, rfl⟩
  rw [BitVec.toNat_ofNat, Nat.mod_eq_of_lt (by omega), hal]
  refine kp ?_
  refine .uw rfl (.assign rfl) ?_
  refine .nil (.tn (.ret ?_))
  exact .dn [] [] (res1 rfl (.tmp rfl)) ⟨rfl, rfl, rfl⟩

theorem f14_spec (p a b : Nat) (sv : Value) (al : W64) (tw : MM Int Bool) (ho : tw.Ok) (hr : ∀ e ∈ tw.es, (Lit.int .i64 e.1).wf = true) (hl : tw.es.length ≤ 1000000000) :
    Spec Tryd.prog 14 #[(ptr p 0)] [Res.cells p [sv, u64 al, .map (some a), .map (some b)] 67, mpR b itK blV tw] []
      (fun r Γ' H' => True ∧ Γ' = [] ∧ H' = [Res.row r (sortK (tw.es.map (·.1))).length 3 1 ((sortK (tw.es.map (·.1))).map it)]) := by
  refine Spec.of_args Tryd.func14 rfl Tryd.ntmps14 (by simp) fun w => ?_
  refine .seq (.region ?_)
  refine .w (.assign rfl) ?_
  refine .nil (.tn (.seq (.region ?_)))
  refine .w (.move rfl) ?_
  refine .w (.nilCheck rfl) ?_
  refine .w (.fieldAddr fa_67_3 rfl) ?_
  refine .w (.ld one_65 rfl) ?_
  refine .cb (keys_spec (some b)) body_37 ?_ (h0 := by rintro _ _ _ ⟨_, _, h, _⟩; exact h)
  rintro _ _ ⟨kb, rfl, _, rfl⟩
  refine .ap ?_
  refine .cb (sorted_spec kb b tw ho hr hl) body_36 ?_
  rintro _ _ ⟨_, _, rfl⟩
  refine .ap ?_
  refine .w (.assign rfl) ?_
  refine .nil (.tn (.ret ?_))
  exact .dn [] [Res.row _ _ 3 1 ((sortK (tw.es.map (·.1))).map it)] (res1 rfl (.tmp rfl)) ⟨trivial, rfl, rfl⟩
end Go.Proofs.YtmbpngnamnoiaaaDoor
