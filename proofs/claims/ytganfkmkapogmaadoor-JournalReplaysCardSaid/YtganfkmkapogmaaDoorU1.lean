/- Walk: JournalReplays. -/
import Derived.Test.YtganfkmkapogmaaDoorJ7
namespace Go.Proofs.YtganfkmkapogmaaDoor
open Go.RowKit
set_option maxRecDepth 100000
set_option linter.unusedVariables false
set_option linter.unusedSimpArgs false
theorem f3_spec (u : Value) (d : B8) :
    Spec Tryd.prog 3 #[u] [Res.var 1 (sqr.map u32), Res.var 0 (cub.map u32), Res.rd u d.length 1 (d.map u8)] []
      (fun r Γ' H' => r = .bool true ∧ Γ' = [] ∧ H' = []) := by
  refine Spec.of_args Tryd.func3 rfl Tryd.ntmps3 (by simp) fun w => ?_
  refine JC.know (φ := d.length ≤ 9223372036854775807) (fun w hs => by obtain ⟨_, _, _, _, _, _, h⟩ := hs.rdForm (.tail _ (.tail _ (.head _))); unfold maxLen at h; omega) fun hld => ?_
  have hel := end_le d
  have hfl := flat_len (recs d)
  refine .seq (.region ?_)
  refine .w (.assign rfl) ?_
  refine .nil (.tn (.seq (.region ?_)))
  refine .c f8_spec body_8 ?_
  refine .w (.assign rfl) ?_
  refine .nil (.tn (.seq (.seq (.region ?_))))
  refine .w (.move rfl) ?_
  refine .w (.len Tryd.underlying22 rfl) ?_
  refine .w (.bin rfl rfl BinR.gtr_i) ?_
  refine .nil (.tn ?_)
  refine .cn rfl (fun hc1 => ?_) (fun hc1 => ?_)
  · refine .seq (.region ?_)
    refine .w (.move rfl) ?_
    refine .w (.assign rfl) ?_
    refine .nil (.tn (.ret (.then_ret ?_)))
    exact .dn [] [] (res1 rfl (.tmp rfl)) ⟨rfl, rfl, rfl⟩
  · refine .skip (.tn (.seq (.region ?_)))
    refine .w (.move rfl) ?_
    refine .cb (f9_spec u d (by omega)) body_9 ?_ (h0 := by rintro _ _ _ ⟨_, _, _, _, h, _⟩; exact h)
    rintro _ _ ⟨L, A, hA, rfl, _, rfl⟩
    refine .ap ?_
    refine JO.frzP (by repeat (first | exact Pull.here _ _ | apply Pull.there)) ?_
    refine .w (.move rfl) ?_
    refine .w (.extract rfl rfl) ?_
    refine .w (.extract rfl rfl) ?_
    refine .w (.assign rfl) ?_
    refine .w (.assign rfl) ?_
    refine .nil (.tn (.seq (.region ?_)))
    refine .w (.move rfl) ?_
    refine .cb (f10_spec u d (by omega)) body_10 ?_ (h0 := by rintro _ _ _ ⟨_, _, h, _⟩; exact h)
    rintro _ _ ⟨L2, rfl, _, rfl⟩
    refine .ap ?_
    refine .w (.move rfl) ?_
    refine .w (.extract rfl rfl) ?_
    refine .w (.extract rfl rfl) ?_
    refine .w (.assign rfl) ?_
    refine .w (.assign rfl) ?_
    refine .nil (.tn (.seq (.region ?_)))
    refine .w (.move rfl) ?_
    refine .cb (f11_spec u d (by omega)) body_11 ?_ (h0 := by rintro _ _ _ ⟨_, _, _, h, _⟩; exact h)
    rintro _ _ ⟨p, v, rfl, _, rfl⟩
    refine .ap ?_
    refine .w (.assign rfl) ?_
    refine .nil (.tn (.seq (.seq (.region ?_))))
    refine .w (.move rfl) ?_
    refine .w (.as (v' := .bool false) (.bin rfl rfl (BinR.eql_p Tryd.underlying27)) rfl) ?_
    refine .nil (.tn ?_)
    refine .cf rfl ?_
    refine .skip (.tn (.seq (.region ?_)))
    refine .w (.move rfl) ?_
    refine .cb (f12_spec p v (flat (recs d)) (by omega)) body_12 ?_ (h0 := by rintro _ _ _ ⟨_, _, h, _⟩; exact h)
    rintro v32 _ ⟨A3, hA3, _, rfl⟩
    refine .ap ?_
    refine JO.frzP (by repeat (first | exact Pull.here _ _ | apply Pull.there)) ?_
    rw [recs_good] at hA3
    refine .w (.assign rfl) ?_
    refine .nil (.tn (.seq (.region ?_)))
    refine .w (.move rfl) ?_
    refine .cb (f13_spec p v (flat (recs d)) (by omega)) body_13 ?_
    rintro v34 _ ⟨_, _, rfl⟩
    refine .ap ?_
    refine .w (.assign rfl) ?_
    refine .nil (.tn (.seq (.region ?_)))
    refine .w (.move rfl) ?_
    refine .c (f14_spec p v (flat (recs d)) (by omega)) body_14 ?_
    rw [recs_good]
    refine .w (.assign rfl) ?_
    refine .nil (.tn (.seq (.region ?_)))
    refine .w (.move rfl) ?_
    refine .w (.move rfl) ?_
    refine .gt (g := 38) rfl rfl rfl ?_
    refine .w (.move rfl) ?_
    refine .gt (g := 38) rfl rfl rfl ?_
    refine .w (.move rfl) ?_
    refine .gt (g := 38) rfl rfl rfl ?_
    refine .w (.as (v' := .bool true) (.bin rfl rfl BinR.eql_i) (congrArg Value.bool (decide_eq_true rfl))) ?_
    refine .w (.pick1 rfl rfl rfl) ?_
    refine .w (.move rfl) ?_
    refine .gt (g := 43) rfl rfl rfl ?_
    refine .w (.move rfl) ?_
    refine .gt (g := 43) rfl rfl rfl ?_
    refine .w (.move rfl) ?_
    refine .gt (g := 43) rfl rfl rfl ?_
    refine .c (lists_cut L L2 u d A) body_15 ?_
    rw [decide_eq_true hA]
    refine .w (.pick1 rfl rfl rfl) ?_
    refine .w (.move rfl) ?_
    refine .gt (g := 48) rfl rfl rfl ?_
    refine .w (.move rfl) ?_
    refine .gt (g := 48) rfl rfl rfl ?_
    refine .w (.move rfl) ?_
    refine .gt (g := 48) rfl rfl rfl ?_
    refine .c (lists_cut v32 L2 u d A3) body_15 ?_
    rw [decide_eq_true hA3]
    refine .w (.pick1 rfl rfl rfl) ?_
    refine .w (.move rfl) ?_
    refine .gt (g := 53) rfl rfl rfl ?_
    refine .w (.move rfl) ?_
    refine .gt (g := 53) rfl rfl rfl ?_
    refine .w (.move rfl) ?_
    refine .gt (g := 53) rfl rfl rfl ?_
    refine .w (.len Tryd.underlying24 rfl) ?_
    refine .gt (g := 53) rfl rfl rfl ?_
    refine .w (.as (v' := .bool true) (.bin rfl rfl BinR.eql_i) (congrArg Value.bool (decide_eq_true rfl))) ?_
    refine .w (.pick1 rfl rfl rfl) ?_
    refine .w (.move rfl) ?_
    refine .gt (g := 59) rfl rfl rfl ?_
    refine .w (.move rfl) ?_
    refine .gt (g := 59) rfl rfl rfl ?_
    refine .w (.move rfl) ?_
    refine .gt (g := 59) rfl rfl rfl ?_
    refine .w (.move rfl) ?_
    refine .gt (g := 59) rfl rfl rfl ?_
    refine .ct 0 (endOf (recs d)) Tryd.underlying22 sz_5 (fun v63 => ?_)
    rw [rd_good]
    refine .gt (g := 59) rfl rfl rfl ?_
    refine .c (f16_spec v34 v63 (flat (recs d)) (flat (recs d))) body_16 ?_
    rw [decide_eq_true rfl]
    refine .w (.pick1 rfl rfl rfl) ?_
    refine .w (.assign rfl) ?_
    refine .nil (.tn (.ret ?_))
    exact .dn [] [] (res1 rfl (.tmp rfl)) ⟨rfl, rfl, rfl⟩
end Go.Proofs.YtganfkmkapogmaaDoor
