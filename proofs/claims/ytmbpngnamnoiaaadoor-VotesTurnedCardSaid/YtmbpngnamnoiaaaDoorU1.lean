/- Walk: awake. -/
import Derived.Test.YtmbpngnamnoiaaaDoorF7
import Derived.Test.YtmbpngnamnoiaaaDoorF3
import Derived.Test.YtmbpngnamnoiaaaDoorT15
namespace Go.Proofs.YtmbpngnamnoiaaaDoor
open Go.RowKit
set_option maxRecDepth 100000
set_option linter.unusedVariables false
set_option linter.unusedSimpArgs false
set_option maxHeartbeats 1000000 in
theorem f8_spec  :
    Spec Tryd.prog 8 #[] [Res.var 0 [u64 9223372036854775808, u64 0, u64 0, u64 0]] []
      (fun r Γ' H' => r = (.bool true) ∧ Γ' = [] ∧ H' = []) := by
  refine Spec.of_args Tryd.func8 rfl Tryd.ntmps8 (by simp) fun w => ?_
  refine .seq (.region ?_)
  refine .w (.assign rfl) ?_
  refine .nil (.tn (.seq (.region ?_)))
  refine .l1 Tryd.underlying22 info_34 (fun v14 => ?_)
  refine .cb (f9ok_spec v14 awS (by decide) (by decide) (by decide +kernel)) body_9 ?_ (h0 := by rintro _ _ _ ⟨_, _, _, _, _, h, _⟩; exact h)
  rintro _ _ ⟨p, a, b, sv, rfl, _, rfl⟩
  refine .ap ?_
  have hT0 : TOk awS (awM 0) := tok_nil _
  have hal : (BitVec.ofNat 64 (sumS awS)).toNat = sumS awS := by decide +kernel
  have hsb : sumS awS < 18446744073709551616 := by decide +kernel
  refine .w (.move rfl) ?_
  refine .w (.extract rfl rfl) ?_
  refine .w (.extract rfl rfl) ?_
  refine .w (.assign rfl) ?_
  refine .w (.assign rfl) ?_
  refine .nil (.tn (.seq (.seq (.region ?_))))
  refine .w (.move rfl) ?_
  refine .w (.as (v' := .bool false) (.bin rfl rfl (BinR.eql_p Tryd.underlying25)) rfl) ?_
  refine .w (.move rfl) ?_
  refine .gt (g := 20) rfl rfl rfl ?_
  refine .w (.move rfl) ?_
  refine .gt (g := 20) rfl rfl rfl ?_
  refine .w (.as (v' := .bool false) (.bin rfl rfl BinR.neq_i) rfl) ?_
  refine .w (.pick0 rfl rfl rfl) ?_
  refine .nil (.tn ?_)
  refine .cf rfl ?_
  refine .skip (.tn (.seq (.region ?_)))
  refine .w (.as (v' := dgV (dg1 1)) (.build bld_31 rfl rfl) rfl) ?_
  refine .al zero_31 fun b3 => ?_
  first | refine .sa sz_31 ?_ | refine .so sz_31 ?_ | refine .sr sz_31 ?_
  refine .nil (.tn (.seq (.region ?_)))
  refine .w (.move rfl) ?_
  refine .w (.as (v' := dgV (dg1 1)) (.lda agg_31 rfl) rfl) ?_
  refine .cb (f10_spec p a b sv (BitVec.ofNat 64 (sumS awS)) awS (awM 0) MM.nil 0 (dg1 1) hT0 (by decide)) body_10 ?_ (h0 := by rintro _ _ _ ⟨_, _, _, _, _, _, _, h, _⟩; exact h)
  rintro _ _ ⟨m1, t1, rfl, hT1, hm1, _, ht1, _, rfl⟩
  refine .ap ?_
  have hm := hm1.trans (awV 0 (by decide))
  have ht := ht1.trans (awV' 0 (by decide) _)
  clear hm1 ht1
  subst hm ht
  refine .nil (.tn (.seq (.region ?_)))
  refine .w (.move rfl) ?_
  refine .w (.as (v' := dgV (dg1 1)) (.lda agg_31 rfl) rfl) ?_
  refine .cb (f10_spec p a b sv (BitVec.ofNat 64 (sumS awS)) awS (awM 1) MM.nil 1 (dg1 1) hT1 (by decide)) body_10 ?_ (h0 := by rintro _ _ _ ⟨_, _, _, _, _, _, _, h, _⟩; exact h)
  rintro _ _ ⟨m2, t2, rfl, hT2, hm2, _, ht2, _, rfl⟩
  refine .ap ?_
  have hm := hm2.trans (awV 1 (by decide))
  have ht := ht2.trans (awV' 1 (by decide) _)
  clear hm2 ht2
  subst hm ht
  refine .nil (.tn (.seq (.region ?_)))
  refine .w (.move rfl) ?_
  refine .cb (f11_spec p a b sv (BitVec.ofNat 64 (sumS awS)) awS (awM 2) hT2 hsb hal) body_11 ?_ (h0 := by rintro _ _ _ ⟨_, _, _, h, _⟩; exact h)
  rintro _ _ ⟨o, hq, rfl, _, rfl⟩
  refine .ap ?_
  obtain rfl := awQ2 hq
  refine .w (.move rfl) ?_
  refine .w (.as (v' := dgV D0) (.extract rfl rfl) rfl) ?_
  refine .w (.as (v' := .bool false) (.extract rfl rfl) rfl) ?_
  refine .al zero_31 fun b4 => ?_
  first | refine .sa sz_31 ?_ | refine .so sz_31 ?_ | refine .sr sz_31 ?_
  refine .w (.assign rfl) ?_
  refine .nil (.tn (.seq (.region ?_)))
  refine .w (.move rfl) ?_
  refine .w (.as (v' := dgV (dg1 1)) (.lda agg_31 rfl) rfl) ?_
  refine .cb (f10_spec p a b sv (BitVec.ofNat 64 (sumS awS)) awS (awM 2) MM.nil 2 (dg1 1) hT2 (by decide)) body_10 ?_ (h0 := by rintro _ _ _ ⟨_, _, _, _, _, _, _, h, _⟩; exact h)
  rintro _ _ ⟨m3, t3, rfl, hT3, hm3, _, ht3, _, rfl⟩
  refine .ap ?_
  have hm := hm3.trans (awV 2 (by decide))
  have ht := ht3.trans (awV' 2 (by decide) _)
  clear hm3 ht3
  subst hm ht
  refine .nil (.tn (.seq (.region ?_)))
  refine .w (.move rfl) ?_
  refine .cb (f11_spec p a b sv (BitVec.ofNat 64 (sumS awS)) awS (awM 3) hT3 hsb hal) body_11 ?_ (h0 := by rintro _ _ _ ⟨_, _, _, h, _⟩; exact h)
  rintro _ _ ⟨o, hq, rfl, _, rfl⟩
  refine .ap ?_
  obtain rfl := awQ3 hq
  refine .w (.move rfl) ?_
  refine .w (.as (v' := dgV (dg1 1)) (.extract rfl rfl) rfl) ?_
  refine .w (.as (v' := .bool true) (.extract rfl rfl) rfl) ?_
  refine .al zero_31 fun b6 => ?_
  first | refine .sa sz_31 ?_ | refine .so sz_31 ?_ | refine .sr sz_31 ?_
  refine .w (.assign rfl) ?_
  refine .nil (.tn (.seq (.region ?_)))
  refine .w (.move rfl) ?_
  refine .w (.as (v' := dgV (dg1 2)) (.build bld_31 rfl rfl) rfl) ?_
  refine .cb (f10_spec p a b sv (BitVec.ofNat 64 (sumS awS)) awS (awM 3) MM.nil 0 (dg1 2) hT3 (by decide)) body_10 ?_ (h0 := by rintro _ _ _ ⟨_, _, _, _, _, _, _, h, _⟩; exact h)
  rintro _ _ ⟨m4, t4, rfl, hT4, hm4, htk, ht4, _, rfl⟩
  refine .ap ?_
  rw [awE] at hm4 ht4 ⊢
  have ht : t4 = MM.nil.put 0 true := ht4
  clear ht4
  subst ht
  refine .w (.as (v' := it 52) (.assign rfl) rfl) ?_
  refine .nil (.tn (.seq (.region ?_)))
  refine .w (.move rfl) ?_
  refine .cb (f14_spec p a b sv (BitVec.ofNat 64 (sumS awS)) (MM.nil.put 0 true) (MM.ok_put MM.ok_nil _ _) (by decide +kernel) (by decide +kernel)) body_14 ?_
  rintro vt _ ⟨_, _, rfl⟩
  refine .ap ?_
  rw [show sortK ((MM.nil.put (0 : Int) true).es.map (·.1)) = [0] from by decide +kernel]
  refine .w (.assign rfl) ?_
  refine .nil (.tn (.seq (.region ?_)))
  refine .c (f20_spec 2 3) body_20 ?_
  refine .w (.as (v' := .bool false) (.assign rfl) (congrArg Value.bool (by decide))) ?_
  refine .nil (.tn (.seq (.region ?_)))
  refine .c (f20_spec 3 4) body_20 ?_
  refine .w (.as (v' := .bool true) (.assign rfl) (congrArg Value.bool (by decide))) ?_
  refine .nil (.tn (.seq (.region ?_)))
  refine .c (f16_spec 1 3) body_16 ?_
  refine .w (.as (v' := .bool false) (.assign rfl) (congrArg Value.bool (by decide))) ?_
  refine .nil (.tn (.seq (.region ?_)))
  refine .w (.move rfl) ?_
  refine .w (.as (v' := .bool true) (.not rfl) rfl) ?_
  refine .w (.move rfl) ?_
  refine .gt (g := 54) rfl rfl rfl ?_
  refine .w (.move rfl) ?_
  refine .w (.pick1 rfl rfl rfl) ?_
  refine .w (.move rfl) ?_
  refine .gt (g := 57) rfl rfl rfl ?_
  refine .w (.as (v' := dgV (dg1 1)) (.lda agg_31 rfl) rfl) ?_
  refine .gt (g := 57) rfl rfl rfl ?_
  refine .w (.as (v' := dgV (dg1 1)) (.lda agg_31 rfl) rfl) ?_
  refine .gt (g := 57) rfl rfl rfl ?_
  refine .w (.as (v' := .bool true) (.bin rfl rfl (eql_dig)) (congrArg Value.bool (by decide +kernel))) ?_
  refine .w (.pick1 rfl rfl rfl) ?_
  refine .w (.move rfl) ?_
  refine .gt (g := 62) rfl rfl rfl ?_
  refine .w (.move rfl) ?_
  refine .gt (g := 62) rfl rfl rfl ?_
  refine .w (.as (v' := .bool true) (.bin rfl rfl BinR.eql_i) rfl) ?_
  refine .w (.pick1 rfl rfl rfl) ?_
  refine .w (.move rfl) ?_
  refine .gt (g := 66) rfl rfl rfl ?_
  refine .w (.move rfl) ?_
  refine .gt (g := 66) rfl rfl rfl ?_
  refine .l1 Tryd.underlying37 info_3 (fun v68 => ?_)
  refine .gt (g := 66) rfl rfl rfl ?_
  refine .c (f28_spec vt v68 [0] [0]) body_28 ?_
  refine .w (.pick1 rfl rfl rfl) ?_
  refine .w (.move rfl) ?_
  refine .gt (g := 71) rfl rfl rfl ?_
  refine .w (.move rfl) ?_
  refine .gt (g := 71) rfl rfl rfl ?_
  refine .w (.as (v' := .bool true) (.not rfl) rfl) ?_
  refine .w (.pick1 rfl rfl rfl) ?_
  refine .w (.move rfl) ?_
  refine .gt (g := 75) rfl rfl rfl ?_
  refine .w (.move rfl) ?_
  refine .w (.pick1 rfl rfl rfl) ?_
  refine .w (.move rfl) ?_
  refine .gt (g := 78) rfl rfl rfl ?_
  refine .w (.move rfl) ?_
  refine .gt (g := 78) rfl rfl rfl ?_
  refine .w (.as (v' := .bool true) (.not rfl) rfl) ?_
  refine .w (.pick1 rfl rfl rfl) ?_
  refine .w (.assign rfl) ?_
  refine .nil (.tn (.ret ?_))
  exact .dn [] [] (res1 rfl (.tmp rfl)) ⟨rfl, rfl, rfl⟩
end Go.Proofs.YtmbpngnamnoiaaaDoor
