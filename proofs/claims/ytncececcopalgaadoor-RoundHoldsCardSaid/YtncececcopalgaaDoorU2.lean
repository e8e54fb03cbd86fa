/- Walk: awake. -/
import Derived.Test.YtncececcopalgaaDoorF13
import Derived.Test.YtncececcopalgaaDoorF14
import Derived.Test.YtncececcopalgaaDoorF15
import Derived.Test.YtncececcopalgaaDoorF16
import Derived.Test.YtncececcopalgaaDoorU1
namespace Go.Proofs.YtncececcopalgaaDoor
open Go.RowKit
set_option maxRecDepth 100000
set_option linter.unusedVariables false
set_option linter.unusedSimpArgs false
theorem f8_spec  :
    Spec Tryd.prog 8 #[] [Res.var 0 [u64 9223372036854775808, u64 0, u64 0, u64 0]] []
      (fun r Γ' H' => r = (.bool true) ∧ Γ' = [] ∧ H' = []) := by
  refine Spec.of_args Tryd.func8 rfl Tryd.ntmps8 (by simp) fun w => ?_
  refine .seq (.region ?_)
  refine .w (.assign rfl) ?_
  refine .nil (.tn (.seq (.region ?_)))
  refine .w (.as (v' := dgV (dg1 1)) (.build bld_24 rfl rfl) rfl) ?_
  refine .al zero_24 fun b1 => ?_
  refine .sa sz_24 ?_ (h1 := (dg_one _))
  refine .nil (.tn (.seq (.region ?_)))
  refine .l1 Tryd.underlying22 info_48 (fun v13 => ?_)
  refine .w (.as (v' := dgV (dg1 9)) (.build bld_24 rfl rfl) rfl) ?_
  refine .cb (f9ok_spec v13 awS 1 0 (dg1 9) (by decide) (by decide) (by decide) (by decide +kernel)) body_9 ?_ (h0 := by rintro _ _ _ ⟨_, _, _, _, _, _, h, _⟩; exact h)
  rintro _ _ ⟨p, sv, bp, bt, bd, rfl, _, rfl⟩
  refine .ap ?_
  have hok0 : (RA.newA sv bp bt bd awS 1 0 (dg1 9)).Ok := RA.newA_ok (by decide) (by decide) (by decide) (by decide) (by decide) (by decide) (by decide)
  refine .w (.move rfl) ?_
  refine .w (.extract rfl rfl) ?_
  refine .w (.extract rfl rfl) ?_
  refine .w (.assign rfl) ?_
  refine .w (.assign rfl) ?_
  refine .nil (.tn (.seq (.seq (.region ?_))))
  refine .w (.move rfl) ?_
  refine .w (.as (v' := .bool false) (.bin rfl rfl (BinR.eql_p Tryd.underlying27)) rfl) ?_
  refine .w (.move rfl) ?_
  refine .gt (g := 20) rfl rfl rfl ?_
  refine .w (.move rfl) ?_
  refine .gt (g := 20) rfl rfl rfl ?_
  refine .w (.bin rfl rfl BinR.neq_i) ?_
  refine .w (.pick0 rfl rfl rfl) ?_
  refine .nil (.tn ?_)
  refine .cf rfl ?_
  refine .skip (.tn (.seq (.region ?_)))
  refine .w (.move rfl) ?_
  refine .cb (f10_spec p _ hok0) body_10 ?_ (h0 := by rintro _ _ _ ⟨_, _, _, _, _, h, _⟩; exact h)
  rintro _ _ ⟨s1, w1, hok1, hab1, rfl, _, rfl⟩
  refine .ap ?_
  rw [show (RA.newA sv bp bt bd awS 1 0 (dg1 9)).abs.start = aw1 from rfl] at *
  rw [aw1_is]
  refine .w (.assign rfl) ?_
  refine .nil (.tn (.seq (.region ?_)))
  refine .w (.move rfl) ?_
  refine .w (.as (v' := dgV (dg1 1)) (.lda agg_24 rfl) rfl) ?_
  refine .w (.as (v' := msV ⟨1, 0, 0, dg1 1, -1⟩) (.bd bld_33) rfl) ?_
  refine .cb (f11_spec p s1 hok1 ⟨1, 0, 0, dg1 1, -1⟩ true) body_11 ?_ (h0 := by rintro _ _ _ ⟨_, _, _, _, _, h, _⟩; exact h)
  rintro _ _ ⟨s2, w2, hok2, hab2, rfl, _, rfl⟩
  refine .ap ?_
  rw [hab1] at *
  rw [show (aw1.1.hear ⟨1, 0, 0, dg1 1, -1⟩ true) = aw2 from rfl] at *
  rw [aw2_is]
  refine .w (.move rfl) ?_
  refine .w (.extract rfl rfl) ?_
  refine .w (.extract rfl rfl) ?_
  refine .w (.assign rfl) ?_
  refine .w (.assign rfl) ?_
  refine .nil (.tn (.seq (.region ?_)))
  refine .nilRow 41 35 ?_
  refine .w (.assign rfl) ?_
  refine .nil (.tn (.seq (.region ?_)))
  refine .nilRow 41 35 ?_
  refine .w (.assign rfl) ?_
  refine .nil (.tn (.seq (.seq (.region ?_))))
  refine .w (.assign rfl) ?_
  refine .nil (.tn (.block ?_))
  refine .lp (ι := Nat × Value × RA × List Act) (fun x => x.1 ≤ 3 ∧ x.2.2.1.Ok ∧ x.2.2.1.abs = (awR 2 aw2.1 x.1).1 ∧ x.2.2.2 = (awR 2 aw2.1 x.1).2) (fun T x => (9, it (x.1 : Int)) :: (7, x.2.1) :: T) (fun T _ => T) (fun T x => Res.row x.2.1 x.2.2.2.length 41 35 (acC x.2.2.2) :: Res.cells p x.2.2.1.cells 77 :: Res.row x.2.2.1.sv x.2.2.1.S.length 48 1 (x.2.2.1.S.map u64) :: mpR x.2.2.1.bp itK prV x.2.2.1.pr :: mpR x.2.2.1.bt k2V tpV x.2.2.1.ta :: mpR x.2.2.1.bd k2V blV x.2.2.1.dn :: Res.sep (tals x.2.2.1.S x.2.2.1.ta.es) :: T) (fun x => 3 - x.1) (0, .slice none 0 0, s2, []) [0, 1, 2, 4, 5, 8, 10, 45, 46, 47, 48, 49, 50, 51, 52, 53, 54, 55, 57, 58, 59, 60, 61, 62, 63, 64, 65, 66, 67, 68, 69, 70, 71, 72, 73, 74, 75, 76, 77, 78, 79, 80, 81, 82] ?_ (fun x hx => ?_)
  · exact ⟨Nat.zero_le _, hok2, by dsimp only; rw [awR_0]; dsimp only; exact hab2, by dsimp only; rw [awR_0]⟩
  obtain ⟨i, wsa, sa, lsa⟩ := x
  obtain ⟨hi, hoksa, habsa, hlsa⟩ := hx
  dsimp only at hi hoksa habsa hlsa ⊢
  refine .seq (.seq (.region ?_))
  refine .w (.move rfl) ?_
  refine .w (.bin rfl rfl BinR.lss_i) ?_
  refine .nil (.tn ?_)
  refine .cn rfl (fun hc2 => ?_) (fun hc2 => ?_)
  · skip
    refine .skip (.tn (.seq (.block (.region ?_))))
    refine .w (.move rfl) ?_
    refine .w (.move rfl) ?_
    refine .w (.as (v' := dgV (dg1 1)) (.lda agg_24 rfl) rfl) ?_
    refine .w (.as (v' := msV ⟨2, 0, (i : Int), dg1 1, 0⟩) (.bd bld_33) rfl) ?_
    refine .cb (f11_spec p sa hoksa ⟨2, 0, (i : Int), dg1 1, 0⟩ true) body_11 ?_ (h0 := by rintro _ _ _ ⟨_, _, _, _, _, h, _⟩; exact h)
    rintro _ _ ⟨sb, wsb, hoksb, habsb, rfl, _, rfl⟩
    refine .ap ?_
    rw [habsa] at *
    rw [show ((awR 2 aw2.1 i).1.hear ⟨2, 0, (i : Int), dg1 1, 0⟩ true).2.1 = (awR 2 aw2.1 (i + 1)).2 from rfl]
    refine .w (.move rfl) ?_
    refine .w (.extract rfl rfl) ?_
    refine .w (.extract rfl rfl) ?_
    refine .w (.assign rfl) ?_
    refine .nil (.block_normal (.tn (.region ?_)))
    refine .w (.move rfl) ?_
    refine .w (.asI ((i + 1 : Nat) : Int) (.bin rfl rfl (BinR.add_i (by first | (constructor <;> omega) | (constructor <;> simp <;> omega))))) ?_
    refine .w (.assign rfl) ?_
    refine .nil ?_
    refine .hd (i + 1, wsb, sb, (awR 2 aw2.1 (i + 1)).2) ?_
    exact ⟨⟨by dsimp only; omega, hoksb, by dsimp only; rw [habsb]; rfl, rfl⟩, by dsimp only; omega⟩
  · obtain rfl : i = 3 := by omega
    have hab2' := habsa
    rw [aw3_is] at hlsa
    subst hlsa
    refine .exit (.then_exit (.then_exit (.block_exit (.tn (.seq (.seq (.region ?_)))))))
    refine .w (.assign rfl) ?_
    refine .nil (.tn (.block ?_))
    refine .lp (ι := Nat × Value × RA × List Act) (fun x => x.1 ≤ 3 ∧ x.2.2.1.Ok ∧ x.2.2.1.abs = (awR 3 (awR 2 aw2.1 3).1 x.1).1 ∧ x.2.2.2 = (awR 3 (awR 2 aw2.1 3).1 x.1).2) (fun T x => (10, it (x.1 : Int)) :: (8, x.2.1) :: T) (fun T _ => T) (fun T x => Res.row x.2.1 x.2.2.2.length 41 35 (acC x.2.2.2) :: Res.cells p x.2.2.1.cells 77 :: Res.row x.2.2.1.sv x.2.2.1.S.length 48 1 (x.2.2.1.S.map u64) :: mpR x.2.2.1.bp itK prV x.2.2.1.pr :: mpR x.2.2.1.bt k2V tpV x.2.2.1.ta :: mpR x.2.2.1.bd k2V blV x.2.2.1.dn :: Res.sep (tals x.2.2.1.S x.2.2.1.ta.es) :: T) (fun x => 3 - x.1) (0, .slice none 0 0, sa, []) [0, 1, 2, 4, 5, 7, 57, 58, 59, 60, 61, 62, 63, 64, 65, 66, 67, 68, 69, 70, 71, 72, 73, 74, 75, 76, 77, 78, 79, 80, 81, 82] ?_ (fun x hx => ?_)
    · exact ⟨Nat.zero_le _, hoksa, by dsimp only; rw [awR_0]; dsimp only; exact hab2', by dsimp only; rw [awR_0]⟩
    obtain ⟨i, wsc, sc, lsc⟩ := x
    obtain ⟨hi, hoksc, habsc, hlsc⟩ := hx
    dsimp only at hi hoksc habsc hlsc ⊢
    refine .seq (.seq (.region ?_))
    refine .w (.move rfl) ?_
    refine .w (.bin rfl rfl BinR.lss_i) ?_
    refine .nil (.tn ?_)
    refine .cn rfl (fun hc3 => ?_) (fun hc3 => ?_)
    · skip
      refine .skip (.tn (.seq (.block (.region ?_))))
      refine .w (.move rfl) ?_
      refine .w (.move rfl) ?_
      refine .w (.as (v' := dgV (dg1 1)) (.lda agg_24 rfl) rfl) ?_
      refine .w (.as (v' := msV ⟨3, 0, (i : Int), dg1 1, 0⟩) (.bd bld_33) rfl) ?_
      refine .cb (f11_spec p sc hoksc ⟨3, 0, (i : Int), dg1 1, 0⟩ true) body_11 ?_ (h0 := by rintro _ _ _ ⟨_, _, _, _, _, h, _⟩; exact h)
      rintro _ _ ⟨sd, wsd, hoksd, habsd, rfl, _, rfl⟩
      refine .ap ?_
      rw [habsc] at *
      rw [show ((awR 3 (awR 2 aw2.1 3).1 i).1.hear ⟨3, 0, (i : Int), dg1 1, 0⟩ true).2.1 = (awR 3 (awR 2 aw2.1 3).1 (i + 1)).2 from rfl]
      refine .w (.move rfl) ?_
      refine .w (.extract rfl rfl) ?_
      refine .w (.extract rfl rfl) ?_
      refine .w (.assign rfl) ?_
      refine .nil (.block_normal (.tn (.region ?_)))
      refine .w (.move rfl) ?_
      refine .w (.asI ((i + 1 : Nat) : Int) (.bin rfl rfl (BinR.add_i (by first | (constructor <;> omega) | (constructor <;> simp <;> omega))))) ?_
      refine .w (.assign rfl) ?_
      refine .nil ?_
      refine .hd (i + 1, wsd, sd, (awR 3 (awR 2 aw2.1 3).1 (i + 1)).2) ?_
      exact ⟨⟨by dsimp only; omega, hoksd, by dsimp only; rw [habsd]; rfl, rfl⟩, by dsimp only; omega⟩
    · obtain rfl : i = 3 := by omega
      rw [aw4_is] at hlsc
      subst hlsc
      refine .exit (.then_exit (.then_exit (.block_exit (.tn (.seq (.region ?_))))))
      refine .w (.move rfl) ?_
      refine .w (.as (v' := acV (awA 4 D0)) (.bd bld_41) rfl) ?_
      refine .ls Tryd.underlying31 info_41 (fun v59 => ?_) (hsz := (by intro v hv; simp only [List.mem_cons, List.not_mem_nil, or_false] at hv; rcases hv with rfl | rfl <;> exact acV_size _))
      refine .c (f24_spec _ _ [awA 4 D0] [awA 4 D0] (by decide)) body_24 ?_
      refine .w (.move rfl) ?_
      refine .gt (g := 61) rfl rfl rfl ?_
      refine .w (.move rfl) ?_
      refine .gt (g := 61) rfl rfl rfl ?_
      refine .w (.lda agg_24 rfl) ?_
      refine .gt (g := 61) rfl rfl rfl ?_
      refine .w (.as (v' := acV (awA 2 (dg1 1))) (.bd bld_41) rfl) ?_
      refine .gt (g := 61) rfl rfl rfl ?_
      refine .ls Tryd.underlying31 info_41 (fun v65 => ?_) (hsz := (by intro v hv; simp only [List.mem_cons, List.not_mem_nil, or_false] at hv; rcases hv with rfl | rfl <;> exact acV_size _))
      refine .gt (g := 61) rfl rfl rfl ?_
      refine .c (f24_spec _ _ [awA 2 (dg1 1)] [awA 2 (dg1 1)] (by decide)) body_24 ?_
      refine .w (.pick1 rfl rfl rfl) ?_
      refine .w (.move rfl) ?_
      refine .gt (g := 68) rfl rfl rfl ?_
      refine .w (.move rfl) ?_
      refine .gt (g := 68) rfl rfl rfl ?_
      refine .w (.as (v' := acV (awA 5 D0)) (.bd bld_41) rfl) ?_
      refine .gt (g := 68) rfl rfl rfl ?_
      refine .w (.lda agg_24 rfl) ?_
      refine .gt (g := 68) rfl rfl rfl ?_
      refine .w (.as (v' := acV (awA 3 (dg1 1))) (.bd bld_41) rfl) ?_
      refine .gt (g := 68) rfl rfl rfl ?_
      refine .ls Tryd.underlying31 info_41 (fun v73 => ?_) (hsz := (by intro v hv; simp only [List.mem_cons, List.not_mem_nil, or_false] at hv; rcases hv with rfl | rfl <;> exact acV_size _))
      refine .gt (g := 68) rfl rfl rfl ?_
      refine .c (f24_spec _ _ [awA 5 D0, awA 3 (dg1 1)] [awA 5 D0, awA 3 (dg1 1)] (by decide)) body_24 ?_
      refine .w (.pick1 rfl rfl rfl) ?_
      refine .w (.move rfl) ?_
      refine .gt (g := 76) rfl rfl rfl ?_
      refine .w (.move rfl) ?_
      refine .gt (g := 76) rfl rfl rfl ?_
      refine .w (.lda agg_24 rfl) ?_
      refine .gt (g := 76) rfl rfl rfl ?_
      refine .w (.as (v' := acV (awA 7 (dg1 1))) (.bd bld_41) rfl) ?_
      refine .gt (g := 76) rfl rfl rfl ?_
      refine .ls Tryd.underlying31 info_41 (fun v80 => ?_) (hsz := (by intro v hv; simp only [List.mem_cons, List.not_mem_nil, or_false] at hv; rcases hv with rfl | rfl <;> exact acV_size _))
      refine .gt (g := 76) rfl rfl rfl ?_
      refine .c (f24_spec _ _ [awA 7 (dg1 1)] [awA 7 (dg1 1)] (by decide)) body_24 ?_
      refine .w (.pick1 rfl rfl rfl) ?_
      refine .w (.assign rfl) ?_
      refine .nil (.tn (.ret ?_))
      exact .dn [] [] (res1 rfl (.tmp rfl)) ⟨rfl, rfl, rfl⟩
end Go.Proofs.YtncececcopalgaaDoor
