/- Walks: what is to be done, held against each other; awake. -/
import Derived.Test.YtncececcopalgaaDoorF13
import Derived.Test.YtncececcopalgaaDoorF14
import Derived.Test.YtncececcopalgaaDoorF15
import Derived.Test.YtncececcopalgaaDoorF16
import Derived.Test.YtncececcopalgaaDoorX16
namespace Go.Proofs.YtncececcopalgaaDoor
open Go.RowKit
set_option maxRecDepth 100000
set_option linter.unusedVariables false
set_option linter.unusedSimpArgs false
theorem act_is (a b : Act) : [decide (a.kind = b.kind), decide (a.round = b.round), decide (a.value = b.value), decide (a.valid = b.valid)].all id = true ↔ a = b := by
  obtain ⟨a1, a2, a3, a4⟩ := a
  obtain ⟨b1, b2, b3, b4⟩ := b
  simp
theorem neq_act {x y : Operand} {a b : Act} : BinR Tryd.prog .neq 41 x y (acV a) (acV b) (.bool (decide (a ≠ b))) := by
  rw [show decide (a ≠ b) = !decide (a = b) from decide_not]
  exact BinR.neq_st Tryd.underlying41 (by kernel_rfl) (by kernel_rfl) (fun w => .cons (EqF.int Tryd.underlying3 (by decide) rfl rfl) (.cons (EqF.int Tryd.underlying3 (by decide) rfl rfl) (.cons (EqF.dig agg_24 Tryd.underlying24 Tryd.underlying5 sz_5 (by decide) (act_ex a) (act_ex b)) (.cons (EqF.int Tryd.underlying3 (by decide) (act_34 a) (act_34 b)) .nil)))) (act_is a b)

theorem f24_spec (u v : Value) (l k : List Act) (hl : l.length ≤ 100000) :
    Spec Tryd.prog 24 #[u, v] [Res.rd u l.length 35 (acC l), Res.rd v k.length 35 (acC k)] []
      (fun r Γ' H' => r = (.bool (decide (l = k))) ∧ Γ' = [] ∧ H' = []) := by
  refine Spec.of_args Tryd.func24 rfl Tryd.ntmps24 (by simp) fun w => ?_
  refine .seq (.region ?_)
  refine .w (.assign rfl) ?_
  refine .nil (.tn (.seq (.seq (.region ?_))))
  refine .w (.move rfl) ?_
  refine .w (.len Tryd.underlying31 rfl) ?_
  refine .w (.move rfl) ?_
  refine .w (.len Tryd.underlying31 rfl) ?_
  refine .w (.bin rfl rfl BinR.neq_i) ?_
  refine .nil (.tn ?_)
  refine .cn rfl (fun hc1 => ?_) (fun hc1 => ?_)
  · have hr : decide (l = k) = false := decide_eq_false (fun h => hc1 (by rw [h]))
    refine .seq (.region ?_)
    refine .w (.assign rfl) ?_
    refine .nil (.tn (.ret (.then_ret ?_)))
    exact .dn [] [] (res1 rfl (.tmp rfl)) ⟨by rw [hr], rfl, rfl⟩
  · have hlk : l.length = k.length := by omega
    refine .skip (.tn (.seq (.seq (.region ?_))))
    refine .w (.assign rfl) ?_
    refine .nil (.tn (.block ?_))
    refine .lp (ι := Nat) (fun x => x ≤ l.length ∧ ∀ j : Nat, j < x → actAt l j = actAt k j) (fun T x => (5, it (x : Int)) :: T) (fun T _ => T) (fun T _ => T) (fun x => l.length - x) 0 [0, 1] ?_ (fun x hx => ?_)
    · exact ⟨Nat.zero_le _, fun j hj => absurd hj (Nat.not_lt_zero _)⟩
    obtain ⟨hx, hj⟩ := hx
    refine .seq (.seq (.region ?_))
    refine .w (.move rfl) ?_
    refine .w (.move rfl) ?_
    refine .w (.len Tryd.underlying31 rfl) ?_
    refine .w (.bin rfl rfl BinR.lss_i) ?_
    refine .nil (.tn ?_)
    refine .cn rfl (fun hc2 => ?_) (fun hc2 => ?_)
    · skip
      refine .skip (.tn (.seq (.block (.seq ?_))))
      refine JC.draw (.one 0 (.one 1 (.one 2 (.one 3 (.one 4 (.one 5 (.one 6 (.one 7 (.one 8 .nil))))))))) (fun i => ([] : List Nat).contains i) (fun i => ([] : List Nat).contains i) (fun i => ([0, 1, 2, 4, 5, 6, 8] : List Nat).contains i) mixed (by kernel_rfl) (by decide) (by kernel_rfl) ?_
      refine .uw rfl (.move rfl) ?_
      refine .uw rfl (.move rfl) ?_
      refine .uw rfl (.ix Tryd.underlying31 sz_41 rfl rfl) ?_
      refine .w rfl (.as (v' := acV (actAt l x)) (.lda agg_41 rfl) (congrArg (fun l : List Value => Value.agg l.toArray) (act_all (by omega)))) ?_
      refine .uw rfl (.move rfl) ?_
      refine .uw rfl (.move rfl) ?_
      refine .uw rfl (.ix Tryd.underlying31 sz_41 rfl rfl) ?_
      refine .w rfl (.as (v' := acV (actAt k x)) (.lda agg_41 rfl) (congrArg (fun l : List Value => Value.agg l.toArray) (act_all (by omega)))) ?_
      refine .uw rfl (.bin rfl rfl (neq_act)) ?_
      refine .nil (.tn ?_)
      refine .cn rfl (fun hc3 => ?_) (fun hc3 => ?_)
      · have hr : decide (l = k) = false := decide_eq_false (fun h => hc3 (by rw [h]))
        refine .seq (.region ?_)
        refine .w (.assign rfl) ?_
        refine .nil (.tn (.ret (.block_ret (.then_ret (.then_ret (.block_ret (.then_ret ?_)))))))
        exact .dn [] [] (res1 rfl (.tmp rfl)) ⟨by rw [hr], rfl, rfl⟩
      · skip
        refine .skip (.block_normal (.tn (.region ?_)))
        refine .w (.move rfl) ?_
        refine .w (.asI ((x + 1 : Nat) : Int) (.bin rfl rfl (BinR.add_i (by first | (constructor <;> omega) | (constructor <;> simp <;> omega))))) ?_
        refine .w (.assign rfl) ?_
        refine .nil ?_
        refine .hd (x + 1) ?_
        exact ⟨⟨by omega, fun j h => by
          rcases Nat.lt_succ_iff_lt_or_eq.1 h with h | h
          · exact hj j h
          · subst h; exact hc3⟩, by omega⟩
    · have hr : decide (l = k) = true := decide_eq_true (acts_eq hlk (fun j h => hj j (by omega)))
      refine .exit (.then_exit (.then_exit (.block_exit (.tn (.seq (.region ?_))))))
      refine .w (.assign rfl) ?_
      refine .nil (.tn (.ret ?_))
      exact .dn [] [] (res1 rfl (.tmp rfl)) ⟨by rw [hr], rfl, rfl⟩

theorem f8_spec  :
    Spec Tryd.prog 8 #[] [Res.var 0 [u64 9223372036854775808, u64 0, u64 0, u64 0]] []
      (fun r Γ' H' => r = (.bool true) ∧ Γ' = [] ∧ H' = []) := by
  refine Spec.of_args Tryd.func8 rfl Tryd.ntmps8 (by simp) fun w => ?_
  refine .seq (.region ?_)
  refine .w (.assign rfl) ?_
  refine .nil (.tn (.seq (.region ?_)))
  refine .w (.as (v' := dgV (dg1 1)) (.build bld_24 rfl rfl) rfl) ?_
  refine .al zero_24 fun b1 => ?_
  refine .sa sz_24 ?_ (h1 := (dg_one _))
  refine .nil (.tn (.seq (.region ?_)))
  refine .l1 Tryd.underlying22 info_48 (fun v13 => ?_)
  refine .w (.as (v' := dgV (dg1 9)) (.build bld_24 rfl rfl) rfl) ?_
  refine .cb (f9ok_spec v13 awS 1 0 (dg1 9) (by decide) (by decide) (by decide) (by decide +kernel)) body_9 ?_ (h0 := by rintro _ _ _ ⟨_, _, _, _, _, _, h, _⟩; exact h)
  rintro _ _ ⟨p, sv, bp, bt, bd, rfl, _, rfl⟩
  refine .ap ?_
  have hok0 : (RA.newA sv bp bt bd awS 1 0 (dg1 9)).Ok := RA.newA_ok (by decide) (by decide) (by decide) (by decide) (by decide) (by decide) (by decide)
  refine .w (.move rfl) ?_
  refine .w (.extract rfl rfl) ?_
  refine .w (.extract rfl rfl) ?_
  refine .w (.assign rfl) ?_
  refine .w (.assign rfl) ?_
  refine .nil (.tn (.seq (.seq (.region ?_))))
  refine .w (.move rfl) ?_
  refine .w (.as (v' := .bool false) (.bin rfl rfl (BinR.eql_p Tryd.underlying27)) rfl) ?_
  refine .w (.move rfl) ?_
  refine .gt (g := 20) rfl rfl rfl ?_
  refine .w (.move rfl) ?_
  refine .gt (g := 20) rfl rfl rfl ?_
  refine .w (.bin rfl rfl BinR.neq_i) ?_
  refine .w (.pick0 rfl rfl rfl) ?_
  refine .nil (.tn ?_)
  refine .cf rfl ?_
  refine .skip (.tn (.seq (.region ?_)))
  refine .w (.move rfl) ?_
  refine .cb (f10_spec p _ hok0) body_10 ?_ (h0 := by rintro _ _ _ ⟨_, _, _, _, _, h, _⟩; exact h)
  rintro _ _ ⟨s1, w1, hok1, hab1, rfl, _, rfl⟩
  refine .ap ?_
  rw [show (RA.newA sv bp bt bd awS 1 0 (dg1 9)).abs.start = aw1 from rfl] at *
  rw [aw1_is]
  refine .w (.assign rfl) ?_
  refine .nil (.tn (.seq (.region ?_)))
  refine .w (.move rfl) ?_
  refine .w (.as (v' := dgV (dg1 1)) (.lda agg_24 rfl) rfl) ?_
  refine .w (.as (v' := msV ⟨1, 0, 0, dg1 1, -1⟩) (.bd bld_33) rfl) ?_
  refine .cb (f11_spec p s1 hok1 ⟨1, 0, 0, dg1 1, -1⟩ true) body_11 ?_ (h0 := by rintro _ _ _ ⟨_, _, _, _, _, h, _⟩; exact h)
  rintro _ _ ⟨s2, w2, hok2, hab2, rfl, _, rfl⟩
  refine .ap ?_
  rw [hab1] at *
  rw [show (aw1.1.hear ⟨1, 0, 0, dg1 1, -1⟩ true) = aw2 from rfl] at *
  rw [aw2_is]
  refine .w (.move rfl) ?_
  refine .w (.extract rfl rfl) ?_
  refine .w (.extract rfl rfl) ?_
  refine .w (.assign rfl) ?_
  refine .w (.assign rfl) ?_
  refine .nil (.tn (.seq (.region ?_)))
  refine .nilRow 41 35 ?_
  refine .w (.assign rfl) ?_
  refine .nil (.tn (.seq (.region ?_)))
  refine .nilRow 41 35 ?_
  refine .w (.assign rfl) ?_
  refine .nil (.tn (.seq (.seq (.region ?_))))
  refine .w (.assign rfl) ?_
  refine .nil (.tn (.block ?_))
  refine .lp (ι := Nat × Value × RA × List Act) (fun x => x.1 ≤ 3 ∧ x.2.2.1.Ok ∧ x.2.2.1.abs = (awR 2 aw2.1 x.1).1 ∧ x.2.2.2 = (awR 2 aw2.1 x.1).2) (fun T x => (9, it (x.1 : Int)) :: (7, x.2.1) :: T) (fun T _ => T) (fun T x => Res.row x.2.1 x.2.2.2.length 41 35 (acC x.2.2.2) :: Res.cells p x.2.2.1.cells 77 :: Res.row x.2.2.1.sv x.2.2.1.S.length 48 1 (x.2.2.1.S.map u64) :: mpR x.2.2.1.bp itK prV x.2.2.1.pr :: mpR x.2.2.1.bt k2V tpV x.2.2.1.ta :: mpR x.2.2.1.bd k2V blV x.2.2.1.dn :: Res.sep (tals x.2.2.1.S x.2.2.1.ta.es) :: T) (fun x => 3 - x.1) (0, .slice none 0 0, s2, []) [0, 1, 2, 4, 5, 8, 10, 45, 46, 47, 48, 49, 50, 51, 52, 53, 54, 55, 57, 58, 59, 60, 61, 62, 63, 64, 65, 66, 67, 68, 69, 70, 71, 72, 73, 74, 75, 76, 77, 78, 79, 80, 81, 82] ?_ (fun x hx => ?_)
  · exact ⟨Nat.zero_le _, hok2, by dsimp only; rw [awR_0]; dsimp only; exact hab2, by dsimp only; rw [awR_0]⟩
  obtain ⟨i, wsa, sa, lsa⟩ := x
  obtain ⟨hi, hoksa, habsa, hlsa⟩ := hx
  dsimp only at hi hoksa habsa hlsa ⊢
  refine .seq (.seq (.region ?_))
  refine .w (.move rfl) ?_
  refine .w (.bin rfl rfl BinR.lss_i) ?_
  refine .nil (.tn ?_)
  refine .cn rfl (fun hc2 => ?_) (fun hc2 => ?_)
  · skip
    refine .skip (.tn (.seq (.block (.region ?_))))
    refine .w (.move rfl) ?_
    refine .w (.move rfl) ?_
    refine .w (.as (v' := dgV (dg1 1)) (.lda agg_24 rfl) rfl) ?_
    refine .w (.as (v' := msV ⟨2, 0, (i : Int), dg1 1, 0⟩) (.bd bld_33) rfl) ?_
    refine .cb (f11_spec p sa hoksa ⟨2, 0, (i : Int), dg1 1, 0⟩ true) body_11 ?_ (h0 := by rintro _ _ _ ⟨_, _, _, _, _, h, _⟩; exact h)
    rintro _ _ ⟨sb, wsb, hoksb, habsb, rfl, _, rfl⟩
    refine .ap ?_
    rw [habsa] at *
    rw [show ((awR 2 aw2.1 i).1.hear ⟨2, 0, (i : Int), dg1 1, 0⟩ true).2.1 = (awR 2 aw2.1 (i + 1)).2 from rfl]
    refine .w (.move rfl) ?_
    refine .w (.extract rfl rfl) ?_
    refine .w (.extract rfl rfl) ?_
    refine .w (.assign rfl) ?_
    refine .nil (.block_normal (.tn (.region ?_)))
    refine .w (.move rfl) ?_
    refine .w (.asI ((i + 1 : Nat) : Int) (.bin rfl rfl (BinR.add_i (by first | (constructor <;> omega) | (constructor <;> simp <;> omega))))) ?_
    refine .w (.assign rfl) ?_
    refine .nil ?_
    refine .hd (i + 1, wsb, sb, (awR 2 aw2.1 (i + 1)).2) ?_
    exact ⟨⟨by dsimp only; omega, hoksb, by dsimp only; rw [habsb]; rfl, rfl⟩, by dsimp only; omega⟩
  · obtain rfl : i = 3 := by omega
    have hab2' := habsa
    rw [aw3_is] at hlsa
    subst hlsa
    refine .exit (.then_exit (.then_exit (.block_exit (.tn (.seq (.seq (.region ?_)))))))
    refine .w (.assign rfl) ?_
    refine .nil (.tn (.block ?_))
    refine .lp (ι := Nat × Value × RA × List Act) (fun x => x.1 ≤ 3 ∧ x.2.2.1.Ok ∧ x.2.2.1.abs = (awR 3 (awR 2 aw2.1 3).1 x.1).1 ∧ x.2.2.2 = (awR 3 (awR 2 aw2.1 3).1 x.1).2) (fun T x => (10, it (x.1 : Int)) :: (8, x.2.1) :: T) (fun T _ => T) (fun T x => Res.row x.2.1 x.2.2.2.length 41 35 (acC x.2.2.2) :: Res.cells p x.2.2.1.cells 77 :: Res.row x.2.2.1.sv x.2.2.1.S.length 48 1 (x.2.2.1.S.map u64) :: mpR x.2.2.1.bp itK prV x.2.2.1.pr :: mpR x.2.2.1.bt k2V tpV x.2.2.1.ta :: mpR x.2.2.1.bd k2V blV x.2.2.1.dn :: Res.sep (tals x.2.2.1.S x.2.2.1.ta.es) :: T) (fun x => 3 - x.1) (0, .slice none 0 0, sa, []) [0, 1, 2, 4, 5, 7, 57, 58, 59, 60, 61, 62, 63, 64, 65, 66, 67, 68, 69, 70, 71, 72, 73, 74, 75, 76, 77, 78, 79, 80, 81, 82] ?_ (fun x hx => ?_)
    · exact ⟨Nat.zero_le _, hoksa, by dsimp only; rw [awR_0]; dsimp only; exact hab2', by dsimp only; rw [awR_0]⟩
    obtain ⟨i, wsc, sc, lsc⟩ := x
    obtain ⟨hi, hoksc, habsc, hlsc⟩ := hx
    dsimp only at hi hoksc habsc hlsc ⊢
    refine .seq (.seq (.region ?_))
    refine .w (.move rfl) ?_
    refine .w (.bin rfl rfl BinR.lss_i) ?_
    refine .nil (.tn ?_)
    refine .cn rfl (fun hc3 => ?_) (fun hc3 => ?_)
    · skip
      refine .skip (.tn (.seq (.block (.region ?_))))
      refine .w (.move rfl) ?_
      refine .w (.move rfl) ?_
      refine .w (.as (v' := dgV (dg1 1)) (.lda agg_24 rfl) rfl) ?_
      refine .w (.as (v' := msV ⟨3, 0, (i : Int), dg1 1, 0⟩) (.bd bld_33) rfl) ?_
      refine .cb (f11_spec p sc hoksc ⟨3, 0, (i : Int), dg1 1, 0⟩ true) body_11 ?_ (h0 := by rintro _ _ _ ⟨_, _, _, _, _, h, _⟩; exact h)
      rintro _ _ ⟨sd, wsd, hoksd, habsd, rfl, _, rfl⟩
      refine .ap ?_
      rw [habsc] at *
      rw [show ((awR 3 (awR 2 aw2.1 3).1 i).1.hear ⟨3, 0, (i : Int), dg1 1, 0⟩ true).2.1 = (awR 3 (awR 2 aw2.1 3).1 (i + 1)).2 from rfl]
      refine .w (.move rfl) ?_
      refine .w (.extract rfl rfl) ?_
      refine .w (.extract rfl rfl) ?_
      refine .w (.assign rfl) ?_
      refine .nil (.block_normal (.tn (.region ?_)))
      refine .w (.move rfl) ?_
      refine .w (.asI ((i + 1 : Nat) : Int) (.bin rfl rfl (BinR.add_i (by first | (constructor <;> omega) | (constructor <;> simp <;> omega))))) ?_
      refine .w (.assign rfl) ?_
      refine .nil ?_
      refine .hd (i + 1, wsd, sd, (awR 3 (awR 2 aw2.1 3).1 (i + 1)).2) ?_
      exact ⟨⟨by dsimp only; omega, hoksd, by dsimp only; rw [habsd]; rfl, rfl⟩, by dsimp only; omega⟩
    · obtain rfl : i = 3 := by omega
      rw [aw4_is] at hlsc
      subst hlsc
      refine .exit (.then_exit (.then_exit (.block_exit (.tn (.seq (.region ?_))))))
      refine .w (.move rfl) ?_
      refine .w (.as (v' := acV (awA 4 D0)) (.bd bld_41) rfl) ?_
      refine .ls Tryd.underlying31 info_41 (fun v59 => ?_) (hsz := (by intro v hv; simp only [List.mem_cons, List.not_mem_nil, or_false] at hv; rcases hv with rfl | rfl <;> exact acV_size _))
      refine .c (f24_spec _ _ [awA 4 D0] [awA 4 D0] (by decide)) body_24 ?_
      refine .w (.move rfl) ?_
      refine .gt (g := 61) rfl rfl rfl ?_
      refine .w (.move rfl) ?_
      refine .gt (g := 61) rfl rfl rfl ?_
      refine .w (.lda agg_24 rfl) ?_
      refine .gt (g := 61) rfl rfl rfl ?_
      refine .w (.as (v' := acV (awA 2 (dg1 1))) (.bd bld_41) rfl) ?_
      refine .gt (g := 61) rfl rfl rfl ?_
      refine .ls Tryd.underlying31 info_41 (fun v65 => ?_) (hsz := (by intro v hv; simp only [List.mem_cons, List.not_mem_nil, or_false] at hv; rcases hv with rfl | rfl <;> exact acV_size _))
      refine .gt (g := 61) rfl rfl rfl ?_
      refine .c (f24_spec _ _ [awA 2 (dg1 1)] [awA 2 (dg1 1)] (by decide)) body_24 ?_
      refine .w (.pick1 rfl rfl rfl) ?_
      refine .w (.move rfl) ?_
      refine .gt (g := 68) rfl rfl rfl ?_
      refine .w (.move rfl) ?_
      refine .gt (g := 68) rfl rfl rfl ?_
      refine .w (.as (v' := acV (awA 5 D0)) (.bd bld_41) rfl) ?_
      refine .gt (g := 68) rfl rfl rfl ?_
      refine .w (.lda agg_24 rfl) ?_
      refine .gt (g := 68) rfl rfl rfl ?_
      refine .w (.as (v' := acV (awA 3 (dg1 1))) (.bd bld_41) rfl) ?_
      refine .gt (g := 68) rfl rfl rfl ?_
      refine .ls Tryd.underlying31 info_41 (fun v73 => ?_) (hsz := (by intro v hv; simp only [List.mem_cons, List.not_mem_nil, or_false] at hv; rcases hv with rfl | rfl <;> exact acV_size _))
      refine .gt (g := 68) rfl rfl rfl ?_
      refine .c (f24_spec _ _ [awA 5 D0, awA 3 (dg1 1)] [awA 5 D0, awA 3 (dg1 1)] (by decide)) body_24 ?_
      refine .w (.pick1 rfl rfl rfl) ?_
      refine .w (.move rfl) ?_
      refine .gt (g := 76) rfl rfl rfl ?_
      refine .w (.move rfl) ?_
      refine .gt (g := 76) rfl rfl rfl ?_
      refine .w (.lda agg_24 rfl) ?_
      refine .gt (g := 76) rfl rfl rfl ?_
      refine .w (.as (v' := acV (awA 7 (dg1 1))) (.bd bld_41) rfl) ?_
      refine .gt (g := 76) rfl rfl rfl ?_
      refine .ls Tryd.underlying31 info_41 (fun v80 => ?_) (hsz := (by intro v hv; simp only [List.mem_cons, List.not_mem_nil, or_false] at hv; rcases hv with rfl | rfl <;> exact acV_size _))
      refine .gt (g := 76) rfl rfl rfl ?_
      refine .c (f24_spec _ _ [awA 7 (dg1 1)] [awA 7 (dg1 1)] (by decide)) body_24 ?_
      refine .w (.pick1 rfl rfl rfl) ?_
      refine .w (.assign rfl) ?_
      refine .nil (.tn (.ret ?_))
      exact .dn [] [] (res1 rfl (.tmp rfl)) ⟨rfl, rfl, rfl⟩
end Go.Proofs.YtncececcopalgaaDoor
