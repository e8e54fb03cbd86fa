/- Walks: numbers of four words; products; what is more than a third, two thirds; a tally. -/
import Derived.Test.YtmbpngnamnoiaaaDoorV15
import Derived.Test.YtmbpngnamnoiaaaDoorB
namespace Go.Proofs.YtmbpngnamnoiaaaDoor
open Go.RowKit
set_option maxRecDepth 100000
set_option linter.unusedVariables false
set_option linter.unusedSimpArgs false
theorem eql_nat {x y : Operand} {us vs : List W64} (ha : us.length = 4) (hb : vs.length = 4) : BinR Tryd.prog .eql 60 x y (.agg (us.map u64).toArray) (.agg (vs.map u64).toArray) (.bool (decide (us = vs))) :=
  BinR.eql_arr (f := u64) (g := fun x => (x.toNat : Int)) (k := .u64) Tryd.underlying60 Tryd.underlying34 sz_34 (by kernel_rfl) (fun _ => rfl) (fun x y h => BitVec.eq_of_toNat_eq (by exact Int.ofNat.inj h)) us vs ha hb
theorem neq_nat {x y : Operand} {us vs : List W64} (ha : us.length = 4) (hb : vs.length = 4) : BinR Tryd.prog .neq 60 x y (.agg (us.map u64).toArray) (.agg (vs.map u64).toArray) (.bool (!decide (us = vs))) :=
  BinR.neq_arr (f := u64) (g := fun x => (x.toNat : Int)) (k := .u64) Tryd.underlying60 Tryd.underlying34 sz_34 (by kernel_rfl) (fun _ => rfl) (fun x y h => BitVec.eq_of_toNat_eq (by exact Int.ofNat.inj h)) us vs ha hb

theorem f42_spec (a b : Nat) (ha : a < 115792089237316195423570985008687907853269984665640564039457584007913129639936) (hb : b < 115792089237316195423570985008687907853269984665640564039457584007913129639936) :
    Spec Tryd.prog 42 #[(.agg ((wd a).map u64).toArray), (.agg ((wd b).map u64).toArray)] [] []
      (fun r Γ' H' => r = (.tuple #[.agg ((wd (a + b)).map u64).toArray, u64 (BitVec.ofNat 64 ((a + b) / 115792089237316195423570985008687907853269984665640564039457584007913129639936))]) ∧ Γ' = [] ∧ H' = []) := by
  refine Spec.of_args Tryd.func42 rfl Tryd.ntmps42 (by simp) fun w => ?_
  refine .seq (.region ?_)
  refine .bx fun b2 => ?_
  refine .bx fun b3 => ?_
  refine .al zero_60 fun b4 => ?_
  refine .w (.as (v' := u64 (cry a b 0)) (.assign rfl) (by rw [cry_0]; rfl)) ?_
  refine .nil (.tn (.seq (.seq (.region ?_))))
  refine .w (.move rfl) ?_
  refine .nil (.tn (.block ?_))
  refine .lp (ι := Nat) (fun x => x ≤ 4) (fun T x => (2, ptr b2 0) :: (3, ptr b3 0) :: (4, ptr b4 0) :: (5, u64 (cry a b x)) :: (7, it (x : Int)) :: T) (fun T _ => T) (fun T x => Res.cells b2 ((wd a).map u64) 60 :: Res.cells b3 ((wd b).map u64) 60 :: Res.cells b4 (tw (wat (a + b)) x) 60 :: T) (fun x => 4 - x) 0 [24, 25] ?_ (fun x hx => ?_)
  · exact Nat.zero_le _
  refine .seq (.region ?_)
  refine .w (.bin rfl rfl BinR.lss_i) ?_
  refine .nil (.tn (.seq ?_))
  refine .cn rfl (fun hc1 => ?_) (fun hc1 => ?_)
  · refine .skip (.tn (.seq (.block (.seq (.region ?_)))))
    refine .w (.move rfl) ?_
    refine .w (.assign rfl) ?_
    refine .nil (.tn ?_)
    refine JC.draw (.one 0 (.one 1 (.one 2 (.one 3 (.one 4 (.one 5 (.one 6 (.one 7 (.one 8 (.one 9 (.one 10 (.one 11 (.one 12 (.one 13 (.one 14 .nil))))))))))))))) (fun i => ([13] : List Nat).contains i) (fun i => ([13] : List Nat).contains i) (fun i => ([0, 1, 2, 4, 5, 7, 8, 9, 10, 11, 12, 14] : List Nat).contains i) mixed (by kernel_rfl) (by decide) (by kernel_rfl) ?_
    refine .uw rfl (.move rfl) ?_
    refine .uw rfl (.move rfl) ?_
    refine .uw rfl (.ixA Tryd.underlying60 sz_34 rfl rfl) ?_
    refine .w rfl (.ld one_34 rfl (hj := by first | exact wd_get _ (by omega) | rfl | exact tab_get (by first | omega | (simp; omega)) | exact gm (d := 0) (by first | omega | (simp; omega)))) ?_
    refine .uw rfl (.move rfl) ?_
    refine .uw rfl (.ixA Tryd.underlying60 sz_34 rfl rfl) ?_
    refine .w rfl (.ld one_34 rfl (hj := by first | exact wd_get _ (by omega) | rfl | exact tab_get (by first | omega | (simp; omega)) | exact gm (d := 0) (by first | omega | (simp; omega)))) ?_
    refine .uw rfl (.move rfl) ?_
    refine .uw rfl (.as (v' := .tuple #[u64 (wat (a + b) x), u64 (cry a b (x + 1))]) (.ext rfl (ext_47 _ _ _ (cry_le _ _ _))) (by rw [add_word a b (by omega), add_cry a b (by omega)])) ?_
    refine .uw rfl (.move rfl) ?_
    refine .uw rfl (.as (v' := u64 (wat (a + b) x)) (.extract rfl rfl) rfl) ?_
    refine .uw rfl (.as (v' := u64 (cry a b (x + 1))) (.extract rfl rfl) rfl) ?_
    refine .uw rfl (.ixA Tryd.underlying60 sz_34 rfl rfl) ?_
    first | refine .mw0 rfl (.s1 sz_34) ?_ | refine .mw0 rfl (.sr1 sz_34) ?_
    rintro _ _ _ ⟨rfl, rfl⟩
    refine kp ?_
    refine .uw rfl (.assign rfl) ?_
    refine .nil (.block_normal (.tn (.region ?_)))
    refine .w (.bin rfl rfl (BinR.add_i (by first | (constructor <;> omega) | (constructor <;> simp <;> omega)))) ?_
    refine .w (.move rfl) ?_
    refine .nil ?_
    rw [tw_set]
    refine .hd (x + 1) ?_
    exact ⟨by omega, by omega⟩
  · obtain rfl : x = 4 := by omega
    rw [tw_4]
    refine .exit (.then_exit (.then_exit (.block_exit (.tn (.seq (.region ?_))))))
    refine .w (.lda agg_60 rfl) ?_
    refine .w (.as (v' := u64 (BitVec.ofNat 64 ((a + b) / 115792089237316195423570985008687907853269984665640564039457584007913129639936))) (.move rfl) (congrArg u64 (cry_4 ha hb))) ?_
    first | refine .sa sz_60 ?_ | refine .so sz_60 ?_ | refine .sr sz_60 ?_
    refine .w (.assign rfl) ?_
    refine .nil (.tn (.ret ?_))
    exact .dn [] [] (res2 rfl (.cl agg_60) (.tmp rfl)) ⟨rfl, rfl, rfl⟩

theorem f31_spec (a b : Nat) (ha : a < 115792089237316195423570985008687907853269984665640564039457584007913129639936) (hb : b < 115792089237316195423570985008687907853269984665640564039457584007913129639936) :
    Spec Tryd.prog 31 #[(.agg ((wd a).map u64).toArray), (.agg ((wd b).map u64).toArray)] [] []
      (fun r Γ' H' => r = (it (cmpN a b)) ∧ Γ' = [] ∧ H' = []) := by
  refine Spec.of_args Tryd.func31 rfl Tryd.ntmps31 (by simp) fun w => ?_
  refine .seq (.region ?_)
  refine .bx fun b2 => ?_
  refine .bx fun b3 => ?_
  refine .w (.assign rfl) ?_
  refine .nil (.tn (.scope (.seq (.region ?_))))
  refine .w (.assign rfl) ?_
  refine .nil (.tn (.seq (.label (.tn (.seq (.seq (.region ?_)))))))
  refine .w (.move rfl) ?_
  refine .nil (.tn (.block ?_))
  refine .lp (ι := Nat) (fun x => x ≤ 4 ∧ a / pw (4 - x) = b / pw (4 - x)) (fun T x => (2, ptr b2 0) :: (3, ptr b3 0) :: (5, it 0) :: (8, it (x : Int)) :: T) (fun T _ => T) (fun T x => Res.cells b2 ((wd a).map u64) 60 :: Res.cells b3 ((wd b).map u64) 60 :: T) (fun x => 4 - x) 0 [4, 30] ?_ (fun x hx => ?_)
  · exact ⟨Nat.zero_le _, by show a / pw 4 = b / pw 4; rw [pw_4, Nat.div_eq_of_lt ha, Nat.div_eq_of_lt hb]⟩
  refine .seq (.region ?_)
  refine .w (.bin rfl rfl BinR.lss_i) ?_
  refine .nil (.tn (.seq ?_))
  refine .cn rfl (fun hc1 => ?_) (fun hc1 => ?_)
  · refine .skip (.tn (.seq (.block (.seq (.region ?_)))))
    refine .w (.move rfl) ?_
    refine .w (.assign rfl) ?_
    refine .nil (.tn (.seq (.region ?_)))
    refine .w (.move rfl) ?_
    refine .w (.asI ((3 - x : Nat) : Int) (.bin rfl rfl (BinR.sub_i (by first | (constructor <;> omega) | (constructor <;> simp <;> omega))))) ?_
    refine .w (.assign rfl) ?_
    refine .nil (.tn (.block (.seq ?_)))
    refine JC.draw (.one 0 (.one 1 (.one 2 (.one 3 (.one 4 (.one 5 (.one 6 (.one 7 .nil)))))))) (fun i => ([] : List Nat).contains i) (fun i => ([] : List Nat).contains i) (fun i => ([0, 1, 3, 4, 6, 7] : List Nat).contains i) mixed (by kernel_rfl) (by decide) (by kernel_rfl) ?_
    refine .uw rfl (.move rfl) ?_
    refine .uw rfl (.ixA Tryd.underlying60 sz_34 rfl rfl) ?_
    refine .w rfl (.ld one_34 rfl (hj := by first | exact wd_get _ (by omega) | rfl | exact tab_get (by first | omega | (simp; omega)) | exact gm (d := 0) (by first | omega | (simp; omega)))) ?_
    refine .uw rfl (.move rfl) ?_
    refine .uw rfl (.ixA Tryd.underlying60 sz_34 rfl rfl) ?_
    refine .w rfl (.ld one_34 rfl (hj := by first | exact wd_get _ (by omega) | rfl | exact tab_get (by first | omega | (simp; omega)) | exact gm (d := 0) (by first | omega | (simp; omega)))) ?_
    refine .uw rfl (.bin rfl rfl (BinR.lss_u64)) ?_
    refine .uw rfl (.assign rfl) ?_
    refine .nil (.tn ?_)
    refine .cn rfl (fun hc2 => ?_) (fun hc2 => ?_)
    · have hres : cmpN a b = -1 := by simp [cmpN, cmp_step (by omega) hx.2 hc2]
      refine .seq (.region ?_)
      refine .w (.assign rfl) ?_
      refine .nil (.tn (.exit (.block_other (by decide) (.block_other (by decide) (.then_exit (.then_exit (.block_exit (.tn (.seq (.region ?_))))))))))
      refine .w (.as (v' := it (cmpN a b)) (.move rfl) (congrArg it hres.symm)) ?_
      refine .w (.assign rfl) ?_
      refine .nil (.tn (.ret (.scope_ret ?_)))
      exact .dn [] [] (res1 rfl (.tmp rfl)) ⟨rfl, rfl, rfl⟩
    · refine .seq ?_
      refine JC.draw (.one 0 (.one 1 (.one 2 (.one 3 (.one 4 (.one 5 (.one 6 (.one 7 .nil)))))))) (fun i => ([] : List Nat).contains i) (fun i => ([] : List Nat).contains i) (fun i => ([0, 1, 3, 4, 6, 7] : List Nat).contains i) mixed (by kernel_rfl) (by decide) (by kernel_rfl) ?_
      refine .uw rfl (.move rfl) ?_
      refine .uw rfl (.ixA Tryd.underlying60 sz_34 rfl rfl) ?_
      refine .w rfl (.ld one_34 rfl (hj := by first | exact wd_get _ (by omega) | rfl | exact tab_get (by first | omega | (simp; omega)) | exact gm (d := 0) (by first | omega | (simp; omega)))) ?_
      refine .uw rfl (.move rfl) ?_
      refine .uw rfl (.ixA Tryd.underlying60 sz_34 rfl rfl) ?_
      refine .w rfl (.ld one_34 rfl (hj := by first | exact wd_get _ (by omega) | rfl | exact tab_get (by first | omega | (simp; omega)) | exact gm (d := 0) (by first | omega | (simp; omega)))) ?_
      refine .uw rfl (.bin rfl rfl (BinR.gtr_u64)) ?_
      refine .uw rfl (.assign rfl) ?_
      refine .nil (.tn ?_)
      refine .cn rfl (fun hc3 => ?_) (fun hc3 => ?_)
      · have hres : cmpN a b = 1 := by have h := cmp_step (by omega) hx.2.symm hc3; rw [cmpN, if_neg (by omega), if_pos h]
        refine .seq (.region ?_)
        refine .w (.assign rfl) ?_
        refine .nil (.tn (.exit (.block_other (by decide) (.block_other (by decide) (.then_exit (.then_exit (.block_exit (.tn (.seq (.region ?_))))))))))
        refine .w (.as (v' := it (cmpN a b)) (.move rfl) (congrArg it hres.symm)) ?_
        refine .w (.assign rfl) ?_
        refine .nil (.tn (.ret (.scope_ret ?_)))
        exact .dn [] [] (res1 rfl (.tmp rfl)) ⟨rfl, rfl, rfl⟩
      · refine .skip (.block_normal (.block_normal (.tn (.region ?_))))
        refine .w (.bin rfl rfl (BinR.add_i (by first | (constructor <;> omega) | (constructor <;> simp <;> omega)))) ?_
        refine .w (.move rfl) ?_
        refine .nil ?_
        refine .hd (x + 1) ?_
        exact ⟨⟨by omega, cmp_next (by omega) hx.2 hc2 (by omega)⟩, by omega⟩
  · obtain rfl : x = 4 := by omega
    have hres : cmpN a b = 0 := by have h := hx.2; simp only [Nat.sub_self, pw_0, Nat.div_one] at h; simp [cmpN, h]
    refine .exit (.then_exit (.then_exit (.block_exit (.tn (.seq (.region ?_))))))
    refine .w (.as (v' := it (cmpN a b)) (.move rfl) (congrArg it hres.symm)) ?_
    refine .w (.assign rfl) ?_
    refine .nil (.tn (.ret (.scope_ret ?_)))
    exact .dn [] [] (res1 rfl (.tmp rfl)) ⟨rfl, rfl, rfl⟩

theorem f46_spec (x y : W64) :
    Spec Tryd.prog 46 #[u64 x, u64 y] [] []
      (fun r Γ' H' => r = (.tuple #[u64 (BitVec.ofNat 64 (x.toNat * y.toNat / 18446744073709551616)), u64 (x * y)]) ∧ Γ' = [] ∧ H' = []) := by
  refine Spec.of_args Tryd.func46 rfl Tryd.ntmps46 (by simp) fun w => ?_
  refine .seq (.region ?_)
  refine .w (.assign rfl) ?_
  refine .w (.assign rfl) ?_
  refine .nil (.tn (.seq (.region ?_)))
  refine .w (.move rfl) ?_
  refine .w (.bin rfl rfl (BinR.and_u64 (b := 4294967295#64))) ?_
  refine .w (.assign rfl) ?_
  refine .nil (.tn (.seq (.region ?_)))
  refine .w (.move rfl) ?_
  refine .w (.bin rfl rfl (BinR.shr_u64_u64 (n := 32#64))) ?_
  refine .w (.assign rfl) ?_
  refine .nil (.tn (.seq (.region ?_)))
  refine .w (.move rfl) ?_
  refine .w (.bin rfl rfl (BinR.and_u64 (b := 4294967295#64))) ?_
  refine .w (.assign rfl) ?_
  refine .nil (.tn (.seq (.region ?_)))
  refine .w (.move rfl) ?_
  refine .w (.bin rfl rfl (BinR.shr_u64_u64 (n := 32#64))) ?_
  refine .w (.assign rfl) ?_
  refine .nil (.tn (.seq (.region ?_)))
  refine .w (.move rfl) ?_
  refine .w (.move rfl) ?_
  refine .w (.bin rfl rfl (BinR.mul_u64)) ?_
  refine .w (.assign rfl) ?_
  refine .nil (.tn (.seq (.region ?_)))
  refine .w (.move rfl) ?_
  refine .w (.move rfl) ?_
  refine .w (.bin rfl rfl (BinR.mul_u64)) ?_
  refine .w (.move rfl) ?_
  refine .w (.bin rfl rfl (BinR.shr_u64_u64 (n := 32#64))) ?_
  refine .w (.bin rfl rfl (BinR.add_u64)) ?_
  refine .w (.assign rfl) ?_
  refine .nil (.tn (.seq (.region ?_)))
  refine .w (.move rfl) ?_
  refine .w (.bin rfl rfl (BinR.and_u64 (b := 4294967295#64))) ?_
  refine .w (.assign rfl) ?_
  refine .nil (.tn (.seq (.region ?_)))
  refine .w (.move rfl) ?_
  refine .w (.bin rfl rfl (BinR.shr_u64_u64 (n := 32#64))) ?_
  refine .w (.assign rfl) ?_
  refine .nil (.tn (.seq (.region ?_)))
  refine .w (.move rfl) ?_
  refine .w (.move rfl) ?_
  refine .w (.move rfl) ?_
  refine .w (.bin rfl rfl (BinR.mul_u64)) ?_
  refine .w (.bin rfl rfl (BinR.add_u64)) ?_
  refine .w (.assign rfl) ?_
  refine .nil (.tn (.seq (.region ?_)))
  refine .w (.move rfl) ?_
  refine .w (.move rfl) ?_
  refine .w (.bin rfl rfl (BinR.mul_u64)) ?_
  refine .w (.move rfl) ?_
  refine .w (.bin rfl rfl (BinR.add_u64)) ?_
  refine .w (.move rfl) ?_
  refine .w (.bin rfl rfl (BinR.shr_u64_u64 (n := 32#64))) ?_
  refine .w (.bin rfl rfl (BinR.add_u64)) ?_
  refine .w (.as (v' := u64 (BitVec.ofNat 64 (x.toNat * y.toNat / 18446744073709551616))) (.assign rfl) (congrArg u64 (mul64 x y))) ?_
  refine .nil (.tn (.seq (.region ?_)))
  refine .w (.move rfl) ?_
  refine .w (.move rfl) ?_
  refine .w (.bin rfl rfl (BinR.mul_u64)) ?_
  refine .w (.assign rfl) ?_
  refine .nil (.tn (.ret ?_))
  exact .dn [] [] (res2 rfl (.tmp rfl) (.tmp rfl)) ⟨rfl, rfl, rfl⟩

theorem f30_spec (v : Value) (l : List W64) :
    Spec Tryd.prog 30 #[v] [Res.rd v l.length 1 (l.map u64)] []
      (fun r Γ' H' => r = (.agg ((wd (totN l)).map u64).toArray) ∧ Γ' = [] ∧ H' = []) := by
  refine Spec.of_args Tryd.func30 rfl Tryd.ntmps30 (by simp) fun w => ?_
  refine JC.know (φ := l.length ≤ 9223372036854775807) (fun w hs => by obtain ⟨_, _, _, _, _, _, h⟩ := hs.rdForm (.head _); unfold maxLen at h; omega) fun hll => ?_
  refine .seq (.region ?_)
  refine .al zero_60 fun b2 => ?_
  refine .nil (.tn (.seq (.region ?_)))
  refine .al zero_60 fun b3 => ?_
  refine .nil (.tn (.seq (.seq (.region ?_))))
  refine .w (.move rfl) ?_
  refine .w (.len Tryd.underlying22 rfl) ?_
  refine .w (.move rfl) ?_
  refine .nil (.tn (.block ?_))
  refine .lp (ι := Nat) (fun x => x ≤ l.length) (fun T x => (2, ptr b2 0) :: (3, ptr b3 0) :: (6, v) :: (7, it (l.length : Int)) :: (8, it (x : Int)) :: T) (fun T x => Res.rd v l.length 1 (l.map u64) :: T) (fun T x => Res.cells b2 ((wd 0).map u64) 60 :: Res.cells b3 ((wd (totN (l.take x))).map u64) 60 :: T) (fun x => l.length - x) 0 [20] ?_ (fun x hx => ?_) (hH := (by rw [tot_0]; repeat (first | exact Picks.nil _ | apply Picks.cons | exact Pull.here _ _ | apply Pull.there)))
  · exact Nat.zero_le _
  refine .seq (.region ?_)
  refine .w (.bin rfl rfl BinR.lss_i) ?_
  refine .nil (.tn (.seq ?_))
  refine .cn rfl (fun hc1 => ?_) (fun hc1 => ?_)
  · refine .skip (.tn (.seq (.block (.seq (.region ?_)))))
    refine .w (.ix1 Tryd.underlying22 sz_34 rfl rfl) ?_
    refine .w (.ld one_34 rfl) ?_
    refine .w (.assign rfl) ?_
    refine .nil (.tn (.region ?_))
    refine .w (.lda agg_60 rfl) ?_
    refine .w (.move rfl) ?_
    refine .w (.as (v' := .agg ((wd (l.getD x 0).toNat).map u64).toArray) (.build bld_60 rfl rfl) (by rw [wd_small]; rfl)) ?_
    refine .c (f42_spec (totN (l.take x)) (l.getD x 0).toNat (tot_lt _) (w_lt _)) body_42 ?_
    rw [tot_succ (by omega)]
    refine .w (.move rfl) ?_
    refine .w (.as (v' := .agg ((wd (totN (l.take (x + 1)))).map u64).toArray) (.extract rfl rfl) rfl) ?_
    refine .w (.extract rfl rfl) ?_
    first | refine .sa sz_60 ?_ | refine .so sz_60 ?_ | refine .sr sz_60 ?_
    refine .nil (.block_normal (.tn (.region ?_)))
    refine .w (.asI ((x + 1 : Nat) : Int) (.bin rfl rfl (BinR.add_i (by first | (constructor <;> omega) | (constructor <;> simp <;> omega))))) ?_
    refine .w (.move rfl) ?_
    refine .nil ?_
    refine .hd (x + 1) ?_
    exact ⟨by omega, by omega⟩
  · obtain rfl : x = l.length := by omega
    rw [List.take_length]
    refine .exit (.then_exit (.then_exit (.block_exit (.tn (.seq (.region ?_))))))
    refine .w (.lda agg_60 rfl) ?_
    first | refine .sa sz_60 ?_ | refine .so sz_60 ?_ | refine .sr sz_60 ?_
    refine .nil (.tn (.ret ?_))
    exact .dn [] [] (res1 rfl (.cl agg_60)) ⟨rfl, rfl, rfl⟩

theorem f38_spec (a b : Nat) (ha : a < 115792089237316195423570985008687907853269984665640564039457584007913129639936) (hb : b < 115792089237316195423570985008687907853269984665640564039457584007913129639936) :
    Spec Tryd.prog 38 #[(.agg ((wd a).map u64).toArray), (.agg ((wd b).map u64).toArray)] [] []
      (fun r Γ' H' => r = (.agg ((wd8 (a * b)).map u64).toArray) ∧ Γ' = [] ∧ H' = []) := by
  refine Spec.of_args Tryd.func38 rfl Tryd.ntmps38 (by simp) fun w => ?_
  refine .seq (.region ?_)
  refine .bx fun b2 => ?_
  refine .bx fun b3 => ?_
  refine .al zero_75 fun b4 => ?_
  refine .nil (.tn (.seq (.region ?_)))
  refine .al zero_75 fun b5 => ?_
  refine .nil (.tn (.seq (.seq (.region ?_))))
  refine .w (.lda agg_60 rfl) ?_
  refine .w (.move rfl) ?_
  refine .nil (.tn (.block ?_))
  refine .lp (ι := Nat × List W64) (fun x => x.1 ≤ 4 ∧ x.2.length = 8 ∧ val x.2 = (a % pw x.1) * b ∧ ∀ k, x.1 + 4 ≤ k → k < 8 → x.2.getD k 0 = 0) (fun T x => (15, it (x.1 : Int)) :: T) (fun T _ => T) (fun T x => Res.cells b5 (x.2.map u64) 75 :: T) (fun x => 4 - x.1) (0, List.replicate 8 0) [3, 4, 5, 14, 63] ?_ (fun x hx => ?_)
  · exact ⟨by decide, rfl, by simp [pw_0, Nat.mod_one, val, List.replicate], fun k _ h => by rw [List.getD_eq_getElem?_getD, List.getElem?_replicate, if_pos h]; rfl⟩
  obtain ⟨i, ws⟩ := x
  obtain ⟨hi, hw1, hw2, hw3⟩ := hx
  dsimp only at hi hw1 hw2 hw3 ⊢
  refine .seq (.region ?_)
  refine .w (.bin rfl rfl BinR.lss_i) ?_
  refine .nil (.tn (.seq ?_))
  refine .cn rfl (fun hc1 => ?_) (fun hc1 => ?_)
  · skip
    refine .skip (.tn (.seq (.block (.seq (.region ?_)))))
    refine .w (.move rfl) ?_
    refine .w (.as (v' := u64 (wat a i)) (.indexAgg Tryd.underlying60 Tryd.underlying34 sz_34 rfl rfl (by first | exact ltb rfl | (simp; done) | (simp; omega) | omega | (simp [*]; omega)) (by first | rfl | exact gm (d := 0) (by first | omega | (simp; omega)))) rfl) ?_
    refine .w (.assign rfl) ?_
    refine .w (.assign rfl) ?_
    refine .nil (.tn (.seq (.region ?_)))
    refine .w (.assign rfl) ?_
    refine .nil (.tn (.seq (.seq (.region ?_))))
    refine .w (.lda agg_60 rfl) ?_
    refine .w (.move rfl) ?_
    refine .nil (.tn (.block ?_))
    refine .lp (ι := Nat × W64 × List W64) (fun x => x.1 ≤ 4 ∧ MulI a b i x.1 x.2.1 x.2.2) (fun T x => (20, it (x.1 : Int)) :: (8, u64 x.2.1) :: T) (fun T _ => T) (fun T x => Res.cells b5 (x.2.2.map u64) 75 :: T) (fun x => 4 - x.1) (0, 0, ws) [3, 4, 5, 6, 7, 14, 15, 16, 17, 18, 19, 58, 59, 60, 61, 62, 63] ?_ (fun x hx => ?_)
    · exact ⟨Nat.zero_le _, MulI.start a b hw1 hw2 hw3⟩
    clear hw1 hw2 hw3
    obtain ⟨j, c, ws⟩ := x
    obtain ⟨hj, hI⟩ := hx
    dsimp only at hj hI ⊢
    have hw1 := hI.1
    refine .seq (.region ?_)
    refine .w (.bin rfl rfl BinR.lss_i) ?_
    refine .nil (.tn (.seq ?_))
    refine .cn rfl (fun hc2 => ?_) (fun hc2 => ?_)
    · skip
      refine .skip (.tn (.seq (.block (.seq (.region ?_)))))
      refine .w (.move rfl) ?_
      refine .w (.as (v' := u64 (wat b j)) (.indexAgg Tryd.underlying60 Tryd.underlying34 sz_34 rfl rfl (by first | exact ltb rfl | (simp; done) | (simp; omega) | omega | (simp [*]; omega)) (by first | rfl | exact gm (d := 0) (by first | omega | (simp; omega)))) rfl) ?_
      refine .w (.assign rfl) ?_
      refine .w (.assign rfl) ?_
      refine .nil (.tn (.seq (.region ?_)))
      refine .w (.move rfl) ?_
      refine .w (.move rfl) ?_
      refine .c (f46_spec (wat a i) (wat b j)) body_46 ?_
      refine .w (.move rfl) ?_
      refine .w (.as (v' := u64 (BitVec.ofNat 64 ((wat a i).toNat * (wat b j).toNat / 18446744073709551616))) (.extract rfl rfl) rfl) ?_
      refine .w (.as (v' := u64 (wat a i * wat b j)) (.extract rfl rfl) rfl) ?_
      refine .w (.assign rfl) ?_
      refine .w (.assign rfl) ?_
      refine .nil (.tn (.seq (.region ?_)))
      refine .w (.assign rfl) ?_
      refine .nil (.tn (.seq (.region ?_)))
      refine .w (.move rfl) ?_
      refine .w (.move rfl) ?_
      refine .w (.move rfl) ?_
      refine .w (.asI ((i + j : Nat) : Int) (.bin rfl rfl (BinR.add_i (by first | (constructor <;> omega) | (constructor <;> simp <;> omega))))) ?_
      refine .w (.ixA Tryd.underlying75 sz_34 rfl rfl) ?_
      refine .w (.ld one_34 rfl (hj := by exact gm (d := 0) (by omega))) ?_
      refine .w (.ext rfl (ext_47 _ _ 0#64 (by decide))) ?_
      refine .w (.move rfl) ?_
      refine .w (.as (v' := u64 (wat a i * wat b j + (ws.getD (i + j) 0) + 0#64)) (.extract rfl rfl) rfl) ?_
      refine .w (.as (v' := u64 (BitVec.ofNat 64 (((wat a i * wat b j).toNat + (ws.getD (i + j) 0).toNat + (0#64).toNat) / 18446744073709551616))) (.extract rfl rfl) rfl) ?_
      refine .w (.assign rfl) ?_
      refine .w (.assign rfl) ?_
      refine .nil (.tn (.seq (.region ?_)))
      refine .w (.move rfl) ?_
      refine .w (.move rfl) ?_
      refine .w (.bin rfl rfl (BinR.add_u64)) ?_
      refine .w (.assign rfl) ?_
      refine .nil (.tn (.seq (.region ?_)))
      refine .w (.move rfl) ?_
      refine .w (.move rfl) ?_
      refine .w (.ext rfl (ext_47 _ _ 0#64 (by decide))) ?_
      refine .w (.move rfl) ?_
      refine .w (.as (v' := u64 (mlo (wat a i) (wat b j) (ws.getD (i + j) 0) c)) (.extract rfl rfl) (congrArg u64 (mlo_eq _ _ _ _))) ?_
      refine .w (.as (v' := u64 (BitVec.ofNat 64 (((wat a i * wat b j + (ws.getD (i + j) 0) + 0#64).toNat + c.toNat + (0#64).toNat) / 18446744073709551616))) (.extract rfl rfl) rfl) ?_
      refine .w (.assign rfl) ?_
      refine .w (.assign rfl) ?_
      refine .nil (.tn (.region ?_))
      refine .w (.move rfl) ?_
      refine .w (.move rfl) ?_
      refine .w (.asI ((i + j : Nat) : Int) (.bin rfl rfl (BinR.add_i (by first | (constructor <;> omega) | (constructor <;> simp <;> omega))))) ?_
      refine .w (.move rfl) ?_
      refine .w (.move rfl) ?_
      refine .w (.move rfl) ?_
      refine .w (.as (v' := u64 (mhi (wat a i) (wat b j) (ws.getD (i + j) 0) c)) (.bin rfl rfl (BinR.add_u64)) (congrArg u64 (mhi_eq _ _ _ _))) ?_
      refine .w (.ixA Tryd.underlying75 sz_34 rfl rfl) ?_
      first | refine .s1 sz_34 ?_ | refine .sr1 sz_34 ?_
      refine .w (.assign rfl) ?_
      refine .nil (.block_normal (.tn (.region ?_)))
      refine .w (.asI ((j + 1 : Nat) : Int) (.bin rfl rfl (BinR.add_i (by first | (constructor <;> omega) | (constructor <;> simp <;> omega))))) ?_
      refine .w (.move rfl) ?_
      refine .nil ?_
      rw [← List.map_set]
      refine .hd (j + 1, mhi (wat a i) (wat b j) (ws.getD (i + j) 0) c, ws.set (i + j) (mlo (wat a i) (wat b j) (ws.getD (i + j) 0) c)) ?_
      exact ⟨⟨by dsimp only; omega, hI.step (by omega) (by omega)⟩, by dsimp only; omega⟩
    · obtain rfl : j = 4 := by omega
      refine .exit (.then_exit (.then_exit (.block_exit (.tn (.region ?_)))))
      refine .w (.move rfl) ?_
      refine .w (.asI ((i + 4 : Nat) : Int) (.bin rfl rfl (BinR.add_i (by first | (constructor <;> omega) | (constructor <;> simp <;> omega))))) ?_
      refine .w (.move rfl) ?_
      refine .w (.ixA Tryd.underlying75 sz_34 rfl rfl) ?_
      first | refine .s1 sz_34 ?_ | refine .sr1 sz_34 ?_
      refine .nil (.block_normal (.tn (.region ?_)))
      refine .w (.asI ((i + 1 : Nat) : Int) (.bin rfl rfl (BinR.add_i (by first | (constructor <;> omega) | (constructor <;> simp <;> omega))))) ?_
      refine .w (.move rfl) ?_
      refine .nil ?_
      rw [← List.map_set]
      refine .hd (i + 1, ws.set (i + 4) c) ?_
      exact ⟨⟨by dsimp only; omega, (hI.row hb (by omega)).1, (hI.row hb (by omega)).2.1, (hI.row hb (by omega)).2.2⟩, by dsimp only; omega⟩
  · obtain rfl : i = 4 := by omega
    obtain rfl : ws = wd8 (a * b) := by rw [val_wd8 hw1, hw2, pw_4, Nat.mod_eq_of_lt ha]
    refine .exit (.then_exit (.then_exit (.block_exit (.tn (.seq (.region ?_))))))
    refine .w (.lda agg_75 rfl) ?_
    first | refine .sa sz_75 ?_ | refine .so sz_75 ?_ | refine .sr sz_75 ?_
    refine .nil (.tn (.ret ?_))
    exact .dn [] [] (res1 rfl (.cl agg_75)) ⟨rfl, rfl, rfl⟩

theorem f20_spec (px al : W64) :
    Spec Tryd.prog 20 #[u64 px, u64 al] [] []
      (fun r Γ' H' => r = (.bool (decide (2 * al.toNat < 3 * px.toNat))) ∧ Γ' = [] ∧ H' = []) := by
  refine Spec.of_args Tryd.func20 rfl Tryd.ntmps20 (by simp) fun w => ?_
  refine .seq (.region ?_)
  refine .w (.assign rfl) ?_
  refine .nil (.tn (.seq (.region ?_)))
  refine .w (.move rfl) ?_
  refine .w (.as (v' := .agg ((wd px.toNat).map u64).toArray) (.build bld_60 rfl rfl) (by rw [wd_small]; rfl)) ?_
  refine .w (.as (v' := .agg ((wd 3).map u64).toArray) (.build bld_60 rfl rfl) rfl) ?_
  refine .c (f38_spec px.toNat 3 (w_lt _) (by decide)) body_38 ?_
  refine .w (.move rfl) ?_
  refine .w (.as (v' := .agg ((wd al.toNat).map u64).toArray) (.build bld_60 rfl rfl) (by rw [wd_small]; rfl)) ?_
  refine .w (.as (v' := .agg ((wd 2).map u64).toArray) (.build bld_60 rfl rfl) rfl) ?_
  refine .c (f38_spec al.toNat 2 (w_lt _) (by decide)) body_38 ?_
  refine .al zero_75 fun b5 => ?_
  refine .al zero_75 fun b6 => ?_
  first | refine .sa sz_75 ?_ | refine .so sz_75 ?_ | refine .sr sz_75 ?_
  first | refine .sa sz_75 ?_ | refine .so sz_75 ?_ | refine .sr sz_75 ?_
  refine .nil (.tn (.seq ?_))
  refine JC.draw (.one 0 (.one 1 (.one 2 (.one 3 (.one 4 (.one 5 (.one 6 (.one 7 (.one 8 .nil))))))))) (fun i => ([6] : List Nat).contains i) (fun i => ([6] : List Nat).contains i) (fun i => ([0, 1, 3, 4, 7, 8] : List Nat).contains i) mixed (by kernel_rfl) (by decide) (by kernel_rfl) ?_
  refine .uw rfl (.cutArr (l := 0) (h := 4) Tryd.underlying75 sz_34 rfl rfl ⟨_, rfl⟩ (by first | exact ltb rfl | (simp; done) | (simp; omega) | omega | (simp [*]; omega)) (by first | exact ltb rfl | (simp; done) | (simp; omega) | omega | (simp [*]; omega)) (by first | exact ltb rfl | (simp; done) | (simp; omega) | omega | (simp [*]; omega))) ?_
  refine .uw rfl (.s2a Tryd.underlying60 rfl (by decide)) ?_
  refine .w rfl (.as (v' := .agg ((wd (px.toNat * 3)).map u64).toArray) (.lda agg_60 rfl) (congrArg (fun l : List Value => Value.agg l.toArray) (by rw [List.drop_zero, ← List.map_take, wd8_take]))) ?_
  refine .uw rfl (.cutArr (l := 0) (h := 4) Tryd.underlying75 sz_34 rfl rfl ⟨_, rfl⟩ (by first | exact ltb rfl | (simp; done) | (simp; omega) | omega | (simp [*]; omega)) (by first | exact ltb rfl | (simp; done) | (simp; omega) | omega | (simp [*]; omega)) (by first | exact ltb rfl | (simp; done) | (simp; omega) | omega | (simp [*]; omega))) ?_
  refine .uw rfl (.s2a Tryd.underlying60 rfl (by decide)) ?_
  refine .w rfl (.as (v' := .agg ((wd (al.toNat * 2)).map u64).toArray) (.lda agg_60 rfl) (congrArg (fun l : List Value => Value.agg l.toArray) (by rw [List.drop_zero, ← List.map_take, wd8_take]))) ?_
  refine .mw rfl (.c (f31_spec (px.toNat * 3) (al.toNat * 2) (by have := px.isLt; omega) (by have := al.isLt; omega)) body_31) ?_
  rintro _ _ _ ⟨rfl, rfl, rfl⟩
  refine kp ?_
  refine .uw rfl (.as (v' := .bool (decide (2 * al.toNat < 3 * px.toNat))) (.bin rfl rfl BinR.gtr_i) (congrArg Value.bool (decide_eq_decide.2 (by rw [cmp_gt]; omega)))) ?_
  refine .uw rfl (.assign rfl) ?_
  refine .nil (.tn (.ret ?_))
  exact .dn [] [] (res1 rfl (.tmp rfl)) ⟨rfl, rfl, rfl⟩

theorem f16_spec (px al : W64) :
    Spec Tryd.prog 16 #[u64 px, u64 al] [] []
      (fun r Γ' H' => r = (.bool (decide (al.toNat < 3 * px.toNat))) ∧ Γ' = [] ∧ H' = []) := by
  refine Spec.of_args Tryd.func16 rfl Tryd.ntmps16 (by simp) fun w => ?_
  refine .seq (.region ?_)
  refine .w (.assign rfl) ?_
  refine .nil (.tn (.seq (.region ?_)))
  refine .w (.move rfl) ?_
  refine .w (.as (v' := .agg ((wd px.toNat).map u64).toArray) (.build bld_60 rfl rfl) (by rw [wd_small]; rfl)) ?_
  refine .w (.as (v' := .agg ((wd 3).map u64).toArray) (.build bld_60 rfl rfl) rfl) ?_
  refine .c (f38_spec px.toNat 3 (w_lt _) (by decide)) body_38 ?_
  refine .al zero_75 fun b5 => ?_
  first | refine .sa sz_75 ?_ | refine .so sz_75 ?_ | refine .sr sz_75 ?_
  refine .nil (.tn (.seq (.region ?_)))
  refine .w (.cutArr (l := 0) (h := 4) Tryd.underlying75 sz_34 rfl rfl ⟨_, rfl⟩ (by first | exact ltb rfl | (simp; done) | (simp; omega) | omega | (simp [*]; omega)) (by first | exact ltb rfl | (simp; done) | (simp; omega) | omega | (simp [*]; omega)) (by first | exact ltb rfl | (simp; done) | (simp; omega) | omega | (simp [*]; omega))) ?_
  refine .w (.s2a Tryd.underlying60 rfl (by decide)) ?_
  refine .w (.as (v' := .agg ((wd (px.toNat * 3)).map u64).toArray) (.lda agg_60 rfl) (congrArg (fun l : List Value => Value.agg l.toArray) (by rw [List.drop_zero, ← List.map_take, wd8_take]))) ?_
  refine .w (.move rfl) ?_
  refine .w (.as (v' := .agg ((wd al.toNat).map u64).toArray) (.build bld_60 rfl rfl) (by rw [wd_small]; rfl)) ?_
  refine .c (f31_spec (px.toNat * 3) al.toNat (by have := px.isLt; omega) (w_lt _)) body_31 ?_
  refine .w (.as (v' := .bool (decide (al.toNat < 3 * px.toNat))) (.bin rfl rfl BinR.gtr_i) (congrArg Value.bool (decide_eq_decide.2 (by rw [cmp_gt]; omega)))) ?_
  refine .w (.assign rfl) ?_
  refine .nil (.tn (.ret ?_))
  exact .dn [] [] (res1 rfl (.tmp rfl)) ⟨rfl, rfl, rfl⟩

theorem f32_spec (v : Value) (n : Nat) (xs : List Value) (hn : n ≤ 1000000000) (h1 : ∀ a ∈ xs, a.oneCell' = true) :
    Spec Tryd.prog 32 #[v] [Res.rd v n 1 xs] []
      (fun r Γ' H' => True ∧ Γ' = [] ∧ H' = [Res.row r n 34 1 xs]) := by
  refine Spec.know (φ := ∃ A c, v = .slice A n c ∧ (A = none → xs = []) ∧ xs.length = n * 1 ∧ n ≤ c ∧ n ≤ maxLen) (fun w hs => hs.rdForm (.head _)) ?_
  rintro ⟨A, c, rfl, hA, hl, hc, hm⟩
  refine Spec.of_args Tryd.func32 rfl Tryd.ntmps32 (by simp) fun w => ?_
  refine .seq (.region ?_)
  refine .w (.assign rfl) ?_
  refine .nil (.tn (.seq (.seq (.region ?_))))
  refine .w (.move rfl) ?_
  refine .w (.bin rfl rfl (BinR.eql_s Tryd.underlying22)) ?_
  refine .nil (.tn ?_)
  refine .cn rfl (fun hc1 => ?_) (fun hc1 => ?_)
  · have hA0 : A = none := by cases A <;> simp_all
    have hx := hA hA0
    have hn0 : n = 0 := by rw [hx] at hl; simpa using hl.symm
    subst hx hn0
    refine .seq (.region ?_)
    refine JO.nilRow 34 1 ?_
    refine JO.v (Yv.assign rfl) (by decide) ?_
    refine .nil (.tn (.ret (.then_ret ?_)))
    exact .dn [] [Res.row (.slice none 0 0) 0 34 1 []] (res1 rfl (.tmp rfl)) ⟨trivial, rfl, rfl⟩
  · refine .skip (.tn (.seq (.region ?_)))
    refine .le Tryd.underlying22 sz_34 fun v5 => ?_
    refine .w (.move rfl) ?_
    refine .ap Tryd.underlying22 info_34 (fun v7 => ?_) (hone := h1)
    refine .w (.assign rfl) ?_
    refine .nil (.tn (.ret ?_))
    exact .dn [] [Res.row _ (0 + n) 34 1 ([] ++ xs)] (res1 rfl (.tmp rfl)) ⟨trivial, rfl, by rw [Nat.zero_add, List.nil_append]⟩

theorem eql_dig {x y : Operand} {a b : D32} : BinR Tryd.prog .eql 31 x y (dgV a) (dgV b) (.bool (decide (a = b))) := by
  have := BinR.eql_arr (P := Tryd.prog) (x := x) (y := y) (f := u8) (g := fun x => (x.toNat : Int)) (k := .u8) Tryd.underlying31 Tryd.underlying5 sz_5 (by kernel_rfl) (fun _ => rfl) (fun _ _ h => u8_inj h) a.1 b.1 a.2 b.2
  rw [d32_eq] at this
  exact this
theorem neq_dig {x y : Operand} {a b : D32} : BinR Tryd.prog .neq 31 x y (dgV a) (dgV b) (.bool (decide (a ≠ b))) := by
  have := BinR.neq_arr (P := Tryd.prog) (x := x) (y := y) (f := u8) (g := fun x => (x.toNat : Int)) (k := .u8) Tryd.underlying31 Tryd.underlying5 sz_5 (by kernel_rfl) (fun _ => rfl) (fun _ _ h => u8_inj h) a.1 b.1 a.2 b.2
  rw [d32_neq] at this
  exact this

theorem f34_spec (who : Int) (x v : D32) (bv bt p a b : Nat) (sv : Value) (al : W64) (S : List W64) (h0 : 0 ≤ who) (h1 : who < S.length) :
    Spec Tryd.prog 34 #[(it who), (dgV x), (ptr bv 0), (ptr bt 0)] [Res.cells bv (v.1.map u8) 31, Res.cells bt [ptr p 0] 25, Res.cells p [sv, u64 al, .map (some a), .map (some b)] 67, Res.rd sv S.length 1 (S.map u64)] []
      (fun r Γ' H' => r = (u64 (BitVec.ofNat 64 (forW S v (who, x, 0)))) ∧ Γ' = [] ∧ H' = []) := by
  refine Spec.of_args Tryd.func34 rfl Tryd.ntmps34 (by simp) fun w => ?_
  obtain ⟨i, rfl⟩ : ∃ i : Nat, who = i := ⟨who.toNat, by omega⟩
  refine .seq (.region ?_)
  refine .bx fun b5 => ?_
  refine .w (.assign rfl) ?_
  refine .nil (.tn (.seq (.seq (.region ?_))))
  refine .w (.as (v' := dgV x) (.lda agg_31 rfl) rfl) ?_
  refine .w (.as (v' := dgV v) (.lda agg_31 rfl) rfl) ?_
  refine .w (.bin rfl rfl (neq_dig)) ?_
  refine .nil (.tn ?_)
  refine .cn rfl (fun hc1 => ?_) (fun hc1 => ?_)
  · rw [forW, if_neg hc1]
    refine .seq (.region ?_)
    refine .w (.assign rfl) ?_
    refine .nil (.tn (.ret (.then_ret ?_)))
    exact .dn [] [] (res1 rfl (.tmp rfl)) ⟨rfl, rfl, rfl⟩
  · have hxv : x = v := hc1
    rw [forW, if_pos hxv]
    refine .skip (.tn (.seq (.region ?_)))
    refine .w (.ld one_25 rfl) ?_
    refine .w (.nilCheck rfl) ?_
    refine .w (.fieldAddr fa_67_0 rfl) ?_
    refine .w (.ld one_22 rfl) ?_
    refine .w (.move rfl) ?_
    refine .w (.ix1 Tryd.underlying22 sz_34 rfl rfl) ?_
    refine .w (.as (v' := u64 (BitVec.ofNat 64 (stk S (i : Int)))) (.ld one_34 rfl) (by simp [stk])) ?_
    refine .w (.assign rfl) ?_
    refine .nil (.tn (.ret ?_))
    exact .dn [] [] (res1 rfl (.tmp rfl)) ⟨rfl, rfl, rfl⟩

theorem f35_spec (who : Int) (x : D32) (bt p a b : Nat) (sv : Value) (al : W64) (S : List W64) (h0 : 0 ≤ who) (h1 : who < S.length) :
    Spec Tryd.prog 35 #[(it who), (dgV x), (ptr bt 0)] [Res.cells bt [ptr p 0] 25, Res.cells p [sv, u64 al, .map (some a), .map (some b)] 67, Res.rd sv S.length 1 (S.map u64)] []
      (fun r Γ' H' => r = (u64 (BitVec.ofNat 64 (anyW S (who, x, 0)))) ∧ Γ' = [] ∧ H' = []) := by
  refine Spec.of_args Tryd.func35 rfl Tryd.ntmps35 (by simp) fun w => ?_
  obtain ⟨i, rfl⟩ : ∃ i : Nat, who = i := ⟨who.toNat, by omega⟩
  refine .seq (.region ?_)
  refine .bx fun b4 => ?_
  refine .w (.assign rfl) ?_
  refine .nil (.tn (.seq (.region ?_)))
  refine .w (.ld one_25 rfl) ?_
  refine .w (.nilCheck rfl) ?_
  refine .w (.fieldAddr fa_67_0 rfl) ?_
  refine .w (.ld one_22 rfl) ?_
  refine .w (.move rfl) ?_
  refine .w (.ix1 Tryd.underlying22 sz_34 rfl rfl) ?_
  refine .w (.as (v' := u64 (BitVec.ofNat 64 (anyW S ((i : Int), x, 0)))) (.ld one_34 rfl) (by simp [anyW, stk])) ?_
  refine .w (.assign rfl) ?_
  refine .nil (.tn (.ret ?_))
  exact .dn [] [] (res1 rfl (.tmp rfl)) ⟨rfl, rfl, rfl⟩

theorem f33For_spec (v : D32) (bv : Nat) (bt : Nat) (p a b : Nat) (sv : Value) (al : W64) (S : List W64) (m : MM Int D32) (hT : TOk S m) (hS : sumS S < 18446744073709551616) :
    Spec Tryd.prog 33 #[(.map (some a)), (.func (.func 34) #[] #[ptr bv 0, ptr bt 0])] [Res.cells bv (v.1.map u8) 31, Res.cells bt [ptr p 0] 25, Res.cells p [sv, u64 al, .map (some a), .map (some b)] 67, Res.rd sv S.length 1 (S.map u64), mpR a itK dgV m] []
      (fun r Γ' H' => r = (u64 (BitVec.ofNat 64 (gsum (forW S v) m.es))) ∧ Γ' = [] ∧ H' = []) := by
  refine Spec.of_args Tryd.func33 rfl Tryd.ntmps33 (by simp) fun w => ?_
  refine .seq (.region ?_)
  refine .w (.assign rfl) ?_
  refine .nil (.tn (.seq (.region ?_)))
  refine .w (.assign rfl) ?_
  refine .nil (.tn (.seq (.seq (.region ?_))))
  refine .w (.move rfl) ?_
  refine .rg Tryd.underlying64 fun r9 => ?_
  refine .nil (.tn (.block ?_))
  refine .lp (ι := List VE) (fun x => m.Walk x) (fun T x => (5, u64 (BitVec.ofNat 64 (gsum (forW S v) x))) :: T) (fun T _ => T) (fun T x => miR r9 a m x :: T) (fun x => m.es.length - x.length) ([]) [1, 4, 9, 21] ?_ (fun x hx => ?_)
  · exact MM.Walk.nil
  have hW := hx
  refine .seq (.region ?_)
  refine .nx hT.ok hW ?_ ?_
  · intro hp
    refine .w (.extract rfl rfl) ?_
    refine .nil (.tn (.seq ?_))
    refine .cf rfl ?_
    refine .exit (.then_exit (.then_exit (.block_exit (.tn (.seq (.region ?_))))))
    refine .w (.move rfl) ?_
    refine .w (.assign rfl) ?_
    refine .nil (.tn (.ret ?_))
    exact .dn [] [] (res1 rfl (.tmp rfl)) ⟨by rw [gsum_perm hp], rfl, rfl⟩
  · intro e he hnp hw2
    refine .w (.extract rfl rfl) ?_
    refine .nil (.tn (.seq ?_))
    refine .ct rfl ?_
    refine .skip (.tn (.block (.seq (.region ?_))))
    refine .w (.en hT.ok he) ?_
    refine .w (.as (v' := it e.1) (.extract rfl rfl) rfl) ?_
    refine .w (.as (v' := dgV e.2.1) (.extract rfl rfl) rfl) ?_
    refine .al zero_31 fun b7 => ?_
    refine .w (.assign rfl) ?_
    first | refine .sa sz_31 ?_ | refine .so sz_31 ?_ | refine .sr sz_31 ?_
    refine .nil (.tn (.region ?_))
    refine .w (.move rfl) ?_
    refine .w (.move rfl) ?_
    refine .w (.move rfl) ?_
    refine .w (.as (v' := dgV e.2.1) (.lda agg_31 rfl) rfl) ?_
    refine JO.callF (f34_spec e.1 e.2.1 v bv bt p a b sv al S (hT.rng e he).1 (hT.rng e he).2) body_34 rfl rfl rfl (by repeat (first | exact Picks.nil _ | apply Picks.cons | exact Pull.here _ _ | apply Pull.there)) (by repeat (first | exact Lends.nil _ | apply Lends.cons | exact Lend.same _ _ | exact Lend.row _ _ _ _ _ _ (by decide) | apply Lend.there)) (by rintro _ _ _ ⟨_, h, _⟩; exact h) (by decide) ?_
    rintro _ _ ⟨_, ⟨rfl, _, rfl⟩, hH⟩
    simp only [List.cons_append, List.nil_append] at hH; subst hH
    refine .w (.as (v' := u64 (BitVec.ofNat 64 (gsum (forW S v) (x ++ [e])))) (.bin rfl rfl (BinR.add_u64)) (by rw [gsum_snoc, BitVec.ofNat_add]; rfl)) ?_
    refine .w (.assign rfl) ?_
    refine .nil (.block_normal ?_)
    refine .hd (x ++ [e]) ?_
    exact ⟨hw2, by have := walk_len hw2; simp at this ⊢; omega⟩

theorem f33Any_spec (bt : Nat) (p a b : Nat) (sv : Value) (al : W64) (S : List W64) (m : MM Int D32) (hT : TOk S m) (hS : sumS S < 18446744073709551616) :
    Spec Tryd.prog 33 #[(.map (some a)), (.func (.func 35) #[] #[ptr bt 0])] [Res.cells bt [ptr p 0] 25, Res.cells p [sv, u64 al, .map (some a), .map (some b)] 67, Res.rd sv S.length 1 (S.map u64), mpR a itK dgV m] []
      (fun r Γ' H' => r = (u64 (BitVec.ofNat 64 (gsum (anyW S) m.es))) ∧ Γ' = [] ∧ H' = []) := by
  refine Spec.of_args Tryd.func33 rfl Tryd.ntmps33 (by simp) fun w => ?_
  refine .seq (.region ?_)
  refine .w (.assign rfl) ?_
  refine .nil (.tn (.seq (.region ?_)))
  refine .w (.assign rfl) ?_
  refine .nil (.tn (.seq (.seq (.region ?_))))
  refine .w (.move rfl) ?_
  refine .rg Tryd.underlying64 fun r9 => ?_
  refine .nil (.tn (.block ?_))
  refine .lp (ι := List VE) (fun x => m.Walk x) (fun T x => (5, u64 (BitVec.ofNat 64 (gsum (anyW S) x))) :: T) (fun T _ => T) (fun T x => miR r9 a m x :: T) (fun x => m.es.length - x.length) ([]) [1, 4, 9, 21] ?_ (fun x hx => ?_)
  · exact MM.Walk.nil
  have hW := hx
  refine .seq (.region ?_)
  refine .nx hT.ok hW ?_ ?_
  · intro hp
    refine .w (.extract rfl rfl) ?_
    refine .nil (.tn (.seq ?_))
    refine .cf rfl ?_
    refine .exit (.then_exit (.then_exit (.block_exit (.tn (.seq (.region ?_))))))
    refine .w (.move rfl) ?_
    refine .w (.assign rfl) ?_
    refine .nil (.tn (.ret ?_))
    exact .dn [] [] (res1 rfl (.tmp rfl)) ⟨by rw [gsum_perm hp], rfl, rfl⟩
  · intro e he hnp hw2
    refine .w (.extract rfl rfl) ?_
    refine .nil (.tn (.seq ?_))
    refine .ct rfl ?_
    refine .skip (.tn (.block (.seq (.region ?_))))
    refine .w (.en hT.ok he) ?_
    refine .w (.as (v' := it e.1) (.extract rfl rfl) rfl) ?_
    refine .w (.as (v' := dgV e.2.1) (.extract rfl rfl) rfl) ?_
    refine .al zero_31 fun b7 => ?_
    refine .w (.assign rfl) ?_
    first | refine .sa sz_31 ?_ | refine .so sz_31 ?_ | refine .sr sz_31 ?_
    refine .nil (.tn (.region ?_))
    refine .w (.move rfl) ?_
    refine .w (.move rfl) ?_
    refine .w (.move rfl) ?_
    refine .w (.as (v' := dgV e.2.1) (.lda agg_31 rfl) rfl) ?_
    refine JO.callF (f35_spec e.1 e.2.1 bt p a b sv al S (hT.rng e he).1 (hT.rng e he).2) body_35 rfl rfl rfl (by repeat (first | exact Picks.nil _ | apply Picks.cons | exact Pull.here _ _ | apply Pull.there)) (by repeat (first | exact Lends.nil _ | apply Lends.cons | exact Lend.same _ _ | exact Lend.row _ _ _ _ _ _ (by decide) | apply Lend.there)) (by rintro _ _ _ ⟨_, h, _⟩; exact h) (by decide) ?_
    rintro _ _ ⟨_, ⟨rfl, _, rfl⟩, hH⟩
    simp only [List.cons_append, List.nil_append] at hH; subst hH
    refine .w (.as (v' := u64 (BitVec.ofNat 64 (gsum (anyW S) (x ++ [e])))) (.bin rfl rfl (BinR.add_u64)) (by rw [gsum_snoc, BitVec.ofNat_add]; rfl)) ?_
    refine .w (.assign rfl) ?_
    refine .nil (.block_normal ?_)
    refine .hd (x ++ [e]) ?_
    exact ⟨hw2, by have := walk_len hw2; simp at this ⊢; omega⟩

theorem f12_spec (p a b : Nat) (sv : Value) (al : W64) (S : List W64) (m : MM Int D32) (v : D32) (hT : TOk S m) (hS : sumS S < 18446744073709551616) :
    Spec Tryd.prog 12 #[(ptr p 0), (dgV v)] [Res.cells p [sv, u64 al, .map (some a), .map (some b)] 67, Res.rd sv S.length 1 (S.map u64), mpR a itK dgV m] []
      (fun r Γ' H' => r = (u64 (BitVec.ofNat 64 (forA S m.get v))) ∧ Γ' = [] ∧ H' = []) := by
  refine Spec.of_args Tryd.func12 rfl Tryd.ntmps12 (by simp) fun w => ?_
  refine .seq (.region ?_)
  refine .bx fun b2 => ?_
  refine .bx fun b3 => ?_
  refine .w (.assign rfl) ?_
  refine .nil (.tn (.seq (.region ?_)))
  refine .w (.ld one_25 rfl) ?_
  refine .w (.nilCheck rfl) ?_
  refine .w (.fieldAddr fa_67_2 rfl) ?_
  refine .w (.ld one_64 rfl) ?_
  refine .w (.makeFunc rfl rfl) ?_
  refine .c (f33For_spec v b3 b2 p a b sv al S m hT hS) body_33 ?_
  rw [for_by hT]
  refine .w (.assign rfl) ?_
  refine .nil (.tn (.ret ?_))
  exact .dn [] [] (res1 rfl (.tmp rfl)) ⟨rfl, rfl, rfl⟩

theorem f13_spec (p a b : Nat) (sv : Value) (al : W64) (S : List W64) (m : MM Int D32) (hT : TOk S m) (hS : sumS S < 18446744073709551616) :
    Spec Tryd.prog 13 #[(ptr p 0)] [Res.cells p [sv, u64 al, .map (some a), .map (some b)] 67, Res.rd sv S.length 1 (S.map u64), mpR a itK dgV m] []
      (fun r Γ' H' => r = (u64 (BitVec.ofNat 64 (anyA S m.get))) ∧ Γ' = [] ∧ H' = []) := by
  refine Spec.of_args Tryd.func13 rfl Tryd.ntmps13 (by simp) fun w => ?_
  refine .seq (.region ?_)
  refine .bx fun b1 => ?_
  refine .w (.assign rfl) ?_
  refine .nil (.tn (.seq (.region ?_)))
  refine .w (.ld one_25 rfl) ?_
  refine .w (.nilCheck rfl) ?_
  refine .w (.fieldAddr fa_67_2 rfl) ?_
  refine .w (.ld one_64 rfl) ?_
  refine .w (.makeFunc rfl rfl) ?_
  refine .c (f33Any_spec b1 p a b sv al S m hT hS) body_33 ?_
  rw [any_by hT]
  refine .w (.assign rfl) ?_
  refine .nil (.tn (.ret ?_))
  exact .dn [] [] (res1 rfl (.tmp rfl)) ⟨rfl, rfl, rfl⟩

theorem f15_spec (p a b : Nat) (sv : Value) (al : W64) (S : List W64) (m : MM Int D32) (who : Int) :
    Spec Tryd.prog 15 #[(ptr p 0), (it who)] [Res.cells p [sv, u64 al, .map (some a), .map (some b)] 67, mpR a itK dgV m] []
      (fun r Γ' H' => r = (.tuple #[dgV ((m.get who).getD D0), .bool (m.get who).isSome]) ∧ Γ' = [] ∧ H' = []) := by
  refine Spec.of_args Tryd.func15 rfl Tryd.ntmps15 (by simp) fun w => ?_
  refine .seq (.region ?_)
  refine .al zero_31 fun b4 => ?_
  refine .w (.assign rfl) ?_
  refine .nil (.tn (.seq (.region ?_)))
  refine .w (.move rfl) ?_
  refine .w (.nilCheck rfl) ?_
  refine .w (.fieldAddr fa_67_2 rfl) ?_
  refine .w (.ld one_64 rfl) ?_
  refine .w (.move rfl) ?_
  refine .w (.as (v' := .tuple #[dgV ((m.get who).getD D0), .bool (m.get who).isSome]) (.lk2 who Tryd.underlying64 mkey_64 zf_31) (by cases m.get who <;> rfl)) ?_
  refine .w (.move rfl) ?_
  refine .w (.as (v' := dgV ((m.get who).getD D0)) (.extract rfl rfl) rfl) ?_
  refine .w (.as (v' := .bool (m.get who).isSome) (.extract rfl rfl) rfl) ?_
  refine .al zero_31 fun b6 => ?_
  first | refine .sa sz_31 ?_ | refine .so sz_31 ?_ | refine .sr sz_31 ?_
  refine .w (.assign rfl) ?_
  refine .nil (.tn (.seq (.region ?_)))
  refine .w (.as (v' := dgV ((m.get who).getD D0)) (.lda agg_31 rfl) rfl) ?_
  refine .w (.move rfl) ?_
  first | refine .sa sz_31 ?_ | refine .so sz_31 ?_ | refine .sr sz_31 ?_
  refine .w (.assign rfl) ?_
  refine .nil (.tn (.ret ?_))
  exact .dn [] [] (res2 rfl (.cl agg_31) (.tmp rfl)) ⟨rfl, rfl, rfl⟩
end Go.Proofs.YtmbpngnamnoiaaaDoor
