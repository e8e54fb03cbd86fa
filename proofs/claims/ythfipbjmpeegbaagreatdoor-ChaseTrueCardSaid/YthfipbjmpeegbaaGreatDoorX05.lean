/- Texts of ours, gathered: V1 R1 R2 R15 V2. -/
import Derived.Test.YthfipbjmpeegbaaGreatDoorX04
/- Walks: numbers of four words; products; what is more than a third; a tally. -/
namespace Go.Proofs.YthfipbjmpeegbaaGreatDoor
open Go.RowKit
set_option maxRecDepth 100000
set_option linter.unusedVariables false
set_option linter.unusedSimpArgs false
theorem f60_spec (a b : Nat) (ha : a < 115792089237316195423570985008687907853269984665640564039457584007913129639936) (hb : b < 115792089237316195423570985008687907853269984665640564039457584007913129639936) :
    Spec Tryz.prog 60 #[(.agg ((wd a).map u64).toArray), (.agg ((wd b).map u64).toArray)] [] []
      (fun r Γ' H' => r = (.tuple #[.agg ((wd (a + b)).map u64).toArray, u64 (BitVec.ofNat 64 ((a + b) / 115792089237316195423570985008687907853269984665640564039457584007913129639936))]) ∧ Γ' = [] ∧ H' = []) := by
  refine Spec.of_args Tryz.func60 rfl Tryz.ntmps60 (by simp) fun w => ?_
  refine .seq (.region ?_)
  refine .bx fun b2 => ?_
  refine .bx fun b3 => ?_
  refine .al zero_87 fun b4 => ?_
  refine .w (.as (v' := u64 (cry a b 0)) (.assign rfl) (by rw [cry_0]; rfl)) ?_
  refine .nil (.tn (.seq (.seq (.region ?_))))
  refine .w (.move rfl) ?_
  refine .nil (.tn (.block ?_))
  refine .lp (ι := Nat) (fun x => x ≤ 4) (fun T x => (2, ptr b2 0) :: (3, ptr b3 0) :: (4, ptr b4 0) :: (5, u64 (cry a b x)) :: (7, it (x : Int)) :: T) (fun T _ => T) (fun T x => Res.cells b2 ((wd a).map u64) 87 :: Res.cells b3 ((wd b).map u64) 87 :: Res.cells b4 (tw (wat (a + b)) x) 87 :: T) (fun x => 4 - x) 0 [24, 25] ?_ (fun x hx => ?_)
  · exact Nat.zero_le _
  refine .seq (.region ?_)
  refine .w (.bin rfl rfl BinR.lss_i) ?_
  refine .nil (.tn (.seq ?_))
  refine .cn rfl (fun hc1 => ?_) (fun hc1 => ?_)
  · refine .skip (.tn (.seq (.block (.seq (.region ?_)))))
    refine .w (.move rfl) ?_
    refine .w (.assign rfl) ?_
    refine .nil (.tn ?_)
    refine JC.draw (.one 0 (.one 1 (.one 2 (.one 3 (.one 4 (.one 5 (.one 6 (.one 7 (.one 8 (.one 9 (.one 10 (.one 11 (.one 12 (.one 13 (.one 14 .nil))))))))))))))) (fun i => ([13] : List Nat).contains i) (fun i => ([13] : List Nat).contains i) (fun i => ([0, 1, 2, 4, 5, 7, 8, 9, 10, 11, 12, 14] : List Nat).contains i) mixed (by kernel_rfl) (by decide) (by kernel_rfl) ?_
    refine .uw rfl (.move rfl) ?_
    refine .uw rfl (.move rfl) ?_
    refine .uw rfl (.ixA Tryz.underlying87 sz_30 rfl rfl) ?_
    refine .w rfl (.ld one_30 rfl (hj := by first | exact wd_get _ (by omega) | rfl | exact tab_get zqg | exact gm (d := 0) zqg)) ?_
    refine .uw rfl (.move rfl) ?_
    refine .uw rfl (.ixA Tryz.underlying87 sz_30 rfl rfl) ?_
    refine .w rfl (.ld one_30 rfl (hj := by first | exact wd_get _ (by omega) | rfl | exact tab_get zqg | exact gm (d := 0) zqg)) ?_
    refine .uw rfl (.move rfl) ?_
    refine .uw rfl (.as (v' := .tuple #[u64 (wat (a + b) x), u64 (cry a b (x + 1))]) (.ext rfl (ext_83 _ _ _ (cry_le _ _ _))) (by rw [add_word a b (by omega), add_cry a b (by omega)])) ?_
    refine .uw rfl (.move rfl) ?_
    refine .uw rfl (.as (v' := u64 (wat (a + b) x)) (.extract rfl rfl) rfl) ?_
    refine .uw rfl (.as (v' := u64 (cry a b (x + 1))) (.extract rfl rfl) rfl) ?_
    refine .uw rfl (.ixA Tryz.underlying87 sz_30 rfl rfl) ?_
    first | refine .mw0 rfl (.s1 sz_30) ?_ | refine .mw0 rfl (.sr1 sz_30) ?_
    rintro _ _ _ ⟨rfl, rfl⟩
    refine kp ?_
    refine .uw rfl (.assign rfl) ?_
    refine .nil (.block_normal (.tn (.region ?_)))
    refine .w (.bin rfl rfl (BinR.add_i zqf)) ?_
    refine .w (.move rfl) ?_
    refine .nil ?_
    rw [tw_set]
    refine .hd (x + 1) ?_
    exact ⟨by omega, by omega⟩
  · obtain rfl : x = 4 := by omega
    rw [tw_4]
    refine .exit (.then_exit (.then_exit (.block_exit (.tn (.seq (.region ?_))))))
    refine .w (.lda agg_87 rfl) ?_
    refine .w (.as (v' := u64 (BitVec.ofNat 64 ((a + b) / 115792089237316195423570985008687907853269984665640564039457584007913129639936))) (.move rfl) (congrArg u64 (cry_4 ha hb))) ?_
    first | refine .sa sz_87 ?_ | refine .so sz_87 ?_ | refine .sr sz_87 ?_
    refine .w (.assign rfl) ?_
    refine .nil (.tn (.ret ?_))
    exact .dn [] [] (res2 rfl (.cl agg_87) (.tmp rfl)) ⟨rfl, rfl, rfl⟩

theorem f37_spec (a b : Nat) (ha : a < 115792089237316195423570985008687907853269984665640564039457584007913129639936) (hb : b < 115792089237316195423570985008687907853269984665640564039457584007913129639936) :
    Spec Tryz.prog 37 #[(.agg ((wd a).map u64).toArray), (.agg ((wd b).map u64).toArray)] [] []
      (fun r Γ' H' => r = (it (cmpN a b)) ∧ Γ' = [] ∧ H' = []) := by
  refine Spec.of_args Tryz.func37 rfl Tryz.ntmps37 (by simp) fun w => ?_
  refine .seq (.region ?_)
  refine .bx fun b2 => ?_
  refine .bx fun b3 => ?_
  refine .w (.assign rfl) ?_
  refine .nil (.tn (.scope (.seq (.region ?_))))
  refine .w (.assign rfl) ?_
  refine .nil (.tn (.seq (.label (.tn (.seq (.seq (.region ?_)))))))
  refine .w (.move rfl) ?_
  refine .nil (.tn (.block ?_))
  refine .lp (ι := Nat) (fun x => x ≤ 4 ∧ a / pw (4 - x) = b / pw (4 - x)) (fun T x => (2, ptr b2 0) :: (3, ptr b3 0) :: (5, it 0) :: (8, it (x : Int)) :: T) (fun T _ => T) (fun T x => Res.cells b2 ((wd a).map u64) 87 :: Res.cells b3 ((wd b).map u64) 87 :: T) (fun x => 4 - x) 0 [4, 30] ?_ (fun x hx => ?_)
  · exact ⟨Nat.zero_le _, by show a / pw 4 = b / pw 4; rw [pw_4, Nat.div_eq_of_lt ha, Nat.div_eq_of_lt hb]⟩
  refine .seq (.region ?_)
  refine .w (.bin rfl rfl BinR.lss_i) ?_
  refine .nil (.tn (.seq ?_))
  refine .cn rfl (fun hc1 => ?_) (fun hc1 => ?_)
  · refine .skip (.tn (.seq (.block (.seq (.region ?_)))))
    refine .w (.move rfl) ?_
    refine .w (.assign rfl) ?_
    refine .nil (.tn (.seq (.region ?_)))
    refine .w (.move rfl) ?_
    refine .w (.asI ((3 - x : Nat) : Int) (.bin rfl rfl (BinR.sub_i zqf))) ?_
    refine .w (.assign rfl) ?_
    refine .nil (.tn (.block (.seq ?_)))
    refine JC.draw (.one 0 (.one 1 (.one 2 (.one 3 (.one 4 (.one 5 (.one 6 (.one 7 .nil)))))))) (fun i => ([] : List Nat).contains i) (fun i => ([] : List Nat).contains i) (fun i => ([0, 1, 3, 4, 6, 7] : List Nat).contains i) mixed (by kernel_rfl) (by decide) (by kernel_rfl) ?_
    refine .uw rfl (.move rfl) ?_
    refine .uw rfl (.ixA Tryz.underlying87 sz_30 rfl rfl) ?_
    refine .w rfl (.ld one_30 rfl (hj := by first | exact wd_get _ (by omega) | rfl | exact tab_get zqg | exact gm (d := 0) zqg)) ?_
    refine .uw rfl (.move rfl) ?_
    refine .uw rfl (.ixA Tryz.underlying87 sz_30 rfl rfl) ?_
    refine .w rfl (.ld one_30 rfl (hj := by first | exact wd_get _ (by omega) | rfl | exact tab_get zqg | exact gm (d := 0) zqg)) ?_
    refine .uw rfl (.bin rfl rfl (BinR.lss_u64)) ?_
    refine .uw rfl (.assign rfl) ?_
    refine .nil (.tn ?_)
    refine .cn rfl (fun hc2 => ?_) (fun hc2 => ?_)
    · have hres : cmpN a b = -1 := by simp [cmpN, cmp_step (by omega) hx.2 hc2]
      refine .seq (.region ?_)
      refine .w (.assign rfl) ?_
      refine .nil (.tn (.exit (.block_other (by decide) (.block_other (by decide) (.then_exit (.then_exit (.block_exit (.tn (.seq (.region ?_))))))))))
      refine .w (.as (v' := it (cmpN a b)) (.move rfl) (congrArg it hres.symm)) ?_
      refine .w (.assign rfl) ?_
      refine .nil (.tn (.ret (.scope_ret ?_)))
      exact .dn [] [] (res1 rfl (.tmp rfl)) ⟨rfl, rfl, rfl⟩
    · refine .seq ?_
      refine JC.draw (.one 0 (.one 1 (.one 2 (.one 3 (.one 4 (.one 5 (.one 6 (.one 7 .nil)))))))) (fun i => ([] : List Nat).contains i) (fun i => ([] : List Nat).contains i) (fun i => ([0, 1, 3, 4, 6, 7] : List Nat).contains i) mixed (by kernel_rfl) (by decide) (by kernel_rfl) ?_
      refine .uw rfl (.move rfl) ?_
      refine .uw rfl (.ixA Tryz.underlying87 sz_30 rfl rfl) ?_
      refine .w rfl (.ld one_30 rfl (hj := by first | exact wd_get _ (by omega) | rfl | exact tab_get zqg | exact gm (d := 0) zqg)) ?_
      refine .uw rfl (.move rfl) ?_
      refine .uw rfl (.ixA Tryz.underlying87 sz_30 rfl rfl) ?_
      refine .w rfl (.ld one_30 rfl (hj := by first | exact wd_get _ (by omega) | rfl | exact tab_get zqg | exact gm (d := 0) zqg)) ?_
      refine .uw rfl (.bin rfl rfl (BinR.gtr_u64)) ?_
      refine .uw rfl (.assign rfl) ?_
      refine .nil (.tn ?_)
      refine .cn rfl (fun hc3 => ?_) (fun hc3 => ?_)
      · have hres : cmpN a b = 1 := by have h := cmp_step (by omega) hx.2.symm hc3; rw [cmpN, if_neg (by omega), if_pos h]
        refine .seq (.region ?_)
        refine .w (.assign rfl) ?_
        refine .nil (.tn (.exit (.block_other (by decide) (.block_other (by decide) (.then_exit (.then_exit (.block_exit (.tn (.seq (.region ?_))))))))))
        refine .w (.as (v' := it (cmpN a b)) (.move rfl) (congrArg it hres.symm)) ?_
        refine .w (.assign rfl) ?_
        refine .nil (.tn (.ret (.scope_ret ?_)))
        exact .dn [] [] (res1 rfl (.tmp rfl)) ⟨rfl, rfl, rfl⟩
      · refine .skip (.block_normal (.block_normal (.tn (.region ?_))))
        refine .w (.bin rfl rfl (BinR.add_i zqf)) ?_
        refine .w (.move rfl) ?_
        refine .nil ?_
        refine .hd (x + 1) ?_
        exact ⟨⟨by omega, cmp_next (by omega) hx.2 hc2 (by omega)⟩, by omega⟩
  · obtain rfl : x = 4 := by omega
    have hres : cmpN a b = 0 := by have h := hx.2; simp only [Nat.sub_self, pw_0, Nat.div_one] at h; simp [cmpN, h]
    refine .exit (.then_exit (.then_exit (.block_exit (.tn (.seq (.region ?_))))))
    refine .w (.as (v' := it (cmpN a b)) (.move rfl) (congrArg it hres.symm)) ?_
    refine .w (.assign rfl) ?_
    refine .nil (.tn (.ret (.scope_ret ?_)))
    exact .dn [] [] (res1 rfl (.tmp rfl)) ⟨rfl, rfl, rfl⟩

theorem f98_spec (x y : W64) :
    Spec Tryz.prog 98 #[u64 x, u64 y] [] []
      (fun r Γ' H' => r = (.tuple #[u64 (BitVec.ofNat 64 (x.toNat * y.toNat / 18446744073709551616)), u64 (x * y)]) ∧ Γ' = [] ∧ H' = []) := by
  refine Spec.of_args Tryz.func98 rfl Tryz.ntmps98 (by simp) fun w => ?_
  refine .seq (.region ?_)
  refine .w (.assign rfl) ?_
  refine .w (.assign rfl) ?_
  refine .nil (.tn (.seq (.region ?_)))
  refine .w (.move rfl) ?_
  refine .w (.bin rfl rfl (BinR.and_u64 (b := 4294967295#64))) ?_
  refine .w (.assign rfl) ?_
  refine .nil (.tn (.seq (.region ?_)))
  refine .w (.move rfl) ?_
  refine .w (.bin rfl rfl (BinR.shr_u64_u64 (n := 32#64))) ?_
  refine .w (.assign rfl) ?_
  refine .nil (.tn (.seq (.region ?_)))
  refine .w (.move rfl) ?_
  refine .w (.bin rfl rfl (BinR.and_u64 (b := 4294967295#64))) ?_
  refine .w (.assign rfl) ?_
  refine .nil (.tn (.seq (.region ?_)))
  refine .w (.move rfl) ?_
  refine .w (.bin rfl rfl (BinR.shr_u64_u64 (n := 32#64))) ?_
  refine .w (.assign rfl) ?_
  refine .nil (.tn (.seq (.region ?_)))
  refine .w (.move rfl) ?_
  refine .w (.move rfl) ?_
  refine .w (.bin rfl rfl (BinR.mul_u64)) ?_
  refine .w (.assign rfl) ?_
  refine .nil (.tn (.seq (.region ?_)))
  refine .w (.move rfl) ?_
  refine .w (.move rfl) ?_
  refine .w (.bin rfl rfl (BinR.mul_u64)) ?_
  refine .w (.move rfl) ?_
  refine .w (.bin rfl rfl (BinR.shr_u64_u64 (n := 32#64))) ?_
  refine .w (.bin rfl rfl (BinR.add_u64)) ?_
  refine .w (.assign rfl) ?_
  refine .nil (.tn (.seq (.region ?_)))
  refine .w (.move rfl) ?_
  refine .w (.bin rfl rfl (BinR.and_u64 (b := 4294967295#64))) ?_
  refine .w (.assign rfl) ?_
  refine .nil (.tn (.seq (.region ?_)))
  refine .w (.move rfl) ?_
  refine .w (.bin rfl rfl (BinR.shr_u64_u64 (n := 32#64))) ?_
  refine .w (.assign rfl) ?_
  refine .nil (.tn (.seq (.region ?_)))
  refine .w (.move rfl) ?_
  refine .w (.move rfl) ?_
  refine .w (.move rfl) ?_
  refine .w (.bin rfl rfl (BinR.mul_u64)) ?_
  refine .w (.bin rfl rfl (BinR.add_u64)) ?_
  refine .w (.assign rfl) ?_
  refine .nil (.tn (.seq (.region ?_)))
  refine .w (.move rfl) ?_
  refine .w (.move rfl) ?_
  refine .w (.bin rfl rfl (BinR.mul_u64)) ?_
  refine .w (.move rfl) ?_
  refine .w (.bin rfl rfl (BinR.add_u64)) ?_
  refine .w (.move rfl) ?_
  refine .w (.bin rfl rfl (BinR.shr_u64_u64 (n := 32#64))) ?_
  refine .w (.bin rfl rfl (BinR.add_u64)) ?_
  refine .w (.as (v' := u64 (BitVec.ofNat 64 (x.toNat * y.toNat / 18446744073709551616))) (.assign rfl) (congrArg u64 (mul64 x y))) ?_
  refine .nil (.tn (.seq (.region ?_)))
  refine .w (.move rfl) ?_
  refine .w (.move rfl) ?_
  refine .w (.bin rfl rfl (BinR.mul_u64)) ?_
  refine .w (.assign rfl) ?_
  refine .nil (.tn (.ret ?_))
  exact .dn [] [] (res2 rfl (.tmp rfl) (.tmp rfl)) ⟨rfl, rfl, rfl⟩

theorem f36_spec (v : Value) (l : List W64) :
    Spec Tryz.prog 36 #[v] [Res.rd v l.length 1 (l.map u64)] []
      (fun r Γ' H' => r = (.agg ((wd (totN l)).map u64).toArray) ∧ Γ' = [] ∧ H' = []) := by
  refine Spec.of_args Tryz.func36 rfl Tryz.ntmps36 (by simp) fun w => ?_
  refine JC.know (φ := l.length ≤ 9223372036854775807) (fun w hs => by obtain ⟨_, _, _, _, _, _, h⟩ := hs.rdForm (.head _); unfold maxLen at h; omega) fun hll => ?_
  refine .seq (.region ?_)
  refine .al zero_87 fun b2 => ?_
  refine .nil (.tn (.seq (.region ?_)))
  refine .al zero_87 fun b3 => ?_
  refine .nil (.tn (.seq (.seq (.region ?_))))
  refine .w (.move rfl) ?_
  refine .w (.len Tryz.underlying22 rfl) ?_
  refine .w (.move rfl) ?_
  refine .nil (.tn (.block ?_))
  refine .lp (ι := Nat) (fun x => x ≤ l.length) (fun T x => (2, ptr b2 0) :: (3, ptr b3 0) :: (6, v) :: (7, it (l.length : Int)) :: (8, it (x : Int)) :: T) (fun T x => Res.rd v l.length 1 (l.map u64) :: T) (fun T x => Res.cells b2 ((wd 0).map u64) 87 :: Res.cells b3 ((wd (totN (l.take x))).map u64) 87 :: T) (fun x => l.length - x) 0 [20] ?_ (fun x hx => ?_) (hH := (by rw [tot_0]; repeat (first | exact Picks.nil _ | apply Picks.cons | exact Pull.here _ _ | apply Pull.there)))
  · exact Nat.zero_le _
  refine .seq (.region ?_)
  refine .w (.bin rfl rfl BinR.lss_i) ?_
  refine .nil (.tn (.seq ?_))
  refine .cn rfl (fun hc1 => ?_) (fun hc1 => ?_)
  · refine .skip (.tn (.seq (.block (.seq (.region ?_)))))
    refine .w (.ix1 Tryz.underlying22 sz_30 rfl rfl) ?_
    refine .w (.ld one_30 rfl) ?_
    refine .w (.assign rfl) ?_
    refine .nil (.tn (.region ?_))
    refine .w (.lda agg_87 rfl) ?_
    refine .w (.move rfl) ?_
    refine .w (.as (v' := .agg ((wd (l.getD x 0).toNat).map u64).toArray) (.build bld_87 rfl rfl) (by rw [wd_small]; rfl)) ?_
    refine .c (f60_spec (totN (l.take x)) (l.getD x 0).toNat (tot_lt _) (w_lt _)) body_60 ?_
    rw [tot_succ (by omega)]
    refine .w (.move rfl) ?_
    refine .w (.as (v' := .agg ((wd (totN (l.take (x + 1)))).map u64).toArray) (.extract rfl rfl) rfl) ?_
    refine .w (.extract rfl rfl) ?_
    first | refine .sa sz_87 ?_ | refine .so sz_87 ?_ | refine .sr sz_87 ?_
    refine .nil (.block_normal (.tn (.region ?_)))
    refine .w (.asI ((x + 1 : Nat) : Int) (.bin rfl rfl (BinR.add_i zqf))) ?_
    refine .w (.move rfl) ?_
    refine .nil ?_
    refine .hd (x + 1) ?_
    exact ⟨by omega, by omega⟩
  · obtain rfl : x = l.length := by omega
    rw [List.take_length]
    refine .exit (.then_exit (.then_exit (.block_exit (.tn (.seq (.region ?_))))))
    refine .w (.lda agg_87 rfl) ?_
    first | refine .sa sz_87 ?_ | refine .so sz_87 ?_ | refine .sr sz_87 ?_
    refine .nil (.tn (.ret ?_))
    exact .dn [] [] (res1 rfl (.cl agg_87)) ⟨rfl, rfl, rfl⟩

theorem f76_spec (a b : Nat) (ha : a < 115792089237316195423570985008687907853269984665640564039457584007913129639936) (hb : b < 115792089237316195423570985008687907853269984665640564039457584007913129639936) :
    Spec Tryz.prog 76 #[(.agg ((wd a).map u64).toArray), (.agg ((wd b).map u64).toArray)] [] []
      (fun r Γ' H' => r = (.agg ((wd8 (a * b)).map u64).toArray) ∧ Γ' = [] ∧ H' = []) := by
  refine Spec.of_args Tryz.func76 rfl Tryz.ntmps76 (by simp) fun w => ?_
  refine .seq (.region ?_)
  refine .bx fun b2 => ?_
  refine .bx fun b3 => ?_
  refine .al zero_132 fun b4 => ?_
  refine .nil (.tn (.seq (.region ?_)))
  refine .al zero_132 fun b5 => ?_
  refine .nil (.tn (.seq (.seq (.region ?_))))
  refine .w (.lda agg_87 rfl) ?_
  refine .w (.move rfl) ?_
  refine .nil (.tn (.block ?_))
  refine .lp (ι := Nat × List W64) (fun x => x.1 ≤ 4 ∧ x.2.length = 8 ∧ val x.2 = (a % pw x.1) * b ∧ ∀ k, x.1 + 4 ≤ k → k < 8 → x.2.getD k 0 = 0) (fun T x => (15, it (x.1 : Int)) :: T) (fun T _ => T) (fun T x => Res.cells b5 (x.2.map u64) 132 :: T) (fun x => 4 - x.1) (0, List.replicate 8 0) [3, 4, 5, 14, 63] ?_ (fun x hx => ?_)
  · exact ⟨by decide, rfl, by simp [pw_0, Nat.mod_one, val, List.replicate], fun k _ h => by rw [List.getD_eq_getElem?_getD, List.getElem?_replicate, if_pos h]; rfl⟩
  obtain ⟨i, ws⟩ := x
  obtain ⟨hi, hw1, hw2, hw3⟩ := hx
  dsimp only at hi hw1 hw2 hw3 ⊢
  refine .seq (.region ?_)
  refine .w (.bin rfl rfl BinR.lss_i) ?_
  refine .nil (.tn (.seq ?_))
  refine .cn rfl (fun hc1 => ?_) (fun hc1 => ?_)
  · skip
    refine .skip (.tn (.seq (.block (.seq (.region ?_)))))
    refine .w (.move rfl) ?_
    refine .w (.as (v' := u64 (wat a i)) (.indexAgg Tryz.underlying87 Tryz.underlying30 sz_30 rfl rfl zqb (by first | rfl | exact gm (d := 0) zqg)) rfl) ?_
    refine .w (.assign rfl) ?_
    refine .w (.assign rfl) ?_
    refine .nil (.tn (.seq (.region ?_)))
    refine .w (.assign rfl) ?_
    refine .nil (.tn (.seq (.seq (.region ?_))))
    refine .w (.lda agg_87 rfl) ?_
    refine .w (.move rfl) ?_
    refine .nil (.tn (.block ?_))
    refine .lp (ι := Nat × W64 × List W64) (fun x => x.1 ≤ 4 ∧ MulI a b i x.1 x.2.1 x.2.2) (fun T x => (20, it (x.1 : Int)) :: (8, u64 x.2.1) :: T) (fun T _ => T) (fun T x => Res.cells b5 (x.2.2.map u64) 132 :: T) (fun x => 4 - x.1) (0, 0, ws) [3, 4, 5, 6, 7, 14, 15, 16, 17, 18, 19, 58, 59, 60, 61, 62, 63] ?_ (fun x hx => ?_)
    · exact ⟨Nat.zero_le _, MulI.start a b hw1 hw2 hw3⟩
    clear hw1 hw2 hw3
    obtain ⟨j, c, ws⟩ := x
    obtain ⟨hj, hI⟩ := hx
    dsimp only at hj hI ⊢
    have hw1 := hI.1
    refine .seq (.region ?_)
    refine .w (.bin rfl rfl BinR.lss_i) ?_
    refine .nil (.tn (.seq ?_))
    refine .cn rfl (fun hc2 => ?_) (fun hc2 => ?_)
    · skip
      refine .skip (.tn (.seq (.block (.seq (.region ?_)))))
      refine .w (.move rfl) ?_
      refine .w (.as (v' := u64 (wat b j)) (.indexAgg Tryz.underlying87 Tryz.underlying30 sz_30 rfl rfl zqb (by first | rfl | exact gm (d := 0) zqg)) rfl) ?_
      refine .w (.assign rfl) ?_
      refine .w (.assign rfl) ?_
      refine .nil (.tn (.seq (.region ?_)))
      refine .w (.move rfl) ?_
      refine .w (.move rfl) ?_
      refine .c (f98_spec (wat a i) (wat b j)) body_98 ?_
      refine .w (.move rfl) ?_
      refine .w (.as (v' := u64 (BitVec.ofNat 64 ((wat a i).toNat * (wat b j).toNat / 18446744073709551616))) (.extract rfl rfl) rfl) ?_
      refine .w (.as (v' := u64 (wat a i * wat b j)) (.extract rfl rfl) rfl) ?_
      refine .w (.assign rfl) ?_
      refine .w (.assign rfl) ?_
      refine .nil (.tn (.seq (.region ?_)))
      refine .w (.assign rfl) ?_
      refine .nil (.tn (.seq (.region ?_)))
      refine .w (.move rfl) ?_
      refine .w (.move rfl) ?_
      refine .w (.move rfl) ?_
      refine .w (.asI ((i + j : Nat) : Int) (.bin rfl rfl (BinR.add_i zqf))) ?_
      refine .w (.ixA Tryz.underlying132 sz_30 rfl rfl) ?_
      refine .w (.ld one_30 rfl (hj := by exact gm (d := 0) (by omega))) ?_
      refine .w (.ext rfl (ext_83 _ _ 0#64 (by decide))) ?_
      refine .w (.move rfl) ?_
      refine .w (.as (v' := u64 (wat a i * wat b j + (ws.getD (i + j) 0) + 0#64)) (.extract rfl rfl) rfl) ?_
      refine .w (.as (v' := u64 (BitVec.ofNat 64 (((wat a i * wat b j).toNat + (ws.getD (i + j) 0).toNat + (0#64).toNat) / 18446744073709551616))) (.extract rfl rfl) rfl) ?_
      refine .w (.assign rfl) ?_
      refine .w (.assign rfl) ?_
      refine .nil (.tn (.seq (.region ?_)))
      refine .w (.move rfl) ?_
      refine .w (.move rfl) ?_
      refine .w (.bin rfl rfl (BinR.add_u64)) ?_
      refine .w (.assign rfl) ?_
      refine .nil (.tn (.seq (.region ?_)))
      refine .w (.move rfl) ?_
      refine .w (.move rfl) ?_
      refine .w (.ext rfl (ext_83 _ _ 0#64 (by decide))) ?_
      refine .w (.move rfl) ?_
      refine .w (.as (v' := u64 (mlo (wat a i) (wat b j) (ws.getD (i + j) 0) c)) (.extract rfl rfl) (congrArg u64 (mlo_eq _ _ _ _))) ?_
      refine .w (.as (v' := u64 (BitVec.ofNat 64 (((wat a i * wat b j + (ws.getD (i + j) 0) + 0#64).toNat + c.toNat + (0#64).toNat) / 18446744073709551616))) (.extract rfl rfl) rfl) ?_
      refine .w (.assign rfl) ?_
      refine .w (.assign rfl) ?_
      refine .nil (.tn (.region ?_))
      refine .w (.move rfl) ?_
      refine .w (.move rfl) ?_
      refine .w (.asI ((i + j : Nat) : Int) (.bin rfl rfl (BinR.add_i zqf))) ?_
      refine .w (.move rfl) ?_
      refine .w (.move rfl) ?_
      refine .w (.move rfl) ?_
      refine .w (.as (v' := u64 (mhi (wat a i) (wat b j) (ws.getD (i + j) 0) c)) (.bin rfl rfl (BinR.add_u64)) (congrArg u64 (mhi_eq _ _ _ _))) ?_
      refine .w (.ixA Tryz.underlying132 sz_30 rfl rfl) ?_
      first | refine .s1 sz_30 ?_ | refine .sr1 sz_30 ?_
      refine .w (.assign rfl) ?_
      refine .nil (.block_normal (.tn (.region ?_)))
      refine .w (.asI ((j + 1 : Nat) : Int) (.bin rfl rfl (BinR.add_i zqf))) ?_
      refine .w (.move rfl) ?_
      refine .nil ?_
      rw [← List.map_set]
      refine .hd (j + 1, mhi (wat a i) (wat b j) (ws.getD (i + j) 0) c, ws.set (i + j) (mlo (wat a i) (wat b j) (ws.getD (i + j) 0) c)) ?_
      exact ⟨⟨by dsimp only; omega, hI.step (by omega) (by omega)⟩, by dsimp only; omega⟩
    · obtain rfl : j = 4 := by omega
      refine .exit (.then_exit (.then_exit (.block_exit (.tn (.region ?_)))))
      refine .w (.move rfl) ?_
      refine .w (.asI ((i + 4 : Nat) : Int) (.bin rfl rfl (BinR.add_i zqf))) ?_
      refine .w (.move rfl) ?_
      refine .w (.ixA Tryz.underlying132 sz_30 rfl rfl) ?_
      first | refine .s1 sz_30 ?_ | refine .sr1 sz_30 ?_
      refine .nil (.block_normal (.tn (.region ?_)))
      refine .w (.asI ((i + 1 : Nat) : Int) (.bin rfl rfl (BinR.add_i zqf))) ?_
      refine .w (.move rfl) ?_
      refine .nil ?_
      rw [← List.map_set]
      refine .hd (i + 1, ws.set (i + 4) c) ?_
      exact ⟨⟨by dsimp only; omega, (hI.row hb (by omega)).1, (hI.row hb (by omega)).2.1, (hI.row hb (by omega)).2.2⟩, by dsimp only; omega⟩
  · obtain rfl : i = 4 := by omega
    obtain rfl : ws = wd8 (a * b) := by rw [val_wd8 hw1, hw2, pw_4, Nat.mod_eq_of_lt ha]
    refine .exit (.then_exit (.then_exit (.block_exit (.tn (.seq (.region ?_))))))
    refine .w (.lda agg_132 rfl) ?_
    first | refine .sa sz_132 ?_ | refine .so sz_132 ?_ | refine .sr sz_132 ?_
    refine .nil (.tn (.ret ?_))
    exact .dn [] [] (res1 rfl (.cl agg_132)) ⟨rfl, rfl, rfl⟩

theorem f53_spec (px al : W64) :
    Spec Tryz.prog 53 #[u64 px, u64 al] [] []
      (fun r Γ' H' => r = (.bool (decide (al.toNat < 3 * px.toNat))) ∧ Γ' = [] ∧ H' = []) := by
  refine Spec.of_args Tryz.func53 rfl Tryz.ntmps53 (by simp) fun w => ?_
  refine .seq (.region ?_)
  refine .w (.assign rfl) ?_
  refine .nil (.tn (.seq (.region ?_)))
  refine .w (.move rfl) ?_
  refine .w (.as (v' := .agg ((wd px.toNat).map u64).toArray) (.build bld_87 rfl rfl) (by rw [wd_small]; rfl)) ?_
  refine .w (.as (v' := .agg ((wd 3).map u64).toArray) (.build bld_87 rfl rfl) rfl) ?_
  refine .c (f76_spec px.toNat 3 (w_lt _) (by decide)) body_76 ?_
  refine .al zero_132 fun b5 => ?_
  first | refine .sa sz_132 ?_ | refine .so sz_132 ?_ | refine .sr sz_132 ?_
  refine .nil (.tn (.seq (.region ?_)))
  refine .w (.cutArr (l := 0) (h := 4) Tryz.underlying132 sz_30 rfl rfl ⟨_, rfl⟩ zqb zqb zqb) ?_
  refine .w (.s2a Tryz.underlying87 rfl (by decide)) ?_
  refine .w (.as (v' := .agg ((wd (px.toNat * 3)).map u64).toArray) (.lda agg_87 rfl) (congrArg (fun l : List Value => Value.agg l.toArray) (by rw [List.drop_zero, ← List.map_take, wd8_take]))) ?_
  refine .w (.move rfl) ?_
  refine .w (.as (v' := .agg ((wd al.toNat).map u64).toArray) (.build bld_87 rfl rfl) (by rw [wd_small]; rfl)) ?_
  refine .c (f37_spec (px.toNat * 3) al.toNat (by have := px.isLt; omega) (w_lt _)) body_37 ?_
  refine .w (.as (v' := .bool (decide (al.toNat < 3 * px.toNat))) (.bin rfl rfl BinR.gtr_i) (congrArg Value.bool (decide_eq_decide.2 (by rw [cmp_gt]; omega)))) ?_
  refine .w (.assign rfl) ?_
  refine .nil (.tn (.ret ?_))
  exact .dn [] [] (res1 rfl (.tmp rfl)) ⟨rfl, rfl, rfl⟩

theorem f22_spec (v : Value) (n : Nat) (xs : List Value) (hn : n ≤ 1000000000) (h1 : ∀ a ∈ xs, a.oneCell' = true) :
    Spec Tryz.prog 22 #[v] [Res.rd v n 1 xs] []
      (fun r Γ' H' => True ∧ Γ' = [] ∧ H' = [Res.row r n 30 1 xs]) := by
  refine Spec.know (φ := ∃ A c, v = .slice A n c ∧ (A = none → xs = []) ∧ xs.length = n * 1 ∧ n ≤ c ∧ n ≤ maxLen) (fun w hs => hs.rdForm (.head _)) ?_
  rintro ⟨A, c, rfl, hA, hl, hc, hm⟩
  refine Spec.of_args Tryz.func22 rfl Tryz.ntmps22 (by simp) fun w => ?_
  refine .seq (.region ?_)
  refine .w (.assign rfl) ?_
  refine .nil (.tn (.seq (.seq (.region ?_))))
  refine .w (.move rfl) ?_
  refine .w (.bin rfl rfl (BinR.eql_s Tryz.underlying22)) ?_
  refine .nil (.tn ?_)
  refine .cn rfl (fun hc1 => ?_) (fun hc1 => ?_)
  · have hA0 : A = none := by cases A <;> simp_all
    have hx := hA hA0
    have hn0 : n = 0 := by rw [hx] at hl; simpa using hl.symm
    subst hx hn0
    refine .seq (.region ?_)
    refine JO.nilRow 30 1 ?_
    refine JO.v (Yv.assign rfl) (by decide) ?_
    refine .nil (.tn (.ret (.then_ret ?_)))
    exact .dn [] [Res.row (.slice none 0 0) 0 30 1 []] (res1 rfl (.tmp rfl)) ⟨trivial, rfl, rfl⟩
  · refine .skip (.tn (.seq (.region ?_)))
    refine .le Tryz.underlying22 sz_30 fun v5 => ?_
    refine .w (.move rfl) ?_
    refine .ap Tryz.underlying22 info_30 (fun v7 => ?_) (hone := h1)
    refine .w (.assign rfl) ?_
    refine .nil (.tn (.ret ?_))
    exact .dn [] [Res.row _ (0 + n) 30 1 ([] ++ xs)] (res1 rfl (.tmp rfl)) ⟨trivial, rfl, by rw [Nat.zero_add, List.nil_append]⟩

theorem eql_dig {x y : Operand} {a b : D32} : BinR Tryz.prog .eql 53 x y (dgV a) (dgV b) (.bool (decide (a = b))) := by
  have := BinR.eql_arr (P := Tryz.prog) (x := x) (y := y) (f := u8) (g := fun x => (x.toNat : Int)) (k := .u8) Tryz.underlying53 Tryz.underlying5 sz_5 (by kernel_rfl) (fun _ => rfl) (fun _ _ h => u8_inj h) a.1 b.1 a.2 b.2
  rw [d32_eq] at this
  exact this
theorem neq_dig {x y : Operand} {a b : D32} : BinR Tryz.prog .neq 53 x y (dgV a) (dgV b) (.bool (decide (a ≠ b))) := by
  have := BinR.neq_arr (P := Tryz.prog) (x := x) (y := y) (f := u8) (g := fun x => (x.toNat : Int)) (k := .u8) Tryz.underlying53 Tryz.underlying5 sz_5 (by kernel_rfl) (fun _ => rfl) (fun _ _ h => u8_inj h) a.1 b.1 a.2 b.2
  rw [d32_neq] at this
  exact this

theorem f78_spec (who : Int) (x v : D32) (bv bt p a b : Nat) (sv : Value) (al : W64) (S : List W64) (h0 : 0 ≤ who) (h1 : who < S.length) :
    Spec Tryz.prog 78 #[(it who), (dgV x), (ptr bv 0), (ptr bt 0)] [Res.cells bv (v.1.map u8) 53, Res.cells bt [ptr p 0] 56, Res.cells p [sv, u64 al, .map (some a), .map (some b)] 93, Res.rd sv S.length 1 (S.map u64)] []
      (fun r Γ' H' => r = (u64 (BitVec.ofNat 64 (forW S v (who, x, 0)))) ∧ Γ' = [] ∧ H' = []) := by
  refine Spec.of_args Tryz.func78 rfl Tryz.ntmps78 (by simp) fun w => ?_
  obtain ⟨i, rfl⟩ : ∃ i : Nat, who = i := ⟨who.toNat, by omega⟩
  refine .seq (.region ?_)
  refine .bx fun b5 => ?_
  refine .w (.assign rfl) ?_
  refine .nil (.tn (.seq (.seq (.region ?_))))
  refine .w (.as (v' := dgV x) (.lda agg_53 rfl) rfl) ?_
  refine .w (.as (v' := dgV v) (.lda agg_53 rfl) rfl) ?_
  refine .w (.bin rfl rfl (neq_dig)) ?_
  refine .nil (.tn ?_)
  refine .cn rfl (fun hc1 => ?_) (fun hc1 => ?_)
  · rw [forW, if_neg hc1]
    refine .seq (.region ?_)
    refine .w (.assign rfl) ?_
    refine .nil (.tn (.ret (.then_ret ?_)))
    exact .dn [] [] (res1 rfl (.tmp rfl)) ⟨rfl, rfl, rfl⟩
  · have hxv : x = v := hc1
    rw [forW, if_pos hxv]
    refine .skip (.tn (.seq (.region ?_)))
    refine .w (.ld one_56 rfl) ?_
    refine .w (.nilCheck rfl) ?_
    refine .w (.fieldAddr fa_93_0 rfl) ?_
    refine .w (.ld one_22 rfl) ?_
    refine .w (.move rfl) ?_
    refine .w (.ix1 Tryz.underlying22 sz_30 rfl rfl) ?_
    refine .w (.as (v' := u64 (BitVec.ofNat 64 (stk S (i : Int)))) (.ld one_30 rfl) (by simp [stk])) ?_
    refine .w (.assign rfl) ?_
    refine .nil (.tn (.ret ?_))
    exact .dn [] [] (res1 rfl (.tmp rfl)) ⟨rfl, rfl, rfl⟩

theorem f77For_spec (v : D32) (bv : Nat) (bt : Nat) (p a b : Nat) (sv : Value) (al : W64) (S : List W64) (m : MM Int D32) (hT : TOk S m) (hS : sumS S < 18446744073709551616) :
    Spec Tryz.prog 77 #[(.map (some a)), (.func (.func 78) #[] #[ptr bv 0, ptr bt 0])] [Res.cells bv (v.1.map u8) 53, Res.cells bt [ptr p 0] 56, Res.cells p [sv, u64 al, .map (some a), .map (some b)] 93, Res.rd sv S.length 1 (S.map u64), mpR a itK dgV m] []
      (fun r Γ' H' => r = (u64 (BitVec.ofNat 64 (gsum (forW S v) m.es))) ∧ Γ' = [] ∧ H' = []) := by
  refine Spec.of_args Tryz.func77 rfl Tryz.ntmps77 (by simp) fun w => ?_
  refine .seq (.region ?_)
  refine .w (.assign rfl) ?_
  refine .nil (.tn (.seq (.region ?_)))
  refine .w (.assign rfl) ?_
  refine .nil (.tn (.seq (.seq (.region ?_))))
  refine .w (.move rfl) ?_
  refine .rg Tryz.underlying90 fun r9 => ?_
  refine .nil (.tn (.block ?_))
  refine .lp (ι := List VE) (fun x => m.Walk x) (fun T x => (5, u64 (BitVec.ofNat 64 (gsum (forW S v) x))) :: T) (fun T _ => T) (fun T x => miR r9 a m x :: T) (fun x => m.es.length - x.length) ([]) [1, 4, 9, 21] ?_ (fun x hx => ?_)
  · exact MM.Walk.nil
  have hW := hx
  refine .seq (.region ?_)
  refine .nx hT.ok hW ?_ ?_
  · intro hp
    refine .w (.extract rfl rfl) ?_
    refine .nil (.tn (.seq ?_))
    refine .cf rfl ?_
    refine .exit (.then_exit (.then_exit (.block_exit (.tn (.seq (.region ?_))))))
    refine .w (.move rfl) ?_
    refine .w (.assign rfl) ?_
    refine .nil (.tn (.ret ?_))
    exact .dn [] [] (res1 rfl (.tmp rfl)) ⟨by rw [gsum_perm hp], rfl, rfl⟩
  · intro e he hnp hw2
    refine .w (.extract rfl rfl) ?_
    refine .nil (.tn (.seq ?_))
    refine .ct rfl ?_
    refine .skip (.tn (.block (.seq (.region ?_))))
    refine .w (.en hT.ok he) ?_
    refine .w (.as (v' := it e.1) (.extract rfl rfl) rfl) ?_
    refine .w (.as (v' := dgV e.2.1) (.extract rfl rfl) rfl) ?_
    refine .al zero_53 fun b7 => ?_
    refine .w (.assign rfl) ?_
    first | refine .sa sz_53 ?_ | refine .so sz_53 ?_ | refine .sr sz_53 ?_
    refine .nil (.tn (.region ?_))
    refine .w (.move rfl) ?_
    refine .w (.move rfl) ?_
    refine .w (.move rfl) ?_
    refine .w (.as (v' := dgV e.2.1) (.lda agg_53 rfl) rfl) ?_
    refine JO.callF (f78_spec e.1 e.2.1 v bv bt p a b sv al S (hT.rng e he).1 (hT.rng e he).2) body_78 rfl rfl rfl zqd (by repeat (first | exact Lends.nil _ | apply Lends.cons | exact Lend.same _ _ | exact Lend.row _ _ _ _ _ _ (by decide) | apply Lend.there)) (by rintro _ _ _ ⟨_, h, _⟩; exact h) (by decide) ?_
    rintro _ _ ⟨_, ⟨rfl, _, rfl⟩, hH⟩
    simp only [List.cons_append, List.nil_append] at hH; subst hH
    refine .w (.as (v' := u64 (BitVec.ofNat 64 (gsum (forW S v) (x ++ [e])))) (.bin rfl rfl (BinR.add_u64)) (by rw [gsum_snoc, BitVec.ofNat_add]; rfl)) ?_
    refine .w (.assign rfl) ?_
    refine .nil (.block_normal ?_)
    refine .hd (x ++ [e]) ?_
    exact ⟨hw2, by have := walk_len hw2; simp at this ⊢; omega⟩

theorem f54_spec (p a b : Nat) (sv : Value) (al : W64) (S : List W64) (m : MM Int D32) (v : D32) (hT : TOk S m) (hS : sumS S < 18446744073709551616) :
    Spec Tryz.prog 54 #[(ptr p 0), (dgV v)] [Res.cells p [sv, u64 al, .map (some a), .map (some b)] 93, Res.rd sv S.length 1 (S.map u64), mpR a itK dgV m] []
      (fun r Γ' H' => r = (u64 (BitVec.ofNat 64 (forA S m.get v))) ∧ Γ' = [] ∧ H' = []) := by
  refine Spec.of_args Tryz.func54 rfl Tryz.ntmps54 (by simp) fun w => ?_
  refine .seq (.region ?_)
  refine .bx fun b2 => ?_
  refine .bx fun b3 => ?_
  refine .w (.assign rfl) ?_
  refine .nil (.tn (.seq (.region ?_)))
  refine .w (.ld one_56 rfl) ?_
  refine .w (.nilCheck rfl) ?_
  refine .w (.fieldAddr fa_93_2 rfl) ?_
  refine .w (.ld one_90 rfl) ?_
  refine .w (.makeFunc rfl rfl) ?_
  refine .c (f77For_spec v b3 b2 p a b sv al S m hT hS) body_77 ?_
  rw [for_by hT]
  refine .w (.assign rfl) ?_
  refine .nil (.tn (.ret ?_))
  exact .dn [] [] (res1 rfl (.tmp rfl)) ⟨rfl, rfl, rfl⟩

theorem f26_spec (p a b : Nat) (sv : Value) (al : W64) (S : List W64) (m : MM Int D32) (tw : MM Int Bool) (who : Int) (v : D32) (hT : TOk S m) (hln : S.length ≤ 1000000) :
    Spec Tryz.prog 26 #[(ptr p 0), (it who), (dgV v)] [Res.cells p [sv, u64 al, .map (some a), .map (some b)] 93, Res.rd sv S.length 1 (S.map u64)] [mpR a itK dgV m, mpR b itK blV tw]
      (fun r Γ' H' => ∃ m' tw', r = it (voteE S m.get who v) ∧ (TOk S m') ∧ m' = (if voteE S m.get who v = 0 then m.put who v else m) ∧ (tw.Ok → tw'.Ok) ∧ tw' = (if voteE S m.get who v = 52 then tw.put who true else tw) ∧ Γ' = [] ∧ H' = [mpR a itK dgV m', mpR b itK blV tw']) := by
  refine Spec.of_args Tryz.func26 rfl Tryz.ntmps26 (by simp) fun w => ?_
  refine .seq (.region ?_)
  refine .bx fun b5 => ?_
  refine .w (.assign rfl) ?_
  refine .nil (.tn (.seq (.seq (.region ?_))))
  refine .w (.move rfl) ?_
  refine .w (.bin rfl rfl BinR.lss_i) ?_
  refine .w (.move rfl) ?_
  refine .join 8 19 (.bool (decide (who < 0 ∨ (S.length : Int) ≤ who))) ?_ ?_
  · refine .gn (g := 10) rfl (fun hg6 hg6' => ?_) (fun hg6 hg6' => ?_)
    · refine .gf (g := 11) rfl rfl hg6 (by decide) ?_
      refine .gf (g := 11) rfl rfl hg6 (by decide) ?_
      refine .gf (g := 11) rfl rfl hg6 (by decide) ?_
      refine .gf (g := 11) rfl rfl hg6 (by decide) ?_
      refine .gf (g := 11) rfl rfl hg6 (by decide) ?_
      refine .gf (g := 11) rfl rfl hg6 (by decide) ?_
      refine .gf (g := 11) rfl rfl hg6 (by decide) ?_
      refine .w (.pick1 rfl hg6 rfl) ?_
      refine .nil ?_
      refine .head () (by first | (refine ⟨by first | rfl | exact congrArg (fun b => some (Value.bool b)) (by first | exact (decide_eq_true (by omega)).symm | exact (decide_eq_false (by omega)).symm | exact decide_eq_decide.2 (by omega)) | (simp [*]; done) | (show some _ = some _; simp [*]; done), ?_⟩; repeat (first | exact trivial | refine ⟨rfl, ?_⟩))) (fun _ h => h) (Picks.perm zqd) ?_
      trivial
    · refine .gt (g := 11) rfl rfl hg6 ?_
      refine .w (.move rfl) ?_
      refine .gt (g := 11) rfl rfl hg6 ?_
      refine .w (.move rfl) ?_
      refine .gt (g := 11) rfl rfl hg6 ?_
      refine .w (.nilCheck rfl) ?_
      refine .gt (g := 11) rfl rfl hg6 ?_
      refine .w (.fieldAddr fa_93_0 rfl) ?_
      refine .gt (g := 11) rfl rfl hg6 ?_
      refine .w (.ld one_22 rfl) ?_
      refine .gt (g := 11) rfl rfl hg6 ?_
      refine .w (.len Tryz.underlying22 rfl) ?_
      refine .gt (g := 11) rfl rfl hg6 ?_
      refine .w (.bin rfl rfl BinR.geq_i) ?_
      refine .w (.pick0 rfl hg6 rfl) ?_
      refine .nil ?_
      refine .head () (by first | (refine ⟨by first | rfl | exact congrArg (fun b => some (Value.bool b)) (by first | exact (decide_eq_true (by omega)).symm | exact (decide_eq_false (by omega)).symm | exact decide_eq_decide.2 (by omega)) | (simp [*]; done) | (show some _ = some _; simp [*]; done), ?_⟩; repeat (first | exact trivial | refine ⟨rfl, ?_⟩))) (fun _ h => h) (Picks.perm zqd) ?_
      trivial
  · refine .nil (.tn ?_)
    refine .cn rfl (fun hc1 => ?_) (fun hc1 => ?_)
    · have hE : voteE S m.get who v = 1 := if_pos hc1
      refine .seq (.region ?_)
      refine .w (.assign rfl) ?_
      refine .nil (.tn (.ret (.then_ret ?_)))
      exact .dn [] [mpR a itK dgV m, mpR b itK blV tw] (res1 rfl (.tmp rfl)) ⟨m, tw, by rw [hE], hT, by rw [hE]; rfl, id, by rw [hE]; rfl, rfl, rfl⟩
    · obtain ⟨i, rfl⟩ : ∃ i : Nat, who = i := ⟨who.toNat, by omega⟩
      have hil : i < S.length := by omega
      refine .skip (.tn (.seq (.region ?_)))
      refine .w (.move rfl) ?_
      refine .w (.nilCheck rfl) ?_
      refine .w (.fieldAddr fa_93_2 rfl) ?_
      refine .w (.ld one_90 rfl) ?_
      refine .w (.move rfl) ?_
      refine .w (.as (v' := .tuple #[dgV ((m.get (i : Int)).getD D0), .bool (m.get (i : Int)).isSome]) (.lk2 ((i : Nat) : Int) Tryz.underlying90 mkey_90 zf_53) (by cases m.get (i : Int) <;> rfl)) ?_
      refine .w (.move rfl) ?_
      refine .w (.as (v' := dgV ((m.get (i : Int)).getD D0)) (.extract rfl rfl) rfl) ?_
      refine .w (.as (v' := .bool (m.get (i : Int)).isSome) (.extract rfl rfl) rfl) ?_
      refine .al zero_53 fun b7 => ?_
      first | refine .sa sz_53 ?_ | refine .so sz_53 ?_ | refine .sr sz_53 ?_
      refine .w (.assign rfl) ?_
      refine .nil (.tn (.seq (.block (.seq (.region ?_)))))
      refine .w (.move rfl) ?_
      refine .w (.nilCheck rfl) ?_
      refine .w (.fieldAddr fa_93_0 rfl) ?_
      refine .w (.ld one_22 rfl) ?_
      refine .w (.move rfl) ?_
      refine .w (.ix1 Tryz.underlying22 sz_30 rfl rfl) ?_
      refine .w (.ld one_30 rfl) ?_
      refine .w (.as (v' := .bool (decide (stk S i = 0))) (.bin rfl rfl (BinR.eql_u64 (b := 0#64))) (congrArg Value.bool (decide_eq_decide.2 (stk0 S i)))) ?_
      refine .w (.assign rfl) ?_
      refine .nil (.tn ?_)
      refine .cn rfl (fun hc2 => ?_) (fun hc2 => ?_)
      · try simp only [BitVec.reduceToNat] at hc2
        have hE : voteE S m.get i v = 51 := by rw [voteE, if_neg hc1, if_pos hc2]
        refine .seq (.region ?_)
        refine .w (.assign rfl) ?_
        refine .nil (.tn (.ret (.block_ret (.then_ret ?_))))
        exact .dn [] [mpR a itK dgV m, mpR b itK blV tw] (res1 rfl (.tmp rfl)) ⟨m, tw, by rw [hE], hT, by rw [hE]; rfl, id, by rw [hE]; rfl, rfl, rfl⟩
      · try simp only [BitVec.reduceToNat] at hc2
        skip
        refine .seq (.region ?_)
        refine .w (.move rfl) ?_
        refine .join 5 44 (.bool (decide (m.get ((i : Nat) : Int) = some v))) ?_ ?_
        · refine .w (.move rfl) ?_
          refine .gn (g := 8) rfl (fun hg39 hg39' => ?_) (fun hg39 hg39' => ?_)
          · refine .gt (g := 40) rfl rfl hg39 ?_
            refine .w (.as (v' := dgV ((m.get (i : Int)).getD D0)) (.lda agg_53 rfl) rfl) ?_
            refine .gt (g := 40) rfl rfl hg39 ?_
            refine .w (.as (v' := dgV v) (.lda agg_53 rfl) rfl) ?_
            refine .gt (g := 40) rfl rfl hg39 ?_
            refine .w (.bin rfl rfl (eql_dig)) ?_
            refine .w (.pick1 rfl hg39 rfl) ?_
            refine .nil ?_
            refine .head () (by first | (refine ⟨by first | rfl | exact congrArg some (congrArg Value.bool (by first | (obtain ⟨u, hu⟩ := Option.isSome_iff_exists.1 hg39'; rw [hu]; simp; done) | (cases hm : m.get ((i : Nat) : Int) <;> simp_all; done))), ?_⟩; repeat (first | exact trivial | refine ⟨rfl, ?_⟩))) (fun _ h => h) (Picks.perm zqd) ?_
            trivial
          · refine .gf (g := 40) rfl rfl hg39 (by decide) ?_
            refine .gf (g := 40) rfl rfl hg39 (by decide) ?_
            refine .gf (g := 40) rfl rfl hg39 (by decide) ?_
            refine .w (.pick0 rfl hg39 rfl) ?_
            refine .nil ?_
            refine .head () (by first | (refine ⟨by first | rfl | exact congrArg some (congrArg Value.bool (by first | (obtain ⟨u, hu⟩ := Option.isSome_iff_exists.1 hg39'; rw [hu]; simp; done) | (cases hm : m.get ((i : Nat) : Int) <;> simp_all; done))), ?_⟩; repeat (first | exact trivial | refine ⟨rfl, ?_⟩))) (fun _ h => h) (Picks.perm zqd) ?_
            trivial
        · refine .w (.assign rfl) ?_
          refine .nil (.tn ?_)
          refine .cn rfl (fun hc3 => ?_) (fun hc3 => ?_)
          · have hE : voteE S m.get i v = 13 := by rw [voteE, if_neg hc1, if_neg hc2, if_pos hc3]
            refine .seq (.region ?_)
            refine .w (.assign rfl) ?_
            refine .nil (.tn (.ret (.block_ret (.then_ret ?_))))
            exact .dn [] [mpR a itK dgV m, mpR b itK blV tw] (res1 rfl (.tmp rfl)) ⟨m, tw, by rw [hE], hT, by rw [hE]; rfl, id, by rw [hE]; rfl, rfl, rfl⟩
          · skip
            refine .seq (.region ?_)
            refine .w (.move rfl) ?_
            refine .w (.assign rfl) ?_
            refine .nil (.tn ?_)
            refine .cn rfl (fun hc4 => ?_) (fun hc4 => ?_)
            · have hE : voteE S m.get i v = 52 := by rw [voteE, if_neg hc1, if_neg hc2, if_neg hc3, if_pos hc4]
              refine .seq (.region ?_)
              refine .w (.move rfl) ?_
              refine .w (.nilCheck rfl) ?_
              refine .w (.fieldAddr fa_93_3 rfl) ?_
              refine .w (.ld one_91 rfl) ?_
              refine .w (.move rfl) ?_
              refine .mu ((i : Nat) : Int) true Tryz.underlying91 mkey_91 ?_
              refine .nil (.tn (.seq (.region ?_)))
              refine .w (.assign rfl) ?_
              refine .nil (.tn (.ret (.block_ret (.then_ret ?_))))
              exact .dn [] [mpR a itK dgV m, mpR b itK blV (tw.put i true)] (res1 rfl (.tmp rfl)) ⟨m, tw.put i true, by rw [hE], hT, by rw [hE]; rfl, fun h => MM.ok_put h _ _, by rw [hE]; rfl, rfl, rfl⟩
            · have hE : voteE S m.get i v = 0 := by rw [voteE, if_neg hc1, if_neg hc2, if_neg hc3, if_neg (by rw [hc4]; decide)]
              refine .skip (.block_normal (.tn (.seq ?_)))
              refine JC.draw (.one 0 (.one 1 (.one 2 (.one 3 (.one 4 (.one 5 (.one 6 .nil))))))) (fun i => ([6] : List Nat).contains i) (fun i => ([6] : List Nat).contains i) (fun i => ([0, 1, 2, 4] : List Nat).contains i) mixed (by kernel_rfl) (by decide) (by kernel_rfl) ?_
              refine .uw rfl (.move rfl) ?_
              refine .uw rfl (.nilCheck rfl) ?_
              refine .uw rfl (.fieldAddr fa_93_2 rfl) ?_
              refine .w rfl (.ld one_90 rfl) ?_
              refine .uw rfl (.move rfl) ?_
              refine .w rfl (.as (v' := dgV v) (.lda agg_53 rfl) rfl) ?_
              refine .mw0 rfl (.mu ((i : Nat) : Int) v Tryz.underlying90 mkey_90) ?_
              rintro _ _ _ ⟨rfl, rfl⟩
              refine kp ?_
              refine .nil (.tn (.seq (.region ?_)))
              refine .w (.assign rfl) ?_
              refine .nil (.tn (.ret ?_))
              exact .dn [] [mpR a itK dgV (m.put i v), mpR b itK blV tw] (res1 rfl (.tmp rfl)) ⟨m.put i v, tw, by rw [hE], tok_put hT v (by omega) (by omega), by rw [hE]; rfl, id, by rw [hE]; rfl, rfl, rfl⟩

set_option maxHeartbeats 1000000 in
theorem f21ok_spec (u : Value) (S : List W64) (h1 : 1 ≤ S.length) (h2 : S.length ≤ 40) (h3 : sumS S < 9223372036854775808) :
    Spec Tryz.prog 21 #[u] [Res.var 0 [u64 9223372036854775808, u64 0, u64 0, u64 0], Res.rd u S.length 1 (S.map u64)] []
      (fun r Γ' H' => ∃ p a b sv, r = .tuple #[ptr p 0, it 0] ∧ Γ' = [] ∧ H' = [Res.cells p [sv, u64 (BitVec.ofNat 64 (sumS S)), .map (some a), .map (some b)] 93, Res.row sv S.length 30 1 (S.map u64), mpR a itK dgV MM.nil, mpR b itK blV MM.nil]) := by
  refine Spec.of_args Tryz.func21 rfl Tryz.ntmps21 (by simp) fun w => ?_
  refine JC.know (φ := S.length ≤ 9223372036854775807) (fun w hs => by obtain ⟨_, _, _, _, _, _, h⟩ := hs.rdForm (.tail _ (.head _)); unfold maxLen at h; omega) fun hln => ?_
  have htot : totN S = sumS S := totN_sum (by omega)
  refine .seq (.region ?_)
  refine .w (.assign rfl) ?_
  refine .w (.assign rfl) ?_
  refine .nil (.tn (.seq (.region ?_)))
  refine .w (.move rfl) ?_
  refine .c (f36_spec u S) body_36 ?_
  refine .al zero_87 fun b4 => ?_
  first | refine .sa sz_87 ?_ | refine .so sz_87 ?_ | refine .sr sz_87 ?_
  refine .nil (.tn (.seq (.block (.seq (.region ?_)))))
  refine .w (.move rfl) ?_
  refine .join 7 15 (.bool (decide (S.length < 1 ∨ 40 < S.length))) ?_ ?_
  · refine .w (.len Tryz.underlying22 rfl) ?_
    refine .w (.bin rfl rfl BinR.lss_i) ?_
    refine .w (.move rfl) ?_
    refine .gn (g := 10) rfl (fun hg11 hg11' => ?_) (fun hg11 hg11' => ?_)
    · refine .gf (g := 11) rfl rfl hg11 (by decide) ?_
      refine .gf (g := 11) rfl rfl hg11 (by decide) ?_
      refine .gf (g := 11) rfl rfl hg11 (by decide) ?_
      refine .w (.pick1 rfl hg11 rfl) ?_
      refine .nil ?_
      refine .head () (by first | (refine ⟨by first | rfl | exact congrArg (fun b => some (Value.bool b)) (by first | exact (decide_eq_true (by omega)).symm | exact (decide_eq_false (by omega)).symm | exact decide_eq_decide.2 (by omega)) | (simp [*]; done) | (show some _ = some _; simp [*]; done), ?_⟩; repeat (first | exact trivial | refine ⟨rfl, ?_⟩))) (fun _ h => h) (Picks.perm zqd) ?_
      trivial
    · refine .gt (g := 11) rfl rfl hg11 ?_
      refine .w (.move rfl) ?_
      refine .gt (g := 11) rfl rfl hg11 ?_
      refine .w (.len Tryz.underlying22 rfl) ?_
      refine .gt (g := 11) rfl rfl hg11 ?_
      refine .w (.bin rfl rfl BinR.gtr_i) ?_
      refine .w (.pick0 rfl hg11 rfl) ?_
      refine .nil ?_
      refine .head () (by first | (refine ⟨by first | rfl | exact congrArg (fun b => some (Value.bool b)) (by first | exact (decide_eq_true (by omega)).symm | exact (decide_eq_false (by omega)).symm | exact decide_eq_decide.2 (by omega)) | (simp [*]; done) | (show some _ = some _; simp [*]; done), ?_⟩; repeat (first | exact trivial | refine ⟨rfl, ?_⟩))) (fun _ h => h) (Picks.perm zqd) ?_
      trivial
  · refine .w (.assign rfl) ?_
    refine .nil (.tn ?_)
    refine .cn rfl (fun hc1 => ?_) (fun hc1 => ?_)
    · exact absurd hc1 (by omega)
    · refine .seq (.region ?_)
      refine .w (.as (v' := .agg ((wd (totN S)).map u64).toArray) (.lda agg_87 rfl) rfl) ?_
      refine .w (.as (v' := .agg ((wd 9223372036854775808).map u64).toArray) (.lda agg_87 rfl) rfl) ?_
      refine .c (f37_spec (totN S) 9223372036854775808 (tot_lt _) (by decide)) body_37 ?_
      refine .w (.as (v' := .bool (decide (9223372036854775808 ≤ totN S))) (.bin rfl rfl BinR.geq_i) (congrArg Value.bool (decide_eq_decide.2 (cmp_ge _ _)))) ?_
      refine .w (.assign rfl) ?_
      refine .nil (.tn ?_)
      refine .cn rfl (fun hc2 => ?_) (fun hc2 => ?_)
      · exact absurd hc2 (by omega)
      · refine .skip (.block_normal (.tn (.seq ?_)))
        refine JC.draw (.one 0 (.one 2 (.one 3 (.alt 1 (.alt 4 (.one 5 (.one 6 (.one 7 (.one 8 (.one 9 .nil))))) (.alt 5 (.one 4 (.one 6 (.one 7 (.one 8 (.one 9 .nil))))) .nil)) (.alt 4 (.alt 1 (.one 5 (.one 6 (.one 7 (.one 8 (.one 9 .nil))))) (.alt 5 (.one 1 (.one 6 (.one 7 (.one 8 (.one 9 .nil))))) .nil)) (.alt 5 (.alt 1 (.one 4 (.one 6 (.one 7 (.one 8 (.one 9 .nil))))) (.alt 4 (.one 1 (.one 6 (.one 7 (.one 8 (.one 9 .nil))))) .nil)) .nil)))))) (fun i => ([7] : List Nat).contains i) (fun i => ([1, 4, 5, 7] : List Nat).contains i) (fun i => ([0, 2, 6, 8, 9] : List Nat).contains i) mixed (by kernel_rfl) (by decide) (by kernel_rfl) ?_
        refine .uw rfl (.move rfl) ?_
        refine .uw rfl (.ixA (j := 0) Tryz.underlying87 sz_30 rfl rfl) ?_
        refine .w rfl (.as (v' := u64 (BitVec.ofNat 64 (totN S))) (.ld one_30 rfl) rfl) ?_
        refine JR.alt rfl ?_ ?_
        · refine .mw rfl (.cb (f22_spec u S.length (S.map u64) (by omega) (one_map fun _ => rfl)) body_22) ?_
          rintro sv _ _ ⟨_, ⟨_, _, rfl⟩, hΓ, hH⟩
          simp only [List.cons_append, List.nil_append] at hH; subst hΓ hH
          refine kp ?_
          refine JR.know (φ := ∃ A c, sv = .slice A S.length c) (fun w hs => hs.rowSl zqa) fun ⟨A, c, hsv⟩ => ?_
          subst hsv
          refine JR.alt rfl ?_ ?_
          · refine .mw rfl (.mm itK dgV) ?_
            rintro v25 _ _ ⟨b25, rfl, rfl, rfl⟩
            refine kp ?_
            refine .mw rfl (.mm itK blV) ?_
            rintro v26 _ _ ⟨b26, rfl, rfl, rfl⟩
            refine kp ?_
            refine .uw rfl (.build bld_93 rfl rfl) ?_
            refine .mw rfl (Mv.box rfl) ?_
            rintro _ _ _ ⟨b28, rfl, rfl, rfl⟩
            refine kp ?_
            refine .uw rfl (.assign rfl) ?_
            refine .uw rfl (.assign rfl) ?_
            refine .nil (.tn (.ret ?_))
            rw [← htot]
            exact .dn [] [Res.cells _ [_, _, _, _] 93, Res.row _ S.length 30 1 (S.map u64), mpR _ itK dgV MM.nil, mpR _ itK blV MM.nil] (res2 rfl (.tmp rfl) (.tmp rfl)) ⟨_, _, _, _, rfl, rfl, rfl⟩
          refine JA.alt rfl ?_ ?_
          · refine .mw rfl (.mm itK blV) ?_
            rintro v26 _ _ ⟨b26, rfl, rfl, rfl⟩
            refine kp ?_
            refine .mw rfl (.mm itK dgV) ?_
            rintro v25 _ _ ⟨b25, rfl, rfl, rfl⟩
            refine kp ?_
            refine .uw rfl (.build bld_93 rfl rfl) ?_
            refine .mw rfl (Mv.box rfl) ?_
            rintro _ _ _ ⟨b28, rfl, rfl, rfl⟩
            refine kp ?_
            refine .uw rfl (.assign rfl) ?_
            refine .uw rfl (.assign rfl) ?_
            refine .nil (.tn (.ret ?_))
            rw [← htot]
            exact .dn [] [Res.cells _ [_, _, _, _] 93, Res.row _ S.length 30 1 (S.map u64), mpR _ itK dgV MM.nil, mpR _ itK blV MM.nil] (res2 rfl (.tmp rfl) (.tmp rfl)) ⟨_, _, _, _, rfl, rfl, rfl⟩
          exact JA.nil
        refine JA.alt rfl ?_ ?_
        · refine .mw rfl (.mm itK dgV) ?_
          rintro v25 _ _ ⟨b25, rfl, rfl, rfl⟩
          refine kp ?_
          refine JR.alt rfl ?_ ?_
          · refine .mw rfl (.cb (f22_spec u S.length (S.map u64) (by omega) (one_map fun _ => rfl)) body_22) ?_
            rintro sv _ _ ⟨_, ⟨_, _, rfl⟩, hΓ, hH⟩
            simp only [List.cons_append, List.nil_append] at hH; subst hΓ hH
            refine kp ?_
            refine JR.know (φ := ∃ A c, sv = .slice A S.length c) (fun w hs => hs.rowSl zqa) fun ⟨A, c, hsv⟩ => ?_
            subst hsv
            refine .mw rfl (.mm itK blV) ?_
            rintro v26 _ _ ⟨b26, rfl, rfl, rfl⟩
            refine kp ?_
            refine .uw rfl (.build bld_93 rfl rfl) ?_
            refine .mw rfl (Mv.box rfl) ?_
            rintro _ _ _ ⟨b28, rfl, rfl, rfl⟩
            refine kp ?_
            refine .uw rfl (.assign rfl) ?_
            refine .uw rfl (.assign rfl) ?_
            refine .nil (.tn (.ret ?_))
            rw [← htot]
            exact .dn [] [Res.cells _ [_, _, _, _] 93, Res.row _ S.length 30 1 (S.map u64), mpR _ itK dgV MM.nil, mpR _ itK blV MM.nil] (res2 rfl (.tmp rfl) (.tmp rfl)) ⟨_, _, _, _, rfl, rfl, rfl⟩
          refine JA.alt rfl ?_ ?_
          · refine .mw rfl (.mm itK blV) ?_
            rintro v26 _ _ ⟨b26, rfl, rfl, rfl⟩
            refine kp ?_
            refine .mw rfl (.cb (f22_spec u S.length (S.map u64) (by omega) (one_map fun _ => rfl)) body_22) ?_
            rintro sv _ _ ⟨_, ⟨_, _, rfl⟩, hΓ, hH⟩
            simp only [List.cons_append, List.nil_append] at hH; subst hΓ hH
            refine kp ?_
            refine JR.know (φ := ∃ A c, sv = .slice A S.length c) (fun w hs => hs.rowSl zqa) fun ⟨A, c, hsv⟩ => ?_
            subst hsv
            refine .uw rfl (.build bld_93 rfl rfl) ?_
            refine .mw rfl (Mv.box rfl) ?_
            rintro _ _ _ ⟨b28, rfl, rfl, rfl⟩
            refine kp ?_
            refine .uw rfl (.assign rfl) ?_
            refine .uw rfl (.assign rfl) ?_
            refine .nil (.tn (.ret ?_))
            rw [← htot]
            exact .dn [] [Res.cells _ [_, _, _, _] 93, Res.row _ S.length 30 1 (S.map u64), mpR _ itK dgV MM.nil, mpR _ itK blV MM.nil] (res2 rfl (.tmp rfl) (.tmp rfl)) ⟨_, _, _, _, rfl, rfl, rfl⟩
          exact JA.nil
        refine JA.alt rfl ?_ ?_
        · refine .mw rfl (.mm itK blV) ?_
          rintro v26 _ _ ⟨b26, rfl, rfl, rfl⟩
          refine kp ?_
          refine JR.alt rfl ?_ ?_
          · refine .mw rfl (.cb (f22_spec u S.length (S.map u64) (by omega) (one_map fun _ => rfl)) body_22) ?_
            rintro sv _ _ ⟨_, ⟨_, _, rfl⟩, hΓ, hH⟩
            simp only [List.cons_append, List.nil_append] at hH; subst hΓ hH
            refine kp ?_
            refine JR.know (φ := ∃ A c, sv = .slice A S.length c) (fun w hs => hs.rowSl zqa) fun ⟨A, c, hsv⟩ => ?_
            subst hsv
            refine .mw rfl (.mm itK dgV) ?_
            rintro v25 _ _ ⟨b25, rfl, rfl, rfl⟩
            refine kp ?_
            refine .uw rfl (.build bld_93 rfl rfl) ?_
            refine .mw rfl (Mv.box rfl) ?_
            rintro _ _ _ ⟨b28, rfl, rfl, rfl⟩
            refine kp ?_
            refine .uw rfl (.assign rfl) ?_
            refine .uw rfl (.assign rfl) ?_
            refine .nil (.tn (.ret ?_))
            rw [← htot]
            exact .dn [] [Res.cells _ [_, _, _, _] 93, Res.row _ S.length 30 1 (S.map u64), mpR _ itK dgV MM.nil, mpR _ itK blV MM.nil] (res2 rfl (.tmp rfl) (.tmp rfl)) ⟨_, _, _, _, rfl, rfl, rfl⟩
          refine JA.alt rfl ?_ ?_
          · refine .mw rfl (.mm itK dgV) ?_
            rintro v25 _ _ ⟨b25, rfl, rfl, rfl⟩
            refine kp ?_
            refine .mw rfl (.cb (f22_spec u S.length (S.map u64) (by omega) (one_map fun _ => rfl)) body_22) ?_
            rintro sv _ _ ⟨_, ⟨_, _, rfl⟩, hΓ, hH⟩
            simp only [List.cons_append, List.nil_append] at hH; subst hΓ hH
            refine kp ?_
            refine JR.know (φ := ∃ A c, sv = .slice A S.length c) (fun w hs => hs.rowSl zqa) fun ⟨A, c, hsv⟩ => ?_
            subst hsv
            refine .uw rfl (.build bld_93 rfl rfl) ?_
            refine .mw rfl (Mv.box rfl) ?_
            rintro _ _ _ ⟨b28, rfl, rfl, rfl⟩
            refine kp ?_
            refine .uw rfl (.assign rfl) ?_
            refine .uw rfl (.assign rfl) ?_
            refine .nil (.tn (.ret ?_))
            rw [← htot]
            exact .dn [] [Res.cells _ [_, _, _, _] 93, Res.row _ S.length 30 1 (S.map u64), mpR _ itK dgV MM.nil, mpR _ itK blV MM.nil] (res2 rfl (.tmp rfl) (.tmp rfl)) ⟨_, _, _, _, rfl, rfl, rfl⟩
          exact JA.nil
        exact JA.nil

set_option maxHeartbeats 1000000 in
theorem f21no_spec (u : Value) (S : List W64) (hbad : newE S ≠ 0) :
    Spec Tryz.prog 21 #[u] [Res.var 0 [u64 9223372036854775808, u64 0, u64 0, u64 0], Res.rd u S.length 1 (S.map u64)] []
      (fun r Γ' H' => r = (.tuple #[.pointer none, it (newE S)]) ∧ Γ' = [] ∧ H' = []) := by
  refine Spec.of_args Tryz.func21 rfl Tryz.ntmps21 (by simp) fun w => ?_
  refine JC.know (φ := S.length ≤ 9223372036854775807) (fun w hs => by obtain ⟨_, _, _, _, _, _, h⟩ := hs.rdForm (.tail _ (.head _)); unfold maxLen at h; omega) fun hln => ?_
  refine .seq (.region ?_)
  refine .w (.assign rfl) ?_
  refine .w (.assign rfl) ?_
  refine .nil (.tn (.seq (.region ?_)))
  refine .w (.move rfl) ?_
  refine .c (f36_spec u S) body_36 ?_
  refine .al zero_87 fun b4 => ?_
  first | refine .sa sz_87 ?_ | refine .so sz_87 ?_ | refine .sr sz_87 ?_
  refine .nil (.tn (.seq (.block (.seq (.region ?_)))))
  refine .w (.move rfl) ?_
  refine .join 7 15 (.bool (decide (S.length < 1 ∨ 40 < S.length))) ?_ ?_
  · refine .w (.len Tryz.underlying22 rfl) ?_
    refine .w (.bin rfl rfl BinR.lss_i) ?_
    refine .w (.move rfl) ?_
    refine .gn (g := 10) rfl (fun hg11 hg11' => ?_) (fun hg11 hg11' => ?_)
    · refine .gf (g := 11) rfl rfl hg11 (by decide) ?_
      refine .gf (g := 11) rfl rfl hg11 (by decide) ?_
      refine .gf (g := 11) rfl rfl hg11 (by decide) ?_
      refine .w (.pick1 rfl hg11 rfl) ?_
      refine .nil ?_
      refine .head () (by first | (refine ⟨by first | rfl | exact congrArg (fun b => some (Value.bool b)) (by first | exact (decide_eq_true (by omega)).symm | exact (decide_eq_false (by omega)).symm | exact decide_eq_decide.2 (by omega)) | (simp [*]; done) | (show some _ = some _; simp [*]; done), ?_⟩; repeat (first | exact trivial | refine ⟨rfl, ?_⟩))) (fun _ h => h) (Picks.perm zqd) ?_
      trivial
    · refine .gt (g := 11) rfl rfl hg11 ?_
      refine .w (.move rfl) ?_
      refine .gt (g := 11) rfl rfl hg11 ?_
      refine .w (.len Tryz.underlying22 rfl) ?_
      refine .gt (g := 11) rfl rfl hg11 ?_
      refine .w (.bin rfl rfl BinR.gtr_i) ?_
      refine .w (.pick0 rfl hg11 rfl) ?_
      refine .nil ?_
      refine .head () (by first | (refine ⟨by first | rfl | exact congrArg (fun b => some (Value.bool b)) (by first | exact (decide_eq_true (by omega)).symm | exact (decide_eq_false (by omega)).symm | exact decide_eq_decide.2 (by omega)) | (simp [*]; done) | (show some _ = some _; simp [*]; done), ?_⟩; repeat (first | exact trivial | refine ⟨rfl, ?_⟩))) (fun _ h => h) (Picks.perm zqd) ?_
      trivial
  · refine .w (.assign rfl) ?_
    refine .nil (.tn ?_)
    refine .cn rfl (fun hc1 => ?_) (fun hc1 => ?_)
    · have hE : newE S = 2 := if_pos hc1
      refine .seq (.region ?_)
      refine .w (.assign rfl) ?_
      refine .w (.assign rfl) ?_
      refine .nil (.tn (.ret (.block_ret (.then_ret ?_))))
      exact .dn [] [] (res2 rfl (.tmp rfl) (.tmp rfl)) ⟨by rw [hE], rfl, rfl⟩
    · skip
      refine .seq (.region ?_)
      refine .w (.as (v' := .agg ((wd (totN S)).map u64).toArray) (.lda agg_87 rfl) rfl) ?_
      refine .w (.as (v' := .agg ((wd 9223372036854775808).map u64).toArray) (.lda agg_87 rfl) rfl) ?_
      refine .c (f37_spec (totN S) 9223372036854775808 (tot_lt _) (by decide)) body_37 ?_
      refine .w (.as (v' := .bool (decide (9223372036854775808 ≤ totN S))) (.bin rfl rfl BinR.geq_i) (congrArg Value.bool (decide_eq_decide.2 (cmp_ge _ _)))) ?_
      refine .w (.assign rfl) ?_
      refine .nil (.tn ?_)
      refine .cn rfl (fun hc2 => ?_) (fun hc2 => ?_)
      · have hE : newE S = 10 := by rw [newE, if_neg hc1, if_pos hc2]
        refine .seq (.region ?_)
        refine .w (.assign rfl) ?_
        refine .w (.assign rfl) ?_
        refine .nil (.tn (.ret (.block_ret (.then_ret ?_))))
        exact .dn [] [] (res2 rfl (.tmp rfl) (.tmp rfl)) ⟨by rw [hE], rfl, rfl⟩
      · exact absurd (by rw [newE, if_neg hc1, if_neg hc2]) hbad

theorem f32_spec (p a b : Nat) (sv : Value) (al : W64) (S : List W64) (m : MM Int D32) (v : D32) (hT : TOk S m) (hS : sumS S < 18446744073709551616) (hal : al.toNat = sumS S) :
    Spec Tryz.prog 32 #[(ptr p 0), (dgV v)] [Res.cells p [sv, u64 al, .map (some a), .map (some b)] 93, Res.rd sv S.length 1 (S.map u64), mpR a itK dgV m] []
      (fun r Γ' H' => r = (.bool (decide (sumS S < 3 * forA S m.get v))) ∧ Γ' = [] ∧ H' = []) := by
  refine Spec.of_args Tryz.func32 rfl Tryz.ntmps32 (by simp) fun w => ?_
  have hfl := forA_le S m.get v
  refine .seq (.region ?_)
  refine .bx fun b3 => ?_
  refine .w (.assign rfl) ?_
  refine .nil (.tn (.seq ?_))
  refine JC.draw (.one 0 (.one 1 (.one 3 (.one 4 (.one 5 (.one 6 (.one 2 (.one 7 (.one 8 .nil))))))))) (fun i => ([7] : List Nat).contains i) (fun i => ([2, 7] : List Nat).contains i) (fun i => ([0, 3, 4, 5, 8] : List Nat).contains i) mixed (by kernel_rfl) (by decide) (by kernel_rfl) ?_
  refine .uw rfl (.move rfl) ?_
  refine .w rfl (.as (v' := dgV v) (.lda agg_53 rfl) rfl) ?_
  refine .uw rfl (.move rfl) ?_
  refine .uw rfl (.nilCheck rfl) ?_
  refine .uw rfl (.fieldAddr fa_93_1 rfl) ?_
  refine .w rfl (.ld one_30 rfl) ?_
  refine .mw rfl (.c (f54_spec p a b sv al S m v hT hS) body_54) ?_
  rintro _ _ _ ⟨rfl, rfl, rfl⟩
  refine kp ?_
  refine .mw rfl (.c (f53_spec (BitVec.ofNat 64 (forA S m.get v)) al) body_53) ?_
  rintro _ _ _ ⟨rfl, rfl, rfl⟩
  rw [BitVec.toNat_ofNat, Nat.mod_eq_of_lt (by omega), hal]
  refine kp ?_
  refine .uw rfl (.assign rfl) ?_
  refine .nil (.tn (.ret ?_))
  exact .dn [] [] (res1 rfl (.tmp rfl)) ⟨rfl, rfl, rfl⟩
end Go.Proofs.YthfipbjmpeegbaaGreatDoor

/- The document's numbers of sixty-four bytes: the plain side. No program in sight. -/
namespace Go.Proofs.YthfipbjmpeegbaaGreatDoor
open Go.RowKit
/-- A number's byte. -/
def dgN (n i : Nat) : Nat := n / 256 ^ i % 256
/-- All its bytes. -/
def dgs (n : Nat) : List Value := tab 64 fun i => it ((dgN n i : Nat) : Int)
@[simp] theorem dgs_len (n : Nat) : (dgs n).length = 64 := tab_len
def dT (f : Nat → Nat) (k : Nat) : List Value := tab 64 fun j => if j < k then it ((f j : Nat) : Int) else it 0
@[simp] theorem dT_len (f : Nat → Nat) (k : Nat) : (dT f k).length = 64 := tab_len
/-! ### A sum -/
def cr8 (a b i : Nat) : Nat := (a % 256 ^ i + b % 256 ^ i) / 256 ^ i
/-! ### To and from words -/
attribute [irreducible] dgN cr8
end Go.Proofs.YthfipbjmpeegbaaGreatDoor

/- The document's numbers of sixty-four bytes: differences, division, products: the plain side. No program in sight. -/
namespace Go.Proofs.YthfipbjmpeegbaaGreatDoor
open Go.RowKit
def big : Nat := 256 ^ 64
/-! ### Differences -/
def br8 (a b i : Nat) : Nat := if a % 256 ^ i < b % 256 ^ i then 1 else 0
/-! ### Division, bit by bit -/
/-- How often it went so far. -/
def oftK (W m k : Nat) : Nat := W / 2 ^ k / m
/-! ### Products -/
/-- What a product's row has come to: a times the first k bytes of b, at byte i, over what was there. -/
def rowL (X a b i j : Nat) : Nat := X % 256 ^ (i + j) + a * 256 ^ i * (b % 256 ^ j)
/-- The bytes of a row that is under way. -/
def rowT (X a b i j : Nat) : List Value := tab 64 fun t => if t < i + j then it ((dgN (rowL X a b i j) t : Nat) : Int) else it ((dgN X t : Nat) : Int)
@[simp] theorem rowT_len (X a b i j : Nat) : (rowT X a b i j).length = 64 := tab_len
/-- The rows of a product, added up. -/
def prodK (a b i : Nat) : Nat := (a % 256 ^ i) * b
/-! ### Eight words -/
def w8at (n j : Nat) : W64 := BitVec.ofNat 64 (n / 2 ^ (64 * j))
def we8 (n : Nat) : List W64 := (List.range 8).map (w8at n)
@[simp] theorem we8_len (n : Nat) : (we8 n).length = 8 := by simp [we8]
/-- What is carried. -/
def rowC (X a b i j : Nat) : Nat := rowL X a b i j / 256 ^ (i + j)
attribute [irreducible] br8 oftK rowL prodK big w8at rowC
end Go.Proofs.YthfipbjmpeegbaaGreatDoor

/- The document's tally: what it holds. No program in sight. -/
namespace Go.Proofs.YthfipbjmpeegbaaGreatDoor
open Go.RowKit
set_option linter.unusedVariables false
set_option linter.unusedSimpArgs false
abbrev dgC (d : D32) : List Value := d.1.map u8
instance : FS dgC 32 := ⟨fun d => by simp [d.2], fun d v hv => by obtain ⟨x, _, rfl⟩ := List.mem_map.1 hv; rfl⟩
/-- Who has voted; what for; who voted twice. -/
def isT (n : Nat) (g : Int → Option D32) : List Value := tab n fun i => .bool (g (i : Int)).isSome
def agT (n : Nat) (t : Int → Bool) : List Value := tab n fun i => .bool (t (i : Int))
def vvL (n : Nat) (g : Int → Option D32) : List D32 := (List.range n).map fun i : Nat => (g (i : Int)).getD D0
@[simp] theorem vvL_len (n : Nat) (g : Int → Option D32) : (vvL n g).length = n := by simp [vvL]
@[simp] theorem isT_len (n : Nat) (g : Int → Option D32) : (isT n g).length = n := tab_len
@[simp] theorem agT_len (n : Nat) (t : Int → Bool) : (agT n t).length = n := tab_len
@[simp] theorem vv_len (n : Nat) (g : Int → Option D32) : (bks dgC (vvL n g)).length = n * 32 := by rw [bks_len, vvL_len]
theorem sum_succ {l : List W64} {x : Nat} (h : x < l.length) : (l.take x).sum + l.getD x 0 = (l.take (x + 1)).sum := by
  rw [List.take_succ_eq_append_getElem h, List.sum_append, List.getD_eq_getElem?_getD, List.getElem?_eq_getElem h]
  simp
instance (S : List W64) (g : Int → Option D32) (v : D32) : Decidable (Quo S g v) := inferInstanceAs (Decidable (_ < _))
end Go.Proofs.YthfipbjmpeegbaaGreatDoor

/- Walk: a sum. -/
namespace Go.Proofs.YthfipbjmpeegbaaGreatDoor
open Go.RowKit
set_option maxRecDepth 100000
set_option linter.unusedVariables false
set_option linter.unusedSimpArgs false
theorem f19_spec (v : Value) (l : List W64) :
    Spec Tryz.prog 19 #[v] [Res.rd v l.length 1 (l.map u64)] []
      (fun r Γ' H' => r = (u64 l.sum) ∧ Γ' = [] ∧ H' = []) := by
  refine Spec.of_args Tryz.func19 rfl Tryz.ntmps19 (by simp) fun w => ?_
  refine JC.know (φ := l.length ≤ 9223372036854775807) (fun w hs => by obtain ⟨_, _, _, _, _, _, h⟩ := hs.rdForm (.head _); unfold maxLen at h; omega) fun hll => ?_
  refine .seq (.region ?_)
  refine .w (.assign rfl) ?_
  refine .nil (.tn (.seq (.region ?_)))
  refine .w (.as (v' := (u64 (l.take 0).sum)) (.assign rfl) rfl) ?_
  refine .nil (.tn (.seq (.seq (.region ?_))))
  refine .w (.assign rfl) ?_
  refine .nil (.tn (.block ?_))
  refine .lp (ι := Nat) (fun x => x ≤ l.length) (fun T x => (3, u64 (l.take x).sum) :: (4, it (x : Int)) :: T) (fun T _ => T) (fun T _ => T) (fun x => l.length - x) 0 [0, 2, 17] ?_ (fun x hx => ?_)
  · exact Nat.zero_le _
  refine .seq (.seq (.region ?_))
  refine .w (.move rfl) ?_
  refine .w (.move rfl) ?_
  refine .w (.len Tryz.underlying22 rfl) ?_
  refine .w (.bin rfl rfl BinR.lss_i) ?_
  refine .nil (.tn ?_)
  refine .cn rfl (fun hc1 => ?_) (fun hc1 => ?_)
  · skip
    refine .skip (.tn (.seq (.block (.region ?_))))
    refine .w (.move rfl) ?_
    refine .w (.move rfl) ?_
    refine .w (.move rfl) ?_
    refine .w (.ix1 Tryz.underlying22 sz_30 rfl rfl) ?_
    refine .w (.ld one_30 rfl) ?_
    refine .w (.as (v' := (u64 (l.take (x + 1)).sum)) (.bin rfl rfl (BinR.add_u64)) (congrArg u64 (sum_succ (by omega)))) ?_
    refine .w (.assign rfl) ?_
    refine .nil (.block_normal (.tn (.region ?_)))
    refine .w (.move rfl) ?_
    refine .w (.asI ((x + 1 : Nat) : Int) (.bin rfl rfl (BinR.add_i zqf))) ?_
    refine .w (.assign rfl) ?_
    refine .nil ?_
    refine .hd (x + 1) ?_
    exact ⟨by omega, by omega⟩
  · obtain rfl : x = l.length := by omega
    rw [List.take_length]
    refine .exit (.then_exit (.then_exit (.block_exit (.tn (.seq (.region ?_))))))
    refine .w (.move rfl) ?_
    refine .w (.assign rfl) ?_
    refine .nil (.tn (.ret ?_))
    exact .dn [] [] (res1 rfl (.tmp rfl)) ⟨rfl, rfl, rfl⟩
end Go.Proofs.YthfipbjmpeegbaaGreatDoor
