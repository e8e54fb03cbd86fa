/- Texts of ours, gathered: V1 V2 O2 MA MB MC PA PB. -/
import Derived.Test.YtmhiapebljfebaaGreatDoorR05
set_option linter.unusedVariables false
set_option linter.unusedSimpArgs false
set_option maxRecDepth 100000
/- Walks: numbers of four words, products. -/
namespace Go.Proofs.YtmhiapebljfebaaGreatDoor
open Go.RowKit
theorem zq2 {p : Prop} (h : p := by first | (refine ⟨by first | rfl | exact congrArg (fun b => some (Value.bool b)) (by first | exact (decide_eq_true (by omega)).symm | exact (decide_eq_false (by omega)).symm | exact decide_eq_decide.2 (by omega)) | (simp [*]; done) | (show some _ = some _; simp [*]; done), ?_⟩; repeat (first | exact trivial | refine ⟨rfl, ?_⟩))) : p := h
theorem eql_nat {x y : Operand} {us vs : List W64} (ha : us.length = 4) (hb : vs.length = 4) : BinR Tryz.prog .eql 40 x y (.agg (us.map u64).toArray) (.agg (vs.map u64).toArray) (.bool (decide (us = vs))) :=
 BinR.eql_arr (f := u64) (g := fun x => (x.toNat : Int)) (k := .u64) Tryz.underlying40 Tryz.underlying22 sz_22 (by kernel_rfl) (fun _ => rfl) (fun x y h => BitVec.eq_of_toNat_eq (by exact Int.ofNat.inj h)) us vs ha hb
theorem neq_nat {x y : Operand} {us vs : List W64} (ha : us.length = 4) (hb : vs.length = 4) : BinR Tryz.prog .neq 40 x y (.agg (us.map u64).toArray) (.agg (vs.map u64).toArray) (.bool (!decide (us = vs))) :=
 BinR.neq_arr (f := u64) (g := fun x => (x.toNat : Int)) (k := .u64) Tryz.underlying40 Tryz.underlying22 sz_22 (by kernel_rfl) (fun _ => rfl) (fun x y h => BitVec.eq_of_toNat_eq (by exact Int.ofNat.inj h)) us vs ha hb

theorem f163_spec (a b : Nat) (ha : a < 115792089237316195423570985008687907853269984665640564039457584007913129639936) (hb : b < 115792089237316195423570985008687907853269984665640564039457584007913129639936) :
  Spec Tryz.prog 163 #[(.agg ((wd a).map u64).toArray), (.agg ((wd b).map u64).toArray)] [] []
   (fun r Γ' H' => r = (.tuple #[.agg ((wd (a + b)).map u64).toArray, u64 (BitVec.ofNat 64 ((a + b) / 115792089237316195423570985008687907853269984665640564039457584007913129639936))]) ∧ Γ' = [] ∧ H' = []) := by
 refine Spec.of_args Tryz.func163 rfl Tryz.ntmps163 (by simp) fun w => ?_
 refine .seq (.region ?_)
 refine .bx fun b2 => ?_
 refine .bx fun b3 => ?_
 refine .al zero_40 fun b4 => ?_
 refine .w (.as (v' := u64 (cry a b 0)) (.assign rfl) (by rw [cry_0]; rfl)) ?_
 refine .nil (.tn (.seq (.seq (.region ?_))))
 refine .w (.move rfl) ?_
 refine .nil (.tn (.block ?_))
 refine .lp (ι := Nat) (fun x => x ≤ 4) (fun T x => (2, ptr b2 0) :: (3, ptr b3 0) :: (4, ptr b4 0) :: (5, u64 (cry a b x)) :: (7, it (x : Int)) :: T) (fun T _ => T) (fun T x => Res.cells b2 ((wd a).map u64) 40 :: Res.cells b3 ((wd b).map u64) 40 :: Res.cells b4 (tw (wat (a + b)) x) 40 :: T) (fun x => 4 - x) 0 [24, 25] ?_ (fun x hx => ?_)
 ·exact Nat.zero_le _
 refine .seq (.region ?_)
 refine .w (.bin rfl rfl BinR.lss_i) ?_
 refine .nil (.tn (.seq ?_))
 refine .cn rfl (fun hc1 => ?_) (fun hc1 => ?_)
 ·refine .skip (.tn (.seq (.block (.seq (.region ?_)))))
  refine .w (.move rfl) (.w (.assign rfl) ?_)
  refine .nil (.tn ?_)
  refine JC.draw (.one 0 (.one 1 (.one 2 (.one 3 (.one 4 (.one 5 (.one 6 (.one 7 (.one 8 (.one 9 (.one 10 (.one 11 (.one 12 (.one 13 (.one 14 .nil))))))))))))))) (fun i => ([13] : List Nat).contains i) (fun i => ([13] : List Nat).contains i) (fun i => ([0, 1, 2, 4, 5, 7, 8, 9, 10, 11, 12, 14] : List Nat).contains i) mixed (by kernel_rfl) (by decide) (by kernel_rfl) ?_
  refine .uw rfl (.move rfl) (.uw rfl (.move rfl) (.uw rfl (.ixA Tryz.underlying40 sz_22 rfl rfl) (.w rfl (.ld one_22 rfl (hj := by first | exact wd_get _ (by omega) | rfl | exact tab_get zq10 | exact gm (d := 0) zq10)) (.uw rfl (.move rfl) (.uw rfl (.ixA Tryz.underlying40 sz_22 rfl rfl) (.w rfl (.ld one_22 rfl (hj := by first | exact wd_get _ (by omega) | rfl | exact tab_get zq10 | exact gm (d := 0) zq10)) ?_))))))
  refine .uw rfl (.move rfl) (.uw rfl (.as (v' := .tuple #[u64 (wat (a + b) x), u64 (cry a b (x + 1))]) (.ext rfl (ext_193 _ _ _ (cry_le _ _ _))) (by rw [add_word a b (by omega), add_cry a b (by omega)])) (.uw rfl (.move rfl) (.uw rfl (.as (v' := u64 (wat (a + b) x)) (.extract rfl rfl) rfl) (.uw rfl (.as (v' := u64 (cry a b (x + 1))) (.extract rfl rfl) rfl) (.uw rfl (.ixA Tryz.underlying40 sz_22 rfl rfl) ?_)))))
  refine .mw0 rfl (.s1 sz_22) ?_
  rintro _ _ _ ⟨rfl, rfl⟩
  refine kp ?_
  refine .uw rfl (.assign rfl) ?_
  refine .nil (.block_normal (.tn (.region ?_)))
  refine .w (.bin rfl rfl (BinR.add_i zq3)) (.w (.move rfl) (.nil ?_))
  rw [tw_set]
  refine .hd (x + 1) ?_
  exact ⟨by omega, by omega⟩
 ·obtain rfl : x = 4 := by omega
  rw [tw_4]
  refine .exit (.then_exit (.then_exit (.block_exit (.tn (.seq (.region ?_))))))
  refine .w (.lda agg_40 rfl) (.w (.as (v' := u64 (BitVec.ofNat 64 ((a + b) / 115792089237316195423570985008687907853269984665640564039457584007913129639936))) (.move rfl) (congrArg u64 (cry_4 ha hb))) (.sa sz_40 ?_))
  refine .w (.assign rfl) ?_
  refine .nil (.tn (.ret ?_))
  exact .dn [] [] (res2 rfl (.cl agg_40) (.tmp rfl)) ⟨rfl, rfl, rfl⟩

theorem f195_spec (a b : Nat) (ha : a < 115792089237316195423570985008687907853269984665640564039457584007913129639936) (hb : b < 115792089237316195423570985008687907853269984665640564039457584007913129639936) :
  Spec Tryz.prog 195 #[(.agg ((wd a).map u64).toArray), (.agg ((wd b).map u64).toArray)] [] []
   (fun r Γ' H' => r = (.tuple #[.agg ((wd (115792089237316195423570985008687907853269984665640564039457584007913129639936 + a - b)).map u64).toArray, u64 (if a < b then 1 else 0)]) ∧ Γ' = [] ∧ H' = []) := by
 refine Spec.of_args Tryz.func195 rfl Tryz.ntmps195 (by simp) fun w => ?_
 refine .seq (.region ?_)
 refine .bx fun b2 => ?_
 refine .bx fun b3 => ?_
 refine .al zero_40 fun b4 => ?_
 refine .w (.as (v' := u64 (brw a b 0)) (.assign rfl) (by rw [brw_0]; rfl)) ?_
 refine .nil (.tn (.seq (.seq (.region ?_))))
 refine .w (.move rfl) ?_
 refine .nil (.tn (.block ?_))
 refine .lp (ι := Nat) (fun x => x ≤ 4) (fun T x => (2, ptr b2 0) :: (3, ptr b3 0) :: (4, ptr b4 0) :: (5, u64 (brw a b x)) :: (7, it (x : Int)) :: T) (fun T _ => T) (fun T x => Res.cells b2 ((wd a).map u64) 40 :: Res.cells b3 ((wd b).map u64) 40 :: Res.cells b4 (tw (wat (115792089237316195423570985008687907853269984665640564039457584007913129639936 + a - b)) x) 40 :: T) (fun x => 4 - x) 0 [24, 25] ?_ (fun x hx => ?_)
 ·exact Nat.zero_le _
 refine .seq (.region ?_)
 refine .w (.bin rfl rfl BinR.lss_i) ?_
 refine .nil (.tn (.seq ?_))
 refine .cn rfl (fun hc1 => ?_) (fun hc1 => ?_)
 ·refine .skip (.tn (.seq (.block (.seq (.region ?_)))))
  refine .w (.move rfl) (.w (.assign rfl) ?_)
  refine .nil (.tn ?_)
  refine JC.draw (.one 0 (.one 1 (.one 2 (.one 3 (.one 4 (.one 5 (.one 6 (.one 7 (.one 8 (.one 9 (.one 10 (.one 11 (.one 12 (.one 13 (.one 14 .nil))))))))))))))) (fun i => ([13] : List Nat).contains i) (fun i => ([13] : List Nat).contains i) (fun i => ([0, 1, 2, 4, 5, 7, 8, 9, 10, 11, 12, 14] : List Nat).contains i) mixed (by kernel_rfl) (by decide) (by kernel_rfl) ?_
  refine .uw rfl (.move rfl) (.uw rfl (.move rfl) (.uw rfl (.ixA Tryz.underlying40 sz_22 rfl rfl) (.w rfl (.ld one_22 rfl (hj := by first | exact wd_get _ (by omega) | rfl | exact tab_get zq10 | exact gm (d := 0) zq10)) (.uw rfl (.move rfl) (.uw rfl (.ixA Tryz.underlying40 sz_22 rfl rfl) (.w rfl (.ld one_22 rfl (hj := by first | exact wd_get _ (by omega) | rfl | exact tab_get zq10 | exact gm (d := 0) zq10)) ?_))))))
  refine .uw rfl (.move rfl) (.uw rfl (.as (v' := .tuple #[u64 (wat (115792089237316195423570985008687907853269984665640564039457584007913129639936 + a - b) x), u64 (brw a b (x + 1))]) (.ext rfl (ext_215 _ _ _ (brw_le _ _ _))) (by rw [sub_word hb (by omega), sub_brw a b (by omega)])) (.uw rfl (.move rfl) (.uw rfl (.as (v' := u64 (wat (115792089237316195423570985008687907853269984665640564039457584007913129639936 + a - b) x)) (.extract rfl rfl) rfl) (.uw rfl (.as (v' := u64 (brw a b (x + 1))) (.extract rfl rfl) rfl) (.uw rfl (.ixA Tryz.underlying40 sz_22 rfl rfl) ?_)))))
  refine .mw0 rfl (.s1 sz_22) ?_
  rintro _ _ _ ⟨rfl, rfl⟩
  refine kp ?_
  refine .uw rfl (.assign rfl) ?_
  refine .nil (.block_normal (.tn (.region ?_)))
  refine .w (.bin rfl rfl (BinR.add_i zq3)) (.w (.move rfl) (.nil ?_))
  rw [tw_set]
  refine .hd (x + 1) ?_
  exact ⟨by omega, by omega⟩
 ·obtain rfl : x = 4 := by omega
  rw [tw_4]
  refine .exit (.then_exit (.then_exit (.block_exit (.tn (.seq (.region ?_))))))
  refine .w (.lda agg_40 rfl) (.w (.as (v' := u64 (if a < b then 1 else 0)) (.move rfl) (congrArg u64 (brw_4 ha hb))) (.sa sz_40 ?_))
  refine .w (.assign rfl) ?_
  refine .nil (.tn (.ret ?_))
  exact .dn [] [] (res2 rfl (.cl agg_40) (.tmp rfl)) ⟨rfl, rfl, rfl⟩

theorem f52_spec (a b : Nat) (ha : a < 115792089237316195423570985008687907853269984665640564039457584007913129639936) (hb : b < 115792089237316195423570985008687907853269984665640564039457584007913129639936) :
  Spec Tryz.prog 52 #[(.agg ((wd a).map u64).toArray), (.agg ((wd b).map u64).toArray)] [] []
   (fun r Γ' H' => r = (it (cmpN a b)) ∧ Γ' = [] ∧ H' = []) := by
 refine Spec.of_args Tryz.func52 rfl Tryz.ntmps52 (by simp) fun w => ?_
 refine .seq (.region ?_)
 refine .bx fun b2 => ?_
 refine .bx fun b3 => ?_
 refine .w (.assign rfl) ?_
 refine .nil (.tn (.scope (.seq (.region ?_))))
 refine .w (.assign rfl) ?_
 refine .nil (.tn (.seq (.label (.tn (.seq (.seq (.region ?_)))))))
 refine .w (.move rfl) ?_
 refine .nil (.tn (.block ?_))
 refine .lp (ι := Nat) (fun x => x ≤ 4 ∧ a / pw (4 - x) = b / pw (4 - x)) (fun T x => (2, ptr b2 0) :: (3, ptr b3 0) :: (5, it 0) :: (8, it (x : Int)) :: T) (fun T _ => T) (fun T x => Res.cells b2 ((wd a).map u64) 40 :: Res.cells b3 ((wd b).map u64) 40 :: T) (fun x => 4 - x) 0 [4, 30] ?_ (fun x hx => ?_)
 ·exact ⟨Nat.zero_le _, by show a / pw 4 = b / pw 4; rw [pw_4, Nat.div_eq_of_lt ha, Nat.div_eq_of_lt hb]⟩
 refine .seq (.region ?_)
 refine .w (.bin rfl rfl BinR.lss_i) ?_
 refine .nil (.tn (.seq ?_))
 refine .cn rfl (fun hc1 => ?_) (fun hc1 => ?_)
 ·refine .skip (.tn (.seq (.block (.seq (.region ?_)))))
  refine .w (.move rfl) (.w (.assign rfl) ?_)
  refine .nil (.tn (.seq (.region ?_)))
  refine .w (.move rfl) (.w (.asI ((3 - x : Nat) : Int) (.bin rfl rfl (BinR.sub_i zq3))) (.w (.assign rfl) ?_))
  refine .nil (.tn (.block (.seq ?_)))
  refine JC.draw (.one 0 (.one 1 (.one 2 (.one 3 (.one 4 (.one 5 (.one 6 (.one 7 .nil)))))))) (fun i => ([] : List Nat).contains i) (fun i => ([] : List Nat).contains i) (fun i => ([0, 1, 3, 4, 6, 7] : List Nat).contains i) mixed (by kernel_rfl) (by decide) (by kernel_rfl) ?_
  refine .uw rfl (.move rfl) (.uw rfl (.ixA Tryz.underlying40 sz_22 rfl rfl) (.w rfl (.ld one_22 rfl (hj := by first | exact wd_get _ (by omega) | rfl | exact tab_get zq10 | exact gm (d := 0) zq10)) (.uw rfl (.move rfl) (.uw rfl (.ixA Tryz.underlying40 sz_22 rfl rfl) (.w rfl (.ld one_22 rfl (hj := by first | exact wd_get _ (by omega) | rfl | exact tab_get zq10 | exact gm (d := 0) zq10)) (.uw rfl (.bin rfl rfl (BinR.lss_u64)) ?_))))))
  refine .uw rfl (.assign rfl) ?_
  refine .nil (.tn ?_)
  refine .cn rfl (fun hc2 => ?_) (fun hc2 => ?_)
  ·have hres : cmpN a b = -1 := by simp [cmpN, cmp_step (by omega) hx.2 hc2]
   refine .seq (.region ?_)
   refine .w (.assign rfl) ?_
   refine .nil (.tn (.exit (.block_other (by decide) (.block_other (by decide) (.then_exit (.then_exit (.block_exit (.tn (.seq (.region ?_))))))))))
   refine .w (.as (v' := it (cmpN a b)) (.move rfl) (congrArg it hres.symm)) (.w (.assign rfl) ?_)
   refine .nil (.tn (.ret (.scope_ret ?_)))
   exact .dn [] [] (res1 rfl (.tmp rfl)) ⟨rfl, rfl, rfl⟩
  ·refine .seq ?_
   refine JC.draw (.one 0 (.one 1 (.one 2 (.one 3 (.one 4 (.one 5 (.one 6 (.one 7 .nil)))))))) (fun i => ([] : List Nat).contains i) (fun i => ([] : List Nat).contains i) (fun i => ([0, 1, 3, 4, 6, 7] : List Nat).contains i) mixed (by kernel_rfl) (by decide) (by kernel_rfl) ?_
   refine .uw rfl (.move rfl) (.uw rfl (.ixA Tryz.underlying40 sz_22 rfl rfl) (.w rfl (.ld one_22 rfl (hj := by first | exact wd_get _ (by omega) | rfl | exact tab_get zq10 | exact gm (d := 0) zq10)) (.uw rfl (.move rfl) (.uw rfl (.ixA Tryz.underlying40 sz_22 rfl rfl) (.w rfl (.ld one_22 rfl (hj := by first | exact wd_get _ (by omega) | rfl | exact tab_get zq10 | exact gm (d := 0) zq10)) (.uw rfl (.bin rfl rfl (BinR.gtr_u64)) ?_))))))
   refine .uw rfl (.assign rfl) ?_
   refine .nil (.tn ?_)
   refine .cn rfl (fun hc3 => ?_) (fun hc3 => ?_)
   ·have hres : cmpN a b = 1 := by have h := cmp_step (by omega) hx.2.symm hc3; rw [cmpN, if_neg (by omega), if_pos h]
    refine .seq (.region ?_)
    refine .w (.assign rfl) ?_
    refine .nil (.tn (.exit (.block_other (by decide) (.block_other (by decide) (.then_exit (.then_exit (.block_exit (.tn (.seq (.region ?_))))))))))
    refine .w (.as (v' := it (cmpN a b)) (.move rfl) (congrArg it hres.symm)) (.w (.assign rfl) ?_)
    refine .nil (.tn (.ret (.scope_ret ?_)))
    exact .dn [] [] (res1 rfl (.tmp rfl)) ⟨rfl, rfl, rfl⟩
   ·refine .skip (.block_normal (.block_normal (.tn (.region ?_))))
    refine .w (.bin rfl rfl (BinR.add_i zq3)) (.w (.move rfl) (.nil ?_))
    refine .hd (x + 1) ?_
    exact ⟨⟨by omega, cmp_next (by omega) hx.2 hc2 (by omega)⟩, by omega⟩
 ·obtain rfl : x = 4 := by omega
  have hres : cmpN a b = 0 := by have h := hx.2; simp only [Nat.sub_self, pw_0, Nat.div_one] at h; simp [cmpN, h]
  refine .exit (.then_exit (.then_exit (.block_exit (.tn (.seq (.region ?_))))))
  refine .w (.as (v' := it (cmpN a b)) (.move rfl) (congrArg it hres.symm)) (.w (.assign rfl) ?_)
  refine .nil (.tn (.ret (.scope_ret ?_)))
  exact .dn [] [] (res1 rfl (.tmp rfl)) ⟨rfl, rfl, rfl⟩

theorem f160_spec (a i : Nat) (hi : i < 256) :
  Spec Tryz.prog 160 #[(.agg ((wd a).map u64).toArray), (it (i : Int))] [] []
   (fun r Γ' H' => r = (u64 (bitN a i)) ∧ Γ' = [] ∧ H' = []) := by
 refine Spec.of_args Tryz.func160 rfl Tryz.ntmps160 (by simp) fun w => ?_
 refine .seq (.region ?_)
 refine .bx fun b2 => ?_
 refine .w (.assign rfl) ?_
 refine .nil (.tn (.seq (.seq (.region ?_))))
 refine .w (.move rfl) (.w (.asF (.bin rfl rfl BinR.lss_i)) (.w (.move rfl) ?_))
 refine .gt (g := 7) rfl rfl rfl ?_
 refine .w (.move rfl) ?_
 refine .gt (g := 7) rfl rfl rfl ?_
 refine .w (.asF (.bin rfl rfl BinR.geq_i)) (.w (.pick0 rfl rfl rfl) ?_)
 refine .nil (.tn ?_)
 refine .cn rfl (fun hc1 => ?_) (fun hc1 => ?_)
 ·exact absurd hc1 (by decide)
 ·refine .skip (.tn (.seq (.region ?_)))
  refine .w (.move rfl) (.w (.asI ((i / 64 : Nat) : Int) (.bin rfl rfl (BinR.quo_i zq17 zq17 zq3))) (.w (.ixA Tryz.underlying40 sz_22 rfl rfl) (.w (.ld one_22 rfl (hj := by first | exact wd_get _ (by omega) | rfl | exact tab_get zq10 | exact gm (d := 0) zq10)) (.w (.move rfl) (.w (.asI ((i % 64 : Nat) : Int) (.bin rfl rfl (BinR.rem_i zq17 zq17))) (.w (.as (v' := u64 (wat a (i / 64) >>> (i % 64))) (.bin rfl rfl (BinR.shr_u64_i zq17)) (congrArg (fun n => u64 (wat a (i / 64) >>> n)) (by omega))) ?_))))))
  refine .w (.as (v' := u64 (bitN a i)) (.bin rfl rfl (BinR.and_u64 (b := 1#64))) (congrArg u64 (bit_at a hi))) (.w (.assign rfl) ?_)
  refine .nil (.tn (.ret ?_))
  exact .dn [] [] (res1 rfl (.tmp rfl)) ⟨rfl, rfl, rfl⟩

theorem f214_spec (a : Nat) (i : Int) :
  Spec Tryz.prog 214 #[(.agg ((wd a).map u64).toArray), (it i)] [] []
   (fun r Γ' H' => r = (u64 (wordN a i)) ∧ Γ' = [] ∧ H' = []) := by
 refine Spec.of_args Tryz.func214 rfl Tryz.ntmps214 (by simp) fun w => ?_
 refine .seq (.region ?_)
 refine .bx fun b2 => ?_
 refine .w (.assign rfl) ?_
 refine .nil (.tn (.seq (.seq (.region ?_))))
 refine .w (.move rfl) (.w (.bin rfl rfl BinR.lss_i) (.w (.move rfl) ?_))
 refine .join 3 10 (.bool (decide (i < 0 ∨ i ≥ 4))) ?_ ?_
 ·refine .gn (g := 6) rfl (fun hg6 hg6' => ?_) (fun hg6 hg6' => ?_)
  ·refine .gf (g := 7) rfl rfl hg6 (by decide) ?_
   refine .gf (g := 7) rfl rfl hg6 (by decide) ?_
   refine .w (.pick1 rfl hg6 rfl) (.nil ?_)
   refine .head () zq2 (fun _ h => h) (Picks.perm zq1) ?_
   trivial
  ·refine .gt (g := 7) rfl rfl hg6 ?_
   refine .w (.move rfl) ?_
   refine .gt (g := 7) rfl rfl hg6 ?_
   refine .w (.bin rfl rfl BinR.geq_i) (.w (.pick0 rfl hg6 rfl) (.nil ?_))
   refine .head () zq2 (fun _ h => h) (Picks.perm zq1) ?_
   trivial
 ·refine .nil (.tn ?_)
  refine .cn rfl (fun hc1 => ?_) (fun hc1 => ?_)
  ·skip
   refine .seq (.region ?_)
   refine .w (.as (v' := u64 (wordN a i)) (.assign rfl) (by rw [wordN, if_neg (by omega)]; rfl)) ?_
   refine .nil (.tn (.ret (.then_ret ?_)))
   exact .dn [] [] (res1 rfl (.tmp rfl)) ⟨rfl, rfl, rfl⟩
  ·obtain ⟨n, rfl⟩ : ∃ n : Nat, i = n := ⟨i.toNat, by omega⟩
   refine .skip (.tn (.seq (.region ?_)))
   refine .w (.move rfl) (.w (.ixA Tryz.underlying40 sz_22 rfl rfl) (.w (.ld one_22 rfl (hj := by first | exact wd_get _ (by omega) | rfl | exact tab_get zq10 | exact gm (d := 0) zq10)) (.w (.as (v' := u64 (wordN a n)) (.assign rfl) (by rw [wordN, if_pos (by omega)]; rfl)) ?_)))
   refine .nil (.tn (.ret ?_))
   exact .dn [] [] (res1 rfl (.tmp rfl)) ⟨rfl, rfl, rfl⟩

theorem f194_spec (a : Nat) :
  Spec Tryz.prog 194 #[(.agg ((wd a).map u64).toArray), (it 1)] [] []
   (fun r Γ' H' => r = (.agg ((wd (2 * a)).map u64).toArray) ∧ Γ' = [] ∧ H' = []) := by
 refine Spec.of_args Tryz.func194 rfl Tryz.ntmps194 (by simp) fun w => ?_
 refine .seq (.region ?_)
 refine .bx fun b2 => ?_
 refine .al zero_40 fun b4 => ?_
 refine .nil (.tn (.seq (.region ?_)))
 refine .al zero_40 fun b5 => ?_
 refine .nil (.tn (.seq (.seq (.region ?_))))
 refine .w (.move rfl) (.w (.asF (.bin rfl rfl BinR.leq_i)) (.w (.move rfl) ?_))
 refine .gt (g := 11) rfl rfl rfl ?_
 refine .w (.move rfl) ?_
 refine .gt (g := 11) rfl rfl rfl ?_
 refine .w (.asF (.bin rfl rfl BinR.geq_i)) (.w (.pick0 rfl rfl rfl) ?_)
 refine .nil (.tn ?_)
 refine .cn rfl (fun hc1 => ?_) (fun hc1 => ?_)
 ·exact absurd hc1 (by decide)
 ·refine .skip (.tn (.seq (.region ?_)))
  refine .w (.move rfl) (JO.v (Yv.bin rfl rfl shr_1_6) (by decide) (.w (.move rfl) (JO.v (Yv.bin rfl rfl and_1_63) (by decide) (.w (.assign rfl) (.w (.assign rfl) ?_)))))
  refine .nil (.tn (.seq (.seq (.region ?_))))
  refine .w (.move rfl) ?_
  refine .nil (.tn (.block ?_))
  refine .lp (ι := Nat) (fun x => x ≤ 4) (fun T x => (2, ptr b2 0) :: (4, ptr b4 0) :: (5, ptr b5 0) :: (6, it 0) :: (7, it 1) :: (20, it (x : Int)) :: T) (fun T _ => T) (fun T x => Res.cells b2 ((wd a).map u64) 40 :: Res.cells b4 ((wd 0).map u64) 40 :: Res.cells b5 (tw (wat (2 * a)) x) 40 :: T) (fun x => 4 - x) 0 [44] ?_ (fun x hx => ?_)
  ·exact Nat.zero_le _
  refine .seq (.region ?_)
  refine .w (.bin rfl rfl BinR.lss_i) ?_
  refine .nil (.tn (.seq ?_))
  refine .cn rfl (fun hc2 => ?_) (fun hc2 => ?_)
  ·refine .skip (.tn (.seq (.block (.seq (.region ?_)))))
   refine .w (.move rfl) (.w (.assign rfl) ?_)
   refine .nil (.tn ?_)
   refine JC.draw (.one 0 (.one 1 (.one 2 (.one 3 (.one 4 (.one 6 (.one 8 (.one 9 (.one 10 (.one 11 (.one 12 (.one 15 (.one 16 (.one 5 (.one 7 (.one 13 (.one 14 (.one 17 (.one 18 (.one 19 (.one 20 .nil))))))))))))))))))))) (fun i => ([13, 20] : List Nat).contains i) (fun i => ([5, 13, 20] : List Nat).contains i) (fun i => ([0, 2, 3, 4, 6, 7, 9, 10, 11, 12, 14, 15, 16, 17, 18, 19] : List Nat).contains i) mixed (by kernel_rfl) (by decide) (by kernel_rfl) ?_
   refine .uw rfl (.move rfl) (.w rfl (.lda agg_40 rfl) (.uw rfl (.move rfl) (.uw rfl (.move rfl) (.uw rfl (.asI (x : Int) (.bin rfl rfl (BinR.sub_i zq3))) (.uw rfl (.move rfl) (.w rfl (.lda agg_40 rfl) ?_))))))
   refine .uw rfl (.move rfl) (.uw rfl (.move rfl) (.uw rfl (.asI (x : Int) (.bin rfl rfl (BinR.sub_i zq3))) (.uw rfl (.bin rfl rfl (BinR.sub_i zq3)) (.uw rfl (.move rfl) (.uw rfl (.asI 62 (.bin rfl rfl (BinR.sub_i zq3))) ?_)))))
   refine .mw rfl (.c (f214_spec a (x : Int)) body_214) ?_
   rintro _ _ _ ⟨rfl, rfl, rfl⟩
   refine kp ?_
   refine .uw rfl (.as (v' := u64 (wordN a x <<< 1)) (.bin rfl rfl (BinR.shl_u64_i zq17)) rfl) ?_
   refine .mw rfl (.c (f214_spec a ((x : Int) - 1)) body_214) ?_
   rintro _ _ _ ⟨rfl, rfl, rfl⟩
   refine kp ?_
   refine .uw rfl (.as (v' := u64 (wordN a ((x : Int) - 1) >>> 1)) (.bin rfl rfl (BinR.shr_u64_u64 (n := 1#64))) rfl) (.uw rfl (.as (v' := u64 (wordN a ((x : Int) - 1) >>> 1 >>> 62)) (.bin rfl rfl (BinR.shr_u64_i zq17)) rfl) (.uw rfl (.as (v' := u64 (wat (2 * a) x)) (.bin rfl rfl (BinR.or_u64)) (congrArg u64 (shift_w a (by omega)))) (.uw rfl (.ixA Tryz.underlying40 sz_22 rfl rfl) ?_)))
   refine .mw0 rfl (.s1 sz_22) ?_
   rintro _ _ _ ⟨rfl, rfl⟩
   refine kp ?_
   refine .nil (.block_normal (.tn (.region ?_)))
   refine .w (.bin rfl rfl (BinR.add_i zq3)) (.w (.move rfl) (.nil ?_))
   rw [tw_set]
   refine .hd (x + 1) ?_
   exact ⟨by omega, by omega⟩
  ·obtain rfl : x = 4 := by omega
   rw [tw_4]
   refine .exit (.then_exit (.then_exit (.block_exit (.tn (.seq (.region ?_))))))
   refine .w (.lda agg_40 rfl) (.sa sz_40 ?_)
   refine .nil (.tn (.ret ?_))
   exact .dn [] [] (res1 rfl (.cl agg_40)) ⟨rfl, rfl, rfl⟩

theorem f164_spec (z m t : Nat) (hr : z < m) (hm : m < 115792089237316195423570985008687907853269984665640564039457584007913129639936) (ht : t < 2) :
  Spec Tryz.prog 164 #[(.agg ((wd z).map u64).toArray), (.agg ((wd m).map u64).toArray), (u64 (BitVec.ofNat 64 t))] [] []
   (fun r Γ' H' => r = (.tuple #[.agg ((wd (brF z m t)).map u64).toArray, u64 (BitVec.ofNat 64 (brG z m t))]) ∧ Γ' = [] ∧ H' = []) := by
 refine Spec.of_args Tryz.func164 rfl Tryz.ntmps164 (by simp) fun w => ?_
 refine .seq (.region ?_)
 refine .bx fun b3 => ?_
 refine .bx fun b4 => ?_
 refine .al zero_40 fun b6 => ?_
 refine .w (.assign rfl) ?_
 refine .nil (.tn (.seq (.region ?_)))
 refine .w (.lda agg_40 rfl) (.c (f160_spec z 255 (by decide)) body_160 ?_)
 refine .w (.assign rfl) ?_
 refine .nil (.tn (.seq (.region ?_)))
 refine .w (.lda agg_40 rfl) (.c (f194_spec z) body_194 ?_)
 refine .sa sz_40 ?_
 refine .nil (.tn (.seq (.region ?_)))
 refine .w (.ixA (j := 0) Tryz.underlying40 sz_22 rfl rfl) (.w (.ld one_22 rfl (hj := by first | exact wd_get _ (by omega) | rfl | exact tab_get zq10 | exact gm (d := 0) zq10)) (.w (.move rfl) (.w (.bin rfl rfl (BinR.or_u64)) (.w (.ixA (j := 0) Tryz.underlying40 sz_22 rfl rfl) ?_))))
 refine .s1 sz_22 ?_
 rw [dbl_or' z ht]
 refine .nil (.tn (.seq (.seq (.region ?_))))
 refine .w (.move rfl) (.w (.bin rfl rfl (BinR.eql_u64 (b := 1#64))) (.w (.move rfl) ?_))
 refine .join 5 25 (.bool (decide (m ≤ 2 * z + t))) ?_ ?_
 ·refine .gn (g := 19) rfl (fun hg20 hg20' => ?_) (fun hg20 hg20' => ?_)
  ·try simp only [BitVec.reduceToNat] at hg20'
   have hle : m ≤ 2 * z + t := over_t hr hm hg20'
   refine .gf (g := 20) rfl rfl hg20 (by decide) ?_
   refine .gf (g := 20) rfl rfl hg20 (by decide) ?_
   refine .gf (g := 20) rfl rfl hg20 (by decide) ?_
   refine .gf (g := 20) rfl rfl hg20 (by decide) ?_
   refine .w (.pick1 rfl hg20 rfl) (.nil ?_)
   refine .head () zq2 (fun _ h => h) (Picks.perm zq1) ?_
   trivial
  ·try simp only [BitVec.reduceToNat] at hg20'
   have hlt : 2 * z + t < 115792089237316195423570985008687907853269984665640564039457584007913129639936 := over_f (by omega) ht hg20'
   refine .gt (g := 20) rfl rfl hg20 ?_
   refine .w (.lda agg_40 rfl) ?_
   refine .gt (g := 20) rfl rfl hg20 ?_
   refine .w (.lda agg_40 rfl) ?_
   refine .gt (g := 20) rfl rfl hg20 ?_
   refine .c (f52_spec (2 * z + t) m hlt hm) body_52 ?_
   refine .gt (g := 20) rfl rfl hg20 ?_
   refine .w (.as (v' := .bool (decide (m ≤ 2 * z + t))) (.bin rfl rfl BinR.geq_i) (congrArg Value.bool (decide_eq_decide.2 (cmp_ge _ _)))) (.w (.pick0 rfl hg20 rfl) (.nil ?_))
   refine .head () zq2 (fun _ h => h) (Picks.perm zq1) ?_
   trivial
 ·refine .nil (.tn ?_)
  refine .cn rfl (fun hc1 => ?_) (fun hc1 => ?_)
  ·rw [← wd_mod (2 * z + t)]
   refine .seq (.region ?_)
   refine .w (.lda agg_40 rfl) (.w (.lda agg_40 rfl) (.c (f195_spec ((2 * z + t) % 115792089237316195423570985008687907853269984665640564039457584007913129639936) m (Nat.mod_lt _ (by decide)) hm) body_195 ?_))
   rw [sub_br hc1 (by omega) hm]
   refine .w (.move rfl) (.w (.as (v' := .agg ((wd (2 * z + t - m)).map u64).toArray) (.extract rfl rfl) rfl) (.w (.extract rfl rfl) (.sa sz_40 ?_)))
   refine .nil (.tn (.seq (.region ?_)))
   refine .w (.lda agg_40 rfl) (.sa sz_40 ?_)
   refine .w (.assign rfl) ?_
   refine .nil (.tn (.ret (.then_ret ?_)))
   exact .dn [] [] (res2 rfl (.cl agg_40) (.tmp rfl)) ⟨by rw [brF, brG, if_pos hc1, if_pos hc1]; rfl, rfl, rfl⟩
  ·skip
   refine .skip (.tn (.seq (.region ?_)))
   refine .w (.lda agg_40 rfl) (.sa sz_40 ?_)
   refine .w (.assign rfl) ?_
   refine .nil (.tn (.ret ?_))
   exact .dn [] [] (res2 rfl (.cl agg_40) (.tmp rfl)) ⟨by rw [brF, brG, if_neg hc1, if_neg hc1]; rfl, rfl, rfl⟩

set_option maxHeartbeats 1000000 in
theorem f113_spec (a m : Nat) (ha : a < 115792089237316195423570985008687907853269984665640564039457584007913129639936) (hm : m < 115792089237316195423570985008687907853269984665640564039457584007913129639936) :
  Spec Tryz.prog 113 #[(.agg ((wd a).map u64).toArray), (.agg ((wd m).map u64).toArray)] [] []
   (fun r Γ' H' => r = (.tuple #[.agg ((wd (a / m)).map u64).toArray, .agg ((wd (remF a m)).map u64).toArray, it (if m = 0 then 11 else 0)]) ∧ Γ' = [] ∧ H' = []) := by
 refine Spec.of_args Tryz.func113 rfl Tryz.ntmps113 (by simp) fun w => ?_
 refine .seq (.region ?_)
 refine .bx fun b2 => ?_
 refine .bx fun b3 => ?_
 refine .al zero_40 fun b4 => ?_
 refine .al zero_40 fun b5 => ?_
 refine .w (.assign rfl) ?_
 refine .nil (.tn (.seq (.seq (.region ?_))))
 refine .w (.lda agg_40 rfl) (.w (.as (v' := .agg ((wd 0).map u64).toArray) (.lda agg_40 rfl) rfl) (.w (.as (v' := .bool (decide (m = 0))) (.bin rfl rfl (eql_nat wd_len' wd_len')) (congrArg Value.bool (decide_eq_decide.2 (by rw [wd_eq hm (by decide)])))) ?_))
 refine .nil (.tn ?_)
 refine .cn rfl (fun hc1 => ?_) (fun hc1 => ?_)
 ·subst hc1
  refine .seq ?_
  refine JC.draw (.one 0 (.one 1 (.one 2 (.one 3 (.one 4 .nil))))) (fun i => ([3] : List Nat).contains i) (fun i => ([2, 3] : List Nat).contains i) (fun i => ([4] : List Nat).contains i) mixed (by kernel_rfl) (by decide) (by kernel_rfl) ?_
  refine .w rfl (.as (v' := .agg ((wd 0).map u64).toArray) (.lda agg_40 rfl) rfl) (.w rfl (.as (v' := .agg ((wd 0).map u64).toArray) (.lda agg_40 rfl) rfl) ?_)
  refine .mw0 rfl (.sa sz_40) ?_
  rintro _ _ _ ⟨rfl, rfl⟩
  refine kp ?_
  refine .mw0 rfl (.sa sz_40) ?_
  rintro _ _ _ ⟨rfl, rfl⟩
  refine kp ?_
  refine .uw rfl (.assign rfl) ?_
  refine .nil (.tn (.ret (.then_ret ?_)))
  exact .dn [] [] (res3 rfl (.cl agg_40) (.cl agg_40) (.tmp rfl)) ⟨by rw [Nat.div_zero, remF, if_pos rfl, if_pos rfl], rfl, rfl⟩
 ·have hm0 : 0 < m := Nat.pos_of_ne_zero hc1
  refine .skip (.tn (.seq (.seq (.region ?_))))
  refine .w (.assign rfl) ?_
  refine .nil (.tn (.block ?_))
  refine .lp (ι := Nat) (fun x => x ≤ 256) (fun T x => (2, ptr b2 0) :: (3, ptr b3 0) :: (4, ptr b4 0) :: (5, ptr b5 0) :: (6, it 0) :: (7, it ((x : Int) - 1)) :: T) (fun T _ => T) (fun T x => Res.cells b2 ((wd a).map u64) 40 :: Res.cells b3 ((wd m).map u64) 40 :: Res.cells b4 ((wd (quoK a m x)).map u64) 40 :: Res.cells b5 ((wd (restK a m x)).map u64) 40 :: T) (fun x => x) 256 [37, 38] ?_ (fun x hx => ?_) (hH := (by rw [quo_top ha, rest_top ha]; repeat (first | exact Picks.nil _ | apply Picks.cons | exact Pull.here _ _ | apply Pull.there)))
  ·exact Nat.le_refl _
  refine .seq (.seq (.region ?_))
  refine .w (.move rfl) (.w (.bin rfl rfl BinR.geq_i) ?_)
  refine .nil (.tn ?_)
  refine .cn rfl (fun hc2 => ?_) (fun hc2 => ?_)
  ·obtain ⟨k, rfl⟩ : ∃ k, x = k + 1 := ⟨x - 1, by omega⟩
   refine .skip (.tn (.seq (.block (.seq (.region ?_)))))
   refine .w (.assign rfl) ?_
   refine .nil (.tn (.seq ?_))
   refine JC.draw (.one 0 (.one 1 (.one 2 (.one 3 (.one 4 (.one 5 (.one 6 (.one 7 (.one 8 (.one 9 (.one 10 .nil))))))))))) (fun i => ([5, 9] : List Nat).contains i) (fun i => ([4, 5, 9] : List Nat).contains i) (fun i => ([3, 6, 7, 8, 10] : List Nat).contains i) mixed (by kernel_rfl) (by decide) (by kernel_rfl) ?_
   refine .w rfl (.lda agg_40 rfl) (.w rfl (.lda agg_40 rfl) (.w rfl (.lda agg_40 rfl) (.uw rfl (.asI (k : Int) (.move rfl)) ?_)))
   refine .mw rfl (.c (f160_spec a k (by omega)) body_160) ?_
   rintro _ _ _ ⟨rfl, rfl, rfl⟩
   refine kp ?_
   refine .mw rfl (.c (f164_spec (restK a m (k + 1)) m (a / 2 ^ k % 2) (rest_lt hm0) hm (Nat.mod_lt _ (by decide))) body_164) ?_
   rintro _ _ _ ⟨rfl, rfl, rfl⟩
   rw [← rest_step' hm0]
   refine kp ?_
   refine .uw rfl (.move rfl) (.uw rfl (.as (v' := .agg ((wd (restK a m k)).map u64).toArray) (.extract rfl rfl) rfl) (.uw rfl (.as (v' := u64 (BitVec.ofNat 64 (brG (restK a m (k + 1)) m (a / 2 ^ k % 2)))) (.extract rfl rfl) rfl) ?_))
   refine .mw0 rfl (.sa sz_40) ?_
   rintro _ _ _ ⟨rfl, rfl⟩
   refine kp ?_
   refine .uw rfl (.assign rfl) ?_
   refine .nil (.tn ?_)
   refine JC.draw (.one 0 (.one 1 (.one 2 (.one 3 (.one 4 (.one 5 (.one 6 (.one 7 (.one 8 (.one 9 (.one 10 .nil))))))))))) (fun i => ([10] : List Nat).contains i) (fun i => ([10] : List Nat).contains i) (fun i => ([0, 1, 2, 4, 5, 6, 7, 8, 9] : List Nat).contains i) mixed (by kernel_rfl) (by decide) (by kernel_rfl) ?_
   refine .uw rfl (.asI (k : Int) (.move rfl)) (.uw rfl (.asI ((k / 64 : Nat) : Int) (.bin rfl rfl (BinR.quo_i zq17 zq17 zq3))) (.uw rfl (.ixA Tryz.underlying40 sz_22 rfl rfl) (.w rfl (.ld one_22 rfl (hj := by first | exact wd_get _ (by omega) | rfl | exact tab_get zq10 | exact gm (d := 0) zq10)) (.uw rfl (.move rfl) (.uw rfl (.asI (k : Int) (.move rfl)) (.uw rfl (.asI ((k % 64 : Nat) : Int) (.bin rfl rfl (BinR.rem_i zq17 zq17))) ?_))))))
   refine .uw rfl (.as (v' := u64 (BitVec.ofNat 64 (brG (restK a m (k + 1)) m (a / 2 ^ k % 2)) <<< (k % 64))) (.bin rfl rfl (BinR.shl_u64_i zq17)) (congrArg (fun n => u64 (BitVec.ofNat 64 (brG (restK a m (k + 1)) m (a / 2 ^ k % 2)) <<< n)) (by omega))) (.uw rfl (.bin rfl rfl (BinR.or_u64)) (.uw rfl (.ixA Tryz.underlying40 sz_22 rfl rfl) ?_))
   refine .mw0 rfl (.s1 sz_22) ?_
   rintro _ _ _ ⟨rfl, rfl⟩
   refine kp ?_
   refine .nil (.block_normal (.tn (.region ?_)))
   refine .w (.asI (k : Int) (.move rfl)) (.w (.bin rfl rfl (BinR.sub_i zq3)) (.w (.assign rfl) (.nil ?_)))
   rw [quo_setv hm0 (by omega)]
   refine .hd k ?_
   exact ⟨by omega, by omega⟩
  ·obtain rfl : x = 0 := by omega
   rw [rest_0, quo_0]
   refine .exit (.then_exit (.then_exit (.block_exit (.tn (.seq ?_)))))
   refine JC.draw (.one 0 (.one 1 (.one 2 (.one 3 (.one 4 .nil))))) (fun i => ([3] : List Nat).contains i) (fun i => ([2, 3] : List Nat).contains i) (fun i => ([4] : List Nat).contains i) mixed (by kernel_rfl) (by decide) (by kernel_rfl) ?_
   refine .w rfl (.lda agg_40 rfl) (.w rfl (.lda agg_40 rfl) ?_)
   refine .mw0 rfl (.sa sz_40) ?_
   rintro _ _ _ ⟨rfl, rfl⟩
   refine kp ?_
   refine .mw0 rfl (.sa sz_40) ?_
   rintro _ _ _ ⟨rfl, rfl⟩
   refine kp ?_
   refine .uw rfl (.assign rfl) ?_
   refine .nil (.tn (.ret ?_))
   exact .dn [] [] (res3 rfl (.cl agg_40) (.cl agg_40) (.tmp rfl)) ⟨by rw [remF, if_neg hc1, if_neg hc1], rfl, rfl⟩

theorem f165_spec (x y : W64) :
  Spec Tryz.prog 165 #[u64 x, u64 y] [] []
   (fun r Γ' H' => r = (.tuple #[u64 (BitVec.ofNat 64 (x.toNat * y.toNat / 18446744073709551616)), u64 (x * y)]) ∧ Γ' = [] ∧ H' = []) := by
 refine Spec.of_args Tryz.func165 rfl Tryz.ntmps165 (by simp) fun w => ?_
 refine .seq (.region ?_)
 refine .w (.assign rfl) (.w (.assign rfl) ?_)
 refine .nil (.tn (.seq (.region ?_)))
 refine .w (.move rfl) (.w (.bin rfl rfl (BinR.and_u64 (b := 4294967295#64))) (.w (.assign rfl) ?_))
 refine .nil (.tn (.seq (.region ?_)))
 refine .w (.move rfl) (.w (.bin rfl rfl (BinR.shr_u64_u64 (n := 32#64))) (.w (.assign rfl) ?_))
 refine .nil (.tn (.seq (.region ?_)))
 refine .w (.move rfl) (.w (.bin rfl rfl (BinR.and_u64 (b := 4294967295#64))) (.w (.assign rfl) ?_))
 refine .nil (.tn (.seq (.region ?_)))
 refine .w (.move rfl) (.w (.bin rfl rfl (BinR.shr_u64_u64 (n := 32#64))) (.w (.assign rfl) ?_))
 refine .nil (.tn (.seq (.region ?_)))
 refine .w (.move rfl) (.w (.move rfl) (.w (.bin rfl rfl (BinR.mul_u64)) (.w (.assign rfl) ?_)))
 refine .nil (.tn (.seq (.region ?_)))
 refine .w (.move rfl) (.w (.move rfl) (.w (.bin rfl rfl (BinR.mul_u64)) (.w (.move rfl) (.w (.bin rfl rfl (BinR.shr_u64_u64 (n := 32#64))) (.w (.bin rfl rfl (BinR.add_u64)) (.w (.assign rfl) ?_))))))
 refine .nil (.tn (.seq (.region ?_)))
 refine .w (.move rfl) (.w (.bin rfl rfl (BinR.and_u64 (b := 4294967295#64))) (.w (.assign rfl) ?_))
 refine .nil (.tn (.seq (.region ?_)))
 refine .w (.move rfl) (.w (.bin rfl rfl (BinR.shr_u64_u64 (n := 32#64))) (.w (.assign rfl) ?_))
 refine .nil (.tn (.seq (.region ?_)))
 refine .w (.move rfl) (.w (.move rfl) (.w (.move rfl) (.w (.bin rfl rfl (BinR.mul_u64)) (.w (.bin rfl rfl (BinR.add_u64)) (.w (.assign rfl) ?_)))))
 refine .nil (.tn (.seq (.region ?_)))
 refine .w (.move rfl) (.w (.move rfl) (.w (.bin rfl rfl (BinR.mul_u64)) (.w (.move rfl) (.w (.bin rfl rfl (BinR.add_u64)) (.w (.move rfl) (.w (.bin rfl rfl (BinR.shr_u64_u64 (n := 32#64))) ?_))))))
 refine .w (.bin rfl rfl (BinR.add_u64)) (.w (.as (v' := u64 (BitVec.ofNat 64 (x.toNat * y.toNat / 18446744073709551616))) (.assign rfl) (congrArg u64 (mul64 x y))) ?_)
 refine .nil (.tn (.seq (.region ?_)))
 refine .w (.move rfl) (.w (.move rfl) (.w (.bin rfl rfl (BinR.mul_u64)) (.w (.assign rfl) ?_)))
 refine .nil (.tn (.ret ?_))
 exact .dn [] [] (res2 rfl (.tmp rfl) (.tmp rfl)) ⟨rfl, rfl, rfl⟩

theorem f114_spec (x y : W64) :
  Spec Tryz.prog 114 #[u64 x, u64 y] [] []
   (fun r Γ' H' => r = (.agg ((wd (x.toNat * y.toNat)).map u64).toArray) ∧ Γ' = [] ∧ H' = []) := by
 refine Spec.of_args Tryz.func114 rfl Tryz.ntmps114 (by simp) fun w => ?_
 refine .seq (.region ?_)
 refine .al zero_40 fun b4 => ?_
 refine .nil (.tn (.seq (.region ?_)))
 refine .w (.move rfl) (.w (.move rfl) (.c (f165_spec x y) body_165 ?_))
 refine .w (.move rfl) (.w (.extract rfl rfl) (.w (.extract rfl rfl) (.w (.assign rfl) (.w (.assign rfl) ?_))))
 refine .nil (.tn (.seq (.region ?_)))
 refine .w (.move rfl) (.w (.move rfl) (.w (.as (v' := .agg ((wd (x.toNat * y.toNat)).map u64).toArray) (.build bld_40 rfl rfl) (by rw [wd_prod]; rfl)) (.sa sz_40 ?_)))
 refine .nil (.tn (.ret ?_))
 exact .dn [] [] (res1 rfl (.cl agg_40)) ⟨rfl, rfl, rfl⟩

theorem f112_spec (v : Value) (l : List W64) :
  Spec Tryz.prog 112 #[v] [Res.rd v l.length 1 (l.map u64)] []
   (fun r Γ' H' => r = (.agg ((wd (totN l)).map u64).toArray) ∧ Γ' = [] ∧ H' = []) := by
 refine Spec.of_args Tryz.func112 rfl Tryz.ntmps112 (by simp) fun w => ?_
 refine JC.know (φ := l.length ≤ 9223372036854775807) (fun w hs => by obtain ⟨_, _, _, _, _, _, h⟩ := hs.rdForm (.head _); unfold maxLen at h; omega) fun hll => ?_
 refine .seq (.region ?_)
 refine .al zero_40 fun b2 => ?_
 refine .nil (.tn (.seq (.region ?_)))
 refine .al zero_40 fun b3 => ?_
 refine .nil (.tn (.seq (.seq (.region ?_))))
 refine .w (.move rfl) (.w (.len Tryz.underlying25 rfl) (.w (.move rfl) ?_))
 refine .nil (.tn (.block ?_))
 refine .lp (ι := Nat) (fun x => x ≤ l.length) (fun T x => (2, ptr b2 0) :: (3, ptr b3 0) :: (6, v) :: (7, it (l.length : Int)) :: (8, it (x : Int)) :: T) (fun T x => Res.rd v l.length 1 (l.map u64) :: T) (fun T x => Res.cells b2 ((wd 0).map u64) 40 :: Res.cells b3 ((wd (totN (l.take x))).map u64) 40 :: T) (fun x => l.length - x) 0 [20] ?_ (fun x hx => ?_) (hH := (by rw [tot_0]; repeat (first | exact Picks.nil _ | apply Picks.cons | exact Pull.here _ _ | apply Pull.there)))
 ·exact Nat.zero_le _
 refine .seq (.region ?_)
 refine .w (.bin rfl rfl BinR.lss_i) ?_
 refine .nil (.tn (.seq ?_))
 refine .cn rfl (fun hc1 => ?_) (fun hc1 => ?_)
 ·refine .skip (.tn (.seq (.block (.seq (.region ?_)))))
  refine .w (.ix1 Tryz.underlying25 sz_22 rfl rfl) (.w (.ld one_22 rfl) (.w (.assign rfl) ?_))
  refine .nil (.tn (.region ?_))
  refine .w (.lda agg_40 rfl) (.w (.move rfl) (.w (.as (v' := .agg ((wd (l.getD x 0).toNat).map u64).toArray) (.build bld_40 rfl rfl) (by rw [wd_small]; rfl)) (.c (f163_spec (totN (l.take x)) (l.getD x 0).toNat (tot_lt _) (w_lt _)) body_163 ?_)))
  rw [tot_succ (by omega)]
  refine .w (.move rfl) (.w (.as (v' := .agg ((wd (totN (l.take (x + 1)))).map u64).toArray) (.extract rfl rfl) rfl) (.w (.extract rfl rfl) (.sa sz_40 ?_)))
  refine .nil (.block_normal (.tn (.region ?_)))
  refine .w (.asI ((x + 1 : Nat) : Int) (.bin rfl rfl (BinR.add_i zq3))) (.w (.move rfl) (.nil ?_))
  refine .hd (x + 1) ?_
  exact ⟨by omega, by omega⟩
 ·obtain rfl : x = l.length := by omega
  rw [List.take_length]
  refine .exit (.then_exit (.then_exit (.block_exit (.tn (.seq (.region ?_))))))
  refine .w (.lda agg_40 rfl) (.sa sz_40 ?_)
  refine .nil (.tn (.ret ?_))
  exact .dn [] [] (res1 rfl (.cl agg_40)) ⟨rfl, rfl, rfl⟩

theorem f213_spec (a b : Nat) (ha : a < 115792089237316195423570985008687907853269984665640564039457584007913129639936) (hb : b < 115792089237316195423570985008687907853269984665640564039457584007913129639936) :
  Spec Tryz.prog 213 #[(.agg ((wd a).map u64).toArray), (.agg ((wd b).map u64).toArray)] [] []
   (fun r Γ' H' => r = (.agg ((wd8 (a * b)).map u64).toArray) ∧ Γ' = [] ∧ H' = []) := by
 refine Spec.of_args Tryz.func213 rfl Tryz.ntmps213 (by simp) fun w => ?_
 refine .seq (.region ?_)
 refine .bx fun b2 => ?_
 refine .bx fun b3 => ?_
 refine .al zero_254 fun b4 => ?_
 refine .nil (.tn (.seq (.region ?_)))
 refine .al zero_254 fun b5 => ?_
 refine .nil (.tn (.seq (.seq (.region ?_))))
 refine .w (.lda agg_40 rfl) (.w (.move rfl) ?_)
 refine .nil (.tn (.block ?_))
 refine .lp (ι := Nat × List W64) (fun x => x.1 ≤ 4 ∧ x.2.length = 8 ∧ val x.2 = (a % pw x.1) * b ∧ ∀ k, x.1 + 4 ≤ k → k < 8 → x.2.getD k 0 = 0) (fun T x => (15, it (x.1 : Int)) :: T) (fun T _ => T) (fun T x => Res.cells b5 (x.2.map u64) 254 :: T) (fun x => 4 - x.1) (0, List.replicate 8 0) [3, 4, 5, 14, 63] ?_ (fun x hx => ?_)
 ·exact ⟨by decide, rfl, by simp [pw_0, Nat.mod_one, val, List.replicate], fun k _ h => by rw [List.getD_eq_getElem?_getD, List.getElem?_replicate, if_pos h]; rfl⟩
 obtain ⟨i, ws⟩ := x
 obtain ⟨hi, hw1, hw2, hw3⟩ := hx
 dsimp only at hi hw1 hw2 hw3 ⊢
 refine .seq (.region ?_)
 refine .w (.bin rfl rfl BinR.lss_i) ?_
 refine .nil (.tn (.seq ?_))
 refine .cn rfl (fun hc1 => ?_) (fun hc1 => ?_)
 ·skip
  refine .skip (.tn (.seq (.block (.seq (.region ?_)))))
  refine .w (.move rfl) (.w (.as (v' := u64 (wat a i)) (.indexAgg Tryz.underlying40 Tryz.underlying22 sz_22 rfl rfl zq6 (by first | rfl | exact gm (d := 0) zq10)) rfl) (.w (.assign rfl) (.w (.assign rfl) ?_)))
  refine .nil (.tn (.seq (.region ?_)))
  refine .w (.assign rfl) ?_
  refine .nil (.tn (.seq (.seq (.region ?_))))
  refine .w (.lda agg_40 rfl) (.w (.move rfl) ?_)
  refine .nil (.tn (.block ?_))
  refine .lp (ι := Nat × W64 × List W64) (fun x => x.1 ≤ 4 ∧ MulI a b i x.1 x.2.1 x.2.2) (fun T x => (20, it (x.1 : Int)) :: (8, u64 x.2.1) :: T) (fun T _ => T) (fun T x => Res.cells b5 (x.2.2.map u64) 254 :: T) (fun x => 4 - x.1) (0, 0, ws) [3, 4, 5, 6, 7, 14, 15, 16, 17, 18, 19, 58, 59, 60, 61, 62, 63] ?_ (fun x hx => ?_)
  ·exact ⟨Nat.zero_le _, MulI.start a b hw1 hw2 hw3⟩
  clear hw1 hw2 hw3
  obtain ⟨j, c, ws⟩ := x
  obtain ⟨hj, hI⟩ := hx
  dsimp only at hj hI ⊢
  have hw1 := hI.1
  refine .seq (.region ?_)
  refine .w (.bin rfl rfl BinR.lss_i) ?_
  refine .nil (.tn (.seq ?_))
  refine .cn rfl (fun hc2 => ?_) (fun hc2 => ?_)
  ·skip
   refine .skip (.tn (.seq (.block (.seq (.region ?_)))))
   refine .w (.move rfl) (.w (.as (v' := u64 (wat b j)) (.indexAgg Tryz.underlying40 Tryz.underlying22 sz_22 rfl rfl zq6 (by first | rfl | exact gm (d := 0) zq10)) rfl) (.w (.assign rfl) (.w (.assign rfl) ?_)))
   refine .nil (.tn (.seq (.region ?_)))
   refine .w (.move rfl) (.w (.move rfl) (.c (f165_spec (wat a i) (wat b j)) body_165 ?_))
   refine .w (.move rfl) (.w (.as (v' := u64 (BitVec.ofNat 64 ((wat a i).toNat * (wat b j).toNat / 18446744073709551616))) (.extract rfl rfl) rfl) (.w (.as (v' := u64 (wat a i * wat b j)) (.extract rfl rfl) rfl) (.w (.assign rfl) (.w (.assign rfl) ?_))))
   refine .nil (.tn (.seq (.region ?_)))
   refine .w (.assign rfl) ?_
   refine .nil (.tn (.seq (.region ?_)))
   refine .w (.move rfl) (.w (.move rfl) (.w (.move rfl) (.w (.asI ((i + j : Nat) : Int) (.bin rfl rfl (BinR.add_i zq3))) (.w (.ixA Tryz.underlying254 sz_22 rfl rfl) (.w (.ld one_22 rfl (hj := by exact gm (d := 0) (by omega))) (.w (.ext rfl (ext_193 _ _ 0#64 (by decide))) ?_))))))
   refine .w (.move rfl) (.w (.as (v' := u64 (wat a i * wat b j + (ws.getD (i + j) 0) + 0#64)) (.extract rfl rfl) rfl) (.w (.as (v' := u64 (BitVec.ofNat 64 (((wat a i * wat b j).toNat + (ws.getD (i + j) 0).toNat + (0#64).toNat) / 18446744073709551616))) (.extract rfl rfl) rfl) (.w (.assign rfl) (.w (.assign rfl) ?_))))
   refine .nil (.tn (.seq (.region ?_)))
   refine .w (.move rfl) (.w (.move rfl) (.w (.bin rfl rfl (BinR.add_u64)) (.w (.assign rfl) ?_)))
   refine .nil (.tn (.seq (.region ?_)))
   refine .w (.move rfl) (.w (.move rfl) (.w (.ext rfl (ext_193 _ _ 0#64 (by decide))) (.w (.move rfl) (.w (.as (v' := u64 (mlo (wat a i) (wat b j) (ws.getD (i + j) 0) c)) (.extract rfl rfl) (congrArg u64 (mlo_eq _ _ _ _))) (.w (.as (v' := u64 (BitVec.ofNat 64 (((wat a i * wat b j + (ws.getD (i + j) 0) + 0#64).toNat + c.toNat + (0#64).toNat) / 18446744073709551616))) (.extract rfl rfl) rfl) (.w (.assign rfl) ?_))))))
   refine .w (.assign rfl) ?_
   refine .nil (.tn (.region ?_))
   refine .w (.move rfl) (.w (.move rfl) (.w (.asI ((i + j : Nat) : Int) (.bin rfl rfl (BinR.add_i zq3))) (.w (.move rfl) (.w (.move rfl) (.w (.move rfl) (.w (.as (v' := u64 (mhi (wat a i) (wat b j) (ws.getD (i + j) 0) c)) (.bin rfl rfl (BinR.add_u64)) (congrArg u64 (mhi_eq _ _ _ _))) ?_))))))
   refine .w (.ixA Tryz.underlying254 sz_22 rfl rfl) ?_
   refine .s1 sz_22 ?_
   refine .w (.assign rfl) ?_
   refine .nil (.block_normal (.tn (.region ?_)))
   refine .w (.asI ((j + 1 : Nat) : Int) (.bin rfl rfl (BinR.add_i zq3))) (.w (.move rfl) (.nil ?_))
   rw [← List.map_set]
   refine .hd (j + 1, mhi (wat a i) (wat b j) (ws.getD (i + j) 0) c, ws.set (i + j) (mlo (wat a i) (wat b j) (ws.getD (i + j) 0) c)) ?_
   exact ⟨⟨by dsimp only; omega, hI.step (by omega) (by omega)⟩, by dsimp only; omega⟩
  ·obtain rfl : j = 4 := by omega
   refine .exit (.then_exit (.then_exit (.block_exit (.tn (.region ?_)))))
   refine .w (.move rfl) (.w (.asI ((i + 4 : Nat) : Int) (.bin rfl rfl (BinR.add_i zq3))) (.w (.move rfl) (.w (.ixA Tryz.underlying254 sz_22 rfl rfl) ?_)))
   refine .s1 sz_22 ?_
   refine .nil (.block_normal (.tn (.region ?_)))
   refine .w (.asI ((i + 1 : Nat) : Int) (.bin rfl rfl (BinR.add_i zq3))) (.w (.move rfl) (.nil ?_))
   rw [← List.map_set]
   refine .hd (i + 1, ws.set (i + 4) c) ?_
   exact ⟨⟨by dsimp only; omega, (hI.row hb (by omega)).1, (hI.row hb (by omega)).2.1, (hI.row hb (by omega)).2.2⟩, by dsimp only; omega⟩
 ·obtain rfl : i = 4 := by omega
  obtain rfl : ws = wd8 (a * b) := by rw [val_wd8 hw1, hw2, pw_4, Nat.mod_eq_of_lt ha]
  refine .exit (.then_exit (.then_exit (.block_exit (.tn (.seq (.region ?_))))))
  refine .w (.lda agg_254 rfl) (.sa sz_254 ?_)
  refine .nil (.tn (.ret ?_))
  exact .dn [] [] (res1 rfl (.cl agg_254)) ⟨rfl, rfl, rfl⟩

theorem f212_spec (W m : Nat) (hW : W < 115792089237316195423570985008687907853269984665640564039457584007913129639936 * 115792089237316195423570985008687907853269984665640564039457584007913129639936) (hm : m < 115792089237316195423570985008687907853269984665640564039457584007913129639936) (h0 : 0 < m) :
  Spec Tryz.prog 212 #[(.agg ((wd8 W).map u64).toArray), (.agg ((wd m).map u64).toArray)] [] []
   (fun r Γ' H' => r = (.tuple #[(.agg ((wd (W % m)).map u64).toArray), it 0]) ∧ Γ' = [] ∧ H' = []) := by
 refine Spec.of_args Tryz.func212 rfl Tryz.ntmps212 (by simp) fun w => ?_
 refine .seq (.region ?_)
 refine .bx fun b2 => ?_
 refine .bx fun b3 => ?_
 refine .al zero_40 fun b4 => ?_
 refine .w (.assign rfl) ?_
 refine .nil (.tn (.seq (.region ?_)))
 refine .al zero_40 fun b6 => ?_
 refine .nil (.tn (.seq (.seq (.region ?_))))
 refine .w (.lda agg_40 rfl) (.w (.as (v' := .agg ((wd 0).map u64).toArray) (.lda agg_40 rfl) rfl) (.w (.as (v' := .bool false) (.bin rfl rfl (eql_nat wd_len' wd_len')) (congrArg Value.bool (decide_eq_false (by rw [wd_eq hm (by decide)]; omega)))) ?_))
 refine .nil (.tn ?_)
 refine .cf rfl ?_
 refine .skip (.tn (.seq (.seq (.region ?_))))
 refine .w (.move rfl) ?_
 refine .nil (.tn (.block ?_))
 refine .lp (ι := Nat) (fun x => x ≤ 512) (fun T x => (13, it ((512 - x : Nat) : Int)) :: T) (fun T _ => T) (fun T x => Res.cells b6 ((wd (restK W m x)).map u64) 40 :: T) (fun x => x) 512 [2, 3, 4, 5, 6, 33] ?_ (fun x hx => ?_) (hH := (by rw [rest_top8 hW]; repeat (first | exact Picks.nil _ | apply Picks.cons | exact Pull.here _ _ | apply Pull.there)))
 ·exact Nat.le_refl _
 refine .seq (.region ?_)
 refine .w (.bin rfl rfl BinR.lss_i) ?_
 refine .nil (.tn (.seq ?_))
 refine .cn rfl (fun hc2 => ?_) (fun hc2 => ?_)
 ·obtain ⟨k, rfl⟩ : ∃ k, x = k + 1 := ⟨x - 1, by omega⟩
  refine .skip (.tn (.seq (.block (.seq (.region ?_)))))
  refine .w (.move rfl) (.w (.assign rfl) ?_)
  refine .nil (.tn (.seq (.region ?_)))
  refine .w (.move rfl) (.w (.asI (k : Int) (.bin rfl rfl (BinR.sub_i zq3))) (.w (.assign rfl) ?_))
  refine .nil (.tn ?_)
  refine JC.draw (.one 0 (.one 1 (.one 2 (.one 3 (.one 4 (.one 5 (.one 6 (.one 7 (.one 8 (.one 9 (.one 10 (.one 11 (.one 12 (.one 13 (.one 14 .nil))))))))))))))) (fun i => ([10, 14] : List Nat).contains i) (fun i => ([10, 14] : List Nat).contains i) (fun i => ([2, 3, 4, 6, 7, 8, 9, 11, 12, 13] : List Nat).contains i) mixed (by kernel_rfl) (by decide) (by kernel_rfl) ?_
  refine .w rfl (.lda agg_40 rfl) (.w rfl (.lda agg_40 rfl) (.uw rfl (.move rfl) (.uw rfl (.asI ((k / 64 : Nat) : Int) (.bin rfl rfl (BinR.quo_i zq17 zq17 zq3))) (.uw rfl (.ixA Tryz.underlying254 sz_22 rfl rfl) (.w rfl (.as (v' := u64 (wat8 W (k / 64))) (.ld one_22 rfl (hj := by exact wd8_at W (by omega))) rfl) (.uw rfl (.move rfl) ?_))))))
  refine .uw rfl (.asI ((k % 64 : Nat) : Int) (.bin rfl rfl (BinR.rem_i zq17 zq17))) (.uw rfl (.as (v' := u64 (wat8 W (k / 64) >>> (k % 64))) (.bin rfl rfl (BinR.shr_u64_i zq17)) (congrArg (fun n => u64 (wat8 W (k / 64) >>> n)) (by omega))) (.uw rfl (.as (v' := u64 (BitVec.ofNat 64 (W / 2 ^ k % 2))) (.bin rfl rfl (BinR.and_u64 (b := 1#64))) (congrArg u64 (bit8w W (by omega)))) ?_))
  refine .mw rfl (.c (f164_spec (restK W m (k + 1)) m (W / 2 ^ k % 2) (rest_lt h0) hm (Nat.mod_lt _ (by decide))) body_164) ?_
  rintro _ _ _ ⟨rfl, rfl, rfl⟩
  rw [← rest_step' h0]
  refine kp ?_
  refine .uw rfl (.move rfl) (.uw rfl (.as (v' := .agg ((wd (restK W m k)).map u64).toArray) (.extract rfl rfl) rfl) (.uw rfl (.extract rfl rfl) ?_))
  refine .mw0 rfl (.sa sz_40) ?_
  rintro _ _ _ ⟨rfl, rfl⟩
  refine kp ?_
  refine .nil (.block_normal (.tn (.region ?_)))
  refine .w (.asI ((512 - k : Nat) : Int) (.bin rfl rfl (BinR.add_i zq3))) (.w (.move rfl) (.nil ?_))
  refine .hd k ?_
  exact ⟨by omega, by omega⟩
 ·obtain rfl : x = 0 := by omega
  rw [rest_0]
  refine .exit (.then_exit (.then_exit (.block_exit (.tn (.seq (.region ?_))))))
  refine .w (.lda agg_40 rfl) (.sa sz_40 ?_)
  refine .w (.assign rfl) ?_
  refine .nil (.tn (.ret ?_))
  exact .dn [] [] (res2 rfl (.cl agg_40) (.tmp rfl)) ⟨rfl, rfl, rfl⟩
theorem f159_spec (a : Nat) (ha : a < 115792089237316195423570985008687907853269984665640564039457584007913129639936) :
  Spec Tryz.prog 159 #[(.agg ((wd a).map u64).toArray)] [] []
   (fun r Γ' H' => r = (it (bitlen a : Int)) ∧ Γ' = [] ∧ H' = []) := by
 refine Spec.of_args Tryz.func159 rfl Tryz.ntmps159 (by simp) fun w => ?_
 refine .seq (.region ?_)
 refine .bx fun b1 => ?_
 refine .w (.assign rfl) ?_
 refine .nil (.tn (.seq (.seq (.region ?_))))
 refine .w (.assign rfl) ?_
 refine .nil (.tn (.block ?_))
 refine .lp (ι := Nat) (fun x => x ≤ 4 ∧ a / pw x = 0) (fun T x => (3, it ((x : Int) - 1)) :: T) (fun T _ => T) (fun T _ => T) (fun x => x) 4 [1] ?_ (fun x hx => ?_)
 ·exact ⟨Nat.le_refl _, by rw [pw_4]; exact Nat.div_eq_of_lt ha⟩
 obtain ⟨hx, hz⟩ := hx
 refine .seq (.seq (.region ?_))
 refine .w (.move rfl) (.w (.bin rfl rfl BinR.geq_i) ?_)
 refine .nil (.tn ?_)
 refine .cn rfl (fun hc1 => ?_) (fun hc1 => ?_)
 ·obtain ⟨i, rfl⟩ : ∃ i, x = i + 1 := ⟨x - 1, by omega⟩
  refine .skip (.tn (.seq (.block (.seq (.region ?_)))))
  refine .w (.asI (i : Int) (.move rfl)) (.w (.ixA Tryz.underlying40 sz_22 rfl rfl) (.w (.ld one_22 rfl (hj := by exact wd_get _ (by omega))) (.w (.bin rfl rfl (BinR.neq_u64 (b := 0#64))) ?_)))
  refine .nil (.tn ?_)
  refine .cn rfl (fun hc2 => ?_) (fun hc2 => ?_)
  ·try simp only [BitVec.reduceToNat] at hc2
   have hres := len_word ha (by omega) hz hc2
   have hl64 := len64_le (wat a i)
   refine .seq (.region ?_)
   refine .w (.move rfl) (.w (.bin rfl rfl (BinR.mul_i zq3)) (.w (.asI (i : Int) (.move rfl)) (.w (.ixA Tryz.underlying40 sz_22 rfl rfl) (.w (.ld one_22 rfl (hj := by exact wd_get _ (by omega))) (.c (f147_spec (wat a i)) body_147 ?_)))))
   refine .w (.bin rfl rfl (BinR.add_i zq3)) (.w (.as (v' := it (bitlen a : Int)) (.assign rfl) (congrArg it (by rw [hres]; omega))) ?_)
   refine .nil (.tn (.ret (.block_ret (.then_ret (.then_ret (.block_ret (.then_ret ?_)))))))
   exact .dn [] [] (res1 rfl (.tmp rfl)) ⟨rfl, rfl, rfl⟩
  ·try simp only [BitVec.reduceToNat] at hc2
   have hw0 : wat a i = 0 := by simpa using hc2
   refine .skip (.block_normal (.tn (.region ?_)))
   refine .w (.move rfl) (.w (.asI ((i : Int) - 1) (.bin rfl rfl (BinR.sub_i zq3))) (.w (.assign rfl) (.nil ?_)))
   refine .hd i ?_
   exact ⟨⟨by omega, len_next ha (by omega) hz hw0⟩, by omega⟩
 ·obtain rfl : x = 0 := by omega
  have hres := len_zero hz
  refine .exit (.then_exit (.then_exit (.block_exit (.tn (.seq (.region ?_))))))
  refine .w (.as (v' := it (bitlen a : Int)) (.assign rfl) (congrArg it (by rw [hres]; rfl))) ?_
  refine .nil (.tn (.ret ?_))
  exact .dn [] [] (res1 rfl (.tmp rfl)) ⟨rfl, rfl, rfl⟩

theorem f211_spec (p bx m : Nat) (hm : m < 115792089237316195423570985008687907853269984665640564039457584007913129639936) (h0 : 0 < m) :
  Spec Tryz.prog 211 #[(ptr bx 0)] [] [Res.cells p (modX m 0 1 0 0) 179, Res.cells bx [ptr p 0] 91]
   (fun r Γ' H' => r = .tuple #[] ∧ Γ' = [] ∧ H' = [Res.cells p (modX m 0 1 (mnsM m) (sqM m)) 179, Res.cells bx [ptr p 0] 91]) := by
 refine Spec.of_args Tryz.func211 rfl Tryz.ntmps211 (by simp) fun w => ?_
 refine .seq (.region ?_)
 refine .w (.assign rfl) ?_
 refine .nil (.tn (.seq (.seq (.region ?_))))
 refine .w (.move rfl) ?_
 refine .nil (.tn (.block ?_))
 refine .lp (ι := Nat) (fun x => x ≤ 6) (fun T x => (4, it (x : Int)) :: (1, u64 (nwt (wat m 0) x)) :: T) (fun T _ => T) (fun T _ => T) (fun x => 6 - x) 0 [0, 2, 17, 18, 19, 20, 21, 22, 23, 24, 25, 26, 27, 28, 29, 30, 31, 32, 33, 34, 35, 36, 37, 38, 39, 40, 41, 43, 44] ?_ (fun x hx => ?_)
 ·exact Nat.zero_le _
 refine .seq (.region ?_)
 refine .w (.bin rfl rfl BinR.lss_i) ?_
 refine .nil (.tn (.seq ?_))
 refine .cn rfl (fun hc1 => ?_) (fun hc1 => ?_)
 ·skip
  refine .skip (.tn (.seq (.block (.region ?_))))
  refine .w (.move rfl) (.w (.ld one_91 rfl) (.w (.nilCheck rfl) (.w (.fieldAddr fa_179_0 rfl) (.w (.ixA (j := 0) Tryz.underlying40 sz_22 rfl rfl) (.w (.as (v' := u64 (wat m 0)) (.ld one_22 rfl) rfl) (.w (.move rfl) ?_))))))
  refine .w (.bin rfl rfl (BinR.mul_u64)) (.w (.bin rfl rfl (BinR.sub_u64 (a := 2#64))) (.w (.as (v' := u64 (nwt (wat m 0) (x + 1))) (.bin rfl rfl (BinR.mul_u64)) rfl) (.w (.assign rfl) ?_)))
  refine .nil (.block_normal (.tn (.region ?_)))
  refine .w (.asI ((x + 1 : Nat) : Int) (.bin rfl rfl (BinR.add_i zq3))) (.w (.move rfl) (.nil ?_))
  refine .hd (x + 1) ?_
  exact ⟨by omega, by omega⟩
 ·obtain rfl : x = 6 := by omega
  refine .exit (.then_exit (.then_exit (.block_exit (.tn (.seq (.region ?_))))))
  refine .w (.ld one_91 rfl) (.w (.move rfl) (.w (.as (v' := u64 (mnsM m)) (.neg_u rfl) rfl) (.w (.nilCheck rfl) (.w (.fieldAddr fa_179_2 rfl) ?_))))
  refine .s1 sz_22 ?_
  refine .nil (.tn (.seq (.region ?_)))
  refine .w (.as (v' := .agg ((wd8 (2 ^ 256)).map u64).toArray) (.build bld_254 rfl rfl) (by rw [one_wide]; rfl)) (.w (.ld one_91 rfl) (.w (.nilCheck rfl) (.w (.fieldAddr fa_179_0 rfl) (.w (.as (v' := .agg ((wd m).map u64).toArray) (.lda agg_40 rfl) (by rfl)) (.c (f212_spec (2 ^ 256) m one_512 hm h0) body_212 ?_)))))
  refine .w (.move rfl) (.w (.as (v' := .agg ((wd (2 ^ 256 % m)).map u64).toArray) (.extract rfl rfl) rfl) (.w (.extract rfl rfl) (.al zero_40 fun b2 => ?_)))
  refine .sa sz_40 ?_
  refine .w (.assign rfl) ?_
  refine .nil (.tn ?_)
  refine JC.draw (.one 0 (.one 1 (.one 2 (.one 4 (.one 5 (.one 6 (.one 7 (.one 3 (.one 8 (.one 9 (.one 10 (.one 11 (.one 12 (.one 13 (.one 14 .nil))))))))))))))) (fun i => ([14] : List Nat).contains i) (fun i => ([3, 8, 14] : List Nat).contains i) (fun i => ([5, 6, 9, 10, 11, 12, 13] : List Nat).contains i) mixed (by kernel_rfl) (by decide) (by kernel_rfl) ?_
  refine .w rfl (.ld one_91 rfl) (.w rfl (.lda agg_40 rfl) (.w rfl (.lda agg_40 rfl) (.w rfl (.ld one_91 rfl) (.uw rfl (.nilCheck rfl) (.uw rfl (.fieldAddr fa_179_0 rfl) (.w rfl (.as (v' := .agg ((wd m).map u64).toArray) (.lda agg_40 rfl) (by rfl)) ?_))))))
  refine .mw rfl (.c (f213_spec (2 ^ 256 % m) (2 ^ 256 % m) (Nat.lt_trans (Nat.mod_lt _ h0) hm) (Nat.lt_trans (Nat.mod_lt _ h0) hm)) body_213) ?_
  rintro _ _ _ ⟨rfl, rfl, rfl⟩
  refine kp ?_
  refine .mw rfl (.c (f212_spec (2 ^ 256 % m * (2 ^ 256 % m)) m (prod_512 (Nat.lt_trans (Nat.mod_lt _ h0) hm) (Nat.lt_trans (Nat.mod_lt _ h0) hm)) hm h0) body_212) ?_
  rintro _ _ _ ⟨rfl, rfl, rfl⟩
  refine kp ?_
  refine .uw rfl (.move rfl) (.uw rfl (.as (v' := .agg ((wd (sqM m)).map u64).toArray) (.extract rfl rfl) rfl) (.uw rfl (.extract rfl rfl) (.uw rfl (.nilCheck rfl) (.uw rfl (.fieldAddr fa_179_3 rfl) ?_))))
  refine .mw0 rfl (.so sz_40) ?_
  rintro _ _ _ ⟨rfl, rfl⟩
  refine kp ?_
  refine .nil ?_
  exact .dn [] [Res.cells p (modX m 0 1 (mnsM m) (sqM m)) 179, Res.cells bx [ptr p 0] 91] (res_none rfl) ⟨rfl, rfl, rfl⟩
abbrev cVar (b p : Nat) : Res := Res.cells b [ptr p 0] 91
abbrev onceF (bx : Nat) : Value := .func (.func 211) #[] #[ptr bx 0]
theorem Stp.pre {H : RL} {S : Nat → Prop} {a b c : World} (h : Stp S a b) (k : Stp S b c) : Stp S a c := h.trans k fun _ _ h => h
theorem do_spec (p bx m : Nat) (hm : m < 115792089237316195423570985008687907853269984665640564039457584007913129639936) (h0 : 0 < m) (d : Bool) :
  Spec Tryz.prog 210 #[ptr p 4, onceF bx] [] [cMod p (modC m d), cVar bx p] (fun r Γ' H' => r = .tuple #[] ∧ Γ' = [] ∧ H' = [cMod p (modC m true), cVar bx p]) := fun w hw => by
 have hst := St.begin hw
 have hb := Res.cells_ok.1 (hw.hok _ (.head _))
 have hc := cells_heap hb
 cases d with
 | true =>
  refine (once_again ⟨p, 4, none⟩ 1 (by decide) (onceF bx) w ((hc 4).1.trans rfl)).mono ?_
  rintro e w' ⟨rfl, rfl⟩
  exact ⟨_, [], _, rfl, ⟨rfl, rfl, rfl⟩, hst⟩
 | false =>
  have h1 := hst.set1 5 (.int .i32 1)
  rw [show (modC m false).set 5 (.int .i32 1) = modX m 0 1 0 0 from rfl] at h1
  have hcall := f211_spec p bx m hm h0 _ h1.sat
  refine (once_first p 4 #[ptr bx 0] (fun w2 => St ⟨w, [], [cMod p (modC m false), cVar bx p]⟩ [] [cMod p (modX m 0 1 (mnsM m) (sqM m)), cVar bx p] w2) w ((hc 4).1.trans rfl) ((hc 5).1.trans rfl) (hc 4).2 (hc 5).2 (hcall.mono ?_)).mono ?_
  ·rintro e w2 ⟨r, Γ', H', rfl, ⟨rfl, rfl, rfl⟩, hs⟩
   have hfr := St.frame (G := []) (Γc := []) (by simpa using h1) (by simp) hs
   have hs2 : St ⟨w, [], [cMod p (modC m false), cVar bx p]⟩ [] [cMod p (modX m 0 1 (mnsM m) (sqM m)), cVar bx p] w2 := by simpa using hfr
   have hb2 := Res.cells_ok.1 (hs2.sat.hok _ (.head _))
   have hc2 := cells_heap hb2
   exact ⟨rfl, hs2, (hc2 4).1.trans rfl, (hc2 5).1.trans rfl, (hc2 4).2, (hc2 5).2⟩
  ·rintro e w' ⟨rfl, w2, hs2, rfl⟩
   refine ⟨_, [], _, rfl, ⟨rfl, rfl, rfl⟩, ?_⟩
   have h3 := (hs2.drew.set1 4 (.int .u32 1)).set1 5 (.int .i32 0)
   exact h3
theorem f189_spec (p m : Nat) (hm : m < 115792089237316195423570985008687907853269984665640564039457584007913129639936) (h0 : 0 < m) (d : Bool) :
  Spec Tryz.prog 189 #[(ptr p 0)] [] [cMod p (modC m d)]
   (fun r Γ' H' => r = .tuple #[] ∧ Γ' = [] ∧ H' = [cMod p (modC m true)]) := by
 refine Spec.of_args Tryz.func189 rfl Tryz.ntmps189 (by simp) fun w => ?_
 refine .seq (.region ?_)
 refine .bx fun b1 => ?_
 refine .nil (.tn (.region ?_))
 refine .w (.ld one_91 rfl) (.w (.nilCheck rfl) (.w (.fieldAddr fa_179_1 rfl) (.w (.makeFunc rfl rfl) (.cb (do_spec p b1 m hm h0 d) body_210 ?_))))
 rintro _ _ ⟨rfl, _, rfl⟩
 refine .ap ?_
 refine .nil ?_
 exact .dn [] [cMod p (modC m true)] (res_none rfl) ⟨rfl, rfl, rfl⟩

theorem f191_spec (q : Nat) (ts : List W64) (hts : ts.length = 6) (x0 : W64) (b : Nat) (hb : b < 115792089237316195423570985008687907853269984665640564039457584007913129639936) (hlt : val ts + x0.toNat * b < 39402006196394479212279040100143613805079739270465446667948293404245721771497210611414266254884915640806627990306816) :
  Spec Tryz.prog 191 #[(ptr q 0), (u64 x0), (.agg ((wd b).map u64).toArray)] [] [Res.cells q (ts.map u64) 262]
   (fun r Γ' H' => ∃ us : List W64, us.length = 6 ∧ val us = val ts + x0.toNat * b ∧ r = .tuple #[] ∧ Γ' = [] ∧ H' = [Res.cells q (us.map u64) 262]) := by
 refine Spec.of_args Tryz.func191 rfl Tryz.ntmps191 (by simp) fun w => ?_
 refine .seq (.region ?_)
 refine .bx fun b5 => ?_
 refine .nil (.tn (.seq (.region ?_)))
 refine .w (.assign rfl) ?_
 refine .nil (.tn (.seq (.seq (.region ?_))))
 refine .w (.lda agg_40 rfl) (.w (.move rfl) ?_)
 refine .nil (.tn (.block ?_))
 refine .lp (ι := Nat × W64 × List W64) (fun x => x.1 ≤ 4 ∧ RowI ts x0 b x.1 x.2.1 x.2.2) (fun T x => (14, it (x.1 : Int)) :: (6, u64 x.2.1) :: T) (fun T _ => T) (fun T x => Res.cells q (x.2.2.map u64) 262 :: T) (fun x => 4 - x.1) (0, 0, ts) [0, 1, 12, 13, 51, 52, 53, 54, 55, 56, 57, 58, 59, 60, 61, 62, 63, 64, 65, 66, 67, 68, 69, 70] ?_ (fun x hx => ?_)
 ·exact ⟨Nat.zero_le _, RowI.start x0 b hts⟩
 obtain ⟨j, c, us⟩ := x
 obtain ⟨hj, hI⟩ := hx
 dsimp only at hj hI ⊢
 have hu6 := hI.1
 refine .seq (.region ?_)
 refine .w (.bin rfl rfl BinR.lss_i) ?_
 refine .nil (.tn (.seq ?_))
 refine .cn rfl (fun hc1 => ?_) (fun hc1 => ?_)
 ·skip
  refine .skip (.tn (.seq (.block (.seq (.region ?_)))))
  refine .w (.move rfl) (.w (.as (v' := u64 (wat b j)) (.indexAgg Tryz.underlying40 Tryz.underlying22 sz_22 rfl rfl zq6 (by first | rfl | exact gm (d := 0) zq10)) rfl) (.w (.assign rfl) (.w (.assign rfl) ?_)))
  refine .nil (.tn (.seq (.region ?_)))
  refine .w (.move rfl) (.w (.move rfl) (.c (f165_spec x0 (wat b j)) body_165 ?_))
  refine .w (.move rfl) (.w (.as (v' := u64 (BitVec.ofNat 64 (x0.toNat * (wat b j).toNat / 18446744073709551616))) (.extract rfl rfl) rfl) (.w (.as (v' := u64 (x0 * wat b j)) (.extract rfl rfl) rfl) (.w (.assign rfl) (.w (.assign rfl) ?_))))
  refine .nil (.tn (.seq (.region ?_)))
  refine .w (.assign rfl) ?_
  refine .nil (.tn (.seq (.region ?_)))
  refine .w (.move rfl) (.w (.move rfl) (.w (.move rfl) (.w (.nilCheck rfl) (.w (.ixA Tryz.underlying262 sz_22 rfl rfl) (.w (.ld one_22 rfl (hj := by exact gm (d := 0) (by omega))) (.w (.ext rfl (ext_193 _ _ 0#64 (by decide))) ?_))))))
  refine .w (.move rfl) (.w (.as (v' := u64 (x0 * wat b j + (us.getD j 0) + 0#64)) (.extract rfl rfl) rfl) (.w (.as (v' := u64 (BitVec.ofNat 64 (((x0 * wat b j).toNat + (us.getD j 0).toNat + (0#64).toNat) / 18446744073709551616))) (.extract rfl rfl) rfl) (.w (.assign rfl) (.w (.assign rfl) ?_))))
  refine .nil (.tn (.seq (.region ?_)))
  refine .w (.move rfl) (.w (.move rfl) (.w (.bin rfl rfl (BinR.add_u64)) (.w (.assign rfl) ?_)))
  refine .nil (.tn (.seq ?_))
  refine JC.draw (.one 0 (.one 1 (.one 2 (.one 3 (.one 4 (.one 5 (.one 6 (.one 7 (.one 8 (.one 9 (.one 10 (.one 11 .nil)))))))))))) (fun i => ([10] : List Nat).contains i) (fun i => ([10] : List Nat).contains i) (fun i => ([0, 1, 2, 3, 4, 5, 6, 7, 8, 9, 11] : List Nat).contains i) mixed (by kernel_rfl) (by decide) (by kernel_rfl) ?_
  refine .uw rfl (.move rfl) (.uw rfl (.move rfl) (.uw rfl (.move rfl) (.uw rfl (.move rfl) (.uw rfl (.ext rfl (ext_193 _ _ 0#64 (by decide))) (.uw rfl (.move rfl) (.uw rfl (.as (v' := u64 (mlo x0 (wat b j) (us.getD j 0) c)) (.extract rfl rfl) (congrArg u64 (mlo_eq _ _ _ _))) ?_))))))
  refine .uw rfl (.as (v' := u64 (BitVec.ofNat 64 (((x0 * wat b j + (us.getD j 0) + 0#64).toNat + c.toNat + (0#64).toNat) / 18446744073709551616))) (.extract rfl rfl) rfl) (.uw rfl (.nilCheck rfl) (.uw rfl (.ixA Tryz.underlying262 sz_22 rfl rfl) ?_))
  refine .mw0 rfl (.s1 sz_22) ?_
  rintro _ _ _ ⟨rfl, rfl⟩
  refine kp ?_
  refine .uw rfl (.assign rfl) ?_
  refine .nil (.tn (.region ?_))
  refine .w (.move rfl) (.w (.move rfl) (.w (.as (v' := u64 (mhi x0 (wat b j) (us.getD j 0) c)) (.bin rfl rfl (BinR.add_u64)) (congrArg u64 (mhi_eq _ _ _ _))) (.w (.assign rfl) ?_)))
  refine .nil (.block_normal (.tn (.region ?_)))
  refine .w (.asI ((j + 1 : Nat) : Int) (.bin rfl rfl (BinR.add_i zq3))) (.w (.move rfl) (.nil ?_))
  rw [← List.map_set]
  refine .hd (j + 1, (mhi x0 (wat b j) (us.getD j 0) c), us.set j (mlo x0 (wat b j) (us.getD j 0) c)) ?_
  exact ⟨⟨by dsimp only; omega, hI.step (by omega)⟩, by dsimp only; omega⟩
 ·obtain rfl : j = 4 := by omega
  have hfin := hI.last hb hlt
  refine .exit (.then_exit (.then_exit (.block_exit (.tn (.seq (.region ?_))))))
  refine .w (.assign rfl) ?_
  refine .nil (.tn (.seq ?_))
  refine JC.draw (.one 0 (.one 1 (.one 2 (.one 3 (.one 4 (.one 5 (.one 6 (.one 7 (.one 8 (.one 9 (.one 10 (.one 11 (.one 12 (.one 13 .nil)))))))))))))) (fun i => ([12] : List Nat).contains i) (fun i => ([12] : List Nat).contains i) (fun i => ([0, 1, 2, 3, 5, 6, 7, 8, 9, 10, 11, 13] : List Nat).contains i) mixed (by kernel_rfl) (by decide) (by kernel_rfl) ?_
  refine .uw rfl (.move rfl) (.uw rfl (.move rfl) (.uw rfl (.nilCheck rfl) (.uw rfl (.ixA (j := 4) Tryz.underlying262 sz_22 rfl rfl) (.w rfl (.ld one_22 rfl (hj := by exact gm (d := 0) (by omega))) (.uw rfl (.move rfl) (.uw rfl (.ext rfl (ext_193 _ _ 0#64 (by decide))) ?_))))))
  refine .uw rfl (.move rfl) (.uw rfl (.as (v' := u64 (us.getD 4 0 + c + 0#64)) (.extract rfl rfl) rfl) (.uw rfl (.as (v' := u64 (BitVec.ofNat 64 (((us.getD 4 0).toNat + c.toNat + (0#64).toNat) / 18446744073709551616))) (.extract rfl rfl) rfl) (.uw rfl (.nilCheck rfl) (.uw rfl (.ixA (j := 4) Tryz.underlying262 sz_22 rfl rfl) ?_))))
  refine .mw0 rfl (.s1 sz_22) ?_
  rintro _ _ _ ⟨rfl, rfl⟩
  refine kp ?_
  refine .uw rfl (.assign rfl) ?_
  refine .nil (.tn ?_)
  refine JC.draw (.one 0 (.one 1 (.one 2 (.one 3 (.one 4 (.one 5 (.one 6 (.one 7 (.one 8 .nil))))))))) (fun i => ([8] : List Nat).contains i) (fun i => ([8] : List Nat).contains i) (fun i => ([0, 1, 2, 4, 5, 6, 7] : List Nat).contains i) mixed (by kernel_rfl) (by decide) (by kernel_rfl) ?_
  refine .uw rfl (.move rfl) (.uw rfl (.nilCheck rfl) (.uw rfl (.ixA (j := 5) Tryz.underlying262 sz_22 rfl rfl) (.w rfl (.ld one_22 rfl (hj := by rw [List.getElem?_set_ne (by decide)]; exact gm (d := 0) (by omega))) (.uw rfl (.move rfl) (.uw rfl (.as (v' := u64 (us.getD 5 0 + BitVec.ofNat 64 (((us.getD 4 0).toNat + c.toNat + (0#64).toNat) / 18446744073709551616))) (.bin rfl rfl (BinR.add_u64)) rfl) (.uw rfl (.nilCheck rfl) ?_))))))
  refine .uw rfl (.ixA (j := 5) Tryz.underlying262 sz_22 rfl rfl) ?_
  refine .mw0 rfl (.s1 sz_22) ?_
  rintro _ _ _ ⟨rfl, rfl⟩
  refine kp ?_
  refine .nil ?_
  rw [rowE_map]
  exact .dn [] [Res.cells q ((rowE us c).map u64) 262] (res_none rfl) ⟨rowE us c, hfin.1, hfin.2, rfl, rfl, rfl⟩

theorem f190_spec (p m : Nat) (hm : m < 115792089237316195423570985008687907853269984665640564039457584007913129639936) (h1 : 1 < m) (dn st : Int) (mi : W64) (sq : Nat) (a : Nat) (ha : a < 115792089237316195423570985008687907853269984665640564039457584007913129639936) :
  Spec Tryz.prog 190 #[(ptr p 0), (.agg ((wd a).map u64).toArray)] [Res.cells p (modX m dn st mi sq) 179] []
   (fun r Γ' H' => r = (.agg ((wd (a % m)).map u64).toArray) ∧ Γ' = [] ∧ H' = []) := by
 refine Spec.of_args Tryz.func190 rfl Tryz.ntmps190 (by simp) fun w => ?_
 refine .seq (.region ?_)
 refine .bx fun b3 => ?_
 refine .al zero_40 fun b4 => ?_
 refine .nil (.tn (.seq (.seq ?_)))
 refine JC.draw (.one 0 (.one 1 (.one 2 (.one 3 (.one 4 (.one 5 (.one 6 .nil))))))) (fun i => ([5] : List Nat).contains i) (fun i => ([5] : List Nat).contains i) (fun i => ([1, 2, 3, 6] : List Nat).contains i) mixed (by kernel_rfl) (by decide) (by kernel_rfl) ?_
 refine .w rfl (.lda agg_40 rfl) (.uw rfl (.move rfl) (.uw rfl (.nilCheck rfl) (.uw rfl (.fieldAddr fa_179_0 rfl) (.w rfl (.as (v' := .agg ((wd m).map u64).toArray) (.lda agg_40 rfl) (by rfl)) ?_))))
 refine .mw rfl (.c (f52_spec a m ha hm) body_52) ?_
 rintro _ _ _ ⟨rfl, rfl, rfl⟩
 refine kp ?_
 refine .uw rfl (.as (v' := .bool (decide (a < m))) (.bin rfl rfl BinR.lss_i) (congrArg Value.bool (decide_eq_decide.2 (cmp_lt _ _)))) ?_
 refine .nil (.tn ?_)
 refine .cn rfl (fun hc1 => ?_) (fun hc1 => ?_)
 ·skip
  refine .seq (.region ?_)
  refine .w (.lda agg_40 rfl) (.sa sz_40 ?_)
  refine .nil (.tn (.ret (.then_ret ?_)))
  exact .dn [] [] (res1 rfl (.cl agg_40)) ⟨by first | rfl | (rw [Nat.mod_eq_of_lt hc1]; rfl), rfl, rfl⟩
 ·skip
  refine .skip (.tn (.seq ?_))
  refine JC.draw (.one 0 (.one 1 (.one 2 (.one 3 (.one 4 (.alt 5 (.one 6 (.one 7 (.one 8 (.one 9 (.alt 10 (.one 11 (.one 12 (.one 13 (.one 14 .nil)))) (.alt 11 (.one 10 (.one 12 (.one 13 (.one 14 .nil)))) .nil)))))) (.alt 10 (.alt 5 (.one 6 (.one 7 (.one 8 (.one 9 (.one 11 (.one 12 (.one 13 (.one 14 .nil)))))))) (.alt 11 (.one 5 (.one 6 (.one 7 (.one 8 (.one 9 (.one 12 (.one 13 (.one 14 .nil)))))))) .nil)) (.alt 11 (.alt 5 (.one 6 (.one 7 (.one 8 (.one 9 (.one 10 (.one 12 (.one 13 (.one 14 .nil)))))))) (.alt 10 (.one 5 (.one 6 (.one 7 (.one 8 (.one 9 (.one 12 (.one 13 (.one 14 .nil)))))))) .nil)) .nil)))))))) (fun i => ([12, 13] : List Nat).contains i) (fun i => ([5, 10, 11, 12, 13] : List Nat).contains i) (fun i => ([1, 2, 3, 6, 7, 8, 9, 14] : List Nat).contains i) mixed (by kernel_rfl) (by decide) (by kernel_rfl) ?_
  refine .w rfl (.lda agg_40 rfl) (.uw rfl (.move rfl) (.uw rfl (.nilCheck rfl) (.uw rfl (.fieldAddr fa_179_0 rfl) (.w rfl (.as (v' := .agg ((wd m).map u64).toArray) (.lda agg_40 rfl) (by rfl)) ?_))))
  refine JR.alt rfl ?_ ?_
  ·refine .mw rfl (.c (f113_spec a m ha hm) body_113) ?_
   rintro _ _ _ ⟨rfl, rfl, rfl⟩
   refine kp ?_
   refine .uw rfl (.move rfl) (.uw rfl (.as (v' := .agg ((wd (a / m)).map u64).toArray) (.extract rfl rfl) rfl) (.uw rfl (.as (v' := .agg ((wd (a % m)).map u64).toArray) (.extract rfl rfl) (by rw [show remF a m = a % m from if_neg (by omega)]; rfl)) (.uw rfl (.as (v' := it 0) (.extract rfl rfl) (congrArg it (if_neg (by omega)))) ?_)))
   refine JR.alt rfl ?_ ?_
   ·refine .mw rfl (Mv.alloc zero_40) ?_
    rintro _ _ _ ⟨b5, rfl, rfl, rfl⟩
    refine kp ?_
    refine .mw rfl (Mv.alloc zero_40) ?_
    rintro _ _ _ ⟨b6, rfl, rfl, rfl⟩
    refine kp ?_
    refine .mw0 rfl (.sa sz_40) ?_
    rintro _ _ _ ⟨rfl, rfl⟩
    refine kp ?_
    refine .mw0 rfl (.sa sz_40) ?_
    rintro _ _ _ ⟨rfl, rfl⟩
    refine kp ?_
    refine .uw rfl (.assign rfl) ?_
    refine .nil (.tn (.seq (.region ?_)))
    refine .w (.lda agg_40 rfl) (.sa sz_40 ?_)
    refine .nil (.tn (.ret ?_))
    exact .dn [] [] (res1 rfl (.cl agg_40)) ⟨by first | rfl | (rw [Nat.mod_eq_of_lt hc1]; rfl), rfl, rfl⟩
   refine JA.alt rfl ?_ ?_
   ·refine .mw rfl (Mv.alloc zero_40) ?_
    rintro _ _ _ ⟨b6, rfl, rfl, rfl⟩
    refine kp ?_
    refine .mw rfl (Mv.alloc zero_40) ?_
    rintro _ _ _ ⟨b5, rfl, rfl, rfl⟩
    refine kp ?_
    refine .mw0 rfl (.sa sz_40) ?_
    rintro _ _ _ ⟨rfl, rfl⟩
    refine kp ?_
    refine .mw0 rfl (.sa sz_40) ?_
    rintro _ _ _ ⟨rfl, rfl⟩
    refine kp ?_
    refine .uw rfl (.assign rfl) ?_
    refine .nil (.tn (.seq (.region ?_)))
    refine .w (.lda agg_40 rfl) (.sa sz_40 ?_)
    refine .nil (.tn (.ret ?_))
    exact .dn [] [] (res1 rfl (.cl agg_40)) ⟨by first | rfl | (rw [Nat.mod_eq_of_lt hc1]; rfl), rfl, rfl⟩
   exact JA.nil
  refine JA.alt rfl ?_ ?_
  ·refine .mw rfl (Mv.alloc zero_40) ?_
   rintro _ _ _ ⟨b5, rfl, rfl, rfl⟩
   refine kp ?_
   refine JR.alt rfl ?_ ?_
   ·refine .mw rfl (.c (f113_spec a m ha hm) body_113) ?_
    rintro _ _ _ ⟨rfl, rfl, rfl⟩
    refine kp ?_
    refine .uw rfl (.move rfl) (.uw rfl (.as (v' := .agg ((wd (a / m)).map u64).toArray) (.extract rfl rfl) rfl) (.uw rfl (.as (v' := .agg ((wd (a % m)).map u64).toArray) (.extract rfl rfl) (by rw [show remF a m = a % m from if_neg (by omega)]; rfl)) (.uw rfl (.as (v' := it 0) (.extract rfl rfl) (congrArg it (if_neg (by omega)))) ?_)))
    refine .mw rfl (Mv.alloc zero_40) ?_
    rintro _ _ _ ⟨b6, rfl, rfl, rfl⟩
    refine kp ?_
    refine .mw0 rfl (.sa sz_40) ?_
    rintro _ _ _ ⟨rfl, rfl⟩
    refine kp ?_
    refine .mw0 rfl (.sa sz_40) ?_
    rintro _ _ _ ⟨rfl, rfl⟩
    refine kp ?_
    refine .uw rfl (.assign rfl) ?_
    refine .nil (.tn (.seq (.region ?_)))
    refine .w (.lda agg_40 rfl) (.sa sz_40 ?_)
    refine .nil (.tn (.ret ?_))
    exact .dn [] [] (res1 rfl (.cl agg_40)) ⟨by first | rfl | (rw [Nat.mod_eq_of_lt hc1]; rfl), rfl, rfl⟩
   refine JA.alt rfl ?_ ?_
   ·refine .mw rfl (Mv.alloc zero_40) ?_
    rintro _ _ _ ⟨b6, rfl, rfl, rfl⟩
    refine kp ?_
    refine .mw rfl (.c (f113_spec a m ha hm) body_113) ?_
    rintro _ _ _ ⟨rfl, rfl, rfl⟩
    refine kp ?_
    refine .uw rfl (.move rfl) (.uw rfl (.as (v' := .agg ((wd (a / m)).map u64).toArray) (.extract rfl rfl) rfl) (.uw rfl (.as (v' := .agg ((wd (a % m)).map u64).toArray) (.extract rfl rfl) (by rw [show remF a m = a % m from if_neg (by omega)]; rfl)) (.uw rfl (.as (v' := it 0) (.extract rfl rfl) (congrArg it (if_neg (by omega)))) ?_)))
    refine .mw0 rfl (.sa sz_40) ?_
    rintro _ _ _ ⟨rfl, rfl⟩
    refine kp ?_
    refine .mw0 rfl (.sa sz_40) ?_
    rintro _ _ _ ⟨rfl, rfl⟩
    refine kp ?_
    refine .uw rfl (.assign rfl) ?_
    refine .nil (.tn (.seq (.region ?_)))
    refine .w (.lda agg_40 rfl) (.sa sz_40 ?_)
    refine .nil (.tn (.ret ?_))
    exact .dn [] [] (res1 rfl (.cl agg_40)) ⟨by first | rfl | (rw [Nat.mod_eq_of_lt hc1]; rfl), rfl, rfl⟩
   exact JA.nil
  refine JA.alt rfl ?_ ?_
  ·refine .mw rfl (Mv.alloc zero_40) ?_
   rintro _ _ _ ⟨b6, rfl, rfl, rfl⟩
   refine kp ?_
   refine JR.alt rfl ?_ ?_
   ·refine .mw rfl (.c (f113_spec a m ha hm) body_113) ?_
    rintro _ _ _ ⟨rfl, rfl, rfl⟩
    refine kp ?_
    refine .uw rfl (.move rfl) (.uw rfl (.as (v' := .agg ((wd (a / m)).map u64).toArray) (.extract rfl rfl) rfl) (.uw rfl (.as (v' := .agg ((wd (a % m)).map u64).toArray) (.extract rfl rfl) (by rw [show remF a m = a % m from if_neg (by omega)]; rfl)) (.uw rfl (.as (v' := it 0) (.extract rfl rfl) (congrArg it (if_neg (by omega)))) ?_)))
    refine .mw rfl (Mv.alloc zero_40) ?_
    rintro _ _ _ ⟨b5, rfl, rfl, rfl⟩
    refine kp ?_
    refine .mw0 rfl (.sa sz_40) ?_
    rintro _ _ _ ⟨rfl, rfl⟩
    refine kp ?_
    refine .mw0 rfl (.sa sz_40) ?_
    rintro _ _ _ ⟨rfl, rfl⟩
    refine kp ?_
    refine .uw rfl (.assign rfl) ?_
    refine .nil (.tn (.seq (.region ?_)))
    refine .w (.lda agg_40 rfl) (.sa sz_40 ?_)
    refine .nil (.tn (.ret ?_))
    exact .dn [] [] (res1 rfl (.cl agg_40)) ⟨by first | rfl | (rw [Nat.mod_eq_of_lt hc1]; rfl), rfl, rfl⟩
   refine JA.alt rfl ?_ ?_
   ·refine .mw rfl (Mv.alloc zero_40) ?_
    rintro _ _ _ ⟨b5, rfl, rfl, rfl⟩
    refine kp ?_
    refine .mw rfl (.c (f113_spec a m ha hm) body_113) ?_
    rintro _ _ _ ⟨rfl, rfl, rfl⟩
    refine kp ?_
    refine .uw rfl (.move rfl) (.uw rfl (.as (v' := .agg ((wd (a / m)).map u64).toArray) (.extract rfl rfl) rfl) (.uw rfl (.as (v' := .agg ((wd (a % m)).map u64).toArray) (.extract rfl rfl) (by rw [show remF a m = a % m from if_neg (by omega)]; rfl)) (.uw rfl (.as (v' := it 0) (.extract rfl rfl) (congrArg it (if_neg (by omega)))) ?_)))
    refine .mw0 rfl (.sa sz_40) ?_
    rintro _ _ _ ⟨rfl, rfl⟩
    refine kp ?_
    refine .mw0 rfl (.sa sz_40) ?_
    rintro _ _ _ ⟨rfl, rfl⟩
    refine kp ?_
    refine .uw rfl (.assign rfl) ?_
    refine .nil (.tn (.seq (.region ?_)))
    refine .w (.lda agg_40 rfl) (.sa sz_40 ?_)
    refine .nil (.tn (.ret ?_))
    exact .dn [] [] (res1 rfl (.cl agg_40)) ⟨by first | rfl | (rw [Nat.mod_eq_of_lt hc1]; rfl), rfl, rfl⟩
   exact JA.nil
  exact JA.nil

theorem f192_spec (p m : Nat) (hm : m < 115792089237316195423570985008687907853269984665640564039457584007913129639936) (h1 : 1 < m) (dn st : Int) (mi : W64) (sq : Nat) (Z : Nat) (hZ : Z < 2 * m) :
  Spec Tryz.prog 192 #[(ptr p 0), (.agg ((wd Z).map u64).toArray), (u64 (BitVec.ofNat 64 (Z / 115792089237316195423570985008687907853269984665640564039457584007913129639936)))] [Res.cells p (modX m dn st mi sq) 179] []
   (fun r Γ' H' => r = (.agg ((wd (Z % m)).map u64).toArray) ∧ Γ' = [] ∧ H' = []) := by
 refine Spec.of_args Tryz.func192 rfl Tryz.ntmps192 (by simp) fun w => ?_
 rw [← wd_mod Z]
 refine .seq (.region ?_)
 refine .bx fun b4 => ?_
 refine .al zero_40 fun b6 => ?_
 refine .nil (.tn (.seq ?_))
 refine JC.draw (.one 0 (.one 1 (.one 2 (.one 3 (.one 4 (.alt 5 (.one 6 (.one 7 (.one 8 (.one 9 (.one 10 (.one 11 .nil)))))) (.alt 9 (.one 5 (.one 6 (.one 7 (.one 8 (.one 10 (.one 11 .nil)))))) .nil))))))) (fun i => ([10] : List Nat).contains i) (fun i => ([5, 9, 10] : List Nat).contains i) (fun i => ([1, 2, 3, 6, 7, 8, 11] : List Nat).contains i) mixed (by kernel_rfl) (by decide) (by kernel_rfl) ?_
 refine .w rfl (.lda agg_40 rfl) (.uw rfl (.move rfl) (.uw rfl (.nilCheck rfl) (.uw rfl (.fieldAddr fa_179_0 rfl) (.w rfl (.as (v' := .agg ((wd m).map u64).toArray) (.lda agg_40 rfl) (by rfl)) ?_))))
 refine JR.alt rfl ?_ ?_
 ·refine .mw rfl (.c (f195_spec (Z % 115792089237316195423570985008687907853269984665640564039457584007913129639936) m (Nat.mod_lt _ (by decide)) hm) body_195) ?_
  rintro _ _ _ ⟨rfl, rfl, rfl⟩
  refine kp ?_
  refine .uw rfl (.move rfl) (.uw rfl (.as (v' := .agg ((wd (115792089237316195423570985008687907853269984665640564039457584007913129639936 + Z % 115792089237316195423570985008687907853269984665640564039457584007913129639936 - m)).map u64).toArray) (.extract rfl rfl) rfl) (.uw rfl (.as (v' := u64 (if Z % 115792089237316195423570985008687907853269984665640564039457584007913129639936 < m then 1 else 0)) (.extract rfl rfl) rfl) ?_))
  refine .mw rfl (Mv.alloc zero_40) ?_
  rintro _ _ _ ⟨b7, rfl, rfl, rfl⟩
  refine kp ?_
  refine .mw0 rfl (.sa sz_40) ?_
  rintro _ _ _ ⟨rfl, rfl⟩
  refine kp ?_
  refine .uw rfl (.assign rfl) ?_
  refine .nil (.tn (.seq (.seq (.region ?_))))
  refine .w (.move rfl) (.w (.as (v' := .bool (decide (Z < 115792089237316195423570985008687907853269984665640564039457584007913129639936))) (.bin rfl rfl (BinR.eql_u64 (b := 0#64))) (congrArg Value.bool (decide_eq_decide.2 (lt_top hZ hm)))) (.w (.move rfl) ?_))
  refine .join 3 23 (.bool (decide (Z < m))) ?_ ?_
  ·refine .gn (g := 19) rfl (fun hg18 hg18' => ?_) (fun hg18 hg18' => ?_)
   ·try simp only [BitVec.reduceToNat] at hg18'
    refine .gt (g := 20) rfl rfl hg18 ?_
    refine .w (.move rfl) ?_
    refine .gt (g := 20) rfl rfl hg18 ?_
    refine .w (.as (v' := .bool (decide (Z % 115792089237316195423570985008687907853269984665640564039457584007913129639936 < m))) (.bin rfl rfl (BinR.eql_u64 (b := 1#64))) (congrArg Value.bool (by split <;> simp_all))) (.w (.pick1 rfl hg18 rfl) (.nil ?_))
    refine .head () zq2 (fun _ h => h) (Picks.perm zq1) ?_
    trivial
   ·try simp only [BitVec.reduceToNat] at hg18'
    refine .gf (g := 20) rfl rfl hg18 (by decide) ?_
    refine .gf (g := 20) rfl rfl hg18 (by decide) ?_
    refine .w (.pick0 rfl hg18 rfl) (.nil ?_)
    refine .head () zq2 (fun _ h => h) (Picks.perm zq1) ?_
    trivial
  ·refine .nil (.tn ?_)
   refine .cn rfl (fun hc1 => ?_) (fun hc1 => ?_)
   ·skip
    refine .seq (.region ?_)
    refine .w (.lda agg_40 rfl) (.sa sz_40 ?_)
    refine .nil (.tn (.ret (.then_ret ?_)))
    exact .dn [] [] (res1 rfl (.cl agg_40)) ⟨by first | (rw [less_1 hc1, wd_mod]; try rfl) | (rw [less_2 (by omega) hZ hm]; try rfl), rfl, rfl⟩
   ·skip
    refine .skip (.tn (.seq (.region ?_)))
    refine .w (.lda agg_40 rfl) (.sa sz_40 ?_)
    refine .nil (.tn (.ret ?_))
    exact .dn [] [] (res1 rfl (.cl agg_40)) ⟨by first | (rw [less_1 hc1, wd_mod]; try rfl) | (rw [less_2 (by omega) hZ hm]; try rfl), rfl, rfl⟩
 refine JA.alt rfl ?_ ?_
 ·refine .mw rfl (Mv.alloc zero_40) ?_
  rintro _ _ _ ⟨b7, rfl, rfl, rfl⟩
  refine kp ?_
  refine .mw rfl (.c (f195_spec (Z % 115792089237316195423570985008687907853269984665640564039457584007913129639936) m (Nat.mod_lt _ (by decide)) hm) body_195) ?_
  rintro _ _ _ ⟨rfl, rfl, rfl⟩
  refine kp ?_
  refine .uw rfl (.move rfl) (.uw rfl (.as (v' := .agg ((wd (115792089237316195423570985008687907853269984665640564039457584007913129639936 + Z % 115792089237316195423570985008687907853269984665640564039457584007913129639936 - m)).map u64).toArray) (.extract rfl rfl) rfl) (.uw rfl (.as (v' := u64 (if Z % 115792089237316195423570985008687907853269984665640564039457584007913129639936 < m then 1 else 0)) (.extract rfl rfl) rfl) ?_))
  refine .mw0 rfl (.sa sz_40) ?_
  rintro _ _ _ ⟨rfl, rfl⟩
  refine kp ?_
  refine .uw rfl (.assign rfl) ?_
  refine .nil (.tn (.seq (.seq (.region ?_))))
  refine .w (.move rfl) (.w (.as (v' := .bool (decide (Z < 115792089237316195423570985008687907853269984665640564039457584007913129639936))) (.bin rfl rfl (BinR.eql_u64 (b := 0#64))) (congrArg Value.bool (decide_eq_decide.2 (lt_top hZ hm)))) (.w (.move rfl) ?_))
  refine .join 3 23 (.bool (decide (Z < m))) ?_ ?_
  ·refine .gn (g := 19) rfl (fun hg18 hg18' => ?_) (fun hg18 hg18' => ?_)
   ·try simp only [BitVec.reduceToNat] at hg18'
    refine .gt (g := 20) rfl rfl hg18 ?_
    refine .w (.move rfl) ?_
    refine .gt (g := 20) rfl rfl hg18 ?_
    refine .w (.as (v' := .bool (decide (Z % 115792089237316195423570985008687907853269984665640564039457584007913129639936 < m))) (.bin rfl rfl (BinR.eql_u64 (b := 1#64))) (congrArg Value.bool (by split <;> simp_all))) (.w (.pick1 rfl hg18 rfl) (.nil ?_))
    refine .head () zq2 (fun _ h => h) (Picks.perm zq1) ?_
    trivial
   ·try simp only [BitVec.reduceToNat] at hg18'
    refine .gf (g := 20) rfl rfl hg18 (by decide) ?_
    refine .gf (g := 20) rfl rfl hg18 (by decide) ?_
    refine .w (.pick0 rfl hg18 rfl) (.nil ?_)
    refine .head () zq2 (fun _ h => h) (Picks.perm zq1) ?_
    trivial
  ·refine .nil (.tn ?_)
   refine .cn rfl (fun hc1 => ?_) (fun hc1 => ?_)
   ·skip
    refine .seq (.region ?_)
    refine .w (.lda agg_40 rfl) (.sa sz_40 ?_)
    refine .nil (.tn (.ret (.then_ret ?_)))
    exact .dn [] [] (res1 rfl (.cl agg_40)) ⟨by first | (rw [less_1 hc1, wd_mod]; try rfl) | (rw [less_2 (by omega) hZ hm]; try rfl), rfl, rfl⟩
   ·skip
    refine .skip (.tn (.seq (.region ?_)))
    refine .w (.lda agg_40 rfl) (.sa sz_40 ?_)
    refine .nil (.tn (.ret ?_))
    exact .dn [] [] (res1 rfl (.cl agg_40)) ⟨by first | (rw [less_1 hc1, wd_mod]; try rfl) | (rw [less_2 (by omega) hZ hm]; try rfl), rfl, rfl⟩
 exact JA.nil

theorem f54_spec (p m : Nat) :
  Spec Tryz.prog 54 #[(ptr p 0)] [Res.mod p m] []
   (fun r Γ' H' => r = (.agg ((wd m).map u64).toArray) ∧ Γ' = [] ∧ H' = []) := by
 refine Spec.of_args Tryz.func54 rfl Tryz.ntmps54 (by simp) fun w => ?_
 refine JC.modG (p := p) (m := m) zq7 fun d => ?_
 refine .seq (.region ?_)
 refine .al zero_40 fun b2 => ?_
 refine .nil (.tn (.seq (.region ?_)))
 refine .w (.move rfl) (.w (.nilCheck rfl) (.w (.fieldAddr fa_179_0 rfl) (.w (.as (v' := .agg ((wd m).map u64).toArray) (.lda agg_40 rfl) (by rfl)) (.sa sz_40 ?_))))
 refine .nil (.tn (.ret ?_))
 exact .dn [] [] (res1 rfl (.cl agg_40)) ⟨rfl, rfl, rfl⟩

theorem f175_spec (p m : Nat) (hm : m < 115792089237316195423570985008687907853269984665640564039457584007913129639936) (h1 : 1 < m) (a b : Nat) (ha : a < 115792089237316195423570985008687907853269984665640564039457584007913129639936) (hb : b < 115792089237316195423570985008687907853269984665640564039457584007913129639936) :
  Spec Tryz.prog 175 #[(ptr p 0), (.agg ((wd a).map u64).toArray), (.agg ((wd b).map u64).toArray)] [Res.mod p m] []
   (fun r Γ' H' => r = (.agg ((wd ((a + b) % m)).map u64).toArray) ∧ Γ' = [] ∧ H' = []) := by
 refine Spec.of_args Tryz.func175 rfl Tryz.ntmps175 (by simp) fun w => ?_
 refine JC.modG (p := p) (m := m) zq7 fun d => ?_
 refine .seq (.region ?_)
 refine .bx fun b4 => ?_
 refine .bx fun b5 => ?_
 refine .al zero_40 fun b6 => ?_
 refine .nil (.tn (.seq ?_))
 refine JC.draw (.one 0 (.one 1 (.one 3 (.one 4 (.alt 2 (.alt 5 (.alt 6 (.one 7 (.one 8 (.one 9 (.one 10 (.one 11 (.one 12 .nil)))))) (.alt 10 (.one 6 (.one 7 (.one 8 (.one 9 (.one 11 (.one 12 .nil)))))) .nil)) (.alt 10 (.one 5 (.one 6 (.one 7 (.one 8 (.one 9 (.one 11 (.one 12 .nil))))))) .nil)) (.alt 10 (.one 2 (.one 5 (.one 6 (.one 7 (.one 8 (.one 9 (.one 11 (.one 12 .nil)))))))) .nil)))))) (fun i => ([11] : List Nat).contains i) (fun i => ([2, 5, 6, 10, 11] : List Nat).contains i) (fun i => ([0, 3, 7, 8, 9, 12] : List Nat).contains i) mixed (by kernel_rfl) (by decide) (by kernel_rfl) ?_
 refine .uw rfl (.move rfl) (.w rfl (.lda agg_40 rfl) (.uw rfl (.move rfl) (.w rfl (.lda agg_40 rfl) ?_)))
 refine JR.alt rfl ?_ ?_
 ·refine .mw rfl (.c (f190_spec p m hm h1 (if d then 1 else 0) 0 (if d then mnsM m else 0) (if d then sqM m else 0) a ha) body_190) ?_
  rintro _ _ _ ⟨rfl, rfl, rfl⟩
  refine kp ?_
  refine JR.alt rfl ?_ ?_
  ·refine .mw rfl (.c (f190_spec p m hm h1 (if d then 1 else 0) 0 (if d then mnsM m else 0) (if d then sqM m else 0) b hb) body_190) ?_
   rintro _ _ _ ⟨rfl, rfl, rfl⟩
   refine kp ?_
   refine JR.alt rfl ?_ ?_
   ·refine .mw rfl (.c (f163_spec (a % m) (b % m) (Nat.lt_trans (Nat.mod_lt _ (by omega)) hm) (Nat.lt_trans (Nat.mod_lt _ (by omega)) hm)) body_163) ?_
    rintro _ _ _ ⟨rfl, rfl, rfl⟩
    refine kp ?_
    refine .uw rfl (.move rfl) (.uw rfl (.as (v' := .agg ((wd (a % m + b % m)).map u64).toArray) (.extract rfl rfl) rfl) (.uw rfl (.as (v' := u64 (BitVec.ofNat 64 ((a % m + b % m) / 115792089237316195423570985008687907853269984665640564039457584007913129639936))) (.extract rfl rfl) rfl) ?_))
    refine .mw rfl (Mv.alloc zero_40) ?_
    rintro _ _ _ ⟨b7, rfl, rfl, rfl⟩
    refine kp ?_
    refine .mw0 rfl (.sa sz_40) ?_
    rintro _ _ _ ⟨rfl, rfl⟩
    refine kp ?_
    refine .uw rfl (.assign rfl) ?_
    refine .nil (.tn (.seq (.region ?_)))
    refine .w (.move rfl) (.w (.lda agg_40 rfl) (.w (.move rfl) (.c (f192_spec p m hm h1 (if d then 1 else 0) 0 (if d then mnsM m else 0) (if d then sqM m else 0) (a % m + b % m) (by have := Nat.mod_lt a (show m > 0 by omega); have := Nat.mod_lt b (show m > 0 by omega); omega)) body_192 ?_)))
    refine .sa sz_40 ?_
    refine .nil (.tn (.ret ?_))
    exact .dn [] [] (res1 rfl (.cl agg_40)) ⟨by rw [plus_m], rfl, rfl⟩
   refine JA.alt rfl ?_ ?_
   ·refine .mw rfl (Mv.alloc zero_40) ?_
    rintro _ _ _ ⟨b7, rfl, rfl, rfl⟩
    refine kp ?_
    refine .mw rfl (.c (f163_spec (a % m) (b % m) (Nat.lt_trans (Nat.mod_lt _ (by omega)) hm) (Nat.lt_trans (Nat.mod_lt _ (by omega)) hm)) body_163) ?_
    rintro _ _ _ ⟨rfl, rfl, rfl⟩
    refine kp ?_
    refine .uw rfl (.move rfl) (.uw rfl (.as (v' := .agg ((wd (a % m + b % m)).map u64).toArray) (.extract rfl rfl) rfl) (.uw rfl (.as (v' := u64 (BitVec.ofNat 64 ((a % m + b % m) / 115792089237316195423570985008687907853269984665640564039457584007913129639936))) (.extract rfl rfl) rfl) ?_))
    refine .mw0 rfl (.sa sz_40) ?_
    rintro _ _ _ ⟨rfl, rfl⟩
    refine kp ?_
    refine .uw rfl (.assign rfl) ?_
    refine .nil (.tn (.seq (.region ?_)))
    refine .w (.move rfl) (.w (.lda agg_40 rfl) (.w (.move rfl) (.c (f192_spec p m hm h1 (if d then 1 else 0) 0 (if d then mnsM m else 0) (if d then sqM m else 0) (a % m + b % m) (by have := Nat.mod_lt a (show m > 0 by omega); have := Nat.mod_lt b (show m > 0 by omega); omega)) body_192 ?_)))
    refine .sa sz_40 ?_
    refine .nil (.tn (.ret ?_))
    exact .dn [] [] (res1 rfl (.cl agg_40)) ⟨by rw [plus_m], rfl, rfl⟩
   exact JA.nil
  refine JA.alt rfl ?_ ?_
  ·refine .mw rfl (Mv.alloc zero_40) ?_
   rintro _ _ _ ⟨b7, rfl, rfl, rfl⟩
   refine kp ?_
   refine .mw rfl (.c (f190_spec p m hm h1 (if d then 1 else 0) 0 (if d then mnsM m else 0) (if d then sqM m else 0) b hb) body_190) ?_
   rintro _ _ _ ⟨rfl, rfl, rfl⟩
   refine kp ?_
   refine .mw rfl (.c (f163_spec (a % m) (b % m) (Nat.lt_trans (Nat.mod_lt _ (by omega)) hm) (Nat.lt_trans (Nat.mod_lt _ (by omega)) hm)) body_163) ?_
   rintro _ _ _ ⟨rfl, rfl, rfl⟩
   refine kp ?_
   refine .uw rfl (.move rfl) (.uw rfl (.as (v' := .agg ((wd (a % m + b % m)).map u64).toArray) (.extract rfl rfl) rfl) (.uw rfl (.as (v' := u64 (BitVec.ofNat 64 ((a % m + b % m) / 115792089237316195423570985008687907853269984665640564039457584007913129639936))) (.extract rfl rfl) rfl) ?_))
   refine .mw0 rfl (.sa sz_40) ?_
   rintro _ _ _ ⟨rfl, rfl⟩
   refine kp ?_
   refine .uw rfl (.assign rfl) ?_
   refine .nil (.tn (.seq (.region ?_)))
   refine .w (.move rfl) (.w (.lda agg_40 rfl) (.w (.move rfl) (.c (f192_spec p m hm h1 (if d then 1 else 0) 0 (if d then mnsM m else 0) (if d then sqM m else 0) (a % m + b % m) (by have := Nat.mod_lt a (show m > 0 by omega); have := Nat.mod_lt b (show m > 0 by omega); omega)) body_192 ?_)))
   refine .sa sz_40 ?_
   refine .nil (.tn (.ret ?_))
   exact .dn [] [] (res1 rfl (.cl agg_40)) ⟨by rw [plus_m], rfl, rfl⟩
  exact JA.nil
 refine JA.alt rfl ?_ ?_
 ·refine .mw rfl (Mv.alloc zero_40) ?_
  rintro _ _ _ ⟨b7, rfl, rfl, rfl⟩
  refine kp ?_
  refine .mw rfl (.c (f190_spec p m hm h1 (if d then 1 else 0) 0 (if d then mnsM m else 0) (if d then sqM m else 0) a ha) body_190) ?_
  rintro _ _ _ ⟨rfl, rfl, rfl⟩
  refine kp ?_
  refine .mw rfl (.c (f190_spec p m hm h1 (if d then 1 else 0) 0 (if d then mnsM m else 0) (if d then sqM m else 0) b hb) body_190) ?_
  rintro _ _ _ ⟨rfl, rfl, rfl⟩
  refine kp ?_
  refine .mw rfl (.c (f163_spec (a % m) (b % m) (Nat.lt_trans (Nat.mod_lt _ (by omega)) hm) (Nat.lt_trans (Nat.mod_lt _ (by omega)) hm)) body_163) ?_
  rintro _ _ _ ⟨rfl, rfl, rfl⟩
  refine kp ?_
  refine .uw rfl (.move rfl) (.uw rfl (.as (v' := .agg ((wd (a % m + b % m)).map u64).toArray) (.extract rfl rfl) rfl) (.uw rfl (.as (v' := u64 (BitVec.ofNat 64 ((a % m + b % m) / 115792089237316195423570985008687907853269984665640564039457584007913129639936))) (.extract rfl rfl) rfl) ?_))
  refine .mw0 rfl (.sa sz_40) ?_
  rintro _ _ _ ⟨rfl, rfl⟩
  refine kp ?_
  refine .uw rfl (.assign rfl) ?_
  refine .nil (.tn (.seq (.region ?_)))
  refine .w (.move rfl) (.w (.lda agg_40 rfl) (.w (.move rfl) (.c (f192_spec p m hm h1 (if d then 1 else 0) 0 (if d then mnsM m else 0) (if d then sqM m else 0) (a % m + b % m) (by have := Nat.mod_lt a (show m > 0 by omega); have := Nat.mod_lt b (show m > 0 by omega); omega)) body_192 ?_)))
  refine .sa sz_40 ?_
  refine .nil (.tn (.ret ?_))
  exact .dn [] [] (res1 rfl (.cl agg_40)) ⟨by rw [plus_m], rfl, rfl⟩
 exact JA.nil

theorem f201_spec (p m : Nat) (hm : m < 115792089237316195423570985008687907853269984665640564039457584007913129639936) (h1 : 1 < m) (a b : Nat) (ha : a < 115792089237316195423570985008687907853269984665640564039457584007913129639936) (hb : b < 115792089237316195423570985008687907853269984665640564039457584007913129639936) :
  Spec Tryz.prog 201 #[(ptr p 0), (.agg ((wd a).map u64).toArray), (.agg ((wd b).map u64).toArray)] [Res.mod p m] []
   (fun r Γ' H' => r = (.agg ((wd (minM m a b)).map u64).toArray) ∧ Γ' = [] ∧ H' = []) := by
 refine Spec.of_args Tryz.func201 rfl Tryz.ntmps201 (by simp) fun w => ?_
 refine JC.modG (p := p) (m := m) zq7 fun d => ?_
 refine .seq (.region ?_)
 refine .bx fun b4 => ?_
 refine .bx fun b5 => ?_
 refine .al zero_40 fun b6 => ?_
 refine .nil (.tn (.seq ?_))
 refine JC.draw (.one 0 (.one 1 (.one 3 (.one 4 (.alt 2 (.alt 5 (.alt 6 (.one 7 (.one 8 (.one 9 (.one 10 (.one 11 (.one 12 .nil)))))) (.alt 10 (.one 6 (.one 7 (.one 8 (.one 9 (.one 11 (.one 12 .nil)))))) .nil)) (.alt 10 (.one 5 (.one 6 (.one 7 (.one 8 (.one 9 (.one 11 (.one 12 .nil))))))) .nil)) (.alt 10 (.one 2 (.one 5 (.one 6 (.one 7 (.one 8 (.one 9 (.one 11 (.one 12 .nil)))))))) .nil)))))) (fun i => ([11] : List Nat).contains i) (fun i => ([2, 5, 6, 10, 11] : List Nat).contains i) (fun i => ([0, 3, 7, 8, 9, 12] : List Nat).contains i) mixed (by kernel_rfl) (by decide) (by kernel_rfl) ?_
 refine .uw rfl (.move rfl) (.w rfl (.lda agg_40 rfl) (.uw rfl (.move rfl) (.w rfl (.lda agg_40 rfl) ?_)))
 refine JR.alt rfl ?_ ?_
 ·refine .mw rfl (.c (f190_spec p m hm h1 (if d then 1 else 0) 0 (if d then mnsM m else 0) (if d then sqM m else 0) a ha) body_190) ?_
  rintro _ _ _ ⟨rfl, rfl, rfl⟩
  refine kp ?_
  refine JR.alt rfl ?_ ?_
  ·refine .mw rfl (.c (f190_spec p m hm h1 (if d then 1 else 0) 0 (if d then mnsM m else 0) (if d then sqM m else 0) b hb) body_190) ?_
   rintro _ _ _ ⟨rfl, rfl, rfl⟩
   refine kp ?_
   refine JR.alt rfl ?_ ?_
   ·refine .mw rfl (.c (f195_spec (a % m) (b % m) (Nat.lt_trans (Nat.mod_lt _ (by omega)) hm) (Nat.lt_trans (Nat.mod_lt _ (by omega)) hm)) body_195) ?_
    rintro _ _ _ ⟨rfl, rfl, rfl⟩
    refine kp ?_
    refine .uw rfl (.move rfl) (.uw rfl (.as (v' := .agg ((wd (115792089237316195423570985008687907853269984665640564039457584007913129639936 + a % m - b % m)).map u64).toArray) (.extract rfl rfl) rfl) (.uw rfl (.as (v' := u64 (if a % m < b % m then 1 else 0)) (.extract rfl rfl) rfl) ?_))
    refine .mw rfl (Mv.alloc zero_40) ?_
    rintro _ _ _ ⟨b7, rfl, rfl, rfl⟩
    refine kp ?_
    refine .mw0 rfl (.sa sz_40) ?_
    rintro _ _ _ ⟨rfl, rfl⟩
    refine kp ?_
    refine .uw rfl (.assign rfl) ?_
    refine .nil (.tn (.seq (.seq (.region ?_))))
    refine .w (.move rfl) (.w (.as (v' := .bool (decide (a % m < b % m))) (.bin rfl rfl (BinR.eql_u64 (b := 1#64))) (congrArg Value.bool (by split <;> simp_all))) ?_)
    refine .nil (.tn ?_)
    refine .cn rfl (fun hc1 => ?_) (fun hc1 => ?_)
    ·try simp only [BitVec.reduceToNat] at hc1
     skip
     refine JC.draw (.one 0 (.one 1 (.one 2 (.one 3 (.one 4 (.one 5 (.one 6 (.one 7 (.one 8 (.one 9 .nil)))))))))) (fun i => ([5, 9] : List Nat).contains i) (fun i => ([5, 9] : List Nat).contains i) (fun i => ([1, 2, 3, 6, 7, 8] : List Nat).contains i) mixed (by kernel_rfl) (by decide) (by kernel_rfl) ?_
     refine .w rfl (.as (v' := .agg ((wd ((115792089237316195423570985008687907853269984665640564039457584007913129639936 + a % m - b % m) % 115792089237316195423570985008687907853269984665640564039457584007913129639936)).map u64).toArray) (.lda agg_40 rfl) (by rw [wd_mod])) (.uw rfl (.move rfl) (.uw rfl (.nilCheck rfl) (.uw rfl (.fieldAddr fa_179_0 rfl) (.w rfl (.as (v' := .agg ((wd m).map u64).toArray) (.lda agg_40 rfl) (by rfl)) ?_))))
     refine .mw rfl (.c (f163_spec ((115792089237316195423570985008687907853269984665640564039457584007913129639936 + a % m - b % m) % 115792089237316195423570985008687907853269984665640564039457584007913129639936) m (Nat.mod_lt _ (by decide)) hm) body_163) ?_
     rintro _ _ _ ⟨rfl, rfl, rfl⟩
     refine kp ?_
     refine .uw rfl (.move rfl) (.uw rfl (.as (v' := .agg ((wd (minM m a b)).map u64).toArray) (.extract rfl rfl) (by rw [← min_1 (by omega) hm hc1]; rfl)) (.uw rfl (.extract rfl rfl) ?_))
     refine .mw0 rfl (.sa sz_40) ?_
     rintro _ _ _ ⟨rfl, rfl⟩
     refine kp ?_
     refine .nil (.tn (.seq (.region ?_)))
     refine .w (.lda agg_40 rfl) (.sa sz_40 ?_)
     refine .nil (.tn (.ret ?_))
     exact .dn [] [] (res1 rfl (.cl agg_40)) ⟨rfl, rfl, rfl⟩
    ·try simp only [BitVec.reduceToNat] at hc1
     rw [min_2 (by omega) hm hc1]
     refine .skip (.tn (.seq (.region ?_)))
     refine .w (.lda agg_40 rfl) (.sa sz_40 ?_)
     refine .nil (.tn (.ret ?_))
     exact .dn [] [] (res1 rfl (.cl agg_40)) ⟨rfl, rfl, rfl⟩
   refine JA.alt rfl ?_ ?_
   ·refine .mw rfl (Mv.alloc zero_40) ?_
    rintro _ _ _ ⟨b7, rfl, rfl, rfl⟩
    refine kp ?_
    refine .mw rfl (.c (f195_spec (a % m) (b % m) (Nat.lt_trans (Nat.mod_lt _ (by omega)) hm) (Nat.lt_trans (Nat.mod_lt _ (by omega)) hm)) body_195) ?_
    rintro _ _ _ ⟨rfl, rfl, rfl⟩
    refine kp ?_
    refine .uw rfl (.move rfl) (.uw rfl (.as (v' := .agg ((wd (115792089237316195423570985008687907853269984665640564039457584007913129639936 + a % m - b % m)).map u64).toArray) (.extract rfl rfl) rfl) (.uw rfl (.as (v' := u64 (if a % m < b % m then 1 else 0)) (.extract rfl rfl) rfl) ?_))
    refine .mw0 rfl (.sa sz_40) ?_
    rintro _ _ _ ⟨rfl, rfl⟩
    refine kp ?_
    refine .uw rfl (.assign rfl) ?_
    refine .nil (.tn (.seq (.seq (.region ?_))))
    refine .w (.move rfl) (.w (.as (v' := .bool (decide (a % m < b % m))) (.bin rfl rfl (BinR.eql_u64 (b := 1#64))) (congrArg Value.bool (by split <;> simp_all))) ?_)
    refine .nil (.tn ?_)
    refine .cn rfl (fun hc1 => ?_) (fun hc1 => ?_)
    ·try simp only [BitVec.reduceToNat] at hc1
     skip
     refine JC.draw (.one 0 (.one 1 (.one 2 (.one 3 (.one 4 (.one 5 (.one 6 (.one 7 (.one 8 (.one 9 .nil)))))))))) (fun i => ([5, 9] : List Nat).contains i) (fun i => ([5, 9] : List Nat).contains i) (fun i => ([1, 2, 3, 6, 7, 8] : List Nat).contains i) mixed (by kernel_rfl) (by decide) (by kernel_rfl) ?_
     refine .w rfl (.as (v' := .agg ((wd ((115792089237316195423570985008687907853269984665640564039457584007913129639936 + a % m - b % m) % 115792089237316195423570985008687907853269984665640564039457584007913129639936)).map u64).toArray) (.lda agg_40 rfl) (by rw [wd_mod])) (.uw rfl (.move rfl) (.uw rfl (.nilCheck rfl) (.uw rfl (.fieldAddr fa_179_0 rfl) (.w rfl (.as (v' := .agg ((wd m).map u64).toArray) (.lda agg_40 rfl) (by rfl)) ?_))))
     refine .mw rfl (.c (f163_spec ((115792089237316195423570985008687907853269984665640564039457584007913129639936 + a % m - b % m) % 115792089237316195423570985008687907853269984665640564039457584007913129639936) m (Nat.mod_lt _ (by decide)) hm) body_163) ?_
     rintro _ _ _ ⟨rfl, rfl, rfl⟩
     refine kp ?_
     refine .uw rfl (.move rfl) (.uw rfl (.as (v' := .agg ((wd (minM m a b)).map u64).toArray) (.extract rfl rfl) (by rw [← min_1 (by omega) hm hc1]; rfl)) (.uw rfl (.extract rfl rfl) ?_))
     refine .mw0 rfl (.sa sz_40) ?_
     rintro _ _ _ ⟨rfl, rfl⟩
     refine kp ?_
     refine .nil (.tn (.seq (.region ?_)))
     refine .w (.lda agg_40 rfl) (.sa sz_40 ?_)
     refine .nil (.tn (.ret ?_))
     exact .dn [] [] (res1 rfl (.cl agg_40)) ⟨rfl, rfl, rfl⟩
    ·try simp only [BitVec.reduceToNat] at hc1
     rw [min_2 (by omega) hm hc1]
     refine .skip (.tn (.seq (.region ?_)))
     refine .w (.lda agg_40 rfl) (.sa sz_40 ?_)
     refine .nil (.tn (.ret ?_))
     exact .dn [] [] (res1 rfl (.cl agg_40)) ⟨rfl, rfl, rfl⟩
   exact JA.nil
  refine JA.alt rfl ?_ ?_
  ·refine .mw rfl (Mv.alloc zero_40) ?_
   rintro _ _ _ ⟨b7, rfl, rfl, rfl⟩
   refine kp ?_
   refine .mw rfl (.c (f190_spec p m hm h1 (if d then 1 else 0) 0 (if d then mnsM m else 0) (if d then sqM m else 0) b hb) body_190) ?_
   rintro _ _ _ ⟨rfl, rfl, rfl⟩
   refine kp ?_
   refine .mw rfl (.c (f195_spec (a % m) (b % m) (Nat.lt_trans (Nat.mod_lt _ (by omega)) hm) (Nat.lt_trans (Nat.mod_lt _ (by omega)) hm)) body_195) ?_
   rintro _ _ _ ⟨rfl, rfl, rfl⟩
   refine kp ?_
   refine .uw rfl (.move rfl) (.uw rfl (.as (v' := .agg ((wd (115792089237316195423570985008687907853269984665640564039457584007913129639936 + a % m - b % m)).map u64).toArray) (.extract rfl rfl) rfl) (.uw rfl (.as (v' := u64 (if a % m < b % m then 1 else 0)) (.extract rfl rfl) rfl) ?_))
   refine .mw0 rfl (.sa sz_40) ?_
   rintro _ _ _ ⟨rfl, rfl⟩
   refine kp ?_
   refine .uw rfl (.assign rfl) ?_
   refine .nil (.tn (.seq (.seq (.region ?_))))
   refine .w (.move rfl) (.w (.as (v' := .bool (decide (a % m < b % m))) (.bin rfl rfl (BinR.eql_u64 (b := 1#64))) (congrArg Value.bool (by split <;> simp_all))) ?_)
   refine .nil (.tn ?_)
   refine .cn rfl (fun hc1 => ?_) (fun hc1 => ?_)
   ·try simp only [BitVec.reduceToNat] at hc1
    skip
    refine JC.draw (.one 0 (.one 1 (.one 2 (.one 3 (.one 4 (.one 5 (.one 6 (.one 7 (.one 8 (.one 9 .nil)))))))))) (fun i => ([5, 9] : List Nat).contains i) (fun i => ([5, 9] : List Nat).contains i) (fun i => ([1, 2, 3, 6, 7, 8] : List Nat).contains i) mixed (by kernel_rfl) (by decide) (by kernel_rfl) ?_
    refine .w rfl (.as (v' := .agg ((wd ((115792089237316195423570985008687907853269984665640564039457584007913129639936 + a % m - b % m) % 115792089237316195423570985008687907853269984665640564039457584007913129639936)).map u64).toArray) (.lda agg_40 rfl) (by rw [wd_mod])) (.uw rfl (.move rfl) (.uw rfl (.nilCheck rfl) (.uw rfl (.fieldAddr fa_179_0 rfl) (.w rfl (.as (v' := .agg ((wd m).map u64).toArray) (.lda agg_40 rfl) (by rfl)) ?_))))
    refine .mw rfl (.c (f163_spec ((115792089237316195423570985008687907853269984665640564039457584007913129639936 + a % m - b % m) % 115792089237316195423570985008687907853269984665640564039457584007913129639936) m (Nat.mod_lt _ (by decide)) hm) body_163) ?_
    rintro _ _ _ ⟨rfl, rfl, rfl⟩
    refine kp ?_
    refine .uw rfl (.move rfl) (.uw rfl (.as (v' := .agg ((wd (minM m a b)).map u64).toArray) (.extract rfl rfl) (by rw [← min_1 (by omega) hm hc1]; rfl)) (.uw rfl (.extract rfl rfl) ?_))
    refine .mw0 rfl (.sa sz_40) ?_
    rintro _ _ _ ⟨rfl, rfl⟩
    refine kp ?_
    refine .nil (.tn (.seq (.region ?_)))
    refine .w (.lda agg_40 rfl) (.sa sz_40 ?_)
    refine .nil (.tn (.ret ?_))
    exact .dn [] [] (res1 rfl (.cl agg_40)) ⟨rfl, rfl, rfl⟩
   ·try simp only [BitVec.reduceToNat] at hc1
    rw [min_2 (by omega) hm hc1]
    refine .skip (.tn (.seq (.region ?_)))
    refine .w (.lda agg_40 rfl) (.sa sz_40 ?_)
    refine .nil (.tn (.ret ?_))
    exact .dn [] [] (res1 rfl (.cl agg_40)) ⟨rfl, rfl, rfl⟩
  exact JA.nil
 refine JA.alt rfl ?_ ?_
 ·refine .mw rfl (Mv.alloc zero_40) ?_
  rintro _ _ _ ⟨b7, rfl, rfl, rfl⟩
  refine kp ?_
  refine .mw rfl (.c (f190_spec p m hm h1 (if d then 1 else 0) 0 (if d then mnsM m else 0) (if d then sqM m else 0) a ha) body_190) ?_
  rintro _ _ _ ⟨rfl, rfl, rfl⟩
  refine kp ?_
  refine .mw rfl (.c (f190_spec p m hm h1 (if d then 1 else 0) 0 (if d then mnsM m else 0) (if d then sqM m else 0) b hb) body_190) ?_
  rintro _ _ _ ⟨rfl, rfl, rfl⟩
  refine kp ?_
  refine .mw rfl (.c (f195_spec (a % m) (b % m) (Nat.lt_trans (Nat.mod_lt _ (by omega)) hm) (Nat.lt_trans (Nat.mod_lt _ (by omega)) hm)) body_195) ?_
  rintro _ _ _ ⟨rfl, rfl, rfl⟩
  refine kp ?_
  refine .uw rfl (.move rfl) (.uw rfl (.as (v' := .agg ((wd (115792089237316195423570985008687907853269984665640564039457584007913129639936 + a % m - b % m)).map u64).toArray) (.extract rfl rfl) rfl) (.uw rfl (.as (v' := u64 (if a % m < b % m then 1 else 0)) (.extract rfl rfl) rfl) ?_))
  refine .mw0 rfl (.sa sz_40) ?_
  rintro _ _ _ ⟨rfl, rfl⟩
  refine kp ?_
  refine .uw rfl (.assign rfl) ?_
  refine .nil (.tn (.seq (.seq (.region ?_))))
  refine .w (.move rfl) (.w (.as (v' := .bool (decide (a % m < b % m))) (.bin rfl rfl (BinR.eql_u64 (b := 1#64))) (congrArg Value.bool (by split <;> simp_all))) ?_)
  refine .nil (.tn ?_)
  refine .cn rfl (fun hc1 => ?_) (fun hc1 => ?_)
  ·try simp only [BitVec.reduceToNat] at hc1
   skip
   refine JC.draw (.one 0 (.one 1 (.one 2 (.one 3 (.one 4 (.one 5 (.one 6 (.one 7 (.one 8 (.one 9 .nil)))))))))) (fun i => ([5, 9] : List Nat).contains i) (fun i => ([5, 9] : List Nat).contains i) (fun i => ([1, 2, 3, 6, 7, 8] : List Nat).contains i) mixed (by kernel_rfl) (by decide) (by kernel_rfl) ?_
   refine .w rfl (.as (v' := .agg ((wd ((115792089237316195423570985008687907853269984665640564039457584007913129639936 + a % m - b % m) % 115792089237316195423570985008687907853269984665640564039457584007913129639936)).map u64).toArray) (.lda agg_40 rfl) (by rw [wd_mod])) (.uw rfl (.move rfl) (.uw rfl (.nilCheck rfl) (.uw rfl (.fieldAddr fa_179_0 rfl) (.w rfl (.as (v' := .agg ((wd m).map u64).toArray) (.lda agg_40 rfl) (by rfl)) ?_))))
   refine .mw rfl (.c (f163_spec ((115792089237316195423570985008687907853269984665640564039457584007913129639936 + a % m - b % m) % 115792089237316195423570985008687907853269984665640564039457584007913129639936) m (Nat.mod_lt _ (by decide)) hm) body_163) ?_
   rintro _ _ _ ⟨rfl, rfl, rfl⟩
   refine kp ?_
   refine .uw rfl (.move rfl) (.uw rfl (.as (v' := .agg ((wd (minM m a b)).map u64).toArray) (.extract rfl rfl) (by rw [← min_1 (by omega) hm hc1]; rfl)) (.uw rfl (.extract rfl rfl) ?_))
   refine .mw0 rfl (.sa sz_40) ?_
   rintro _ _ _ ⟨rfl, rfl⟩
   refine kp ?_
   refine .nil (.tn (.seq (.region ?_)))
   refine .w (.lda agg_40 rfl) (.sa sz_40 ?_)
   refine .nil (.tn (.ret ?_))
   exact .dn [] [] (res1 rfl (.cl agg_40)) ⟨rfl, rfl, rfl⟩
  ·try simp only [BitVec.reduceToNat] at hc1
   rw [min_2 (by omega) hm hc1]
   refine .skip (.tn (.seq (.region ?_)))
   refine .w (.lda agg_40 rfl) (.sa sz_40 ?_)
   refine .nil (.tn (.ret ?_))
   exact .dn [] [] (res1 rfl (.cl agg_40)) ⟨rfl, rfl, rfl⟩
 exact JA.nil
theorem f161d_spec (p m : Nat) (hm : m < 115792089237316195423570985008687907853269984665640564039457584007913129639936) (h1 : 1 < m) (ho : m % 2 = 1) (d : Bool) (a b : Nat) (ha : a < 115792089237316195423570985008687907853269984665640564039457584007913129639936) (hb : b < 115792089237316195423570985008687907853269984665640564039457584007913129639936) :
  Spec Tryz.prog 161 #[(ptr p 0), (.agg ((wd a).map u64).toArray), (.agg ((wd b).map u64).toArray)] [] [cMod p (modC m d)]
   (fun r Γ' H' => r = (.agg ((wd (mulM m a b)).map u64).toArray) ∧ Γ' = [] ∧ H' = [cMod p (modC m true)]) := by
 refine Spec.of_args Tryz.func161 rfl Tryz.ntmps161 (by simp) fun w => ?_
 refine .seq (.region ?_)
 refine .bx fun b4 => ?_
 refine .bx fun b5 => ?_
 refine .al zero_40 fun b6 => ?_
 refine .nil (.tn (.seq (.region ?_)))
 refine .w (.move rfl) (.c (f189_spec p m hm (by omega) d) body_189 ?_)
 refine .nil (.tn (.seq ?_))
 refine JC.draw (.one 0 (.one 1 (.one 3 (.one 4 (.one 2 (.one 5 (.one 6 (.one 7 .nil)))))))) (fun i => ([5, 6, 7] : List Nat).contains i) (fun i => ([2, 5, 6, 7] : List Nat).contains i) (fun i => ([0, 3] : List Nat).contains i) mixed (by kernel_rfl) (by decide) (by kernel_rfl) ?_
 refine .uw rfl (.move rfl) (.w rfl (.lda agg_40 rfl) (.uw rfl (.move rfl) (.w rfl (.lda agg_40 rfl) ?_)))
 refine .mw rfl (.c (f190_spec p m hm h1 1 0 (mnsM m) (sqM m) a ha) body_190) ?_
 rintro _ _ _ ⟨rfl, rfl, rfl⟩
 refine kp ?_
 refine .mw rfl (.c (f190_spec p m hm h1 1 0 (mnsM m) (sqM m) b hb) body_190) ?_
 rintro _ _ _ ⟨rfl, rfl, rfl⟩
 refine kp ?_
 refine .mw0 rfl (.sa sz_40) ?_
 rintro _ _ _ ⟨rfl, rfl⟩
 refine kp ?_
 refine .mw0 rfl (.sa sz_40) ?_
 rintro _ _ _ ⟨rfl, rfl⟩
 refine kp ?_
 refine .nil (.tn (.seq (.region ?_)))
 refine .al zero_262 fun b7 => ?_
 refine .nil (.tn (.seq (.seq (.region ?_))))
 refine .w (.lda agg_40 rfl) (.w (.move rfl) ?_)
 refine .nil (.tn (.block ?_))
 refine .lp (ι := Nat × List W64) (fun x => x.1 ≤ 4 ∧ MontI m (a % m) (b % m) x.1 x.2) (fun T x => (19, it (x.1 : Int)) :: T) (fun T _ => T) (fun T x => Res.cells b7 (x.2.map u64) 262 :: T) (fun x => 4 - x.1) (0, [0, 0, 0, 0, 0, 0]) [0, 5, 6, 7, 18, 42, 43, 44, 45, 46, 47, 48] ?_ (fun x hx => ?_)
 ·exact ⟨Nat.zero_le _, MontI.start (by omega) _ _⟩
 obtain ⟨i, ts⟩ := x
 obtain ⟨hi, hI⟩ := hx
 dsimp only at hi hI ⊢
 have hbm : b % m < m := Nat.mod_lt _ (by omega)
 refine .seq (.region ?_)
 refine .w (.bin rfl rfl BinR.lss_i) ?_
 refine .nil (.tn (.seq ?_))
 refine .cn rfl (fun hc1 => ?_) (fun hc1 => ?_)
 ·have hbig := hI.big hm hbm (wat (a % m) i)
  refine .skip (.tn (.seq (.block (.seq (.region ?_)))))
  refine .w (.indexAgg Tryz.underlying40 Tryz.underlying22 sz_22 rfl rfl zq6 (by first | rfl | exact gm (d := 0) zq10)) (.w (.assign rfl) ?_)
  refine .nil (.tn (.seq (.region ?_)))
  refine .w (.move rfl) (.w (.lda agg_40 rfl) (.cb (f191_spec b7 ts hI.1 (wat (a % m) i) (b % m) (Nat.lt_trans (Nat.mod_lt _ (by omega)) hm) (by have := hbig 0#64; rw [show (0#64).toNat = 0 from rfl] at this; omega)) body_191 ?_ (h0 := by rintro _ _ _ ⟨_, _, _, _, h, _⟩; exact h)))
  rintro _ _ ⟨us, hu1, hu, rfl, _, rfl⟩
  refine .ap ?_
  refine .nil (.tn (.seq ?_))
  refine JC.draw (.one 0 (.one 1 (.one 2 (.one 3 (.one 4 (.one 5 (.one 6 (.one 7 (.one 8 (.one 9 (.one 10 (.one 11 .nil)))))))))))) (fun i => ([11] : List Nat).contains i) (fun i => ([11] : List Nat).contains i) (fun i => ([0, 2, 3, 4, 6, 7, 8, 9] : List Nat).contains i) mixed (by kernel_rfl) (by decide) (by kernel_rfl) ?_
  refine .uw rfl (.ixA (j := 0) Tryz.underlying262 sz_22 rfl rfl) (.w rfl (.ld one_22 rfl (hj := by exact gm (d := 0) (by omega))) (.uw rfl (.move rfl) (.uw rfl (.nilCheck rfl) (.uw rfl (.fieldAddr fa_179_2 rfl) (.w rfl (.as (v' := u64 (mnsM m)) (.ld one_22 rfl (hj := by first | exact wd_get _ (by omega) | rfl | exact tab_get zq10 | exact gm (d := 0) zq10)) rfl) (.uw rfl (.bin rfl rfl (BinR.mul_u64)) ?_))))))
  refine .uw rfl (.move rfl) (.uw rfl (.nilCheck rfl) (.uw rfl (.fieldAddr fa_179_0 rfl) (.w rfl (.as (v' := .agg ((wd m).map u64).toArray) (.lda agg_40 rfl) (by rfl)) ?_)))
  refine .mw rfl (.cb (f191_spec b7 us hu1 (us.getD 0 0 * mnsM m) m hm (by have := hbig (us.getD 0 0 * mnsM m); rw [hu]; omega)) body_191 (h0 := by rintro _ _ _ ⟨_, _, _, _, h, _⟩; exact h)) ?_
  rintro _ _ _ ⟨_, ⟨vs, hv1, hv, rfl, _, rfl⟩, hΓ, hH⟩
  simp only [List.cons_append, List.nil_append] at hH; subst hΓ hH
  refine kp ?_
  obtain ⟨v0, v1, v2, v3, v4, v5, rfl⟩ := six hv1
  refine .nil (.tn (.seq ?_))
  refine JC.draw (.one 0 (.one 1 (.one 2 .nil))) (fun i => ([2] : List Nat).contains i) (fun i => ([2] : List Nat).contains i) (fun i => ([0, 1] : List Nat).contains i) mixed (by kernel_rfl) (by decide) (by kernel_rfl) ?_
  refine .uw rfl (.cutArr (l := 0) (h := 6) Tryz.underlying262 sz_22 rfl rfl rfl zq6 zq6 zq6) (.uw rfl (.cutArr (l := 1) (h := 6) Tryz.underlying262 sz_22 rfl ⟨_, rfl⟩ rfl zq6 zq6 zq6) ?_)
  refine .mw rfl (.copy Tryz.underlying25 sz_22 rfl rfl (by exact Src.cells zq7 (by simp)) (by intro a ha; obtain ⟨x, _, rfl⟩ := List.mem_map.1 (List.mem_of_mem_drop (List.mem_of_mem_take ha)); rfl) zq11 (by first | (simp; done) | (simp; omega))) ?_
  rintro v39 _ _ ⟨rfl, rfl, rfl⟩
  refine kp ?_
  refine .nil (.tn (.region ?_))
  refine .w (.ixA (j := 5) Tryz.underlying262 sz_22 rfl rfl) ?_
  refine .s1 sz_22 ?_
  refine .nil (.block_normal (.tn (.region ?_)))
  refine .w (.asI ((i + 1 : Nat) : Int) (.bin rfl rfl (BinR.add_i zq3))) (.w (.move rfl) (.nil ?_))
  refine .hd (i + 1, [v1, v2, v3, v4, v5, 0#64]) ?_
  exact ⟨⟨by dsimp only; omega, hI.step (by omega) hm ho hbm hu1 hu hv1 hv⟩, by dsimp only; omega⟩
 ·obtain rfl : i = 4 := by omega
  have hts6 : ts.length = 6 := hI.1
  have hfin := hI.done (Nat.lt_trans (Nat.mod_lt _ (by omega)) hm) ho
  have h4 := val_four hI.1 (by have := hI.2.1; omega)
  refine .exit (.then_exit (.then_exit (.block_exit (.tn (.seq ?_)))))
  refine JC.draw (.one 0 (.one 1 (.one 2 (.one 3 (.one 4 (.one 5 (.one 6 (.one 7 .nil)))))))) (fun i => ([6, 7] : List Nat).contains i) (fun i => ([6, 7] : List Nat).contains i) (fun i => ([0, 1, 2, 4] : List Nat).contains i) mixed (by kernel_rfl) (by decide) (by kernel_rfl) ?_
  refine .uw rfl (.move rfl) (.uw rfl (.cutArr (l := 0) (h := 4) Tryz.underlying262 sz_22 rfl rfl ⟨_, rfl⟩ zq6 zq6 zq6) (.uw rfl (.s2a Tryz.underlying40 rfl (by decide)) (.w rfl (.as (v' := .agg ((wd (val ts)).map u64).toArray) (.lda agg_40 rfl) (congrArg (fun l : List Value => Value.agg l.toArray) (by rw [List.drop_zero, ← List.map_take, h4.1]))) (.uw rfl (.ixA (j := 4) Tryz.underlying262 sz_22 rfl rfl) (.w rfl (.as (v' := u64 (BitVec.ofNat 64 (val ts / 115792089237316195423570985008687907853269984665640564039457584007913129639936))) (.ld one_22 rfl (hj := by exact gm (d := 0) (by have := hI.1; omega))) (congrArg u64 h4.2)) ?_)))))
  refine .mw rfl (.c (f192_spec p m hm h1 1 0 (mnsM m) (sqM m) (val ts) hI.2.1) body_192) ?_
  rintro _ _ _ ⟨rfl, rfl, rfl⟩
  refine kp ?_
  refine .mw0 rfl (.sa sz_40) ?_
  rintro _ _ _ ⟨rfl, rfl⟩
  refine kp ?_
  refine .nil (.tn (.ret ?_))
  exact .dn [] [cMod p (modC m true)] (res1 rfl (.cl agg_40)) ⟨by rw [hfin, mulM_mod]; try rfl, rfl, rfl⟩
theorem f161_spec (p m : Nat) (hm : m < 115792089237316195423570985008687907853269984665640564039457584007913129639936) (h1 : 1 < m) (ho : m % 2 = 1) (a b : Nat) (ha : a < 115792089237316195423570985008687907853269984665640564039457584007913129639936) (hb : b < 115792089237316195423570985008687907853269984665640564039457584007913129639936) : Spec Tryz.prog 161 #[(ptr p 0), (.agg ((wd a).map u64).toArray), (.agg ((wd b).map u64).toArray)] [] [Res.mod p m] (fun r Γ' H' => r = (.agg ((wd (mulM m a b)).map u64).toArray) ∧ Γ' = [] ∧ H' = [Res.mod p m]) := Spec.modH fun d => f161d_spec p m hm h1 ho d a b ha hb

theorem f158d_spec (p m : Nat) (hm : m < 115792089237316195423570985008687907853269984665640564039457584007913129639936) (h1 : 1 < m) (ho : m % 2 = 1) (d : Bool) (a : Nat) (ha : a < 115792089237316195423570985008687907853269984665640564039457584007913129639936) :
  Spec Tryz.prog 158 #[(ptr p 0), (.agg ((wd a).map u64).toArray)] [] [cMod p (modC m d)]
   (fun r Γ' H' => r = (.agg ((wd (toM m a)).map u64).toArray) ∧ Γ' = [] ∧ H' = [cMod p (modC m true)]) := by
 refine Spec.of_args Tryz.func158 rfl Tryz.ntmps158 (by simp) fun w => ?_
 refine .seq (.region ?_)
 refine .bx fun b3 => ?_
 refine .al zero_40 fun b4 => ?_
 refine .nil (.tn (.seq (.region ?_)))
 refine .w (.move rfl) (.c (f189_spec p m hm (by omega) d) body_189 ?_)
 refine .nil (.tn (.seq ?_))
 refine JC.draw (.one 0 (.one 1 (.one 2 (.one 3 (.one 4 (.one 5 (.one 6 (.one 7 .nil)))))))) (fun i => ([6, 7] : List Nat).contains i) (fun i => ([6, 7] : List Nat).contains i) (fun i => ([0, 2, 3, 4] : List Nat).contains i) mixed (by kernel_rfl) (by decide) (by kernel_rfl) ?_
 refine .uw rfl (.move rfl) (.w rfl (.lda agg_40 rfl) (.uw rfl (.move rfl) (.uw rfl (.nilCheck rfl) (.uw rfl (.fieldAddr fa_179_3 rfl) (.w rfl (.as (v' := .agg ((wd (sqM m)).map u64).toArray) (.lda agg_40 rfl) (by rfl)) ?_)))))
 refine .mw rfl (.c (f161d_spec p m hm h1 ho true a (sqM m) ha (Nat.lt_trans (Nat.mod_lt _ (by omega)) hm)) body_161) ?_
 rintro _ _ _ ⟨rfl, rfl, rfl⟩
 refine kp ?_
 refine .mw0 rfl (.sa sz_40) ?_
 rintro _ _ _ ⟨rfl, rfl⟩
 refine kp ?_
 refine .nil (.tn (.ret ?_))
 exact .dn [] [cMod p (modC m true)] (res1 rfl (.cl agg_40)) ⟨by rw [toM_eq ho], rfl, rfl⟩

theorem f158_spec (p m : Nat) (hm : m < 115792089237316195423570985008687907853269984665640564039457584007913129639936) (h1 : 1 < m) (ho : m % 2 = 1) (a : Nat) (ha : a < 115792089237316195423570985008687907853269984665640564039457584007913129639936) : Spec Tryz.prog 158 #[(ptr p 0), (.agg ((wd a).map u64).toArray)] [] [Res.mod p m] (fun r Γ' H' => r = (.agg ((wd (toM m a)).map u64).toArray) ∧ Γ' = [] ∧ H' = [Res.mod p m]) := Spec.modH fun d => f158d_spec p m hm h1 ho d a ha

theorem f162_spec (p m : Nat) (hm : m < 115792089237316195423570985008687907853269984665640564039457584007913129639936) (h1 : 1 < m) (ho : m % 2 = 1) (a : Nat) (ha : a < 115792089237316195423570985008687907853269984665640564039457584007913129639936) :
  Spec Tryz.prog 162 #[(ptr p 0), (.agg ((wd a).map u64).toArray)] [] [Res.mod p m]
   (fun r Γ' H' => r = (.agg ((wd (mulM m a 1)).map u64).toArray) ∧ Γ' = [] ∧ H' = [Res.mod p m]) := by
 refine Spec.of_args Tryz.func162 rfl Tryz.ntmps162 (by simp) fun w => ?_
 refine .seq (.region ?_)
 refine .bx fun b3 => ?_
 refine .al zero_40 fun b4 => ?_
 refine .nil (.tn (.seq (.region ?_)))
 refine .w (.move rfl) (.w (.lda agg_40 rfl) (.w (.as (v' := .agg ((wd 1).map u64).toArray) (.build bld_40 rfl rfl) rfl) (.c (f161_spec p m hm h1 ho a 1 ha (by decide)) body_161 ?_)))
 refine .sa sz_40 ?_
 refine .nil (.tn (.ret ?_))
 exact .dn [] [Res.mod p m] (res1 rfl (.cl agg_40)) ⟨rfl, rfl, rfl⟩

theorem f182_spec (p m : Nat) (hm : m < 115792089237316195423570985008687907853269984665640564039457584007913129639936) (h1 : 1 < m) (ho : m % 2 = 1) (a b : Nat) (ha : a < 115792089237316195423570985008687907853269984665640564039457584007913129639936) (hb : b < 115792089237316195423570985008687907853269984665640564039457584007913129639936) :
  Spec Tryz.prog 182 #[(ptr p 0), (.agg ((wd a).map u64).toArray), (.agg ((wd b).map u64).toArray)] [] [Res.mod p m]
   (fun r Γ' H' => r = (.agg ((wd (a * b % m)).map u64).toArray) ∧ Γ' = [] ∧ H' = [Res.mod p m]) := by
 refine Spec.of_args Tryz.func182 rfl Tryz.ntmps182 (by simp) fun w => ?_
 refine .seq (.region ?_)
 refine .bx fun b4 => ?_
 refine .bx fun b5 => ?_
 refine .al zero_40 fun b6 => ?_
 refine .nil (.tn (.seq ?_))
 refine JC.draw (.one 0 (.one 1 (.one 2 (.one 4 (.one 3 (.one 5 (.one 6 .nil))))))) (fun i => ([5, 6] : List Nat).contains i) (fun i => ([3, 5, 6] : List Nat).contains i) (fun i => ([0, 1] : List Nat).contains i) mixed (by kernel_rfl) (by decide) (by kernel_rfl) ?_
 refine .uw rfl (.move rfl) (.uw rfl (.move rfl) (.w rfl (.lda agg_40 rfl) (.w rfl (.lda agg_40 rfl) ?_)))
 refine .mw rfl (.c (f158_spec p m hm h1 ho a ha) body_158) ?_
 rintro _ _ _ ⟨rfl, rfl, rfl⟩
 refine kp ?_
 refine .mw rfl (.c (f161_spec p m hm h1 ho (toM m a) b (Nat.lt_trans (toM_lt h1 _) hm) hb) body_161) ?_
 rintro _ _ _ ⟨rfl, rfl, rfl⟩
 refine kp ?_
 refine .mw0 rfl (.sa sz_40) ?_
 rintro _ _ _ ⟨rfl, rfl⟩
 refine kp ?_
 refine .nil (.tn (.ret ?_))
 exact .dn [] [Res.mod p m] (res1 rfl (.cl agg_40)) ⟨by rw [timesM_eq ho], rfl, rfl⟩

theorem f111_spec (p m : Nat) (hm : m < 115792089237316195423570985008687907853269984665640564039457584007913129639936) (h1 : 1 < m) (ho : m % 2 = 1) (a n : Nat) (ha : a < 115792089237316195423570985008687907853269984665640564039457584007913129639936) (hn : n < 115792089237316195423570985008687907853269984665640564039457584007913129639936) :
  Spec Tryz.prog 111 #[(ptr p 0), (.agg ((wd a).map u64).toArray), (.agg ((wd n).map u64).toArray)] [] [Res.mod p m]
   (fun r Γ' H' => r = (.agg ((wd (a ^ n % m)).map u64).toArray) ∧ Γ' = [] ∧ H' = [Res.mod p m]) := by
 refine Spec.of_args Tryz.func111 rfl Tryz.ntmps111 (by simp) fun w => ?_
 refine .seq (.region ?_)
 refine .bx fun b4 => ?_
 refine .bx fun b5 => ?_
 refine .al zero_40 fun b6 => ?_
 refine .nil (.tn ?_)
 refine .mt (ι := Nat × Nat) (fun x => True) (fun T x => (7, ptr x.1 0) :: (8, ptr x.2 0) :: T) (fun T _ => T) (fun T x => Res.cells x.1 ((wd (toM m 1)).map u64) 40 :: Res.cells x.2 ((wd (toM m a)).map u64) 40 :: T) [0, 5, 6, 9, 16, 17, 18, 19, 20, 21, 22, 23, 24, 25, 26, 27, 28, 29, 30, 31, 32, 33, 34, 35, 36] [] ?_ (fun x hx => ?_)
 ·refine JC.draw (.one 0 (.one 1 (.one 3 (.one 4 (.alt 2 (.alt 5 (.alt 6 (.one 7 (.one 8 (.one 9 .nil))) (.alt 7 (.one 6 (.one 8 (.one 9 .nil))) .nil)) (.alt 6 (.alt 5 (.one 7 (.one 8 (.one 9 .nil))) (.alt 7 (.one 5 (.one 8 (.one 9 .nil))) .nil)) (.alt 7 (.alt 5 (.one 6 (.one 8 (.one 9 .nil))) (.alt 6 (.one 5 (.one 8 (.one 9 .nil))) .nil)) .nil))) (.alt 6 (.alt 2 (.alt 5 (.one 7 (.one 8 (.one 9 .nil))) (.alt 7 (.one 5 (.one 8 (.one 9 .nil))) .nil)) (.alt 7 (.one 2 (.one 5 (.one 8 (.one 9 .nil)))) .nil)) (.alt 7 (.alt 2 (.alt 5 (.one 6 (.one 8 (.one 9 .nil))) (.alt 6 (.one 5 (.one 8 (.one 9 .nil))) .nil)) (.alt 6 (.one 2 (.one 5 (.one 8 (.one 9 .nil)))) .nil)) .nil))))))) (fun i => ([8, 9] : List Nat).contains i) (fun i => ([2, 5, 6, 7, 8, 9] : List Nat).contains i) (fun i => ([0, 1, 3] : List Nat).contains i) mixed (by kernel_rfl) (by decide) (by kernel_rfl) ?_
  refine .uw rfl (.move rfl) (.uw rfl (.as (v' := .agg ((wd 1).map u64).toArray) (.build bld_40 rfl rfl) rfl) (.uw rfl (.move rfl) (.w rfl (.lda agg_40 rfl) ?_)))
  refine JR.alt rfl ?_ ?_
  ·refine .mw rfl (.c (f158_spec p m hm h1 ho 1 (by decide)) body_158) ?_
   rintro _ _ _ ⟨rfl, rfl, rfl⟩
   refine kp ?_
   refine JR.alt rfl ?_ ?_
   ·refine .mw rfl (.c (f158_spec p m hm h1 ho a ha) body_158) ?_
    rintro _ _ _ ⟨rfl, rfl, rfl⟩
    refine kp ?_
    refine JR.alt rfl ?_ ?_
    ·refine .mw rfl (Mv.alloc zero_40) ?_
     rintro _ _ _ ⟨b7, rfl, rfl, rfl⟩
     refine kp ?_
     refine .mw rfl (Mv.alloc zero_40) ?_
     rintro _ _ _ ⟨b8, rfl, rfl, rfl⟩
     refine kp ?_
     refine .mw0 rfl (.sa sz_40) ?_
     rintro _ _ _ ⟨rfl, rfl⟩
     refine kp ?_
     refine .mw0 rfl (.sa sz_40) ?_
     rintro _ _ _ ⟨rfl, rfl⟩
     refine kp ?_
     refine .nil ?_
     refine .hd (b7, b8) ?_
     trivial
    refine JA.alt rfl ?_ ?_
    ·refine .mw rfl (Mv.alloc zero_40) ?_
     rintro _ _ _ ⟨b8, rfl, rfl, rfl⟩
     refine kp ?_
     refine .mw rfl (Mv.alloc zero_40) ?_
     rintro _ _ _ ⟨b7, rfl, rfl, rfl⟩
     refine kp ?_
     refine .mw0 rfl (.sa sz_40) ?_
     rintro _ _ _ ⟨rfl, rfl⟩
     refine kp ?_
     refine .mw0 rfl (.sa sz_40) ?_
     rintro _ _ _ ⟨rfl, rfl⟩
     refine kp ?_
     refine .nil ?_
     refine .hd (b7, b8) ?_
     trivial
    exact JA.nil
   refine JA.alt rfl ?_ ?_
   ·refine .mw rfl (Mv.alloc zero_40) ?_
    rintro _ _ _ ⟨b7, rfl, rfl, rfl⟩
    refine kp ?_
    refine JR.alt rfl ?_ ?_
    ·refine .mw rfl (.c (f158_spec p m hm h1 ho a ha) body_158) ?_
     rintro _ _ _ ⟨rfl, rfl, rfl⟩
     refine kp ?_
     refine .mw rfl (Mv.alloc zero_40) ?_
     rintro _ _ _ ⟨b8, rfl, rfl, rfl⟩
     refine kp ?_
     refine .mw0 rfl (.sa sz_40) ?_
     rintro _ _ _ ⟨rfl, rfl⟩
     refine kp ?_
     refine .mw0 rfl (.sa sz_40) ?_
     rintro _ _ _ ⟨rfl, rfl⟩
     refine kp ?_
     refine .nil ?_
     refine .hd (b7, b8) ?_
     trivial
    refine JA.alt rfl ?_ ?_
    ·refine .mw rfl (Mv.alloc zero_40) ?_
     rintro _ _ _ ⟨b8, rfl, rfl, rfl⟩
     refine kp ?_
     refine .mw rfl (.c (f158_spec p m hm h1 ho a ha) body_158) ?_
     rintro _ _ _ ⟨rfl, rfl, rfl⟩
     refine kp ?_
     refine .mw0 rfl (.sa sz_40) ?_
     rintro _ _ _ ⟨rfl, rfl⟩
     refine kp ?_
     refine .mw0 rfl (.sa sz_40) ?_
     rintro _ _ _ ⟨rfl, rfl⟩
     refine kp ?_
     refine .nil ?_
     refine .hd (b7, b8) ?_
     trivial
    exact JA.nil
   refine JA.alt rfl ?_ ?_
   ·refine .mw rfl (Mv.alloc zero_40) ?_
    rintro _ _ _ ⟨b8, rfl, rfl, rfl⟩
    refine kp ?_
    refine JR.alt rfl ?_ ?_
    ·refine .mw rfl (.c (f158_spec p m hm h1 ho a ha) body_158) ?_
     rintro _ _ _ ⟨rfl, rfl, rfl⟩
     refine kp ?_
     refine .mw rfl (Mv.alloc zero_40) ?_
     rintro _ _ _ ⟨b7, rfl, rfl, rfl⟩
     refine kp ?_
     refine .mw0 rfl (.sa sz_40) ?_
     rintro _ _ _ ⟨rfl, rfl⟩
     refine kp ?_
     refine .mw0 rfl (.sa sz_40) ?_
     rintro _ _ _ ⟨rfl, rfl⟩
     refine kp ?_
     refine .nil ?_
     refine .hd (b7, b8) ?_
     trivial
    refine JA.alt rfl ?_ ?_
    ·refine .mw rfl (Mv.alloc zero_40) ?_
     rintro _ _ _ ⟨b7, rfl, rfl, rfl⟩
     refine kp ?_
     refine .mw rfl (.c (f158_spec p m hm h1 ho a ha) body_158) ?_
     rintro _ _ _ ⟨rfl, rfl, rfl⟩
     refine kp ?_
     refine .mw0 rfl (.sa sz_40) ?_
     rintro _ _ _ ⟨rfl, rfl⟩
     refine kp ?_
     refine .mw0 rfl (.sa sz_40) ?_
     rintro _ _ _ ⟨rfl, rfl⟩
     refine kp ?_
     refine .nil ?_
     refine .hd (b7, b8) ?_
     trivial
    exact JA.nil
   exact JA.nil
  refine JA.alt rfl ?_ ?_
  ·refine .mw rfl (Mv.alloc zero_40) ?_
   rintro _ _ _ ⟨b7, rfl, rfl, rfl⟩
   refine kp ?_
   refine JR.alt rfl ?_ ?_
   ·refine .mw rfl (.c (f158_spec p m hm h1 ho 1 (by decide)) body_158) ?_
    rintro _ _ _ ⟨rfl, rfl, rfl⟩
    refine kp ?_
    refine JR.alt rfl ?_ ?_
    ·refine .mw rfl (.c (f158_spec p m hm h1 ho a ha) body_158) ?_
     rintro _ _ _ ⟨rfl, rfl, rfl⟩
     refine kp ?_
     refine .mw rfl (Mv.alloc zero_40) ?_
     rintro _ _ _ ⟨b8, rfl, rfl, rfl⟩
     refine kp ?_
     refine .mw0 rfl (.sa sz_40) ?_
     rintro _ _ _ ⟨rfl, rfl⟩
     refine kp ?_
     refine .mw0 rfl (.sa sz_40) ?_
     rintro _ _ _ ⟨rfl, rfl⟩
     refine kp ?_
     refine .nil ?_
     refine .hd (b7, b8) ?_
     trivial
    refine JA.alt rfl ?_ ?_
    ·refine .mw rfl (Mv.alloc zero_40) ?_
     rintro _ _ _ ⟨b8, rfl, rfl, rfl⟩
     refine kp ?_
     refine .mw rfl (.c (f158_spec p m hm h1 ho a ha) body_158) ?_
     rintro _ _ _ ⟨rfl, rfl, rfl⟩
     refine kp ?_
     refine .mw0 rfl (.sa sz_40) ?_
     rintro _ _ _ ⟨rfl, rfl⟩
     refine kp ?_
     refine .mw0 rfl (.sa sz_40) ?_
     rintro _ _ _ ⟨rfl, rfl⟩
     refine kp ?_
     refine .nil ?_
     refine .hd (b7, b8) ?_
     trivial
    exact JA.nil
   refine JA.alt rfl ?_ ?_
   ·refine .mw rfl (Mv.alloc zero_40) ?_
    rintro _ _ _ ⟨b8, rfl, rfl, rfl⟩
    refine kp ?_
    refine .mw rfl (.c (f158_spec p m hm h1 ho 1 (by decide)) body_158) ?_
    rintro _ _ _ ⟨rfl, rfl, rfl⟩
    refine kp ?_
    refine .mw rfl (.c (f158_spec p m hm h1 ho a ha) body_158) ?_
    rintro _ _ _ ⟨rfl, rfl, rfl⟩
    refine kp ?_
    refine .mw0 rfl (.sa sz_40) ?_
    rintro _ _ _ ⟨rfl, rfl⟩
    refine kp ?_
    refine .mw0 rfl (.sa sz_40) ?_
    rintro _ _ _ ⟨rfl, rfl⟩
    refine kp ?_
    refine .nil ?_
    refine .hd (b7, b8) ?_
    trivial
   exact JA.nil
  refine JA.alt rfl ?_ ?_
  ·refine .mw rfl (Mv.alloc zero_40) ?_
   rintro _ _ _ ⟨b8, rfl, rfl, rfl⟩
   refine kp ?_
   refine JR.alt rfl ?_ ?_
   ·refine .mw rfl (.c (f158_spec p m hm h1 ho 1 (by decide)) body_158) ?_
    rintro _ _ _ ⟨rfl, rfl, rfl⟩
    refine kp ?_
    refine JR.alt rfl ?_ ?_
    ·refine .mw rfl (.c (f158_spec p m hm h1 ho a ha) body_158) ?_
     rintro _ _ _ ⟨rfl, rfl, rfl⟩
     refine kp ?_
     refine .mw rfl (Mv.alloc zero_40) ?_
     rintro _ _ _ ⟨b7, rfl, rfl, rfl⟩
     refine kp ?_
     refine .mw0 rfl (.sa sz_40) ?_
     rintro _ _ _ ⟨rfl, rfl⟩
     refine kp ?_
     refine .mw0 rfl (.sa sz_40) ?_
     rintro _ _ _ ⟨rfl, rfl⟩
     refine kp ?_
     refine .nil ?_
     refine .hd (b7, b8) ?_
     trivial
    refine JA.alt rfl ?_ ?_
    ·refine .mw rfl (Mv.alloc zero_40) ?_
     rintro _ _ _ ⟨b7, rfl, rfl, rfl⟩
     refine kp ?_
     refine .mw rfl (.c (f158_spec p m hm h1 ho a ha) body_158) ?_
     rintro _ _ _ ⟨rfl, rfl, rfl⟩
     refine kp ?_
     refine .mw0 rfl (.sa sz_40) ?_
     rintro _ _ _ ⟨rfl, rfl⟩
     refine kp ?_
     refine .mw0 rfl (.sa sz_40) ?_
     rintro _ _ _ ⟨rfl, rfl⟩
     refine kp ?_
     refine .nil ?_
     refine .hd (b7, b8) ?_
     trivial
    exact JA.nil
   refine JA.alt rfl ?_ ?_
   ·refine .mw rfl (Mv.alloc zero_40) ?_
    rintro _ _ _ ⟨b7, rfl, rfl, rfl⟩
    refine kp ?_
    refine .mw rfl (.c (f158_spec p m hm h1 ho 1 (by decide)) body_158) ?_
    rintro _ _ _ ⟨rfl, rfl, rfl⟩
    refine kp ?_
    refine .mw rfl (.c (f158_spec p m hm h1 ho a ha) body_158) ?_
    rintro _ _ _ ⟨rfl, rfl, rfl⟩
    refine kp ?_
    refine .mw0 rfl (.sa sz_40) ?_
    rintro _ _ _ ⟨rfl, rfl⟩
    refine kp ?_
    refine .mw0 rfl (.sa sz_40) ?_
    rintro _ _ _ ⟨rfl, rfl⟩
    refine kp ?_
    refine .nil ?_
    refine .hd (b7, b8) ?_
    trivial
   exact JA.nil
  exact JA.nil
 ·obtain ⟨b7, b8⟩ := x
  dsimp only
  refine .seq (.seq (.region ?_))
  refine .w (.lda agg_40 rfl) (.c (f159_spec n hn) body_159 ?_)
  have hl256 := bitlen_256 hn
  refine .w (.move rfl) ?_
  refine .nil (.tn (.block ?_))
  refine .lp (ι := Nat) (fun x => x ≤ bitlen n) (fun T x => (18, it (x : Int)) :: T) (fun T _ => T) (fun T x => Res.cells b7 ((wd (toM m (a ^ (n % 2 ^ x)))).map u64) 40 :: Res.cells b8 ((wd (toM m (a ^ 2 ^ x))).map u64) 40 :: T) (fun x => bitlen n - x) 0 [0, 5, 6, 7, 8, 17, 34, 35, 36] ?_ (fun x hx => ?_) (hH := (by rw [pw_z0, pw_z1]; repeat (first | exact Picks.nil _ | apply Picks.cons | exact Pull.here _ _ | apply Pull.there)))
  ·exact Nat.zero_le _
  refine .seq (.region ?_)
  refine .w (.bin rfl rfl BinR.lss_i) ?_
  refine .nil (.tn (.seq ?_))
  refine .cn rfl (fun hc1 => ?_) (fun hc1 => ?_)
  ·skip
   refine .skip (.tn (.seq (.block (.seq (.region ?_)))))
   refine .w (.move rfl) (.w (.assign rfl) ?_)
   refine .nil (.tn (.seq (.seq (.region ?_))))
   refine .w (.lda agg_40 rfl) (.w (.move rfl) (.c (f160_spec n x (by omega)) body_160 ?_))
   refine .w (.as (v' := .bool (decide (n / 2 ^ x % 2 = 1))) (.bin rfl rfl (BinR.eql_u64 (b := 1#64))) (congrArg Value.bool (decide_eq_decide.2 (bit_one n x)))) ?_
   refine .nil (.tn ?_)
   refine .cn rfl (fun hc2 => ?_) (fun hc2 => ?_)
   ·try simp only [BitVec.reduceToNat] at hc2
    skip
    refine .region (.w (.move rfl) (.w (.lda agg_40 rfl) (.w (.lda agg_40 rfl) (.c (f161_spec p m hm h1 ho (toM m (a ^ (n % 2 ^ x))) (toM m (a ^ 2 ^ x)) (Nat.lt_trans (toM_lt h1 _) hm) (Nat.lt_trans (toM_lt h1 _) hm)) body_161 ?_))))
    rw [toM_mul ho, pow_t hc2]
    refine .sa sz_40 ?_
    refine .nil (.tn (.region ?_))
    refine .w (.move rfl) (.w (.lda agg_40 rfl) (.w (.lda agg_40 rfl) (.c (f161_spec p m hm h1 ho (toM m (a ^ 2 ^ x)) (toM m (a ^ 2 ^ x)) (Nat.lt_trans (toM_lt h1 _) hm) (Nat.lt_trans (toM_lt h1 _) hm)) body_161 ?_)))
    rw [toM_mul ho, pow_sq]
    refine .sa sz_40 ?_
    refine .nil (.block_normal (.tn (.region ?_)))
    refine .w (.asI ((x + 1 : Nat) : Int) (.bin rfl rfl (BinR.add_i zq3))) (.w (.move rfl) (.nil ?_))
    refine .hd (x + 1) ?_
    exact ⟨by omega, by omega⟩
   ·try simp only [BitVec.reduceToNat] at hc2
    rw [pow_f hc2]
    refine .skip (.tn (.region ?_))
    refine .w (.move rfl) (.w (.lda agg_40 rfl) (.w (.lda agg_40 rfl) (.c (f161_spec p m hm h1 ho (toM m (a ^ 2 ^ x)) (toM m (a ^ 2 ^ x)) (Nat.lt_trans (toM_lt h1 _) hm) (Nat.lt_trans (toM_lt h1 _) hm)) body_161 ?_)))
    rw [toM_mul ho, pow_sq]
    refine .sa sz_40 ?_
    refine .nil (.block_normal (.tn (.region ?_)))
    refine .w (.asI ((x + 1 : Nat) : Int) (.bin rfl rfl (BinR.add_i zq3))) (.w (.move rfl) (.nil ?_))
    refine .hd (x + 1) ?_
    exact ⟨by omega, by omega⟩
  ·obtain rfl : x = bitlen n := by omega
   rw [pow_full]
   refine .exit (.then_exit (.then_exit (.block_exit (.tn (.seq (.region ?_))))))
   refine .w (.move rfl) (.w (.lda agg_40 rfl) (.c (f162_spec p m hm h1 ho (toM m (a ^ n)) (Nat.lt_trans (toM_lt h1 _) hm)) body_162 ?_))
   rw [fromM_eq ho]
   refine .sa sz_40 ?_
   refine .nil (.tn (.ret ?_))
   exact .dn [] [Res.mod p m] (res1 rfl (.cl agg_40)) ⟨rfl, rfl, rfl⟩

theorem f110_spec (m : Nat) (hm : m < 115792089237316195423570985008687907853269984665640564039457584007913129639936) (h1 : 1 < m) (ho : m % 2 = 1) :
  Spec Tryz.prog 110 #[(.agg ((wd m).map u64).toArray)] [] []
   (fun r Γ' H' => ∃ p, r = .tuple #[ptr p 0, it 0] ∧ Γ' = [] ∧ H' = [Res.mod p m]) := by
 refine Spec.of_args Tryz.func110 rfl Tryz.ntmps110 (by simp) fun w => ?_
 refine .seq (.region ?_)
 refine .bx fun b1 => ?_
 refine .w (.assign rfl) (.w (.assign rfl) ?_)
 refine .nil (.tn (.seq (.block (.seq (.region ?_)))))
 refine .w (.lda agg_40 rfl) (.w (.as (v' := .agg ((wd 0).map u64).toArray) (.build bld_40 rfl rfl) rfl) (.w (.as (v' := .bool false) (.bin rfl rfl (eql_nat wd_len' wd_len')) (congrArg Value.bool (decide_eq_false (by rw [wd_eq hm (by decide)]; omega)))) (.w (.move rfl) ?_)))
 refine .gt (g := 8) rfl rfl rfl ?_
 refine .w (.lda agg_40 rfl) ?_
 refine .gt (g := 8) rfl rfl rfl ?_
 refine .w (.as (v' := .agg ((wd 1).map u64).toArray) (.build bld_40 rfl rfl) rfl) ?_
 refine .gt (g := 8) rfl rfl rfl ?_
 refine .w (.as (v' := .bool false) (.bin rfl rfl (eql_nat wd_len' wd_len')) (congrArg Value.bool (decide_eq_false (by rw [wd_eq hm (by decide)]; omega)))) (.w (.pick0 rfl rfl rfl) (.w (.assign rfl) ?_))
 refine .nil (.tn ?_)
 refine .cf rfl ?_
 refine .seq (.region ?_)
 refine .w (.ixA (j := 0) Tryz.underlying40 sz_22 rfl rfl) (.w (.as (v' := u64 (wat m 0)) (.ld one_22 rfl) rfl) (.w (.as (v' := u64 (wat m 0 &&& 1#64)) (.bin rfl rfl (BinR.and_u64 (b := 1#64))) rfl) (.w (.as (v' := .bool false) (.bin rfl rfl (BinR.eql_u64 (b := 0#64))) (congrArg Value.bool (decide_eq_false (odd_bit ho)))) (.w (.assign rfl) ?_))))
 refine .nil (.tn ?_)
 refine .cf rfl ?_
 refine .skip (.block_normal (.tn (.seq (.region ?_))))
 refine .w (.lda agg_40 rfl) (.w (.build (cs := modC m false) bld_179 rfl (by kernel_rfl)) (.bx fun b20 => ?_))
 refine .w (.assign rfl) (.w (.assign rfl) ?_)
 refine .nil (.tn (.ret ?_))
 refine .modF (d := false) (p := b20) (m := m) zq11 ?_
 exact .dn [] [Res.mod b20 m] (res2 rfl (.tmp rfl) (.tmp rfl)) ⟨b20, rfl, rfl, rfl⟩
theorem zq5 {p : Prop} (h : p := by (repeat (first | exact List.Mem.head _ | refine List.Mem.tail _ ?_)); first | done | fail) : p := h
theorem neq_wide {x y : Operand} {us vs : List W64} (ha : us.length = 8) (hb : vs.length = 8) : BinR Tryz.prog .neq 254 x y (.agg (us.map u64).toArray) (.agg (vs.map u64).toArray) (.bool (!decide (us = vs))) :=
 BinR.neq_arr (f := u64) (g := fun x => (x.toNat : Int)) (k := .u64) Tryz.underlying254 Tryz.underlying22 sz_22 (by kernel_rfl) (fun _ => rfl) (fun x y h => BitVec.eq_of_toNat_eq (by exact Int.ofNat.inj h)) us vs ha hb

theorem f209_spec (v : Value) (fs : List (Nat × Nat)) (h40 : fs.length ≤ 40) (hF : ∀ x ∈ fs, Fok x) (hlt : prodF fs < 115792089237316195423570985008687907853269984665640564039457584007913129639936) :
  Spec Tryz.prog 209 #[v] [Res.rd v fs.length 5 (bks facC fs)] []
   (fun r Γ' H' => r = (.tuple #[(.agg ((wd (prodF fs)).map u64).toArray), it 0]) ∧ Γ' = [] ∧ H' = []) := by
 refine Spec.of_args Tryz.func209 rfl Tryz.ntmps209 (by simp) fun w => ?_
 refine .seq (.region ?_)
 refine .al zero_40 fun b2 => ?_
 refine .w (.assign rfl) ?_
 refine .nil (.tn (.seq (.seq (.region ?_))))
 refine .w (.move rfl) (.w (.len Tryz.underlying118 rfl) (.w (.bin rfl rfl BinR.gtr_i) ?_))
 refine .nil (.tn ?_)
 refine .cn rfl (fun hc1 => ?_) (fun hc1 => ?_)
 ·exfalso; omega
 ·refine .skip (.tn (.seq (.region ?_)))
  refine .w (.assign rfl) ?_
  refine .nil (.tn (.seq (.seq (.region ?_))))
  refine .w (.move rfl) (.w (.len Tryz.underlying118 rfl) (.w (.move rfl) ?_))
  refine .nil (.tn (.block ?_))
  refine .lp (ι := Nat) (fun x => x ≤ fs.length) (fun T x => (17, it (x : Int)) :: (4, .bool false) :: T) (fun T _ => T) (fun T _ => T) (fun x => fs.length - x) 0 [0, 2, 7, 9, 10, 15, 16, 38, 39, 40, 41, 42, 43, 44, 45, 46, 47, 48, 49, 50, 51, 52, 53, 54, 55, 56, 57, 58, 59, 60, 61, 62, 63, 64, 65, 66, 67, 68, 69, 70, 71, 72] ?_ (fun x hx => ?_)
  ·exact Nat.zero_le _
  obtain ⟨k, hk⟩ : ∃ k, k = x := ⟨_, rfl⟩
  subst hk
  refine .seq (.region ?_)
  refine .w (.bin rfl rfl BinR.lss_i) ?_
  refine .nil (.tn (.seq ?_))
  refine .cn rfl (fun hc2 => ?_) (fun hc2 => ?_)
  ·have hf := hF _ (fz_mem (l := fs) (k := k) (by omega))
   have hfe : (fs.getD k FZ).2 ≤ 255 := hf.2.1
   refine .skip (.tn (.seq (.block (.seq (.region ?_)))))
   refine .w (.ix Tryz.underlying118 sz_117 rfl rfl) (.w (.as (v' := .agg (facC (fs.getD k FZ)).toArray) (.lda agg_117 rfl (hm := by first | exact AM.own zq5 (by rw [bks_len]; omega) | exact AM.ro zq5 (by rw [bks_len]; omega) | exact AM.ownAt zq5 (by rw [bks_len]; omega) | exact AM.rd zq8 (by rw [bks_len]; omega) | exact AM.row zq7 (by rw [bks_len]; omega))) (congrArg (fun l : List Value => Value.agg l.toArray) (bks_piece (f := facC) FZ (by omega)))) (.al zero_117 fun b6 => ?_))
   refine .sa sz_117 ?_ (h1 := (FS.one (f := facC) _))
   refine .nil (.tn (.seq (.seq (.region ?_))))
   refine .w (.fieldAddr fa_117_1 rfl) (.w (.as (v' := it (fs.getD k FZ).2) (.ld one_3 rfl) rfl) (.w (.as (v' := .bool false) (.bin rfl rfl BinR.lss_i) (congrArg Value.bool (decide_eq_false (by have := hf.1; omega)))) (.w (.move rfl) ?_)))
   refine .gt (g := 24) rfl rfl rfl ?_
   refine .w (.fieldAddr fa_117_1 rfl) ?_
   refine .gt (g := 24) rfl rfl rfl ?_
   refine .w (.as (v' := it (fs.getD k FZ).2) (.ld one_3 rfl) rfl) ?_
   refine .gt (g := 24) rfl rfl rfl ?_
   refine .w (.as (v' := .bool false) (.bin rfl rfl BinR.gtr_i) (congrArg Value.bool (decide_eq_false (by have := hf.2.1; omega)))) (.w (.pick0 rfl rfl rfl) ?_)
   refine .nil (.tn ?_)
   refine .cf rfl ?_
   refine .skip (.tn (.region ?_))
   refine .w (.move rfl) (.w (.move rfl) ?_)
   refine .gt (g := 31) rfl rfl rfl ?_
   refine .w (.fieldAddr fa_117_0 rfl) ?_
   refine .gt (g := 31) rfl rfl rfl ?_
   refine .w (.as (v' := .agg ((wd (fs.getD k FZ).1).map u64).toArray) (.lda agg_40 rfl) (by rfl)) ?_
   refine .gt (g := 31) rfl rfl rfl ?_
   refine .w (.as (v' := .agg ((wd 0).map u64).toArray) (.build bld_40 rfl rfl) rfl) ?_
   refine .gt (g := 31) rfl rfl rfl ?_
   refine .w (.as (v' := .bool false) (.bin rfl rfl (eql_nat wd_len' wd_len')) (congrArg Value.bool (decide_eq_false (by rw [wd_eq hf.2.2.2 (by decide)]; have := hf.2.2.1; omega)))) (.w (.pick0 rfl rfl rfl) (.w (.assign rfl) ?_))
   refine .nil (.block_normal (.tn (.region ?_)))
   refine .w (.asI ((k + 1 : Nat) : Int) (.bin rfl rfl (BinR.add_i zq3))) (.w (.move rfl) (.nil ?_))
   refine .hd (k + 1) ?_
   exact ⟨by omega, by omega⟩
  ·skip
   refine .exit (.then_exit (.then_exit (.block_exit (.tn (.seq (.seq (.region ?_)))))))
   refine .w (.move rfl) ?_
   refine .nil (.tn ?_)
   refine .cf rfl ?_
   refine .skip (.tn (.seq (.region ?_)))
   refine .w (.as (v' := .agg ((wd 1).map u64).toArray) (.build bld_40 rfl rfl) rfl) (.al zero_40 fun b7 => ?_)
   refine .sa sz_40 ?_
   refine .nil (.tn (.seq (.seq (.region ?_))))
   refine .w (.move rfl) (.w (.len Tryz.underlying118 rfl) (.w (.move rfl) ?_))
   refine .nil (.tn (.block ?_))
   refine .lp (ι := Nat) (fun x => x ≤ fs.length) (fun T x => (43, it (x : Int)) :: T) (fun T _ => T) (fun T x => Res.cells b7 ((wd (prodF (fs.take x))).map u64) 40 :: T) (fun x => fs.length - x) 0 [2, 7, 41, 42, 72] ?_ (fun x hx => ?_) (hH := (by rw [pf_zero]; repeat (first | exact Picks.nil _ | apply Picks.cons | exact Pull.here _ _ | apply Pull.there)))
   ·exact Nat.zero_le _
   obtain ⟨k, hk⟩ : ∃ k, k = x := ⟨_, rfl⟩
   subst hk
   refine .seq (.region ?_)
   refine .w (.bin rfl rfl BinR.lss_i) ?_
   refine .nil (.tn (.seq ?_))
   refine .cn rfl (fun hc5 => ?_) (fun hc5 => ?_)
   ·have hf := hF _ (fz_mem (l := fs) (k := k) (by omega))
    have hfe : (fs.getD k FZ).2 ≤ 255 := hf.2.1
    refine .skip (.tn (.seq (.block (.seq (.region ?_)))))
    refine .w (.ix Tryz.underlying118 sz_117 rfl rfl) (.w (.as (v' := .agg (facC (fs.getD k FZ)).toArray) (.lda agg_117 rfl (hm := by first | exact AM.own zq5 (by rw [bks_len]; omega) | exact AM.ro zq5 (by rw [bks_len]; omega) | exact AM.ownAt zq5 (by rw [bks_len]; omega) | exact AM.rd zq8 (by rw [bks_len]; omega) | exact AM.row zq7 (by rw [bks_len]; omega))) (congrArg (fun l : List Value => Value.agg l.toArray) (bks_piece (f := facC) FZ (by omega)))) (.al zero_117 fun b9 => ?_))
    refine .sa sz_117 ?_ (h1 := (FS.one (f := facC) _))
    refine .nil (.tn (.seq (.region ?_)))
    refine .w (.fieldAddr fa_117_1 rfl) (.w (.as (v' := it (fs.getD k FZ).2) (.ld one_3 rfl) rfl) (.w (.move rfl) ?_))
    refine .nil (.tn (.block ?_))
    refine .lp (ι := Nat) (fun x => x ≤ (fs.getD k FZ).2) (fun T x => (49, it (x : Int)) :: T) (fun T _ => T) (fun T x => Res.cells b7 ((wd (prodF (fs.take k) * (fs.getD k FZ).1 ^ x)).map u64) 40 :: T) (fun x => (fs.getD k FZ).2 - x) 0 [2, 7, 9, 41, 42, 43, 44, 45, 46, 47, 48, 71, 72] ?_ (fun x hx => ?_) (hH := (by rw [Nat.pow_zero, Nat.mul_one]; repeat (first | exact Picks.nil _ | apply Picks.cons | exact Pull.here _ _ | apply Pull.there)))
    ·exact Nat.zero_le _
    obtain ⟨j, hj⟩ : ∃ j, j = x := ⟨_, rfl⟩
    subst hj
    refine .seq (.region ?_)
    refine .w (.bin rfl rfl BinR.lss_i) ?_
    refine .nil (.tn (.seq ?_))
    refine .cn rfl (fun hc6 => ?_) (fun hc6 => ?_)
    ·have hW := prodF_le hF (k := k) (j := j + 1) (by omega) (by omega)
     rw [Nat.pow_succ, ← Nat.mul_assoc] at hW
     have hW2 : (prodF (fs.take k) * (fs.getD k FZ).1 ^ j * (fs.getD k FZ).1) < 115792089237316195423570985008687907853269984665640564039457584007913129639936 := Nat.lt_of_le_of_lt hW hlt
     have hW3 := Nat.lt_of_le_of_lt (prodF_le hF (k := k) (j := j) (by omega) (by omega)) hlt
     refine .skip (.tn (.seq (.block (.seq (.region ?_)))))
     refine .w (.lda agg_40 rfl) (.w (.fieldAddr fa_117_0 rfl) (.w (.as (v' := .agg ((wd (fs.getD k FZ).1).map u64).toArray) (.lda agg_40 rfl) (by rfl)) (.c (f213_spec (prodF (fs.take k) * (fs.getD k FZ).1 ^ j) (fs.getD k FZ).1 hW3 hf.2.2.2) body_213 ?_)))
     refine .al zero_254 fun b10 => ?_
     refine .sa sz_254 ?_
     refine .nil (.tn (.seq (.seq (.region ?_))))
     refine .w (.lda agg_254 rfl) (.w (.ixA (j := 0) Tryz.underlying254 sz_22 rfl rfl) (.w (.as (v' := u64 (wat8 (prodF (fs.take k) * (fs.getD k FZ).1 ^ j * (fs.getD k FZ).1) 0)) (.ld one_22 rfl (hj := by exact wd8_at _ (by decide))) rfl) (.w (.ixA (j := 1) Tryz.underlying254 sz_22 rfl rfl) (.w (.as (v' := u64 (wat8 (prodF (fs.take k) * (fs.getD k FZ).1 ^ j * (fs.getD k FZ).1) 1)) (.ld one_22 rfl (hj := by exact wd8_at _ (by decide))) rfl) (.w (.ixA (j := 2) Tryz.underlying254 sz_22 rfl rfl) (.w (.as (v' := u64 (wat8 (prodF (fs.take k) * (fs.getD k FZ).1 ^ j * (fs.getD k FZ).1) 2)) (.ld one_22 rfl (hj := by exact wd8_at _ (by decide))) rfl) ?_))))))
     refine .w (.ixA (j := 3) Tryz.underlying254 sz_22 rfl rfl) (.w (.as (v' := u64 (wat8 (prodF (fs.take k) * (fs.getD k FZ).1 ^ j * (fs.getD k FZ).1) 3)) (.ld one_22 rfl (hj := by exact wd8_at _ (by decide))) rfl) (.w (.as (v' := .agg ((wd8 (prodF (fs.take k) * (fs.getD k FZ).1 ^ j * (fs.getD k FZ).1)).map u64).toArray) (.build bld_254 rfl rfl) (by rw [wd8_low hW2]; rfl)) (.w (.as (v' := .bool false) (.bin rfl rfl (neq_wide rfl rfl)) (congrArg Value.bool (by simp))) ?_)))
     refine .nil (.tn ?_)
     refine .cf rfl ?_
     refine .skip (.tn (.region ?_))
     refine .w (.cutArr (l := 0) (h := 4) Tryz.underlying254 sz_22 rfl rfl ⟨_, rfl⟩ zq6 zq6 zq6) (.w (.s2a Tryz.underlying40 rfl (by decide)) (.w (.as (v' := .agg ((wd (prodF (fs.take k) * (fs.getD k FZ).1 ^ j * (fs.getD k FZ).1)).map u64).toArray) (.lda agg_40 rfl) (congrArg (fun l : List Value => Value.agg l.toArray) (by rw [List.drop_zero, ← List.map_take, wd8_take]))) (.sa sz_40 ?_)))
     refine .nil (.block_normal (.tn (.region ?_)))
     refine .w (.asI ((j + 1 : Nat) : Int) (.bin rfl rfl (BinR.add_i zq3))) (.w (.move rfl) (.nil ?_))
     rw [Nat.mul_assoc, ← Nat.pow_succ]
     refine .hd (j + 1) ?_
     exact ⟨by omega, by omega⟩
    ·obtain rfl : j = (fs.getD k FZ).2 := by omega
     rw [← prodF_succ (by omega)]
     refine .exit (.then_exit (.then_exit (.block_exit (.block_normal (.tn (.region ?_))))))
     refine .w (.asI ((k + 1 : Nat) : Int) (.bin rfl rfl (BinR.add_i zq3))) (.w (.move rfl) (.nil ?_))
     refine .hd (k + 1) ?_
     exact ⟨by omega, by omega⟩
   ·obtain rfl : k = fs.length := by omega
    rw [List.take_length]
    refine .exit (.then_exit (.then_exit (.block_exit (.tn (.seq (.region ?_))))))
    refine .w (.lda agg_40 rfl) (.sa sz_40 ?_)
    refine .w (.assign rfl) ?_
    refine .nil (.tn (.ret ?_))
    exact .dn [] [] (res2 rfl (.cl agg_40) (.tmp rfl)) ⟨rfl, rfl, rfl⟩
theorem f188_spec (p : PF) (good : StepOk p.N p.G p.fs) :
  Spec Tryz.prog 188 #[(.agg (prfC p).toArray)] [Res.var 3 ((wd 2).map u64), Res.rd p.v p.fs.length 5 (bks facC p.fs)] []
   (fun r Γ' H' => r = (it 0) ∧ Γ' = [] ∧ H' = []) := by
 refine Spec.of_args Tryz.func188 rfl Tryz.ntmps188 (by simp) fun w => ?_
 obtain ⟨g40, gF, gP, gO, g2, hN, hG, gpw, gne⟩ := good
 refine .seq (.region ?_)
 refine .bx fun b1 => ?_
 refine .w (.assign rfl) ?_
 refine .nil (.tn (.seq (.region ?_)))
 refine .w (.fieldAddr fa_120_2 rfl) (.w (.ld one_118 rfl) (.c (f209_spec p.v p.fs g40 (fun x hx => (gF x hx).1) (by rw [gP]; omega)) body_209 ?_))
 rw [gP]
 refine .w (.move rfl) (.w (.as (v' := .agg ((wd (p.N - 1)).map u64).toArray) (.extract rfl rfl) rfl) (.w (.as (v' := it 0) (.extract rfl rfl) rfl) (.al zero_40 fun b3 => ?_)))
 refine .sa sz_40 ?_
 refine .w (.assign rfl) ?_
 refine .nil (.tn (.seq (.seq (.region ?_))))
 refine .w (.move rfl) (.w (.as (v' := .bool false) (.bin rfl rfl BinR.neq_i) rfl) ?_)
 refine .nil (.tn ?_)
 refine .cf rfl ?_
 refine .skip (.tn (.seq (.region ?_)))
 refine .w (.as (v' := .agg ((wd 1).map u64).toArray) (.build bld_40 rfl rfl) rfl) (.al zero_40 fun b5 => ?_)
 refine .sa sz_40 ?_
 refine .nil (.tn (.seq (.region ?_)))
 refine .w (.fieldAddr fa_120_0 rfl) (.w (.as (v' := .agg ((wd p.N).map u64).toArray) (.lda agg_40 rfl) (by rfl)) (.w (.lda agg_40 rfl) (.c (f195_spec p.N 1 hN (by decide)) body_195 ?_)))
 refine .w (.move rfl) (.w (.as (v' := .agg ((wd (p.N - 1)).map u64).toArray) (.extract rfl rfl) (by rw [← sub_one (by omega) hN]; rfl)) (.w (.extract rfl rfl) (.al zero_40 fun b6 => ?_)))
 refine .sa sz_40 ?_
 refine .w (.assign rfl) ?_
 refine .nil (.tn (.seq (.region ?_)))
 refine .w (.fieldAddr fa_120_0 rfl) (.w (.as (v' := .agg ((wd p.N).map u64).toArray) (.lda agg_40 rfl) (by rfl)) (.cb (f110_spec p.N hN (by omega) gO) body_110 ?_ (h0 := by rintro _ _ _ ⟨_, _, h, _⟩; exact h)))
 rintro _ _ ⟨px, rfl, _, rfl⟩
 refine .ap ?_
 refine .w (.move rfl) (.w (.extract rfl rfl) (.w (.extract rfl rfl) (.w (.assign rfl) (.w (.assign rfl) ?_))))
 refine .nil (.tn (.seq (.seq ?_)))
 refine JC.draw (.one 0 (.one 1 (.one 2 (.one 3 (.one 4 (.one 5 (.one 6 (.one 7 (.one 8 (.one 9 (.one 10 (.one 11 (.one 13 (.one 12 (.one 14 (.one 15 .nil)))))))))))))))) (fun i => ([] : List Nat).contains i) (fun i => ([12] : List Nat).contains i) (fun i => ([0, 1, 2, 5, 6, 7, 8, 9, 14, 15] : List Nat).contains i) mixed (by kernel_rfl) (by decide) (by kernel_rfl) ?_
 refine .uw rfl (.move rfl) (.uw rfl (.as (v' := .bool false) (.bin rfl rfl BinR.neq_i) rfl) (.uw rfl (.move rfl) ?_))
 refine JR.vgt (g := 40) rfl rfl rfl rfl rfl rfl (.lda agg_40 rfl) (by decide) ?_
 refine JR.vgt (g := 40) rfl rfl rfl rfl rfl rfl (.lda agg_40 rfl) (by decide) ?_
 refine JR.ugt (g := 40) rfl rfl rfl rfl rfl rfl (.as (v' := .bool false) (.bin rfl rfl (neq_nat wd_len' wd_len')) (congrArg Value.bool (by simp))) (by decide) ?_
 refine JR.u rfl rfl rfl (Yv.pick0 rfl rfl rfl) (by decide) (.uw rfl (.move rfl) ?_)
 refine JR.ugt (g := 45) rfl rfl rfl rfl rfl rfl (.move rfl) (by decide) ?_
 refine JR.ugt (g := 45) rfl rfl rfl rfl rfl rfl (.fieldAddr fa_120_1 rfl) (by decide) ?_
 refine JR.vgt (g := 45) rfl rfl rfl rfl rfl rfl (.as (v' := .agg ((wd p.G).map u64).toArray) (.lda agg_40 rfl) (by rfl)) (by decide) ?_
 refine JR.vgt (g := 45) rfl rfl rfl rfl rfl rfl (.lda agg_40 rfl) (by decide) ?_
 refine JR.vgt (g := 45) rfl rfl rfl rfl rfl rfl (.lda agg_40 rfl) (by decide) ?_
 refine JR.mgt (g := 45) rfl rfl rfl rfl rfl (.c (f111_spec px p.N hN (by omega) gO p.G (p.N - 1) hG (Nat.lt_of_le_of_lt (Nat.sub_le _ _) hN)) body_111) (by decide) ?_
 rintro _ _ _ ⟨rfl, rfl, rfl⟩
 rw [gpw]
 refine kp ?_
 refine JR.ugt (g := 45) rfl rfl rfl rfl rfl rfl (.as (v' := .bool false) (.bin rfl rfl (neq_nat wd_len' wd_len')) (congrArg Value.bool (by simp))) (by decide) ?_
 refine JR.u rfl rfl rfl (Yv.pick0 rfl rfl rfl) (by decide) ?_
 refine .nil (.tn ?_)
 refine .cf rfl ?_
 refine .skip (.tn (.seq (.seq (.region ?_))))
 refine .w (.fieldAddr fa_120_2 rfl) (.w (.ld one_118 rfl) (.w (.len Tryz.underlying118 rfl) (.w (.move rfl) ?_)))
 refine .nil (.tn (.block ?_))
 refine .lp (ι := Nat) (fun x => x ≤ p.fs.length) (fun T x => (57, it (x : Int)) :: T) (fun T _ => T) (fun T _ => T) (fun x => p.fs.length - x) 0 [1, 5, 6, 8, 55, 56] ?_ (fun x hx => ?_)
 ·exact Nat.zero_le _
 obtain ⟨k, hk⟩ : ∃ k, k = x := ⟨_, rfl⟩
 subst hk
 refine .seq (.region ?_)
 refine .w (.bin rfl rfl BinR.lss_i) ?_
 refine .nil (.tn (.seq ?_))
 refine .cn rfl (fun hc3 => ?_) (fun hc3 => ?_)
 ·have hf := gF _ (fz_mem (l := p.fs) (k := k) (by omega))
  have hne := gne _ (fz_mem (l := p.fs) (k := k) (by omega))
  refine .skip (.tn (.seq (.block (.seq (.region ?_)))))
  refine .w (.ix Tryz.underlying118 sz_117 rfl rfl) (.w (.as (v' := .agg (facC (p.fs.getD k FZ)).toArray) (.lda agg_117 rfl (hm := by first | exact AM.own zq5 (by rw [bks_len]; omega) | exact AM.ro zq5 (by rw [bks_len]; omega) | exact AM.ownAt zq5 (by rw [bks_len]; omega) | exact AM.rd zq8 (by rw [bks_len]; omega) | exact AM.row zq7 (by rw [bks_len]; omega))) (congrArg (fun l : List Value => Value.agg l.toArray) (bks_piece (f := facC) FZ (by omega)))) (.al zero_117 fun b11 => ?_))
  refine .sa sz_117 ?_ (h1 := (FS.one (f := facC) _))
  refine .nil (.tn (.seq (.seq (.region ?_))))
  refine .w (.fieldAddr fa_117_0 rfl) (.w (.as (v' := .agg ((wd (p.fs.getD k FZ).1).map u64).toArray) (.lda agg_40 rfl) (by rfl)) (.w (.as (v' := .agg ((wd 2).map u64).toArray) (.lda agg_40 rfl) rfl) (.c (f52_spec (p.fs.getD k FZ).1 2 hf.1.2.2.2 (by decide)) body_52 ?_)))
  refine .w (.as (v' := .bool false) (.bin rfl rfl BinR.lss_i) (congrArg Value.bool (decide_eq_false (by rw [cmp_lt]; have := hf.2; omega)))) ?_
  refine .nil (.tn ?_)
  refine .cf rfl ?_
  refine .skip (.tn (.seq (.region ?_)))
  refine .w (.lda agg_40 rfl) (.w (.fieldAddr fa_117_0 rfl) (.w (.as (v' := .agg ((wd (p.fs.getD k FZ).1).map u64).toArray) (.lda agg_40 rfl) (by rfl)) (.c (f113_spec (p.N - 1) (p.fs.getD k FZ).1 (Nat.lt_of_le_of_lt (Nat.sub_le _ _) hN) hf.1.2.2.2) body_113 ?_)))
  refine .w (.move rfl) (.w (.as (v' := .agg ((wd ((p.N - 1) / (p.fs.getD k FZ).1)).map u64).toArray) (.extract rfl rfl) rfl) (.w (.as (v' := .agg ((wd (remF (p.N - 1) (p.fs.getD k FZ).1)).map u64).toArray) (.extract rfl rfl) rfl) (.w (.as (v' := it 0) (.extract rfl rfl) (congrArg it (if_neg (by have := hf.2; omega)))) (.al zero_40 fun b12 => ?_))))
  refine .al zero_40 fun b13 => ?_
  refine .sa sz_40 ?_
  refine .sa sz_40 ?_
  refine .w (.assign rfl) ?_
  refine .nil (.tn (.seq ?_))
  refine JC.draw (.one 0 (.one 1 (.one 2 (.one 3 (.one 5 (.one 4 (.one 6 .nil))))))) (fun i => ([] : List Nat).contains i) (fun i => ([4] : List Nat).contains i) (fun i => ([0, 1, 6] : List Nat).contains i) mixed (by kernel_rfl) (by decide) (by kernel_rfl) ?_
  refine .uw rfl (.move rfl) (.uw rfl (.fieldAddr fa_120_1 rfl) (.w rfl (.as (v' := .agg ((wd p.G).map u64).toArray) (.lda agg_40 rfl) (by rfl)) (.w rfl (.lda agg_40 rfl) (.w rfl (.lda agg_40 rfl) ?_))))
  refine .mw rfl (.c (f111_spec px p.N hN (by omega) gO p.G ((p.N - 1) / (p.fs.getD k FZ).1) hG (Nat.lt_of_le_of_lt (Nat.div_le_self _ _) (Nat.lt_of_le_of_lt (Nat.sub_le _ _) hN))) body_111) ?_
  rintro _ _ _ ⟨rfl, rfl, rfl⟩
  refine kp ?_
  refine .uw rfl (.as (v' := .bool false) (.bin rfl rfl (eql_nat wd_len' wd_len')) (congrArg Value.bool (decide_eq_false (by rw [wd_eq (Nat.lt_trans (Nat.mod_lt _ (by omega)) hN) (by decide)]; exact hne)))) ?_
  refine .nil (.tn ?_)
  refine .cf rfl ?_
  refine .skip (.block_normal (.tn (.region ?_)))
  refine .w (.asI ((k + 1 : Nat) : Int) (.bin rfl rfl (BinR.add_i zq3))) (.w (.move rfl) (.nil ?_))
  refine .hd (k + 1) ?_
  exact ⟨by omega, by omega⟩
 ·skip
  refine .exit (.then_exit (.then_exit (.block_exit (.tn (.seq (.region ?_))))))
  refine .w (.assign rfl) ?_
  refine .nil (.tn (.ret ?_))
  exact .dn [] [] (res1 rfl (.tmp rfl)) ⟨rfl, rfl, rfl⟩
end Go.Proofs.YtmhiapebljfebaaGreatDoor
