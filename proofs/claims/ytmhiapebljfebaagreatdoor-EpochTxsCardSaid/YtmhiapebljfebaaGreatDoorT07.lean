/- Texts of ours, gathered: MA MB MC PA PB PC PD. -/
import Derived.Test.YtmhiapebljfebaaGreatDoorT06
/- Walks: a Mod is made ready; a row; below; less; sums and differences. -/
namespace Go.Proofs.YtmhiapebljfebaaGreatDoor
open Go.RowKit
set_option maxRecDepth 100000
set_option linter.unusedVariables false
set_option linter.unusedSimpArgs false
theorem f189_spec (p m : Nat) (hm : m < 115792089237316195423570985008687907853269984665640564039457584007913129639936) (h0 : 0 < m) (d : Bool) :
  Spec Tryz.prog 189 #[(ptr p 0)] [] [cMod p (modC m d)]
   (fun r Γ' H' => r = .tuple #[] ∧ Γ' = [] ∧ H' = [cMod p (modC m true)]) := by
 refine Spec.of_args Tryz.func189 rfl Tryz.ntmps189 (by simp) fun w => ?_
 refine .seq (.region ?_)
 refine .bx fun b1 => ?_
 refine .nil (.tn (.region ?_))
 refine .w (.ld one_91 rfl) (.w (.nilCheck rfl) (.w (.fieldAddr fa_179_1 rfl) (.w (.makeFunc rfl rfl) (.cb (do_spec p b1 m hm h0 d) body_210 ?_))))
 rintro _ _ ⟨rfl, _, rfl⟩
 refine .ap ?_
 refine .nil ?_
 exact .dn [] [cMod p (modC m true)] (res_none rfl) ⟨rfl, rfl, rfl⟩

theorem f191_spec (q : Nat) (ts : List W64) (hts : ts.length = 6) (x0 : W64) (b : Nat) (hb : b < 115792089237316195423570985008687907853269984665640564039457584007913129639936) (hlt : val ts + x0.toNat * b < 39402006196394479212279040100143613805079739270465446667948293404245721771497210611414266254884915640806627990306816) :
  Spec Tryz.prog 191 #[(ptr q 0), (u64 x0), (.agg ((wd b).map u64).toArray)] [] [Res.cells q (ts.map u64) 262]
   (fun r Γ' H' => ∃ us : List W64, us.length = 6 ∧ val us = val ts + x0.toNat * b ∧ r = .tuple #[] ∧ Γ' = [] ∧ H' = [Res.cells q (us.map u64) 262]) := by
 refine Spec.of_args Tryz.func191 rfl Tryz.ntmps191 (by simp) fun w => ?_
 refine .seq (.region ?_)
 refine .bx fun b5 => ?_
 refine .nil (.tn (.seq (.region ?_)))
 refine .w (.assign rfl) ?_
 refine .nil (.tn (.seq (.seq (.region ?_))))
 refine .w (.lda agg_40 rfl) (.w (.move rfl) ?_)
 refine .nil (.tn (.block ?_))
 refine .lp (ι := Nat × W64 × List W64) (fun x => x.1 ≤ 4 ∧ RowI ts x0 b x.1 x.2.1 x.2.2) (fun T x => (14, it (x.1 : Int)) :: (6, u64 x.2.1) :: T) (fun T _ => T) (fun T x => Res.cells q (x.2.2.map u64) 262 :: T) (fun x => 4 - x.1) (0, 0, ts) [0, 1, 12, 13, 51, 52, 53, 54, 55, 56, 57, 58, 59, 60, 61, 62, 63, 64, 65, 66, 67, 68, 69, 70] ?_ (fun x hx => ?_)
 ·exact ⟨Nat.zero_le _, RowI.start x0 b hts⟩
 obtain ⟨j, c, us⟩ := x
 obtain ⟨hj, hI⟩ := hx
 dsimp only at hj hI ⊢
 have hu6 := hI.1
 refine .seq (.region ?_)
 refine .w (.bin rfl rfl BinR.lss_i) ?_
 refine .nil (.tn (.seq ?_))
 refine .cn rfl (fun hc1 => ?_) (fun hc1 => ?_)
 ·skip
  refine .skip (.tn (.seq (.block (.seq (.region ?_)))))
  refine .w (.move rfl) (.w (.as (v' := u64 (wat b j)) (.indexAgg Tryz.underlying40 Tryz.underlying22 sz_22 rfl rfl zq5 (by first | rfl | exact gm (d := 0) zq16)) rfl) (.w (.assign rfl) (.w (.assign rfl) ?_)))
  refine .nil (.tn (.seq (.region ?_)))
  refine .w (.move rfl) (.w (.move rfl) (.c (f165_spec x0 (wat b j)) body_165 ?_))
  refine .w (.move rfl) (.w (.as (v' := u64 (BitVec.ofNat 64 (x0.toNat * (wat b j).toNat / 18446744073709551616))) (.extract rfl rfl) rfl) (.w (.as (v' := u64 (x0 * wat b j)) (.extract rfl rfl) rfl) (.w (.assign rfl) (.w (.assign rfl) ?_))))
  refine .nil (.tn (.seq (.region ?_)))
  refine .w (.assign rfl) ?_
  refine .nil (.tn (.seq (.region ?_)))
  refine .w (.move rfl) (.w (.move rfl) (.w (.move rfl) (.w (.nilCheck rfl) (.w (.ixA Tryz.underlying262 sz_22 rfl rfl) (.w (.ld one_22 rfl (hj := by exact gm (d := 0) (by omega))) (.w (.ext rfl (ext_193 _ _ 0#64 (by decide))) ?_))))))
  refine .w (.move rfl) (.w (.as (v' := u64 (x0 * wat b j + (us.getD j 0) + 0#64)) (.extract rfl rfl) rfl) (.w (.as (v' := u64 (BitVec.ofNat 64 (((x0 * wat b j).toNat + (us.getD j 0).toNat + (0#64).toNat) / 18446744073709551616))) (.extract rfl rfl) rfl) (.w (.assign rfl) (.w (.assign rfl) ?_))))
  refine .nil (.tn (.seq (.region ?_)))
  refine .w (.move rfl) (.w (.move rfl) (.w (.bin rfl rfl (BinR.add_u64)) (.w (.assign rfl) ?_)))
  refine .nil (.tn (.seq ?_))
  refine JC.draw (.one 0 (.one 1 (.one 2 (.one 3 (.one 4 (.one 5 (.one 6 (.one 7 (.one 8 (.one 9 (.one 10 (.one 11 .nil)))))))))))) (fun i => ([10] : List Nat).contains i) (fun i => ([10] : List Nat).contains i) (fun i => ([0, 1, 2, 3, 4, 5, 6, 7, 8, 9, 11] : List Nat).contains i) mixed (by kernel_rfl) (by decide) (by kernel_rfl) ?_
  refine .uw rfl (.move rfl) (.uw rfl (.move rfl) (.uw rfl (.move rfl) (.uw rfl (.move rfl) (.uw rfl (.ext rfl (ext_193 _ _ 0#64 (by decide))) (.uw rfl (.move rfl) (.uw rfl (.as (v' := u64 (mlo x0 (wat b j) (us.getD j 0) c)) (.extract rfl rfl) (congrArg u64 (mlo_eq _ _ _ _))) ?_))))))
  refine .uw rfl (.as (v' := u64 (BitVec.ofNat 64 (((x0 * wat b j + (us.getD j 0) + 0#64).toNat + c.toNat + (0#64).toNat) / 18446744073709551616))) (.extract rfl rfl) rfl) (.uw rfl (.nilCheck rfl) (.uw rfl (.ixA Tryz.underlying262 sz_22 rfl rfl) ?_))
  first | refine .mw0 rfl (.s1 sz_22) ?_ | refine .mw0 rfl (.sr1 sz_22) ?_
  rintro _ _ _ ⟨rfl, rfl⟩
  refine kp ?_
  refine .uw rfl (.assign rfl) ?_
  refine .nil (.tn (.region ?_))
  refine .w (.move rfl) (.w (.move rfl) (.w (.as (v' := u64 (mhi x0 (wat b j) (us.getD j 0) c)) (.bin rfl rfl (BinR.add_u64)) (congrArg u64 (mhi_eq _ _ _ _))) (.w (.assign rfl) ?_)))
  refine .nil (.block_normal (.tn (.region ?_)))
  refine .w (.asI ((j + 1 : Nat) : Int) (.bin rfl rfl (BinR.add_i (by first | (constructor <;> omega) | (constructor <;> simp <;> omega))))) (.w (.move rfl) (.nil ?_))
  rw [← List.map_set]
  refine .hd (j + 1, (mhi x0 (wat b j) (us.getD j 0) c), us.set j (mlo x0 (wat b j) (us.getD j 0) c)) ?_
  exact ⟨⟨by dsimp only; omega, hI.step (by omega)⟩, by dsimp only; omega⟩
 ·obtain rfl : j = 4 := by omega
  have hfin := hI.last hb hlt
  refine .exit (.then_exit (.then_exit (.block_exit (.tn (.seq (.region ?_))))))
  refine .w (.assign rfl) ?_
  refine .nil (.tn (.seq ?_))
  refine JC.draw (.one 0 (.one 1 (.one 2 (.one 3 (.one 4 (.one 5 (.one 6 (.one 7 (.one 8 (.one 9 (.one 10 (.one 11 (.one 12 (.one 13 .nil)))))))))))))) (fun i => ([12] : List Nat).contains i) (fun i => ([12] : List Nat).contains i) (fun i => ([0, 1, 2, 3, 5, 6, 7, 8, 9, 10, 11, 13] : List Nat).contains i) mixed (by kernel_rfl) (by decide) (by kernel_rfl) ?_
  refine .uw rfl (.move rfl) (.uw rfl (.move rfl) (.uw rfl (.nilCheck rfl) (.uw rfl (.ixA (j := 4) Tryz.underlying262 sz_22 rfl rfl) (.w rfl (.ld one_22 rfl (hj := by exact gm (d := 0) (by omega))) (.uw rfl (.move rfl) (.uw rfl (.ext rfl (ext_193 _ _ 0#64 (by decide))) ?_))))))
  refine .uw rfl (.move rfl) (.uw rfl (.as (v' := u64 (us.getD 4 0 + c + 0#64)) (.extract rfl rfl) rfl) (.uw rfl (.as (v' := u64 (BitVec.ofNat 64 (((us.getD 4 0).toNat + c.toNat + (0#64).toNat) / 18446744073709551616))) (.extract rfl rfl) rfl) (.uw rfl (.nilCheck rfl) (.uw rfl (.ixA (j := 4) Tryz.underlying262 sz_22 rfl rfl) ?_))))
  first | refine .mw0 rfl (.s1 sz_22) ?_ | refine .mw0 rfl (.sr1 sz_22) ?_
  rintro _ _ _ ⟨rfl, rfl⟩
  refine kp ?_
  refine .uw rfl (.assign rfl) ?_
  refine .nil (.tn ?_)
  refine JC.draw (.one 0 (.one 1 (.one 2 (.one 3 (.one 4 (.one 5 (.one 6 (.one 7 (.one 8 .nil))))))))) (fun i => ([8] : List Nat).contains i) (fun i => ([8] : List Nat).contains i) (fun i => ([0, 1, 2, 4, 5, 6, 7] : List Nat).contains i) mixed (by kernel_rfl) (by decide) (by kernel_rfl) ?_
  refine .uw rfl (.move rfl) (.uw rfl (.nilCheck rfl) (.uw rfl (.ixA (j := 5) Tryz.underlying262 sz_22 rfl rfl) (.w rfl (.ld one_22 rfl (hj := by rw [List.getElem?_set_ne (by decide)]; exact gm (d := 0) (by omega))) (.uw rfl (.move rfl) (.uw rfl (.as (v' := u64 (us.getD 5 0 + BitVec.ofNat 64 (((us.getD 4 0).toNat + c.toNat + (0#64).toNat) / 18446744073709551616))) (.bin rfl rfl (BinR.add_u64)) rfl) (.uw rfl (.nilCheck rfl) ?_))))))
  refine .uw rfl (.ixA (j := 5) Tryz.underlying262 sz_22 rfl rfl) ?_
  first | refine .mw0 rfl (.s1 sz_22) ?_ | refine .mw0 rfl (.sr1 sz_22) ?_
  rintro _ _ _ ⟨rfl, rfl⟩
  refine kp ?_
  refine .nil ?_
  rw [rowE_map]
  exact .dn [] [Res.cells q ((rowE us c).map u64) 262] (res_none rfl) ⟨rowE us c, hfin.1, hfin.2, rfl, rfl, rfl⟩

theorem f190_spec (p m : Nat) (hm : m < 115792089237316195423570985008687907853269984665640564039457584007913129639936) (h1 : 1 < m) (dn st : Int) (mi : W64) (sq : Nat) (a : Nat) (ha : a < 115792089237316195423570985008687907853269984665640564039457584007913129639936) :
  Spec Tryz.prog 190 #[(ptr p 0), (.agg ((wd a).map u64).toArray)] [Res.cells p (modX m dn st mi sq) 179] []
   (fun r Γ' H' => r = (.agg ((wd (a % m)).map u64).toArray) ∧ Γ' = [] ∧ H' = []) := by
 refine Spec.of_args Tryz.func190 rfl Tryz.ntmps190 (by simp) fun w => ?_
 refine .seq (.region ?_)
 refine .bx fun b3 => ?_
 refine .al zero_40 fun b4 => ?_
 refine .nil (.tn (.seq (.seq ?_)))
 refine JC.draw (.one 0 (.one 1 (.one 2 (.one 3 (.one 4 (.one 5 (.one 6 .nil))))))) (fun i => ([5] : List Nat).contains i) (fun i => ([5] : List Nat).contains i) (fun i => ([1, 2, 3, 6] : List Nat).contains i) mixed (by kernel_rfl) (by decide) (by kernel_rfl) ?_
 refine .w rfl (.lda agg_40 rfl) (.uw rfl (.move rfl) (.uw rfl (.nilCheck rfl) (.uw rfl (.fieldAddr fa_179_0 rfl) (.w rfl (.as (v' := .agg ((wd m).map u64).toArray) (.lda agg_40 rfl) (by rfl)) ?_))))
 refine .mw rfl (.c (f52_spec a m ha hm) body_52) ?_
 rintro _ _ _ ⟨rfl, rfl, rfl⟩
 refine kp ?_
 refine .uw rfl (.as (v' := .bool (decide (a < m))) (.bin rfl rfl BinR.lss_i) (congrArg Value.bool (decide_eq_decide.2 (cmp_lt _ _)))) ?_
 refine .nil (.tn ?_)
 refine .cn rfl (fun hc1 => ?_) (fun hc1 => ?_)
 ·skip
  refine .seq (.region ?_)
  refine .w (.lda agg_40 rfl) ?_
  first | refine .sa sz_40 ?_ | refine .so sz_40 ?_ | refine .sr sz_40 ?_
  refine .nil (.tn (.ret (.then_ret ?_)))
  exact .dn [] [] (res1 rfl (.cl agg_40)) ⟨by first | rfl | (rw [Nat.mod_eq_of_lt hc1]; rfl), rfl, rfl⟩
 ·skip
  refine .skip (.tn (.seq ?_))
  refine JC.draw (.one 0 (.one 1 (.one 2 (.one 3 (.one 4 (.alt 5 (.one 6 (.one 7 (.one 8 (.one 9 (.alt 10 (.one 11 (.one 12 (.one 13 (.one 14 .nil)))) (.alt 11 (.one 10 (.one 12 (.one 13 (.one 14 .nil)))) .nil)))))) (.alt 10 (.alt 5 (.one 6 (.one 7 (.one 8 (.one 9 (.one 11 (.one 12 (.one 13 (.one 14 .nil)))))))) (.alt 11 (.one 5 (.one 6 (.one 7 (.one 8 (.one 9 (.one 12 (.one 13 (.one 14 .nil)))))))) .nil)) (.alt 11 (.alt 5 (.one 6 (.one 7 (.one 8 (.one 9 (.one 10 (.one 12 (.one 13 (.one 14 .nil)))))))) (.alt 10 (.one 5 (.one 6 (.one 7 (.one 8 (.one 9 (.one 12 (.one 13 (.one 14 .nil)))))))) .nil)) .nil)))))))) (fun i => ([12, 13] : List Nat).contains i) (fun i => ([5, 10, 11, 12, 13] : List Nat).contains i) (fun i => ([1, 2, 3, 6, 7, 8, 9, 14] : List Nat).contains i) mixed (by kernel_rfl) (by decide) (by kernel_rfl) ?_
  refine .w rfl (.lda agg_40 rfl) (.uw rfl (.move rfl) (.uw rfl (.nilCheck rfl) (.uw rfl (.fieldAddr fa_179_0 rfl) (.w rfl (.as (v' := .agg ((wd m).map u64).toArray) (.lda agg_40 rfl) (by rfl)) ?_))))
  refine JR.alt rfl ?_ ?_
  ·refine .mw rfl (.c (f113_spec a m ha hm) body_113) ?_
   rintro _ _ _ ⟨rfl, rfl, rfl⟩
   refine kp ?_
   refine .uw rfl (.move rfl) (.uw rfl (.as (v' := .agg ((wd (a / m)).map u64).toArray) (.extract rfl rfl) rfl) (.uw rfl (.as (v' := .agg ((wd (a % m)).map u64).toArray) (.extract rfl rfl) (by rw [show remF a m = a % m from if_neg (by omega)]; rfl)) (.uw rfl (.as (v' := it 0) (.extract rfl rfl) (congrArg it (if_neg (by omega)))) ?_)))
   refine JR.alt rfl ?_ ?_
   ·refine .mw rfl (Mv.alloc zero_40) ?_
    rintro _ _ _ ⟨b5, rfl, rfl, rfl⟩
    refine kp ?_
    refine .mw rfl (Mv.alloc zero_40) ?_
    rintro _ _ _ ⟨b6, rfl, rfl, rfl⟩
    refine kp ?_
    first | refine .mw0 rfl (.sa sz_40) ?_ | refine .mw0 rfl (.so sz_40) ?_ | refine .mw0 rfl (.sr sz_40) ?_
    rintro _ _ _ ⟨rfl, rfl⟩
    refine kp ?_
    first | refine .mw0 rfl (.sa sz_40) ?_ | refine .mw0 rfl (.so sz_40) ?_ | refine .mw0 rfl (.sr sz_40) ?_
    rintro _ _ _ ⟨rfl, rfl⟩
    refine kp ?_
    refine .uw rfl (.assign rfl) ?_
    refine .nil (.tn (.seq (.region ?_)))
    refine .w (.lda agg_40 rfl) ?_
    first | refine .sa sz_40 ?_ | refine .so sz_40 ?_ | refine .sr sz_40 ?_
    refine .nil (.tn (.ret ?_))
    exact .dn [] [] (res1 rfl (.cl agg_40)) ⟨by first | rfl | (rw [Nat.mod_eq_of_lt hc1]; rfl), rfl, rfl⟩
   refine JA.alt rfl ?_ ?_
   ·refine .mw rfl (Mv.alloc zero_40) ?_
    rintro _ _ _ ⟨b6, rfl, rfl, rfl⟩
    refine kp ?_
    refine .mw rfl (Mv.alloc zero_40) ?_
    rintro _ _ _ ⟨b5, rfl, rfl, rfl⟩
    refine kp ?_
    first | refine .mw0 rfl (.sa sz_40) ?_ | refine .mw0 rfl (.so sz_40) ?_ | refine .mw0 rfl (.sr sz_40) ?_
    rintro _ _ _ ⟨rfl, rfl⟩
    refine kp ?_
    first | refine .mw0 rfl (.sa sz_40) ?_ | refine .mw0 rfl (.so sz_40) ?_ | refine .mw0 rfl (.sr sz_40) ?_
    rintro _ _ _ ⟨rfl, rfl⟩
    refine kp ?_
    refine .uw rfl (.assign rfl) ?_
    refine .nil (.tn (.seq (.region ?_)))
    refine .w (.lda agg_40 rfl) ?_
    first | refine .sa sz_40 ?_ | refine .so sz_40 ?_ | refine .sr sz_40 ?_
    refine .nil (.tn (.ret ?_))
    exact .dn [] [] (res1 rfl (.cl agg_40)) ⟨by first | rfl | (rw [Nat.mod_eq_of_lt hc1]; rfl), rfl, rfl⟩
   exact JA.nil
  refine JA.alt rfl ?_ ?_
  ·refine .mw rfl (Mv.alloc zero_40) ?_
   rintro _ _ _ ⟨b5, rfl, rfl, rfl⟩
   refine kp ?_
   refine JR.alt rfl ?_ ?_
   ·refine .mw rfl (.c (f113_spec a m ha hm) body_113) ?_
    rintro _ _ _ ⟨rfl, rfl, rfl⟩
    refine kp ?_
    refine .uw rfl (.move rfl) (.uw rfl (.as (v' := .agg ((wd (a / m)).map u64).toArray) (.extract rfl rfl) rfl) (.uw rfl (.as (v' := .agg ((wd (a % m)).map u64).toArray) (.extract rfl rfl) (by rw [show remF a m = a % m from if_neg (by omega)]; rfl)) (.uw rfl (.as (v' := it 0) (.extract rfl rfl) (congrArg it (if_neg (by omega)))) ?_)))
    refine .mw rfl (Mv.alloc zero_40) ?_
    rintro _ _ _ ⟨b6, rfl, rfl, rfl⟩
    refine kp ?_
    first | refine .mw0 rfl (.sa sz_40) ?_ | refine .mw0 rfl (.so sz_40) ?_ | refine .mw0 rfl (.sr sz_40) ?_
    rintro _ _ _ ⟨rfl, rfl⟩
    refine kp ?_
    first | refine .mw0 rfl (.sa sz_40) ?_ | refine .mw0 rfl (.so sz_40) ?_ | refine .mw0 rfl (.sr sz_40) ?_
    rintro _ _ _ ⟨rfl, rfl⟩
    refine kp ?_
    refine .uw rfl (.assign rfl) ?_
    refine .nil (.tn (.seq (.region ?_)))
    refine .w (.lda agg_40 rfl) ?_
    first | refine .sa sz_40 ?_ | refine .so sz_40 ?_ | refine .sr sz_40 ?_
    refine .nil (.tn (.ret ?_))
    exact .dn [] [] (res1 rfl (.cl agg_40)) ⟨by first | rfl | (rw [Nat.mod_eq_of_lt hc1]; rfl), rfl, rfl⟩
   refine JA.alt rfl ?_ ?_
   ·refine .mw rfl (Mv.alloc zero_40) ?_
    rintro _ _ _ ⟨b6, rfl, rfl, rfl⟩
    refine kp ?_
    refine .mw rfl (.c (f113_spec a m ha hm) body_113) ?_
    rintro _ _ _ ⟨rfl, rfl, rfl⟩
    refine kp ?_
    refine .uw rfl (.move rfl) (.uw rfl (.as (v' := .agg ((wd (a / m)).map u64).toArray) (.extract rfl rfl) rfl) (.uw rfl (.as (v' := .agg ((wd (a % m)).map u64).toArray) (.extract rfl rfl) (by rw [show remF a m = a % m from if_neg (by omega)]; rfl)) (.uw rfl (.as (v' := it 0) (.extract rfl rfl) (congrArg it (if_neg (by omega)))) ?_)))
    first | refine .mw0 rfl (.sa sz_40) ?_ | refine .mw0 rfl (.so sz_40) ?_ | refine .mw0 rfl (.sr sz_40) ?_
    rintro _ _ _ ⟨rfl, rfl⟩
    refine kp ?_
    first | refine .mw0 rfl (.sa sz_40) ?_ | refine .mw0 rfl (.so sz_40) ?_ | refine .mw0 rfl (.sr sz_40) ?_
    rintro _ _ _ ⟨rfl, rfl⟩
    refine kp ?_
    refine .uw rfl (.assign rfl) ?_
    refine .nil (.tn (.seq (.region ?_)))
    refine .w (.lda agg_40 rfl) ?_
    first | refine .sa sz_40 ?_ | refine .so sz_40 ?_ | refine .sr sz_40 ?_
    refine .nil (.tn (.ret ?_))
    exact .dn [] [] (res1 rfl (.cl agg_40)) ⟨by first | rfl | (rw [Nat.mod_eq_of_lt hc1]; rfl), rfl, rfl⟩
   exact JA.nil
  refine JA.alt rfl ?_ ?_
  ·refine .mw rfl (Mv.alloc zero_40) ?_
   rintro _ _ _ ⟨b6, rfl, rfl, rfl⟩
   refine kp ?_
   refine JR.alt rfl ?_ ?_
   ·refine .mw rfl (.c (f113_spec a m ha hm) body_113) ?_
    rintro _ _ _ ⟨rfl, rfl, rfl⟩
    refine kp ?_
    refine .uw rfl (.move rfl) (.uw rfl (.as (v' := .agg ((wd (a / m)).map u64).toArray) (.extract rfl rfl) rfl) (.uw rfl (.as (v' := .agg ((wd (a % m)).map u64).toArray) (.extract rfl rfl) (by rw [show remF a m = a % m from if_neg (by omega)]; rfl)) (.uw rfl (.as (v' := it 0) (.extract rfl rfl) (congrArg it (if_neg (by omega)))) ?_)))
    refine .mw rfl (Mv.alloc zero_40) ?_
    rintro _ _ _ ⟨b5, rfl, rfl, rfl⟩
    refine kp ?_
    first | refine .mw0 rfl (.sa sz_40) ?_ | refine .mw0 rfl (.so sz_40) ?_ | refine .mw0 rfl (.sr sz_40) ?_
    rintro _ _ _ ⟨rfl, rfl⟩
    refine kp ?_
    first | refine .mw0 rfl (.sa sz_40) ?_ | refine .mw0 rfl (.so sz_40) ?_ | refine .mw0 rfl (.sr sz_40) ?_
    rintro _ _ _ ⟨rfl, rfl⟩
    refine kp ?_
    refine .uw rfl (.assign rfl) ?_
    refine .nil (.tn (.seq (.region ?_)))
    refine .w (.lda agg_40 rfl) ?_
    first | refine .sa sz_40 ?_ | refine .so sz_40 ?_ | refine .sr sz_40 ?_
    refine .nil (.tn (.ret ?_))
    exact .dn [] [] (res1 rfl (.cl agg_40)) ⟨by first | rfl | (rw [Nat.mod_eq_of_lt hc1]; rfl), rfl, rfl⟩
   refine JA.alt rfl ?_ ?_
   ·refine .mw rfl (Mv.alloc zero_40) ?_
    rintro _ _ _ ⟨b5, rfl, rfl, rfl⟩
    refine kp ?_
    refine .mw rfl (.c (f113_spec a m ha hm) body_113) ?_
    rintro _ _ _ ⟨rfl, rfl, rfl⟩
    refine kp ?_
    refine .uw rfl (.move rfl) (.uw rfl (.as (v' := .agg ((wd (a / m)).map u64).toArray) (.extract rfl rfl) rfl) (.uw rfl (.as (v' := .agg ((wd (a % m)).map u64).toArray) (.extract rfl rfl) (by rw [show remF a m = a % m from if_neg (by omega)]; rfl)) (.uw rfl (.as (v' := it 0) (.extract rfl rfl) (congrArg it (if_neg (by omega)))) ?_)))
    first | refine .mw0 rfl (.sa sz_40) ?_ | refine .mw0 rfl (.so sz_40) ?_ | refine .mw0 rfl (.sr sz_40) ?_
    rintro _ _ _ ⟨rfl, rfl⟩
    refine kp ?_
    first | refine .mw0 rfl (.sa sz_40) ?_ | refine .mw0 rfl (.so sz_40) ?_ | refine .mw0 rfl (.sr sz_40) ?_
    rintro _ _ _ ⟨rfl, rfl⟩
    refine kp ?_
    refine .uw rfl (.assign rfl) ?_
    refine .nil (.tn (.seq (.region ?_)))
    refine .w (.lda agg_40 rfl) ?_
    first | refine .sa sz_40 ?_ | refine .so sz_40 ?_ | refine .sr sz_40 ?_
    refine .nil (.tn (.ret ?_))
    exact .dn [] [] (res1 rfl (.cl agg_40)) ⟨by first | rfl | (rw [Nat.mod_eq_of_lt hc1]; rfl), rfl, rfl⟩
   exact JA.nil
  exact JA.nil

theorem f192_spec (p m : Nat) (hm : m < 115792089237316195423570985008687907853269984665640564039457584007913129639936) (h1 : 1 < m) (dn st : Int) (mi : W64) (sq : Nat) (Z : Nat) (hZ : Z < 2 * m) :
  Spec Tryz.prog 192 #[(ptr p 0), (.agg ((wd Z).map u64).toArray), (u64 (BitVec.ofNat 64 (Z / 115792089237316195423570985008687907853269984665640564039457584007913129639936)))] [Res.cells p (modX m dn st mi sq) 179] []
   (fun r Γ' H' => r = (.agg ((wd (Z % m)).map u64).toArray) ∧ Γ' = [] ∧ H' = []) := by
 refine Spec.of_args Tryz.func192 rfl Tryz.ntmps192 (by simp) fun w => ?_
 rw [← wd_mod Z]
 refine .seq (.region ?_)
 refine .bx fun b4 => ?_
 refine .al zero_40 fun b6 => ?_
 refine .nil (.tn (.seq ?_))
 refine JC.draw (.one 0 (.one 1 (.one 2 (.one 3 (.one 4 (.alt 5 (.one 6 (.one 7 (.one 8 (.one 9 (.one 10 (.one 11 .nil)))))) (.alt 9 (.one 5 (.one 6 (.one 7 (.one 8 (.one 10 (.one 11 .nil)))))) .nil))))))) (fun i => ([10] : List Nat).contains i) (fun i => ([5, 9, 10] : List Nat).contains i) (fun i => ([1, 2, 3, 6, 7, 8, 11] : List Nat).contains i) mixed (by kernel_rfl) (by decide) (by kernel_rfl) ?_
 refine .w rfl (.lda agg_40 rfl) (.uw rfl (.move rfl) (.uw rfl (.nilCheck rfl) (.uw rfl (.fieldAddr fa_179_0 rfl) (.w rfl (.as (v' := .agg ((wd m).map u64).toArray) (.lda agg_40 rfl) (by rfl)) ?_))))
 refine JR.alt rfl ?_ ?_
 ·refine .mw rfl (.c (f195_spec (Z % 115792089237316195423570985008687907853269984665640564039457584007913129639936) m (Nat.mod_lt _ (by decide)) hm) body_195) ?_
  rintro _ _ _ ⟨rfl, rfl, rfl⟩
  refine kp ?_
  refine .uw rfl (.move rfl) (.uw rfl (.as (v' := .agg ((wd (115792089237316195423570985008687907853269984665640564039457584007913129639936 + Z % 115792089237316195423570985008687907853269984665640564039457584007913129639936 - m)).map u64).toArray) (.extract rfl rfl) rfl) (.uw rfl (.as (v' := u64 (if Z % 115792089237316195423570985008687907853269984665640564039457584007913129639936 < m then 1 else 0)) (.extract rfl rfl) rfl) ?_))
  refine .mw rfl (Mv.alloc zero_40) ?_
  rintro _ _ _ ⟨b7, rfl, rfl, rfl⟩
  refine kp ?_
  first | refine .mw0 rfl (.sa sz_40) ?_ | refine .mw0 rfl (.so sz_40) ?_ | refine .mw0 rfl (.sr sz_40) ?_
  rintro _ _ _ ⟨rfl, rfl⟩
  refine kp ?_
  refine .uw rfl (.assign rfl) ?_
  refine .nil (.tn (.seq (.seq (.region ?_))))
  refine .w (.move rfl) (.w (.as (v' := .bool (decide (Z < 115792089237316195423570985008687907853269984665640564039457584007913129639936))) (.bin rfl rfl (BinR.eql_u64 (b := 0#64))) (congrArg Value.bool (decide_eq_decide.2 (lt_top hZ hm)))) (.w (.move rfl) ?_))
  refine .join 3 23 (.bool (decide (Z < m))) ?_ ?_
  ·refine .gn (g := 19) rfl (fun hg18 hg18' => ?_) (fun hg18 hg18' => ?_)
   ·try simp only [BitVec.reduceToNat] at hg18'
    refine .gt (g := 20) rfl rfl hg18 ?_
    refine .w (.move rfl) ?_
    refine .gt (g := 20) rfl rfl hg18 ?_
    refine .w (.as (v' := .bool (decide (Z % 115792089237316195423570985008687907853269984665640564039457584007913129639936 < m))) (.bin rfl rfl (BinR.eql_u64 (b := 1#64))) (congrArg Value.bool (by split <;> simp_all))) (.w (.pick1 rfl hg18 rfl) (.nil ?_))
    refine .head () zq0 (fun _ h => h) (Picks.perm zq1) ?_
    trivial
   ·try simp only [BitVec.reduceToNat] at hg18'
    refine .gf (g := 20) rfl rfl hg18 (by decide) ?_
    refine .gf (g := 20) rfl rfl hg18 (by decide) ?_
    refine .w (.pick0 rfl hg18 rfl) (.nil ?_)
    refine .head () zq0 (fun _ h => h) (Picks.perm zq1) ?_
    trivial
  ·refine .nil (.tn ?_)
   refine .cn rfl (fun hc1 => ?_) (fun hc1 => ?_)
   ·skip
    refine .seq (.region ?_)
    refine .w (.lda agg_40 rfl) ?_
    first | refine .sa sz_40 ?_ | refine .so sz_40 ?_ | refine .sr sz_40 ?_
    refine .nil (.tn (.ret (.then_ret ?_)))
    exact .dn [] [] (res1 rfl (.cl agg_40)) ⟨by first | (rw [less_1 hc1, wd_mod]; try rfl) | (rw [less_2 (by omega) hZ hm]; try rfl), rfl, rfl⟩
   ·skip
    refine .skip (.tn (.seq (.region ?_)))
    refine .w (.lda agg_40 rfl) ?_
    first | refine .sa sz_40 ?_ | refine .so sz_40 ?_ | refine .sr sz_40 ?_
    refine .nil (.tn (.ret ?_))
    exact .dn [] [] (res1 rfl (.cl agg_40)) ⟨by first | (rw [less_1 hc1, wd_mod]; try rfl) | (rw [less_2 (by omega) hZ hm]; try rfl), rfl, rfl⟩
 refine JA.alt rfl ?_ ?_
 ·refine .mw rfl (Mv.alloc zero_40) ?_
  rintro _ _ _ ⟨b7, rfl, rfl, rfl⟩
  refine kp ?_
  refine .mw rfl (.c (f195_spec (Z % 115792089237316195423570985008687907853269984665640564039457584007913129639936) m (Nat.mod_lt _ (by decide)) hm) body_195) ?_
  rintro _ _ _ ⟨rfl, rfl, rfl⟩
  refine kp ?_
  refine .uw rfl (.move rfl) (.uw rfl (.as (v' := .agg ((wd (115792089237316195423570985008687907853269984665640564039457584007913129639936 + Z % 115792089237316195423570985008687907853269984665640564039457584007913129639936 - m)).map u64).toArray) (.extract rfl rfl) rfl) (.uw rfl (.as (v' := u64 (if Z % 115792089237316195423570985008687907853269984665640564039457584007913129639936 < m then 1 else 0)) (.extract rfl rfl) rfl) ?_))
  first | refine .mw0 rfl (.sa sz_40) ?_ | refine .mw0 rfl (.so sz_40) ?_ | refine .mw0 rfl (.sr sz_40) ?_
  rintro _ _ _ ⟨rfl, rfl⟩
  refine kp ?_
  refine .uw rfl (.assign rfl) ?_
  refine .nil (.tn (.seq (.seq (.region ?_))))
  refine .w (.move rfl) (.w (.as (v' := .bool (decide (Z < 115792089237316195423570985008687907853269984665640564039457584007913129639936))) (.bin rfl rfl (BinR.eql_u64 (b := 0#64))) (congrArg Value.bool (decide_eq_decide.2 (lt_top hZ hm)))) (.w (.move rfl) ?_))
  refine .join 3 23 (.bool (decide (Z < m))) ?_ ?_
  ·refine .gn (g := 19) rfl (fun hg18 hg18' => ?_) (fun hg18 hg18' => ?_)
   ·try simp only [BitVec.reduceToNat] at hg18'
    refine .gt (g := 20) rfl rfl hg18 ?_
    refine .w (.move rfl) ?_
    refine .gt (g := 20) rfl rfl hg18 ?_
    refine .w (.as (v' := .bool (decide (Z % 115792089237316195423570985008687907853269984665640564039457584007913129639936 < m))) (.bin rfl rfl (BinR.eql_u64 (b := 1#64))) (congrArg Value.bool (by split <;> simp_all))) (.w (.pick1 rfl hg18 rfl) (.nil ?_))
    refine .head () zq0 (fun _ h => h) (Picks.perm zq1) ?_
    trivial
   ·try simp only [BitVec.reduceToNat] at hg18'
    refine .gf (g := 20) rfl rfl hg18 (by decide) ?_
    refine .gf (g := 20) rfl rfl hg18 (by decide) ?_
    refine .w (.pick0 rfl hg18 rfl) (.nil ?_)
    refine .head () zq0 (fun _ h => h) (Picks.perm zq1) ?_
    trivial
  ·refine .nil (.tn ?_)
   refine .cn rfl (fun hc1 => ?_) (fun hc1 => ?_)
   ·skip
    refine .seq (.region ?_)
    refine .w (.lda agg_40 rfl) ?_
    first | refine .sa sz_40 ?_ | refine .so sz_40 ?_ | refine .sr sz_40 ?_
    refine .nil (.tn (.ret (.then_ret ?_)))
    exact .dn [] [] (res1 rfl (.cl agg_40)) ⟨by first | (rw [less_1 hc1, wd_mod]; try rfl) | (rw [less_2 (by omega) hZ hm]; try rfl), rfl, rfl⟩
   ·skip
    refine .skip (.tn (.seq (.region ?_)))
    refine .w (.lda agg_40 rfl) ?_
    first | refine .sa sz_40 ?_ | refine .so sz_40 ?_ | refine .sr sz_40 ?_
    refine .nil (.tn (.ret ?_))
    exact .dn [] [] (res1 rfl (.cl agg_40)) ⟨by first | (rw [less_1 hc1, wd_mod]; try rfl) | (rw [less_2 (by omega) hZ hm]; try rfl), rfl, rfl⟩
 exact JA.nil

theorem f54_spec (p m : Nat) :
  Spec Tryz.prog 54 #[(ptr p 0)] [Res.mod p m] []
   (fun r Γ' H' => r = (.agg ((wd m).map u64).toArray) ∧ Γ' = [] ∧ H' = []) := by
 refine Spec.of_args Tryz.func54 rfl Tryz.ntmps54 (by simp) fun w => ?_
 refine JC.modG (p := p) (m := m) zq7 fun d => ?_
 refine .seq (.region ?_)
 refine .al zero_40 fun b2 => ?_
 refine .nil (.tn (.seq (.region ?_)))
 refine .w (.move rfl) (.w (.nilCheck rfl) (.w (.fieldAddr fa_179_0 rfl) (.w (.as (v' := .agg ((wd m).map u64).toArray) (.lda agg_40 rfl) (by rfl)) ?_)))
 first | refine .sa sz_40 ?_ | refine .so sz_40 ?_ | refine .sr sz_40 ?_
 refine .nil (.tn (.ret ?_))
 exact .dn [] [] (res1 rfl (.cl agg_40)) ⟨rfl, rfl, rfl⟩

end Go.Proofs.YtmhiapebljfebaaGreatDoor

/- Walk: a product of images. -/
namespace Go.Proofs.YtmhiapebljfebaaGreatDoor
open Go.RowKit
set_option maxRecDepth 100000
set_option linter.unusedVariables false
set_option linter.unusedSimpArgs false
theorem f161d_spec (p m : Nat) (hm : m < 115792089237316195423570985008687907853269984665640564039457584007913129639936) (h1 : 1 < m) (ho : m % 2 = 1) (d : Bool) (a b : Nat) (ha : a < 115792089237316195423570985008687907853269984665640564039457584007913129639936) (hb : b < 115792089237316195423570985008687907853269984665640564039457584007913129639936) :
  Spec Tryz.prog 161 #[(ptr p 0), (.agg ((wd a).map u64).toArray), (.agg ((wd b).map u64).toArray)] [] [cMod p (modC m d)]
   (fun r Γ' H' => r = (.agg ((wd (mulM m a b)).map u64).toArray) ∧ Γ' = [] ∧ H' = [cMod p (modC m true)]) := by
 refine Spec.of_args Tryz.func161 rfl Tryz.ntmps161 (by simp) fun w => ?_
 refine .seq (.region ?_)
 refine .bx fun b4 => ?_
 refine .bx fun b5 => ?_
 refine .al zero_40 fun b6 => ?_
 refine .nil (.tn (.seq (.region ?_)))
 refine .w (.move rfl) (.c (f189_spec p m hm (by omega) d) body_189 ?_)
 refine .nil (.tn (.seq ?_))
 refine JC.draw (.one 0 (.one 1 (.one 3 (.one 4 (.one 2 (.one 5 (.one 6 (.one 7 .nil)))))))) (fun i => ([5, 6, 7] : List Nat).contains i) (fun i => ([2, 5, 6, 7] : List Nat).contains i) (fun i => ([0, 3] : List Nat).contains i) mixed (by kernel_rfl) (by decide) (by kernel_rfl) ?_
 refine .uw rfl (.move rfl) (.w rfl (.lda agg_40 rfl) (.uw rfl (.move rfl) (.w rfl (.lda agg_40 rfl) ?_)))
 refine .mw rfl (.c (f190_spec p m hm h1 1 0 (mnsM m) (sqM m) a ha) body_190) ?_
 rintro _ _ _ ⟨rfl, rfl, rfl⟩
 refine kp ?_
 refine .mw rfl (.c (f190_spec p m hm h1 1 0 (mnsM m) (sqM m) b hb) body_190) ?_
 rintro _ _ _ ⟨rfl, rfl, rfl⟩
 refine kp ?_
 first | refine .mw0 rfl (.sa sz_40) ?_ | refine .mw0 rfl (.so sz_40) ?_ | refine .mw0 rfl (.sr sz_40) ?_
 rintro _ _ _ ⟨rfl, rfl⟩
 refine kp ?_
 first | refine .mw0 rfl (.sa sz_40) ?_ | refine .mw0 rfl (.so sz_40) ?_ | refine .mw0 rfl (.sr sz_40) ?_
 rintro _ _ _ ⟨rfl, rfl⟩
 refine kp ?_
 refine .nil (.tn (.seq (.region ?_)))
 refine .al zero_262 fun b7 => ?_
 refine .nil (.tn (.seq (.seq (.region ?_))))
 refine .w (.lda agg_40 rfl) (.w (.move rfl) ?_)
 refine .nil (.tn (.block ?_))
 refine .lp (ι := Nat × List W64) (fun x => x.1 ≤ 4 ∧ MontI m (a % m) (b % m) x.1 x.2) (fun T x => (19, it (x.1 : Int)) :: T) (fun T _ => T) (fun T x => Res.cells b7 (x.2.map u64) 262 :: T) (fun x => 4 - x.1) (0, [0, 0, 0, 0, 0, 0]) [0, 5, 6, 7, 18, 42, 43, 44, 45, 46, 47, 48] ?_ (fun x hx => ?_)
 ·exact ⟨Nat.zero_le _, MontI.start (by omega) _ _⟩
 obtain ⟨i, ts⟩ := x
 obtain ⟨hi, hI⟩ := hx
 dsimp only at hi hI ⊢
 have hbm : b % m < m := Nat.mod_lt _ (by omega)
 refine .seq (.region ?_)
 refine .w (.bin rfl rfl BinR.lss_i) ?_
 refine .nil (.tn (.seq ?_))
 refine .cn rfl (fun hc1 => ?_) (fun hc1 => ?_)
 ·have hbig := hI.big hm hbm (wat (a % m) i)
  refine .skip (.tn (.seq (.block (.seq (.region ?_)))))
  refine .w (.indexAgg Tryz.underlying40 Tryz.underlying22 sz_22 rfl rfl zq5 (by first | rfl | exact gm (d := 0) zq16)) (.w (.assign rfl) ?_)
  refine .nil (.tn (.seq (.region ?_)))
  refine .w (.move rfl) (.w (.lda agg_40 rfl) (.cb (f191_spec b7 ts hI.1 (wat (a % m) i) (b % m) (Nat.lt_trans (Nat.mod_lt _ (by omega)) hm) (by have := hbig 0#64; rw [show (0#64).toNat = 0 from rfl] at this; omega)) body_191 ?_ (h0 := by rintro _ _ _ ⟨_, _, _, _, h, _⟩; exact h)))
  rintro _ _ ⟨us, hu1, hu, rfl, _, rfl⟩
  refine .ap ?_
  refine .nil (.tn (.seq ?_))
  refine JC.draw (.one 0 (.one 1 (.one 2 (.one 3 (.one 4 (.one 5 (.one 6 (.one 7 (.one 8 (.one 9 (.one 10 (.one 11 .nil)))))))))))) (fun i => ([11] : List Nat).contains i) (fun i => ([11] : List Nat).contains i) (fun i => ([0, 2, 3, 4, 6, 7, 8, 9] : List Nat).contains i) mixed (by kernel_rfl) (by decide) (by kernel_rfl) ?_
  refine .uw rfl (.ixA (j := 0) Tryz.underlying262 sz_22 rfl rfl) (.w rfl (.ld one_22 rfl (hj := by exact gm (d := 0) (by omega))) (.uw rfl (.move rfl) (.uw rfl (.nilCheck rfl) (.uw rfl (.fieldAddr fa_179_2 rfl) (.w rfl (.as (v' := u64 (mnsM m)) (.ld one_22 rfl (hj := by first | exact wd_get _ (by omega) | rfl | exact tab_get zq16 | exact gm (d := 0) zq16)) rfl) (.uw rfl (.bin rfl rfl (BinR.mul_u64)) ?_))))))
  refine .uw rfl (.move rfl) (.uw rfl (.nilCheck rfl) (.uw rfl (.fieldAddr fa_179_0 rfl) (.w rfl (.as (v' := .agg ((wd m).map u64).toArray) (.lda agg_40 rfl) (by rfl)) ?_)))
  refine .mw rfl (.cb (f191_spec b7 us hu1 (us.getD 0 0 * mnsM m) m hm (by have := hbig (us.getD 0 0 * mnsM m); rw [hu]; omega)) body_191 (h0 := by rintro _ _ _ ⟨_, _, _, _, h, _⟩; exact h)) ?_
  rintro _ _ _ ⟨_, ⟨vs, hv1, hv, rfl, _, rfl⟩, hΓ, hH⟩
  simp only [List.cons_append, List.nil_append] at hH; subst hΓ hH
  refine kp ?_
  obtain ⟨v0, v1, v2, v3, v4, v5, rfl⟩ := six hv1
  refine .nil (.tn (.seq ?_))
  refine JC.draw (.one 0 (.one 1 (.one 2 .nil))) (fun i => ([2] : List Nat).contains i) (fun i => ([2] : List Nat).contains i) (fun i => ([0, 1] : List Nat).contains i) mixed (by kernel_rfl) (by decide) (by kernel_rfl) ?_
  refine .uw rfl (.cutArr (l := 0) (h := 6) Tryz.underlying262 sz_22 rfl rfl rfl zq5 zq5 zq5) (.uw rfl (.cutArr (l := 1) (h := 6) Tryz.underlying262 sz_22 rfl ⟨_, rfl⟩ rfl zq5 zq5 zq5) ?_)
  refine .mw rfl (.copy Tryz.underlying25 sz_22 rfl rfl zq22 (by intro a ha; obtain ⟨x, _, rfl⟩ := List.mem_map.1 (List.mem_of_mem_drop (List.mem_of_mem_take ha)); rfl) zq10 (by first | (simp; done) | (simp; omega))) ?_
  rintro v39 _ _ ⟨rfl, rfl, rfl⟩
  refine kp ?_
  refine .nil (.tn (.region ?_))
  refine .w (.ixA (j := 5) Tryz.underlying262 sz_22 rfl rfl) ?_
  first | refine .s1 sz_22 ?_ | refine .sr1 sz_22 ?_
  refine .nil (.block_normal (.tn (.region ?_)))
  refine .w (.asI ((i + 1 : Nat) : Int) (.bin rfl rfl (BinR.add_i (by first | (constructor <;> omega) | (constructor <;> simp <;> omega))))) (.w (.move rfl) (.nil ?_))
  refine .hd (i + 1, [v1, v2, v3, v4, v5, 0#64]) ?_
  exact ⟨⟨by dsimp only; omega, hI.step (by omega) hm ho hbm hu1 hu hv1 hv⟩, by dsimp only; omega⟩
 ·obtain rfl : i = 4 := by omega
  have hts6 : ts.length = 6 := hI.1
  have hfin := hI.done (Nat.lt_trans (Nat.mod_lt _ (by omega)) hm) ho
  have h4 := val_four hI.1 (by have := hI.2.1; omega)
  refine .exit (.then_exit (.then_exit (.block_exit (.tn (.seq ?_)))))
  refine JC.draw (.one 0 (.one 1 (.one 2 (.one 3 (.one 4 (.one 5 (.one 6 (.one 7 .nil)))))))) (fun i => ([6, 7] : List Nat).contains i) (fun i => ([6, 7] : List Nat).contains i) (fun i => ([0, 1, 2, 4] : List Nat).contains i) mixed (by kernel_rfl) (by decide) (by kernel_rfl) ?_
  refine .uw rfl (.move rfl) (.uw rfl (.cutArr (l := 0) (h := 4) Tryz.underlying262 sz_22 rfl rfl ⟨_, rfl⟩ zq5 zq5 zq5) (.uw rfl (.s2a Tryz.underlying40 rfl (by decide)) (.w rfl (.as (v' := .agg ((wd (val ts)).map u64).toArray) (.lda agg_40 rfl) (congrArg (fun l : List Value => Value.agg l.toArray) (by rw [List.drop_zero, ← List.map_take, h4.1]))) (.uw rfl (.ixA (j := 4) Tryz.underlying262 sz_22 rfl rfl) (.w rfl (.as (v' := u64 (BitVec.ofNat 64 (val ts / 115792089237316195423570985008687907853269984665640564039457584007913129639936))) (.ld one_22 rfl (hj := by exact gm (d := 0) (by have := hI.1; omega))) (congrArg u64 h4.2)) ?_)))))
  refine .mw rfl (.c (f192_spec p m hm h1 1 0 (mnsM m) (sqM m) (val ts) hI.2.1) body_192) ?_
  rintro _ _ _ ⟨rfl, rfl, rfl⟩
  refine kp ?_
  first | refine .mw0 rfl (.sa sz_40) ?_ | refine .mw0 rfl (.so sz_40) ?_ | refine .mw0 rfl (.sr sz_40) ?_
  rintro _ _ _ ⟨rfl, rfl⟩
  refine kp ?_
  refine .nil (.tn (.ret ?_))
  exact .dn [] [cMod p (modC m true)] (res1 rfl (.cl agg_40)) ⟨by rw [hfin, mulM_mod]; try rfl, rfl, rfl⟩
end Go.Proofs.YtmhiapebljfebaaGreatDoor

/- Walks: images, products, powers; a new Mod. -/
namespace Go.Proofs.YtmhiapebljfebaaGreatDoor
open Go.RowKit
set_option maxRecDepth 100000
set_option linter.unusedVariables false
set_option linter.unusedSimpArgs false
theorem f161_spec (p m : Nat) (hm : m < 115792089237316195423570985008687907853269984665640564039457584007913129639936) (h1 : 1 < m) (ho : m % 2 = 1) (a b : Nat) (ha : a < 115792089237316195423570985008687907853269984665640564039457584007913129639936) (hb : b < 115792089237316195423570985008687907853269984665640564039457584007913129639936) : Spec Tryz.prog 161 #[(ptr p 0), (.agg ((wd a).map u64).toArray), (.agg ((wd b).map u64).toArray)] [] [Res.mod p m] (fun r Γ' H' => r = (.agg ((wd (mulM m a b)).map u64).toArray) ∧ Γ' = [] ∧ H' = [Res.mod p m]) := Spec.modH fun d => f161d_spec p m hm h1 ho d a b ha hb

theorem f158d_spec (p m : Nat) (hm : m < 115792089237316195423570985008687907853269984665640564039457584007913129639936) (h1 : 1 < m) (ho : m % 2 = 1) (d : Bool) (a : Nat) (ha : a < 115792089237316195423570985008687907853269984665640564039457584007913129639936) :
  Spec Tryz.prog 158 #[(ptr p 0), (.agg ((wd a).map u64).toArray)] [] [cMod p (modC m d)]
   (fun r Γ' H' => r = (.agg ((wd (toM m a)).map u64).toArray) ∧ Γ' = [] ∧ H' = [cMod p (modC m true)]) := by
 refine Spec.of_args Tryz.func158 rfl Tryz.ntmps158 (by simp) fun w => ?_
 refine .seq (.region ?_)
 refine .bx fun b3 => ?_
 refine .al zero_40 fun b4 => ?_
 refine .nil (.tn (.seq (.region ?_)))
 refine .w (.move rfl) (.c (f189_spec p m hm (by omega) d) body_189 ?_)
 refine .nil (.tn (.seq ?_))
 refine JC.draw (.one 0 (.one 1 (.one 2 (.one 3 (.one 4 (.one 5 (.one 6 (.one 7 .nil)))))))) (fun i => ([6, 7] : List Nat).contains i) (fun i => ([6, 7] : List Nat).contains i) (fun i => ([0, 2, 3, 4] : List Nat).contains i) mixed (by kernel_rfl) (by decide) (by kernel_rfl) ?_
 refine .uw rfl (.move rfl) (.w rfl (.lda agg_40 rfl) (.uw rfl (.move rfl) (.uw rfl (.nilCheck rfl) (.uw rfl (.fieldAddr fa_179_3 rfl) (.w rfl (.as (v' := .agg ((wd (sqM m)).map u64).toArray) (.lda agg_40 rfl) (by rfl)) ?_)))))
 refine .mw rfl (.c (f161d_spec p m hm h1 ho true a (sqM m) ha (Nat.lt_trans (Nat.mod_lt _ (by omega)) hm)) body_161) ?_
 rintro _ _ _ ⟨rfl, rfl, rfl⟩
 refine kp ?_
 first | refine .mw0 rfl (.sa sz_40) ?_ | refine .mw0 rfl (.so sz_40) ?_ | refine .mw0 rfl (.sr sz_40) ?_
 rintro _ _ _ ⟨rfl, rfl⟩
 refine kp ?_
 refine .nil (.tn (.ret ?_))
 exact .dn [] [cMod p (modC m true)] (res1 rfl (.cl agg_40)) ⟨by rw [toM_eq ho], rfl, rfl⟩

theorem f158_spec (p m : Nat) (hm : m < 115792089237316195423570985008687907853269984665640564039457584007913129639936) (h1 : 1 < m) (ho : m % 2 = 1) (a : Nat) (ha : a < 115792089237316195423570985008687907853269984665640564039457584007913129639936) : Spec Tryz.prog 158 #[(ptr p 0), (.agg ((wd a).map u64).toArray)] [] [Res.mod p m] (fun r Γ' H' => r = (.agg ((wd (toM m a)).map u64).toArray) ∧ Γ' = [] ∧ H' = [Res.mod p m]) := Spec.modH fun d => f158d_spec p m hm h1 ho d a ha

theorem f162_spec (p m : Nat) (hm : m < 115792089237316195423570985008687907853269984665640564039457584007913129639936) (h1 : 1 < m) (ho : m % 2 = 1) (a : Nat) (ha : a < 115792089237316195423570985008687907853269984665640564039457584007913129639936) :
  Spec Tryz.prog 162 #[(ptr p 0), (.agg ((wd a).map u64).toArray)] [] [Res.mod p m]
   (fun r Γ' H' => r = (.agg ((wd (mulM m a 1)).map u64).toArray) ∧ Γ' = [] ∧ H' = [Res.mod p m]) := by
 refine Spec.of_args Tryz.func162 rfl Tryz.ntmps162 (by simp) fun w => ?_
 refine .seq (.region ?_)
 refine .bx fun b3 => ?_
 refine .al zero_40 fun b4 => ?_
 refine .nil (.tn (.seq (.region ?_)))
 refine .w (.move rfl) (.w (.lda agg_40 rfl) (.w (.as (v' := .agg ((wd 1).map u64).toArray) (.build bld_40 rfl rfl) rfl) (.c (f161_spec p m hm h1 ho a 1 ha (by decide)) body_161 ?_)))
 first | refine .sa sz_40 ?_ | refine .so sz_40 ?_ | refine .sr sz_40 ?_
 refine .nil (.tn (.ret ?_))
 exact .dn [] [Res.mod p m] (res1 rfl (.cl agg_40)) ⟨rfl, rfl, rfl⟩

theorem f182_spec (p m : Nat) (hm : m < 115792089237316195423570985008687907853269984665640564039457584007913129639936) (h1 : 1 < m) (ho : m % 2 = 1) (a b : Nat) (ha : a < 115792089237316195423570985008687907853269984665640564039457584007913129639936) (hb : b < 115792089237316195423570985008687907853269984665640564039457584007913129639936) :
  Spec Tryz.prog 182 #[(ptr p 0), (.agg ((wd a).map u64).toArray), (.agg ((wd b).map u64).toArray)] [] [Res.mod p m]
   (fun r Γ' H' => r = (.agg ((wd (a * b % m)).map u64).toArray) ∧ Γ' = [] ∧ H' = [Res.mod p m]) := by
 refine Spec.of_args Tryz.func182 rfl Tryz.ntmps182 (by simp) fun w => ?_
 refine .seq (.region ?_)
 refine .bx fun b4 => ?_
 refine .bx fun b5 => ?_
 refine .al zero_40 fun b6 => ?_
 refine .nil (.tn (.seq ?_))
 refine JC.draw (.one 0 (.one 1 (.one 2 (.one 4 (.one 3 (.one 5 (.one 6 .nil))))))) (fun i => ([5, 6] : List Nat).contains i) (fun i => ([3, 5, 6] : List Nat).contains i) (fun i => ([0, 1] : List Nat).contains i) mixed (by kernel_rfl) (by decide) (by kernel_rfl) ?_
 refine .uw rfl (.move rfl) (.uw rfl (.move rfl) (.w rfl (.lda agg_40 rfl) (.w rfl (.lda agg_40 rfl) ?_)))
 refine .mw rfl (.c (f158_spec p m hm h1 ho a ha) body_158) ?_
 rintro _ _ _ ⟨rfl, rfl, rfl⟩
 refine kp ?_
 refine .mw rfl (.c (f161_spec p m hm h1 ho (toM m a) b (Nat.lt_trans (toM_lt h1 _) hm) hb) body_161) ?_
 rintro _ _ _ ⟨rfl, rfl, rfl⟩
 refine kp ?_
 first | refine .mw0 rfl (.sa sz_40) ?_ | refine .mw0 rfl (.so sz_40) ?_ | refine .mw0 rfl (.sr sz_40) ?_
 rintro _ _ _ ⟨rfl, rfl⟩
 refine kp ?_
 refine .nil (.tn (.ret ?_))
 exact .dn [] [Res.mod p m] (res1 rfl (.cl agg_40)) ⟨by rw [timesM_eq ho], rfl, rfl⟩

theorem f111_spec (p m : Nat) (hm : m < 115792089237316195423570985008687907853269984665640564039457584007913129639936) (h1 : 1 < m) (ho : m % 2 = 1) (a n : Nat) (ha : a < 115792089237316195423570985008687907853269984665640564039457584007913129639936) (hn : n < 115792089237316195423570985008687907853269984665640564039457584007913129639936) :
  Spec Tryz.prog 111 #[(ptr p 0), (.agg ((wd a).map u64).toArray), (.agg ((wd n).map u64).toArray)] [] [Res.mod p m]
   (fun r Γ' H' => r = (.agg ((wd (a ^ n % m)).map u64).toArray) ∧ Γ' = [] ∧ H' = [Res.mod p m]) := by
 refine Spec.of_args Tryz.func111 rfl Tryz.ntmps111 (by simp) fun w => ?_
 refine .seq (.region ?_)
 refine .bx fun b4 => ?_
 refine .bx fun b5 => ?_
 refine .al zero_40 fun b6 => ?_
 refine .nil (.tn ?_)
 refine .mt (ι := Nat × Nat) (fun x => True) (fun T x => (7, ptr x.1 0) :: (8, ptr x.2 0) :: T) (fun T _ => T) (fun T x => Res.cells x.1 ((wd (toM m 1)).map u64) 40 :: Res.cells x.2 ((wd (toM m a)).map u64) 40 :: T) [0, 5, 6, 9, 16, 17, 18, 19, 20, 21, 22, 23, 24, 25, 26, 27, 28, 29, 30, 31, 32, 33, 34, 35, 36] [] ?_ (fun x hx => ?_)
 ·refine JC.draw (.one 0 (.one 1 (.one 3 (.one 4 (.alt 2 (.alt 5 (.alt 6 (.one 7 (.one 8 (.one 9 .nil))) (.alt 7 (.one 6 (.one 8 (.one 9 .nil))) .nil)) (.alt 6 (.alt 5 (.one 7 (.one 8 (.one 9 .nil))) (.alt 7 (.one 5 (.one 8 (.one 9 .nil))) .nil)) (.alt 7 (.alt 5 (.one 6 (.one 8 (.one 9 .nil))) (.alt 6 (.one 5 (.one 8 (.one 9 .nil))) .nil)) .nil))) (.alt 6 (.alt 2 (.alt 5 (.one 7 (.one 8 (.one 9 .nil))) (.alt 7 (.one 5 (.one 8 (.one 9 .nil))) .nil)) (.alt 7 (.one 2 (.one 5 (.one 8 (.one 9 .nil)))) .nil)) (.alt 7 (.alt 2 (.alt 5 (.one 6 (.one 8 (.one 9 .nil))) (.alt 6 (.one 5 (.one 8 (.one 9 .nil))) .nil)) (.alt 6 (.one 2 (.one 5 (.one 8 (.one 9 .nil)))) .nil)) .nil))))))) (fun i => ([8, 9] : List Nat).contains i) (fun i => ([2, 5, 6, 7, 8, 9] : List Nat).contains i) (fun i => ([0, 1, 3] : List Nat).contains i) mixed (by kernel_rfl) (by decide) (by kernel_rfl) ?_
  refine .uw rfl (.move rfl) (.uw rfl (.as (v' := .agg ((wd 1).map u64).toArray) (.build bld_40 rfl rfl) rfl) (.uw rfl (.move rfl) (.w rfl (.lda agg_40 rfl) ?_)))
  refine JR.alt rfl ?_ ?_
  ·refine .mw rfl (.c (f158_spec p m hm h1 ho 1 (by decide)) body_158) ?_
   rintro _ _ _ ⟨rfl, rfl, rfl⟩
   refine kp ?_
   refine JR.alt rfl ?_ ?_
   ·refine .mw rfl (.c (f158_spec p m hm h1 ho a ha) body_158) ?_
    rintro _ _ _ ⟨rfl, rfl, rfl⟩
    refine kp ?_
    refine JR.alt rfl ?_ ?_
    ·refine .mw rfl (Mv.alloc zero_40) ?_
     rintro _ _ _ ⟨b7, rfl, rfl, rfl⟩
     refine kp ?_
     refine .mw rfl (Mv.alloc zero_40) ?_
     rintro _ _ _ ⟨b8, rfl, rfl, rfl⟩
     refine kp ?_
     first | refine .mw0 rfl (.sa sz_40) ?_ | refine .mw0 rfl (.so sz_40) ?_ | refine .mw0 rfl (.sr sz_40) ?_
     rintro _ _ _ ⟨rfl, rfl⟩
     refine kp ?_
     first | refine .mw0 rfl (.sa sz_40) ?_ | refine .mw0 rfl (.so sz_40) ?_ | refine .mw0 rfl (.sr sz_40) ?_
     rintro _ _ _ ⟨rfl, rfl⟩
     refine kp ?_
     refine .nil ?_
     refine .hd (b7, b8) ?_
     trivial
    refine JA.alt rfl ?_ ?_
    ·refine .mw rfl (Mv.alloc zero_40) ?_
     rintro _ _ _ ⟨b8, rfl, rfl, rfl⟩
     refine kp ?_
     refine .mw rfl (Mv.alloc zero_40) ?_
     rintro _ _ _ ⟨b7, rfl, rfl, rfl⟩
     refine kp ?_
     first | refine .mw0 rfl (.sa sz_40) ?_ | refine .mw0 rfl (.so sz_40) ?_ | refine .mw0 rfl (.sr sz_40) ?_
     rintro _ _ _ ⟨rfl, rfl⟩
     refine kp ?_
     first | refine .mw0 rfl (.sa sz_40) ?_ | refine .mw0 rfl (.so sz_40) ?_ | refine .mw0 rfl (.sr sz_40) ?_
     rintro _ _ _ ⟨rfl, rfl⟩
     refine kp ?_
     refine .nil ?_
     refine .hd (b7, b8) ?_
     trivial
    exact JA.nil
   refine JA.alt rfl ?_ ?_
   ·refine .mw rfl (Mv.alloc zero_40) ?_
    rintro _ _ _ ⟨b7, rfl, rfl, rfl⟩
    refine kp ?_
    refine JR.alt rfl ?_ ?_
    ·refine .mw rfl (.c (f158_spec p m hm h1 ho a ha) body_158) ?_
     rintro _ _ _ ⟨rfl, rfl, rfl⟩
     refine kp ?_
     refine .mw rfl (Mv.alloc zero_40) ?_
     rintro _ _ _ ⟨b8, rfl, rfl, rfl⟩
     refine kp ?_
     first | refine .mw0 rfl (.sa sz_40) ?_ | refine .mw0 rfl (.so sz_40) ?_ | refine .mw0 rfl (.sr sz_40) ?_
     rintro _ _ _ ⟨rfl, rfl⟩
     refine kp ?_
     first | refine .mw0 rfl (.sa sz_40) ?_ | refine .mw0 rfl (.so sz_40) ?_ | refine .mw0 rfl (.sr sz_40) ?_
     rintro _ _ _ ⟨rfl, rfl⟩
     refine kp ?_
     refine .nil ?_
     refine .hd (b7, b8) ?_
     trivial
    refine JA.alt rfl ?_ ?_
    ·refine .mw rfl (Mv.alloc zero_40) ?_
     rintro _ _ _ ⟨b8, rfl, rfl, rfl⟩
     refine kp ?_
     refine .mw rfl (.c (f158_spec p m hm h1 ho a ha) body_158) ?_
     rintro _ _ _ ⟨rfl, rfl, rfl⟩
     refine kp ?_
     first | refine .mw0 rfl (.sa sz_40) ?_ | refine .mw0 rfl (.so sz_40) ?_ | refine .mw0 rfl (.sr sz_40) ?_
     rintro _ _ _ ⟨rfl, rfl⟩
     refine kp ?_
     first | refine .mw0 rfl (.sa sz_40) ?_ | refine .mw0 rfl (.so sz_40) ?_ | refine .mw0 rfl (.sr sz_40) ?_
     rintro _ _ _ ⟨rfl, rfl⟩
     refine kp ?_
     refine .nil ?_
     refine .hd (b7, b8) ?_
     trivial
    exact JA.nil
   refine JA.alt rfl ?_ ?_
   ·refine .mw rfl (Mv.alloc zero_40) ?_
    rintro _ _ _ ⟨b8, rfl, rfl, rfl⟩
    refine kp ?_
    refine JR.alt rfl ?_ ?_
    ·refine .mw rfl (.c (f158_spec p m hm h1 ho a ha) body_158) ?_
     rintro _ _ _ ⟨rfl, rfl, rfl⟩
     refine kp ?_
     refine .mw rfl (Mv.alloc zero_40) ?_
     rintro _ _ _ ⟨b7, rfl, rfl, rfl⟩
     refine kp ?_
     first | refine .mw0 rfl (.sa sz_40) ?_ | refine .mw0 rfl (.so sz_40) ?_ | refine .mw0 rfl (.sr sz_40) ?_
     rintro _ _ _ ⟨rfl, rfl⟩
     refine kp ?_
     first | refine .mw0 rfl (.sa sz_40) ?_ | refine .mw0 rfl (.so sz_40) ?_ | refine .mw0 rfl (.sr sz_40) ?_
     rintro _ _ _ ⟨rfl, rfl⟩
     refine kp ?_
     refine .nil ?_
     refine .hd (b7, b8) ?_
     trivial
    refine JA.alt rfl ?_ ?_
    ·refine .mw rfl (Mv.alloc zero_40) ?_
     rintro _ _ _ ⟨b7, rfl, rfl, rfl⟩
     refine kp ?_
     refine .mw rfl (.c (f158_spec p m hm h1 ho a ha) body_158) ?_
     rintro _ _ _ ⟨rfl, rfl, rfl⟩
     refine kp ?_
     first | refine .mw0 rfl (.sa sz_40) ?_ | refine .mw0 rfl (.so sz_40) ?_ | refine .mw0 rfl (.sr sz_40) ?_
     rintro _ _ _ ⟨rfl, rfl⟩
     refine kp ?_
     first | refine .mw0 rfl (.sa sz_40) ?_ | refine .mw0 rfl (.so sz_40) ?_ | refine .mw0 rfl (.sr sz_40) ?_
     rintro _ _ _ ⟨rfl, rfl⟩
     refine kp ?_
     refine .nil ?_
     refine .hd (b7, b8) ?_
     trivial
    exact JA.nil
   exact JA.nil
  refine JA.alt rfl ?_ ?_
  ·refine .mw rfl (Mv.alloc zero_40) ?_
   rintro _ _ _ ⟨b7, rfl, rfl, rfl⟩
   refine kp ?_
   refine JR.alt rfl ?_ ?_
   ·refine .mw rfl (.c (f158_spec p m hm h1 ho 1 (by decide)) body_158) ?_
    rintro _ _ _ ⟨rfl, rfl, rfl⟩
    refine kp ?_
    refine JR.alt rfl ?_ ?_
    ·refine .mw rfl (.c (f158_spec p m hm h1 ho a ha) body_158) ?_
     rintro _ _ _ ⟨rfl, rfl, rfl⟩
     refine kp ?_
     refine .mw rfl (Mv.alloc zero_40) ?_
     rintro _ _ _ ⟨b8, rfl, rfl, rfl⟩
     refine kp ?_
     first | refine .mw0 rfl (.sa sz_40) ?_ | refine .mw0 rfl (.so sz_40) ?_ | refine .mw0 rfl (.sr sz_40) ?_
     rintro _ _ _ ⟨rfl, rfl⟩
     refine kp ?_
     first | refine .mw0 rfl (.sa sz_40) ?_ | refine .mw0 rfl (.so sz_40) ?_ | refine .mw0 rfl (.sr sz_40) ?_
     rintro _ _ _ ⟨rfl, rfl⟩
     refine kp ?_
     refine .nil ?_
     refine .hd (b7, b8) ?_
     trivial
    refine JA.alt rfl ?_ ?_
    ·refine .mw rfl (Mv.alloc zero_40) ?_
     rintro _ _ _ ⟨b8, rfl, rfl, rfl⟩
     refine kp ?_
     refine .mw rfl (.c (f158_spec p m hm h1 ho a ha) body_158) ?_
     rintro _ _ _ ⟨rfl, rfl, rfl⟩
     refine kp ?_
     first | refine .mw0 rfl (.sa sz_40) ?_ | refine .mw0 rfl (.so sz_40) ?_ | refine .mw0 rfl (.sr sz_40) ?_
     rintro _ _ _ ⟨rfl, rfl⟩
     refine kp ?_
     first | refine .mw0 rfl (.sa sz_40) ?_ | refine .mw0 rfl (.so sz_40) ?_ | refine .mw0 rfl (.sr sz_40) ?_
     rintro _ _ _ ⟨rfl, rfl⟩
     refine kp ?_
     refine .nil ?_
     refine .hd (b7, b8) ?_
     trivial
    exact JA.nil
   refine JA.alt rfl ?_ ?_
   ·refine .mw rfl (Mv.alloc zero_40) ?_
    rintro _ _ _ ⟨b8, rfl, rfl, rfl⟩
    refine kp ?_
    refine .mw rfl (.c (f158_spec p m hm h1 ho 1 (by decide)) body_158) ?_
    rintro _ _ _ ⟨rfl, rfl, rfl⟩
    refine kp ?_
    refine .mw rfl (.c (f158_spec p m hm h1 ho a ha) body_158) ?_
    rintro _ _ _ ⟨rfl, rfl, rfl⟩
    refine kp ?_
    first | refine .mw0 rfl (.sa sz_40) ?_ | refine .mw0 rfl (.so sz_40) ?_ | refine .mw0 rfl (.sr sz_40) ?_
    rintro _ _ _ ⟨rfl, rfl⟩
    refine kp ?_
    first | refine .mw0 rfl (.sa sz_40) ?_ | refine .mw0 rfl (.so sz_40) ?_ | refine .mw0 rfl (.sr sz_40) ?_
    rintro _ _ _ ⟨rfl, rfl⟩
    refine kp ?_
    refine .nil ?_
    refine .hd (b7, b8) ?_
    trivial
   exact JA.nil
  refine JA.alt rfl ?_ ?_
  ·refine .mw rfl (Mv.alloc zero_40) ?_
   rintro _ _ _ ⟨b8, rfl, rfl, rfl⟩
   refine kp ?_
   refine JR.alt rfl ?_ ?_
   ·refine .mw rfl (.c (f158_spec p m hm h1 ho 1 (by decide)) body_158) ?_
    rintro _ _ _ ⟨rfl, rfl, rfl⟩
    refine kp ?_
    refine JR.alt rfl ?_ ?_
    ·refine .mw rfl (.c (f158_spec p m hm h1 ho a ha) body_158) ?_
     rintro _ _ _ ⟨rfl, rfl, rfl⟩
     refine kp ?_
     refine .mw rfl (Mv.alloc zero_40) ?_
     rintro _ _ _ ⟨b7, rfl, rfl, rfl⟩
     refine kp ?_
     first | refine .mw0 rfl (.sa sz_40) ?_ | refine .mw0 rfl (.so sz_40) ?_ | refine .mw0 rfl (.sr sz_40) ?_
     rintro _ _ _ ⟨rfl, rfl⟩
     refine kp ?_
     first | refine .mw0 rfl (.sa sz_40) ?_ | refine .mw0 rfl (.so sz_40) ?_ | refine .mw0 rfl (.sr sz_40) ?_
     rintro _ _ _ ⟨rfl, rfl⟩
     refine kp ?_
     refine .nil ?_
     refine .hd (b7, b8) ?_
     trivial
    refine JA.alt rfl ?_ ?_
    ·refine .mw rfl (Mv.alloc zero_40) ?_
     rintro _ _ _ ⟨b7, rfl, rfl, rfl⟩
     refine kp ?_
     refine .mw rfl (.c (f158_spec p m hm h1 ho a ha) body_158) ?_
     rintro _ _ _ ⟨rfl, rfl, rfl⟩
     refine kp ?_
     first | refine .mw0 rfl (.sa sz_40) ?_ | refine .mw0 rfl (.so sz_40) ?_ | refine .mw0 rfl (.sr sz_40) ?_
     rintro _ _ _ ⟨rfl, rfl⟩
     refine kp ?_
     first | refine .mw0 rfl (.sa sz_40) ?_ | refine .mw0 rfl (.so sz_40) ?_ | refine .mw0 rfl (.sr sz_40) ?_
     rintro _ _ _ ⟨rfl, rfl⟩
     refine kp ?_
     refine .nil ?_
     refine .hd (b7, b8) ?_
     trivial
    exact JA.nil
   refine JA.alt rfl ?_ ?_
   ·refine .mw rfl (Mv.alloc zero_40) ?_
    rintro _ _ _ ⟨b7, rfl, rfl, rfl⟩
    refine kp ?_
    refine .mw rfl (.c (f158_spec p m hm h1 ho 1 (by decide)) body_158) ?_
    rintro _ _ _ ⟨rfl, rfl, rfl⟩
    refine kp ?_
    refine .mw rfl (.c (f158_spec p m hm h1 ho a ha) body_158) ?_
    rintro _ _ _ ⟨rfl, rfl, rfl⟩
    refine kp ?_
    first | refine .mw0 rfl (.sa sz_40) ?_ | refine .mw0 rfl (.so sz_40) ?_ | refine .mw0 rfl (.sr sz_40) ?_
    rintro _ _ _ ⟨rfl, rfl⟩
    refine kp ?_
    first | refine .mw0 rfl (.sa sz_40) ?_ | refine .mw0 rfl (.so sz_40) ?_ | refine .mw0 rfl (.sr sz_40) ?_
    rintro _ _ _ ⟨rfl, rfl⟩
    refine kp ?_
    refine .nil ?_
    refine .hd (b7, b8) ?_
    trivial
   exact JA.nil
  exact JA.nil
 ·obtain ⟨b7, b8⟩ := x
  dsimp only
  refine .seq (.seq (.region ?_))
  refine .w (.lda agg_40 rfl) (.c (f159_spec n hn) body_159 ?_)
  have hl256 := bitlen_256 hn
  refine .w (.move rfl) ?_
  refine .nil (.tn (.block ?_))
  refine .lp (ι := Nat) (fun x => x ≤ bitlen n) (fun T x => (18, it (x : Int)) :: T) (fun T _ => T) (fun T x => Res.cells b7 ((wd (toM m (a ^ (n % 2 ^ x)))).map u64) 40 :: Res.cells b8 ((wd (toM m (a ^ 2 ^ x))).map u64) 40 :: T) (fun x => bitlen n - x) 0 [0, 5, 6, 7, 8, 17, 34, 35, 36] ?_ (fun x hx => ?_) (hH := (by rw [pw_z0, pw_z1]; repeat (first | exact Picks.nil _ | apply Picks.cons | exact Pull.here _ _ | apply Pull.there)))
  ·exact Nat.zero_le _
  refine .seq (.region ?_)
  refine .w (.bin rfl rfl BinR.lss_i) ?_
  refine .nil (.tn (.seq ?_))
  refine .cn rfl (fun hc1 => ?_) (fun hc1 => ?_)
  ·skip
   refine .skip (.tn (.seq (.block (.seq (.region ?_)))))
   refine .w (.move rfl) (.w (.assign rfl) ?_)
   refine .nil (.tn (.seq (.seq (.region ?_))))
   refine .w (.lda agg_40 rfl) (.w (.move rfl) (.c (f160_spec n x (by omega)) body_160 ?_))
   refine .w (.as (v' := .bool (decide (n / 2 ^ x % 2 = 1))) (.bin rfl rfl (BinR.eql_u64 (b := 1#64))) (congrArg Value.bool (decide_eq_decide.2 (bit_one n x)))) ?_
   refine .nil (.tn ?_)
   refine .cn rfl (fun hc2 => ?_) (fun hc2 => ?_)
   ·try simp only [BitVec.reduceToNat] at hc2
    skip
    refine .region (.w (.move rfl) (.w (.lda agg_40 rfl) (.w (.lda agg_40 rfl) (.c (f161_spec p m hm h1 ho (toM m (a ^ (n % 2 ^ x))) (toM m (a ^ 2 ^ x)) (Nat.lt_trans (toM_lt h1 _) hm) (Nat.lt_trans (toM_lt h1 _) hm)) body_161 ?_))))
    rw [toM_mul ho, pow_t hc2]
    first | refine .sa sz_40 ?_ | refine .so sz_40 ?_ | refine .sr sz_40 ?_
    refine .nil (.tn (.region ?_))
    refine .w (.move rfl) (.w (.lda agg_40 rfl) (.w (.lda agg_40 rfl) (.c (f161_spec p m hm h1 ho (toM m (a ^ 2 ^ x)) (toM m (a ^ 2 ^ x)) (Nat.lt_trans (toM_lt h1 _) hm) (Nat.lt_trans (toM_lt h1 _) hm)) body_161 ?_)))
    rw [toM_mul ho, pow_sq]
    first | refine .sa sz_40 ?_ | refine .so sz_40 ?_ | refine .sr sz_40 ?_
    refine .nil (.block_normal (.tn (.region ?_)))
    refine .w (.asI ((x + 1 : Nat) : Int) (.bin rfl rfl (BinR.add_i (by first | (constructor <;> omega) | (constructor <;> simp <;> omega))))) (.w (.move rfl) (.nil ?_))
    refine .hd (x + 1) ?_
    exact ⟨by omega, by omega⟩
   ·try simp only [BitVec.reduceToNat] at hc2
    rw [pow_f hc2]
    refine .skip (.tn (.region ?_))
    refine .w (.move rfl) (.w (.lda agg_40 rfl) (.w (.lda agg_40 rfl) (.c (f161_spec p m hm h1 ho (toM m (a ^ 2 ^ x)) (toM m (a ^ 2 ^ x)) (Nat.lt_trans (toM_lt h1 _) hm) (Nat.lt_trans (toM_lt h1 _) hm)) body_161 ?_)))
    rw [toM_mul ho, pow_sq]
    first | refine .sa sz_40 ?_ | refine .so sz_40 ?_ | refine .sr sz_40 ?_
    refine .nil (.block_normal (.tn (.region ?_)))
    refine .w (.asI ((x + 1 : Nat) : Int) (.bin rfl rfl (BinR.add_i (by first | (constructor <;> omega) | (constructor <;> simp <;> omega))))) (.w (.move rfl) (.nil ?_))
    refine .hd (x + 1) ?_
    exact ⟨by omega, by omega⟩
  ·obtain rfl : x = bitlen n := by omega
   rw [pow_full]
   refine .exit (.then_exit (.then_exit (.block_exit (.tn (.seq (.region ?_))))))
   refine .w (.move rfl) (.w (.lda agg_40 rfl) (.c (f162_spec p m hm h1 ho (toM m (a ^ n)) (Nat.lt_trans (toM_lt h1 _) hm)) body_162 ?_))
   rw [fromM_eq ho]
   first | refine .sa sz_40 ?_ | refine .so sz_40 ?_ | refine .sr sz_40 ?_
   refine .nil (.tn (.ret ?_))
   exact .dn [] [Res.mod p m] (res1 rfl (.cl agg_40)) ⟨rfl, rfl, rfl⟩

theorem f110_spec (m : Nat) (hm : m < 115792089237316195423570985008687907853269984665640564039457584007913129639936) (h1 : 1 < m) (ho : m % 2 = 1) :
  Spec Tryz.prog 110 #[(.agg ((wd m).map u64).toArray)] [] []
   (fun r Γ' H' => ∃ p, r = .tuple #[ptr p 0, it 0] ∧ Γ' = [] ∧ H' = [Res.mod p m]) := by
 refine Spec.of_args Tryz.func110 rfl Tryz.ntmps110 (by simp) fun w => ?_
 refine .seq (.region ?_)
 refine .bx fun b1 => ?_
 refine .w (.assign rfl) (.w (.assign rfl) ?_)
 refine .nil (.tn (.seq (.block (.seq (.region ?_)))))
 refine .w (.lda agg_40 rfl) (.w (.as (v' := .agg ((wd 0).map u64).toArray) (.build bld_40 rfl rfl) rfl) (.w (.as (v' := .bool false) (.bin rfl rfl (eql_nat wd_len' wd_len')) (congrArg Value.bool (decide_eq_false (by rw [wd_eq hm (by decide)]; omega)))) (.w (.move rfl) ?_)))
 refine .gt (g := 8) rfl rfl rfl ?_
 refine .w (.lda agg_40 rfl) ?_
 refine .gt (g := 8) rfl rfl rfl ?_
 refine .w (.as (v' := .agg ((wd 1).map u64).toArray) (.build bld_40 rfl rfl) rfl) ?_
 refine .gt (g := 8) rfl rfl rfl ?_
 refine .w (.as (v' := .bool false) (.bin rfl rfl (eql_nat wd_len' wd_len')) (congrArg Value.bool (decide_eq_false (by rw [wd_eq hm (by decide)]; omega)))) (.w (.pick0 rfl rfl rfl) (.w (.assign rfl) ?_))
 refine .nil (.tn ?_)
 refine .cf rfl ?_
 refine .seq (.region ?_)
 refine .w (.ixA (j := 0) Tryz.underlying40 sz_22 rfl rfl) (.w (.as (v' := u64 (wat m 0)) (.ld one_22 rfl) rfl) (.w (.as (v' := u64 (wat m 0 &&& 1#64)) (.bin rfl rfl (BinR.and_u64 (b := 1#64))) rfl) (.w (.as (v' := .bool false) (.bin rfl rfl (BinR.eql_u64 (b := 0#64))) (congrArg Value.bool (decide_eq_false (odd_bit ho)))) (.w (.assign rfl) ?_))))
 refine .nil (.tn ?_)
 refine .cf rfl ?_
 refine .skip (.block_normal (.tn (.seq (.region ?_))))
 refine .w (.lda agg_40 rfl) (.w (.build (cs := modC m false) bld_179 rfl (by kernel_rfl)) (.bx fun b20 => ?_))
 refine .w (.assign rfl) (.w (.assign rfl) ?_)
 refine .nil (.tn (.ret ?_))
 refine .modF (d := false) (p := b20) (m := m) zq10 ?_
 exact .dn [] [Res.mod b20 m] (res2 rfl (.tmp rfl) (.tmp rfl)) ⟨b20, rfl, rfl, rfl⟩
end Go.Proofs.YtmhiapebljfebaaGreatDoor

/- Walk: what factors make. -/
namespace Go.Proofs.YtmhiapebljfebaaGreatDoor
open Go.RowKit
set_option maxRecDepth 100000
set_option linter.unusedVariables false
set_option linter.unusedSimpArgs false
theorem zq14 {p : Prop} (h : p := by (repeat (first | exact List.Mem.head _ | refine List.Mem.tail _ ?_)); first | done | fail) : p := h
theorem neq_wide {x y : Operand} {us vs : List W64} (ha : us.length = 8) (hb : vs.length = 8) : BinR Tryz.prog .neq 254 x y (.agg (us.map u64).toArray) (.agg (vs.map u64).toArray) (.bool (!decide (us = vs))) :=
 BinR.neq_arr (f := u64) (g := fun x => (x.toNat : Int)) (k := .u64) Tryz.underlying254 Tryz.underlying22 sz_22 (by kernel_rfl) (fun _ => rfl) (fun x y h => BitVec.eq_of_toNat_eq (by exact Int.ofNat.inj h)) us vs ha hb

theorem f209_spec (v : Value) (fs : List (Nat × Nat)) (h40 : fs.length ≤ 40) (hF : ∀ x ∈ fs, Fok x) (hlt : prodF fs < 115792089237316195423570985008687907853269984665640564039457584007913129639936) :
  Spec Tryz.prog 209 #[v] [Res.rd v fs.length 5 (bks facC fs)] []
   (fun r Γ' H' => r = (.tuple #[(.agg ((wd (prodF fs)).map u64).toArray), it 0]) ∧ Γ' = [] ∧ H' = []) := by
 refine Spec.of_args Tryz.func209 rfl Tryz.ntmps209 (by simp) fun w => ?_
 refine .seq (.region ?_)
 refine .al zero_40 fun b2 => ?_
 refine .w (.assign rfl) ?_
 refine .nil (.tn (.seq (.seq (.region ?_))))
 refine .w (.move rfl) (.w (.len Tryz.underlying118 rfl) (.w (.bin rfl rfl BinR.gtr_i) ?_))
 refine .nil (.tn ?_)
 refine .cn rfl (fun hc1 => ?_) (fun hc1 => ?_)
 ·exfalso; omega
 ·refine .skip (.tn (.seq (.region ?_)))
  refine .w (.assign rfl) ?_
  refine .nil (.tn (.seq (.seq (.region ?_))))
  refine .w (.move rfl) (.w (.len Tryz.underlying118 rfl) (.w (.move rfl) ?_))
  refine .nil (.tn (.block ?_))
  refine .lp (ι := Nat) (fun x => x ≤ fs.length) (fun T x => (17, it (x : Int)) :: (4, .bool false) :: T) (fun T _ => T) (fun T _ => T) (fun x => fs.length - x) 0 [0, 2, 7, 9, 10, 15, 16, 38, 39, 40, 41, 42, 43, 44, 45, 46, 47, 48, 49, 50, 51, 52, 53, 54, 55, 56, 57, 58, 59, 60, 61, 62, 63, 64, 65, 66, 67, 68, 69, 70, 71, 72] ?_ (fun x hx => ?_)
  ·exact Nat.zero_le _
  obtain ⟨k, hk⟩ : ∃ k, k = x := ⟨_, rfl⟩
  subst hk
  refine .seq (.region ?_)
  refine .w (.bin rfl rfl BinR.lss_i) ?_
  refine .nil (.tn (.seq ?_))
  refine .cn rfl (fun hc2 => ?_) (fun hc2 => ?_)
  ·have hf := hF _ (fz_mem (l := fs) (k := k) (by omega))
   have hfe : (fs.getD k FZ).2 ≤ 255 := hf.2.1
   refine .skip (.tn (.seq (.block (.seq (.region ?_)))))
   refine .w (.ix Tryz.underlying118 sz_117 rfl rfl) (.w (.as (v' := .agg (facC (fs.getD k FZ)).toArray) (.lda agg_117 rfl (hm := by first | exact AM.own zq14 (by rw [bks_len]; omega) | exact AM.ro zq14 (by rw [bks_len]; omega) | exact AM.ownAt zq14 (by rw [bks_len]; omega) | exact AM.rd zq6 (by rw [bks_len]; omega) | exact AM.row zq7 (by rw [bks_len]; omega))) (congrArg (fun l : List Value => Value.agg l.toArray) (bks_piece (f := facC) FZ (by omega)))) (.al zero_117 fun b6 => ?_))
   refine .sa sz_117 ?_ (h1 := (FS.one (f := facC) _))
   refine .nil (.tn (.seq (.seq (.region ?_))))
   refine .w (.fieldAddr fa_117_1 rfl) (.w (.as (v' := it (fs.getD k FZ).2) (.ld one_3 rfl) rfl) (.w (.as (v' := .bool false) (.bin rfl rfl BinR.lss_i) (congrArg Value.bool (decide_eq_false (by have := hf.1; omega)))) (.w (.move rfl) ?_)))
   refine .gt (g := 24) rfl rfl rfl ?_
   refine .w (.fieldAddr fa_117_1 rfl) ?_
   refine .gt (g := 24) rfl rfl rfl ?_
   refine .w (.as (v' := it (fs.getD k FZ).2) (.ld one_3 rfl) rfl) ?_
   refine .gt (g := 24) rfl rfl rfl ?_
   refine .w (.as (v' := .bool false) (.bin rfl rfl BinR.gtr_i) (congrArg Value.bool (decide_eq_false (by have := hf.2.1; omega)))) (.w (.pick0 rfl rfl rfl) ?_)
   refine .nil (.tn ?_)
   refine .cf rfl ?_
   refine .skip (.tn (.region ?_))
   refine .w (.move rfl) (.w (.move rfl) ?_)
   refine .gt (g := 31) rfl rfl rfl ?_
   refine .w (.fieldAddr fa_117_0 rfl) ?_
   refine .gt (g := 31) rfl rfl rfl ?_
   refine .w (.as (v' := .agg ((wd (fs.getD k FZ).1).map u64).toArray) (.lda agg_40 rfl) (by rfl)) ?_
   refine .gt (g := 31) rfl rfl rfl ?_
   refine .w (.as (v' := .agg ((wd 0).map u64).toArray) (.build bld_40 rfl rfl) rfl) ?_
   refine .gt (g := 31) rfl rfl rfl ?_
   refine .w (.as (v' := .bool false) (.bin rfl rfl (eql_nat wd_len' wd_len')) (congrArg Value.bool (decide_eq_false (by rw [wd_eq hf.2.2.2 (by decide)]; have := hf.2.2.1; omega)))) (.w (.pick0 rfl rfl rfl) (.w (.assign rfl) ?_))
   refine .nil (.block_normal (.tn (.region ?_)))
   refine .w (.asI ((k + 1 : Nat) : Int) (.bin rfl rfl (BinR.add_i (by first | (constructor <;> omega) | (constructor <;> simp <;> omega))))) (.w (.move rfl) (.nil ?_))
   refine .hd (k + 1) ?_
   exact ⟨by omega, by omega⟩
  ·skip
   refine .exit (.then_exit (.then_exit (.block_exit (.tn (.seq (.seq (.region ?_)))))))
   refine .w (.move rfl) ?_
   refine .nil (.tn ?_)
   refine .cf rfl ?_
   refine .skip (.tn (.seq (.region ?_)))
   refine .w (.as (v' := .agg ((wd 1).map u64).toArray) (.build bld_40 rfl rfl) rfl) (.al zero_40 fun b7 => ?_)
   first | refine .sa sz_40 ?_ | refine .so sz_40 ?_ | refine .sr sz_40 ?_
   refine .nil (.tn (.seq (.seq (.region ?_))))
   refine .w (.move rfl) (.w (.len Tryz.underlying118 rfl) (.w (.move rfl) ?_))
   refine .nil (.tn (.block ?_))
   refine .lp (ι := Nat) (fun x => x ≤ fs.length) (fun T x => (43, it (x : Int)) :: T) (fun T _ => T) (fun T x => Res.cells b7 ((wd (prodF (fs.take x))).map u64) 40 :: T) (fun x => fs.length - x) 0 [2, 7, 41, 42, 72] ?_ (fun x hx => ?_) (hH := (by rw [pf_zero]; repeat (first | exact Picks.nil _ | apply Picks.cons | exact Pull.here _ _ | apply Pull.there)))
   ·exact Nat.zero_le _
   obtain ⟨k, hk⟩ : ∃ k, k = x := ⟨_, rfl⟩
   subst hk
   refine .seq (.region ?_)
   refine .w (.bin rfl rfl BinR.lss_i) ?_
   refine .nil (.tn (.seq ?_))
   refine .cn rfl (fun hc5 => ?_) (fun hc5 => ?_)
   ·have hf := hF _ (fz_mem (l := fs) (k := k) (by omega))
    have hfe : (fs.getD k FZ).2 ≤ 255 := hf.2.1
    refine .skip (.tn (.seq (.block (.seq (.region ?_)))))
    refine .w (.ix Tryz.underlying118 sz_117 rfl rfl) (.w (.as (v' := .agg (facC (fs.getD k FZ)).toArray) (.lda agg_117 rfl (hm := by first | exact AM.own zq14 (by rw [bks_len]; omega) | exact AM.ro zq14 (by rw [bks_len]; omega) | exact AM.ownAt zq14 (by rw [bks_len]; omega) | exact AM.rd zq6 (by rw [bks_len]; omega) | exact AM.row zq7 (by rw [bks_len]; omega))) (congrArg (fun l : List Value => Value.agg l.toArray) (bks_piece (f := facC) FZ (by omega)))) (.al zero_117 fun b9 => ?_))
    refine .sa sz_117 ?_ (h1 := (FS.one (f := facC) _))
    refine .nil (.tn (.seq (.region ?_)))
    refine .w (.fieldAddr fa_117_1 rfl) (.w (.as (v' := it (fs.getD k FZ).2) (.ld one_3 rfl) rfl) (.w (.move rfl) ?_))
    refine .nil (.tn (.block ?_))
    refine .lp (ι := Nat) (fun x => x ≤ (fs.getD k FZ).2) (fun T x => (49, it (x : Int)) :: T) (fun T _ => T) (fun T x => Res.cells b7 ((wd (prodF (fs.take k) * (fs.getD k FZ).1 ^ x)).map u64) 40 :: T) (fun x => (fs.getD k FZ).2 - x) 0 [2, 7, 9, 41, 42, 43, 44, 45, 46, 47, 48, 71, 72] ?_ (fun x hx => ?_) (hH := (by rw [Nat.pow_zero, Nat.mul_one]; repeat (first | exact Picks.nil _ | apply Picks.cons | exact Pull.here _ _ | apply Pull.there)))
    ·exact Nat.zero_le _
    obtain ⟨j, hj⟩ : ∃ j, j = x := ⟨_, rfl⟩
    subst hj
    refine .seq (.region ?_)
    refine .w (.bin rfl rfl BinR.lss_i) ?_
    refine .nil (.tn (.seq ?_))
    refine .cn rfl (fun hc6 => ?_) (fun hc6 => ?_)
    ·have hW := prodF_le hF (k := k) (j := j + 1) (by omega) (by omega)
     rw [Nat.pow_succ, ← Nat.mul_assoc] at hW
     have hW2 : (prodF (fs.take k) * (fs.getD k FZ).1 ^ j * (fs.getD k FZ).1) < 115792089237316195423570985008687907853269984665640564039457584007913129639936 := Nat.lt_of_le_of_lt hW hlt
     have hW3 := Nat.lt_of_le_of_lt (prodF_le hF (k := k) (j := j) (by omega) (by omega)) hlt
     refine .skip (.tn (.seq (.block (.seq (.region ?_)))))
     refine .w (.lda agg_40 rfl) (.w (.fieldAddr fa_117_0 rfl) (.w (.as (v' := .agg ((wd (fs.getD k FZ).1).map u64).toArray) (.lda agg_40 rfl) (by rfl)) (.c (f213_spec (prodF (fs.take k) * (fs.getD k FZ).1 ^ j) (fs.getD k FZ).1 hW3 hf.2.2.2) body_213 ?_)))
     refine .al zero_254 fun b10 => ?_
     first | refine .sa sz_254 ?_ | refine .so sz_254 ?_ | refine .sr sz_254 ?_
     refine .nil (.tn (.seq (.seq (.region ?_))))
     refine .w (.lda agg_254 rfl) (.w (.ixA (j := 0) Tryz.underlying254 sz_22 rfl rfl) (.w (.as (v' := u64 (wat8 (prodF (fs.take k) * (fs.getD k FZ).1 ^ j * (fs.getD k FZ).1) 0)) (.ld one_22 rfl (hj := by exact wd8_at _ (by decide))) rfl) (.w (.ixA (j := 1) Tryz.underlying254 sz_22 rfl rfl) (.w (.as (v' := u64 (wat8 (prodF (fs.take k) * (fs.getD k FZ).1 ^ j * (fs.getD k FZ).1) 1)) (.ld one_22 rfl (hj := by exact wd8_at _ (by decide))) rfl) (.w (.ixA (j := 2) Tryz.underlying254 sz_22 rfl rfl) (.w (.as (v' := u64 (wat8 (prodF (fs.take k) * (fs.getD k FZ).1 ^ j * (fs.getD k FZ).1) 2)) (.ld one_22 rfl (hj := by exact wd8_at _ (by decide))) rfl) ?_))))))
     refine .w (.ixA (j := 3) Tryz.underlying254 sz_22 rfl rfl) (.w (.as (v' := u64 (wat8 (prodF (fs.take k) * (fs.getD k FZ).1 ^ j * (fs.getD k FZ).1) 3)) (.ld one_22 rfl (hj := by exact wd8_at _ (by decide))) rfl) (.w (.as (v' := .agg ((wd8 (prodF (fs.take k) * (fs.getD k FZ).1 ^ j * (fs.getD k FZ).1)).map u64).toArray) (.build bld_254 rfl rfl) (by rw [wd8_low hW2]; rfl)) (.w (.as (v' := .bool false) (.bin rfl rfl (neq_wide rfl rfl)) (congrArg Value.bool (by simp))) ?_)))
     refine .nil (.tn ?_)
     refine .cf rfl ?_
     refine .skip (.tn (.region ?_))
     refine .w (.cutArr (l := 0) (h := 4) Tryz.underlying254 sz_22 rfl rfl ⟨_, rfl⟩ zq5 zq5 zq5) (.w (.s2a Tryz.underlying40 rfl (by decide)) (.w (.as (v' := .agg ((wd (prodF (fs.take k) * (fs.getD k FZ).1 ^ j * (fs.getD k FZ).1)).map u64).toArray) (.lda agg_40 rfl) (congrArg (fun l : List Value => Value.agg l.toArray) (by rw [List.drop_zero, ← List.map_take, wd8_take]))) ?_))
     first | refine .sa sz_40 ?_ | refine .so sz_40 ?_ | refine .sr sz_40 ?_
     refine .nil (.block_normal (.tn (.region ?_)))
     refine .w (.asI ((j + 1 : Nat) : Int) (.bin rfl rfl (BinR.add_i (by first | (constructor <;> omega) | (constructor <;> simp <;> omega))))) (.w (.move rfl) (.nil ?_))
     rw [Nat.mul_assoc, ← Nat.pow_succ]
     refine .hd (j + 1) ?_
     exact ⟨by omega, by omega⟩
    ·obtain rfl : j = (fs.getD k FZ).2 := by omega
     rw [← prodF_succ (by omega)]
     refine .exit (.then_exit (.then_exit (.block_exit (.block_normal (.tn (.region ?_))))))
     refine .w (.asI ((k + 1 : Nat) : Int) (.bin rfl rfl (BinR.add_i (by first | (constructor <;> omega) | (constructor <;> simp <;> omega))))) (.w (.move rfl) (.nil ?_))
     refine .hd (k + 1) ?_
     exact ⟨by omega, by omega⟩
   ·obtain rfl : k = fs.length := by omega
    rw [List.take_length]
    refine .exit (.then_exit (.then_exit (.block_exit (.tn (.seq (.region ?_))))))
    refine .w (.lda agg_40 rfl) ?_
    first | refine .sa sz_40 ?_ | refine .so sz_40 ?_ | refine .sr sz_40 ?_
    refine .w (.assign rfl) ?_
    refine .nil (.tn (.ret ?_))
    exact .dn [] [] (res2 rfl (.cl agg_40) (.tmp rfl)) ⟨rfl, rfl, rfl⟩
end Go.Proofs.YtmhiapebljfebaaGreatDoor

/- Walk: one proof. -/
namespace Go.Proofs.YtmhiapebljfebaaGreatDoor
open Go.RowKit
set_option maxRecDepth 100000
set_option linter.unusedVariables false
set_option linter.unusedSimpArgs false
theorem f188_spec (p : PF) (good : StepOk p.N p.G p.fs) :
  Spec Tryz.prog 188 #[(.agg (prfC p).toArray)] [Res.var 3 ((wd 2).map u64), Res.rd p.v p.fs.length 5 (bks facC p.fs)] []
   (fun r Γ' H' => r = (it 0) ∧ Γ' = [] ∧ H' = []) := by
 refine Spec.of_args Tryz.func188 rfl Tryz.ntmps188 (by simp) fun w => ?_
 obtain ⟨g40, gF, gP, gO, g2, hN, hG, gpw, gne⟩ := good
 refine .seq (.region ?_)
 refine .bx fun b1 => ?_
 refine .w (.assign rfl) ?_
 refine .nil (.tn (.seq (.region ?_)))
 refine .w (.fieldAddr fa_120_2 rfl) (.w (.ld one_118 rfl) (.c (f209_spec p.v p.fs g40 (fun x hx => (gF x hx).1) (by rw [gP]; omega)) body_209 ?_))
 rw [gP]
 refine .w (.move rfl) (.w (.as (v' := .agg ((wd (p.N - 1)).map u64).toArray) (.extract rfl rfl) rfl) (.w (.as (v' := it 0) (.extract rfl rfl) rfl) (.al zero_40 fun b3 => ?_)))
 first | refine .sa sz_40 ?_ | refine .so sz_40 ?_ | refine .sr sz_40 ?_
 refine .w (.assign rfl) ?_
 refine .nil (.tn (.seq (.seq (.region ?_))))
 refine .w (.move rfl) (.w (.as (v' := .bool false) (.bin rfl rfl BinR.neq_i) rfl) ?_)
 refine .nil (.tn ?_)
 refine .cf rfl ?_
 refine .skip (.tn (.seq (.region ?_)))
 refine .w (.as (v' := .agg ((wd 1).map u64).toArray) (.build bld_40 rfl rfl) rfl) (.al zero_40 fun b5 => ?_)
 first | refine .sa sz_40 ?_ | refine .so sz_40 ?_ | refine .sr sz_40 ?_
 refine .nil (.tn (.seq (.region ?_)))
 refine .w (.fieldAddr fa_120_0 rfl) (.w (.as (v' := .agg ((wd p.N).map u64).toArray) (.lda agg_40 rfl) (by rfl)) (.w (.lda agg_40 rfl) (.c (f195_spec p.N 1 hN (by decide)) body_195 ?_)))
 refine .w (.move rfl) (.w (.as (v' := .agg ((wd (p.N - 1)).map u64).toArray) (.extract rfl rfl) (by rw [← sub_one (by omega) hN]; rfl)) (.w (.extract rfl rfl) (.al zero_40 fun b6 => ?_)))
 first | refine .sa sz_40 ?_ | refine .so sz_40 ?_ | refine .sr sz_40 ?_
 refine .w (.assign rfl) ?_
 refine .nil (.tn (.seq (.region ?_)))
 refine .w (.fieldAddr fa_120_0 rfl) (.w (.as (v' := .agg ((wd p.N).map u64).toArray) (.lda agg_40 rfl) (by rfl)) (.cb (f110_spec p.N hN (by omega) gO) body_110 ?_ (h0 := by rintro _ _ _ ⟨_, _, h, _⟩; exact h)))
 rintro _ _ ⟨px, rfl, _, rfl⟩
 refine .ap ?_
 refine .w (.move rfl) (.w (.extract rfl rfl) (.w (.extract rfl rfl) (.w (.assign rfl) (.w (.assign rfl) ?_))))
 refine .nil (.tn (.seq (.seq ?_)))
 refine JC.draw (.one 0 (.one 1 (.one 2 (.one 3 (.one 4 (.one 5 (.one 6 (.one 7 (.one 8 (.one 9 (.one 10 (.one 11 (.one 13 (.one 12 (.one 14 (.one 15 .nil)))))))))))))))) (fun i => ([] : List Nat).contains i) (fun i => ([12] : List Nat).contains i) (fun i => ([0, 1, 2, 5, 6, 7, 8, 9, 14, 15] : List Nat).contains i) mixed (by kernel_rfl) (by decide) (by kernel_rfl) ?_
 refine .uw rfl (.move rfl) (.uw rfl (.as (v' := .bool false) (.bin rfl rfl BinR.neq_i) rfl) (.uw rfl (.move rfl) ?_))
 refine JR.vgt (g := 40) rfl rfl rfl rfl rfl rfl (.lda agg_40 rfl) (by decide) ?_
 refine JR.vgt (g := 40) rfl rfl rfl rfl rfl rfl (.lda agg_40 rfl) (by decide) ?_
 refine JR.ugt (g := 40) rfl rfl rfl rfl rfl rfl (.as (v' := .bool false) (.bin rfl rfl (neq_nat wd_len' wd_len')) (congrArg Value.bool (by simp))) (by decide) ?_
 refine JR.u rfl rfl rfl (Yv.pick0 rfl rfl rfl) (by decide) ?_
 refine .uw rfl (.move rfl) ?_
 refine JR.ugt (g := 45) rfl rfl rfl rfl rfl rfl (.move rfl) (by decide) ?_
 refine JR.ugt (g := 45) rfl rfl rfl rfl rfl rfl (.fieldAddr fa_120_1 rfl) (by decide) ?_
 refine JR.vgt (g := 45) rfl rfl rfl rfl rfl rfl (.as (v' := .agg ((wd p.G).map u64).toArray) (.lda agg_40 rfl) (by rfl)) (by decide) ?_
 refine JR.vgt (g := 45) rfl rfl rfl rfl rfl rfl (.lda agg_40 rfl) (by decide) ?_
 refine JR.vgt (g := 45) rfl rfl rfl rfl rfl rfl (.lda agg_40 rfl) (by decide) ?_
 refine JR.mgt (g := 45) rfl rfl rfl rfl rfl (.c (f111_spec px p.N hN (by omega) gO p.G (p.N - 1) hG (Nat.lt_of_le_of_lt (Nat.sub_le _ _) hN)) body_111) (by decide) ?_
 rintro _ _ _ ⟨rfl, rfl, rfl⟩
 rw [gpw]
 refine kp ?_
 refine JR.ugt (g := 45) rfl rfl rfl rfl rfl rfl (.as (v' := .bool false) (.bin rfl rfl (neq_nat wd_len' wd_len')) (congrArg Value.bool (by simp))) (by decide) ?_
 refine JR.u rfl rfl rfl (Yv.pick0 rfl rfl rfl) (by decide) ?_
 refine .nil (.tn ?_)
 refine .cf rfl ?_
 refine .skip (.tn (.seq (.seq (.region ?_))))
 refine .w (.fieldAddr fa_120_2 rfl) (.w (.ld one_118 rfl) (.w (.len Tryz.underlying118 rfl) (.w (.move rfl) ?_)))
 refine .nil (.tn (.block ?_))
 refine .lp (ι := Nat) (fun x => x ≤ p.fs.length) (fun T x => (57, it (x : Int)) :: T) (fun T _ => T) (fun T _ => T) (fun x => p.fs.length - x) 0 [1, 5, 6, 8, 55, 56] ?_ (fun x hx => ?_)
 ·exact Nat.zero_le _
 obtain ⟨k, hk⟩ : ∃ k, k = x := ⟨_, rfl⟩
 subst hk
 refine .seq (.region ?_)
 refine .w (.bin rfl rfl BinR.lss_i) ?_
 refine .nil (.tn (.seq ?_))
 refine .cn rfl (fun hc3 => ?_) (fun hc3 => ?_)
 ·have hf := gF _ (fz_mem (l := p.fs) (k := k) (by omega))
  have hne := gne _ (fz_mem (l := p.fs) (k := k) (by omega))
  refine .skip (.tn (.seq (.block (.seq (.region ?_)))))
  refine .w (.ix Tryz.underlying118 sz_117 rfl rfl) (.w (.as (v' := .agg (facC (p.fs.getD k FZ)).toArray) (.lda agg_117 rfl (hm := by first | exact AM.own zq14 (by rw [bks_len]; omega) | exact AM.ro zq14 (by rw [bks_len]; omega) | exact AM.ownAt zq14 (by rw [bks_len]; omega) | exact AM.rd zq6 (by rw [bks_len]; omega) | exact AM.row zq7 (by rw [bks_len]; omega))) (congrArg (fun l : List Value => Value.agg l.toArray) (bks_piece (f := facC) FZ (by omega)))) (.al zero_117 fun b11 => ?_))
  refine .sa sz_117 ?_ (h1 := (FS.one (f := facC) _))
  refine .nil (.tn (.seq (.seq (.region ?_))))
  refine .w (.fieldAddr fa_117_0 rfl) (.w (.as (v' := .agg ((wd (p.fs.getD k FZ).1).map u64).toArray) (.lda agg_40 rfl) (by rfl)) (.w (.as (v' := .agg ((wd 2).map u64).toArray) (.lda agg_40 rfl) rfl) (.c (f52_spec (p.fs.getD k FZ).1 2 hf.1.2.2.2 (by decide)) body_52 ?_)))
  refine .w (.as (v' := .bool false) (.bin rfl rfl BinR.lss_i) (congrArg Value.bool (decide_eq_false (by rw [cmp_lt]; have := hf.2; omega)))) ?_
  refine .nil (.tn ?_)
  refine .cf rfl ?_
  refine .skip (.tn (.seq (.region ?_)))
  refine .w (.lda agg_40 rfl) (.w (.fieldAddr fa_117_0 rfl) (.w (.as (v' := .agg ((wd (p.fs.getD k FZ).1).map u64).toArray) (.lda agg_40 rfl) (by rfl)) (.c (f113_spec (p.N - 1) (p.fs.getD k FZ).1 (Nat.lt_of_le_of_lt (Nat.sub_le _ _) hN) hf.1.2.2.2) body_113 ?_)))
  refine .w (.move rfl) (.w (.as (v' := .agg ((wd ((p.N - 1) / (p.fs.getD k FZ).1)).map u64).toArray) (.extract rfl rfl) rfl) (.w (.as (v' := .agg ((wd (remF (p.N - 1) (p.fs.getD k FZ).1)).map u64).toArray) (.extract rfl rfl) rfl) (.w (.as (v' := it 0) (.extract rfl rfl) (congrArg it (if_neg (by have := hf.2; omega)))) (.al zero_40 fun b12 => ?_))))
  refine .al zero_40 fun b13 => ?_
  first | refine .sa sz_40 ?_ | refine .so sz_40 ?_ | refine .sr sz_40 ?_
  first | refine .sa sz_40 ?_ | refine .so sz_40 ?_ | refine .sr sz_40 ?_
  refine .w (.assign rfl) ?_
  refine .nil (.tn (.seq ?_))
  refine JC.draw (.one 0 (.one 1 (.one 2 (.one 3 (.one 5 (.one 4 (.one 6 .nil))))))) (fun i => ([] : List Nat).contains i) (fun i => ([4] : List Nat).contains i) (fun i => ([0, 1, 6] : List Nat).contains i) mixed (by kernel_rfl) (by decide) (by kernel_rfl) ?_
  refine .uw rfl (.move rfl) (.uw rfl (.fieldAddr fa_120_1 rfl) (.w rfl (.as (v' := .agg ((wd p.G).map u64).toArray) (.lda agg_40 rfl) (by rfl)) (.w rfl (.lda agg_40 rfl) (.w rfl (.lda agg_40 rfl) ?_))))
  refine .mw rfl (.c (f111_spec px p.N hN (by omega) gO p.G ((p.N - 1) / (p.fs.getD k FZ).1) hG (Nat.lt_of_le_of_lt (Nat.div_le_self _ _) (Nat.lt_of_le_of_lt (Nat.sub_le _ _) hN))) body_111) ?_
  rintro _ _ _ ⟨rfl, rfl, rfl⟩
  refine kp ?_
  refine .uw rfl (.as (v' := .bool false) (.bin rfl rfl (eql_nat wd_len' wd_len')) (congrArg Value.bool (decide_eq_false (by rw [wd_eq (Nat.lt_trans (Nat.mod_lt _ (by omega)) hN) (by decide)]; exact hne)))) ?_
  refine .nil (.tn ?_)
  refine .cf rfl ?_
  refine .skip (.block_normal (.tn (.region ?_)))
  refine .w (.asI ((k + 1 : Nat) : Int) (.bin rfl rfl (BinR.add_i (by first | (constructor <;> omega) | (constructor <;> simp <;> omega))))) (.w (.move rfl) (.nil ?_))
  refine .hd (k + 1) ?_
  exact ⟨by omega, by omega⟩
 ·skip
  refine .exit (.then_exit (.then_exit (.block_exit (.tn (.seq (.region ?_))))))
  refine .w (.assign rfl) ?_
  refine .nil (.tn (.ret ?_))
  exact .dn [] [] (res1 rfl (.tmp rfl)) ⟨rfl, rfl, rfl⟩
end Go.Proofs.YtmhiapebljfebaaGreatDoor

/- Walks: lists of proofs; members; powers. -/
namespace Go.Proofs.YtmhiapebljfebaaGreatDoor
open Go.RowKit
set_option maxRecDepth 100000
set_option linter.unusedVariables false
set_option linter.unusedSimpArgs false
theorem f157_spec (bm : Nat) (M : MM N256 Int) (n : Nat) (hn : n < 115792089237316195423570985008687907853269984665640564039457584007913129639936) :
  Spec Tryz.prog 157 #[(.map (some bm)), (.agg ((wd n).map u64).toArray)] [mpR bm ntV itK M] []
   (fun r Γ' H' => r = (.bool (M.get ⟨n, hn⟩).isSome) ∧ Γ' = [] ∧ H' = []) := by
 refine Spec.of_args Tryz.func157 rfl Tryz.ntmps157 (by simp) fun w => ?_
 refine .seq (.region ?_)
 refine .bx fun b3 => ?_
 refine .w (.assign rfl) ?_
 refine .nil (.tn (.seq (.region ?_)))
 refine .w (.move rfl) (.w (.lda agg_40 rfl) (.w (.lk2 (⟨n, hn⟩) Tryz.underlying224 mkey_224 zf_3) (.w (.move rfl) (.w (.extract rfl rfl) (.w (.as (v' := .bool (M.get ⟨n, hn⟩).isSome) (.extract rfl rfl) rfl) (.w (.assign rfl) ?_))))))
 refine .w (.assign rfl) ?_
 refine .nil (.tn (.seq (.region ?_)))
 refine .w (.move rfl) (.w (.assign rfl) ?_)
 refine .nil (.tn (.ret ?_))
 exact .dn [] [] (res1 rfl (.tmp rfl)) ⟨rfl, rfl, rfl⟩

theorem f156_spec (lv : Value) (L : List PF) (hg : GoodL (L.map PF.pd)) :
  Spec Tryz.prog 156 #[lv] [Res.var 3 ((wd 2).map u64), Res.rd lv L.length 9 (bks prfC L), Res.all (facRes L)] []
   (fun r Γ' H' => ∃ bm M, KI L L.length M ∧ r = .tuple #[.map (some bm), it 0] ∧ Γ' = [] ∧ H' = [mpR bm ntV itK M]) := by
 refine Spec.of_args Tryz.func156 rfl Tryz.ntmps156 (by simp) fun w => ?_
 have hl40 : L.length ≤ 40 := by have := hg.1; simpa using this
 refine .seq (.region ?_)
 refine .w (.assign rfl) (.w (.assign rfl) ?_)
 refine .nil (.tn (.seq (.region ?_)))
 refine .mm ntV itK fun b10 => ?_
 refine .w (.as (v' := ntV n2) (.lda agg_40 rfl) (by rfl)) ?_
 refine .ins n2 (0 : Int) Tryz.underlying224 mkey_224 ?_
 refine .w (.move rfl) (.w (.assign rfl) ?_)
 refine .nil (.tn (.seq (.seq (.region ?_))))
 refine .w (.move rfl) (.w (.len Tryz.underlying56 rfl) (.w (.bin rfl rfl BinR.gtr_i) ?_))
 refine .nil (.tn ?_)
 refine .cn rfl (fun hc1 => ?_) (fun hc1 => ?_)
 ·exfalso; omega
 ·refine .skip (.tn (.seq (.seq (.region ?_))))
  refine .w (.move rfl) (.w (.len Tryz.underlying56 rfl) (.w (.move rfl) ?_))
  refine .nil (.tn (.block ?_))
  refine .lp (ι := Nat × MM N256 Int) (fun x => x.1 ≤ L.length ∧ KI L x.1 x.2) (fun T x => (19, it (x.1 : Int)) :: T) (fun T _ => T) (fun T x => mpR b10 ntV itK x.2 :: T) (fun x => L.length - x.1) (0, MM.nil.put n2 0) [4, 17, 18, 50] ?_ (fun x hx => ?_)
  ·exact ⟨Nat.zero_le _, ki_0 L⟩
  obtain ⟨k, M⟩ := x
  obtain ⟨hk, hK⟩ := hx
  dsimp only at hk hK ⊢
  refine .seq (.region ?_)
  refine .w (.bin rfl rfl BinR.lss_i) ?_
  refine .nil (.tn (.seq ?_))
  refine .cn rfl (fun hc2 => ?_) (fun hc2 => ?_)
  ·have hst := good_step hg (k := k) (by omega)
   have hfs := fun x hx => good_fac hg (k := k) (x := x) (by omega) hx
   have h40 : (L.getD k PZ).fs.length ≤ 40 := hst.1
   refine .skip (.tn (.seq (.block (.seq (.region ?_)))))
   refine .w (.move rfl) (.w (.ix Tryz.underlying56 sz_120 rfl rfl) (.w (.as (v' := .agg (prfC (L.getD k PZ)).toArray) (.lda agg_120 rfl (hm := by first | exact AM.own zq14 (by rw [bks_len]; omega) | exact AM.ro zq14 (by rw [bks_len]; omega) | exact AM.ownAt zq14 (by rw [bks_len]; omega) | exact AM.rd zq6 (by rw [bks_len]; omega) | exact AM.row zq7 (by rw [bks_len]; omega))) (congrArg (fun l : List Value => Value.agg l.toArray) (bks_piece (f := prfC) PZ (by omega)))) ?_))
   refine JO.open (r := Res.rd (L.getD k PZ).v (L.getD k PZ).fs.length 5 (bks facC (L.getD k PZ).fs)) zq7 (fac_res (by omega)) ?_
   refine .al zero_120 fun b6 => ?_
   refine .w (.assign rfl) (.sa sz_120 ?_ (h1 := (FS.one (f := prfC) _)))
   refine .nil (.tn (.seq (.seq (.region ?_))))
   refine .w (.fieldAddr fa_120_2 rfl) (.w (.ld one_118 rfl) (.w (.len Tryz.underlying118 rfl) (.w (.move rfl) ?_)))
   refine .nil (.tn (.block ?_))
   refine .lp (ι := Nat) (fun x => x ≤ (L.getD k PZ).fs.length) (fun T x => (27, it (x : Int)) :: T) (fun T _ => T) (fun T _ => T) (fun x => (L.getD k PZ).fs.length - x) 0 [4, 5, 6, 9, 17, 18, 19, 20, 21, 22, 23, 24, 25, 26, 38, 39, 40, 41, 42, 43, 44, 45, 46, 47, 48, 49, 50] ?_ (fun x hx => ?_)
   ·exact Nat.zero_le _
   obtain ⟨i, hi⟩ : ∃ i, i = x := ⟨_, rfl⟩
   subst hi
   refine .seq (.region ?_)
   refine .w (.bin rfl rfl BinR.lss_i) ?_
   refine .nil (.tn (.seq ?_))
   refine .cn rfl (fun hc3 => ?_) (fun hc3 => ?_)
   ·have hf := hst.2.1 _ (fz_mem (l := (L.getD k PZ).fs) (k := i) (by omega))
    have hkn : (M.get ⟨((L.getD k PZ).fs.getD i FZ).1, hf.1.2.2.2⟩).isSome = true := (hK _).2 (hfs _ (fz_mem (by omega)))
    refine .skip (.tn (.seq (.block (.seq (.region ?_)))))
    refine .w (.ix Tryz.underlying118 sz_117 rfl rfl) (.w (.as (v' := .agg (facC ((L.getD k PZ).fs.getD i FZ)).toArray) (.lda agg_117 rfl (hm := by first | exact AM.own zq14 (by rw [bks_len]; omega) | exact AM.ro zq14 (by rw [bks_len]; omega) | exact AM.ownAt zq14 (by rw [bks_len]; omega) | exact AM.rd zq6 (by rw [bks_len]; omega) | exact AM.row zq7 (by rw [bks_len]; omega))) (congrArg (fun l : List Value => Value.agg l.toArray) (bks_piece (f := facC) FZ (by omega)))) (.al zero_117 fun b8 => ?_))
    refine .sa sz_117 ?_ (h1 := (FS.one (f := facC) _))
    refine .nil (.tn (.seq (.region ?_)))
    refine .w (.move rfl) (.w (.fieldAddr fa_117_0 rfl) (.w (.as (v' := .agg ((wd ((L.getD k PZ).fs.getD i FZ).1).map u64).toArray) (.lda agg_40 rfl) (by rfl)) (.c (f157_spec b10 M ((L.getD k PZ).fs.getD i FZ).1 hf.1.2.2.2) body_157 ?_)))
    refine .w (.as (v' := .bool false) (.not rfl) (congrArg Value.bool (by rw [hkn]; rfl))) ?_
    refine .nil (.tn ?_)
    refine .cf rfl ?_
    refine .skip (.block_normal (.tn (.region ?_)))
    refine .w (.asI ((i + 1 : Nat) : Int) (.bin rfl rfl (BinR.add_i (by first | (constructor <;> omega) | (constructor <;> simp <;> omega))))) (.w (.move rfl) (.nil ?_))
    refine .hd (i + 1) ?_
    exact ⟨by omega, by omega⟩
   ·skip
    refine .exit (.then_exit (.then_exit (.block_exit (.tn (.seq (.seq (.region ?_)))))))
    refine .w (.as (v' := .agg (prfC (L.getD k PZ)).toArray) (.lda agg_120 rfl) (by rfl)) (.c (f188_spec (L.getD k PZ) hst) body_188 ?_)
    refine .w (.assign rfl) ?_
    refine .nil (.tn (.seq (.region ?_)))
    refine .w (.move rfl) (.w (.as (v' := .bool false) (.bin rfl rfl BinR.neq_i) rfl) ?_)
    refine .nil (.tn ?_)
    refine .cf rfl ?_
    refine .skip (.tn (.region ?_))
    refine .w (.move rfl) (.w (.fieldAddr fa_120_0 rfl) (.w (.as (v' := .agg ((wd (L.getD k PZ).N).map u64).toArray) (.lda agg_40 rfl) (by rfl)) (.w (.move rfl) (.w (.bin rfl rfl (BinR.add_i (by first | (constructor <;> omega) | (constructor <;> simp <;> omega)))) ?_))))
    refine .mu (⟨(L.getD k PZ).N, hst.2.2.2.2.2.1⟩) ((k : Int) + 1) Tryz.underlying224 mkey_224 ?_
    refine .nil (.block_normal (.tn (.region ?_)))
    refine .w (.asI ((k + 1 : Nat) : Int) (.bin rfl rfl (BinR.add_i (by first | (constructor <;> omega) | (constructor <;> simp <;> omega))))) (.w (.move rfl) (.nil ?_))
    refine .hd (k + 1, M.put ⟨(L.getD k PZ).N, hst.2.2.2.2.2.1⟩ ((k : Int) + 1)) ?_
    exact ⟨⟨by dsimp only; omega, ki_succ hK _ _⟩, by dsimp only; omega⟩
  ·obtain rfl : k = L.length := by omega
   refine .exit (.then_exit (.then_exit (.block_exit (.tn (.seq (.region ?_))))))
   refine .w (.move rfl) (.w (.assign rfl) (.w (.assign rfl) ?_))
   refine .nil (.tn (.ret ?_))
   exact .dn [] [mpR b10 ntV itK M] (res2 rfl (.tmp rfl) (.tmp rfl)) ⟨b10, M, hK, rfl, rfl, rfl⟩

theorem f109_spec (lv : Value) (L : List PF) (hg : GoodL (L.map PF.pd)) (n : Nat) (hn : n < 115792089237316195423570985008687907853269984665640564039457584007913129639936) (hin : ∃ j, j < L.length ∧ (L.getD j PZ).N = n) :
  Spec Tryz.prog 109 #[lv, (.agg ((wd n).map u64).toArray)] [Res.var 3 ((wd 2).map u64), Res.rd lv L.length 9 (bks prfC L), Res.all (facRes L)] []
   (fun r Γ' H' => r = (it 0) ∧ Γ' = [] ∧ H' = []) := by
 refine Spec.of_args Tryz.func109 rfl Tryz.ntmps109 (by simp) fun w => ?_
 refine .seq (.region ?_)
 refine .bx fun b3 => ?_
 refine .w (.assign rfl) ?_
 refine .nil (.tn (.seq (.region ?_)))
 refine .w (.move rfl) (.cb (f156_spec lv L hg) body_156 ?_ (h0 := by rintro _ _ _ ⟨_, _, _, _, h, _⟩; exact h))
 rintro _ _ ⟨bm, M, hK, rfl, _, rfl⟩
 refine .ap ?_
 have hkn : (M.get ⟨n, hn⟩).isSome = true := (hK _).2 (.inr hin)
 refine .w (.move rfl) (.w (.extract rfl rfl) (.w (.as (v' := it 0) (.extract rfl rfl) rfl) (.w (.assign rfl) (.w (.assign rfl) ?_))))
 refine .nil (.tn (.seq (.seq (.region ?_))))
 refine .w (.move rfl) (.w (.as (v' := .bool true) (.bin rfl rfl BinR.eql_i) rfl) (.w (.move rfl) ?_))
 refine .gt (g := 14) rfl rfl rfl ?_
 refine .w (.move rfl) ?_
 refine .gt (g := 14) rfl rfl rfl ?_
 refine .w (.lda agg_40 rfl) ?_
 refine .gt (g := 14) rfl rfl rfl ?_
 refine .c (f157_spec bm M n hn) body_157 ?_
 refine .gt (g := 14) rfl rfl rfl ?_
 refine .w (.as (v' := .bool false) (.not rfl) (congrArg Value.bool (by rw [hkn]; rfl))) (.w (.pick1 rfl rfl rfl) ?_)
 refine .nil (.tn ?_)
 refine .cf rfl ?_
 refine .skip (.tn (.seq (.region ?_)))
 refine .w (.move rfl) (.w (.assign rfl) ?_)
 refine .nil (.tn (.ret ?_))
 exact .dn [] [] (res1 rfl (.tmp rfl)) ⟨rfl, rfl, rfl⟩

theorem f53_spec (γ : GP) :
  Spec Tryz.prog 53 #[(ptr γ.g 0)] [cGrp γ] []
   (fun r Γ' H' => r = (ptr γ.pq 0) ∧ Γ' = [] ∧ H' = []) := by
 refine Spec.of_args Tryz.func53 rfl Tryz.ntmps53 (by simp) fun w => ?_
 refine .seq (.region ?_)
 refine .w (.assign rfl) ?_
 refine .nil (.tn (.seq (.region ?_)))
 refine .w (.move rfl) (.w (.nilCheck rfl) (.w (.fieldAddr fa_165_2 rfl) (.w (.as (v' := ptr γ.pq 0) (.ld one_91 rfl) (by rfl)) (.w (.assign rfl) ?_))))
 refine .nil (.tn (.ret ?_))
 exact .dn [] [] (res1 rfl (.tmp rfl)) ⟨rfl, rfl, rfl⟩

theorem f120_spec (γ : GP) (hγ : GOk γ) (a : Nat) (ha : a < 115792089237316195423570985008687907853269984665640564039457584007913129639936) :
  Spec Tryz.prog 120 #[(ptr γ.g 0), (.agg ((wd a).map u64).toArray)] [Res.var 2 ((wd 1).map u64)] [cGrp γ, Res.mod γ.px γ.P, Res.mod γ.pq γ.Q]
   (fun r Γ' H' => r = .bool (memB γ a) ∧ Γ' = [] ∧ H' = [cGrp γ, Res.mod γ.px γ.P, Res.mod γ.pq γ.Q]) := by
 refine Spec.of_args Tryz.func120 rfl Tryz.ntmps120 (by simp) fun w => ?_
 refine .seq (.region ?_)
 refine .bx fun b3 => ?_
 refine .w (.assign rfl) ?_
 refine .nil (.tn (.seq ?_))
 refine JC.draw (.one 0 (.one 1 (.one 2 (.one 3 (.one 4 (.one 5 (.one 6 (.one 7 (.one 8 (.one 9 (.one 10 (.one 11 (.one 12 (.one 13 (.one 14 (.one 15 (.one 16 (.one 17 (.one 18 (.one 19 (.one 20 (.one 21 (.one 22 (.one 23 (.one 25 (.one 24 (.one 26 (.one 27 (.one 28 .nil))))))))))))))))))))))))))))) (fun i => ([] : List Nat).contains i) (fun i => ([10, 24] : List Nat).contains i) (fun i => ([1, 2, 3, 5, 6, 7, 8, 11, 12, 13, 14, 15, 16, 19, 20, 21, 22, 26, 27, 28] : List Nat).contains i) mixed (by kernel_rfl) (by decide) (by kernel_rfl) ?_
 refine .w rfl (.lda agg_40 rfl) (.uw rfl (.as (v' := .agg ((wd 0).map u64).toArray) (.build bld_40 rfl rfl) rfl) (.uw rfl (.as (v' := .bool (decide (a ≠ 0))) (.bin rfl rfl (neq_nat wd_len' wd_len')) (congrArg Value.bool (nz_b ha))) (.uw rfl (.move rfl) ?_)))
 refine JR.gsplit (g := 7) rfl (fun hg7 => ?_) (fun hg7 => ?_)
 ·have hg7' := hg7
  try simp only [decide_eq_true_eq, decide_eq_false_iff_not, Bool.not_eq_true', Bool.not_eq_false', ne_eq, Decidable.not_not, Bool.not_eq_true, Bool.and_eq_true, Bool.or_eq_true, BitVec.reduceToNat] at hg7'
  refine JR.vgt (g := 8) rfl rfl rfl rfl rfl hg7 (.lda agg_40 rfl) (by decide) ?_
  refine JR.ugt (g := 8) rfl rfl rfl rfl rfl hg7 (.move rfl) (by decide) ?_
  refine JR.ugt (g := 8) rfl rfl rfl rfl rfl hg7 (.nilCheck rfl) (by decide) ?_
  refine JR.ugt (g := 8) rfl rfl rfl rfl rfl hg7 (.fieldAddr fa_165_0 rfl) (by decide) ?_
  refine JR.ugt (g := 8) rfl rfl rfl rfl rfl hg7 (.fieldAddr fa_55_0 rfl) (by decide) ?_
  refine JR.vgt (g := 8) rfl rfl rfl rfl rfl hg7 (.as (v' := .agg ((wd γ.P).map u64).toArray) (.lda agg_40 rfl) (by rfl)) (by decide) ?_
  refine JR.mgt (g := 8) rfl rfl rfl rfl hg7 (.c (f52_spec a γ.P ha hγ.pb) body_52) (by decide) ?_
  rintro _ _ _ ⟨rfl, rfl, rfl⟩
  refine kp ?_
  refine JR.ugt (g := 8) rfl rfl rfl rfl rfl hg7 (.as (v' := .bool (decide (a < γ.P))) (.bin rfl rfl BinR.lss_i) (congrArg Value.bool (decide_eq_decide.2 (cmp_lt _ _)))) (by decide) ?_
  refine JR.u rfl rfl rfl (Yv.pick1 rfl hg7 rfl) (by decide) ?_
  refine .uw rfl (.move rfl) ?_
  refine JR.gsplit (g := 17) rfl (fun hg17 => ?_) (fun hg17 => ?_)
  ·have hg17' := hg17
   try simp only [decide_eq_true_eq, decide_eq_false_iff_not, Bool.not_eq_true', Bool.not_eq_false', ne_eq, Decidable.not_not, Bool.not_eq_true, Bool.and_eq_true, Bool.or_eq_true, BitVec.reduceToNat] at hg17'
   refine JR.ugt (g := 18) rfl rfl rfl rfl rfl hg17 (.move rfl) (by decide) ?_
   refine JR.ugt (g := 18) rfl rfl rfl rfl rfl hg17 (.nilCheck rfl) (by decide) ?_
   refine JR.ugt (g := 18) rfl rfl rfl rfl rfl hg17 (.fieldAddr fa_165_1 rfl) (by decide) ?_
   refine JR.vgt (g := 18) rfl rfl rfl rfl rfl hg17 (.as (v' := ptr γ.px 0) (.ld one_91 rfl) (by rfl)) (by decide) ?_
   refine JR.vgt (g := 18) rfl rfl rfl rfl rfl hg17 (.lda agg_40 rfl) (by decide) ?_
   refine JR.ugt (g := 18) rfl rfl rfl rfl rfl hg17 (.move rfl) (by decide) ?_
   refine JR.ugt (g := 18) rfl rfl rfl rfl rfl hg17 (.nilCheck rfl) (by decide) ?_
   refine JR.ugt (g := 18) rfl rfl rfl rfl rfl hg17 (.fieldAddr fa_165_0 rfl) (by decide) ?_
   refine JR.ugt (g := 18) rfl rfl rfl rfl rfl hg17 (.fieldAddr fa_55_1 rfl) (by decide) ?_
   refine JR.vgt (g := 18) rfl rfl rfl rfl rfl hg17 (.as (v' := .agg ((wd γ.Q).map u64).toArray) (.lda agg_40 rfl) (by rfl)) (by decide) ?_
   refine JR.vgt (g := 18) rfl rfl rfl rfl rfl hg17 (.as (v' := .agg ((wd 1).map u64).toArray) (.lda agg_40 rfl) (by rfl)) (by decide) ?_
   refine JR.mgt (g := 18) rfl rfl rfl rfl hg17 (.c (f111_spec γ.px γ.P hγ.pb hγ.p1 hγ.po a γ.Q ha hγ.qb) body_111) (by decide) ?_
   rintro _ _ _ ⟨rfl, rfl, rfl⟩
   refine kp ?_
   refine JR.ugt (g := 18) rfl rfl rfl rfl rfl hg17 (.as (v' := .bool (decide (a ^ γ.Q % γ.P = 1))) (.bin rfl rfl (eql_nat wd_len' wd_len')) (congrArg Value.bool (decide_eq_decide.2 (by rw [wd_eq (Nat.lt_trans (Nat.mod_lt _ (by have := hγ.p1; omega)) hγ.pb) (by decide)])))) (by decide) ?_
   refine JR.u rfl rfl rfl (Yv.pick1 rfl hg17 rfl) (by decide) ?_
   refine .uw rfl (.assign rfl) ?_
   refine .nil (.tn (.ret ?_))
   exact .dn [] [cGrp γ, Res.mod γ.px γ.P, Res.mod γ.pq γ.Q] (res1 rfl (.tmp rfl)) ⟨congrArg Value.bool (by unfold memB; first | (simp_all; done) | (simp_all; omega)), rfl, rfl⟩
  ·have hg17' := hg17
   try simp only [decide_eq_true_eq, decide_eq_false_iff_not, Bool.not_eq_true', Bool.not_eq_false', ne_eq, Decidable.not_not, Bool.not_eq_true, Bool.and_eq_true, Bool.or_eq_true, BitVec.reduceToNat] at hg17'
   refine JR.gf (g := 18) rfl rfl rfl rfl hg17 (by decide) ?_
   refine JR.gf (g := 18) rfl rfl rfl rfl hg17 (by decide) ?_
   refine JR.gf (g := 18) rfl rfl rfl rfl hg17 (by decide) ?_
   refine JR.gf (g := 18) rfl rfl rfl rfl hg17 (by decide) ?_
   refine JR.gf (g := 18) rfl rfl rfl rfl hg17 (by decide) ?_
   refine JR.gf (g := 18) rfl rfl rfl rfl hg17 (by decide) ?_
   refine JR.gf (g := 18) rfl rfl rfl rfl hg17 (by decide) ?_
   refine JR.gf (g := 18) rfl rfl rfl rfl hg17 (by decide) ?_
   refine JR.gf (g := 18) rfl rfl rfl rfl hg17 (by decide) ?_
   refine JR.gf (g := 18) rfl rfl rfl rfl hg17 (by decide) ?_
   refine JR.gf (g := 18) rfl rfl rfl rfl hg17 (by decide) ?_
   refine JR.gfm (g := 18) rfl rfl rfl rfl hg17 (by decide) ?_ ?_
   ·exact ⟨Subs.sub zq3, .inr (St.keep zq3 zq1)⟩
   refine JR.gf (g := 18) rfl rfl rfl rfl hg17 (by decide) ?_
   refine JR.u rfl rfl rfl (Yv.pick0 rfl hg17 rfl) (by decide) ?_
   refine .uw rfl (.assign rfl) ?_
   refine .nil (.tn (.ret ?_))
   exact .dn [] [cGrp γ, Res.mod γ.px γ.P, Res.mod γ.pq γ.Q] (res1 rfl (.tmp rfl)) ⟨congrArg Value.bool (by unfold memB; first | (simp_all; done) | (simp_all; omega)), rfl, rfl⟩
 ·have hg7' := hg7
  try simp only [decide_eq_true_eq, decide_eq_false_iff_not, Bool.not_eq_true', Bool.not_eq_false', ne_eq, Decidable.not_not, Bool.not_eq_true, Bool.and_eq_true, Bool.or_eq_true, BitVec.reduceToNat] at hg7'
  refine JR.gf (g := 8) rfl rfl rfl rfl hg7 (by decide) ?_
  refine JR.gf (g := 8) rfl rfl rfl rfl hg7 (by decide) ?_
  refine JR.gf (g := 8) rfl rfl rfl rfl hg7 (by decide) ?_
  refine JR.gf (g := 8) rfl rfl rfl rfl hg7 (by decide) ?_
  refine JR.gf (g := 8) rfl rfl rfl rfl hg7 (by decide) ?_
  refine JR.gf (g := 8) rfl rfl rfl rfl hg7 (by decide) ?_
  refine JR.gfm (g := 8) rfl rfl rfl rfl hg7 (by decide) ?_ ?_
  ·exact ⟨Subs.sub zq3, .inr (St.keep zq3 zq1)⟩
  refine JR.gf (g := 8) rfl rfl rfl rfl hg7 (by decide) ?_
  refine JR.u rfl rfl rfl (Yv.pick0 rfl hg7 rfl) (by decide) ?_
  refine .uw rfl (.move rfl) ?_
  refine JR.gf (g := 18) rfl rfl rfl rfl rfl (by decide) ?_
  refine JR.gf (g := 18) rfl rfl rfl rfl rfl (by decide) ?_
  refine JR.gf (g := 18) rfl rfl rfl rfl rfl (by decide) ?_
  refine JR.gf (g := 18) rfl rfl rfl rfl rfl (by decide) ?_
  refine JR.gf (g := 18) rfl rfl rfl rfl rfl (by decide) ?_
  refine JR.gf (g := 18) rfl rfl rfl rfl rfl (by decide) ?_
  refine JR.gf (g := 18) rfl rfl rfl rfl rfl (by decide) ?_
  refine JR.gf (g := 18) rfl rfl rfl rfl rfl (by decide) ?_
  refine JR.gf (g := 18) rfl rfl rfl rfl rfl (by decide) ?_
  refine JR.gf (g := 18) rfl rfl rfl rfl rfl (by decide) ?_
  refine JR.gf (g := 18) rfl rfl rfl rfl rfl (by decide) ?_
  refine JR.gfm (g := 18) rfl rfl rfl rfl rfl (by decide) ?_ ?_
  ·exact ⟨Subs.sub zq3, .inr (St.keep zq3 zq1)⟩
  refine JR.gf (g := 18) rfl rfl rfl rfl rfl (by decide) ?_
  refine JR.u rfl rfl rfl (Yv.pick0 rfl rfl rfl) (by decide) ?_
  refine .uw rfl (.assign rfl) ?_
  refine .nil (.tn (.ret ?_))
  exact .dn [] [cGrp γ, Res.mod γ.px γ.P, Res.mod γ.pq γ.Q] (res1 rfl (.tmp rfl)) ⟨congrArg Value.bool (by unfold memB; first | (simp_all; done) | (simp_all; omega)), rfl, rfl⟩

theorem f170_spec (γ : GP) (hγ : GOk γ) (n : Nat) (hn : n < 115792089237316195423570985008687907853269984665640564039457584007913129639936) :
  Spec Tryz.prog 170 #[(ptr γ.g 0), (.agg ((wd n).map u64).toArray)] [] [cGrp γ, Res.mod γ.px γ.P, Res.mod γ.pq γ.Q]
   (fun r Γ' H' => r = (.agg ((wd (γ.G ^ n % γ.P)).map u64).toArray) ∧ Γ' = [] ∧ H' = [cGrp γ, Res.mod γ.px γ.P, Res.mod γ.pq γ.Q]) := by
 refine Spec.of_args Tryz.func170 rfl Tryz.ntmps170 (by simp) fun w => ?_
 refine .seq (.region ?_)
 refine .bx fun b3 => ?_
 refine .al zero_40 fun b4 => ?_
 refine .nil (.tn (.seq ?_))
 refine JC.draw (.one 0 (.one 1 (.one 2 (.one 3 (.one 4 (.one 5 (.one 6 (.one 7 (.one 8 (.one 9 (.one 10 (.one 11 .nil)))))))))))) (fun i => ([10, 11] : List Nat).contains i) (fun i => ([10, 11] : List Nat).contains i) (fun i => ([0, 1, 2, 4, 5, 6, 7] : List Nat).contains i) mixed (by kernel_rfl) (by decide) (by kernel_rfl) ?_
 refine .uw rfl (.move rfl) (.uw rfl (.nilCheck rfl) (.uw rfl (.fieldAddr fa_165_1 rfl) (.w rfl (.as (v' := ptr γ.px 0) (.ld one_91 rfl) (by rfl)) (.uw rfl (.move rfl) (.uw rfl (.nilCheck rfl) (.uw rfl (.fieldAddr fa_165_0 rfl) ?_))))))
 refine .uw rfl (.fieldAddr fa_55_2 rfl) (.w rfl (.as (v' := .agg ((wd γ.G).map u64).toArray) (.lda agg_40 rfl) (by rfl)) (.w rfl (.lda agg_40 rfl) ?_))
 refine .mw rfl (.c (f111_spec γ.px γ.P hγ.pb hγ.p1 hγ.po γ.G n hγ.gb hn) body_111) ?_
 rintro _ _ _ ⟨rfl, rfl, rfl⟩
 refine kp ?_
 first | refine .mw0 rfl (.sa sz_40) ?_ | refine .mw0 rfl (.so sz_40) ?_ | refine .mw0 rfl (.sr sz_40) ?_
 rintro _ _ _ ⟨rfl, rfl⟩
 refine kp ?_
 refine .nil (.tn (.ret ?_))
 exact .dn [] [cGrp γ, Res.mod γ.px γ.P, Res.mod γ.pq γ.Q] (res1 rfl (.cl agg_40)) ⟨rfl, rfl, rfl⟩

theorem f200_spec (lv nv : Value) (l n : List Nat) (hn : n.length = l.length) (hl : ∀ a ∈ l, a < 115792089237316195423570985008687907853269984665640564039457584007913129639936) (hb : ∀ a ∈ n, a < 115792089237316195423570985008687907853269984665640564039457584007913129639936) (p m : Nat) (hm : m < 115792089237316195423570985008687907853269984665640564039457584007913129639936) (h1 : 1 < m) (ho : m % 2 = 1) :
  Spec Tryz.prog 200 #[lv, nv, (.func (.func 111) #[ptr p 0] #[]), (.func (.func 182) #[ptr p 0] #[])] [Res.rd lv l.length 4 (bks natC l), Res.rd nv n.length 4 (bks natC n), Res.var 2 ((wd 1).map u64)] [Res.mod p m]
   (fun r Γ' H' => r = (.agg ((wd (mulK m l n l.length)).map u64).toArray) ∧ Γ' = [] ∧ H' = [Res.mod p m]) := by
 refine Spec.of_args Tryz.func200 rfl Tryz.ntmps200 (by simp) fun w => ?_
 refine JC.know (φ := l.length ≤ 9223372036854775807) (fun w hs => by obtain ⟨_, _, _, _, _, _, h⟩ := hs.rdForm (.head _); unfold maxLen at h; omega) fun hll => ?_
 refine .seq (.region ?_)
 refine .al zero_40 fun b8 => ?_
 refine .nil (.tn (.seq (.region ?_)))
 refine .w (.as (v' := .agg ((wd 1).map u64).toArray) (.lda agg_40 rfl) (by rfl)) (.al zero_40 fun b9 => ?_)
 first | refine .sa sz_40 ?_ | refine .so sz_40 ?_ | refine .sr sz_40 ?_
 refine .nil (.tn (.seq (.seq (.region ?_))))
 refine .w (.move rfl) (.w (.len Tryz.underlying38 rfl) (.w (.move rfl) ?_))
 refine .nil (.tn (.block ?_))
 refine .lp (ι := Nat) (fun x => x ≤ l.length) (fun T x => (15, it (x : Int)) :: T) (fun T _ => T) (fun T x => Res.cells b9 ((wd (mulK m l n x)).map u64) 40 :: T) (fun x => l.length - x) 0 [1, 2, 3, 8, 9, 13, 14, 31] ?_ (fun x hx => ?_)
 ·exact Nat.zero_le _
 obtain ⟨k, hk⟩ : ∃ k, k = x := ⟨_, rfl⟩
 subst hk
 refine .seq (.region ?_)
 refine .w (.bin rfl rfl BinR.lss_i) ?_
 refine .nil (.tn (.seq ?_))
 refine .cn rfl (fun hc1 => ?_) (fun hc1 => ?_)
 ·skip
  refine .skip (.tn (.seq (.block (.seq (.region ?_)))))
  refine .w (.move rfl) (.w (.ix Tryz.underlying38 sz_40 rfl rfl) (.w (.as (v' := .agg ((wd (l.getD k 0)).map u64).toArray) (.lda agg_40 rfl (hm := by first | exact AM.own zq14 (by rw [bks_len]; omega) | exact AM.ro zq14 (by rw [bks_len]; omega) | exact AM.ownAt zq14 (by rw [bks_len]; omega) | exact AM.rd zq6 (by rw [bks_len]; omega) | exact AM.row zq7 (by rw [bks_len]; omega))) (congrArg (fun l : List Value => Value.agg l.toArray) (nat_piece (by omega)))) (.al zero_40 fun b11 => ?_)))
  refine .w (.assign rfl) ?_
  first | refine .sa sz_40 ?_ | refine .so sz_40 ?_ | refine .sr sz_40 ?_
  refine .nil (.tn ?_)
  refine JC.draw (.one 0 (.one 1 (.one 2 (.one 3 (.one 4 (.one 5 (.one 6 (.one 7 (.one 8 (.one 9 (.one 10 .nil))))))))))) (fun i => ([9, 10] : List Nat).contains i) (fun i => ([8, 9, 10] : List Nat).contains i) (fun i => ([0, 2, 4, 5, 6] : List Nat).contains i) mixed (by kernel_rfl) (by decide) (by kernel_rfl) ?_
  refine .uw rfl (.move rfl) (.w rfl (.lda agg_40 rfl) (.uw rfl (.move rfl) (.w rfl (.lda agg_40 rfl) (.uw rfl (.move rfl) (.uw rfl (.move rfl) (.uw rfl (.ix Tryz.underlying38 sz_40 rfl rfl) ?_))))))
  refine .w rfl (.as (v' := .agg ((wd (n.getD k 0)).map u64).toArray) (.lda agg_40 rfl (hm := by first | exact AM.own zq14 (by rw [bks_len]; omega) | exact AM.ro zq14 (by rw [bks_len]; omega) | exact AM.ownAt zq14 (by rw [bks_len]; omega) | exact AM.rd zq6 (by rw [bks_len]; omega) | exact AM.row zq7 (by rw [bks_len]; omega))) (congrArg (fun l : List Value => Value.agg l.toArray) (nat_piece (by omega)))) ?_
  refine .mw rfl (Mv.callF body_111 rfl rfl rfl (f111_spec p m hm h1 ho (l.getD k 0) (n.getD k 0) (nat_lt hl (by omega)) (nat_lt hb (by omega))) zq1 zq9 zq20) ?_
  rintro _ _ _ ⟨_, ⟨rfl, _, rfl⟩, hΓ, hH⟩
  simp only [List.cons_append, List.nil_append] at hH; subst hΓ hH
  refine kp ?_
  refine .mw rfl (Mv.callF body_182 rfl rfl rfl (f182_spec p m hm h1 ho (mulK m l n k) ((l.getD k 0) ^ (n.getD k 0) % m) (Nat.lt_trans (mulK_lt h1 l n k) hm) (Nat.lt_trans (Nat.mod_lt _ (by omega)) hm)) zq1 zq9 zq20) ?_
  rintro _ _ _ ⟨_, ⟨rfl, _, rfl⟩, hΓ, hH⟩
  simp only [List.cons_append, List.nil_append] at hH; subst hΓ hH
  refine kp ?_
  first | refine .mw0 rfl (.sa sz_40) ?_ | refine .mw0 rfl (.so sz_40) ?_ | refine .mw0 rfl (.sr sz_40) ?_
  rintro _ _ _ ⟨rfl, rfl⟩
  refine kp ?_
  refine .nil (.block_normal (.tn (.region ?_)))
  refine .w (.asI ((k + 1 : Nat) : Int) (.bin rfl rfl (BinR.add_i (by first | (constructor <;> omega) | (constructor <;> simp <;> omega))))) (.w (.move rfl) (.nil ?_))
  refine .hd (k + 1) ?_
  exact ⟨by omega, by omega⟩
 ·obtain rfl : k = l.length := by omega
  refine .exit (.then_exit (.then_exit (.block_exit (.tn (.seq (.region ?_))))))
  refine .w (.lda agg_40 rfl) ?_
  first | refine .sa sz_40 ?_ | refine .so sz_40 ?_ | refine .sr sz_40 ?_
  refine .nil (.tn (.ret ?_))
  exact .dn [] [Res.mod p m] (res1 rfl (.cl agg_40)) ⟨rfl, rfl, rfl⟩
end Go.Proofs.YtmhiapebljfebaaGreatDoor

/- Walks: products of powers; a group. -/
namespace Go.Proofs.YtmhiapebljfebaaGreatDoor
open Go.RowKit
set_option maxRecDepth 100000
set_option linter.unusedVariables false
set_option linter.unusedSimpArgs false
theorem f199_spec (γ : GP) (hγ : GOk γ) (bg a : Nat) (ha : a < 115792089237316195423570985008687907853269984665640564039457584007913129639936) :
  Spec Tryz.prog 199 #[(.agg ((wd a).map u64).toArray), (ptr bg 0)] [Res.var 2 ((wd 1).map u64)] [cGrp γ, Res.mod γ.px γ.P, Res.mod γ.pq γ.Q, Res.cells bg [ptr γ.g 0] 28]
   (fun r Γ' H' => r = .bool (!memB γ a) ∧ Γ' = [] ∧ H' = [cGrp γ, Res.mod γ.px γ.P, Res.mod γ.pq γ.Q, Res.cells bg [ptr γ.g 0] 28]) := by
 refine Spec.of_args Tryz.func199 rfl Tryz.ntmps199 (by simp) fun w => ?_
 refine .seq (.region ?_)
 refine .bx fun b2 => ?_
 refine .w (.assign rfl) ?_
 refine .nil (.tn (.seq (.region ?_)))
 refine .w (.ld one_28 rfl) (.w (.lda agg_40 rfl) (.c (f120_spec γ hγ a ha) body_120 ?_))
 refine .w (.not rfl) (.w (.assign rfl) ?_)
 refine .nil (.tn (.ret ?_))
 exact .dn [] [cGrp γ, Res.mod γ.px γ.P, Res.mod γ.pq γ.Q, Res.cells bg [ptr γ.g 0] 28] (res1 rfl (.tmp rfl)) ⟨rfl, rfl, rfl⟩

theorem f168_spec (γ : GP) (hγ : GOk γ) (bg : Nat) (lv : Value) (l : List Nat) (hl : ∀ a ∈ l, a < 115792089237316195423570985008687907853269984665640564039457584007913129639936) :
  Spec Tryz.prog 168 #[lv, (.func (.func 199) #[] #[ptr bg 0])] [Res.rd lv l.length 4 (bks natC l), Res.var 2 ((wd 1).map u64)] [cGrp γ, Res.mod γ.px γ.P, Res.mod γ.pq γ.Q, Res.cells bg [ptr γ.g 0] 28]
   (fun r Γ' H' => ∃ i : Int, decide (i ≥ 0) = l.any (fun a => !memB γ a) ∧ r = it i ∧ Γ' = [] ∧ H' = [cGrp γ, Res.mod γ.px γ.P, Res.mod γ.pq γ.Q, Res.cells bg [ptr γ.g 0] 28]) := by
 refine Spec.of_args Tryz.func168 rfl Tryz.ntmps168 (by simp) fun w => ?_
 refine JC.know (φ := l.length ≤ 9223372036854775807) (fun w hs => by obtain ⟨_, _, _, _, _, _, h⟩ := hs.rdForm (.head _); unfold maxLen at h; omega) fun hll => ?_
 refine .seq (.region ?_)
 refine .w (.assign rfl) ?_
 refine .nil (.tn (.seq (.seq (.region ?_))))
 refine .w (.move rfl) (.w (.len Tryz.underlying38 rfl) (.w (.move rfl) ?_))
 refine .nil (.tn (.block ?_))
 refine .lp (ι := Nat) (fun x => x ≤ l.length ∧ ∀ j, j < x → (!memB γ (l.getD j 0)) = false) (fun T x => (8, it (x : Int)) :: T) (fun T _ => T) (fun T _ => T) (fun x => l.length - x) 0 [0, 1, 7] ?_ (fun x hx => ?_)
 ·exact ⟨Nat.zero_le _, fun j hj => absurd hj (Nat.not_lt_zero _)⟩
 obtain ⟨k, hk⟩ : ∃ k, k = x := ⟨_, rfl⟩
 subst hk
 obtain ⟨hk, hall⟩ := hx
 refine .seq (.region ?_)
 refine .w (.bin rfl rfl BinR.lss_i) ?_
 refine .nil (.tn (.seq ?_))
 refine .cn rfl (fun hc1 => ?_) (fun hc1 => ?_)
 ·skip
  refine .skip (.tn (.seq (.block (.seq (.region ?_)))))
  refine .w (.move rfl) (.w (.assign rfl) ?_)
  refine .nil (.tn (.seq (.region ?_)))
  refine .w (.move rfl) (.w (.move rfl) (.w (.move rfl) (.w (.ix Tryz.underlying38 sz_40 rfl rfl) (.w (.as (v' := .agg ((wd (l.getD k 0)).map u64).toArray) (.lda agg_40 rfl (hm := by first | exact AM.own zq14 (by rw [bks_len]; omega) | exact AM.ro zq14 (by rw [bks_len]; omega) | exact AM.ownAt zq14 (by rw [bks_len]; omega) | exact AM.rd zq6 (by rw [bks_len]; omega) | exact AM.row zq7 (by rw [bks_len]; omega))) (congrArg (fun l : List Value => Value.agg l.toArray) (nat_piece (by omega)))) ?_))))
  refine JO.callF (f199_spec γ hγ bg (l.getD k 0) (nat_lt hl (by omega))) body_199 rfl rfl rfl zq1 zq9 zq20 (by decide) ?_
  rintro _ _ ⟨_, ⟨rfl, _, rfl⟩, hH⟩
  simp only [List.cons_append, List.nil_append] at hH; subst hH
  refine .nil (.tn ?_)
  refine .cn rfl (fun hc2 => ?_) (fun hc2 => ?_)
  ·skip
   refine .seq (.region ?_)
   refine .w (.move rfl) (.w (.assign rfl) ?_)
   refine .nil (.tn (.ret (.block_ret (.then_ret (.then_ret (.block_ret (.then_ret ?_)))))))
   exact .dn [] [cGrp γ, Res.mod γ.px γ.P, Res.mod γ.pq γ.Q, Res.cells bg [ptr γ.g 0] 28] (res1 rfl (.tmp rfl)) ⟨k, by rw [any_some (j := k) (by omega) (by simpa using hc2)]; simp, rfl, rfl, rfl⟩
  ·skip
   refine .skip (.block_normal (.tn (.region ?_)))
   refine .w (.asI ((k + 1 : Nat) : Int) (.bin rfl rfl (BinR.add_i (by first | (constructor <;> omega) | (constructor <;> simp <;> omega))))) (.w (.move rfl) (.nil ?_))
   refine .hd (k + 1) ?_
   exact ⟨⟨by omega, fun j hj => by rcases Nat.lt_succ_iff_lt_or_eq.1 hj with h | rfl; exact hall j h; simpa using hc2⟩, by omega⟩
 ·obtain rfl : k = l.length := by omega
  refine .exit (.then_exit (.then_exit (.block_exit (.tn (.seq (.region ?_))))))
  refine .w (.assign rfl) ?_
  refine .nil (.tn (.ret ?_))
  exact .dn [] [cGrp γ, Res.mod γ.px γ.P, Res.mod γ.pq γ.Q, Res.cells bg [ptr γ.g 0] 28] (res1 rfl (.tmp rfl)) ⟨-1, by rw [any_none hall]; rfl, rfl, rfl, rfl⟩

theorem f118_spec (γ : GP) (hγ : GOk γ) (bg : Nat) (lv : Value) (l : List Nat) (hl : ∀ a ∈ l, a < 115792089237316195423570985008687907853269984665640564039457584007913129639936) :
  Spec Tryz.prog 118 #[lv, (.func (.func 199) #[] #[ptr bg 0])] [Res.rd lv l.length 4 (bks natC l), Res.var 2 ((wd 1).map u64)] [cGrp γ, Res.mod γ.px γ.P, Res.mod γ.pq γ.Q, Res.cells bg [ptr γ.g 0] 28]
   (fun r Γ' H' => r = .bool (l.any (fun a => !memB γ a)) ∧ Γ' = [] ∧ H' = [cGrp γ, Res.mod γ.px γ.P, Res.mod γ.pq γ.Q, Res.cells bg [ptr γ.g 0] 28]) := by
 refine Spec.of_args Tryz.func118 rfl Tryz.ntmps118 (by simp) fun w => ?_
 refine .seq (.region ?_)
 refine .w (.assign rfl) ?_
 refine .nil (.tn (.seq (.region ?_)))
 refine .w (.move rfl) (.w (.move rfl) (.cb (f168_spec γ hγ bg lv l hl) body_168 ?_ (h0 := by rintro _ _ _ ⟨_, _, _, h, _⟩; exact h)))
 rintro _ _ ⟨i, hi, rfl, _, rfl⟩
 refine .ap ?_
 refine .w (.as (v' := .bool (l.any (fun a => !memB γ a))) (.bin rfl rfl BinR.geq_i) (congrArg Value.bool hi)) (.w (.assign rfl) ?_)
 refine .nil (.tn (.ret ?_))
 exact .dn [] [cGrp γ, Res.mod γ.px γ.P, Res.mod γ.pq γ.Q, Res.cells bg [ptr γ.g 0] 28] (res1 rfl (.tmp rfl)) ⟨rfl, rfl, rfl⟩

theorem f179_spec (γ : GP) (hγ : GOk γ) (lv nv : Value) (l n : List Nat) (hl : ∀ a ∈ l, a < 115792089237316195423570985008687907853269984665640564039457584007913129639936) (hb : ∀ a ∈ n, a < 115792089237316195423570985008687907853269984665640564039457584007913129639936) :
  Spec Tryz.prog 179 #[(ptr γ.g 0), lv, nv] [Res.rd lv l.length 4 (bks natC l), Res.rd nv n.length 4 (bks natC n), Res.var 2 ((wd 1).map u64)] [cGrp γ, Res.mod γ.px γ.P, Res.mod γ.pq γ.Q]
   (fun r Γ' H' => r = .tuple #[(.agg ((wd (mulV γ l n)).map u64).toArray), it (mulE γ l n)] ∧ Γ' = [] ∧ H' = [cGrp γ, Res.mod γ.px γ.P, Res.mod γ.pq γ.Q]) := by
 refine Spec.of_args Tryz.func179 rfl Tryz.ntmps179 (by simp) fun w => ?_
 refine JC.know (φ := l.length ≤ 9223372036854775807) (fun w hs => by obtain ⟨_, _, _, _, _, _, h⟩ := hs.rdForm (.head _); unfold maxLen at h; omega) fun hll => ?_
 refine JC.know (φ := n.length ≤ 9223372036854775807) (fun w hs => by obtain ⟨_, _, _, _, _, _, h⟩ := hs.rdForm (.tail _ (.head _)); unfold maxLen at h; omega) fun hnn => ?_
 refine .seq (.region ?_)
 refine .bx fun b3 => ?_
 refine .al zero_40 fun b6 => ?_
 refine .w (.assign rfl) ?_
 refine .nil (.tn (.seq (.block (.seq (.region ?_)))))
 refine .w (.move rfl) (.w (.len Tryz.underlying38 rfl) (.w (.move rfl) (.w (.len Tryz.underlying38 rfl) (.w (.asB (l.length ≠ n.length) (.bin rfl rfl BinR.neq_i)) (.w (.move rfl) ?_)))))
 refine .join 4 18 (.bool (decide (l.length ≠ n.length ∨ l.length > 40))) ?_ ?_
 ·refine .gn (g := 13) rfl (fun hg10 hg10' => ?_) (fun hg10 hg10' => ?_)
  ·refine .gf (g := 14) rfl rfl hg10 (by decide) ?_
   refine .gf (g := 14) rfl rfl hg10 (by decide) ?_
   refine .gf (g := 14) rfl rfl hg10 (by decide) ?_
   refine .w (.pick1 rfl hg10 rfl) (.nil ?_)
   refine .head () zq0 (fun _ h => h) (Picks.perm zq1) ?_
   trivial
  ·refine .gt (g := 14) rfl rfl hg10 ?_
   refine .w (.move rfl) ?_
   refine .gt (g := 14) rfl rfl hg10 ?_
   refine .w (.len Tryz.underlying38 rfl) ?_
   refine .gt (g := 14) rfl rfl hg10 ?_
   refine .w (.asB (l.length > 40) (.bin rfl rfl BinR.gtr_i)) (.w (.pick0 rfl hg10 rfl) (.nil ?_))
   refine .head () zq0 (fun _ h => h) (Picks.perm zq1) ?_
   trivial
 ·refine .w (.assign rfl) ?_
  refine .nil (.tn ?_)
  refine .cn rfl (fun hc1 => ?_) (fun hc1 => ?_)
  ·have hme : mulE γ l n = 1 := if_pos hc1
   refine .seq (.region ?_)
   refine .w (.as (v' := .agg ((wd 0).map u64).toArray) (.build bld_40 rfl rfl) rfl) ?_
   first | refine .sa sz_40 ?_ | refine .so sz_40 ?_ | refine .sr sz_40 ?_
   refine .w (.assign rfl) ?_
   refine .nil (.tn (.ret (.block_ret (.then_ret ?_))))
   exact .dn [] [cGrp γ, Res.mod γ.px γ.P, Res.mod γ.pq γ.Q] (res2 rfl (.cl agg_40) (.tmp rfl)) ⟨by rw [mulV, hme]; rfl, rfl, rfl⟩
  ·have hne : l.length = n.length := by omega
   refine .seq (.region ?_)
   refine .w (.move rfl) (.w (.makeFunc rfl rfl) (.c (f118_spec γ hγ b3 lv l hl) body_118 ?_))
   refine .w (.assign rfl) ?_
   refine .nil (.tn ?_)
   refine .cn rfl (fun hc2 => ?_) (fun hc2 => ?_)
   ·have hme : mulE γ l n = 22 := by unfold mulE; rw [if_neg hc1, if_pos hc2]
    refine .seq (.region ?_)
    refine .w (.as (v' := .agg ((wd 0).map u64).toArray) (.build bld_40 rfl rfl) rfl) ?_
    first | refine .sa sz_40 ?_ | refine .so sz_40 ?_ | refine .sr sz_40 ?_
    refine .w (.assign rfl) ?_
    refine .nil (.tn (.ret (.block_ret (.then_ret ?_))))
    exact .dn [] [cGrp γ, Res.mod γ.px γ.P, Res.mod γ.pq γ.Q] (res2 rfl (.cl agg_40) (.tmp rfl)) ⟨by rw [mulV, hme]; rfl, rfl, rfl⟩
   ·have hme : mulE γ l n = 0 := by unfold mulE; rw [if_neg hc1, if_neg (by simpa using hc2)]
    refine .skip (.block_normal (.tn (.seq ?_)))
    refine JC.draw (.one 0 (.one 1 (.one 2 (.one 3 (.one 4 (.one 5 (.one 6 (.one 7 (.one 8 (.one 9 (.one 10 (.one 11 (.one 12 (.one 13 (.one 14 .nil))))))))))))))) (fun i => ([12, 13] : List Nat).contains i) (fun i => ([12, 13] : List Nat).contains i) (fun i => ([0, 1, 3, 4, 6, 8, 9, 11, 14] : List Nat).contains i) mixed (by kernel_rfl) (by decide) (by kernel_rfl) ?_
    refine .uw rfl (.move rfl) (.uw rfl (.move rfl) (.w rfl (.ld one_28 rfl) (.uw rfl (.nilCheck rfl) (.uw rfl (.fieldAddr fa_165_1 rfl) (.w rfl (.as (v' := ptr γ.px 0) (.ld one_91 rfl) (by rfl)) (.uw rfl (.makeFunc rfl rfl) ?_))))))
    refine .w rfl (.ld one_28 rfl) (.uw rfl (.nilCheck rfl) (.uw rfl (.fieldAddr fa_165_1 rfl) (.w rfl (.as (v' := ptr γ.px 0) (.ld one_91 rfl) (by rfl)) (.uw rfl (.makeFunc rfl rfl) ?_))))
    refine .mw rfl (.c (f200_spec lv nv l n hne.symm hl hb γ.px γ.P hγ.pb hγ.p1 hγ.po) body_200) ?_
    rintro _ _ _ ⟨rfl, rfl, rfl⟩
    refine kp ?_
    first | refine .mw0 rfl (.sa sz_40) ?_ | refine .mw0 rfl (.so sz_40) ?_ | refine .mw0 rfl (.sr sz_40) ?_
    rintro _ _ _ ⟨rfl, rfl⟩
    refine kp ?_
    refine .uw rfl (.assign rfl) ?_
    refine .nil (.tn (.ret ?_))
    exact .dn [] [cGrp γ, Res.mod γ.px γ.P, Res.mod γ.pq γ.Q] (res2 rfl (.cl agg_40) (.tmp rfl)) ⟨by rw [mulV, hme]; rfl, rfl, rfl⟩

theorem f51_spec (d : GD) (hd : GDok d) (lv : Value) (L : List PF) (hL : L.map PF.pd = d.L) :
  Spec Tryz.prog 51 #[(.agg (parC d.P d.Q d.G).toArray), lv] [Res.var 0 ((wd 5).map u64), Res.var 1 ((wd 2).map u64), Res.var 2 ((wd 1).map u64), Res.var 3 ((wd 2).map u64), Res.rd lv L.length 9 (bks prfC L), Res.all (facRes L)] []
   (fun r Γ' H' => ∃ γ : GP, GOk γ ∧ γ.P = d.P ∧ γ.Q = d.Q ∧ γ.G = d.G ∧ r = .tuple #[ptr γ.g 0, it 0] ∧ Γ' = [] ∧ H' = [cGrp γ, Res.mod γ.px γ.P, Res.mod γ.pq γ.Q]) := by
 refine Spec.of_args Tryz.func51 rfl Tryz.ntmps51 (by simp) fun w => ?_
 have hin : ∃ j, j < L.length ∧ (L.getD j PZ).N = d.Q := by
  obtain ⟨p, hp, e⟩ := hd.last
  rw [← hL] at hp
  obtain ⟨q, hq, rfl⟩ := List.mem_map.1 hp
  obtain ⟨j, hj, rfl⟩ := List.getElem_of_mem hq
  exact ⟨j, hj, by rw [List.getD_eq_getElem?_getD, List.getElem?_eq_getElem hj]; exact e⟩
 refine .seq (.region ?_)
 refine .bx fun b2 => ?_
 refine .w (.assign rfl) (.w (.assign rfl) ?_)
 refine .nil (.tn (.seq (.seq (.region ?_))))
 refine .w (.move rfl) (.w (.fieldAddr fa_55_1 rfl) (.w (.as (v' := .agg ((wd d.Q).map u64).toArray) (.lda agg_40 rfl) (by rfl)) (.c (f109_spec lv L (by rw [hL]; exact hd.good) d.Q (Nat.lt_trans hd.qp hd.pb) hin) body_109 ?_)))
 refine .w (.assign rfl) ?_
 refine .nil (.tn (.seq (.region ?_)))
 refine .w (.move rfl) (.w (.as (v' := .bool false) (.bin rfl rfl BinR.neq_i) rfl) ?_)
 refine .nil (.tn ?_)
 refine .cf rfl ?_
 refine .skip (.tn (.seq (.region ?_)))
 refine .w (.fieldAddr fa_55_0 rfl) (.w (.as (v' := .agg ((wd d.P).map u64).toArray) (.lda agg_40 rfl) (by rfl)) (.cb (f110_spec d.P hd.pb (by have := hd.p5; omega) hd.po) body_110 ?_ (h0 := by rintro _ _ _ ⟨_, _, h, _⟩; exact h)))
 rintro _ _ ⟨px, rfl, _, rfl⟩
 refine .ap ?_
 refine .w (.move rfl) (.w (.extract rfl rfl) (.w (.as (v' := it 0) (.extract rfl rfl) rfl) (.w (.assign rfl) (.w (.assign rfl) ?_))))
 refine .nil (.tn (.seq (.region ?_)))
 refine .w (.fieldAddr fa_55_1 rfl) (.w (.as (v' := .agg ((wd d.Q).map u64).toArray) (.lda agg_40 rfl) (by rfl)) (.cb (f110_spec d.Q (Nat.lt_trans hd.qp hd.pb) hd.q1 hd.qo) body_110 ?_ (h0 := by rintro _ _ _ ⟨_, _, h, _⟩; exact h)))
 rintro _ _ ⟨pq, rfl, _, rfl⟩
 refine .ap ?_
 refine .w (.move rfl) (.w (.extract rfl rfl) (.w (.as (v' := it 0) (.extract rfl rfl) rfl) (.w (.assign rfl) (.w (.assign rfl) ?_))))
 refine .nil (.tn (.seq (.block (.seq (.region ?_)))))
 refine .w (.move rfl) (.w (.as (v' := .bool false) (.bin rfl rfl BinR.neq_i) rfl) (.w (.move rfl) ?_))
 refine .gt (g := 33) rfl rfl rfl ?_
 refine .w (.move rfl) ?_
 refine .gt (g := 33) rfl rfl rfl ?_
 refine .w (.as (v' := .bool false) (.bin rfl rfl BinR.neq_i) rfl) (.w (.pick0 rfl rfl rfl) (.w (.move rfl) ?_))
 refine .gt (g := 37) rfl rfl rfl ?_
 refine .w (.fieldAddr fa_55_0 rfl) ?_
 refine .gt (g := 37) rfl rfl rfl ?_
 refine .w (.as (v' := .agg ((wd d.P).map u64).toArray) (.lda agg_40 rfl) (by rfl)) ?_
 refine .gt (g := 37) rfl rfl rfl ?_
 refine .w (.as (v' := .agg ((wd 5).map u64).toArray) (.lda agg_40 rfl) (by rfl)) ?_
 refine .gt (g := 37) rfl rfl rfl ?_
 refine .c (f52_spec d.P 5 hd.pb (by decide)) body_52 ?_
 refine .gt (g := 37) rfl rfl rfl ?_
 refine .w (.as (v' := .bool false) (.bin rfl rfl BinR.lss_i) (congrArg Value.bool (decide_eq_false (by rw [cmp_lt]; have := hd.p5; omega)))) (.w (.pick0 rfl rfl rfl) (.w (.move rfl) ?_))
 refine .gt (g := 44) rfl rfl rfl ?_
 refine .w (.fieldAddr fa_55_1 rfl) ?_
 refine .gt (g := 44) rfl rfl rfl ?_
 refine .w (.as (v' := .agg ((wd d.Q).map u64).toArray) (.lda agg_40 rfl) (by rfl)) ?_
 refine .gt (g := 44) rfl rfl rfl ?_
 refine .w (.fieldAddr fa_55_0 rfl) ?_
 refine .gt (g := 44) rfl rfl rfl ?_
 refine .w (.as (v' := .agg ((wd d.P).map u64).toArray) (.lda agg_40 rfl) (by rfl)) ?_
 refine .gt (g := 44) rfl rfl rfl ?_
 refine .c (f52_spec d.Q d.P (Nat.lt_trans hd.qp hd.pb) hd.pb) body_52 ?_
 refine .gt (g := 44) rfl rfl rfl ?_
 refine .w (.as (v' := .bool false) (.bin rfl rfl BinR.geq_i) (congrArg Value.bool (decide_eq_false (by rw [ge_iff_le, ← Int.not_lt, cmp_lt]; have := hd.qp; omega)))) (.w (.pick0 rfl rfl rfl) (.w (.assign rfl) ?_))
 refine .nil (.tn ?_)
 refine .cf rfl ?_
 refine .seq ?_
 refine JC.draw (.one 0 (.one 1 (.one 2 (.one 3 (.one 4 (.one 5 (.one 6 (.one 7 (.one 8 (.one 9 (.one 10 (.one 11 (.one 12 (.one 13 (.one 14 (.one 15 (.one 16 (.one 17 (.one 18 (.one 20 (.one 19 (.one 21 (.one 22 (.one 23 .nil)))))))))))))))))))))))) (fun i => ([] : List Nat).contains i) (fun i => ([3, 10, 19] : List Nat).contains i) (fun i => ([0, 4, 5, 6, 8, 11, 12, 13, 14, 15, 17, 21, 22, 23] : List Nat).contains i) mixed (by kernel_rfl) (by decide) (by kernel_rfl) ?_
 refine .uw rfl (.fieldAddr fa_55_2 rfl) (.w rfl (.as (v' := .agg ((wd d.G).map u64).toArray) (.lda agg_40 rfl) (by rfl)) (.w rfl (.as (v' := .agg ((wd 2).map u64).toArray) (.lda agg_40 rfl) (by rfl)) ?_))
 refine .mw rfl (.c (f52_spec d.G 2 (Nat.lt_trans hd.gp hd.pb) (by decide)) body_52) ?_
 rintro _ _ _ ⟨rfl, rfl, rfl⟩
 refine kp ?_
 refine .uw rfl (.as (v' := .bool false) (.bin rfl rfl BinR.lss_i) (congrArg Value.bool (decide_eq_false (by rw [cmp_lt]; have := hd.g2; omega)))) (.uw rfl (.move rfl) ?_)
 refine JR.ugt (g := 58) rfl rfl rfl rfl rfl rfl (.fieldAddr fa_55_2 rfl) (by decide) ?_
 refine JR.vgt (g := 58) rfl rfl rfl rfl rfl rfl (.as (v' := .agg ((wd d.G).map u64).toArray) (.lda agg_40 rfl) (by rfl)) (by decide) ?_
 refine JR.ugt (g := 58) rfl rfl rfl rfl rfl rfl (.fieldAddr fa_55_0 rfl) (by decide) ?_
 refine JR.vgt (g := 58) rfl rfl rfl rfl rfl rfl (.as (v' := .agg ((wd d.P).map u64).toArray) (.lda agg_40 rfl) (by rfl)) (by decide) ?_
 refine JR.mgt (g := 58) rfl rfl rfl rfl rfl (.c (f52_spec d.G d.P (Nat.lt_trans hd.gp hd.pb) hd.pb) body_52) (by decide) ?_
 rintro _ _ _ ⟨rfl, rfl, rfl⟩
 refine kp ?_
 refine JR.ugt (g := 58) rfl rfl rfl rfl rfl rfl (.as (v' := .bool false) (.bin rfl rfl BinR.geq_i) (congrArg Value.bool (decide_eq_false (by rw [ge_iff_le, ← Int.not_lt, cmp_lt]; have := hd.gp; omega)))) (by decide) ?_
 refine JR.u rfl rfl rfl (Yv.pick0 rfl rfl rfl) (by decide) ?_
 refine .uw rfl (.move rfl) ?_
 refine JR.ugt (g := 66) rfl rfl rfl rfl rfl rfl (.move rfl) (by decide) ?_
 refine JR.ugt (g := 66) rfl rfl rfl rfl rfl rfl (.fieldAddr fa_55_2 rfl) (by decide) ?_
 refine JR.vgt (g := 66) rfl rfl rfl rfl rfl rfl (.as (v' := .agg ((wd d.G).map u64).toArray) (.lda agg_40 rfl) (by rfl)) (by decide) ?_
 refine JR.ugt (g := 66) rfl rfl rfl rfl rfl rfl (.fieldAddr fa_55_1 rfl) (by decide) ?_
 refine JR.vgt (g := 66) rfl rfl rfl rfl rfl rfl (.as (v' := .agg ((wd d.Q).map u64).toArray) (.lda agg_40 rfl) (by rfl)) (by decide) ?_
 refine JR.vgt (g := 66) rfl rfl rfl rfl rfl rfl (.as (v' := .agg ((wd 1).map u64).toArray) (.lda agg_40 rfl) (by rfl)) (by decide) ?_
 refine JR.mgt (g := 66) rfl rfl rfl rfl rfl (.c (f111_spec px d.P hd.pb (by have := hd.p5; omega) hd.po d.G d.Q (Nat.lt_trans hd.gp hd.pb) (Nat.lt_trans hd.qp hd.pb)) body_111) (by decide) ?_
 rintro _ _ _ ⟨rfl, rfl, rfl⟩
 rw [hd.ord]
 refine kp ?_
 refine JR.ugt (g := 66) rfl rfl rfl rfl rfl rfl (.as (v' := .bool false) (.bin rfl rfl (neq_nat wd_len' wd_len')) (congrArg Value.bool (by simp))) (by decide) ?_
 refine JR.u rfl rfl rfl (Yv.pick0 rfl rfl rfl) (by decide) ?_
 refine .uw rfl (.assign rfl) ?_
 refine .nil (.tn ?_)
 refine .cf rfl ?_
 refine .skip (.block_normal (.tn (.seq (.region ?_))))
 refine .w (.as (v' := .agg (parC d.P d.Q d.G).toArray) (.lda agg_55 rfl) (by rfl)) (.w (.move rfl) (.w (.move rfl) (.w (.build (cs := (grpC ⟨0, px, pq, d.P, d.Q, d.G⟩)) bld_165 rfl (by kernel_rfl)) (.bx fun b80 => ?_))))
 refine .w (.assign rfl) (.w (.assign rfl) ?_)
 refine .nil (.tn (.ret ?_))
 exact .dn [] [cGrp ⟨b80, px, pq, d.P, d.Q, d.G⟩, Res.mod px d.P, Res.mod pq d.Q] (res2 rfl (.tmp rfl) (.tmp rfl)) ⟨⟨b80, px, pq, d.P, d.Q, d.G⟩, ⟨hd.p5, hd.pb, hd.po, hd.qp, hd.q1, hd.qo, hd.g2, hd.gp, hd.ord⟩, rfl, rfl, rfl, rfl, rfl, rfl⟩
end Go.Proofs.YtmhiapebljfebaaGreatDoor
