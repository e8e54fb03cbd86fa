/- Walks: the document's numbers: sums, differences, products. -/
import Derived.Test.YtmbpngnamnoiaaaDoorR15
import Derived.Test.YtmbpngnamnoiaaaDoorF1
namespace Go.Proofs.YtmbpngnamnoiaaaDoor
open Go.RowKit
set_option maxRecDepth 100000
set_option linter.unusedVariables false
set_option linter.unusedSimpArgs false
set_option maxHeartbeats 1000000 in
theorem f66_spec (a b : Nat) :
    Spec Tryd.prog 66 #[(.agg (dgs a).toArray), (.agg (dgs b).toArray)] [] []
      (fun r Γ' H' => r = (.agg (dgs (a + b)).toArray) ∧ Γ' = [] ∧ H' = []) := by
  refine Spec.of_args Tryd.func66 rfl Tryd.ntmps66 (by simp) fun w => ?_
  refine .seq (.region ?_)
  refine .bx fun b2 => ?_
  refine .bx fun b3 => ?_
  refine .al zero_78 fun b4 => ?_
  refine .nil (.tn (.seq (.region ?_)))
  refine .al zero_78 fun b5 => ?_
  refine .nil (.tn (.seq (.region ?_)))
  refine .w (.as (v' := it ((cr8 a b 0 : Nat) : Int)) (.assign rfl) (by rw [cr8_0]; rfl)) ?_
  refine .nil (.tn (.seq (.seq (.region ?_))))
  refine .w (.assign rfl) ?_
  refine .nil (.tn (.block ?_))
  refine .lp (ι := Nat) (fun x => x ≤ 64) (fun T x => (2, ptr b2 0) :: (3, ptr b3 0) :: (4, ptr b4 0) :: (5, ptr b5 0) :: (6, it ((cr8 a b x : Nat) : Int)) :: (7, it (x : Int)) :: T) (fun T _ => T) (fun T x => Res.cells b2 (dgs a) 78 :: Res.cells b3 (dgs b) 78 :: Res.cells b4 (List.replicate 64 (it 0)) 78 :: Res.cells b5 (dT (dgN (a + b)) x) 78 :: T) (fun x => 64 - x) 0 [28] ?_ (fun x hx => ?_)
  · exact Nat.zero_le _
  refine .seq (.seq (.region ?_))
  refine .w (.move rfl) ?_
  refine .w (.bin rfl rfl BinR.lss_i) ?_
  refine .nil (.tn ?_)
  refine .cn rfl (fun hc1 => ?_) (fun hc1 => ?_)
  · have hda := dg_lt a x
    have hdb := dg_lt b x
    have hcl := cr8_le a b x
    have hcs := cr8_succ a b x
    have hpd := plus_dg a b x
    refine .skip (.tn (.seq (.block (.seq ?_))))
    refine JC.draw (.one 0 (.one 1 (.one 2 (.one 3 (.one 4 (.one 5 (.one 6 (.one 7 (.one 8 (.one 9 .nil)))))))))) (fun i => ([] : List Nat).contains i) (fun i => ([] : List Nat).contains i) (fun i => ([0, 1, 3, 4, 6, 7, 8, 9] : List Nat).contains i) mixed (by kernel_rfl) (by decide) (by kernel_rfl) ?_
    refine .uw rfl (.move rfl) ?_
    refine .uw rfl (.ixA Tryd.underlying78 sz_3 rfl rfl) ?_
    refine .w rfl (.ld one_3 rfl (hj := by first | exact dgs_get _ (by omega) | rfl | exact tab_get (by first | omega | (simp; omega)) | exact gm (d := 0) (by first | omega | (simp; omega)))) ?_
    refine .uw rfl (.move rfl) ?_
    refine .uw rfl (.ixA Tryd.underlying78 sz_3 rfl rfl) ?_
    refine .w rfl (.ld one_3 rfl (hj := by first | exact dgs_get _ (by omega) | rfl | exact tab_get (by first | omega | (simp; omega)) | exact gm (d := 0) (by first | omega | (simp; omega)))) ?_
    refine .uw rfl (.bin rfl rfl (BinR.add_i (by first | (constructor <;> omega) | (constructor <;> simp <;> omega)))) ?_
    refine .uw rfl (.move rfl) ?_
    refine .uw rfl (.bin rfl rfl (BinR.add_i (by first | (constructor <;> omega) | (constructor <;> simp <;> omega)))) ?_
    refine .uw rfl (.assign rfl) ?_
    refine .nil (.tn (.seq (.region ?_)))
    refine .w (.move rfl) ?_
    refine .w (.move rfl) ?_
    refine .w (.asI ((dgN (a + b) x : Nat) : Int) (.bin rfl rfl (BinR.rem_i (by first | omega | decide | (simp; omega)) (by first | omega | decide | (simp; omega))))) ?_
    refine .w (.ixA Tryd.underlying78 sz_3 rfl rfl) ?_
    first | refine .s1 sz_3 ?_ | refine .sr1 sz_3 ?_
    refine .nil (.tn (.region ?_))
    refine .w (.move rfl) ?_
    refine .w (.asI ((cr8 a b (x + 1) : Nat) : Int) (.bin rfl rfl (BinR.quo_i (by first | omega | decide | (simp; omega)) (by first | omega | decide | (simp; omega)) (by first | (constructor <;> omega) | (constructor <;> simp <;> omega))))) ?_
    refine .w (.assign rfl) ?_
    refine .nil (.block_normal (.tn (.region ?_)))
    refine .w (.move rfl) ?_
    refine .w (.bin rfl rfl (BinR.add_i (by first | (constructor <;> omega) | (constructor <;> simp <;> omega)))) ?_
    refine .w (.assign rfl) ?_
    refine .nil ?_
    rw [dT_set]
    refine .hd (x + 1) ?_
    exact ⟨by omega, by omega⟩
  · obtain rfl : x = 64 := by omega
    rw [dT_all]
    refine .exit (.then_exit (.then_exit (.block_exit (.tn (.seq (.region ?_))))))
    refine .w (.lda agg_78 rfl) ?_
    first | refine .sa sz_78 ?_ | refine .so sz_78 ?_ | refine .sr sz_78 ?_
    refine .nil (.tn (.ret ?_))
    exact .dn [] [] (res1 rfl (.cl agg_78)) ⟨rfl, rfl, rfl⟩

set_option maxHeartbeats 1000000 in
theorem f49_spec (a : Nat) (ha : a < 115792089237316195423570985008687907853269984665640564039457584007913129639936) :
    Spec Tryd.prog 49 #[(.agg ((wd a).map u64).toArray)] [] []
      (fun r Γ' H' => r = (.agg (dgs a).toArray) ∧ Γ' = [] ∧ H' = []) := by
  refine Spec.of_args Tryd.func49 rfl Tryd.ntmps49 (by simp) fun w => ?_
  refine .seq (.region ?_)
  refine .bx fun b1 => ?_
  refine .al zero_78 fun b2 => ?_
  refine .nil (.tn (.seq (.region ?_)))
  refine .al zero_78 fun b3 => ?_
  refine .nil (.tn (.seq (.seq (.region ?_))))
  refine .w (.assign rfl) ?_
  refine .nil (.tn (.block ?_))
  refine .lp (ι := Nat) (fun x => x ≤ 32) (fun T x => (1, ptr b1 0) :: (2, ptr b2 0) :: (3, ptr b3 0) :: (4, it (x : Int)) :: T) (fun T _ => T) (fun T x => Res.cells b1 ((wd a).map u64) 60 :: Res.cells b2 (List.replicate 64 (it 0)) 78 :: Res.cells b3 (dT (dgN a) x) 78 :: T) (fun x => 32 - x) 0 [21] ?_ (fun x hx => ?_)
  · exact Nat.zero_le _
  refine .seq (.seq (.region ?_))
  refine .w (.move rfl) ?_
  refine .w (.bin rfl rfl BinR.lss_i) ?_
  refine .nil (.tn ?_)
  refine .cn rfl (fun hc1 => ?_) (fun hc1 => ?_)
  · refine .skip (.tn (.seq (.block (.region ?_))))
    refine .w (.move rfl) ?_
    refine .w (.move rfl) ?_
    refine .w (.asI ((x / 8 : Nat) : Int) (.bin rfl rfl (BinR.quo_i (by first | omega | decide | (simp; omega)) (by first | omega | decide | (simp; omega)) (by first | (constructor <;> omega) | (constructor <;> simp <;> omega))))) ?_
    refine .w (.ixA Tryd.underlying60 sz_34 rfl rfl) ?_
    refine .w (.ld one_34 rfl (hj := by first | exact wd_get _ (by omega) | rfl | exact tab_get (by first | omega | (simp; omega)) | exact gm (d := 0) (by first | omega | (simp; omega)))) ?_
    refine .w (.move rfl) ?_
    refine .w (.asI ((x % 8 : Nat) : Int) (.bin rfl rfl (BinR.rem_i (by first | omega | decide | (simp; omega)) (by first | omega | decide | (simp; omega))))) ?_
    refine .w (.asI ((8 * (x % 8) : Nat) : Int) (.bin rfl rfl (BinR.mul_i (by first | (constructor <;> omega) | (constructor <;> simp <;> omega))))) ?_
    refine .w (.as (v' := u64 (wat a (x / 8) >>> (8 * (x % 8)))) (.bin rfl rfl (BinR.shr_u64_i (by first | omega | decide | (simp; omega)))) (congrArg (fun n => u64 (wat a (x / 8) >>> n)) (by omega))) ?_
    refine .w (.bin rfl rfl (BinR.and_u64 (b := 255#64))) ?_
    refine .w (.as (v' := it ((dgN a x : Nat) : Int)) (.conv_u64_i Tryd.underlying34 Tryd.underlying3 rfl (by rw [byte_at a (by omega)]; have := dg_lt a x; omega)) (congrArg (fun n : Nat => it (n : Int)) (byte_at a (by omega)))) ?_
    refine .w (.ixA Tryd.underlying78 sz_3 rfl rfl) ?_
    first | refine .s1 sz_3 ?_ | refine .sr1 sz_3 ?_
    refine .nil (.block_normal (.tn (.region ?_)))
    refine .w (.move rfl) ?_
    refine .w (.bin rfl rfl (BinR.add_i (by first | (constructor <;> omega) | (constructor <;> simp <;> omega)))) ?_
    refine .w (.assign rfl) ?_
    refine .nil ?_
    rw [dT_set]
    refine .hd (x + 1) ?_
    exact ⟨by omega, by omega⟩
  · obtain rfl : x = 32 := by omega
    rw [dT_32 ha]
    refine .exit (.then_exit (.then_exit (.block_exit (.tn (.seq (.region ?_))))))
    refine .w (.lda agg_78 rfl) ?_
    first | refine .sa sz_78 ?_ | refine .so sz_78 ?_ | refine .sr sz_78 ?_
    refine .nil (.tn (.ret ?_))
    exact .dn [] [] (res1 rfl (.cl agg_78)) ⟨rfl, rfl, rfl⟩

set_option maxHeartbeats 1000000 in
theorem f67_spec (n : Nat) :
    Spec Tryd.prog 67 #[(.agg (dgs n).toArray)] [] []
      (fun r Γ' H' => r = (.agg ((wd n).map u64).toArray) ∧ Γ' = [] ∧ H' = []) := by
  refine Spec.of_args Tryd.func67 rfl Tryd.ntmps67 (by simp) fun w => ?_
  refine .seq (.region ?_)
  refine .bx fun b1 => ?_
  refine .al zero_60 fun b2 => ?_
  refine .nil (.tn (.seq (.region ?_)))
  refine .w (.as (v' := .agg ((wd 0).map u64).toArray) (.build bld_60 rfl rfl) rfl) ?_
  refine .al zero_60 fun b3 => ?_
  first | refine .sa sz_60 ?_ | refine .so sz_60 ?_ | refine .sr sz_60 ?_
  refine .nil (.tn (.seq (.seq (.region ?_))))
  refine .w (.assign rfl) ?_
  refine .nil (.tn (.block ?_))
  refine .lp (ι := Nat) (fun x => x ≤ 32) (fun T x => (1, ptr b1 0) :: (2, ptr b2 0) :: (3, ptr b3 0) :: (4, it (x : Int)) :: T) (fun T _ => T) (fun T x => Res.cells b1 (dgs n) 78 :: Res.cells b2 ((wd 0).map u64) 60 :: Res.cells b3 ((wd (n % 256 ^ x)).map u64) 60 :: T) (fun x => 32 - x) 0 [26] ?_ (fun x hx => ?_) (hH := (by rw [low_0]; repeat (first | exact Picks.nil _ | apply Picks.cons | exact Pull.here _ _ | apply Pull.there)))
  · exact Nat.zero_le _
  refine .seq (.seq (.region ?_))
  refine .w (.move rfl) ?_
  refine .w (.bin rfl rfl BinR.lss_i) ?_
  refine .nil (.tn ?_)
  refine .cn rfl (fun hc1 => ?_) (fun hc1 => ?_)
  · refine .skip (.tn (.seq (.block ?_)))
    refine JC.draw (.one 0 (.one 1 (.one 2 (.one 3 (.one 4 (.one 5 (.one 6 (.one 7 (.one 8 (.one 9 (.one 10 (.one 11 (.one 12 (.one 13 (.one 14 (.one 15 (.one 16 .nil))))))))))))))))) (fun i => ([16] : List Nat).contains i) (fun i => ([16] : List Nat).contains i) (fun i => ([0, 1, 2, 3, 4, 6, 7, 9, 10, 11, 12, 13, 14, 15] : List Nat).contains i) mixed (by kernel_rfl) (by decide) (by kernel_rfl) ?_
    refine .uw rfl (.move rfl) ?_
    refine .uw rfl (.asI ((x / 8 : Nat) : Int) (.bin rfl rfl (BinR.quo_i (by first | omega | decide | (simp; omega)) (by first | omega | decide | (simp; omega)) (by first | (constructor <;> omega) | (constructor <;> simp <;> omega))))) ?_
    refine .uw rfl (.move rfl) ?_
    refine .uw rfl (.asI ((x / 8 : Nat) : Int) (.bin rfl rfl (BinR.quo_i (by first | omega | decide | (simp; omega)) (by first | omega | decide | (simp; omega)) (by first | (constructor <;> omega) | (constructor <;> simp <;> omega))))) ?_
    refine .uw rfl (.ixA Tryd.underlying60 sz_34 rfl rfl) ?_
    refine .w rfl (.ld one_34 rfl (hj := by first | exact wd_get _ (by omega) | exact dgs_get _ (by omega) | rfl | exact tab_get (by first | omega | (simp; omega)) | exact gm (d := 0) (by first | omega | (simp; omega)))) ?_
    refine .uw rfl (.move rfl) ?_
    refine .uw rfl (.ixA Tryd.underlying78 sz_3 rfl rfl) ?_
    refine .w rfl (.ld one_3 rfl (hj := by first | exact wd_get _ (by omega) | exact dgs_get _ (by omega) | rfl | exact tab_get (by first | omega | (simp; omega)) | exact gm (d := 0) (by first | omega | (simp; omega)))) ?_
    refine .uw rfl (.as (v' := u64 (BitVec.ofNat 64 (dgN n x))) (.conv_i_u64 Tryd.underlying3 Tryd.underlying34 rfl) (congrArg u64 (by simp))) ?_
    refine .uw rfl (.move rfl) ?_
    refine .uw rfl (.asI ((x % 8 : Nat) : Int) (.bin rfl rfl (BinR.rem_i (by first | omega | decide | (simp; omega)) (by first | omega | decide | (simp; omega))))) ?_
    refine .uw rfl (.asI ((8 * (x % 8) : Nat) : Int) (.bin rfl rfl (BinR.mul_i (by first | (constructor <;> omega) | (constructor <;> simp <;> omega))))) ?_
    refine .uw rfl (.as (v' := u64 (BitVec.ofNat 64 (dgN n x) <<< (8 * (x % 8)))) (.bin rfl rfl (BinR.shl_u64_i (by first | omega | decide | (simp; omega)))) (congrArg (fun k => u64 (BitVec.ofNat 64 (dgN n x) <<< k)) (by omega))) ?_
    refine .uw rfl (.bin rfl rfl (BinR.add_u64)) ?_
    refine .uw rfl (.ixA Tryd.underlying60 sz_34 rfl rfl) ?_
    first | refine .mw0 rfl (.s1 sz_34) ?_ | refine .mw0 rfl (.sr1 sz_34) ?_
    rintro _ _ _ ⟨rfl, rfl⟩
    refine kp ?_
    refine .nil (.block_normal (.tn (.region ?_)))
    refine .w (.move rfl) ?_
    refine .w (.bin rfl rfl (BinR.add_i (by first | (constructor <;> omega) | (constructor <;> simp <;> omega)))) ?_
    refine .w (.assign rfl) ?_
    refine .nil ?_
    rw [low_setv n (by omega)]
    refine .hd (x + 1) ?_
    exact ⟨by omega, by omega⟩
  · obtain rfl : x = 32 := by omega
    rw [low_32]
    refine .exit (.then_exit (.then_exit (.block_exit (.tn (.seq (.region ?_))))))
    refine .w (.lda agg_60 rfl) ?_
    first | refine .sa sz_60 ?_ | refine .so sz_60 ?_ | refine .sr sz_60 ?_
    refine .nil (.tn (.ret ?_))
    exact .dn [] [] (res1 rfl (.cl agg_60)) ⟨rfl, rfl, rfl⟩

theorem f54_spec (a b : Nat) (ha : a < 115792089237316195423570985008687907853269984665640564039457584007913129639936) (hb : b < 115792089237316195423570985008687907853269984665640564039457584007913129639936) :
    Spec Tryd.prog 54 #[(.agg ((wd a).map u64).toArray), (.agg ((wd b).map u64).toArray)] [] []
      (fun r Γ' H' => r = (.tuple #[.agg ((wd (a + b)).map u64).toArray, u64 (BitVec.ofNat 64 ((a + b) / 115792089237316195423570985008687907853269984665640564039457584007913129639936))]) ∧ Γ' = [] ∧ H' = []) := by
  refine Spec.of_args Tryd.func54 rfl Tryd.ntmps54 (by simp) fun w => ?_
  refine .seq (.region ?_)
  refine .bx fun b2 => ?_
  refine .bx fun b3 => ?_
  refine .al zero_60 fun b4 => ?_
  refine .w (.assign rfl) ?_
  refine .nil (.tn ?_)
  refine JC.cut (ι := Nat) (fun x => True) (fun x => [(4, ptr b4 0), (6, ptr x 0)]) (fun x => []) (fun x => [Res.cells b4 ((wd 0).map u64) 60, Res.cells x (dgs (a + b)) 78]) ?_ (fun x hx => ?_)
  · refine JC.draw (.one 0 (.one 2 (.alt 1 (.alt 3 (.alt 4 (.one 5 (.one 6 .nil)) (.alt 5 (.one 4 (.one 6 .nil)) .nil)) (.alt 5 (.one 3 (.one 4 (.one 6 .nil))) .nil)) (.alt 5 (.one 1 (.one 3 (.one 4 (.one 6 .nil)))) .nil)))) (fun i => ([6] : List Nat).contains i) (fun i => ([1, 3, 4, 5, 6] : List Nat).contains i) (fun i => ([] : List Nat).contains i) mixed (by kernel_rfl) (by decide) (by kernel_rfl) ?_
    refine .w rfl (.lda agg_60 rfl) ?_
    refine .w rfl (.lda agg_60 rfl) ?_
    refine JR.alt rfl ?_ ?_
    · refine .mw rfl (.c (f49_spec a ha) body_49) ?_
      rintro _ _ _ ⟨rfl, rfl, rfl⟩
      refine kp ?_
      refine JR.alt rfl ?_ ?_
      · refine .mw rfl (.c (f49_spec b hb) body_49) ?_
        rintro _ _ _ ⟨rfl, rfl, rfl⟩
        refine kp ?_
        refine JR.alt rfl ?_ ?_
        · refine .mw rfl (.c (f66_spec a b) body_66) ?_
          rintro _ _ _ ⟨rfl, rfl, rfl⟩
          refine kp ?_
          refine .mw rfl (Mv.alloc zero_78) ?_
          rintro _ _ _ ⟨b6, rfl, rfl, rfl⟩
          refine kp ?_
          first | refine .mw0 rfl (.sa sz_78) ?_ | refine .mw0 rfl (.so sz_78) ?_ | refine .mw0 rfl (.sr sz_78) ?_
          rintro _ _ _ ⟨rfl, rfl⟩
          refine kp ?_
          refine .nil ?_
          refine .hd b6 ?_
          trivial
        refine JA.alt rfl ?_ ?_
        · refine .mw rfl (Mv.alloc zero_78) ?_
          rintro _ _ _ ⟨b6, rfl, rfl, rfl⟩
          refine kp ?_
          refine .mw rfl (.c (f66_spec a b) body_66) ?_
          rintro _ _ _ ⟨rfl, rfl, rfl⟩
          refine kp ?_
          first | refine .mw0 rfl (.sa sz_78) ?_ | refine .mw0 rfl (.so sz_78) ?_ | refine .mw0 rfl (.sr sz_78) ?_
          rintro _ _ _ ⟨rfl, rfl⟩
          refine kp ?_
          refine .nil ?_
          refine .hd b6 ?_
          trivial
        exact JA.nil
      refine JA.alt rfl ?_ ?_
      · refine .mw rfl (Mv.alloc zero_78) ?_
        rintro _ _ _ ⟨b6, rfl, rfl, rfl⟩
        refine kp ?_
        refine .mw rfl (.c (f49_spec b hb) body_49) ?_
        rintro _ _ _ ⟨rfl, rfl, rfl⟩
        refine kp ?_
        refine .mw rfl (.c (f66_spec a b) body_66) ?_
        rintro _ _ _ ⟨rfl, rfl, rfl⟩
        refine kp ?_
        first | refine .mw0 rfl (.sa sz_78) ?_ | refine .mw0 rfl (.so sz_78) ?_ | refine .mw0 rfl (.sr sz_78) ?_
        rintro _ _ _ ⟨rfl, rfl⟩
        refine kp ?_
        refine .nil ?_
        refine .hd b6 ?_
        trivial
      exact JA.nil
    refine JA.alt rfl ?_ ?_
    · refine .mw rfl (Mv.alloc zero_78) ?_
      rintro _ _ _ ⟨b6, rfl, rfl, rfl⟩
      refine kp ?_
      refine .mw rfl (.c (f49_spec a ha) body_49) ?_
      rintro _ _ _ ⟨rfl, rfl, rfl⟩
      refine kp ?_
      refine .mw rfl (.c (f49_spec b hb) body_49) ?_
      rintro _ _ _ ⟨rfl, rfl, rfl⟩
      refine kp ?_
      refine .mw rfl (.c (f66_spec a b) body_66) ?_
      rintro _ _ _ ⟨rfl, rfl, rfl⟩
      refine kp ?_
      first | refine .mw0 rfl (.sa sz_78) ?_ | refine .mw0 rfl (.so sz_78) ?_ | refine .mw0 rfl (.sr sz_78) ?_
      rintro _ _ _ ⟨rfl, rfl⟩
      refine kp ?_
      refine .nil ?_
      refine .hd b6 ?_
      trivial
    exact JA.nil
  · revert hx
    generalize x = b6
    intro hx
    refine JC.frz (r := Res.cells b6 (dgs (a + b)) 78) (by repeat (first | exact Pull.here _ _ | apply Pull.there)) ?_
    refine .seq ?_
    refine JC.draw (.one 0 (.one 2 (.one 3 (.one 4 (.one 1 (.one 5 (.one 6 .nil))))))) (fun i => ([1, 5] : List Nat).contains i) (fun i => ([1, 5] : List Nat).contains i) (fun i => ([0, 2, 3, 4, 6] : List Nat).contains i) mixed (by kernel_rfl) (by decide) (by kernel_rfl) ?_
    refine .uw rfl (.lda agg_78 rfl) ?_
    refine .uw rfl (.ixA (j := 32) Tryd.underlying78 sz_3 rfl rfl) ?_
    refine .uw rfl (.ld one_3 rfl (hj := by first | exact dgs_get _ (by decide) | rfl | exact tab_get (by first | omega | (simp; omega)) | exact gm (d := 0) (by first | omega | (simp; omega)))) ?_
    refine .uw rfl (.as (v' := u64 (BitVec.ofNat 64 ((a + b) / 115792089237316195423570985008687907853269984665640564039457584007913129639936))) (.conv_i_u64 Tryd.underlying3 Tryd.underlying34 rfl) (congrArg u64 (by rw [dg_32 ha hb]; exact BitVec.ofInt_natCast _ _))) ?_
    refine .mw rfl (.c (f67_spec (a + b)) body_67) ?_
    rintro _ _ _ ⟨rfl, rfl, rfl⟩
    refine kp ?_
    first | refine .mw0 rfl (.sa sz_60) ?_ | refine .mw0 rfl (.so sz_60) ?_ | refine .mw0 rfl (.sr sz_60) ?_
    rintro _ _ _ ⟨rfl, rfl⟩
    refine kp ?_
    refine .uw rfl (.assign rfl) ?_
    refine .nil (.tn (.ret ?_))
    exact .dn [] [] (res2 rfl (.cl agg_60) (.tmp rfl)) ⟨rfl, rfl, rfl⟩

theorem f50_spec (v : Value) (l : List W64) :
    Spec Tryd.prog 50 #[v] [Res.rd v l.length 1 (l.map u64)] []
      (fun r Γ' H' => r = (.agg ((wd (totN l)).map u64).toArray) ∧ Γ' = [] ∧ H' = []) := by
  refine Spec.of_args Tryd.func50 rfl Tryd.ntmps50 (by simp) fun w => ?_
  refine JC.know (φ := l.length ≤ 9223372036854775807) (fun w hs => by obtain ⟨_, _, _, _, _, _, h⟩ := hs.rdForm (.head _); unfold maxLen at h; omega) fun hll => ?_
  refine .seq (.region ?_)
  refine .al zero_60 fun b2 => ?_
  refine .nil (.tn (.seq (.region ?_)))
  refine .w (.as (v' := .agg ((wd 0).map u64).toArray) (.build bld_60 rfl rfl) rfl) ?_
  refine .al zero_60 fun b3 => ?_
  first | refine .sa sz_60 ?_ | refine .so sz_60 ?_ | refine .sr sz_60 ?_
  refine .nil (.tn (.seq (.seq (.region ?_))))
  refine .w (.assign rfl) ?_
  refine .nil (.tn (.block ?_))
  refine .lp (ι := Nat) (fun x => x ≤ l.length) (fun T x => (0, v) :: (2, ptr b2 0) :: (3, ptr b3 0) :: (4, it (x : Int)) :: T) (fun T x => Res.rd v l.length 1 (l.map u64) :: T) (fun T x => Res.cells b2 ((wd 0).map u64) 60 :: Res.cells b3 ((wd (totN (l.take x))).map u64) 60 :: T) (fun x => l.length - x) 0 [22] ?_ (fun x hx => ?_) (hH := (by rw [tot_0]; repeat (first | exact Picks.nil _ | apply Picks.cons | exact Pull.here _ _ | apply Pull.there)))
  · exact Nat.zero_le _
  refine .seq (.seq (.region ?_))
  refine .w (.move rfl) ?_
  refine .w (.move rfl) ?_
  refine .w (.len Tryd.underlying22 rfl) ?_
  refine .w (.bin rfl rfl BinR.lss_i) ?_
  refine .nil (.tn ?_)
  refine .cn rfl (fun hc1 => ?_) (fun hc1 => ?_)
  · refine .skip (.tn (.seq (.block ?_)))
    refine JC.draw (.one 0 (.one 1 (.one 2 (.one 3 (.one 4 (.one 5 (.one 6 (.one 7 (.one 8 (.one 9 (.one 10 .nil))))))))))) (fun i => ([6, 10] : List Nat).contains i) (fun i => ([6, 10] : List Nat).contains i) (fun i => ([1, 2, 3, 5, 7, 8, 9] : List Nat).contains i) mixed (by kernel_rfl) (by decide) (by kernel_rfl) ?_
    refine .w rfl (.lda agg_60 rfl) ?_
    refine .uw rfl (.move rfl) ?_
    refine .uw rfl (.move rfl) ?_
    refine .uw rfl (.ix1 Tryd.underlying22 sz_34 rfl rfl) ?_
    refine .w rfl (.ld one_34 rfl) ?_
    refine .uw rfl (.as (v' := .agg ((wd (l.getD x 0).toNat).map u64).toArray) (.build bld_60 rfl rfl) (by rw [wd_small]; rfl)) ?_
    refine .mw rfl (.c (f54_spec (totN (l.take x)) (l.getD x 0).toNat (tot_lt _) (w_lt _)) body_54) ?_
    rintro _ _ _ ⟨rfl, rfl, rfl⟩
    rw [tot_succ (by omega)]
    refine kp ?_
    refine .uw rfl (.move rfl) ?_
    refine .uw rfl (.as (v' := .agg ((wd (totN (l.take (x + 1)))).map u64).toArray) (.extract rfl rfl) rfl) ?_
    refine .uw rfl (.extract rfl rfl) ?_
    first | refine .mw0 rfl (.sa sz_60) ?_ | refine .mw0 rfl (.so sz_60) ?_ | refine .mw0 rfl (.sr sz_60) ?_
    rintro _ _ _ ⟨rfl, rfl⟩
    refine kp ?_
    refine .nil (.block_normal (.tn (.region ?_)))
    refine .w (.move rfl) ?_
    refine .w (.asI ((x + 1 : Nat) : Int) (.bin rfl rfl (BinR.add_i (by first | (constructor <;> omega) | (constructor <;> simp <;> omega))))) ?_
    refine .w (.assign rfl) ?_
    refine .nil ?_
    refine .hd (x + 1) ?_
    exact ⟨by omega, by omega⟩
  · obtain rfl : x = l.length := by omega
    rw [List.take_length]
    refine .exit (.then_exit (.then_exit (.block_exit (.tn (.seq (.region ?_))))))
    refine .w (.lda agg_60 rfl) ?_
    first | refine .sa sz_60 ?_ | refine .so sz_60 ?_ | refine .sr sz_60 ?_
    refine .nil (.tn (.ret ?_))
    exact .dn [] [] (res1 rfl (.cl agg_60)) ⟨rfl, rfl, rfl⟩

set_option maxHeartbeats 2000000 in
theorem f39_spec (a b : Nat) (ha : a < big) (hb : b < big) :
    Spec Tryd.prog 39 #[(.agg (dgs a).toArray), (.agg (dgs b).toArray)] [] []
      (fun r Γ' H' => r = (.tuple #[.agg (dgs (big + a - b)).toArray, .bool (decide (a < b))]) ∧ Γ' = [] ∧ H' = []) := by
  refine Spec.of_args Tryd.func39 rfl Tryd.ntmps39 (by simp) fun w => ?_
  refine .seq (.region ?_)
  refine .bx fun b2 => ?_
  refine .bx fun b3 => ?_
  refine .al zero_78 fun b4 => ?_
  refine .w (.assign rfl) ?_
  refine .nil (.tn (.seq (.region ?_)))
  refine .al zero_78 fun b6 => ?_
  refine .nil (.tn (.seq (.region ?_)))
  refine .w (.as (v' := it ((br8 a b 0 : Nat) : Int)) (.assign rfl) (by rw [br8_0]; rfl)) ?_
  refine .nil (.tn (.seq (.seq (.region ?_))))
  refine .w (.assign rfl) ?_
  refine .nil (.tn (.block ?_))
  refine .lp (ι := Nat) (fun x => x ≤ 64) (fun T x => (2, ptr b2 0) :: (3, ptr b3 0) :: (4, ptr b4 0) :: (6, ptr b6 0) :: (7, it ((br8 a b x : Nat) : Int)) :: (8, it (x : Int)) :: T) (fun T _ => T) (fun T x => Res.cells b2 (dgs a) 78 :: Res.cells b3 (dgs b) 78 :: Res.cells b4 (List.replicate 64 (it 0)) 78 :: Res.cells b6 (dT (dgN (big + a - b)) x) 78 :: T) (fun x => 64 - x) 0 [5, 31, 32, 33] ?_ (fun x hx => ?_)
  · exact Nat.zero_le _
  refine .seq (.seq (.region ?_))
  refine .w (.move rfl) ?_
  refine .w (.bin rfl rfl BinR.lss_i) ?_
  refine .nil (.tn ?_)
  refine .cn rfl (fun hc1 => ?_) (fun hc1 => ?_)
  · have hda := dg_lt a x
    have hdb := dg_lt b x
    have hcl := br8_le a b x
    have hx64 : x < 64 := by omega
    have hpd := less_dg (a := a) (b := b) hb hx64
    have hcs : (dgN a x < dgN b x + br8 a b x ∧ br8 a b (x + 1) = 1) ∨ (¬ dgN a x < dgN b x + br8 a b x ∧ br8 a b (x + 1) = 0) := by
      rw [br8_succ]
      split
      · exact .inl ⟨by assumption, rfl⟩
      · exact .inr ⟨by assumption, rfl⟩
    refine .skip (.tn (.seq (.block (.seq ?_))))
    refine JC.draw (.one 0 (.one 1 (.one 2 (.one 3 (.one 4 (.one 5 (.one 6 (.one 7 (.one 8 (.one 9 (.one 10 .nil))))))))))) (fun i => ([] : List Nat).contains i) (fun i => ([] : List Nat).contains i) (fun i => ([0, 1, 3, 4, 6, 7, 8, 9, 10] : List Nat).contains i) mixed (by kernel_rfl) (by decide) (by kernel_rfl) ?_
    refine .uw rfl (.move rfl) ?_
    refine .uw rfl (.ixA Tryd.underlying78 sz_3 rfl rfl) ?_
    refine .w rfl (.ld one_3 rfl (hj := by first | exact dgs_get _ (by omega) | rfl | exact tab_get (by first | omega | (simp; omega)) | exact gm (d := 0) (by first | omega | (simp; omega)))) ?_
    refine .uw rfl (.move rfl) ?_
    refine .uw rfl (.ixA Tryd.underlying78 sz_3 rfl rfl) ?_
    refine .w rfl (.ld one_3 rfl (hj := by first | exact dgs_get _ (by omega) | rfl | exact tab_get (by first | omega | (simp; omega)) | exact gm (d := 0) (by first | omega | (simp; omega)))) ?_
    refine .uw rfl (.bin rfl rfl (BinR.sub_i (by first | (constructor <;> omega) | (constructor <;> simp <;> omega)))) ?_
    refine .uw rfl (.move rfl) ?_
    refine .uw rfl (.bin rfl rfl (BinR.sub_i (by first | (constructor <;> omega) | (constructor <;> simp <;> omega)))) ?_
    refine .uw rfl (.asI ((256 + dgN a x - dgN b x - br8 a b x : Nat) : Int) (.bin rfl rfl (BinR.add_i (by first | (constructor <;> omega) | (constructor <;> simp <;> omega))))) ?_
    refine .uw rfl (.assign rfl) ?_
    refine .nil (.tn (.seq (.region ?_)))
    refine .w (.move rfl) ?_
    refine .w (.move rfl) ?_
    refine .w (.asI ((dgN (big + a - b) x : Nat) : Int) (.bin rfl rfl (BinR.rem_i (by first | omega | decide | (simp; omega)) (by first | omega | decide | (simp; omega))))) ?_
    refine .w (.ixA Tryd.underlying78 sz_3 rfl rfl) ?_
    first | refine .s1 sz_3 ?_ | refine .sr1 sz_3 ?_
    refine .nil (.tn (.region ?_))
    refine .w (.move rfl) ?_
    refine .w (.bin rfl rfl (BinR.quo_i (by first | omega | decide | (simp; omega)) (by first | omega | decide | (simp; omega)) (by first | (constructor <;> omega) | (constructor <;> simp <;> omega)))) ?_
    refine .w (.asI ((br8 a b (x + 1) : Nat) : Int) (.bin rfl rfl (BinR.sub_i (by first | (constructor <;> omega) | (constructor <;> simp <;> omega))))) ?_
    refine .w (.assign rfl) ?_
    refine .nil (.block_normal (.tn (.region ?_)))
    refine .w (.move rfl) ?_
    refine .w (.bin rfl rfl (BinR.add_i (by first | (constructor <;> omega) | (constructor <;> simp <;> omega)))) ?_
    refine .w (.assign rfl) ?_
    refine .nil ?_
    rw [dT_set]
    refine .hd (x + 1) ?_
    exact ⟨by omega, by omega⟩
  · obtain rfl : x = 64 := by omega
    rw [dT_all]
    refine .exit (.then_exit (.then_exit (.block_exit (.tn (.seq (.region ?_))))))
    refine .w (.lda agg_78 rfl) ?_
    refine .w (.move rfl) ?_
    refine .w (.as (v' := .bool (decide (a < b))) (.bin rfl rfl BinR.eql_i) (congrArg Value.bool (by rw [br8_64 ha hb]; by_cases h : a < b <;> simp [h]))) ?_
    first | refine .sa sz_78 ?_ | refine .so sz_78 ?_ | refine .sr sz_78 ?_
    refine .w (.assign rfl) ?_
    refine .nil (.tn (.ret ?_))
    exact .dn [] [] (res2 rfl (.cl agg_78) (.tmp rfl)) ⟨rfl, rfl, rfl⟩

set_option maxHeartbeats 2000000 in
theorem f48_spec (a b : Nat) (ha : a < big) :
    Spec Tryd.prog 48 #[(.agg (dgs a).toArray), (.agg (dgs b).toArray)] [] []
      (fun r Γ' H' => r = (.agg (dgs (a * b)).toArray) ∧ Γ' = [] ∧ H' = []) := by
  refine Spec.of_args Tryd.func48 rfl Tryd.ntmps48 (by simp) fun w => ?_
  refine .seq (.region ?_)
  refine .bx fun b2 => ?_
  refine .bx fun b3 => ?_
  refine .al zero_78 fun b4 => ?_
  refine .nil (.tn (.seq (.region ?_)))
  refine .al zero_78 fun b5 => ?_
  refine .nil (.tn (.seq (.seq (.region ?_))))
  refine .w (.assign rfl) ?_
  refine .nil (.tn (.block ?_))
  refine .lp (ι := Nat) (fun x => x ≤ 64) (fun T x => (2, ptr b2 0) :: (3, ptr b3 0) :: (4, ptr b4 0) :: (5, ptr b5 0) :: (6, it (x : Int)) :: T) (fun T _ => T) (fun T x => Res.cells b2 (dgs a) 78 :: Res.cells b3 (dgs b) 78 :: Res.cells b4 (List.replicate 64 (it 0)) 78 :: Res.cells b5 (dgs (prodK a b x)) 78 :: T) (fun x => 64 - x) 0 [47] ?_ (fun x hx => ?_) (hH := (by rw [prodK_0, dgs_0]; repeat (first | exact Picks.nil _ | apply Picks.cons | exact Pull.here _ _ | apply Pull.there)))
  · exact Nat.zero_le _
  revert hx
  generalize x = i
  intro hi
  refine .seq (.seq (.region ?_))
  refine .w (.move rfl) ?_
  refine .w (.bin rfl rfl BinR.lss_i) ?_
  refine .nil (.tn ?_)
  refine .cn rfl (fun hc1 => ?_) (fun hc1 => ?_)
  · have hai := dg_lt a i
    refine .skip (.tn (.seq (.block (.seq (.seq (.region ?_))))))
    refine .w (.move rfl) ?_
    refine .w (.ixA Tryd.underlying78 sz_3 rfl rfl) ?_
    refine .w (.ld one_3 rfl (hj := by first | exact dgs_get _ (by omega) | exact rowT_get _ _ _ _ _ (by omega) | rfl | exact tab_get (by first | omega | (simp; omega)) | exact gm (d := 0) (by first | omega | (simp; omega)))) ?_
    refine .w (.bin rfl rfl BinR.eql_i) ?_
    refine .nil (.tn ?_)
    refine .cn rfl (fun hc2 => ?_) (fun hc2 => ?_)
    · rw [← prodK_none (b := b) (show dgN a i = 0 by omega)]
      refine .exit (.then_exit (.block_exit (.tn (.region ?_))))
      refine .w (.move rfl) ?_
      refine .w (.bin rfl rfl (BinR.add_i (by first | (constructor <;> omega) | (constructor <;> simp <;> omega)))) ?_
      refine .w (.assign rfl) ?_
      refine .nil ?_
      refine .hd (i + 1) ?_
      exact ⟨by omega, by omega⟩
    · skip
      refine .skip (.tn (.seq (.region ?_)))
      refine .w (.as (v' := it ((rowC (prodK a b i) (dgN a i) b i 0 : Nat) : Int)) (.assign rfl) (by rw [rowC_0]; rfl)) ?_
      refine .nil (.tn (.seq (.region ?_)))
      refine .w (.assign rfl) ?_
      refine .nil (.tn (.block ?_))
      refine .lp (ι := Nat) (fun x => i + x ≤ 64) (fun T x => (2, ptr b2 0) :: (3, ptr b3 0) :: (4, ptr b4 0) :: (5, ptr b5 0) :: (6, it (i : Int)) :: (7, it ((rowC (prodK a b i) (dgN a i) b i x : Nat) : Int)) :: (8, it (x : Int)) :: T) (fun T _ => T) (fun T x => Res.cells b2 (dgs a) 78 :: Res.cells b3 (dgs b) 78 :: Res.cells b4 (List.replicate 64 (it 0)) 78 :: Res.cells b5 (rowT (prodK a b i) (dgN a i) b i x) 78 :: T) (fun x => 64 - x) 0 [10, 11, 12, 13, 14, 15, 16, 17, 47] ?_ (fun x hx => ?_) (hH := (by rw [rowT_0]; repeat (first | exact Picks.nil _ | apply Picks.cons | exact Pull.here _ _ | apply Pull.there)))
      · omega
      refine .seq (.seq (.region ?_))
      refine .w (.move rfl) ?_
      refine .w (.move rfl) ?_
      refine .w (.bin rfl rfl (BinR.add_i (by first | (constructor <;> omega) | (constructor <;> simp <;> omega)))) ?_
      refine .w (.bin rfl rfl BinR.lss_i) ?_
      refine .nil (.tn ?_)
      refine .cn rfl (fun hc3 => ?_) (fun hc3 => ?_)
      · have hbx := dg_lt b x
        have hxx := dg_lt (prodK a b i) (i + x)
        have hrb := rowC_bd (prodK a b i) b i x hai
        have hmb : dgN a i * dgN b x ≤ 255 * 255 := Nat.mul_le_mul (by omega) (by omega)
        have hrd := rowC_dg (prodK a b i) (dgN a i) b i x
        have hrc := rowC_cr (prodK a b i) (dgN a i) b i x
        refine .skip (.tn (.seq (.block (.seq ?_))))
        refine JC.draw (.one 0 (.one 1 (.one 2 (.one 3 (.one 4 (.one 5 (.one 6 (.one 7 (.one 8 (.one 9 (.one 10 (.one 11 (.one 12 (.one 13 (.one 14 (.one 15 .nil)))))))))))))))) (fun i => ([] : List Nat).contains i) (fun i => ([] : List Nat).contains i) (fun i => ([0, 1, 2, 3, 5, 6, 8, 9, 11, 12, 13, 14, 15] : List Nat).contains i) mixed (by kernel_rfl) (by decide) (by kernel_rfl) ?_
        refine .uw rfl (.move rfl) ?_
        refine .uw rfl (.move rfl) ?_
        refine .uw rfl (.asI ((i + x : Nat) : Int) (.bin rfl rfl (BinR.add_i (by first | (constructor <;> omega) | (constructor <;> simp <;> omega))))) ?_
        refine .uw rfl (.ixA Tryd.underlying78 sz_3 rfl rfl) ?_
        refine .w rfl (.ld one_3 rfl (hj := by first | exact dgs_get _ (by omega) | exact rowT_get _ _ _ _ _ (by omega) | rfl | exact tab_get (by first | omega | (simp; omega)) | exact gm (d := 0) (by first | omega | (simp; omega)))) ?_
        refine .uw rfl (.move rfl) ?_
        refine .uw rfl (.ixA Tryd.underlying78 sz_3 rfl rfl) ?_
        refine .w rfl (.ld one_3 rfl (hj := by first | exact dgs_get _ (by omega) | exact rowT_get _ _ _ _ _ (by omega) | rfl | exact tab_get (by first | omega | (simp; omega)) | exact gm (d := 0) (by first | omega | (simp; omega)))) ?_
        refine .uw rfl (.move rfl) ?_
        refine .uw rfl (.ixA Tryd.underlying78 sz_3 rfl rfl) ?_
        refine .w rfl (.ld one_3 rfl (hj := by first | exact dgs_get _ (by omega) | exact rowT_get _ _ _ _ _ (by omega) | rfl | exact tab_get (by first | omega | (simp; omega)) | exact gm (d := 0) (by first | omega | (simp; omega)))) ?_
        refine .uw rfl (.as (v' := it ((dgN a i * dgN b x : Nat) : Int)) (.bin rfl rfl (BinR.mul_i (by first | (constructor <;> omega) | (constructor <;> simp <;> omega)))) (congrArg it (by simp))) ?_
        refine .uw rfl (.bin rfl rfl (BinR.add_i (by first | (constructor <;> omega) | (constructor <;> simp <;> omega)))) ?_
        refine .uw rfl (.move rfl) ?_
        refine .uw rfl (.bin rfl rfl (BinR.add_i (by first | (constructor <;> omega) | (constructor <;> simp <;> omega)))) ?_
        refine .uw rfl (.assign rfl) ?_
        refine .nil (.tn (.seq (.region ?_)))
        refine .w (.move rfl) ?_
        refine .w (.move rfl) ?_
        refine .w (.asI ((i + x : Nat) : Int) (.bin rfl rfl (BinR.add_i (by first | (constructor <;> omega) | (constructor <;> simp <;> omega))))) ?_
        refine .w (.move rfl) ?_
        refine .w (.as (v' := it ((dgN (rowL (prodK a b i) (dgN a i) b i (x + 1)) (i + x) : Nat) : Int)) (.bin rfl rfl (BinR.rem_i (by first | omega | decide | (simp; omega)) (by first | omega | decide | (simp; omega)))) (congrArg it (by rw [hrd]; omega))) ?_
        refine .w (.ixA Tryd.underlying78 sz_3 rfl rfl) ?_
        first | refine .s1 sz_3 ?_ | refine .sr1 sz_3 ?_
        refine .nil (.tn (.region ?_))
        refine .w (.move rfl) ?_
        refine .w (.as (v' := it ((rowC (prodK a b i) (dgN a i) b i (x + 1) : Nat) : Int)) (.bin rfl rfl (BinR.quo_i (by first | omega | decide | (simp; omega)) (by first | omega | decide | (simp; omega)) (by first | (constructor <;> omega) | (constructor <;> simp <;> omega)))) (congrArg it (by rw [hrc]; omega))) ?_
        refine .w (.assign rfl) ?_
        refine .nil (.block_normal (.tn (.region ?_)))
        refine .w (.move rfl) ?_
        refine .w (.bin rfl rfl (BinR.add_i (by first | (constructor <;> omega) | (constructor <;> simp <;> omega)))) ?_
        refine .w (.assign rfl) ?_
        refine .nil ?_
        rw [rowT_set]
        refine .hd (x + 1) ?_
        exact ⟨by omega, by omega⟩
      · obtain rfl : x = 64 - i := by omega
        rw [row_end _ _ _ _ (by omega), ← prodK_succ]
        refine .exit (.then_exit (.then_exit (.block_exit (.block_normal (.tn (.region ?_))))))
        refine .w (.move rfl) ?_
        refine .w (.bin rfl rfl (BinR.add_i (by first | (constructor <;> omega) | (constructor <;> simp <;> omega)))) ?_
        refine .w (.assign rfl) ?_
        refine .nil ?_
        refine .hd (i + 1) ?_
        exact ⟨by omega, by omega⟩
  · obtain rfl : i = 64 := by omega
    rw [prodK_64 ha]
    refine .exit (.then_exit (.then_exit (.block_exit (.tn (.seq (.region ?_))))))
    refine .w (.lda agg_78 rfl) ?_
    first | refine .sa sz_78 ?_ | refine .so sz_78 ?_ | refine .sr sz_78 ?_
    refine .nil (.tn (.ret ?_))
    exact .dn [] [] (res1 rfl (.cl agg_78)) ⟨rfl, rfl, rfl⟩
end Go.Proofs.YtmbpngnamnoiaaaDoor
