/- Walks: products, what is more than a third, more than two thirds. -/
import Derived.Test.YtncececcopalgaaDoorF1
namespace Go.Proofs.YtncececcopalgaaDoor
open Go.RowKit
set_option maxRecDepth 100000
set_option linter.unusedVariables false
set_option linter.unusedSimpArgs false
theorem f40_spec (a b : Nat) (ha : a < 115792089237316195423570985008687907853269984665640564039457584007913129639936) (hb : b < 115792089237316195423570985008687907853269984665640564039457584007913129639936) :
    Spec Tryd.prog 40 #[(.agg ((wd a).map u64).toArray), (.agg ((wd b).map u64).toArray)] [] []
      (fun r Γ' H' => r = (.agg ((wd8 (a * b)).map u64).toArray) ∧ Γ' = [] ∧ H' = []) := by
  refine Spec.of_args Tryd.func40 rfl Tryd.ntmps40 (by simp) fun w => ?_
  refine .seq (.region ?_)
  refine .bx fun b2 => ?_
  refine .bx fun b3 => ?_
  refine .al zero_105 fun b4 => ?_
  refine .nil (.tn (.seq (.region ?_)))
  refine .al zero_105 fun b5 => ?_
  refine .nil (.tn (.seq (.seq (.region ?_))))
  refine .w (.lda agg_88 rfl) ?_
  refine .w (.move rfl) ?_
  refine .nil (.tn (.block ?_))
  refine .lp (ι := Nat × List W64) (fun x => x.1 ≤ 4 ∧ x.2.length = 8 ∧ val x.2 = (a % pw x.1) * b ∧ ∀ k, x.1 + 4 ≤ k → k < 8 → x.2.getD k 0 = 0) (fun T x => (15, it (x.1 : Int)) :: T) (fun T _ => T) (fun T x => Res.cells b5 (x.2.map u64) 105 :: T) (fun x => 4 - x.1) (0, List.replicate 8 0) [3, 4, 5, 14, 63] ?_ (fun x hx => ?_)
  · exact ⟨by decide, rfl, by simp [pw_0, Nat.mod_one, val, List.replicate], fun k _ h => by rw [List.getD_eq_getElem?_getD, List.getElem?_replicate, if_pos h]; rfl⟩
  obtain ⟨i, ws⟩ := x
  obtain ⟨hi, hw1, hw2, hw3⟩ := hx
  dsimp only at hi hw1 hw2 hw3 ⊢
  refine .seq (.region ?_)
  refine .w (.bin rfl rfl BinR.lss_i) ?_
  refine .nil (.tn (.seq ?_))
  refine .cn rfl (fun hc1 => ?_) (fun hc1 => ?_)
  · skip
    refine .skip (.tn (.seq (.block (.seq (.region ?_)))))
    refine .w (.move rfl) ?_
    refine .w (.as (v' := u64 (wat a i)) (.indexAgg Tryd.underlying88 Tryd.underlying48 sz_48 rfl rfl (by first | exact ltb rfl | (simp; done) | (simp; omega) | omega | (simp [*]; omega)) (by first | rfl | exact gm (d := 0) (by first | omega | (simp; omega)))) rfl) ?_
    refine .w (.assign rfl) ?_
    refine .w (.assign rfl) ?_
    refine .nil (.tn (.seq (.region ?_)))
    refine .w (.assign rfl) ?_
    refine .nil (.tn (.seq (.seq (.region ?_))))
    refine .w (.lda agg_88 rfl) ?_
    refine .w (.move rfl) ?_
    refine .nil (.tn (.block ?_))
    refine .lp (ι := Nat × W64 × List W64) (fun x => x.1 ≤ 4 ∧ MulI a b i x.1 x.2.1 x.2.2) (fun T x => (20, it (x.1 : Int)) :: (8, u64 x.2.1) :: T) (fun T _ => T) (fun T x => Res.cells b5 (x.2.2.map u64) 105 :: T) (fun x => 4 - x.1) (0, 0, ws) [3, 4, 5, 6, 7, 14, 15, 16, 17, 18, 19, 58, 59, 60, 61, 62, 63] ?_ (fun x hx => ?_)
    · exact ⟨Nat.zero_le _, MulI.start a b hw1 hw2 hw3⟩
    clear hw1 hw2 hw3
    obtain ⟨j, c, ws⟩ := x
    obtain ⟨hj, hI⟩ := hx
    dsimp only at hj hI ⊢
    have hw1 := hI.1
    refine .seq (.region ?_)
    refine .w (.bin rfl rfl BinR.lss_i) ?_
    refine .nil (.tn (.seq ?_))
    refine .cn rfl (fun hc2 => ?_) (fun hc2 => ?_)
    · skip
      refine .skip (.tn (.seq (.block (.seq (.region ?_)))))
      refine .w (.move rfl) ?_
      refine .w (.as (v' := u64 (wat b j)) (.indexAgg Tryd.underlying88 Tryd.underlying48 sz_48 rfl rfl (by first | exact ltb rfl | (simp; done) | (simp; omega) | omega | (simp [*]; omega)) (by first | rfl | exact gm (d := 0) (by first | omega | (simp; omega)))) rfl) ?_
      refine .w (.assign rfl) ?_
      refine .w (.assign rfl) ?_
      refine .nil (.tn (.seq (.region ?_)))
      refine .w (.move rfl) ?_
      refine .w (.move rfl) ?_
      refine .c (f49_spec (wat a i) (wat b j)) body_49 ?_
      refine .w (.move rfl) ?_
      refine .w (.as (v' := u64 (BitVec.ofNat 64 ((wat a i).toNat * (wat b j).toNat / 18446744073709551616))) (.extract rfl rfl) rfl) ?_
      refine .w (.as (v' := u64 (wat a i * wat b j)) (.extract rfl rfl) rfl) ?_
      refine .w (.assign rfl) ?_
      refine .w (.assign rfl) ?_
      refine .nil (.tn (.seq (.region ?_)))
      refine .w (.assign rfl) ?_
      refine .nil (.tn (.seq (.region ?_)))
      refine .w (.move rfl) ?_
      refine .w (.move rfl) ?_
      refine .w (.move rfl) ?_
      refine .w (.asI ((i + j : Nat) : Int) (.bin rfl rfl (BinR.add_i (by first | (constructor <;> omega) | (constructor <;> simp <;> omega))))) ?_
      refine .w (.ixA Tryd.underlying105 sz_48 rfl rfl) ?_
      refine .w (.ld one_48 rfl (hj := by exact gm (d := 0) (by omega))) ?_
      refine .w (.ext rfl (ext_50 _ _ 0#64 (by decide))) ?_
      refine .w (.move rfl) ?_
      refine .w (.as (v' := u64 (wat a i * wat b j + (ws.getD (i + j) 0) + 0#64)) (.extract rfl rfl) rfl) ?_
      refine .w (.as (v' := u64 (BitVec.ofNat 64 (((wat a i * wat b j).toNat + (ws.getD (i + j) 0).toNat + (0#64).toNat) / 18446744073709551616))) (.extract rfl rfl) rfl) ?_
      refine .w (.assign rfl) ?_
      refine .w (.assign rfl) ?_
      refine .nil (.tn (.seq (.region ?_)))
      refine .w (.move rfl) ?_
      refine .w (.move rfl) ?_
      refine .w (.bin rfl rfl (BinR.add_u64)) ?_
      refine .w (.assign rfl) ?_
      refine .nil (.tn (.seq (.region ?_)))
      refine .w (.move rfl) ?_
      refine .w (.move rfl) ?_
      refine .w (.ext rfl (ext_50 _ _ 0#64 (by decide))) ?_
      refine .w (.move rfl) ?_
      refine .w (.as (v' := u64 (mlo (wat a i) (wat b j) (ws.getD (i + j) 0) c)) (.extract rfl rfl) (congrArg u64 (mlo_eq _ _ _ _))) ?_
      refine .w (.as (v' := u64 (BitVec.ofNat 64 (((wat a i * wat b j + (ws.getD (i + j) 0) + 0#64).toNat + c.toNat + (0#64).toNat) / 18446744073709551616))) (.extract rfl rfl) rfl) ?_
      refine .w (.assign rfl) ?_
      refine .w (.assign rfl) ?_
      refine .nil (.tn (.region ?_))
      refine .w (.move rfl) ?_
      refine .w (.move rfl) ?_
      refine .w (.asI ((i + j : Nat) : Int) (.bin rfl rfl (BinR.add_i (by first | (constructor <;> omega) | (constructor <;> simp <;> omega))))) ?_
      refine .w (.move rfl) ?_
      refine .w (.move rfl) ?_
      refine .w (.move rfl) ?_
      refine .w (.as (v' := u64 (mhi (wat a i) (wat b j) (ws.getD (i + j) 0) c)) (.bin rfl rfl (BinR.add_u64)) (congrArg u64 (mhi_eq _ _ _ _))) ?_
      refine .w (.ixA Tryd.underlying105 sz_48 rfl rfl) ?_
      first | refine .s1 sz_48 ?_ | refine .sr1 sz_48 ?_
      refine .w (.assign rfl) ?_
      refine .nil (.block_normal (.tn (.region ?_)))
      refine .w (.asI ((j + 1 : Nat) : Int) (.bin rfl rfl (BinR.add_i (by first | (constructor <;> omega) | (constructor <;> simp <;> omega))))) ?_
      refine .w (.move rfl) ?_
      refine .nil ?_
      rw [← List.map_set]
      refine .hd (j + 1, mhi (wat a i) (wat b j) (ws.getD (i + j) 0) c, ws.set (i + j) (mlo (wat a i) (wat b j) (ws.getD (i + j) 0) c)) ?_
      exact ⟨⟨by dsimp only; omega, hI.step (by omega) (by omega)⟩, by dsimp only; omega⟩
    · obtain rfl : j = 4 := by omega
      refine .exit (.then_exit (.then_exit (.block_exit (.tn (.region ?_)))))
      refine .w (.move rfl) ?_
      refine .w (.asI ((i + 4 : Nat) : Int) (.bin rfl rfl (BinR.add_i (by first | (constructor <;> omega) | (constructor <;> simp <;> omega))))) ?_
      refine .w (.move rfl) ?_
      refine .w (.ixA Tryd.underlying105 sz_48 rfl rfl) ?_
      first | refine .s1 sz_48 ?_ | refine .sr1 sz_48 ?_
      refine .nil (.block_normal (.tn (.region ?_)))
      refine .w (.asI ((i + 1 : Nat) : Int) (.bin rfl rfl (BinR.add_i (by first | (constructor <;> omega) | (constructor <;> simp <;> omega))))) ?_
      refine .w (.move rfl) ?_
      refine .nil ?_
      rw [← List.map_set]
      refine .hd (i + 1, ws.set (i + 4) c) ?_
      exact ⟨⟨by dsimp only; omega, (hI.row hb (by omega)).1, (hI.row hb (by omega)).2.1, (hI.row hb (by omega)).2.2⟩, by dsimp only; omega⟩
  · obtain rfl : i = 4 := by omega
    obtain rfl : ws = wd8 (a * b) := by rw [val_wd8 hw1, hw2, pw_4, Nat.mod_eq_of_lt ha]
    refine .exit (.then_exit (.then_exit (.block_exit (.tn (.seq (.region ?_))))))
    refine .w (.lda agg_105 rfl) ?_
    first | refine .sa sz_105 ?_ | refine .so sz_105 ?_ | refine .sr sz_105 ?_
    refine .nil (.tn (.ret ?_))
    exact .dn [] [] (res1 rfl (.cl agg_105)) ⟨rfl, rfl, rfl⟩

theorem f57_spec (px al : W64) :
    Spec Tryd.prog 57 #[u64 px, u64 al] [] []
      (fun r Γ' H' => r = (.bool (decide (2 * al.toNat < 3 * px.toNat))) ∧ Γ' = [] ∧ H' = []) := by
  refine Spec.of_args Tryd.func57 rfl Tryd.ntmps57 (by simp) fun w => ?_
  refine .seq (.region ?_)
  refine .w (.assign rfl) ?_
  refine .nil (.tn (.seq (.region ?_)))
  refine .w (.move rfl) ?_
  refine .w (.as (v' := .agg ((wd px.toNat).map u64).toArray) (.build bld_88 rfl rfl) (by rw [wd_small]; rfl)) ?_
  refine .w (.as (v' := .agg ((wd 3).map u64).toArray) (.build bld_88 rfl rfl) rfl) ?_
  refine .c (f40_spec px.toNat 3 (w_lt _) (by decide)) body_40 ?_
  refine .w (.move rfl) ?_
  refine .w (.as (v' := .agg ((wd al.toNat).map u64).toArray) (.build bld_88 rfl rfl) (by rw [wd_small]; rfl)) ?_
  refine .w (.as (v' := .agg ((wd 2).map u64).toArray) (.build bld_88 rfl rfl) rfl) ?_
  refine .c (f40_spec al.toNat 2 (w_lt _) (by decide)) body_40 ?_
  refine .al zero_105 fun b5 => ?_
  refine .al zero_105 fun b6 => ?_
  first | refine .sa sz_105 ?_ | refine .so sz_105 ?_ | refine .sr sz_105 ?_
  first | refine .sa sz_105 ?_ | refine .so sz_105 ?_ | refine .sr sz_105 ?_
  refine .nil (.tn (.seq ?_))
  refine JC.draw (.one 0 (.one 1 (.one 2 (.one 3 (.one 4 (.one 5 (.one 6 (.one 7 (.one 8 .nil))))))))) (fun i => ([6] : List Nat).contains i) (fun i => ([6] : List Nat).contains i) (fun i => ([0, 1, 3, 4, 7, 8] : List Nat).contains i) mixed (by kernel_rfl) (by decide) (by kernel_rfl) ?_
  refine .uw rfl (.cutArr (l := 0) (h := 4) Tryd.underlying105 sz_48 rfl rfl ⟨_, rfl⟩ (by first | exact ltb rfl | (simp; done) | (simp; omega) | omega | (simp [*]; omega)) (by first | exact ltb rfl | (simp; done) | (simp; omega) | omega | (simp [*]; omega)) (by first | exact ltb rfl | (simp; done) | (simp; omega) | omega | (simp [*]; omega))) ?_
  refine .uw rfl (.s2a Tryd.underlying88 rfl (by decide)) ?_
  refine .w rfl (.as (v' := .agg ((wd (px.toNat * 3)).map u64).toArray) (.lda agg_88 rfl) (congrArg (fun l : List Value => Value.agg l.toArray) (by rw [List.drop_zero, ← List.map_take, wd8_take]))) ?_
  refine .uw rfl (.cutArr (l := 0) (h := 4) Tryd.underlying105 sz_48 rfl rfl ⟨_, rfl⟩ (by first | exact ltb rfl | (simp; done) | (simp; omega) | omega | (simp [*]; omega)) (by first | exact ltb rfl | (simp; done) | (simp; omega) | omega | (simp [*]; omega)) (by first | exact ltb rfl | (simp; done) | (simp; omega) | omega | (simp [*]; omega))) ?_
  refine .uw rfl (.s2a Tryd.underlying88 rfl (by decide)) ?_
  refine .w rfl (.as (v' := .agg ((wd (al.toNat * 2)).map u64).toArray) (.lda agg_88 rfl) (congrArg (fun l : List Value => Value.agg l.toArray) (by rw [List.drop_zero, ← List.map_take, wd8_take]))) ?_
  refine .mw rfl (.c (f37_spec (px.toNat * 3) (al.toNat * 2) (by have := px.isLt; omega) (by have := al.isLt; omega)) body_37) ?_
  rintro _ _ _ ⟨rfl, rfl, rfl⟩
  refine kp ?_
  refine .uw rfl (.as (v' := .bool (decide (2 * al.toNat < 3 * px.toNat))) (.bin rfl rfl BinR.gtr_i) (congrArg Value.bool (decide_eq_decide.2 (by rw [cmp_gt]; omega)))) ?_
  refine .uw rfl (.assign rfl) ?_
  refine .nil (.tn (.ret ?_))
  exact .dn [] [] (res1 rfl (.tmp rfl)) ⟨rfl, rfl, rfl⟩

theorem f34_spec (px al : W64) :
    Spec Tryd.prog 34 #[u64 px, u64 al] [] []
      (fun r Γ' H' => r = (.bool (decide (al.toNat < 3 * px.toNat))) ∧ Γ' = [] ∧ H' = []) := by
  refine Spec.of_args Tryd.func34 rfl Tryd.ntmps34 (by simp) fun w => ?_
  refine .seq (.region ?_)
  refine .w (.assign rfl) ?_
  refine .nil (.tn (.seq (.region ?_)))
  refine .w (.move rfl) ?_
  refine .w (.as (v' := .agg ((wd px.toNat).map u64).toArray) (.build bld_88 rfl rfl) (by rw [wd_small]; rfl)) ?_
  refine .w (.as (v' := .agg ((wd 3).map u64).toArray) (.build bld_88 rfl rfl) rfl) ?_
  refine .c (f40_spec px.toNat 3 (w_lt _) (by decide)) body_40 ?_
  refine .al zero_105 fun b5 => ?_
  first | refine .sa sz_105 ?_ | refine .so sz_105 ?_ | refine .sr sz_105 ?_
  refine .nil (.tn (.seq (.region ?_)))
  refine .w (.cutArr (l := 0) (h := 4) Tryd.underlying105 sz_48 rfl rfl ⟨_, rfl⟩ (by first | exact ltb rfl | (simp; done) | (simp; omega) | omega | (simp [*]; omega)) (by first | exact ltb rfl | (simp; done) | (simp; omega) | omega | (simp [*]; omega)) (by first | exact ltb rfl | (simp; done) | (simp; omega) | omega | (simp [*]; omega))) ?_
  refine .w (.s2a Tryd.underlying88 rfl (by decide)) ?_
  refine .w (.as (v' := .agg ((wd (px.toNat * 3)).map u64).toArray) (.lda agg_88 rfl) (congrArg (fun l : List Value => Value.agg l.toArray) (by rw [List.drop_zero, ← List.map_take, wd8_take]))) ?_
  refine .w (.move rfl) ?_
  refine .w (.as (v' := .agg ((wd al.toNat).map u64).toArray) (.build bld_88 rfl rfl) (by rw [wd_small]; rfl)) ?_
  refine .c (f37_spec (px.toNat * 3) al.toNat (by have := px.isLt; omega) (w_lt _)) body_37 ?_
  refine .w (.as (v' := .bool (decide (al.toNat < 3 * px.toNat))) (.bin rfl rfl BinR.gtr_i) (congrArg Value.bool (decide_eq_decide.2 (by rw [cmp_gt]; omega)))) ?_
  refine .w (.assign rfl) ?_
  refine .nil (.tn (.ret ?_))
  exact .dn [] [] (res1 rfl (.tmp rfl)) ⟨rfl, rfl, rfl⟩
end Go.Proofs.YtncececcopalgaaDoor
