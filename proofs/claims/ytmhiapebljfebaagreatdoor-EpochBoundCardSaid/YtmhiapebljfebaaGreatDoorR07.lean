/- Texts of ours, gathered: PC PD E28 E29 E30 E31 K15 E32 QA QB. -/
import Derived.Test.YtmhiapebljfebaaGreatDoorR06
set_option linter.unusedVariables false
set_option linter.unusedSimpArgs false
set_option maxRecDepth 100000
/- Walks: lists of proofs; members; powers. -/
namespace Go.Proofs.YtmhiapebljfebaaGreatDoor
open Go.RowKit
theorem f157_spec (bm : Nat) (M : MM N256 Int) (n : Nat) (hn : n < 115792089237316195423570985008687907853269984665640564039457584007913129639936) :
  Spec Tryz.prog 157 #[(.map (some bm)), (.agg ((wd n).map u64).toArray)] [mpR bm ntV itK M] []
   (fun r Γ' H' => r = (.bool (M.get ⟨n, hn⟩).isSome) ∧ Γ' = [] ∧ H' = []) := by
 refine Spec.of_args Tryz.func157 rfl Tryz.ntmps157 (by simp) fun w => ?_
 refine .seq (.region ?_)
 refine .bx fun b3 => ?_
 refine .w (.assign rfl) ?_
 refine .nil (.tn (.seq (.region ?_)))
 refine .w (.move rfl) (.w (.lda agg_40 rfl) (.w (.lk2 (⟨n, hn⟩) Tryz.underlying224 mkey_224 zf_3) (.w (.move rfl) (.w (.extract rfl rfl) (.w (.as (v' := .bool (M.get ⟨n, hn⟩).isSome) (.extract rfl rfl) rfl) (.w (.assign rfl) ?_))))))
 refine .w (.assign rfl) ?_
 refine .nil (.tn (.seq (.region ?_)))
 refine .w (.move rfl) (.w (.assign rfl) ?_)
 refine .nil (.tn (.ret ?_))
 exact .dn [] [] (res1 rfl (.tmp rfl)) ⟨rfl, rfl, rfl⟩

theorem f156_spec (lv : Value) (L : List PF) (hg : GoodL (L.map PF.pd)) :
  Spec Tryz.prog 156 #[lv] [Res.var 3 ((wd 2).map u64), Res.rd lv L.length 9 (bks prfC L), Res.all (facRes L)] []
   (fun r Γ' H' => ∃ bm M, KI L L.length M ∧ r = .tuple #[.map (some bm), it 0] ∧ Γ' = [] ∧ H' = [mpR bm ntV itK M]) := by
 refine Spec.of_args Tryz.func156 rfl Tryz.ntmps156 (by simp) fun w => ?_
 have hl40 : L.length ≤ 40 := by have := hg.1; simpa using this
 refine .seq (.region ?_)
 refine .w (.assign rfl) (.w (.assign rfl) ?_)
 refine .nil (.tn (.seq (.region ?_)))
 refine .mm ntV itK fun b10 => ?_
 refine .w (.as (v' := ntV n2) (.lda agg_40 rfl) (by rfl)) ?_
 refine .ins n2 (0 : Int) Tryz.underlying224 mkey_224 ?_
 refine .w (.move rfl) (.w (.assign rfl) ?_)
 refine .nil (.tn (.seq (.seq (.region ?_))))
 refine .w (.move rfl) (.w (.len Tryz.underlying56 rfl) (.w (.bin rfl rfl BinR.gtr_i) ?_))
 refine .nil (.tn ?_)
 refine .cn rfl (fun hc1 => ?_) (fun hc1 => ?_)
 ·exfalso; omega
 ·refine .skip (.tn (.seq (.seq (.region ?_))))
  refine .w (.move rfl) (.w (.len Tryz.underlying56 rfl) (.w (.move rfl) ?_))
  refine .nil (.tn (.block ?_))
  refine .lp (ι := Nat × MM N256 Int) (fun x => x.1 ≤ L.length ∧ KI L x.1 x.2) (fun T x => (19, it (x.1 : Int)) :: T) (fun T _ => T) (fun T x => mpR b10 ntV itK x.2 :: T) (fun x => L.length - x.1) (0, MM.nil.put n2 0) [4, 17, 18, 50] ?_ (fun x hx => ?_)
  ·exact ⟨Nat.zero_le _, ki_0 L⟩
  obtain ⟨k, M⟩ := x
  obtain ⟨hk, hK⟩ := hx
  dsimp only at hk hK ⊢
  refine .seq (.region ?_)
  refine .w (.bin rfl rfl BinR.lss_i) ?_
  refine .nil (.tn (.seq ?_))
  refine .cn rfl (fun hc2 => ?_) (fun hc2 => ?_)
  ·have hst := good_step hg (k := k) (by omega)
   have hfs := fun x hx => good_fac hg (k := k) (x := x) (by omega) hx
   have h40 : (L.getD k PZ).fs.length ≤ 40 := hst.1
   refine .skip (.tn (.seq (.block (.seq (.region ?_)))))
   refine .w (.move rfl) (.w (.ix Tryz.underlying56 sz_120 rfl rfl) (.w (.as (v' := .agg (prfC (L.getD k PZ)).toArray) (.lda agg_120 rfl (hm := by first | exact AM.own zq5 (by rw [bks_len]; omega) | exact AM.ro zq5 (by rw [bks_len]; omega) | exact AM.ownAt zq5 (by rw [bks_len]; omega) | exact AM.rd zq8 (by rw [bks_len]; omega) | exact AM.row zq7 (by rw [bks_len]; omega))) (congrArg (fun l : List Value => Value.agg l.toArray) (bks_piece (f := prfC) PZ (by omega)))) ?_))
   refine JO.open (r := Res.rd (L.getD k PZ).v (L.getD k PZ).fs.length 5 (bks facC (L.getD k PZ).fs)) zq7 (fac_res (by omega)) ?_
   refine .al zero_120 fun b6 => ?_
   refine .w (.assign rfl) (.sa sz_120 ?_ (h1 := (FS.one (f := prfC) _)))
   refine .nil (.tn (.seq (.seq (.region ?_))))
   refine .w (.fieldAddr fa_120_2 rfl) (.w (.ld one_118 rfl) (.w (.len Tryz.underlying118 rfl) (.w (.move rfl) ?_)))
   refine .nil (.tn (.block ?_))
   refine .lp (ι := Nat) (fun x => x ≤ (L.getD k PZ).fs.length) (fun T x => (27, it (x : Int)) :: T) (fun T _ => T) (fun T _ => T) (fun x => (L.getD k PZ).fs.length - x) 0 [4, 5, 6, 9, 17, 18, 19, 20, 21, 22, 23, 24, 25, 26, 38, 39, 40, 41, 42, 43, 44, 45, 46, 47, 48, 49, 50] ?_ (fun x hx => ?_)
   ·exact Nat.zero_le _
   obtain ⟨i, hi⟩ : ∃ i, i = x := ⟨_, rfl⟩
   subst hi
   refine .seq (.region ?_)
   refine .w (.bin rfl rfl BinR.lss_i) ?_
   refine .nil (.tn (.seq ?_))
   refine .cn rfl (fun hc3 => ?_) (fun hc3 => ?_)
   ·have hf := hst.2.1 _ (fz_mem (l := (L.getD k PZ).fs) (k := i) (by omega))
    have hkn : (M.get ⟨((L.getD k PZ).fs.getD i FZ).1, hf.1.2.2.2⟩).isSome = true := (hK _).2 (hfs _ (fz_mem (by omega)))
    refine .skip (.tn (.seq (.block (.seq (.region ?_)))))
    refine .w (.ix Tryz.underlying118 sz_117 rfl rfl) (.w (.as (v' := .agg (facC ((L.getD k PZ).fs.getD i FZ)).toArray) (.lda agg_117 rfl (hm := by first | exact AM.own zq5 (by rw [bks_len]; omega) | exact AM.ro zq5 (by rw [bks_len]; omega) | exact AM.ownAt zq5 (by rw [bks_len]; omega) | exact AM.rd zq8 (by rw [bks_len]; omega) | exact AM.row zq7 (by rw [bks_len]; omega))) (congrArg (fun l : List Value => Value.agg l.toArray) (bks_piece (f := facC) FZ (by omega)))) (.al zero_117 fun b8 => ?_))
    refine .sa sz_117 ?_ (h1 := (FS.one (f := facC) _))
    refine .nil (.tn (.seq (.region ?_)))
    refine .w (.move rfl) (.w (.fieldAddr fa_117_0 rfl) (.w (.as (v' := .agg ((wd ((L.getD k PZ).fs.getD i FZ).1).map u64).toArray) (.lda agg_40 rfl) (by rfl)) (.c (f157_spec b10 M ((L.getD k PZ).fs.getD i FZ).1 hf.1.2.2.2) body_157 ?_)))
    refine .w (.as (v' := .bool false) (.not rfl) (congrArg Value.bool (by rw [hkn]; rfl))) ?_
    refine .nil (.tn ?_)
    refine .cf rfl ?_
    refine .skip (.block_normal (.tn (.region ?_)))
    refine .w (.asI ((i + 1 : Nat) : Int) (.bin rfl rfl (BinR.add_i zq3))) (.w (.move rfl) (.nil ?_))
    refine .hd (i + 1) ?_
    exact ⟨by omega, by omega⟩
   ·skip
    refine .exit (.then_exit (.then_exit (.block_exit (.tn (.seq (.seq (.region ?_)))))))
    refine .w (.as (v' := .agg (prfC (L.getD k PZ)).toArray) (.lda agg_120 rfl) (by rfl)) (.c (f188_spec (L.getD k PZ) hst) body_188 ?_)
    refine .w (.assign rfl) ?_
    refine .nil (.tn (.seq (.region ?_)))
    refine .w (.move rfl) (.w (.as (v' := .bool false) (.bin rfl rfl BinR.neq_i) rfl) ?_)
    refine .nil (.tn ?_)
    refine .cf rfl ?_
    refine .skip (.tn (.region ?_))
    refine .w (.move rfl) (.w (.fieldAddr fa_120_0 rfl) (.w (.as (v' := .agg ((wd (L.getD k PZ).N).map u64).toArray) (.lda agg_40 rfl) (by rfl)) (.w (.move rfl) (.w (.bin rfl rfl (BinR.add_i zq3)) ?_))))
    refine .mu (⟨(L.getD k PZ).N, hst.2.2.2.2.2.1⟩) ((k : Int) + 1) Tryz.underlying224 mkey_224 ?_
    refine .nil (.block_normal (.tn (.region ?_)))
    refine .w (.asI ((k + 1 : Nat) : Int) (.bin rfl rfl (BinR.add_i zq3))) (.w (.move rfl) (.nil ?_))
    refine .hd (k + 1, M.put ⟨(L.getD k PZ).N, hst.2.2.2.2.2.1⟩ ((k : Int) + 1)) ?_
    exact ⟨⟨by dsimp only; omega, ki_succ hK _ _⟩, by dsimp only; omega⟩
  ·obtain rfl : k = L.length := by omega
   refine .exit (.then_exit (.then_exit (.block_exit (.tn (.seq (.region ?_))))))
   refine .w (.move rfl) (.w (.assign rfl) (.w (.assign rfl) ?_))
   refine .nil (.tn (.ret ?_))
   exact .dn [] [mpR b10 ntV itK M] (res2 rfl (.tmp rfl) (.tmp rfl)) ⟨b10, M, hK, rfl, rfl, rfl⟩

theorem f109_spec (lv : Value) (L : List PF) (hg : GoodL (L.map PF.pd)) (n : Nat) (hn : n < 115792089237316195423570985008687907853269984665640564039457584007913129639936) (hin : ∃ j, j < L.length ∧ (L.getD j PZ).N = n) :
  Spec Tryz.prog 109 #[lv, (.agg ((wd n).map u64).toArray)] [Res.var 3 ((wd 2).map u64), Res.rd lv L.length 9 (bks prfC L), Res.all (facRes L)] []
   (fun r Γ' H' => r = (it 0) ∧ Γ' = [] ∧ H' = []) := by
 refine Spec.of_args Tryz.func109 rfl Tryz.ntmps109 (by simp) fun w => ?_
 refine .seq (.region ?_)
 refine .bx fun b3 => ?_
 refine .w (.assign rfl) ?_
 refine .nil (.tn (.seq (.region ?_)))
 refine .w (.move rfl) (.cb (f156_spec lv L hg) body_156 ?_ (h0 := by rintro _ _ _ ⟨_, _, _, _, h, _⟩; exact h))
 rintro _ _ ⟨bm, M, hK, rfl, _, rfl⟩
 refine .ap ?_
 have hkn : (M.get ⟨n, hn⟩).isSome = true := (hK _).2 (.inr hin)
 refine .w (.move rfl) (.w (.extract rfl rfl) (.w (.as (v' := it 0) (.extract rfl rfl) rfl) (.w (.assign rfl) (.w (.assign rfl) ?_))))
 refine .nil (.tn (.seq (.seq (.region ?_))))
 refine .w (.move rfl) (.w (.as (v' := .bool true) (.bin rfl rfl BinR.eql_i) rfl) (.w (.move rfl) ?_))
 refine .gt (g := 14) rfl rfl rfl ?_
 refine .w (.move rfl) ?_
 refine .gt (g := 14) rfl rfl rfl ?_
 refine .w (.lda agg_40 rfl) ?_
 refine .gt (g := 14) rfl rfl rfl ?_
 refine .c (f157_spec bm M n hn) body_157 ?_
 refine .gt (g := 14) rfl rfl rfl ?_
 refine .w (.as (v' := .bool false) (.not rfl) (congrArg Value.bool (by rw [hkn]; rfl))) (.w (.pick1 rfl rfl rfl) ?_)
 refine .nil (.tn ?_)
 refine .cf rfl ?_
 refine .skip (.tn (.seq (.region ?_)))
 refine .w (.move rfl) (.w (.assign rfl) ?_)
 refine .nil (.tn (.ret ?_))
 exact .dn [] [] (res1 rfl (.tmp rfl)) ⟨rfl, rfl, rfl⟩

theorem f53_spec (γ : GP) :
  Spec Tryz.prog 53 #[(ptr γ.g 0)] [cGrp γ] []
   (fun r Γ' H' => r = (ptr γ.pq 0) ∧ Γ' = [] ∧ H' = []) := by
 refine Spec.of_args Tryz.func53 rfl Tryz.ntmps53 (by simp) fun w => ?_
 refine .seq (.region ?_)
 refine .w (.assign rfl) ?_
 refine .nil (.tn (.seq (.region ?_)))
 refine .w (.move rfl) (.w (.nilCheck rfl) (.w (.fieldAddr fa_165_2 rfl) (.w (.as (v' := ptr γ.pq 0) (.ld one_91 rfl) (by rfl)) (.w (.assign rfl) ?_))))
 refine .nil (.tn (.ret ?_))
 exact .dn [] [] (res1 rfl (.tmp rfl)) ⟨rfl, rfl, rfl⟩

theorem f120_spec (γ : GP) (hγ : GOk γ) (a : Nat) (ha : a < 115792089237316195423570985008687907853269984665640564039457584007913129639936) :
  Spec Tryz.prog 120 #[(ptr γ.g 0), (.agg ((wd a).map u64).toArray)] [Res.var 2 ((wd 1).map u64)] [cGrp γ, Res.mod γ.px γ.P, Res.mod γ.pq γ.Q]
   (fun r Γ' H' => r = .bool (memB γ a) ∧ Γ' = [] ∧ H' = [cGrp γ, Res.mod γ.px γ.P, Res.mod γ.pq γ.Q]) := by
 refine Spec.of_args Tryz.func120 rfl Tryz.ntmps120 (by simp) fun w => ?_
 refine .seq (.region ?_)
 refine .bx fun b3 => ?_
 refine .w (.assign rfl) ?_
 refine .nil (.tn (.seq ?_))
 refine JC.draw (.one 0 (.one 1 (.one 2 (.one 3 (.one 4 (.one 5 (.one 6 (.one 7 (.one 8 (.one 9 (.one 10 (.one 11 (.one 12 (.one 13 (.one 14 (.one 15 (.one 16 (.one 17 (.one 18 (.one 19 (.one 20 (.one 21 (.one 22 (.one 23 (.one 25 (.one 24 (.one 26 (.one 27 (.one 28 .nil))))))))))))))))))))))))))))) (fun i => ([] : List Nat).contains i) (fun i => ([10, 24] : List Nat).contains i) (fun i => ([1, 2, 3, 5, 6, 7, 8, 11, 12, 13, 14, 15, 16, 19, 20, 21, 22, 26, 27, 28] : List Nat).contains i) mixed (by kernel_rfl) (by decide) (by kernel_rfl) ?_
 refine .w rfl (.lda agg_40 rfl) (.uw rfl (.as (v' := .agg ((wd 0).map u64).toArray) (.build bld_40 rfl rfl) rfl) (.uw rfl (.as (v' := .bool (decide (a ≠ 0))) (.bin rfl rfl (neq_nat wd_len' wd_len')) (congrArg Value.bool (nz_b ha))) (.uw rfl (.move rfl) ?_)))
 refine JR.gsplit (g := 7) rfl (fun hg7 => ?_) (fun hg7 => ?_)
 ·have hg7' := hg7
  try simp only [decide_eq_true_eq, decide_eq_false_iff_not, Bool.not_eq_true', Bool.not_eq_false', ne_eq, Decidable.not_not, Bool.not_eq_true, Bool.and_eq_true, Bool.or_eq_true, BitVec.reduceToNat] at hg7'
  refine JR.vgt (g := 8) rfl rfl rfl rfl rfl hg7 (.lda agg_40 rfl) (by decide) ?_
  refine JR.ugt (g := 8) rfl rfl rfl rfl rfl hg7 (.move rfl) (by decide) ?_
  refine JR.ugt (g := 8) rfl rfl rfl rfl rfl hg7 (.nilCheck rfl) (by decide) ?_
  refine JR.ugt (g := 8) rfl rfl rfl rfl rfl hg7 (.fieldAddr fa_165_0 rfl) (by decide) ?_
  refine JR.ugt (g := 8) rfl rfl rfl rfl rfl hg7 (.fieldAddr fa_55_0 rfl) (by decide) ?_
  refine JR.vgt (g := 8) rfl rfl rfl rfl rfl hg7 (.as (v' := .agg ((wd γ.P).map u64).toArray) (.lda agg_40 rfl) (by rfl)) (by decide) ?_
  refine JR.mgt (g := 8) rfl rfl rfl rfl hg7 (.c (f52_spec a γ.P ha hγ.pb) body_52) (by decide) ?_
  rintro _ _ _ ⟨rfl, rfl, rfl⟩
  refine kp ?_
  refine JR.ugt (g := 8) rfl rfl rfl rfl rfl hg7 (.as (v' := .bool (decide (a < γ.P))) (.bin rfl rfl BinR.lss_i) (congrArg Value.bool (decide_eq_decide.2 (cmp_lt _ _)))) (by decide) ?_
  refine JR.u rfl rfl rfl (Yv.pick1 rfl hg7 rfl) (by decide) (.uw rfl (.move rfl) ?_)
  refine JR.gsplit (g := 17) rfl (fun hg17 => ?_) (fun hg17 => ?_)
  ·have hg17' := hg17
   try simp only [decide_eq_true_eq, decide_eq_false_iff_not, Bool.not_eq_true', Bool.not_eq_false', ne_eq, Decidable.not_not, Bool.not_eq_true, Bool.and_eq_true, Bool.or_eq_true, BitVec.reduceToNat] at hg17'
   refine JR.ugt (g := 18) rfl rfl rfl rfl rfl hg17 (.move rfl) (by decide) ?_
   refine JR.ugt (g := 18) rfl rfl rfl rfl rfl hg17 (.nilCheck rfl) (by decide) ?_
   refine JR.ugt (g := 18) rfl rfl rfl rfl rfl hg17 (.fieldAddr fa_165_1 rfl) (by decide) ?_
   refine JR.vgt (g := 18) rfl rfl rfl rfl rfl hg17 (.as (v' := ptr γ.px 0) (.ld one_91 rfl) (by rfl)) (by decide) ?_
   refine JR.vgt (g := 18) rfl rfl rfl rfl rfl hg17 (.lda agg_40 rfl) (by decide) ?_
   refine JR.ugt (g := 18) rfl rfl rfl rfl rfl hg17 (.move rfl) (by decide) ?_
   refine JR.ugt (g := 18) rfl rfl rfl rfl rfl hg17 (.nilCheck rfl) (by decide) ?_
   refine JR.ugt (g := 18) rfl rfl rfl rfl rfl hg17 (.fieldAddr fa_165_0 rfl) (by decide) ?_
   refine JR.ugt (g := 18) rfl rfl rfl rfl rfl hg17 (.fieldAddr fa_55_1 rfl) (by decide) ?_
   refine JR.vgt (g := 18) rfl rfl rfl rfl rfl hg17 (.as (v' := .agg ((wd γ.Q).map u64).toArray) (.lda agg_40 rfl) (by rfl)) (by decide) ?_
   refine JR.vgt (g := 18) rfl rfl rfl rfl rfl hg17 (.as (v' := .agg ((wd 1).map u64).toArray) (.lda agg_40 rfl) (by rfl)) (by decide) ?_
   refine JR.mgt (g := 18) rfl rfl rfl rfl hg17 (.c (f111_spec γ.px γ.P hγ.pb hγ.p1 hγ.po a γ.Q ha hγ.qb) body_111) (by decide) ?_
   rintro _ _ _ ⟨rfl, rfl, rfl⟩
   refine kp ?_
   refine JR.ugt (g := 18) rfl rfl rfl rfl rfl hg17 (.as (v' := .bool (decide (a ^ γ.Q % γ.P = 1))) (.bin rfl rfl (eql_nat wd_len' wd_len')) (congrArg Value.bool (decide_eq_decide.2 (by rw [wd_eq (Nat.lt_trans (Nat.mod_lt _ (by have := hγ.p1; omega)) hγ.pb) (by decide)])))) (by decide) ?_
   refine JR.u rfl rfl rfl (Yv.pick1 rfl hg17 rfl) (by decide) (.uw rfl (.assign rfl) ?_)
   refine .nil (.tn (.ret ?_))
   exact .dn [] [cGrp γ, Res.mod γ.px γ.P, Res.mod γ.pq γ.Q] (res1 rfl (.tmp rfl)) ⟨congrArg Value.bool (by unfold memB; first | (simp_all; done) | (simp_all; omega)), rfl, rfl⟩
  ·have hg17' := hg17
   try simp only [decide_eq_true_eq, decide_eq_false_iff_not, Bool.not_eq_true', Bool.not_eq_false', ne_eq, Decidable.not_not, Bool.not_eq_true, Bool.and_eq_true, Bool.or_eq_true, BitVec.reduceToNat] at hg17'
   refine JR.gf (g := 18) rfl rfl rfl rfl hg17 (by decide) ?_
   refine JR.gf (g := 18) rfl rfl rfl rfl hg17 (by decide) ?_
   refine JR.gf (g := 18) rfl rfl rfl rfl hg17 (by decide) ?_
   refine JR.gf (g := 18) rfl rfl rfl rfl hg17 (by decide) ?_
   refine JR.gf (g := 18) rfl rfl rfl rfl hg17 (by decide) ?_
   refine JR.gf (g := 18) rfl rfl rfl rfl hg17 (by decide) ?_
   refine JR.gf (g := 18) rfl rfl rfl rfl hg17 (by decide) ?_
   refine JR.gf (g := 18) rfl rfl rfl rfl hg17 (by decide) ?_
   refine JR.gf (g := 18) rfl rfl rfl rfl hg17 (by decide) ?_
   refine JR.gf (g := 18) rfl rfl rfl rfl hg17 (by decide) ?_
   refine JR.gf (g := 18) rfl rfl rfl rfl hg17 (by decide) ?_
   refine JR.gfm (g := 18) rfl rfl rfl rfl hg17 (by decide) ?_ ?_
   ·exact ⟨Subs.sub zq0, .inr (St.keep zq0 zq1)⟩
   refine JR.gf (g := 18) rfl rfl rfl rfl hg17 (by decide) ?_
   refine JR.u rfl rfl rfl (Yv.pick0 rfl hg17 rfl) (by decide) (.uw rfl (.assign rfl) ?_)
   refine .nil (.tn (.ret ?_))
   exact .dn [] [cGrp γ, Res.mod γ.px γ.P, Res.mod γ.pq γ.Q] (res1 rfl (.tmp rfl)) ⟨congrArg Value.bool (by unfold memB; first | (simp_all; done) | (simp_all; omega)), rfl, rfl⟩
 ·have hg7' := hg7
  try simp only [decide_eq_true_eq, decide_eq_false_iff_not, Bool.not_eq_true', Bool.not_eq_false', ne_eq, Decidable.not_not, Bool.not_eq_true, Bool.and_eq_true, Bool.or_eq_true, BitVec.reduceToNat] at hg7'
  refine JR.gf (g := 8) rfl rfl rfl rfl hg7 (by decide) ?_
  refine JR.gf (g := 8) rfl rfl rfl rfl hg7 (by decide) ?_
  refine JR.gf (g := 8) rfl rfl rfl rfl hg7 (by decide) ?_
  refine JR.gf (g := 8) rfl rfl rfl rfl hg7 (by decide) ?_
  refine JR.gf (g := 8) rfl rfl rfl rfl hg7 (by decide) ?_
  refine JR.gf (g := 8) rfl rfl rfl rfl hg7 (by decide) ?_
  refine JR.gfm (g := 8) rfl rfl rfl rfl hg7 (by decide) ?_ ?_
  ·exact ⟨Subs.sub zq0, .inr (St.keep zq0 zq1)⟩
  refine JR.gf (g := 8) rfl rfl rfl rfl hg7 (by decide) ?_
  refine JR.u rfl rfl rfl (Yv.pick0 rfl hg7 rfl) (by decide) (.uw rfl (.move rfl) ?_)
  refine JR.gf (g := 18) rfl rfl rfl rfl rfl (by decide) ?_
  refine JR.gf (g := 18) rfl rfl rfl rfl rfl (by decide) ?_
  refine JR.gf (g := 18) rfl rfl rfl rfl rfl (by decide) ?_
  refine JR.gf (g := 18) rfl rfl rfl rfl rfl (by decide) ?_
  refine JR.gf (g := 18) rfl rfl rfl rfl rfl (by decide) ?_
  refine JR.gf (g := 18) rfl rfl rfl rfl rfl (by decide) ?_
  refine JR.gf (g := 18) rfl rfl rfl rfl rfl (by decide) ?_
  refine JR.gf (g := 18) rfl rfl rfl rfl rfl (by decide) ?_
  refine JR.gf (g := 18) rfl rfl rfl rfl rfl (by decide) ?_
  refine JR.gf (g := 18) rfl rfl rfl rfl rfl (by decide) ?_
  refine JR.gf (g := 18) rfl rfl rfl rfl rfl (by decide) ?_
  refine JR.gfm (g := 18) rfl rfl rfl rfl rfl (by decide) ?_ ?_
  ·exact ⟨Subs.sub zq0, .inr (St.keep zq0 zq1)⟩
  refine JR.gf (g := 18) rfl rfl rfl rfl rfl (by decide) ?_
  refine JR.u rfl rfl rfl (Yv.pick0 rfl rfl rfl) (by decide) (.uw rfl (.assign rfl) ?_)
  refine .nil (.tn (.ret ?_))
  exact .dn [] [cGrp γ, Res.mod γ.px γ.P, Res.mod γ.pq γ.Q] (res1 rfl (.tmp rfl)) ⟨congrArg Value.bool (by unfold memB; first | (simp_all; done) | (simp_all; omega)), rfl, rfl⟩

theorem f170_spec (γ : GP) (hγ : GOk γ) (n : Nat) (hn : n < 115792089237316195423570985008687907853269984665640564039457584007913129639936) :
  Spec Tryz.prog 170 #[(ptr γ.g 0), (.agg ((wd n).map u64).toArray)] [] [cGrp γ, Res.mod γ.px γ.P, Res.mod γ.pq γ.Q]
   (fun r Γ' H' => r = (.agg ((wd (γ.G ^ n % γ.P)).map u64).toArray) ∧ Γ' = [] ∧ H' = [cGrp γ, Res.mod γ.px γ.P, Res.mod γ.pq γ.Q]) := by
 refine Spec.of_args Tryz.func170 rfl Tryz.ntmps170 (by simp) fun w => ?_
 refine .seq (.region ?_)
 refine .bx fun b3 => ?_
 refine .al zero_40 fun b4 => ?_
 refine .nil (.tn (.seq ?_))
 refine JC.draw (.one 0 (.one 1 (.one 2 (.one 3 (.one 4 (.one 5 (.one 6 (.one 7 (.one 8 (.one 9 (.one 10 (.one 11 .nil)))))))))))) (fun i => ([10, 11] : List Nat).contains i) (fun i => ([10, 11] : List Nat).contains i) (fun i => ([0, 1, 2, 4, 5, 6, 7] : List Nat).contains i) mixed (by kernel_rfl) (by decide) (by kernel_rfl) ?_
 refine .uw rfl (.move rfl) (.uw rfl (.nilCheck rfl) (.uw rfl (.fieldAddr fa_165_1 rfl) (.w rfl (.as (v' := ptr γ.px 0) (.ld one_91 rfl) (by rfl)) (.uw rfl (.move rfl) (.uw rfl (.nilCheck rfl) (.uw rfl (.fieldAddr fa_165_0 rfl) ?_))))))
 refine .uw rfl (.fieldAddr fa_55_2 rfl) (.w rfl (.as (v' := .agg ((wd γ.G).map u64).toArray) (.lda agg_40 rfl) (by rfl)) (.w rfl (.lda agg_40 rfl) ?_))
 refine .mw rfl (.c (f111_spec γ.px γ.P hγ.pb hγ.p1 hγ.po γ.G n hγ.gb hn) body_111) ?_
 rintro _ _ _ ⟨rfl, rfl, rfl⟩
 refine kp ?_
 refine .mw0 rfl (.sa sz_40) ?_
 rintro _ _ _ ⟨rfl, rfl⟩
 refine kp ?_
 refine .nil (.tn (.ret ?_))
 exact .dn [] [cGrp γ, Res.mod γ.px γ.P, Res.mod γ.pq γ.Q] (res1 rfl (.cl agg_40)) ⟨rfl, rfl, rfl⟩

theorem f200_spec (lv nv : Value) (l n : List Nat) (hn : n.length = l.length) (hl : ∀ a ∈ l, a < 115792089237316195423570985008687907853269984665640564039457584007913129639936) (hb : ∀ a ∈ n, a < 115792089237316195423570985008687907853269984665640564039457584007913129639936) (p m : Nat) (hm : m < 115792089237316195423570985008687907853269984665640564039457584007913129639936) (h1 : 1 < m) (ho : m % 2 = 1) :
  Spec Tryz.prog 200 #[lv, nv, (.func (.func 111) #[ptr p 0] #[]), (.func (.func 182) #[ptr p 0] #[])] [Res.rd lv l.length 4 (bks natC l), Res.rd nv n.length 4 (bks natC n), Res.var 2 ((wd 1).map u64)] [Res.mod p m]
   (fun r Γ' H' => r = (.agg ((wd (mulK m l n l.length)).map u64).toArray) ∧ Γ' = [] ∧ H' = [Res.mod p m]) := by
 refine Spec.of_args Tryz.func200 rfl Tryz.ntmps200 (by simp) fun w => ?_
 refine JC.know (φ := l.length ≤ 9223372036854775807) (fun w hs => by obtain ⟨_, _, _, _, _, _, h⟩ := hs.rdForm (.head _); unfold maxLen at h; omega) fun hll => ?_
 refine .seq (.region ?_)
 refine .al zero_40 fun b8 => ?_
 refine .nil (.tn (.seq (.region ?_)))
 refine .w (.as (v' := .agg ((wd 1).map u64).toArray) (.lda agg_40 rfl) (by rfl)) (.al zero_40 fun b9 => ?_)
 refine .sa sz_40 ?_
 refine .nil (.tn (.seq (.seq (.region ?_))))
 refine .w (.move rfl) (.w (.len Tryz.underlying38 rfl) (.w (.move rfl) ?_))
 refine .nil (.tn (.block ?_))
 refine .lp (ι := Nat) (fun x => x ≤ l.length) (fun T x => (15, it (x : Int)) :: T) (fun T _ => T) (fun T x => Res.cells b9 ((wd (mulK m l n x)).map u64) 40 :: T) (fun x => l.length - x) 0 [1, 2, 3, 8, 9, 13, 14, 31] ?_ (fun x hx => ?_)
 ·exact Nat.zero_le _
 obtain ⟨k, hk⟩ : ∃ k, k = x := ⟨_, rfl⟩
 subst hk
 refine .seq (.region ?_)
 refine .w (.bin rfl rfl BinR.lss_i) ?_
 refine .nil (.tn (.seq ?_))
 refine .cn rfl (fun hc1 => ?_) (fun hc1 => ?_)
 ·skip
  refine .skip (.tn (.seq (.block (.seq (.region ?_)))))
  refine .w (.move rfl) (.w (.ix Tryz.underlying38 sz_40 rfl rfl) (.w (.as (v' := .agg ((wd (l.getD k 0)).map u64).toArray) (.lda agg_40 rfl (hm := by first | exact AM.own zq5 (by rw [bks_len]; omega) | exact AM.ro zq5 (by rw [bks_len]; omega) | exact AM.ownAt zq5 (by rw [bks_len]; omega) | exact AM.rd zq8 (by rw [bks_len]; omega) | exact AM.row zq7 (by rw [bks_len]; omega))) (congrArg (fun l : List Value => Value.agg l.toArray) (nat_piece (by omega)))) (.al zero_40 fun b11 => ?_)))
  refine .w (.assign rfl) (.sa sz_40 ?_)
  refine .nil (.tn ?_)
  refine JC.draw (.one 0 (.one 1 (.one 2 (.one 3 (.one 4 (.one 5 (.one 6 (.one 7 (.one 8 (.one 9 (.one 10 .nil))))))))))) (fun i => ([9, 10] : List Nat).contains i) (fun i => ([8, 9, 10] : List Nat).contains i) (fun i => ([0, 2, 4, 5, 6] : List Nat).contains i) mixed (by kernel_rfl) (by decide) (by kernel_rfl) ?_
  refine .uw rfl (.move rfl) (.w rfl (.lda agg_40 rfl) (.uw rfl (.move rfl) (.w rfl (.lda agg_40 rfl) (.uw rfl (.move rfl) (.uw rfl (.move rfl) (.uw rfl (.ix Tryz.underlying38 sz_40 rfl rfl) ?_))))))
  refine .w rfl (.as (v' := .agg ((wd (n.getD k 0)).map u64).toArray) (.lda agg_40 rfl (hm := by first | exact AM.own zq5 (by rw [bks_len]; omega) | exact AM.ro zq5 (by rw [bks_len]; omega) | exact AM.ownAt zq5 (by rw [bks_len]; omega) | exact AM.rd zq8 (by rw [bks_len]; omega) | exact AM.row zq7 (by rw [bks_len]; omega))) (congrArg (fun l : List Value => Value.agg l.toArray) (nat_piece (by omega)))) ?_
  refine .mw rfl (Mv.callF body_111 rfl rfl rfl (f111_spec p m hm h1 ho (l.getD k 0) (n.getD k 0) (nat_lt hl (by omega)) (nat_lt hb (by omega))) zq1 zq4 zq14) ?_
  rintro _ _ _ ⟨_, ⟨rfl, _, rfl⟩, hΓ, hH⟩
  simp only [List.cons_append, List.nil_append] at hH; subst hΓ hH
  refine kp ?_
  refine .mw rfl (Mv.callF body_182 rfl rfl rfl (f182_spec p m hm h1 ho (mulK m l n k) ((l.getD k 0) ^ (n.getD k 0) % m) (Nat.lt_trans (mulK_lt h1 l n k) hm) (Nat.lt_trans (Nat.mod_lt _ (by omega)) hm)) zq1 zq4 zq14) ?_
  rintro _ _ _ ⟨_, ⟨rfl, _, rfl⟩, hΓ, hH⟩
  simp only [List.cons_append, List.nil_append] at hH; subst hΓ hH
  refine kp ?_
  refine .mw0 rfl (.sa sz_40) ?_
  rintro _ _ _ ⟨rfl, rfl⟩
  refine kp ?_
  refine .nil (.block_normal (.tn (.region ?_)))
  refine .w (.asI ((k + 1 : Nat) : Int) (.bin rfl rfl (BinR.add_i zq3))) (.w (.move rfl) (.nil ?_))
  refine .hd (k + 1) ?_
  exact ⟨by omega, by omega⟩
 ·obtain rfl : k = l.length := by omega
  refine .exit (.then_exit (.then_exit (.block_exit (.tn (.seq (.region ?_))))))
  refine .w (.lda agg_40 rfl) (.sa sz_40 ?_)
  refine .nil (.tn (.ret ?_))
  exact .dn [] [Res.mod p m] (res1 rfl (.cl agg_40)) ⟨rfl, rfl, rfl⟩
theorem f199_spec (γ : GP) (hγ : GOk γ) (bg a : Nat) (ha : a < 115792089237316195423570985008687907853269984665640564039457584007913129639936) :
  Spec Tryz.prog 199 #[(.agg ((wd a).map u64).toArray), (ptr bg 0)] [Res.var 2 ((wd 1).map u64)] [cGrp γ, Res.mod γ.px γ.P, Res.mod γ.pq γ.Q, Res.cells bg [ptr γ.g 0] 28]
   (fun r Γ' H' => r = .bool (!memB γ a) ∧ Γ' = [] ∧ H' = [cGrp γ, Res.mod γ.px γ.P, Res.mod γ.pq γ.Q, Res.cells bg [ptr γ.g 0] 28]) := by
 refine Spec.of_args Tryz.func199 rfl Tryz.ntmps199 (by simp) fun w => ?_
 refine .seq (.region ?_)
 refine .bx fun b2 => ?_
 refine .w (.assign rfl) ?_
 refine .nil (.tn (.seq (.region ?_)))
 refine .w (.ld one_28 rfl) (.w (.lda agg_40 rfl) (.c (f120_spec γ hγ a ha) body_120 ?_))
 refine .w (.not rfl) (.w (.assign rfl) ?_)
 refine .nil (.tn (.ret ?_))
 exact .dn [] [cGrp γ, Res.mod γ.px γ.P, Res.mod γ.pq γ.Q, Res.cells bg [ptr γ.g 0] 28] (res1 rfl (.tmp rfl)) ⟨rfl, rfl, rfl⟩

theorem f168_spec (γ : GP) (hγ : GOk γ) (bg : Nat) (lv : Value) (l : List Nat) (hl : ∀ a ∈ l, a < 115792089237316195423570985008687907853269984665640564039457584007913129639936) :
  Spec Tryz.prog 168 #[lv, (.func (.func 199) #[] #[ptr bg 0])] [Res.rd lv l.length 4 (bks natC l), Res.var 2 ((wd 1).map u64)] [cGrp γ, Res.mod γ.px γ.P, Res.mod γ.pq γ.Q, Res.cells bg [ptr γ.g 0] 28]
   (fun r Γ' H' => ∃ i : Int, decide (i ≥ 0) = l.any (fun a => !memB γ a) ∧ r = it i ∧ Γ' = [] ∧ H' = [cGrp γ, Res.mod γ.px γ.P, Res.mod γ.pq γ.Q, Res.cells bg [ptr γ.g 0] 28]) := by
 refine Spec.of_args Tryz.func168 rfl Tryz.ntmps168 (by simp) fun w => ?_
 refine JC.know (φ := l.length ≤ 9223372036854775807) (fun w hs => by obtain ⟨_, _, _, _, _, _, h⟩ := hs.rdForm (.head _); unfold maxLen at h; omega) fun hll => ?_
 refine .seq (.region ?_)
 refine .w (.assign rfl) ?_
 refine .nil (.tn (.seq (.seq (.region ?_))))
 refine .w (.move rfl) (.w (.len Tryz.underlying38 rfl) (.w (.move rfl) ?_))
 refine .nil (.tn (.block ?_))
 refine .lp (ι := Nat) (fun x => x ≤ l.length ∧ ∀ j, j < x → (!memB γ (l.getD j 0)) = false) (fun T x => (8, it (x : Int)) :: T) (fun T _ => T) (fun T _ => T) (fun x => l.length - x) 0 [0, 1, 7] ?_ (fun x hx => ?_)
 ·exact ⟨Nat.zero_le _, fun j hj => absurd hj (Nat.not_lt_zero _)⟩
 obtain ⟨k, hk⟩ : ∃ k, k = x := ⟨_, rfl⟩
 subst hk
 obtain ⟨hk, hall⟩ := hx
 refine .seq (.region ?_)
 refine .w (.bin rfl rfl BinR.lss_i) ?_
 refine .nil (.tn (.seq ?_))
 refine .cn rfl (fun hc1 => ?_) (fun hc1 => ?_)
 ·skip
  refine .skip (.tn (.seq (.block (.seq (.region ?_)))))
  refine .w (.move rfl) (.w (.assign rfl) ?_)
  refine .nil (.tn (.seq (.region ?_)))
  refine .w (.move rfl) (.w (.move rfl) (.w (.move rfl) (.w (.ix Tryz.underlying38 sz_40 rfl rfl) (.w (.as (v' := .agg ((wd (l.getD k 0)).map u64).toArray) (.lda agg_40 rfl (hm := by first | exact AM.own zq5 (by rw [bks_len]; omega) | exact AM.ro zq5 (by rw [bks_len]; omega) | exact AM.ownAt zq5 (by rw [bks_len]; omega) | exact AM.rd zq8 (by rw [bks_len]; omega) | exact AM.row zq7 (by rw [bks_len]; omega))) (congrArg (fun l : List Value => Value.agg l.toArray) (nat_piece (by omega)))) ?_))))
  refine JO.callF (f199_spec γ hγ bg (l.getD k 0) (nat_lt hl (by omega))) body_199 rfl rfl rfl zq1 zq4 zq14 (by decide) ?_
  rintro _ _ ⟨_, ⟨rfl, _, rfl⟩, hH⟩
  simp only [List.cons_append, List.nil_append] at hH; subst hH
  refine .nil (.tn ?_)
  refine .cn rfl (fun hc2 => ?_) (fun hc2 => ?_)
  ·skip
   refine .seq (.region ?_)
   refine .w (.move rfl) (.w (.assign rfl) ?_)
   refine .nil (.tn (.ret (.block_ret (.then_ret (.then_ret (.block_ret (.then_ret ?_)))))))
   exact .dn [] [cGrp γ, Res.mod γ.px γ.P, Res.mod γ.pq γ.Q, Res.cells bg [ptr γ.g 0] 28] (res1 rfl (.tmp rfl)) ⟨k, by rw [any_some (j := k) (by omega) (by simpa using hc2)]; simp, rfl, rfl, rfl⟩
  ·skip
   refine .skip (.block_normal (.tn (.region ?_)))
   refine .w (.asI ((k + 1 : Nat) : Int) (.bin rfl rfl (BinR.add_i zq3))) (.w (.move rfl) (.nil ?_))
   refine .hd (k + 1) ?_
   exact ⟨⟨by omega, fun j hj => by rcases Nat.lt_succ_iff_lt_or_eq.1 hj with h | rfl; exact hall j h; simpa using hc2⟩, by omega⟩
 ·obtain rfl : k = l.length := by omega
  refine .exit (.then_exit (.then_exit (.block_exit (.tn (.seq (.region ?_))))))
  refine .w (.assign rfl) ?_
  refine .nil (.tn (.ret ?_))
  exact .dn [] [cGrp γ, Res.mod γ.px γ.P, Res.mod γ.pq γ.Q, Res.cells bg [ptr γ.g 0] 28] (res1 rfl (.tmp rfl)) ⟨-1, by rw [any_none hall]; rfl, rfl, rfl, rfl⟩

theorem f118_spec (γ : GP) (hγ : GOk γ) (bg : Nat) (lv : Value) (l : List Nat) (hl : ∀ a ∈ l, a < 115792089237316195423570985008687907853269984665640564039457584007913129639936) :
  Spec Tryz.prog 118 #[lv, (.func (.func 199) #[] #[ptr bg 0])] [Res.rd lv l.length 4 (bks natC l), Res.var 2 ((wd 1).map u64)] [cGrp γ, Res.mod γ.px γ.P, Res.mod γ.pq γ.Q, Res.cells bg [ptr γ.g 0] 28]
   (fun r Γ' H' => r = .bool (l.any (fun a => !memB γ a)) ∧ Γ' = [] ∧ H' = [cGrp γ, Res.mod γ.px γ.P, Res.mod γ.pq γ.Q, Res.cells bg [ptr γ.g 0] 28]) := by
 refine Spec.of_args Tryz.func118 rfl Tryz.ntmps118 (by simp) fun w => ?_
 refine .seq (.region ?_)
 refine .w (.assign rfl) ?_
 refine .nil (.tn (.seq (.region ?_)))
 refine .w (.move rfl) (.w (.move rfl) (.cb (f168_spec γ hγ bg lv l hl) body_168 ?_ (h0 := by rintro _ _ _ ⟨_, _, _, h, _⟩; exact h)))
 rintro _ _ ⟨i, hi, rfl, _, rfl⟩
 refine .ap ?_
 refine .w (.as (v' := .bool (l.any (fun a => !memB γ a))) (.bin rfl rfl BinR.geq_i) (congrArg Value.bool hi)) (.w (.assign rfl) ?_)
 refine .nil (.tn (.ret ?_))
 exact .dn [] [cGrp γ, Res.mod γ.px γ.P, Res.mod γ.pq γ.Q, Res.cells bg [ptr γ.g 0] 28] (res1 rfl (.tmp rfl)) ⟨rfl, rfl, rfl⟩

theorem f179_spec (γ : GP) (hγ : GOk γ) (lv nv : Value) (l n : List Nat) (hl : ∀ a ∈ l, a < 115792089237316195423570985008687907853269984665640564039457584007913129639936) (hb : ∀ a ∈ n, a < 115792089237316195423570985008687907853269984665640564039457584007913129639936) :
  Spec Tryz.prog 179 #[(ptr γ.g 0), lv, nv] [Res.rd lv l.length 4 (bks natC l), Res.rd nv n.length 4 (bks natC n), Res.var 2 ((wd 1).map u64)] [cGrp γ, Res.mod γ.px γ.P, Res.mod γ.pq γ.Q]
   (fun r Γ' H' => r = .tuple #[(.agg ((wd (mulV γ l n)).map u64).toArray), it (mulE γ l n)] ∧ Γ' = [] ∧ H' = [cGrp γ, Res.mod γ.px γ.P, Res.mod γ.pq γ.Q]) := by
 refine Spec.of_args Tryz.func179 rfl Tryz.ntmps179 (by simp) fun w => ?_
 refine JC.know (φ := l.length ≤ 9223372036854775807) (fun w hs => by obtain ⟨_, _, _, _, _, _, h⟩ := hs.rdForm (.head _); unfold maxLen at h; omega) fun hll => ?_
 refine JC.know (φ := n.length ≤ 9223372036854775807) (fun w hs => by obtain ⟨_, _, _, _, _, _, h⟩ := hs.rdForm (.tail _ (.head _)); unfold maxLen at h; omega) fun hnn => ?_
 refine .seq (.region ?_)
 refine .bx fun b3 => ?_
 refine .al zero_40 fun b6 => ?_
 refine .w (.assign rfl) ?_
 refine .nil (.tn (.seq (.block (.seq (.region ?_)))))
 refine .w (.move rfl) (.w (.len Tryz.underlying38 rfl) (.w (.move rfl) (.w (.len Tryz.underlying38 rfl) (.w (.asB (l.length ≠ n.length) (.bin rfl rfl BinR.neq_i)) (.w (.move rfl) ?_)))))
 refine .join 4 18 (.bool (decide (l.length ≠ n.length ∨ l.length > 40))) ?_ ?_
 ·refine .gn (g := 13) rfl (fun hg10 hg10' => ?_) (fun hg10 hg10' => ?_)
  ·refine .gf (g := 14) rfl rfl hg10 (by decide) ?_
   refine .gf (g := 14) rfl rfl hg10 (by decide) ?_
   refine .gf (g := 14) rfl rfl hg10 (by decide) ?_
   refine .w (.pick1 rfl hg10 rfl) (.nil ?_)
   refine .head () zq2 (fun _ h => h) (Picks.perm zq1) ?_
   trivial
  ·refine .gt (g := 14) rfl rfl hg10 ?_
   refine .w (.move rfl) ?_
   refine .gt (g := 14) rfl rfl hg10 ?_
   refine .w (.len Tryz.underlying38 rfl) ?_
   refine .gt (g := 14) rfl rfl hg10 ?_
   refine .w (.asB (l.length > 40) (.bin rfl rfl BinR.gtr_i)) (.w (.pick0 rfl hg10 rfl) (.nil ?_))
   refine .head () zq2 (fun _ h => h) (Picks.perm zq1) ?_
   trivial
 ·refine .w (.assign rfl) ?_
  refine .nil (.tn ?_)
  refine .cn rfl (fun hc1 => ?_) (fun hc1 => ?_)
  ·have hme : mulE γ l n = 1 := if_pos hc1
   refine .seq (.region ?_)
   refine .w (.as (v' := .agg ((wd 0).map u64).toArray) (.build bld_40 rfl rfl) rfl) (.sa sz_40 ?_)
   refine .w (.assign rfl) ?_
   refine .nil (.tn (.ret (.block_ret (.then_ret ?_))))
   exact .dn [] [cGrp γ, Res.mod γ.px γ.P, Res.mod γ.pq γ.Q] (res2 rfl (.cl agg_40) (.tmp rfl)) ⟨by rw [mulV, hme]; rfl, rfl, rfl⟩
  ·have hne : l.length = n.length := by omega
   refine .seq (.region ?_)
   refine .w (.move rfl) (.w (.makeFunc rfl rfl) (.c (f118_spec γ hγ b3 lv l hl) body_118 ?_))
   refine .w (.assign rfl) ?_
   refine .nil (.tn ?_)
   refine .cn rfl (fun hc2 => ?_) (fun hc2 => ?_)
   ·have hme : mulE γ l n = 22 := by unfold mulE; rw [if_neg hc1, if_pos hc2]
    refine .seq (.region ?_)
    refine .w (.as (v' := .agg ((wd 0).map u64).toArray) (.build bld_40 rfl rfl) rfl) (.sa sz_40 ?_)
    refine .w (.assign rfl) ?_
    refine .nil (.tn (.ret (.block_ret (.then_ret ?_))))
    exact .dn [] [cGrp γ, Res.mod γ.px γ.P, Res.mod γ.pq γ.Q] (res2 rfl (.cl agg_40) (.tmp rfl)) ⟨by rw [mulV, hme]; rfl, rfl, rfl⟩
   ·have hme : mulE γ l n = 0 := by unfold mulE; rw [if_neg hc1, if_neg (by simpa using hc2)]
    refine .skip (.block_normal (.tn (.seq ?_)))
    refine JC.draw (.one 0 (.one 1 (.one 2 (.one 3 (.one 4 (.one 5 (.one 6 (.one 7 (.one 8 (.one 9 (.one 10 (.one 11 (.one 12 (.one 13 (.one 14 .nil))))))))))))))) (fun i => ([12, 13] : List Nat).contains i) (fun i => ([12, 13] : List Nat).contains i) (fun i => ([0, 1, 3, 4, 6, 8, 9, 11, 14] : List Nat).contains i) mixed (by kernel_rfl) (by decide) (by kernel_rfl) ?_
    refine .uw rfl (.move rfl) (.uw rfl (.move rfl) (.w rfl (.ld one_28 rfl) (.uw rfl (.nilCheck rfl) (.uw rfl (.fieldAddr fa_165_1 rfl) (.w rfl (.as (v' := ptr γ.px 0) (.ld one_91 rfl) (by rfl)) (.uw rfl (.makeFunc rfl rfl) ?_))))))
    refine .w rfl (.ld one_28 rfl) (.uw rfl (.nilCheck rfl) (.uw rfl (.fieldAddr fa_165_1 rfl) (.w rfl (.as (v' := ptr γ.px 0) (.ld one_91 rfl) (by rfl)) (.uw rfl (.makeFunc rfl rfl) ?_))))
    refine .mw rfl (.c (f200_spec lv nv l n hne.symm hl hb γ.px γ.P hγ.pb hγ.p1 hγ.po) body_200) ?_
    rintro _ _ _ ⟨rfl, rfl, rfl⟩
    refine kp ?_
    refine .mw0 rfl (.sa sz_40) ?_
    rintro _ _ _ ⟨rfl, rfl⟩
    refine kp ?_
    refine .uw rfl (.assign rfl) ?_
    refine .nil (.tn (.ret ?_))
    exact .dn [] [cGrp γ, Res.mod γ.px γ.P, Res.mod γ.pq γ.Q] (res2 rfl (.cl agg_40) (.tmp rfl)) ⟨by rw [mulV, hme]; rfl, rfl, rfl⟩

theorem f51_spec (d : GD) (hd : GDok d) (lv : Value) (L : List PF) (hL : L.map PF.pd = d.L) :
  Spec Tryz.prog 51 #[(.agg (parC d.P d.Q d.G).toArray), lv] [Res.var 0 ((wd 5).map u64), Res.var 1 ((wd 2).map u64), Res.var 2 ((wd 1).map u64), Res.var 3 ((wd 2).map u64), Res.rd lv L.length 9 (bks prfC L), Res.all (facRes L)] []
   (fun r Γ' H' => ∃ γ : GP, GOk γ ∧ γ.P = d.P ∧ γ.Q = d.Q ∧ γ.G = d.G ∧ r = .tuple #[ptr γ.g 0, it 0] ∧ Γ' = [] ∧ H' = [cGrp γ, Res.mod γ.px γ.P, Res.mod γ.pq γ.Q]) := by
 refine Spec.of_args Tryz.func51 rfl Tryz.ntmps51 (by simp) fun w => ?_
 have hin : ∃ j, j < L.length ∧ (L.getD j PZ).N = d.Q := by
  obtain ⟨p, hp, e⟩ := hd.last
  rw [← hL] at hp
  obtain ⟨q, hq, rfl⟩ := List.mem_map.1 hp
  obtain ⟨j, hj, rfl⟩ := List.getElem_of_mem hq
  exact ⟨j, hj, by rw [List.getD_eq_getElem?_getD, List.getElem?_eq_getElem hj]; exact e⟩
 refine .seq (.region ?_)
 refine .bx fun b2 => ?_
 refine .w (.assign rfl) (.w (.assign rfl) ?_)
 refine .nil (.tn (.seq (.seq (.region ?_))))
 refine .w (.move rfl) (.w (.fieldAddr fa_55_1 rfl) (.w (.as (v' := .agg ((wd d.Q).map u64).toArray) (.lda agg_40 rfl) (by rfl)) (.c (f109_spec lv L (by rw [hL]; exact hd.good) d.Q (Nat.lt_trans hd.qp hd.pb) hin) body_109 ?_)))
 refine .w (.assign rfl) ?_
 refine .nil (.tn (.seq (.region ?_)))
 refine .w (.move rfl) (.w (.as (v' := .bool false) (.bin rfl rfl BinR.neq_i) rfl) ?_)
 refine .nil (.tn ?_)
 refine .cf rfl ?_
 refine .skip (.tn (.seq (.region ?_)))
 refine .w (.fieldAddr fa_55_0 rfl) (.w (.as (v' := .agg ((wd d.P).map u64).toArray) (.lda agg_40 rfl) (by rfl)) (.cb (f110_spec d.P hd.pb (by have := hd.p5; omega) hd.po) body_110 ?_ (h0 := by rintro _ _ _ ⟨_, _, h, _⟩; exact h)))
 rintro _ _ ⟨px, rfl, _, rfl⟩
 refine .ap ?_
 refine .w (.move rfl) (.w (.extract rfl rfl) (.w (.as (v' := it 0) (.extract rfl rfl) rfl) (.w (.assign rfl) (.w (.assign rfl) ?_))))
 refine .nil (.tn (.seq (.region ?_)))
 refine .w (.fieldAddr fa_55_1 rfl) (.w (.as (v' := .agg ((wd d.Q).map u64).toArray) (.lda agg_40 rfl) (by rfl)) (.cb (f110_spec d.Q (Nat.lt_trans hd.qp hd.pb) hd.q1 hd.qo) body_110 ?_ (h0 := by rintro _ _ _ ⟨_, _, h, _⟩; exact h)))
 rintro _ _ ⟨pq, rfl, _, rfl⟩
 refine .ap ?_
 refine .w (.move rfl) (.w (.extract rfl rfl) (.w (.as (v' := it 0) (.extract rfl rfl) rfl) (.w (.assign rfl) (.w (.assign rfl) ?_))))
 refine .nil (.tn (.seq (.block (.seq (.region ?_)))))
 refine .w (.move rfl) (.w (.as (v' := .bool false) (.bin rfl rfl BinR.neq_i) rfl) (.w (.move rfl) ?_))
 refine .gt (g := 33) rfl rfl rfl ?_
 refine .w (.move rfl) ?_
 refine .gt (g := 33) rfl rfl rfl ?_
 refine .w (.as (v' := .bool false) (.bin rfl rfl BinR.neq_i) rfl) (.w (.pick0 rfl rfl rfl) (.w (.move rfl) ?_))
 refine .gt (g := 37) rfl rfl rfl ?_
 refine .w (.fieldAddr fa_55_0 rfl) ?_
 refine .gt (g := 37) rfl rfl rfl ?_
 refine .w (.as (v' := .agg ((wd d.P).map u64).toArray) (.lda agg_40 rfl) (by rfl)) ?_
 refine .gt (g := 37) rfl rfl rfl ?_
 refine .w (.as (v' := .agg ((wd 5).map u64).toArray) (.lda agg_40 rfl) (by rfl)) ?_
 refine .gt (g := 37) rfl rfl rfl ?_
 refine .c (f52_spec d.P 5 hd.pb (by decide)) body_52 ?_
 refine .gt (g := 37) rfl rfl rfl ?_
 refine .w (.as (v' := .bool false) (.bin rfl rfl BinR.lss_i) (congrArg Value.bool (decide_eq_false (by rw [cmp_lt]; have := hd.p5; omega)))) (.w (.pick0 rfl rfl rfl) (.w (.move rfl) ?_))
 refine .gt (g := 44) rfl rfl rfl ?_
 refine .w (.fieldAddr fa_55_1 rfl) ?_
 refine .gt (g := 44) rfl rfl rfl ?_
 refine .w (.as (v' := .agg ((wd d.Q).map u64).toArray) (.lda agg_40 rfl) (by rfl)) ?_
 refine .gt (g := 44) rfl rfl rfl ?_
 refine .w (.fieldAddr fa_55_0 rfl) ?_
 refine .gt (g := 44) rfl rfl rfl ?_
 refine .w (.as (v' := .agg ((wd d.P).map u64).toArray) (.lda agg_40 rfl) (by rfl)) ?_
 refine .gt (g := 44) rfl rfl rfl ?_
 refine .c (f52_spec d.Q d.P (Nat.lt_trans hd.qp hd.pb) hd.pb) body_52 ?_
 refine .gt (g := 44) rfl rfl rfl ?_
 refine .w (.as (v' := .bool false) (.bin rfl rfl BinR.geq_i) (congrArg Value.bool (decide_eq_false (by rw [ge_iff_le, ← Int.not_lt, cmp_lt]; have := hd.qp; omega)))) (.w (.pick0 rfl rfl rfl) (.w (.assign rfl) ?_))
 refine .nil (.tn ?_)
 refine .cf rfl ?_
 refine .seq ?_
 refine JC.draw (.one 0 (.one 1 (.one 2 (.one 3 (.one 4 (.one 5 (.one 6 (.one 7 (.one 8 (.one 9 (.one 10 (.one 11 (.one 12 (.one 13 (.one 14 (.one 15 (.one 16 (.one 17 (.one 18 (.one 20 (.one 19 (.one 21 (.one 22 (.one 23 .nil)))))))))))))))))))))))) (fun i => ([] : List Nat).contains i) (fun i => ([3, 10, 19] : List Nat).contains i) (fun i => ([0, 4, 5, 6, 8, 11, 12, 13, 14, 15, 17, 21, 22, 23] : List Nat).contains i) mixed (by kernel_rfl) (by decide) (by kernel_rfl) ?_
 refine .uw rfl (.fieldAddr fa_55_2 rfl) (.w rfl (.as (v' := .agg ((wd d.G).map u64).toArray) (.lda agg_40 rfl) (by rfl)) (.w rfl (.as (v' := .agg ((wd 2).map u64).toArray) (.lda agg_40 rfl) (by rfl)) ?_))
 refine .mw rfl (.c (f52_spec d.G 2 (Nat.lt_trans hd.gp hd.pb) (by decide)) body_52) ?_
 rintro _ _ _ ⟨rfl, rfl, rfl⟩
 refine kp ?_
 refine .uw rfl (.as (v' := .bool false) (.bin rfl rfl BinR.lss_i) (congrArg Value.bool (decide_eq_false (by rw [cmp_lt]; have := hd.g2; omega)))) (.uw rfl (.move rfl) ?_)
 refine JR.ugt (g := 58) rfl rfl rfl rfl rfl rfl (.fieldAddr fa_55_2 rfl) (by decide) ?_
 refine JR.vgt (g := 58) rfl rfl rfl rfl rfl rfl (.as (v' := .agg ((wd d.G).map u64).toArray) (.lda agg_40 rfl) (by rfl)) (by decide) ?_
 refine JR.ugt (g := 58) rfl rfl rfl rfl rfl rfl (.fieldAddr fa_55_0 rfl) (by decide) ?_
 refine JR.vgt (g := 58) rfl rfl rfl rfl rfl rfl (.as (v' := .agg ((wd d.P).map u64).toArray) (.lda agg_40 rfl) (by rfl)) (by decide) ?_
 refine JR.mgt (g := 58) rfl rfl rfl rfl rfl (.c (f52_spec d.G d.P (Nat.lt_trans hd.gp hd.pb) hd.pb) body_52) (by decide) ?_
 rintro _ _ _ ⟨rfl, rfl, rfl⟩
 refine kp ?_
 refine JR.ugt (g := 58) rfl rfl rfl rfl rfl rfl (.as (v' := .bool false) (.bin rfl rfl BinR.geq_i) (congrArg Value.bool (decide_eq_false (by rw [ge_iff_le, ← Int.not_lt, cmp_lt]; have := hd.gp; omega)))) (by decide) ?_
 refine JR.u rfl rfl rfl (Yv.pick0 rfl rfl rfl) (by decide) (.uw rfl (.move rfl) ?_)
 refine JR.ugt (g := 66) rfl rfl rfl rfl rfl rfl (.move rfl) (by decide) ?_
 refine JR.ugt (g := 66) rfl rfl rfl rfl rfl rfl (.fieldAddr fa_55_2 rfl) (by decide) ?_
 refine JR.vgt (g := 66) rfl rfl rfl rfl rfl rfl (.as (v' := .agg ((wd d.G).map u64).toArray) (.lda agg_40 rfl) (by rfl)) (by decide) ?_
 refine JR.ugt (g := 66) rfl rfl rfl rfl rfl rfl (.fieldAddr fa_55_1 rfl) (by decide) ?_
 refine JR.vgt (g := 66) rfl rfl rfl rfl rfl rfl (.as (v' := .agg ((wd d.Q).map u64).toArray) (.lda agg_40 rfl) (by rfl)) (by decide) ?_
 refine JR.vgt (g := 66) rfl rfl rfl rfl rfl rfl (.as (v' := .agg ((wd 1).map u64).toArray) (.lda agg_40 rfl) (by rfl)) (by decide) ?_
 refine JR.mgt (g := 66) rfl rfl rfl rfl rfl (.c (f111_spec px d.P hd.pb (by have := hd.p5; omega) hd.po d.G d.Q (Nat.lt_trans hd.gp hd.pb) (Nat.lt_trans hd.qp hd.pb)) body_111) (by decide) ?_
 rintro _ _ _ ⟨rfl, rfl, rfl⟩
 rw [hd.ord]
 refine kp ?_
 refine JR.ugt (g := 66) rfl rfl rfl rfl rfl rfl (.as (v' := .bool false) (.bin rfl rfl (neq_nat wd_len' wd_len')) (congrArg Value.bool (by simp))) (by decide) ?_
 refine JR.u rfl rfl rfl (Yv.pick0 rfl rfl rfl) (by decide) (.uw rfl (.assign rfl) ?_)
 refine .nil (.tn ?_)
 refine .cf rfl ?_
 refine .skip (.block_normal (.tn (.seq (.region ?_))))
 refine .w (.as (v' := .agg (parC d.P d.Q d.G).toArray) (.lda agg_55 rfl) (by rfl)) (.w (.move rfl) (.w (.move rfl) (.w (.build (cs := (grpC ⟨0, px, pq, d.P, d.Q, d.G⟩)) bld_165 rfl (by kernel_rfl)) (.bx fun b80 => ?_))))
 refine .w (.assign rfl) (.w (.assign rfl) ?_)
 refine .nil (.tn (.ret ?_))
 exact .dn [] [cGrp ⟨b80, px, pq, d.P, d.Q, d.G⟩, Res.mod px d.P, Res.mod pq d.Q] (res2 rfl (.tmp rfl) (.tmp rfl)) ⟨⟨b80, px, pq, d.P, d.Q, d.G⟩, ⟨hd.p5, hd.pb, hd.po, hd.qp, hd.q1, hd.qo, hd.g2, hd.gp, hd.ord⟩, rfl, rfl, rfl, rfl, rfl, rfl⟩
def Cg (q a b : Int) : Prop := ∃ k, a = b + q * k
namespace Cg
variable {q a b c d : Int}
theorem refl (q a : Int) : Cg q a a := ⟨0, by simp⟩
theorem of_eq (h : a = b) : Cg q a b := h ▸ refl q a
theorem symm (h : Cg q a b) : Cg q b a := by
 obtain ⟨k, h⟩ := h
 exact ⟨-k, by rw [Int.mul_neg]; omega⟩
theorem trans (h : Cg q a b) (g : Cg q b c) : Cg q a c := by
 obtain ⟨k, h⟩ := h
 obtain ⟨l, g⟩ := g
 exact ⟨k + l, by rw [Int.mul_add]; omega⟩
theorem add (h : Cg q a b) (g : Cg q c d) : Cg q (a + c) (b + d) := by
 obtain ⟨k, h⟩ := h
 obtain ⟨l, g⟩ := g
 exact ⟨k + l, by rw [Int.mul_add]; omega⟩
theorem sub (h : Cg q a b) (g : Cg q c d) : Cg q (a - c) (b - d) := by
 obtain ⟨k, h⟩ := h
 obtain ⟨l, g⟩ := g
 exact ⟨k - l, by rw [Int.mul_sub]; omega⟩
theorem mulr (h : Cg q a b) (c : Int) : Cg q (a * c) (b * c) := by
 obtain ⟨k, h⟩ := h
 exact ⟨k * c, by rw [h, Int.add_mul, Int.mul_assoc]⟩
theorem mull (h : Cg q a b) (c : Int) : Cg q (c * a) (c * b) := by rw [Int.mul_comm c a, Int.mul_comm c b]; exact h.mulr c
theorem mul (h : Cg q a b) (g : Cg q c d) : Cg q (a * c) (b * d) := (h.mulr c).trans (g.mull b)
theorem mod (q a : Int) : Cg q (a % q) a := ⟨-(a / q), by have := Int.emod_add_mul_ediv a q; rw [Int.mul_neg]; omega⟩
theorem emod (h : Cg q a b) : a % q = b % q := by
 obtain ⟨k, rfl⟩ := h
 exact Int.add_mul_emod_self_left b q k
end Cg
structure Fld (q : Int) (iv : Int → Int) : Prop where
 q1 : 1 < q
 iv : ∀ d, ¬ Cg q d 0 → Cg q (d * iv d) 1
section
variable {q : Int} {iv : Int → Int}
theorem Fld.cancel (hF : Fld q iv) {d a b : Int} (hd : ¬ Cg q d 0) (h : Cg q (d * a) (d * b)) : Cg q a b := by
 have h1 := hF.iv d hd
 have ha : Cg q (iv d * (d * a)) a := by
  have := h1.mulr a
  rw [Int.one_mul] at this
  rwa [show iv d * (d * a) = d * iv d * a by ac_rfl]
 have hb : Cg q (iv d * (d * b)) b := by
  have := h1.mulr b
  rw [Int.one_mul] at this
  rwa [show iv d * (d * b) = d * iv d * b by ac_rfl]
 exact ha.symm.trans ((h.mull (iv d)).trans hb)
theorem Fld.one (hF : Fld q iv) : ¬ Cg q 1 0 := by
 rintro h
 have := h.emod
 have h1 := hF.q1
 rw [Int.emod_eq_of_lt (by omega) h1, Int.zero_emod] at this
 cases this
theorem Fld.mul (hF : Fld q iv) {a b : Int} (ha : ¬ Cg q a 0) (hb : ¬ Cg q b 0) : ¬ Cg q (a * b) 0 := fun h =>
 hb (hF.cancel ha (by rw [Int.mul_zero]; exact h))
def prd : List Int → Int
 | [] => 1
 | x :: l => x * prd l
def sm : List Int → Int
 | [] => 0
 | x :: l => x + sm l
theorem prd_perm {l m : List Int} (h : l.Perm m) : prd l = prd m := by
 induction h with
 | nil => rfl
 | cons x _ ih => simp only [prd, ih]
 | swap x y l => simp only [prd]; ac_rfl
 | trans _ _ h1 h2 => exact h1.trans h2
theorem sm_perm {l m : List Int} (h : l.Perm m) : sm l = sm m := by
 induction h with
 | nil => rfl
 | cons x _ ih => simp only [sm, ih]
 | swap x y l => simp only [sm]; omega
 | trans _ _ h1 h2 => exact h1.trans h2
theorem prd_nz (hF : Fld q iv) : ∀ {l : List Int}, (∀ x ∈ l, ¬ Cg q x 0) → ¬ Cg q (prd l) 0
 | [], _ => hF.one
 | x :: l, h => hF.mul (h x (.head _)) (prd_nz hF fun y hy => h y (.tail _ hy))
theorem sm_cg {f g : Int → Int} : ∀ {l : List Int}, (∀ x ∈ l, Cg q (f x) (g x)) → Cg q (sm (l.map f)) (sm (l.map g))
 | [], _ => Cg.refl _ _
 | x :: l, h => (h x (.head _)).add (sm_cg fun y hy => h y (.tail _ hy))
theorem sm_mul (c : Int) (f : Int → Int) : ∀ l : List Int, sm (l.map fun x => c * f x) = c * sm (l.map f)
 | [] => by simp [sm]
 | x :: l => by
  have := sm_mul c f l
  simp only [List.map_cons, sm, Int.mul_add, this]
theorem sm_add (f g : Int → Int) : ∀ l : List Int, sm (l.map fun x => f x + g x) = sm (l.map f) + sm (l.map g)
 | [] => by simp [sm]
 | x :: l => by
  have := sm_add f g l
  simp only [List.map_cons, sm, this]; omega
theorem sm_sub (f g : Int → Int) : ∀ l : List Int, sm (l.map fun x => f x - g x) = sm (l.map f) - sm (l.map g)
 | [] => by simp [sm]
 | x :: l => by
  have := sm_sub f g l
  simp only [List.map_cons, sm, this]; omega
theorem sm_ext {f g : Int → Int} {l : List Int} (h : ∀ x, f x = g x) : sm (l.map f) = sm (l.map g) := by
 rw [show f = g from funext h]
def oth (l : List Int) (m : Int) : List Int := l.filter fun y => decide (y ≠ m)
theorem oth_perm : ∀ {l : List Int} {m : Int}, l.Nodup → m ∈ l → l.Perm (m :: oth l m)
 | a :: l, m, hn, hm => by
  have hn' := List.nodup_cons.1 hn
  by_cases h : a = m
  ·subst h
   have e : oth (a :: l) a = l := by
    unfold oth
    rw [List.filter_cons, if_neg (by simp)]
    refine List.filter_eq_self.2 fun y hy => decide_eq_true fun e => hn'.1 (e ▸ hy)
   rw [e]
  ·have hml : m ∈ l := (List.mem_cons.1 hm).resolve_left (Ne.symm h)
   have e : oth (a :: l) m = a :: oth l m := by
    unfold oth
    rw [List.filter_cons, if_pos (by simpa using h)]
   rw [e]
   exact ((oth_perm hn'.2 hml).cons a).trans (List.Perm.swap m a _)
structure Pts (q : Int) (l : List Int) : Prop where
 nd : l.Nodup
 ne : ∀ a ∈ l, ∀ b ∈ l, a ≠ b → ¬ Cg q (a - b) 0
theorem mem_oth {l : List Int} {m x : Int} : x ∈ oth l m ↔ x ∈ l ∧ x ≠ m := by simp [oth]
theorem Pts.oth {l : List Int} (h : Pts q l) (m : Int) : Pts q (oth l m) :=
 ⟨h.nd.filter _, fun a ha b hb => h.ne a (mem_oth.1 ha).1 b (mem_oth.1 hb).1⟩
def UU (x : Int) (l : List Int) : Int := prd (oth l x)
def DD (x : Int) (l : List Int) : Int := prd ((oth l x).map fun y => y - x)
def WW (iv : Int → Int) (l : List Int) (x : Int) : Int := UU x l * iv (DD x l)
theorem DD_nz (hF : Fld q iv) {l : List Int} (hP : Pts q l) {x : Int} (hx : x ∈ l) : ¬ Cg q (DD x l) 0 := by
 refine prd_nz hF fun y hy => ?_
 obtain ⟨z, hz, rfl⟩ := List.mem_map.1 hy
 obtain ⟨h1, h2⟩ := mem_oth.1 hz
 exact hP.ne z h1 x hx h2
theorem oth_oth {l : List Int} {m x : Int} (hP : l.Nodup) (hm : m ∈ l) (hne : x ≠ m) : (oth l x).Perm (m :: oth (oth l m) x) := by
 have h1 := (oth_perm hP hm).filter (fun y => decide (y ≠ x))
 rw [List.filter_cons, if_pos (by simpa using Ne.symm hne)] at h1
 exact h1
theorem ww_rem (hF : Fld q iv) {l : List Int} (hP : Pts q l) {m x : Int} (hm : m ∈ l) (hx : x ∈ l) (hne : x ≠ m) : Cg q (WW iv l x * (m - x)) (m * WW iv (oth l m) x) := by
 have hp := oth_oth hP.nd hm hne
 have hU : UU x l = m * UU x (oth l m) := prd_perm hp
 have hD : DD x l = (m - x) * DD x (oth l m) := prd_perm (hp.map fun y => y - x)
 have hx' : x ∈ oth l m := mem_oth.2 ⟨hx, hne⟩
 have hn := DD_nz hF (hP.oth m) hx'
 have h1 := hF.iv _ (DD_nz hF hP hx)
 have h2 := hF.iv _ hn
 refine hF.cancel hn ?_
 unfold WW
 rw [hU]
 rw [hD] at h1 ⊢
 generalize DD x (oth l m) = D at h1 h2 ⊢
 generalize iv ((m - x) * D) = V at h1 ⊢
 generalize iv D = V' at h2 ⊢
 generalize UU x (oth l m) = U
 generalize m - x = e at h1 ⊢
 rw [show D * (m * U * V * e) = m * U * (e * D * V) by ac_rfl, show D * (m * (U * V')) = m * U * (D * V') by ac_rfl]
 exact (h1.mull _).trans (h2.mull _).symm
def TT (iv : Int → Int) (l : List Int) (g : Int → Int) : Int := sm (l.map fun x => WW iv l x * g x)
theorem tt_rem (hF : Fld q iv) {l : List Int} (hP : Pts q l) {m : Int} (hm : m ∈ l) (g : Int → Int) : Cg q (TT iv l fun x => (m - x) * g x) (m * TT iv (oth l m) g) := by
 unfold TT
 rw [sm_perm ((oth_perm hP.nd hm).map _), List.map_cons, sm]
 dsimp only
 rw [Int.sub_self, Int.zero_mul, Int.mul_zero, Int.zero_add, ← sm_mul]
 refine sm_cg fun x hx => ?_
 obtain ⟨h1, h2⟩ := mem_oth.1 hx
 have := (ww_rem hF hP hm h1 h2).mulr (g x)
 rwa [show WW iv l x * ((m - x) * g x) = WW iv l x * (m - x) * g x by ac_rfl, show m * (WW iv (oth l m) x * g x) = m * WW iv (oth l m) x * g x by ac_rfl]
theorem tt_mul (c : Int) (l : List Int) (g : Int → Int) : TT iv l (fun x => c * g x) = c * TT iv l g := by
 unfold TT
 rw [← sm_mul]
 exact sm_ext fun x => (by ac_rfl : WW iv l x * (c * g x) = c * (WW iv l x * g x))
theorem tt_sub (l : List Int) (f g : Int → Int) : TT iv l (fun x => f x - g x) = TT iv l f - TT iv l g := by
 unfold TT
 rw [← sm_sub]
 exact sm_ext fun x => Int.mul_sub _ _ _
theorem tt_add (l : List Int) (f g : Int → Int) : TT iv l (fun x => f x + g x) = TT iv l f + TT iv l g := by
 unfold TT
 rw [← sm_add]
 exact sm_ext fun x => Int.mul_add _ _ _
theorem tt_ext {l : List Int} {f g : Int → Int} (h : ∀ x, f x = g x) : TT iv l f = TT iv l g := by rw [show f = g from funext h]
theorem oth_len {l : List Int} {m : Int} (hn : l.Nodup) (hm : m ∈ l) : l.length = (oth l m).length + 1 := (oth_perm hn hm).length_eq
theorem tt_one (hF : Fld q iv) : ∀ (n : Nat) {l : List Int}, Pts q l → l ≠ [] → l.length ≤ n → Cg q (TT iv l fun _ => 1) 1
 | 0, [], _, h0, _ => absurd rfl h0
 | n + 1, [x], hP, _, _ => by
  have e : oth [x] x = [] := by simp [oth]
  have h1 : ¬ Cg q (DD x [x]) 0 := DD_nz hF hP (.head _)
  have := hF.iv _ h1
  unfold TT WW UU
  unfold DD at this ⊢
  rw [e] at this
  simp only [List.map_cons, List.map_nil, sm, e, prd, Int.mul_one, Int.add_zero, Int.one_mul]
  simpa only [List.map_nil, prd, Int.one_mul] using this
 | n + 1, a :: b :: r, hP, _, hl => by
  have hab : a ≠ b := fun e => by
   have := (List.nodup_cons.1 hP.nd).1
   rw [e] at this
   exact this (.head _)
  have ha : a ∈ a :: b :: r := .head _
  have hb : b ∈ a :: b :: r := .tail _ (.head _)
  have hd := hP.ne b hb a ha (Ne.symm hab)
  have la := oth_len hP.nd ha
  have lb := oth_len hP.nd hb
  have ia := tt_one hF n (hP.oth a) (List.ne_nil_of_mem (mem_oth.2 ⟨hb, Ne.symm hab⟩)) (by omega)
  have ib := tt_one hF n (hP.oth b) (List.ne_nil_of_mem (mem_oth.2 ⟨ha, hab⟩)) (by omega)
  have ra := (tt_rem hF hP ha (fun _ => 1)).trans (ia.mull a)
  have rb := (tt_rem hF hP hb (fun _ => 1)).trans (ib.mull b)
  refine hF.cancel hd ?_
  rw [← tt_mul]
  have := rb.sub ra
  rw [← tt_sub, tt_ext (g := fun _ => (b - a) * 1) (fun x => by omega), show b * 1 - a * 1 = (b - a) * 1 by omega] at this
  exact this
theorem tt_pow (hF : Fld q iv) : ∀ (k : Nat) {l : List Int}, Pts q l → k < l.length → Cg q (TT iv l fun x => x ^ k) (if k = 0 then 1 else 0)
 | 0, l, hP, h => by
  have := tt_one hF l.length hP (fun e => by rw [e] at h; cases h) (Nat.le_refl _)
  rw [if_pos rfl, tt_ext (g := fun _ => 1) (fun x => Int.pow_zero x)]
  exact this
 | k + 1, m :: t, hP, h => by
  have hm : m ∈ m :: t := .head _
  have hl := oth_len hP.nd hm
  have i1 := tt_pow hF k hP (by omega)
  have i2 := tt_pow hF k (hP.oth m) (by omega)
  have r := (tt_rem hF hP hm (fun x => x ^ k)).trans (i2.mull m)
  have := (i1.mull m).sub r
  rw [← tt_mul, ← tt_sub, Int.sub_self] at this
  rw [if_neg (Nat.succ_ne_zero k), tt_ext (g := fun x => m * x ^ k - (m - x) * x ^ k) (fun x => by rw [Int.sub_mul, Int.pow_succ, Int.mul_comm (x ^ k) x]; omega)]
  exact this
def evP : List Int → Int → Int
 | [], _ => 0
 | a :: as_, x => a + x * evP as_ x
theorem tt_ev (hF : Fld q iv) : ∀ (cs : List Int) (j : Nat) {l : List Int}, Pts q l → j + cs.length ≤ l.length → Cg q (TT iv l fun x => x ^ j * evP cs x) (if j = 0 then cs.headD 0 else 0)
 | [], j, l, hP, _ => by
  rw [tt_ext (g := fun x => 0 * x ^ j) (fun x => by simp [evP]), tt_mul, Int.zero_mul]
  have e : (if j = 0 then ([] : List Int).headD 0 else 0) = 0 := by split <;> rfl
  rw [e]
  exact Cg.refl _ _
 | a :: cs, j, l, hP, h => by
  rw [List.length_cons] at h
  have i1 := (tt_pow hF j hP (by omega)).mull a
  have i2 := tt_ev hF cs (j + 1) hP (by omega)
  rw [if_neg (Nat.succ_ne_zero j)] at i2
  have := i1.add i2
  rw [← tt_mul, ← tt_add, Int.add_zero] at this
  rw [tt_ext (g := fun x => a * x ^ j + x ^ (j + 1) * evP cs x) (fun x => by rw [evP, Int.mul_add, Int.pow_succ, Int.mul_comm (x ^ j) a, Int.mul_assoc])]
  refine this.trans (Cg.of_eq ?_)
  split
  ·rw [Int.mul_one]; rfl
  ·exact Int.mul_zero a
theorem interp (hF : Fld q iv) {l : List Int} (hP : Pts q l) (cs : List Int) (h : cs.length ≤ l.length) : Cg q (sm (l.map fun x => WW iv l x * evP cs x)) (cs.headD 0) := by
 have := tt_ev hF cs 0 hP (by omega)
 rw [if_pos rfl, tt_ext (g := evP cs) (fun x => by rw [Int.pow_zero, Int.one_mul])] at this
 exact this
end
def euc (q : Nat) : Nat → Nat → Nat → Nat → Nat → Nat × Nat
 | 0, l, _, s, _ => (l, s)
 | f + 1, l, r, s, t => if r = 0 then (l, s) else euc q f r (l % r) t (minM q s (l / r * t % q))
theorem euc_0 (q f l s t : Nat) : euc q f l 0 s t = (l, s) := by cases f <;> rfl
theorem euc_s {q f l r s t : Nat} (hr : 0 < r) (hf : r ≤ f + 1) : euc q (f + 1) l r s t = euc q f r (l % r) t (minM q s (l / r * t % q)) := by rw [euc, if_neg (by omega)]
def invN (q a : Nat) : Nat × Nat := euc q q q (a % q) 0 1
def InvOk (q : Nat) : Prop := ∀ d, 0 < d → d < q → (invN q d).1 = 1 ∧ d * (invN q d).2 % q = 1 ∧ (invN q d).2 < q
def invB (q : Nat) : Bool := (List.range q).all fun d => Nat.beq d 0 || (Nat.beq (invN q d).1 1 && (Nat.beq (d * (invN q d).2 % q) 1 && Nat.blt (invN q d).2 q))
theorem invB_ok {q : Nat} (h : invB q = true) : InvOk q := fun d h0 hd => by
 have := List.all_eq_true.1 h d (List.mem_range.2 hd)
 simp only [Bool.or_eq_true, Bool.and_eq_true, Nat.beq_eq, Nat.blt_eq] at this
 rcases this with h | ⟨h1, h2, h3⟩
 ·omega
 ·exact ⟨h1, h2, h3⟩
def ivF (q : Nat) (d : Int) : Int := ((invN q (d % q).toNat).2 : Int)
theorem fld {q : Nat} (h1 : 1 < q) (h : InvOk q) : Fld q (ivF q) := ⟨by omega, fun d hd => by
 have hq : (0 : Int) < q := by omega
 have e0 := Int.emod_nonneg d (show (q : Int) ≠ 0 by omega)
 have e1 := Int.emod_lt_of_pos d hq
 obtain ⟨m, hm⟩ : ∃ m : Nat, d % q = (m : Int) := ⟨(d % q).toNat, by omega⟩
 have hm0 : m ≠ 0 := fun e => hd (by have := (Cg.mod q d).symm; rw [hm, e] at this; exact this)
 obtain ⟨g1, g2, g3⟩ := h m (by omega) (by omega)
 unfold ivF
 rw [hm, Int.toNat_natCast]
 have c1 := ((Cg.mod q d).symm.mulr ((invN q m).2 : Int))
 rw [hm] at c1
 refine c1.trans ?_
 have c2 := (Cg.mod q ((m : Int) * ((invN q m).2 : Int))).symm
 rw [← Int.natCast_mul, ← Int.natCast_emod, g2] at c2
 rw [Int.natCast_mul] at c2
 exact c2⟩
def upK (q : Nat) (X : List Nat) (i : Nat) : Nat → Nat
 | 0 => 1
 | k + 1 => if k = i then upK q X i k else upK q X i k * X.getD k 0 % q
def dnK (q : Nat) (X : List Nat) (i : Nat) : Nat → Nat
 | 0 => 1
 | k + 1 => if k = i then dnK q X i k else dnK q X i k * minM q (X.getD k 0) (X.getD i 0) % q
theorem upK_lt {q : Nat} (hq : 1 < q) (X : List Nat) (i : Nat) : ∀ k, upK q X i k < q
 | 0 => hq
 | k + 1 => by
  unfold upK
  split
  ·exact upK_lt hq X i k
  ·exact Nat.mod_lt _ (by omega)
theorem dnK_lt {q : Nat} (hq : 1 < q) (X : List Nat) (i : Nat) : ∀ k, dnK q X i k < q
 | 0 => hq
 | k + 1 => by
  unfold dnK
  split
  ·exact dnK_lt hq X i k
  ·exact Nat.mod_lt _ (by omega)
def wgt (q : Nat) (X : List Nat) (i : Nat) : Nat := upK q X i X.length * (invN q (dnK q X i X.length)).2 % q
def sumK (q : Nat) (l : List Nat) : Nat → Nat
 | 0 => 0
 | k + 1 => (sumK q l k + l.getD k 0) % q
theorem sumK_0 (q : Nat) (l : List Nat) : sumK q l 0 = 0 := rfl
theorem upK_0 (q : Nat) (X : List Nat) (i : Nat) : upK q X i 0 = 1 := rfl
theorem dnK_0 (q : Nat) (X : List Nat) (i : Nat) : dnK q X i 0 = 1 := rfl
theorem upK_f {q i k : Nat} {X : List Nat} (h : k = i) : upK q X i (k + 1) = upK q X i k := by rw [upK, if_pos h]
theorem dnK_f {q i k : Nat} {X : List Nat} (h : k = i) : dnK q X i (k + 1) = dnK q X i k := by rw [dnK, if_pos h]
theorem upK_t {q i k : Nat} {X : List Nat} (h : k ≠ i) : upK q X i (k + 1) = upK q X i k * X.getD k 0 % q := by rw [upK, if_neg h]
theorem dnK_t {q i k : Nat} {X : List Nat} (h : k ≠ i) : dnK q X i (k + 1) = dnK q X i k * minM q (X.getD k 0) (X.getD i 0) % q := by rw [dnK, if_neg h]
theorem sumK_lt {q : Nat} (hq : 0 < q) (l : List Nat) : ∀ k, sumK q l k < q
 | 0 => hq
 | k + 1 => Nat.mod_lt _ hq
def prtL (q : Nat) (X Y : List Nat) (n : Nat) : List Nat := (List.range n).map fun i => Y.getD i 0 * wgt q X i % q
@[simp] theorem prtL_len (q : Nat) (X Y : List Nat) (n : Nat) : (prtL q X Y n).length = n := by simp [prtL]
theorem prtL_succ (q : Nat) (X Y : List Nat) (n : Nat) : prtL q X Y (n + 1) = prtL q X Y n ++ [Y.getD n 0 * wgt q X n % q] := by simp [prtL, List.range_succ]
def wgtL (q : Nat) (X : List Nat) (n : Nat) : List Nat := (List.range n).map (wgt q X)
@[simp] theorem wgtL_len (q : Nat) (X : List Nat) (n : Nat) : (wgtL q X n).length = n := by simp [wgtL]
theorem wgtL_succ (q : Nat) (X : List Nat) (n : Nat) : wgtL q X (n + 1) = wgtL q X n ++ [wgt q X n] := by simp [wgtL, List.range_succ]
theorem wgtL_get {q : Nat} {X : List Nat} {n k : Nat} (h : k < n) : (wgtL q X n).getD k 0 = wgt q X k := by simp [wgtL, List.getD_eq_getElem?_getD, h]
theorem wgt_lt {q : Nat} (hq : 0 < q) (X : List Nat) (i : Nat) : wgt q X i < q := Nat.mod_lt _ hq
def azV (q : Nat) (X Y : List Nat) : Nat := sumK q (prtL q X Y X.length) X.length
structure Plc (q : Nat) (X : List Nat) : Prop where
 nd : X.Nodup
 lt : ∀ x ∈ X, 0 < x ∧ x < q
theorem Plc.at {q : Nat} {X : List Nat} (h : Plc q X) {i k : Nat} (hi : i < X.length) (hk : k < X.length) (hne : k ≠ i) : X.getD k 0 ≠ X.getD i 0 := by
 rw [List.getD_eq_getElem?_getD, List.getD_eq_getElem?_getD, List.getElem?_eq_getElem hi, List.getElem?_eq_getElem hk]
 exact fun e => hne (List.getElem_inj h.nd |>.1 e)
theorem Plc.get {q : Nat} {X : List Nat} (h : Plc q X) {i : Nat} (hi : i < X.length) : 0 < X.getD i 0 ∧ X.getD i 0 < q := by
 rw [List.getD_eq_getElem?_getD, List.getElem?_eq_getElem hi]
 exact h.lt _ (List.getElem_mem _)
theorem cg_small {q : Nat} {a b : Nat} (ha : a < q) (hb : b < q) (h : Cg q ((a : Int) - b) 0) : a = b := by
 have h1 : Cg q (a : Int) b := by
  have := h.add (Cg.refl q (b : Int))
  rwa [Int.sub_add_cancel, Int.zero_add] at this
 have := h1.emod
 rw [Int.emod_eq_of_lt (by omega) (by omega), Int.emod_eq_of_lt (by omega) (by omega)] at this
 omega
theorem minM_cg {q : Nat} (hq : 0 < q) (a b : Nat) : Cg q (minM q a b : Int) ((a : Int) - b) := by
 unfold minM
 have hb := Nat.mod_lt b hq
 rw [Int.natCast_emod, Int.natCast_sub (by omega)]
 refine (Cg.mod _ _).trans ?_
 rw [Int.natCast_add, Int.natCast_emod, Int.natCast_emod]
 have h1 := ((Cg.mod q (a : Int)).add (⟨1, by simp⟩ : Cg q (q : Int) 0)).sub (Cg.mod q (b : Int))
 rwa [Int.add_zero] at h1
theorem minM_nz {q : Nat} (hq : 0 < q) {a b : Nat} (ha : a < q) (hb : b < q) (h : a ≠ b) : minM q a b ≠ 0 := fun e => by
 have := (minM_cg hq a b).symm
 rw [e] at this
 exact h (cg_small ha hb this)
theorem Plc.pts {q : Nat} {X : List Nat} (h : Plc q X) : Pts q (X.map (fun x : Nat => (x : Int))) := by
 refine ⟨?_, ?_⟩
 ·rw [List.nodup_iff_pairwise_ne, List.pairwise_map]
  exact h.nd.imp fun h e => h (Int.ofNat.inj e)
 ·intro a ha b hb hne hc
  obtain ⟨x, hx, rfl⟩ := List.mem_map.1 ha
  obtain ⟨y, hy, rfl⟩ := List.mem_map.1 hb
  exact hne (congrArg _ (cg_small (h.lt x hx).2 (h.lt y hy).2 hc))
theorem oth_map {X : List Nat} {x : Nat} : oth (X.map (fun x : Nat => (x : Int))) (x : Int) = (X.filter fun y => decide (y ≠ x)).map (fun x : Nat => (x : Int)) := by
 unfold oth
 rw [List.filter_map]
 congr 1
 refine List.filter_congr fun y _ => ?_
 simp only [Function.comp_apply, ne_eq, decide_not, Int.natCast_inj]
theorem filt_take {X : List Nat} (hn : X.Nodup) {i k : Nat} (hi : i < X.length) (hk : k < X.length) : (X.take (k + 1)).filter (fun y => decide (y ≠ X.getD i 0)) = (X.take k).filter (fun y => decide (y ≠ X.getD i 0)) ++ (if k = i then [] else [X.getD k 0]) := by
 rw [List.take_add_one, List.getElem?_eq_getElem hk, Option.toList_some, List.filter_append]
 congr 1
 rw [List.getD_eq_getElem?_getD, List.getD_eq_getElem?_getD, List.getElem?_eq_getElem hi, List.getElem?_eq_getElem hk, Option.getD_some, Option.getD_some]
 by_cases h : k = i
 ·subst h; simp
 ·have : X[k] ≠ X[i] := fun e => h (List.getElem_inj hn |>.1 e)
  rw [if_neg h, List.filter_cons, if_pos (by simpa using this)]; rfl
theorem prd_app : ∀ l m : List Int, prd (l ++ m) = prd l * prd m
 | [], m => by simp [prd]
 | x :: l, m => by rw [List.cons_append, prd, prd, prd_app l m, Int.mul_assoc]
theorem up_cg {q : Nat} {X : List Nat} (hn : X.Nodup) {i : Nat} (hi : i < X.length) : ∀ k, k ≤ X.length → Cg q (upK q X i k : Int) (prd (((X.take k).filter fun y => decide (y ≠ X.getD i 0)).map fun x : Nat => (x : Int)))
 | 0, _ => Cg.refl _ _
 | k + 1, hk => by
  have ih := up_cg (q := q) hn hi k (by omega)
  rw [filt_take hn hi (by omega), List.map_append, prd_app]
  unfold upK
  split
  ·rw [List.map_nil, prd, Int.mul_one]; exact ih
  ·rw [List.map_cons, List.map_nil, prd, prd, Int.mul_one, Int.natCast_emod, Int.natCast_mul]
   exact (Cg.mod _ _).trans (ih.mulr _)
theorem dn_cg {q : Nat} (hq : 0 < q) {X : List Nat} (hn : X.Nodup) {i : Nat} (hi : i < X.length) : ∀ k, k ≤ X.length → Cg q (dnK q X i k : Int) (prd ((((X.take k).filter fun y => decide (y ≠ X.getD i 0)).map fun x : Nat => (x : Int)).map fun y => y - (X.getD i 0 : Nat)))
 | 0, _ => Cg.refl _ _
 | k + 1, hk => by
  have ih := dn_cg hq hn hi k (by omega)
  rw [filt_take hn hi (by omega), List.map_append, List.map_append, prd_app]
  unfold dnK
  split
  ·rw [List.map_nil, List.map_nil, prd, Int.mul_one]; exact ih
  ·rw [List.map_cons, List.map_nil, List.map_cons, List.map_nil, prd, prd, Int.mul_one, Int.natCast_emod, Int.natCast_mul]
   exact (Cg.mod _ _).trans (ih.mul (minM_cg hq _ _))
theorem dn_ne {q : Nat} (h1 : 1 < q) (hv : InvOk q) {X : List Nat} (hP : Plc q X) {i : Nat} (hi : i < X.length) : 0 < dnK q X i X.length := by
 have hF := fld h1 hv
 have hm : ((X.getD i 0 : Nat) : Int) ∈ X.map (fun x : Nat => (x : Int)) := List.mem_map.2 ⟨_, by rw [List.getD_eq_getElem?_getD, List.getElem?_eq_getElem hi]; exact List.getElem_mem _, rfl⟩
 have hz := DD_nz hF hP.pts hm
 have hc := dn_cg (q := q) (by omega) hP.nd hi X.length (Nat.le_refl _)
 rw [List.take_length, ← oth_map] at hc
 refine Nat.pos_of_ne_zero fun e => hz ?_
 rw [e] at hc
 exact hc.symm
theorem wgt_cg {q : Nat} (h1 : 1 < q) (hv : InvOk q) {X : List Nat} (hP : Plc q X) {i : Nat} (hi : i < X.length) : Cg q (wgt q X i : Int) (WW (ivF q) (X.map (fun x : Nat => (x : Int))) (X.getD i 0 : Nat)) := by
 have hu := up_cg (q := q) hP.nd hi X.length (Nat.le_refl _)
 have hd := dn_cg (q := q) (by omega) hP.nd hi X.length (Nat.le_refl _)
 have h0 := dn_ne h1 hv hP hi
 have hl := dnK_lt h1 X i X.length
 rw [List.take_length, ← oth_map] at hu hd
 unfold wgt
 rw [Int.natCast_emod, Int.natCast_mul]
 refine (Cg.mod _ _).trans (hu.mul ?_)
 have hF := fld h1 hv
 change Cg q (dnK q X i X.length : Int) (DD (X.getD i 0 : Nat) (X.map (fun x : Nat => (x : Int)))) at hd
 generalize DD (X.getD i 0 : Nat) (X.map (fun x : Nat => (x : Int))) = D at hd ⊢
 unfold ivF
 rw [← hd.emod, Int.emod_eq_of_lt (by omega) (by omega), Int.toNat_natCast]
 exact Cg.refl _ _
theorem sm_app : ∀ l m : List Int, sm (l ++ m) = sm l + sm m
 | [], m => by simp [sm]
 | x :: l, m => by rw [List.cons_append, sm, sm, sm_app l m]; omega
theorem sum_cg {q : Nat} (l : List Nat) : ∀ k, k ≤ l.length → Cg q (sumK q l k : Int) (sm ((l.take k).map fun x : Nat => (x : Int)))
 | 0, _ => Cg.refl _ _
 | k + 1, hk => by
  have ih := sum_cg (q := q) l k (by omega)
  rw [List.take_add_one, List.getElem?_eq_getElem (show k < l.length by omega), Option.toList_some, List.map_append, sm_app, sumK, Int.natCast_emod, Int.natCast_add, List.getD_eq_getElem?_getD, List.getElem?_eq_getElem (show k < l.length by omega)]
  refine (Cg.mod _ _).trans (ih.add (Cg.of_eq ?_))
  simp [sm]
theorem cg_list {q : Int} {α : Type} {f g : α → Int} : ∀ {l : List α}, (∀ x ∈ l, Cg q (f x) (g x)) → Cg q (sm (l.map f)) (sm (l.map g))
 | [], _ => Cg.refl _ _
 | x :: l, h => (h x (.head _)).add (cg_list fun y hy => h y (.tail _ hy))
theorem range_map {X : List Nat} (f : Nat → Int) : (List.range X.length).map (fun i => f (X.getD i 0)) = X.map f := by
 apply List.ext_getElem
 ·simp
 ·intro i h1 h2
  simp at h1
  simp [List.getD_eq_getElem?_getD, h1]
theorem azV_eq {q : Nat} (h1 : 1 < q) (hv : InvOk q) {X Y : List Nat} (hP : Plc q X) (cs : List Int) (hl : cs.length ≤ X.length) (hY : ∀ i, i < X.length → Cg q (Y.getD i 0 : Nat) (evP cs (X.getD i 0 : Nat))) {a : Nat} (ha : a < q) (hh : cs.headD 0 = (a : Int)) : azV q X Y = a := by
 have hF := fld h1 hv
 have h2 := interp hF hP.pts cs (by rw [List.length_map]; exact hl)
 rw [hh] at h2
 have h3 := sum_cg (q := q) (prtL q X Y X.length) X.length (by simp)
 rw [List.take_of_length_le (by simp)] at h3
 have h4 : Cg q (sm ((prtL q X Y X.length).map fun x : Nat => (x : Int))) (sm ((X.map fun x : Nat => (x : Int)).map fun x => WW (ivF q) (X.map fun x : Nat => (x : Int)) x * evP cs x)) := by
  unfold prtL
  rw [List.map_map, List.map_map, ← range_map (X := X)]
  refine cg_list fun i hi => ?_
  have hi' : i < X.length := List.mem_range.1 hi
  simp only [Function.comp_apply]
  rw [Int.natCast_emod, Int.natCast_mul, Int.mul_comm (Y.getD i 0 : Int)]
  exact (Cg.mod _ _).trans ((wgt_cg h1 hv hP hi').mul (hY i hi'))
 have h5 := (h3.trans (h4.trans h2)).emod
 have hs := sumK_lt (q := q) (by omega) (prtL q X Y X.length) X.length
 rw [Int.emod_eq_of_lt (by omega) (by omega), Int.emod_eq_of_lt (by omega) (by omega)] at h5
 unfold azV
 omega
def pwMask (P G : Nat) : Nat → Nat
 | 0 => 0
 | k + 1 => pwMask P G k ||| 2 ^ (G ^ k % P)
theorem mask_bit {P G a : Nat} : ∀ {n : Nat}, (pwMask P G n).testBit a = true → ∃ k, k < n ∧ G ^ k % P = a
 | 0, h => by rw [pwMask, Nat.zero_testBit] at h; cases h
 | n + 1, h => by
  rw [pwMask, Nat.testBit_or, Bool.or_eq_true, Nat.testBit_two_pow, decide_eq_true_eq] at h
  rcases h with h | h
  ·obtain ⟨k, h1, h2⟩ := mask_bit h
   exact ⟨k, by omega, h2⟩
  ·exact ⟨n, by omega, h⟩
structure LgOk (P Q G : Nat) : Prop where
 lg : ∀ a, a ≠ 0 → a < P → a ^ Q % P = 1 → ∃ k, k < Q ∧ G ^ k % P = a
 ord : ∀ d, 0 < d → d < Q → G ^ d % P ≠ 1
def lgB (P Q G M : Nat) : Bool := Nat.beq (pwMask P G Q) M && (((List.range P).all fun a => Nat.beq a 0 || (!(Nat.beq (a ^ Q % P) 1) || Nat.testBit M a)) && ((List.range Q).all fun d => Nat.beq d 0 || !(Nat.beq (G ^ d % P) 1)))
theorem lgB_ok {P Q G : Nat} (M : Nat) (h : lgB P Q G M = true) : LgOk P Q G := by
 unfold lgB at h
 rw [Bool.and_eq_true, Bool.and_eq_true] at h
 obtain ⟨h1, h2, h3⟩ := h
 have h1 : pwMask P G Q = M := Nat.eq_of_beq_eq_true h1
 refine ⟨fun a a0 a1 a2 => ?_, fun d d0 d1 e => ?_⟩
 ·have := List.all_eq_true.1 h2 a (List.mem_range.2 a1)
  rw [Bool.or_eq_true, Bool.or_eq_true, Nat.beq_eq, Bool.not_eq_true', a2] at this
  rcases this with h | h | h
  ·exact absurd h a0
  ·cases h
  ·rw [← h1] at h; exact mask_bit h
 ·have := List.all_eq_true.1 h3 d (List.mem_range.2 d1)
  rw [Bool.or_eq_true, Nat.beq_eq, Bool.not_eq_true', e] at this
  rcases this with h | h
  ·omega
  ·cases h
theorem gd_lg (w : Int) : LgOk (gd w).P (gd w).Q (gd w).G := gd_cases (R := fun d => LgOk d.P d.Q d.G)
 (lgB_ok 535662461277093691336929166355814392150859254155675959229816698074154517229552720373783243630392592469373150264096609057984969746780946638447739032279467306980764652821794435786076504216458038760494042415154865145392649021962872994490833050327081332702980601683773975303275874922776582181375698483191680793622145215411415978915119257783978487199730975574408194387359063400639210778169780844458713109263084381632575912333409504548365523993869541034582605350763044703180562677462085869302945950548847137673852987047743702649012496786319748644387323856635772271907475824759243600921160564807043655823346916801353598 (by decide +kernel))
 (lgB_ok 6058870142380879454330449817022811454536025988062 (by decide +kernel))
 (lgB_ok 50079290986288516948354744811034 (by decide +kernel))
 (lgB_ok 340830 (by decide +kernel)) w
theorem gd_iv (w : Int) : InvOk (gd w).Q := gd_cases (R := fun d => InvOk d.Q) (invB_ok (by decide +kernel)) (invB_ok (by decide +kernel)) (invB_ok (by decide +kernel)) (invB_ok (by decide +kernel)) w
theorem pow_red {P Q G : Nat} (h1 : 1 < P) (hG : G ^ Q % P = 1) (e : Nat) : G ^ e % P = G ^ (e % Q) % P := by
 conv => lhs; rw [← Nat.div_add_mod e Q, Nat.pow_add, Nat.pow_mul, Nat.mul_mod, Nat.pow_mod, hG, Nat.one_pow, Nat.mod_eq_of_lt h1, Nat.one_mul, Nat.mod_mod]
theorem LgOk.lt {P Q G : Nat} (h : LgOk P Q G) (hG : G ^ Q % P = 1) {i j : Nat} (hij : i < j) (hj : j < Q) : G ^ i % P ≠ G ^ j % P := fun e => by
 have h1 : G ^ (j - i) % P = (G ^ (j - i) * G ^ Q) % P := by rw [Nat.mul_mod, hG, Nat.mul_one, Nat.mod_mod]
 have h2 : G ^ (j - i) * G ^ Q = G ^ j * G ^ (Q - i) := by rw [← Nat.pow_add, ← Nat.pow_add]; congr 1; omega
 have h3 : G ^ i * G ^ (Q - i) = G ^ Q := by rw [← Nat.pow_add]; congr 1; omega
 rw [h2, Nat.mul_mod, ← e, ← Nat.mul_mod, h3, hG] at h1
 exact h.ord (j - i) (by omega) (by omega) h1
theorem LgOk.inj {P Q G : Nat} (h : LgOk P Q G) (hG : G ^ Q % P = 1) {i j : Nat} (hi : i < Q) (hj : j < Q) (e : G ^ i % P = G ^ j % P) : i = j := by
 rcases Nat.lt_trichotomy i j with g | g | g
 ·exact absurd e (h.lt hG g hj)
 ·exact g
 ·exact absurd e.symm (h.lt hG g hi)
structure SmG (γ : GP) : Prop where
 ok : GOk γ
 iv : InvOk γ.Q
 lg : LgOk γ.P γ.Q γ.G
theorem smG {γ : GP} {w : Int} (h : GOk γ) (hP : γ.P = (gd w).P) (hQ : γ.Q = (gd w).Q) (hG : γ.G = (gd w).G) : SmG γ :=
 ⟨h, by rw [hQ]; exact gd_iv w, by rw [hP, hQ, hG]; exact gd_lg w⟩
def lgN (γ : GP) (a : Nat) : Nat := ((List.range γ.Q).find? fun k => decide (γ.G ^ k % γ.P = a)).getD 0
theorem lgN_of {γ : GP} (hS : SmG γ) {s a : Nat} (hs : s < γ.Q) (h : γ.G ^ s % γ.P = a) : lgN γ a = s := by
 unfold lgN
 cases hf : (List.range γ.Q).find? fun k => decide (γ.G ^ k % γ.P = a) with
 | none =>
  have := List.find?_eq_none.1 hf s (List.mem_range.2 hs)
  exact absurd (decide_eq_true h) this
 | some k =>
  have h1 := List.find?_some hf
  have h2 := List.mem_range.1 (List.mem_of_find?_eq_some hf)
  exact hS.lg.inj hS.ok.ord h2 hs ((of_decide_eq_true h1).trans h.symm)
theorem memB_iff {γ : GP} {a : Nat} : memB γ a = true ↔ a ≠ 0 ∧ a < γ.P ∧ a ^ γ.Q % γ.P = 1 := by unfold memB; exact decide_eq_true_iff
theorem lgN_mem {γ : GP} (hS : SmG γ) {a : Nat} (h : memB γ a = true) : lgN γ a < γ.Q ∧ γ.G ^ lgN γ a % γ.P = a := by
 obtain ⟨h1, h2, h3⟩ := memB_iff.1 h
 obtain ⟨k, hk, e⟩ := hS.lg.lg a h1 h2 h3
 rw [lgN_of hS hk e]
 exact ⟨hk, e⟩
def exK (γ : GP) (com n : List Nat) : Nat → Nat
 | 0 => 0
 | k + 1 => exK γ com n k + lgN γ (com.getD k 0) * n.getD k 0
theorem mul_ex {γ : GP} (hS : SmG γ) {com n : List Nat} (hm : ∀ a ∈ com, memB γ a = true) : ∀ k, k ≤ com.length → mulK γ.P com n k = γ.G ^ exK γ com n k % γ.P
 | 0, _ => by rw [exK, Nat.pow_zero, Nat.mod_eq_of_lt hS.ok.p1]; rfl
 | k + 1, hk => by
  have ih := mul_ex hS (n := n) hm k (by omega)
  have hmem : com.getD k 0 ∈ com := by rw [List.getD_eq_getElem?_getD, List.getElem?_eq_getElem (show k < com.length by omega)]; exact List.getElem_mem _
  have h2 := (lgN_mem hS (hm _ hmem)).2
  rw [mulK, ih, exK, Nat.pow_add, Nat.pow_mul]
  conv => lhs; rw [← h2, ← Nat.pow_mod]
  rw [← Nat.mul_mod]
theorem evP_snoc (x c : Int) : ∀ l : List Int, evP (l ++ [c]) x = evP l x + c * x ^ l.length
 | [] => by simp [evP]
 | a :: l => by
  rw [List.cons_append, evP, evP_snoc x c l, evP, List.length_cons, Int.pow_succ, Int.mul_add, Int.mul_comm (x ^ l.length) x, ← Int.mul_assoc, ← Int.mul_assoc, Int.mul_comm x c, Int.add_assoc]
theorem powK_cg (q a : Nat) : ∀ k, Cg q (powK q a k : Int) ((a : Int) ^ k)
 | 0 => Cg.refl _ _
 | k + 1 => by
  rw [powK, Int.natCast_emod, Int.natCast_mul, Int.pow_succ]
  exact (Cg.mod _ _).trans ((powK_cg q a k).mulr _)
def lgL (γ : GP) (com : List Nat) : List Int := com.map fun a => (lgN γ a : Int)
theorem ex_cg {γ : GP} {com : List Nat} {a n : Nat} : ∀ k, k ≤ com.length → k ≤ n → Cg γ.Q (exK γ com (powL γ.Q a n) k : Int) (evP (lgL γ (com.take k)) a)
 | 0, _, _ => Cg.refl _ _
 | k + 1, hk, hn => by
  have ih := ex_cg (γ := γ) (com := com) (a := a) (n := n) k (by omega) (by omega)
  have e : lgL γ (com.take (k + 1)) = lgL γ (com.take k) ++ [(lgN γ (com.getD k 0) : Int)] := by
   unfold lgL
   rw [List.take_add_one, List.getElem?_eq_getElem (show k < com.length by omega), Option.toList_some, List.map_append, List.getD_eq_getElem?_getD, List.getElem?_eq_getElem (show k < com.length by omega)]
   rfl
  have l : (lgL γ (com.take k)).length = k := by unfold lgL; rw [List.length_map, List.length_take]; omega
  rw [e, evP_snoc, l, exK, powL_get (by omega), Int.natCast_add, Int.natCast_mul]
  exact ih.add ((powK_cg _ _ _).mull _)
theorem mulE_0 {γ : GP} {l n : List Nat} (h : mulE γ l n = 0) : ∀ a ∈ l, memB γ a = true := by
 unfold mulE at h
 split at h
 ·cases h
 ·split at h
  ·cases h
  ·rename_i h2
   intro a ha
   have h3 : ¬ (!memB γ a) = true := fun h4 => h2 (List.any_eq_true.2 ⟨a, ha, h4⟩)
   simpa using h3
theorem right_ev {γ : GP} (hS : SmG γ) {com : List Nat} {slot : Int} {v : Nat} (h : rightF γ com slot v = 0) : (1 ≤ com.length ∧ com.length ≤ 20) ∧ 0 ≤ slot ∧ slot < 40 ∧ slot.toNat + 1 < γ.Q ∧ v < γ.Q ∧ (∀ a ∈ com, memB γ a = true) ∧ Cg γ.Q (v : Int) (evP (lgL γ com) ((slot.toNat + 1 : Nat) : Int)) := by
 unfold rightF at h
 split at h
 ·rename_i h1
  obtain ⟨a1, a2, a3, a4⟩ := r1_ok h1
  unfold r2E at h
  split at h
  ·cases h
  ·rename_i h2
   have hm := mulE_0 h
   have hv : v < γ.Q ∧ γ.G ^ v % γ.P = wantV γ com slot.toNat := by
    refine Classical.byContradiction fun hn => h2 ⟨h, ?_⟩
    by_cases hq : v < γ.Q
    ·exact .inr fun e => hn ⟨hq, e⟩
    ·exact .inl hq
   have hw : wantV γ com slot.toNat = mulK γ.P com (powL γ.Q (slot.toNat + 1) com.length) com.length := by
    unfold wantV mulV
    rw [if_pos (show mulE γ com (powL γ.Q (slot.toNat + 1) com.length) = 0 from h)]
   rw [hw, mul_ex hS hm _ (Nat.le_refl _), pow_red hS.ok.p1 hS.ok.ord (exK γ com (powL γ.Q (slot.toNat + 1) com.length) com.length)] at hv
   have hq0 : 0 < γ.Q := by omega
   have he := hS.lg.inj hS.ok.ord hv.1 (Nat.mod_lt _ hq0) hv.2
   refine ⟨a1, a2, a3, a4, hv.1, hm, ?_⟩
   have hc := ex_cg (γ := γ) (com := com) (a := slot.toNat + 1) (n := com.length) com.length (Nat.le_refl _) (Nat.le_refl _)
   rw [List.take_length] at hc
   refine Cg.trans ?_ hc
   rw [he, Int.natCast_emod]
   exact Cg.mod _ _
 ·rename_i h1; exact absurd h h1
theorem opens_lg {γ : GP} (hS : SmG γ) {com : List Nat} {s : Nat} (h : opensB γ com s = true) : s = lgN γ (com.getD 0 0) ∧ s < γ.Q ∧ 0 < com.length := by
 obtain ⟨h1, h2, h3⟩ := of_decide_eq_true h
 exact ⟨(lgN_of hS h2 h3).symm, h2, h1⟩
def plcL (L : List (Int × N256)) : List Nat := L.map fun e => e.1.toNat + 1
def valL (L : List (Int × N256)) : List Nat := L.map fun e => e.2.1
theorem plc_ok {γ : GP} (hS : SmG γ) {com : List Nat} {L : List (Int × N256)} (hr : ∀ e ∈ L, rightF γ com e.1 e.2.1 = 0) (hn : (L.map (·.1)).Nodup) : Plc γ.Q (plcL L) := by
 refine ⟨?_, fun x hx => ?_⟩
 ·unfold plcL
  rw [List.nodup_iff_pairwise_ne, List.pairwise_map]
  rw [List.nodup_iff_pairwise_ne, List.pairwise_map] at hn
  refine hn.imp_of_mem fun {a b} ha hb h e => h ?_
  have h1 := (right_ev hS (hr a ha)).2.1
  have h2 := (right_ev hS (hr b hb)).2.1
  omega
 ·obtain ⟨e, he, rfl⟩ := List.mem_map.1 hx
  obtain ⟨_, _, _, h4, _⟩ := right_ev hS (hr e he)
  exact ⟨Nat.succ_pos _, h4⟩
theorem recovers {γ : GP} (hS : SmG γ) {com : List Nat} {L : List (Int × N256)} (hr : ∀ e ∈ L, rightF γ com e.1 e.2.1 = 0) (hn : (L.map (·.1)).Nodup) (h1 : 0 < com.length) (hl : com.length ≤ L.length) : azV γ.Q (plcL L) (valL L) = lgN γ (com.getD 0 0) := by
 have hP := plc_ok hS hr hn
 have hpl : (plcL L).length = L.length := List.length_map _
 have hm : ∀ a ∈ com, memB γ a = true := by
  cases L with
  | nil =>
   have : com.length ≤ 0 := hl
   omega
  | cons e L => exact (right_ev hS (hr e (.head _))).2.2.2.2.2.1
 have hc0 : com.getD 0 0 ∈ com := by rw [List.getD_eq_getElem?_getD, List.getElem?_eq_getElem h1]; exact List.getElem_mem _
 refine azV_eq hS.ok.q1 hS.iv hP (lgL γ com) (by rw [hpl]; unfold lgL; rw [List.length_map]; exact hl) (fun i hi => ?_) (lgN_mem hS (hm _ hc0)).1 ?_
 ·rw [hpl] at hi
  have := (right_ev hS (hr _ (List.getElem_mem hi))).2.2.2.2.2.2
  unfold plcL valL
  rw [List.getD_eq_getElem?_getD, List.getD_eq_getElem?_getD, List.getElem?_map, List.getElem?_map, List.getElem?_eq_getElem hi]
  exact this
 ·cases com with
  | nil => cases h1
  | cons a com => rfl
def seedT : B8 := [115#8, 101#8, 101#8, 100#8]
def whoB (q : List Int) : B8 := q.flatMap fun i => digs (BitVec.ofInt 64 i) 8
def seedF (num : W64) (prev : D32) (sum : Nat) (q : List Int) : D32 := ⟨sha (inB seedT [digs num 8, prev.1, natBytes (wd sum), whoB q]), sha_len _⟩
structure DR (γ : GP) (d : DL) : Prop where
 pc : ∀ k v, d.pieces.get k = some v → rightF γ d.com k v.1 = 0
 rv : d.rev = true → d.sec = lgN γ (d.com.getD 0 0) ∧ 0 < d.com.length
def SecP (d : DL) : Prop := d.rev = true ∨ d.com.length ≤ d.pieces.es.length
instance (d : DL) : Decidable (SecP d) := by unfold SecP; infer_instance
def secN (γ : GP) (d : DL) : Nat := lgN γ (d.com.getD 0 0)
def AllB (own : List Int) (ds : List DL) : Prop := ∀ x ∈ qualT own ds ds.length, SecP (ds.getD x.toNat DZ)
instance (own : List Int) (ds : List DL) : Decidable (AllB own ds) := by unfold AllB; infer_instance
def secL (γ : GP) (own : List Int) (ds : List DL) : List Nat := (qualT own ds ds.length).map fun x : Int => secN γ (ds.getD x.toNat DZ)
def seedR (z : ES) (ds : List DL) : D32 := if AllB z.own ds then seedF z.num z.prev (sumK z.γ.Q (secL z.γ z.own ds) (secL z.γ z.own ds).length) (qualT z.own ds ds.length) else D0
theorem secN_lt {γ : GP} (hS : SmG γ) (d : DL) : secN γ d < 115792089237316195423570985008687907853269984665640564039457584007913129639936 := by
 unfold secN lgN
 cases hf : (List.range γ.Q).find? fun k => decide (γ.G ^ k % γ.P = d.com.getD 0 0) with
 | none => exact show (0 : Nat) < 115792089237316195423570985008687907853269984665640564039457584007913129639936 by decide
 | some k => exact Nat.lt_trans (List.mem_range.1 (List.mem_of_find?_eq_some hf)) hS.ok.qb
theorem right_pos {γ : GP} {com : List Nat} {s : Int} {v : Nat} (h : rightF γ com s v = 0) : 0 < com.length := by
 unfold rightF at h
 split at h
 ·rename_i h1; have := (r1_ok h1).1; omega
 ·rename_i h1; exact absurd h h1
theorem Fresh.dr {γ : GP} {d : DL} (h : Fresh d) : DR γ d := by
 rw [h]
 exact ⟨fun k v hk => (by cases hk), fun h => (by cases h)⟩
theorem DR.kind {z : ES} (hS : SmG z.γ) {d : DL} (h : DR z.γ d) (t : TX) (hv : t.val < 115792089237316195423570985008687907853269984665640564039457584007913129639936) (i : Nat) (cx : Value) : DR z.γ (kindN d t hv i (kindE z d t i) cx) := by
 unfold kindN kindE
 by_cases h0 : i = 0
 ·rw [if_pos h0, if_pos h0]
  unfold dealN
  split
  ·exact ⟨h.pc, h.rv⟩
  ·split
   ·rename_i he
    unfold dealE at he
    split at he
    ·cases he
    ·split at he
     ·cases he
     ·rename_i hn
      have hn' : ¬ 0 < d.com.length := fun x => hn (.inl x)
      exact ⟨fun k v hk => absurd (right_pos (h.pc k v hk)) hn', fun hr => absurd (h.rv hr).2 hn'⟩
   ·exact h
 rw [if_neg h0, if_neg h0]
 by_cases h1 : i = 1
 ·rw [if_pos h1, if_pos h1]
  unfold ackN
  split
  ·exact ⟨h.pc, h.rv⟩
  ·exact h
 rw [if_neg h1, if_neg h1]
 by_cases h2 : i = 2
 ·rw [if_pos h2, if_pos h2]
  unfold openN
  split
  ·exact ⟨h.pc, h.rv⟩
  ·split
   ·rename_i he
    refine ⟨fun k v hk => ?_, h.rv⟩
    have hr : rightF z.γ d.com t.slot t.val = 0 := by
     unfold openE at he
     split at he
     ·cases he
     ·split at he
      ·cases he
      ·split at he
       ·cases he
       ·rename_i hh; exact Classical.not_not.1 hh
    rw [MM.get_put] at hk
    split at hk
    ·rename_i hks
     obtain rfl := Option.some.inj hk
     rw [hks]; exact hr
    ·exact h.pc k v hk
   ·exact h
 rw [if_neg h2, if_neg h2]
 by_cases h3 : i = 3
 ·rw [if_pos h3, if_pos h3]
  unfold revN
  split
  ·rename_i he
   refine ⟨h.pc, fun _ => ?_⟩
   have ho : opensB z.γ d.com t.val = true := by
    unfold revE at he
    split at he
    ·cases he
    ·split at he
     ·cases he
     ·split at he
      ·cases he
      ·rename_i hh; exact Classical.not_not.1 hh
   obtain ⟨e1, _, e3⟩ := opens_lg hS ho
   exact ⟨e1, e3⟩
  ·exact h
 rw [if_neg h3, if_neg h3]
 unfold postN
 split
 ·rename_i he
  refine ⟨fun k v hk => ?_, h.rv⟩
  have hr : rightF z.γ d.com (t.slot.toNat : Int) t.val = 0 := by
   unfold postE at he
   split at he
   ·cases he
   ·split at he
    ·cases he
    ·split at he
     ·cases he
     ·rename_i hh; exact Classical.not_not.1 hh
  rw [MM.get_put] at hk
  split at hk
  ·rename_i hks
   obtain rfl := Option.some.inj hk
   rw [hks]; exact hr
  ·exact h.pc k v hk
 ·exact h
def AllR (γ : GP) (ds : List DL) : Prop := ∀ d ∈ ds, DR γ d
theorem AllR.at {γ : GP} {ds : List DL} (h : AllR γ ds) {k : Nat} (hk : k < ds.length) : DR γ (ds.getD k DZ) := h _ (ds_mem hk)
theorem apply_cases {z : ES} {ds : List DL} (hz : EOk z ds) (a : Int) (t : TX) (hv : t.val < 115792089237316195423570985008687907853269984665640564039457584007913129639936) (cx : Value) :
  (applyN z ds a t hv cx = ds ∧ (applyE z ds a t = 1 ∨ applyE z ds a t = 70)) ∨
  (¬ Bad1 z t ∧ whoK t < ds.length ∧ applyE z ds a t = kindE z (ds.getD (whoK t) DZ) t (t.kind - 1).toNat ∧ applyN z ds a t hv cx = ds.set (whoK t) (kindN (ds.getD (whoK t) DZ) t hv (t.kind - 1).toNat (kindE z (ds.getD (whoK t) DZ) t (t.kind - 1).toNat) cx)) := by
 by_cases h1 : Bad1 z t
 ·exact .inl ⟨by rw [applyN, if_pos h1], .inl (by rw [applyE, if_pos h1])⟩
 by_cases h2 : Bad2 z t
 ·exact .inl ⟨by rw [applyN, if_neg h1, if_pos h2], .inl (by rw [applyE, if_neg h1, if_pos h2])⟩
 by_cases h3 : Bad3 z a t
 ·exact .inl ⟨by rw [applyN, if_neg h1, if_neg h2, if_pos h3], .inr (by rw [applyE, if_neg h1, if_neg h2, if_pos h3])⟩
 exact .inr ⟨h1, whoK_lt hz h1 h2, by rw [applyE, if_neg h1, if_neg h2, if_neg h3], by rw [applyN, if_neg h1, if_neg h2, if_neg h3]⟩
theorem AllR.apply {z : ES} {ds : List DL} (hz : EOk z ds) (hS : SmG z.γ) (h : AllR z.γ ds) (a : Int) (t : TX) (hv : t.val < 115792089237316195423570985008687907853269984665640564039457584007913129639936) (cx : Value) : AllR z.γ (applyN z ds a t hv cx) := by
 rcases apply_cases hz a t hv cx with ⟨e, _⟩ | ⟨_, hk, _, e⟩
 ·rw [e]; exact h
 ·rw [e]
  intro d hd
  rcases List.mem_or_eq_of_mem_set hd with hm | rfl
  ·exact h d hm
  ·exact (h.at hk).kind hS t hv _ cx
structure Core (d d' : DL) : Prop where
 com : d'.com = d.com
 acks : d'.acks = d.acks
 opened : d'.opened = d.opened
 pieces : d'.pieces = d.pieces
 rev : d'.rev = d.rev
theorem Core.refl (d : DL) : Core d d := ⟨rfl, rfl, rfl, rfl, rfl⟩
theorem Core.qual {own : List Int} {d d' : DL} (h : Core d d') : QualP own d' ↔ QualP own d := by
 unfold QualP DL.acked DL.opend
 rw [h.com, h.acks, h.opened]
theorem Core.sec {d d' : DL} (h : Core d d') : SecP d' ↔ SecP d := by
 unfold SecP
 rw [h.com, h.pieces, h.rev]
def CoreL (ds ds' : List DL) : Prop := ds'.length = ds.length ∧ ∀ k, Core (ds.getD k DZ) (ds'.getD k DZ)
theorem CoreL.refl (ds : List DL) : CoreL ds ds := ⟨rfl, fun _ => Core.refl _⟩
theorem getD_dset' {ds : List DL} {i k : Nat} {v : DL} : (ds.set i v).getD k DZ = if k = i ∧ i < ds.length then v else ds.getD k DZ := by
 rw [List.getD_eq_getElem?_getD, List.getElem?_set]
 by_cases h : i = k
 ·subst h
  rw [if_pos rfl]
  by_cases h1 : i < ds.length
  ·rw [if_pos h1, if_pos ⟨rfl, h1⟩]; rfl
  ·rw [if_neg h1, if_neg (fun hh => h1 hh.2), List.getD_eq_getElem?_getD, List.getElem?_eq_none (by omega)]
 ·rw [if_neg h, if_neg (fun hh => h hh.1.symm), List.getD_eq_getElem?_getD]
theorem CoreL.set {ds : List DL} {k : Nat} {d : DL} (h : Core (ds.getD k DZ) d) : CoreL ds (ds.set k d) := ⟨List.length_set, fun j => by
 rw [getD_dset']
 split
 ·rename_i hj; rw [hj.1]; exact h
 ·exact Core.refl _⟩
theorem CoreL.quals {own : List Int} {ds ds' : List DL} (h : CoreL ds ds') : ∀ n, qualT own ds' n = qualT own ds n
 | 0 => rfl
 | n + 1 => by
  have ih := CoreL.quals (own := own) h n
  by_cases hq : QualP own (ds.getD n DZ)
  ·rw [qual_y hq, qual_y ((h.2 n).qual.2 hq), ih]
  ·rw [qual_n hq, qual_n (fun x => hq ((h.2 n).qual.1 x)), ih]
theorem CoreL.all {own : List Int} {ds ds' : List DL} (h : CoreL ds ds') : AllB own ds' ↔ AllB own ds := by
 unfold AllB
 rw [h.1, h.quals]
 exact ⟨fun g x hx => (h.2 _).sec.1 (g x hx), fun g x hx => (h.2 _).sec.2 (g x hx)⟩
theorem CoreL.secs {γ : GP} {own : List Int} {ds ds' : List DL} (h : CoreL ds ds') : secL γ own ds' = secL γ own ds := by
 unfold secL
 rw [h.1, h.quals]
 refine List.map_congr_left fun x _ => ?_
 unfold secN
 rw [(h.2 _).com]
theorem CoreL.seed {z : ES} {ds ds' : List DL} (h : CoreL ds ds') : seedR z ds' = seedR z ds := by
 unfold seedR
 rw [h.secs, h.1, h.quals]
 by_cases ha : AllB z.own ds
 ·rw [if_pos ha, if_pos (h.all.2 ha)]
 ·rw [if_neg ha, if_neg (fun x => ha (h.all.1 x))]
set_option linter.unusedSectionVars false
def clipV (size : Nat) (v : Value) : Value :=
 match v with
 | .slice A n _ => .slice (if n = 0 then A else A.map (·.add (0 * size))) n n
 | v => v
section
variable {P : Program} {N : Nat} {C : Beg} {Q : Exit → Act → World → Prop} {E : Env} {Γ H : RL} {ty : TypeId} {ops : Array Oper} {rest : List Oper}
theorem run_sliceBounds3 (w : World) (n c : Nat) (k k' : IntKind) (hc : n ≤ c) : (Instr.sliceBounds true n c none (some (.int k (n : Int))) (some (.int k' (n : Int)))).run P w = .ok (0, n, n) w := by
 simp [Instr.sliceBounds, Instr.sliceBound, asIntOf, hc]
theorem Yv.clip {T e : TypeId} {x hi mx : Operand} {k k' : IntKind} {v : Value} {n size : Nat} {xs : List Value} (hT : P.underlying T = some (.slice e)) (hsz : (P.info? e).map (·.size) = some size) (hx : ev E x = some v)
  (hm : Res.rd v n size xs ∈ Γ) (hhi : ev E hi = some (.int k (n : Int))) (hmx : ev E mx = some (.int k' (n : Int))) : Yv P N C E Γ H (.slice T x none (some hi) (some mx)) ty (clipV size v) := by
 intro dst pos aft gd a w he hs
 obtain ⟨A, c, rfl, hl, hmx', hc, hcell⟩ := Res.rd_ok.1 (hs.sat.gok _ hm)
 obtain ⟨i, hi1, hi2⟩ := Option.map_eq_some_iff.1 hsz
 have hb := run_sliceBounds3 (P := P) w n c k k' (by omega)
 simp [clipV, execOp, he.ev hx, he.ev hhi, he.ev hmx, Instr.sliceAt, Instr.slice, underlying, hT, hb, sizeOf, typeInfo, hi1, hi2]
theorem St.clip {v : Value} {n size : Nat} {xs : List Value} {w : World} (hs : St C Γ H w) (hm : Res.rd v n size xs ∈ Γ) : St C (Res.rd (clipV size v) n size xs :: Γ) H w := by
 obtain ⟨A, c, rfl, hl, hmx, hc, hcell⟩ := Res.rd_ok.1 (hs.sat.gok _ hm)
 refine hs.conv' hm ?_ ?_
 ·intro k hk
  obtain ⟨h1, h2⟩ := Res.rd_fp.1 hk
  refine Res.rd_fp.2 ⟨h1, ?_⟩
  unfold clipV at h2
  cases A with
  | none => dsimp only at h2; split at h2 <;> simp [Value.ownBlock] at h2
  | some ad =>
   dsimp only at h2
   split at h2
   ·exact h2
   ·simp only [Option.map_some, Value.ownBlock, Option.some.injEq] at h2 ⊢
    rw [← h2]
    unfold Addr.add
    split <;> rfl
 ·intro _
  refine Res.rd_ok.2 ⟨_, _, rfl, hl, by omega, by omega, fun j u hj => ?_⟩
  obtain ⟨b, o, hA, hcc⟩ := hcell j u hj
  subst hA
  have hn : ¬ n = 0 := by
   intro e
   have := (List.getElem?_eq_some_iff.1 hj).1
   rw [hl, e] at this
   simp at this
  exact ⟨b, o + 0 * size, by rw [if_neg hn]; simp [add_none], by simpa using hcc⟩
theorem JO.clip {L : List Oper} {v : Value} {n size : Nat} {xs : List Value} (hm : Res.rd v n size xs ∈ Γ) (k : JO P N C ops L Q E (Res.rd (clipV size v) n size xs :: Γ) H) : JO P N C ops L Q E Γ H :=
 fun hq a w he hs => k hq a w he (hs.clip hm)
theorem JR.freeze {T M U : Nat → Bool} {Γ0 H0 : RL} {l : OT} {v : Value} {n : Nat} {e : TypeId} {size : Nat} {xs : List Value} {G : RL} (hp : Pull (Res.row v n e size xs) H G) (h0 : 0 < size) (h : JR P N C ops T M U Γ0 H0 l Q E (Res.rd v n size xs :: Γ) G) : JR P N C ops T M U Γ0 H0 l Q E Γ H :=
 fun hn a w he hs => h hn a w he (hs.freezeRow hp h0)
theorem JR.bundle {T M U : Nat → Bool} {Γ0 H0 : RL} {l : OT} (G : RL) (hg : ∀ r ∈ G, r ∈ Γ) (k : JR P N C ops T M U Γ0 H0 l Q E (Res.all G :: Γ) H) : JR P N C ops T M U Γ0 H0 l Q E Γ H := fun hq a w he hs => k hq a w he (hs.bundle hg)
end
def piB (e : Int × N256) : List Value := pieC e.1 e.2.1
def PQ : Int × N256 := (0, ⟨0, by decide⟩)
instance : FS piB 5 := ⟨fun _ => rfl, fun a v hv => by
 simp only [piB, pieC, wd, List.map_cons, List.map_nil, List.mem_cons, List.not_mem_nil, or_false] at hv
 rcases hv with rfl | rfl | rfl | rfl | rfl <;> rfl⟩
@[simp] theorem piB_len (e : Int × N256) : (piB e).length = 5 := rfl
def pntB (e : Nat × Nat) : List Value := (wd e.1).map u64 ++ (wd e.2).map u64
instance : FS pntB 8 := ⟨fun _ => rfl, fun a v hv => by
 simp only [pntB, wd, List.map_cons, List.map_nil, List.cons_append, List.nil_append, List.mem_cons, List.not_mem_nil, or_false] at hv
 rcases hv with rfl | rfl | rfl | rfl | rfl | rfl | rfl | rfl <;> rfl⟩
@[simp] theorem pntB_len (e : Nat × Nat) : (pntB e).length = 8 := rfl
def pntL (L : List (Int × N256)) : List (Nat × Nat) := L.map fun e => (e.1.toNat + 1, e.2.1)
@[simp] theorem pntL_len (L : List (Int × N256)) : (pntL L).length = L.length := List.length_map _
theorem pntL_1 (L : List (Int × N256)) : (pntL L).map (·.1) = plcL L := by unfold pntL plcL; rw [List.map_map]; rfl
theorem pntL_2 (L : List (Int × N256)) : (pntL L).map (·.2) = valL L := by unfold pntL valL; rw [List.map_map]; rfl
theorem take_snoc {α : Type} {L : List α} {k : Nat} (d : α) (h : k < L.length) : L.take (k + 1) = L.take k ++ [L.getD k d] := by
 rw [List.take_add_one, List.getElem?_eq_getElem h, List.getD_eq_getElem?_getD, List.getElem?_eq_getElem h]; rfl
theorem getD_mem' {α : Type} {L : List α} {k : Nat} (d : α) (h : k < L.length) : L.getD k d ∈ L := by rw [List.getD_eq_getElem?_getD, List.getElem?_eq_getElem h]; exact List.getElem_mem h
theorem cut_nat {v : Value} {X : List Nat} {i : Nat} (h : i ≤ X.length) : Res.rd v (i - 0) 4 (((bks natC X).drop (0 * 4)).take ((i - 0) * 4)) = Res.rd v (X.take i).length 4 (bks natC (X.take i)) := by
 have e : (bks natC X).take (i * 4) = bks natC (X.take i) := by
  conv => lhs; rw [← List.take_append_drop i X, bks_app]
  have hl : (bks natC (X.take i)).length = i * 4 := by rw [bks_len, List.length_take, Nat.min_eq_left h]
  rw [← hl, List.take_left']
  rfl
 rw [Nat.sub_zero, Nat.zero_mul, List.drop_zero, e, List.length_take, Nat.min_eq_left h]
theorem MM.put_new {α β : Type} [DecidableEq α] {m : MM α β} {k : α} (h : m.get k = none) (v : β) : (m.put k v).es.length = m.es.length + 1 := by
 have : (m.put k v).es = m.es ++ [(k, v, m.ck)] := MM.setL_none h
 rw [this, List.length_append]; rfl
structure SlI (L : List (Int × N256)) (k : Nat) (m : MM Int Bool) : Prop where
 len : m.es.length = k
 new : ∀ j, k ≤ j → j < L.length → m.get (L.getD j PQ).1 = none
theorem SlI.nil (L : List (Int × N256)) : SlI L 0 MM.nil := ⟨rfl, fun _ _ _ => rfl⟩
theorem SlI.step {L : List (Int × N256)} {k : Nat} {m : MM Int Bool} (h : SlI L k m) (hn : (L.map (·.1)).Nodup) (hk : k < L.length) : SlI L (k + 1) (m.put (L.getD k PQ).1 true) := by
 refine ⟨by rw [MM.put_new (h.new k (Nat.le_refl _) hk), h.len], fun j h1 h2 => ?_⟩
 rw [MM.get_put, if_neg, h.new j (by omega) h2]
 intro e
 have g : ∀ i (hi : i < L.length), (L.getD i PQ).1 = (L.map (·.1))[i]'(by rw [List.length_map]; exact hi) := fun i hi => by
  rw [List.getElem_map, List.getD_eq_getElem?_getD, List.getElem?_eq_getElem hi]; rfl
 rw [g j h2, g k hk] at e
 have := (List.getElem_inj hn).1 e
 omega
theorem few_ints : ∀ (n : Nat) {l : List Int}, l.Nodup → (∀ x ∈ l, 0 ≤ x ∧ x < (n : Int)) → l.length ≤ n
 | 0, l, _, h => by
  cases l with
  | nil => exact Nat.le_refl _
  | cons x l => have := h x (.head _); omega
 | n + 1, l, hn, h => by
  by_cases hm : (n : Int) ∈ l
  ·have h1 := List.length_erase_of_mem hm
   have h2 := few_ints n (l := l.erase (n : Int)) (hn.erase _) fun x hx => by
    have h3 := (hn.mem_erase_iff).1 hx
    have := h x h3.2
    have := h3.1
    omega
   have := List.length_pos_of_mem hm
   omega
  ·have := few_ints n hn fun x hx => by
    have := h x hx
    have : x ≠ (n : Int) := fun e => hm (e ▸ hx)
    omega
   omega
theorem right_slot {γ : GP} {com : List Nat} {s : Int} {v : Nat} (h : rightF γ com s v = 0) : 0 ≤ s ∧ s < 40 := by
 unfold rightF at h
 split at h
 ·rename_i h1; have := r1_ok h1; omega
 ·rename_i h1; exact absurd h h1
theorem DR.at {γ : GP} {d : DL} (h : DR γ d) (hd : DOk d) {e : Int × N256 × Nat} (he : e ∈ d.pieces.es) : rightF γ d.com e.1 e.2.1.1 = 0 := h.pc e.1 e.2.1 ((MM.get_iff hd.pieces).2 ⟨e.2.2, he⟩)
theorem DR.few {γ : GP} {d : DL} (h : DR γ d) (hd : DOk d) : d.pieces.es.length ≤ 40 := by
 have := few_ints 40 (l := d.pieces.es.map (·.1)) hd.pieces.nk fun x hx => by
  obtain ⟨e, he, rfl⟩ := List.mem_map.1 hx
  exact right_slot (h.at hd he)
 rwa [List.length_map] at this
theorem walk_few {m : MM Int N256} {p : List (Int × N256 × Nat)} (h : m.Walk p) (hm : m.Ok) : p.length ≤ m.es.length := by
 have h1 : p.Nodup := h.nd
 have h2 : ∀ (p es : List (Int × N256 × Nat)), p.Nodup → (∀ e ∈ p, e ∈ es) → p.length ≤ es.length := by
  intro p
  induction p with
  | nil => intro es _ _; exact Nat.zero_le _
  | cons a p ih =>
   intro es hn hs
   have hn' := List.nodup_cons.1 hn
   have ha := hs a (.head _)
   have := ih (es.erase a) hn'.2 fun e he => (List.mem_erase_of_ne (fun ee => hn'.1 (by rw [← ee]; exact he))).2 (hs e (.tail _ he))
   rw [List.length_erase_of_mem ha] at this
   have := List.length_pos_of_mem ha
   simp only [List.length_cons]
   omega
 exact h2 p m.es h1 h.sub
theorem rec_all {γ : GP} {d : DL} (h : DR γ d) (hd : DOk d) {p : List (Int × N256 × Nat)} (hp : p.Perm d.pieces.es) :
  (∀ e ∈ p.map (fun e => (e.1, e.2.1)), rightF γ d.com e.1 e.2.1 = 0) ∧ ((p.map fun e => (e.1, e.2.1)).map (·.1)).Nodup ∧ (p.map fun e => (e.1, e.2.1)).length = d.pieces.es.length := by
 refine ⟨fun e he => ?_, ?_, by rw [List.length_map, hp.length_eq]⟩
 ·obtain ⟨x, hx, rfl⟩ := List.mem_map.1 he
  exact h.at hd (hp.mem_iff.1 hx)
 ·rw [List.map_map]
  exact ((hp.map (·.1)).nodup_iff).2 hd.pieces.nk
theorem whoB_len : ∀ q : List Int, (whoB q).length = 8 * q.length
 | [] => rfl
 | x :: q => by
  have := whoB_len q
  unfold whoB at this ⊢
  rw [List.flatMap_cons, List.length_append, this, digs_len, List.length_cons]; omega
theorem whoB_snoc {q : List Int} {k : Nat} (h : k < q.length) : whoB (q.take k) ++ digs (BitVec.ofInt 64 (q.getD k 0)) 8 = whoB (q.take (k + 1)) := by
 rw [take_snoc 0 h]
 unfold whoB
 rw [List.flatMap_append]
 simp
theorem secL_lt {γ : GP} (hS : SmG γ) (own : List Int) (ds : List DL) : ∀ a ∈ secL γ own ds, a < 115792089237316195423570985008687907853269984665640564039457584007913129639936 := fun a ha => by
 obtain ⟨x, _, rfl⟩ := List.mem_map.1 ha
 exact secN_lt hS _
theorem f126_spec (p m : Nat) (hm : m < 115792089237316195423570985008687907853269984665640564039457584007913129639936) (h1 : 1 < m) (lv : Value) (l : List Nat) (hl : ∀ a ∈ l, a < 115792089237316195423570985008687907853269984665640564039457584007913129639936) :
  Spec Tryz.prog 126 #[(ptr p 0), lv] [Res.mod p m, Res.rd lv l.length 4 (bks natC l)] []
   (fun r Γ' H' => r = (.agg ((wd (sumK m l l.length)).map u64).toArray) ∧ Γ' = [] ∧ H' = []) := by
 refine Spec.of_args Tryz.func126 rfl Tryz.ntmps126 (by simp) fun w => ?_
 refine JC.know (φ := l.length ≤ 9223372036854775807) (fun w hs => by obtain ⟨_, _, _, _, _, _, h⟩ := hs.rdForm (.tail _ (.head _)); unfold maxLen at h; omega) fun hll => ?_
 refine .seq (.region ?_)
 refine .al zero_40 fun b4 => ?_
 refine .nil (.tn (.seq (.region ?_)))
 refine .al zero_40 fun b5 => ?_
 refine .nil (.tn (.seq (.seq (.region ?_))))
 refine .w (.move rfl) (.w (.len Tryz.underlying38 rfl) (.w (.move rfl) ?_))
 refine .nil (.tn (.block ?_))
 refine .lp (ι := Nat) (fun x => x ≤ l.length) (fun T x => (10, it (x : Int)) :: T) (fun T _ => T) (fun T x => Res.cells b5 ((wd (sumK m l x)).map u64) 40 :: T) (fun x => l.length - x) 0 [0, 4, 5, 8, 9, 19] ?_ (fun x hx => ?_) (hH := (by rw [sumK_0]; repeat (first | exact Picks.nil _ | apply Picks.cons | exact Pull.here _ _ | apply Pull.there)))
 ·exact Nat.zero_le _
 obtain ⟨k, hk⟩ : ∃ k, k = x := ⟨_, rfl⟩
 subst hk
 refine .seq (.region ?_)
 refine .w (.bin rfl rfl BinR.lss_i) ?_
 refine .nil (.tn (.seq ?_))
 refine .cn rfl (fun hc1 => ?_) (fun hc1 => ?_)
 ·skip
  refine .skip (.tn (.seq (.block (.seq (.region ?_)))))
  refine .w (.ix Tryz.underlying38 sz_40 rfl rfl) (.w (.as (v' := .agg ((wd (l.getD k 0)).map u64).toArray) (.lda agg_40 rfl (hm := by first | exact AM.own zq5 (by rw [bks_len]; omega) | exact AM.ro zq5 (by rw [bks_len]; omega) | exact AM.ownAt zq5 (by rw [bks_len]; omega) | exact AM.rd zq8 (by rw [bks_len]; omega) | exact AM.row zq7 (by rw [bks_len]; omega))) (congrArg (fun l : List Value => Value.agg l.toArray) (nat_piece (by omega)))) (.al zero_40 fun b7 => ?_))
  refine .sa sz_40 ?_
  refine .nil (.tn (.region ?_))
  refine .w (.move rfl) (.w (.lda agg_40 rfl) (.w (.lda agg_40 rfl) (.c (f175_spec p m hm h1 (sumK m l k) (l.getD k 0) (Nat.lt_trans (sumK_lt (by omega) l k) hm) (nat_lt hl (by omega))) body_175 ?_)))
  refine .sa sz_40 ?_
  refine .nil (.block_normal (.tn (.region ?_)))
  refine .w (.asI ((k + 1 : Nat) : Int) (.bin rfl rfl (BinR.add_i zq3))) (.w (.move rfl) (.nil ?_))
  refine .hd (k + 1) ?_
  exact ⟨by omega, by omega⟩
 ·obtain rfl : k = l.length := by omega
  refine .exit (.then_exit (.then_exit (.block_exit (.tn (.seq (.region ?_))))))
  refine .w (.lda agg_40 rfl) (.sa sz_40 ?_)
  refine .nil (.tn (.ret ?_))
  exact .dn [] [] (res1 rfl (.cl agg_40)) ⟨rfl, rfl, rfl⟩

theorem f218_spec (p m : Nat) (hm : m < 115792089237316195423570985008687907853269984665640564039457584007913129639936) (h1 : 1 < m) (ho : m % 2 = 1) (a : Nat) (ha : a < 115792089237316195423570985008687907853269984665640564039457584007913129639936) (hv : (invN m a).1 = 1) :
  Spec Tryz.prog 218 #[(ptr p 0), (.agg ((wd a).map u64).toArray)] [] [Res.mod p m]
   (fun r Γ' H' => r = .tuple #[(.agg ((wd (invN m a).2).map u64).toArray), it 0] ∧ Γ' = [] ∧ H' = [Res.mod p m]) := by
 refine Spec.of_args Tryz.func218 rfl Tryz.ntmps218 (by simp) fun w => ?_
 refine .seq (.region ?_)
 refine .bx fun b3 => ?_
 refine .al zero_40 fun b4 => ?_
 refine .w (.assign rfl) ?_
 refine .nil (.tn (.seq (.region ?_)))
 refine .w (.as (v' := .agg ((wd 1).map u64).toArray) (.build bld_40 rfl rfl) (by rfl)) (.al zero_40 fun b6 => ?_)
 refine .sa sz_40 ?_
 refine .nil (.tn ?_)
 refine .mt (ι := Nat × Nat) (fun x => True) (fun T x => (7, ptr x.1 0) :: (8, ptr x.2 0) :: T) (fun T _ => T) (fun T x => Res.cells x.1 ((wd m).map u64) 40 :: Res.cells x.2 ((wd (a % m)).map u64) 40 :: T) [0, 4, 5, 6, 9, 10, 11, 12, 21, 22, 23, 24, 25, 26, 27, 28, 29, 30, 31, 32, 33, 34, 35, 36, 37, 38, 39, 40, 41, 42, 43, 44, 45, 46, 47] [] ?_ (fun x hx => ?_)
 ·refine JC.draw (.one 0 (.one 2 (.one 3 (.one 4 (.alt 1 (.alt 5 (.alt 6 (.one 7 (.one 8 (.one 9 .nil))) (.alt 7 (.one 6 (.one 8 (.one 9 .nil))) .nil)) (.alt 6 (.alt 5 (.one 7 (.one 8 (.one 9 .nil))) (.alt 7 (.one 5 (.one 8 (.one 9 .nil))) .nil)) (.alt 7 (.alt 5 (.one 6 (.one 8 (.one 9 .nil))) (.alt 6 (.one 5 (.one 8 (.one 9 .nil))) .nil)) .nil))) (.alt 6 (.alt 1 (.alt 5 (.one 7 (.one 8 (.one 9 .nil))) (.alt 7 (.one 5 (.one 8 (.one 9 .nil))) .nil)) (.alt 7 (.one 1 (.one 5 (.one 8 (.one 9 .nil)))) .nil)) (.alt 7 (.alt 1 (.alt 5 (.one 6 (.one 8 (.one 9 .nil))) (.alt 6 (.one 5 (.one 8 (.one 9 .nil))) .nil)) (.alt 6 (.one 1 (.one 5 (.one 8 (.one 9 .nil)))) .nil)) .nil))))))) (fun i => ([8, 9] : List Nat).contains i) (fun i => ([1, 5, 6, 7, 8, 9] : List Nat).contains i) (fun i => ([0, 2, 4] : List Nat).contains i) mixed (by kernel_rfl) (by decide) (by kernel_rfl) ?_
  refine .uw rfl (.move rfl) (.uw rfl (.move rfl) (.w rfl (.lda agg_40 rfl) (.uw rfl (.as (v' := .agg ((wd 0).map u64).toArray) (.build bld_40 rfl rfl) (by rfl)) ?_)))
  refine JR.alt rfl ?_ ?_
  ·refine .mw rfl (.c (f54_spec p m) body_54) ?_
   rintro _ _ _ ⟨rfl, rfl, rfl⟩
   refine kp ?_
   refine JR.alt rfl ?_ ?_
   ·refine .mw rfl (.c (f175_spec p m hm h1 a 0 ha (by decide)) body_175) ?_
    rintro _ _ _ ⟨rfl, rfl, rfl⟩
    refine kp ?_
    refine JR.alt rfl ?_ ?_
    ·refine .mw rfl (Mv.alloc zero_40) ?_
     rintro _ _ _ ⟨b7, rfl, rfl, rfl⟩
     refine kp ?_
     refine .mw rfl (Mv.alloc zero_40) ?_
     rintro _ _ _ ⟨b8, rfl, rfl, rfl⟩
     refine kp ?_
     refine .mw0 rfl (.sa sz_40) ?_
     rintro _ _ _ ⟨rfl, rfl⟩
     refine kp ?_
     refine .mw0 rfl (.sa sz_40) ?_
     rintro _ _ _ ⟨rfl, rfl⟩
     refine kp ?_
     refine .nil ?_
     refine .hd (b7, b8) ?_
     trivial
    refine JA.alt rfl ?_ ?_
    ·refine .mw rfl (Mv.alloc zero_40) ?_
     rintro _ _ _ ⟨b8, rfl, rfl, rfl⟩
     refine kp ?_
     refine .mw rfl (Mv.alloc zero_40) ?_
     rintro _ _ _ ⟨b7, rfl, rfl, rfl⟩
     refine kp ?_
     refine .mw0 rfl (.sa sz_40) ?_
     rintro _ _ _ ⟨rfl, rfl⟩
     refine kp ?_
     refine .mw0 rfl (.sa sz_40) ?_
     rintro _ _ _ ⟨rfl, rfl⟩
     refine kp ?_
     refine .nil ?_
     refine .hd (b7, b8) ?_
     trivial
    exact JA.nil
   refine JA.alt rfl ?_ ?_
   ·refine .mw rfl (Mv.alloc zero_40) ?_
    rintro _ _ _ ⟨b7, rfl, rfl, rfl⟩
    refine kp ?_
    refine JR.alt rfl ?_ ?_
    ·refine .mw rfl (.c (f175_spec p m hm h1 a 0 ha (by decide)) body_175) ?_
     rintro _ _ _ ⟨rfl, rfl, rfl⟩
     refine kp ?_
     refine .mw rfl (Mv.alloc zero_40) ?_
     rintro _ _ _ ⟨b8, rfl, rfl, rfl⟩
     refine kp ?_
     refine .mw0 rfl (.sa sz_40) ?_
     rintro _ _ _ ⟨rfl, rfl⟩
     refine kp ?_
     refine .mw0 rfl (.sa sz_40) ?_
     rintro _ _ _ ⟨rfl, rfl⟩
     refine kp ?_
     refine .nil ?_
     refine .hd (b7, b8) ?_
     trivial
    refine JA.alt rfl ?_ ?_
    ·refine .mw rfl (Mv.alloc zero_40) ?_
     rintro _ _ _ ⟨b8, rfl, rfl, rfl⟩
     refine kp ?_
     refine .mw rfl (.c (f175_spec p m hm h1 a 0 ha (by decide)) body_175) ?_
     rintro _ _ _ ⟨rfl, rfl, rfl⟩
     refine kp ?_
     refine .mw0 rfl (.sa sz_40) ?_
     rintro _ _ _ ⟨rfl, rfl⟩
     refine kp ?_
     refine .mw0 rfl (.sa sz_40) ?_
     rintro _ _ _ ⟨rfl, rfl⟩
     refine kp ?_
     refine .nil ?_
     refine .hd (b7, b8) ?_
     trivial
    exact JA.nil
   refine JA.alt rfl ?_ ?_
   ·refine .mw rfl (Mv.alloc zero_40) ?_
    rintro _ _ _ ⟨b8, rfl, rfl, rfl⟩
    refine kp ?_
    refine JR.alt rfl ?_ ?_
    ·refine .mw rfl (.c (f175_spec p m hm h1 a 0 ha (by decide)) body_175) ?_
     rintro _ _ _ ⟨rfl, rfl, rfl⟩
     refine kp ?_
     refine .mw rfl (Mv.alloc zero_40) ?_
     rintro _ _ _ ⟨b7, rfl, rfl, rfl⟩
     refine kp ?_
     refine .mw0 rfl (.sa sz_40) ?_
     rintro _ _ _ ⟨rfl, rfl⟩
     refine kp ?_
     refine .mw0 rfl (.sa sz_40) ?_
     rintro _ _ _ ⟨rfl, rfl⟩
     refine kp ?_
     refine .nil ?_
     refine .hd (b7, b8) ?_
     trivial
    refine JA.alt rfl ?_ ?_
    ·refine .mw rfl (Mv.alloc zero_40) ?_
     rintro _ _ _ ⟨b7, rfl, rfl, rfl⟩
     refine kp ?_
     refine .mw rfl (.c (f175_spec p m hm h1 a 0 ha (by decide)) body_175) ?_
     rintro _ _ _ ⟨rfl, rfl, rfl⟩
     refine kp ?_
     refine .mw0 rfl (.sa sz_40) ?_
     rintro _ _ _ ⟨rfl, rfl⟩
     refine kp ?_
     refine .mw0 rfl (.sa sz_40) ?_
     rintro _ _ _ ⟨rfl, rfl⟩
     refine kp ?_
     refine .nil ?_
     refine .hd (b7, b8) ?_
     trivial
    exact JA.nil
   exact JA.nil
  refine JA.alt rfl ?_ ?_
  ·refine .mw rfl (Mv.alloc zero_40) ?_
   rintro _ _ _ ⟨b7, rfl, rfl, rfl⟩
   refine kp ?_
   refine JR.alt rfl ?_ ?_
   ·refine .mw rfl (.c (f54_spec p m) body_54) ?_
    rintro _ _ _ ⟨rfl, rfl, rfl⟩
    refine kp ?_
    refine JR.alt rfl ?_ ?_
    ·refine .mw rfl (.c (f175_spec p m hm h1 a 0 ha (by decide)) body_175) ?_
     rintro _ _ _ ⟨rfl, rfl, rfl⟩
     refine kp ?_
     refine .mw rfl (Mv.alloc zero_40) ?_
     rintro _ _ _ ⟨b8, rfl, rfl, rfl⟩
     refine kp ?_
     refine .mw0 rfl (.sa sz_40) ?_
     rintro _ _ _ ⟨rfl, rfl⟩
     refine kp ?_
     refine .mw0 rfl (.sa sz_40) ?_
     rintro _ _ _ ⟨rfl, rfl⟩
     refine kp ?_
     refine .nil ?_
     refine .hd (b7, b8) ?_
     trivial
    refine JA.alt rfl ?_ ?_
    ·refine .mw rfl (Mv.alloc zero_40) ?_
     rintro _ _ _ ⟨b8, rfl, rfl, rfl⟩
     refine kp ?_
     refine .mw rfl (.c (f175_spec p m hm h1 a 0 ha (by decide)) body_175) ?_
     rintro _ _ _ ⟨rfl, rfl, rfl⟩
     refine kp ?_
     refine .mw0 rfl (.sa sz_40) ?_
     rintro _ _ _ ⟨rfl, rfl⟩
     refine kp ?_
     refine .mw0 rfl (.sa sz_40) ?_
     rintro _ _ _ ⟨rfl, rfl⟩
     refine kp ?_
     refine .nil ?_
     refine .hd (b7, b8) ?_
     trivial
    exact JA.nil
   refine JA.alt rfl ?_ ?_
   ·refine .mw rfl (Mv.alloc zero_40) ?_
    rintro _ _ _ ⟨b8, rfl, rfl, rfl⟩
    refine kp ?_
    refine .mw rfl (.c (f54_spec p m) body_54) ?_
    rintro _ _ _ ⟨rfl, rfl, rfl⟩
    refine kp ?_
    refine .mw rfl (.c (f175_spec p m hm h1 a 0 ha (by decide)) body_175) ?_
    rintro _ _ _ ⟨rfl, rfl, rfl⟩
    refine kp ?_
    refine .mw0 rfl (.sa sz_40) ?_
    rintro _ _ _ ⟨rfl, rfl⟩
    refine kp ?_
    refine .mw0 rfl (.sa sz_40) ?_
    rintro _ _ _ ⟨rfl, rfl⟩
    refine kp ?_
    refine .nil ?_
    refine .hd (b7, b8) ?_
    trivial
   exact JA.nil
  refine JA.alt rfl ?_ ?_
  ·refine .mw rfl (Mv.alloc zero_40) ?_
   rintro _ _ _ ⟨b8, rfl, rfl, rfl⟩
   refine kp ?_
   refine JR.alt rfl ?_ ?_
   ·refine .mw rfl (.c (f54_spec p m) body_54) ?_
    rintro _ _ _ ⟨rfl, rfl, rfl⟩
    refine kp ?_
    refine JR.alt rfl ?_ ?_
    ·refine .mw rfl (.c (f175_spec p m hm h1 a 0 ha (by decide)) body_175) ?_
     rintro _ _ _ ⟨rfl, rfl, rfl⟩
     refine kp ?_
     refine .mw rfl (Mv.alloc zero_40) ?_
     rintro _ _ _ ⟨b7, rfl, rfl, rfl⟩
     refine kp ?_
     refine .mw0 rfl (.sa sz_40) ?_
     rintro _ _ _ ⟨rfl, rfl⟩
     refine kp ?_
     refine .mw0 rfl (.sa sz_40) ?_
     rintro _ _ _ ⟨rfl, rfl⟩
     refine kp ?_
     refine .nil ?_
     refine .hd (b7, b8) ?_
     trivial
    refine JA.alt rfl ?_ ?_
    ·refine .mw rfl (Mv.alloc zero_40) ?_
     rintro _ _ _ ⟨b7, rfl, rfl, rfl⟩
     refine kp ?_
     refine .mw rfl (.c (f175_spec p m hm h1 a 0 ha (by decide)) body_175) ?_
     rintro _ _ _ ⟨rfl, rfl, rfl⟩
     refine kp ?_
     refine .mw0 rfl (.sa sz_40) ?_
     rintro _ _ _ ⟨rfl, rfl⟩
     refine kp ?_
     refine .mw0 rfl (.sa sz_40) ?_
     rintro _ _ _ ⟨rfl, rfl⟩
     refine kp ?_
     refine .nil ?_
     refine .hd (b7, b8) ?_
     trivial
    exact JA.nil
   refine JA.alt rfl ?_ ?_
   ·refine .mw rfl (Mv.alloc zero_40) ?_
    rintro _ _ _ ⟨b7, rfl, rfl, rfl⟩
    refine kp ?_
    refine .mw rfl (.c (f54_spec p m) body_54) ?_
    rintro _ _ _ ⟨rfl, rfl, rfl⟩
    refine kp ?_
    refine .mw rfl (.c (f175_spec p m hm h1 a 0 ha (by decide)) body_175) ?_
    rintro _ _ _ ⟨rfl, rfl, rfl⟩
    refine kp ?_
    refine .mw0 rfl (.sa sz_40) ?_
    rintro _ _ _ ⟨rfl, rfl⟩
    refine kp ?_
    refine .mw0 rfl (.sa sz_40) ?_
    rintro _ _ _ ⟨rfl, rfl⟩
    refine kp ?_
    refine .nil ?_
    refine .hd (b7, b8) ?_
    trivial
   exact JA.nil
  exact JA.nil
 ·obtain ⟨b7, b8⟩ := x
  dsimp only
  refine .mt (ι := Nat × Nat) (fun x => True) (fun T x => (9, ptr x.1 0) :: (10, ptr x.2 0) :: T) (fun T _ => T) (fun T x => Res.cells x.1 ((wd 0).map u64) 40 :: Res.cells x.2 ((wd 1).map u64) 40 :: T) [0, 4, 5, 6, 7, 8, 11, 12, 23, 24, 25, 26, 27, 28, 29, 30, 31, 32, 33, 34, 35, 36, 37, 38, 39, 40, 41, 42, 43, 44, 45, 46, 47] [] ?_ (fun x hx => ?_)
  ·refine JC.draw (.one 0 (.one 1 (.alt 2 (.one 3 (.one 4 (.one 5 .nil))) (.alt 3 (.one 2 (.one 4 (.one 5 .nil))) .nil)))) (fun i => ([5] : List Nat).contains i) (fun i => ([2, 3, 4, 5] : List Nat).contains i) (fun i => ([0] : List Nat).contains i) mixed (by kernel_rfl) (by decide) (by kernel_rfl) ?_
   refine .uw rfl (.as (v' := .agg ((wd 0).map u64).toArray) (.build bld_40 rfl rfl) (by rfl)) (.w rfl (.lda agg_40 rfl) ?_)
   refine JR.alt rfl ?_ ?_
   ·refine .mw rfl (Mv.alloc zero_40) ?_
    rintro _ _ _ ⟨b9, rfl, rfl, rfl⟩
    refine kp ?_
    refine .mw rfl (Mv.alloc zero_40) ?_
    rintro _ _ _ ⟨b10, rfl, rfl, rfl⟩
    refine kp ?_
    refine .mw0 rfl (.sa sz_40) ?_
    rintro _ _ _ ⟨rfl, rfl⟩
    refine kp ?_
    refine .mw0 rfl (.sa sz_40) ?_
    rintro _ _ _ ⟨rfl, rfl⟩
    refine kp ?_
    refine .nil ?_
    refine .hd (b9, b10) ?_
    trivial
   refine JA.alt rfl ?_ ?_
   ·refine .mw rfl (Mv.alloc zero_40) ?_
    rintro _ _ _ ⟨b10, rfl, rfl, rfl⟩
    refine kp ?_
    refine .mw rfl (Mv.alloc zero_40) ?_
    rintro _ _ _ ⟨b9, rfl, rfl, rfl⟩
    refine kp ?_
    refine .mw0 rfl (.sa sz_40) ?_
    rintro _ _ _ ⟨rfl, rfl⟩
    refine kp ?_
    refine .mw0 rfl (.sa sz_40) ?_
    rintro _ _ _ ⟨rfl, rfl⟩
    refine kp ?_
    refine .nil ?_
    refine .hd (b9, b10) ?_
    trivial
   exact JA.nil
  ·obtain ⟨b9, b10⟩ := x
   dsimp only
   refine .seq (.block ?_)
   refine .lp (ι := Nat × Nat × Nat × Nat × Nat) (fun x => x.2.2.1 ≤ x.1 ∧ x.2.1 < 115792089237316195423570985008687907853269984665640564039457584007913129639936 ∧ x.2.2.1 < 115792089237316195423570985008687907853269984665640564039457584007913129639936 ∧ x.2.2.2.1 < 115792089237316195423570985008687907853269984665640564039457584007913129639936 ∧ x.2.2.2.2 < 115792089237316195423570985008687907853269984665640564039457584007913129639936 ∧ euc m x.1 x.2.1 x.2.2.1 x.2.2.2.1 x.2.2.2.2 = invN m a) (fun T _ => T) (fun T _ => T) (fun T x => Res.cells b7 ((wd x.2.1).map u64) 40 :: Res.cells b8 ((wd x.2.2.1).map u64) 40 :: Res.cells b9 ((wd x.2.2.2.1).map u64) 40 :: Res.cells b10 ((wd x.2.2.2.2).map u64) 40 :: T) (fun x => x.2.2.1) (m, m, a % m, 0, 1) [0, 4, 5, 6, 7, 8, 9, 10, 43, 44, 45, 46, 47] ?_ (fun x hx => ?_)
   ·exact ⟨Nat.le_of_lt (Nat.mod_lt _ (by omega)), hm, Nat.lt_trans (Nat.mod_lt _ (by omega)) hm, show 0 < 115792089237316195423570985008687907853269984665640564039457584007913129639936 by decide, show 1 < 115792089237316195423570985008687907853269984665640564039457584007913129639936 by decide, rfl⟩
   obtain ⟨f, l, r, s, t'⟩ := x
   obtain ⟨hf, hl, hr, hs, ht, hE⟩ := hx
   dsimp only at hf hl hr hs ht hE ⊢
   refine .seq (.seq (.region ?_))
   refine .w (.lda agg_40 rfl) (.w (.as (v' := .agg ((wd 0).map u64).toArray) (.build bld_40 rfl rfl) (by rfl)) (.w (.as (v' := .bool (decide (r ≠ 0))) (.bin rfl rfl (neq_nat wd_len' wd_len')) (congrArg Value.bool (nz_b hr))) ?_))
   refine .nil (.tn ?_)
   refine .cn rfl (fun hc1 => ?_) (fun hc1 => ?_)
   ·obtain ⟨g, rfl⟩ : ∃ g, f = g + 1 := ⟨f - 1, by omega⟩
    have hr0 : ¬ r = 0 := by omega
    refine .skip (.tn (.block (.seq (.region ?_))))
    refine .w (.lda agg_40 rfl) (.w (.lda agg_40 rfl) (.c (f113_spec l r hl hr) body_113 ?_))
    refine .w (.move rfl) (.w (.as (v' := .agg ((wd (l / r)).map u64).toArray) (.extract rfl rfl) rfl) (.w (.as (v' := .agg ((wd (l % r)).map u64).toArray) (.extract rfl rfl) (by rw [show remF l r = l % r from if_neg (by omega)]; rfl)) (.w (.as (v' := it 0) (.extract rfl rfl) (congrArg it (if_neg (by omega)))) (.al zero_40 fun b11 => ?_))))
    refine .al zero_40 fun b12 => ?_
    refine .sa sz_40 ?_
    refine .sa sz_40 ?_
    refine .w (.assign rfl) ?_
    refine JO.frz (r := Res.cells b12 ((wd (l % r)).map u64) 40) zq12 ?_
    refine .nil (.tn (.seq ?_))
    refine JC.draw (.one 0 (.one 1 (.one 2 (.one 3 .nil)))) (fun i => ([2, 3] : List Nat).contains i) (fun i => ([2, 3] : List Nat).contains i) (fun i => ([1] : List Nat).contains i) mixed (by kernel_rfl) (by decide) (by kernel_rfl) ?_
    refine .w rfl (.lda agg_40 rfl) (.uw rfl (.lda agg_40 rfl) ?_)
    refine .mw0 rfl (.sa sz_40) ?_
    rintro _ _ _ ⟨rfl, rfl⟩
    refine kp ?_
    refine .mw0 rfl (.sa sz_40) ?_
    rintro _ _ _ ⟨rfl, rfl⟩
    refine kp ?_
    refine .nil (.tn ?_)
    refine JC.draw (.one 0 (.one 1 (.one 2 (.one 3 (.one 4 (.one 5 (.one 6 (.one 7 (.one 8 (.one 9 .nil)))))))))) (fun i => ([8, 9] : List Nat).contains i) (fun i => ([6, 7, 8, 9] : List Nat).contains i) (fun i => ([1, 3] : List Nat).contains i) mixed (by kernel_rfl) (by decide) (by kernel_rfl) ?_
    refine .w rfl (.lda agg_40 rfl) (.uw rfl (.move rfl) (.w rfl (.lda agg_40 rfl) (.uw rfl (.move rfl) (.w rfl (.lda agg_40 rfl) (.w rfl (.lda agg_40 rfl) ?_)))))
    refine .mw rfl (.c (f182_spec p m hm h1 ho (l / r) t' (Nat.lt_of_le_of_lt (Nat.div_le_self l r) hl) ht) body_182) ?_
    rintro _ _ _ ⟨rfl, rfl, rfl⟩
    refine kp ?_
    refine .mw rfl (.c (f201_spec p m hm h1 s (l / r * t' % m) hs (Nat.lt_trans (Nat.mod_lt _ (by omega)) hm)) body_201) ?_
    rintro _ _ _ ⟨rfl, rfl, rfl⟩
    refine kp ?_
    refine .mw0 rfl (.sa sz_40) ?_
    rintro _ _ _ ⟨rfl, rfl⟩
    refine kp ?_
    refine .mw0 rfl (.sa sz_40) ?_
    rintro _ _ _ ⟨rfl, rfl⟩
    refine kp ?_
    refine .nil (.block_normal ?_)
    refine .hd (g, r, l % r, t', minM m s (l / r * t' % m)) ?_
    have hlr := Nat.mod_lt l (show 0 < r by omega)
    exact ⟨⟨by dsimp only; omega, hr, by dsimp only; omega, ht, Nat.lt_trans (Nat.mod_lt _ (by omega)) hm, by dsimp only; rw [← hE, euc_s (by omega) (by omega)]⟩, by dsimp only; omega⟩
   ·obtain rfl : r = 0 := by omega
    rw [euc_0] at hE
    have hl1 : l = 1 := by rw [← hE] at hv; exact hv
    have hs1 : (invN m a).2 = s := by rw [← hE]
    subst hl1
    refine .exit (.then_exit (.then_exit (.block_exit (.tn (.seq (.seq (.region ?_)))))))
    refine .w (.lda agg_40 rfl) (.w (.lda agg_40 rfl) (.w (.as (v' := .bool false) (.bin rfl rfl (neq_nat wd_len' wd_len')) (congrArg Value.bool (by simp))) ?_))
    refine .nil (.tn ?_)
    refine .cf rfl ?_
    refine .skip (.tn (.seq (.region ?_)))
    refine .w (.lda agg_40 rfl) (.sa sz_40 ?_)
    refine .w (.assign rfl) ?_
    refine .nil (.tn (.ret ?_))
    exact .dn [] [Res.mod p m] (res2 rfl (.cl agg_40) (.tmp rfl)) ⟨by rw [hs1], rfl, rfl⟩

set_option maxHeartbeats 4000000 in
theorem f202_spec (p m : Nat) (hm : m < 115792089237316195423570985008687907853269984665640564039457584007913129639936) (h1 : 1 < m) (ho : m % 2 = 1) (hI : InvOk m) (av : Value) (X : List Nat) (hP : Plc m X) (i : Nat) (hi : i < X.length) :
  Spec Tryz.prog 202 #[(ptr p 0), av, (it (i : Int))] [Res.rd av X.length 4 (bks natC X)] [Res.mod p m]
   (fun r Γ' H' => r = .tuple #[(.agg ((wd (wgt m X i)).map u64).toArray), it 0] ∧ Γ' = [] ∧ H' = [Res.mod p m]) := by
 refine Spec.of_args Tryz.func202 rfl Tryz.ntmps202 (by simp) fun w => ?_
 refine JC.know (φ := X.length ≤ 9223372036854775807) (fun w hs => by obtain ⟨_, _, _, _, _, _, h⟩ := hs.rdForm (.head _); unfold maxLen at h; omega) fun hll => ?_
 obtain ⟨hv1, -, hv3⟩ := hI _ (dn_ne h1 hI hP hi) (dnK_lt h1 X i X.length)
 refine .seq (.region ?_)
 refine .al zero_40 fun b6 => ?_
 refine .w (.assign rfl) ?_
 refine .nil (.tn ?_)
 refine .mt (ι := Nat × Nat) (fun x => True) (fun T x => (8, ptr x.1 0) :: (9, ptr x.2 0) :: T) (fun T _ => T) (fun T x => Res.cells x.1 ((wd 1).map u64) 40 :: Res.cells x.2 ((wd 1).map u64) 40 :: T) [0, 1, 2, 6, 7, 10, 11, 12, 13, 16, 17, 18, 19, 20, 21, 22, 23, 24, 25, 26, 27, 28, 29, 30, 31, 32, 33, 34, 35, 36, 37, 38, 39, 40, 41, 42, 43, 44, 45, 46, 47, 48, 49, 50, 51] [] ?_ (fun x hx => ?_)
 ·refine .region (.w (.as (v' := .agg ((wd 1).map u64).toArray) (.build bld_40 rfl rfl) (by rfl)) (.w (.as (v' := .agg ((wd 1).map u64).toArray) (.build bld_40 rfl rfl) (by rfl)) (.al zero_40 fun b8 => ?_)))
  refine .al zero_40 fun b9 => ?_
  refine .sa sz_40 ?_
  refine .sa sz_40 ?_
  refine .nil ?_
  refine .hd (b8, b9) ?_
  trivial
 ·obtain ⟨b8, b9⟩ := x
  dsimp only
  refine .seq (.seq (.region ?_))
  refine .w (.move rfl) (.w (.len Tryz.underlying38 rfl) (.w (.move rfl) ?_))
  refine .nil (.tn (.block ?_))
  refine .lp (ι := Nat) (fun x => x ≤ X.length) (fun T x => (18, it (x : Int)) :: T) (fun T _ => T) (fun T x => Res.cells b8 ((wd (upK m X i x)).map u64) 40 :: Res.cells b9 ((wd (dnK m X i x)).map u64) 40 :: T) (fun x => X.length - x) 0 [0, 1, 2, 6, 7, 8, 9, 12, 13, 16, 17, 41, 42, 43, 44, 45, 46, 47, 48, 49, 50, 51] ?_ (fun x hx => ?_) (hH := (by rw [upK_0, dnK_0]; repeat (first | exact Picks.nil _ | apply Picks.cons | exact Pull.here _ _ | apply Pull.there)))
  ·exact Nat.zero_le _
  obtain ⟨k, hk⟩ : ∃ k, k = x := ⟨_, rfl⟩
  subst hk
  refine .seq (.region ?_)
  refine .w (.bin rfl rfl BinR.lss_i) ?_
  refine .nil (.tn (.seq ?_))
  refine .cn rfl (fun hc1 => ?_) (fun hc1 => ?_)
  ·skip
   refine .skip (.tn (.seq (.block (.seq (.region ?_)))))
   refine .w (.move rfl) (.w (.ix Tryz.underlying38 sz_40 rfl rfl) (.w (.as (v' := .agg ((wd (X.getD k 0)).map u64).toArray) (.lda agg_40 rfl (hm := by first | exact AM.own zq5 (by rw [bks_len]; omega) | exact AM.ro zq5 (by rw [bks_len]; omega) | exact AM.ownAt zq5 (by rw [bks_len]; omega) | exact AM.rd zq8 (by rw [bks_len]; omega) | exact AM.row zq7 (by rw [bks_len]; omega))) (congrArg (fun l : List Value => Value.agg l.toArray) (nat_piece (by omega)))) (.al zero_40 fun b11 => ?_)))
   refine .w (.assign rfl) (.sa sz_40 ?_)
   refine .nil (.tn (.seq (.region ?_)))
   refine .w (.move rfl) (.w (.move rfl) (.w (.asB (k ≠ i) (.bin rfl rfl BinR.neq_i)) ?_))
   refine .nil (.tn ?_)
   refine .cn rfl (fun hc2 => ?_) (fun hc2 => ?_)
   ·have hki : k ≠ i := by omega
    refine JC.draw (.one 0 (.one 1 (.one 2 (.one 4 (.one 5 (.one 6 (.one 7 (.one 8 (.one 9 (.one 10 (.one 11 (.one 3 (.one 12 (.one 13 (.one 14 (.one 15 .nil)))))))))))))))) (fun i => ([13, 14, 15] : List Nat).contains i) (fun i => ([3, 12, 13, 14, 15] : List Nat).contains i) (fun i => ([0, 4, 6, 8, 9, 10] : List Nat).contains i) mixed (by kernel_rfl) (by decide) (by kernel_rfl) ?_
    refine .uw rfl (.move rfl) (.w rfl (.lda agg_40 rfl) (.w rfl (.lda agg_40 rfl) (.uw rfl (.move rfl) (.w rfl (.lda agg_40 rfl) (.uw rfl (.move rfl) (.w rfl (.lda agg_40 rfl) ?_))))))
    refine .uw rfl (.move rfl) (.uw rfl (.move rfl) (.uw rfl (.ix Tryz.underlying38 sz_40 rfl rfl) (.w rfl (.as (v' := .agg ((wd (X.getD i 0)).map u64).toArray) (.lda agg_40 rfl (hm := by first | exact AM.own zq5 (by rw [bks_len]; omega) | exact AM.ro zq5 (by rw [bks_len]; omega) | exact AM.ownAt zq5 (by rw [bks_len]; omega) | exact AM.rd zq8 (by rw [bks_len]; omega) | exact AM.row zq7 (by rw [bks_len]; omega))) (congrArg (fun l : List Value => Value.agg l.toArray) (nat_piece (by omega)))) ?_)))
    refine .mw rfl (.c (f182_spec p m hm h1 ho (upK m X i k) (X.getD k 0) (Nat.lt_trans (upK_lt h1 X i _) hm) (Nat.lt_trans (hP.get (i := k) (by omega)).2 hm)) body_182) ?_
    rintro _ _ _ ⟨rfl, rfl, rfl⟩
    refine kp ?_
    refine .mw rfl (.c (f201_spec p m hm h1 (X.getD k 0) (X.getD i 0) (Nat.lt_trans (hP.get (i := k) (by omega)).2 hm) (Nat.lt_trans (hP.get (i := i) (by omega)).2 hm)) body_201) ?_
    rintro _ _ _ ⟨rfl, rfl, rfl⟩
    refine kp ?_
    refine .mw rfl (.c (f182_spec p m hm h1 ho (dnK m X i k) (minM m (X.getD k 0) (X.getD i 0)) (Nat.lt_trans (dnK_lt h1 X i _) hm) (Nat.lt_trans (Nat.mod_lt _ (by omega)) hm)) body_182) ?_
    rintro _ _ _ ⟨rfl, rfl, rfl⟩
    refine kp ?_
    refine .mw0 rfl (.sa sz_40) ?_
    rintro _ _ _ ⟨rfl, rfl⟩
    refine kp ?_
    refine .mw0 rfl (.sa sz_40) ?_
    rintro _ _ _ ⟨rfl, rfl⟩
    refine kp ?_
    refine .nil (.block_normal (.tn (.region ?_)))
    refine .w (.asI ((k + 1 : Nat) : Int) (.bin rfl rfl (BinR.add_i zq3))) (.w (.move rfl) (.nil ?_))
    rw [← upK_t hki, ← dnK_t hki]
    refine .hd (k + 1) ?_
    exact ⟨by omega, by omega⟩
   ·have hki : k = i := by omega
    refine .skip (.block_normal (.tn (.region ?_)))
    refine .w (.asI ((k + 1 : Nat) : Int) (.bin rfl rfl (BinR.add_i zq3))) (.w (.move rfl) (.nil ?_))
    rw [← upK_f (q := m) (X := X) hki, ← dnK_f (q := m) (X := X) hki]
    refine .hd (k + 1) ?_
    exact ⟨by omega, by omega⟩
  ·obtain rfl : k = X.length := by omega
   refine .exit (.then_exit (.then_exit (.block_exit (.tn (.seq (.region ?_))))))
   refine .w (.move rfl) (.w (.lda agg_40 rfl) (.c (f218_spec p m hm h1 ho (dnK m X i X.length) (Nat.lt_trans (dnK_lt h1 X i _) hm) hv1) body_218 ?_))
   refine .w (.move rfl) (.w (.as (v' := .agg ((wd (invN m (dnK m X i X.length)).2).map u64).toArray) (.extract rfl rfl) rfl) (.w (.as (v' := it 0) (.extract rfl rfl) rfl) (.al zero_40 fun b12 => ?_)))
   refine .sa sz_40 ?_
   refine .w (.assign rfl) ?_
   refine .nil (.tn (.seq (.region ?_)))
   refine .w (.move rfl) (.w (.lda agg_40 rfl) (.w (.lda agg_40 rfl) (.c (f182_spec p m hm h1 ho (upK m X i X.length) (invN m (dnK m X i X.length)).2 (Nat.lt_trans (upK_lt h1 X i _) hm) (Nat.lt_trans hv3 hm)) body_182 ?_)))
   refine .w (.move rfl) (.sa sz_40 ?_)
   refine .w (.assign rfl) ?_
   refine .nil (.tn (.ret ?_))
   exact .dn [] [Res.mod p m] (res2 rfl (.cl agg_40) (.tmp rfl)) ⟨rfl, rfl, rfl⟩
theorem f181_spec (p m : Nat) (hm : m < 115792089237316195423570985008687907853269984665640564039457584007913129639936) (h1 : 1 < m) (ho : m % 2 = 1) (hI : InvOk m) (av : Value) (X : List Nat) (hP : Plc m X) (hX : X.length ≤ 1000) :
  Spec Tryz.prog 181 #[(ptr p 0), av] [Res.rd av X.length 4 (bks natC X)] [Res.mod p m]
   (fun r Γ' H' => ∃ v, r = .tuple #[v, it 0] ∧ Γ' = [] ∧ H' = [Res.row v X.length 40 4 (bks natC (wgtL m X X.length)), Res.mod p m]) := by
 refine Spec.of_args Tryz.func181 rfl Tryz.ntmps181 (by simp) fun w => ?_
 refine JC.know (φ := X.length ≤ 9223372036854775807) (fun w hs => by obtain ⟨_, _, _, _, _, _, h⟩ := hs.rdForm (.head _); unfold maxLen at h; omega) fun hll => ?_
 refine .seq (.region ?_)
 refine .w (.assign rfl) (.w (.assign rfl) ?_)
 refine .nil (.tn (.seq (.seq (.region ?_))))
 refine .w (.move rfl) (.w (.len Tryz.underlying38 rfl) (.w (.move rfl) ?_))
 refine .nil (.tn (.block ?_))
 refine .lp (ι := Nat) (fun x => x ≤ X.length) (fun T x => (16, it (x : Int)) :: T) (fun T _ => T) (fun T _ => T) (fun x => X.length - x) 0 [0, 1, 10, 11, 12, 13, 14, 15, 37, 38, 39, 40, 41, 42, 43, 44, 45, 46, 47, 48, 49, 50, 51, 52, 53, 54, 55, 56, 57] ?_ (fun x hx => ?_)
 ·exact Nat.zero_le _
 obtain ⟨i, hi⟩ : ∃ i, i = x := ⟨_, rfl⟩
 subst hi
 refine .seq (.region ?_)
 refine .w (.bin rfl rfl BinR.lss_i) ?_
 refine .nil (.tn (.seq ?_))
 refine .cn rfl (fun hc1 => ?_) (fun hc1 => ?_)
 ·skip
  refine .skip (.tn (.seq (.block (.seq (.region ?_)))))
  refine .w (.move rfl) (.w (.ix Tryz.underlying38 sz_40 rfl rfl) (.w (.as (v' := .agg ((wd (X.getD i 0)).map u64).toArray) (.lda agg_40 rfl (hm := by first | exact AM.own zq5 (by rw [bks_len]; omega) | exact AM.ro zq5 (by rw [bks_len]; omega) | exact AM.ownAt zq5 (by rw [bks_len]; omega) | exact AM.rd zq8 (by rw [bks_len]; omega) | exact AM.row zq7 (by rw [bks_len]; omega))) (congrArg (fun l : List Value => Value.agg l.toArray) (nat_piece (by omega)))) (.al zero_40 fun b7 => ?_)))
  refine .w (.assign rfl) (.sa sz_40 ?_)
  refine .nil (.tn (.seq (.region ?_)))
  refine .w (.move rfl) (.w (.move rfl) (.ct 0 i Tryz.underlying38 sz_40 (fun v23 => ?_)))
  rw [cut_nat (show i ≤ X.length by omega)]
  have hti : (X.take i).length = i := by rw [List.length_take]; omega
  refine .w (.asI (i : Int) (.len Tryz.underlying38 rfl)) (.w (.move rfl) ?_)
  refine .nil (.tn (.block ?_))
  refine .lp (ι := Nat) (fun x => x ≤ i) (fun T x => (25, it (x : Int)) :: T) (fun T _ => T) (fun T _ => T) (fun x => i - x) 0 [0, 1, 6, 7, 10, 11, 12, 13, 14, 15, 16, 17, 18, 19, 20, 21, 22, 23, 24, 36, 37, 38, 39, 40, 41, 42, 43, 44, 45, 46, 47, 48, 49, 50, 51, 52, 53, 54, 55, 56, 57] ?_ (fun x hx => ?_)
  ·exact Nat.zero_le _
  obtain ⟨k, hk⟩ : ∃ k, k = x := ⟨_, rfl⟩
  subst hk
  refine .seq (.region ?_)
  refine .w (.bin rfl rfl BinR.lss_i) ?_
  refine .nil (.tn (.seq ?_))
  refine .cn rfl (fun hc2 => ?_) (fun hc2 => ?_)
  ·have hxk : (X.take i).getD k 0 ≠ X.getD i 0 ∧ 0 < (X.take i).getD k 0 ∧ (X.take i).getD k 0 < m := by
    rw [List.getD_eq_getElem?_getD, List.getElem?_take_of_lt (by omega), ← List.getD_eq_getElem?_getD]
    exact ⟨hP.at (by omega) (by omega) (by omega), hP.get (by omega)⟩
   refine .skip (.tn (.seq (.block (.seq (.region ?_)))))
   refine .w (.ix Tryz.underlying38 sz_40 rfl rfl) (.w (.as (v' := .agg ((wd ((X.take i).getD k 0)).map u64).toArray) (.lda agg_40 rfl (hm := by first | exact AM.own zq5 (by rw [bks_len, hti]; omega) | exact AM.ro zq5 (by rw [bks_len, hti]; omega) | exact AM.ownAt zq5 (by rw [bks_len, hti]; omega) | exact AM.rd zq8 (by rw [bks_len, hti]; omega) | exact AM.row zq7 (by rw [bks_len, hti]; omega))) (congrArg (fun l : List Value => Value.agg l.toArray) (nat_piece (by omega)))) (.al zero_40 fun b9 => ?_))
   refine .sa sz_40 ?_
   refine .nil (.tn (.seq (.region ?_)))
   refine .w (.move rfl) (.w (.lda agg_40 rfl) (.w (.lda agg_40 rfl) (.c (f201_spec p m hm h1 (X.getD i 0) ((X.take i).getD k 0) (Nat.lt_trans (hP.get (by omega)).2 hm) (Nat.lt_trans hxk.2.2 hm)) body_201 ?_)))
   refine .w (.as (v' := .agg ((wd 0).map u64).toArray) (.build bld_40 rfl rfl) (by rfl)) (.w (.as (v' := .bool false) (.bin rfl rfl (eql_nat wd_len' wd_len')) (congrArg Value.bool (decide_eq_false (by rw [wd_eq (show minM m (X.getD i 0) ((X.take i).getD k 0) < 115792089237316195423570985008687907853269984665640564039457584007913129639936 from Nat.lt_trans (Nat.mod_lt _ (by omega)) hm) (by decide)]; exact minM_nz (by omega) (hP.get (by omega)).2 hxk.2.2 (Ne.symm hxk.1))))) ?_)
   refine .nil (.tn ?_)
   refine .cf rfl ?_
   refine .skip (.block_normal (.tn (.region ?_)))
   refine .w (.asI ((k + 1 : Nat) : Int) (.bin rfl rfl (BinR.add_i zq3))) (.w (.move rfl) (.nil ?_))
   refine .hd (k + 1) ?_
   exact ⟨by omega, by omega⟩
  ·skip
   refine .exit (.then_exit (.then_exit (.block_exit (.block_normal (.tn (.region ?_))))))
   refine .w (.asI ((i + 1 : Nat) : Int) (.bin rfl rfl (BinR.add_i zq3))) (.w (.move rfl) (.nil ?_))
   refine .hd (i + 1) ?_
   exact ⟨by omega, by omega⟩
 ·skip
  refine .exit (.then_exit (.then_exit (.block_exit (.tn (.seq (.region ?_))))))
  refine JO.nilRow 40 4 ?_
  refine .w (.assign rfl) ?_
  refine .nil (.tn (.seq (.seq (.region ?_))))
  refine .w (.move rfl) (.w (.len Tryz.underlying38 rfl) (.w (.move rfl) ?_))
  refine .nil (.tn (.block ?_))
  refine .lp (ι := Nat × Value) (fun x => x.1 ≤ X.length) (fun T x => (39, it (x.1 : Int)) :: (10, x.2) :: T) (fun T _ => T) (fun T x => Res.row x.2 x.1 40 4 (bks natC (wgtL m X x.1)) :: T) (fun x => X.length - x.1) (0, .slice none 0 0) [0, 1, 38, 57] ?_ (fun x hx => ?_)
  ·exact Nat.zero_le _
  obtain ⟨j, vo⟩ := x
  have hj := hx
  dsimp only at hj ⊢
  refine .seq (.region ?_)
  refine .w (.bin rfl rfl BinR.lss_i) ?_
  refine .nil (.tn (.seq ?_))
  refine .cn rfl (fun hc4 => ?_) (fun hc4 => ?_)
  ·skip
   refine .skip (.tn (.seq (.block (.seq (.region ?_)))))
   refine .w (.move rfl) (.w (.assign rfl) ?_)
   refine .nil (.tn (.seq (.region ?_)))
   refine .w (.move rfl) (.w (.move rfl) (.w (.move rfl) (.c (f202_spec p m hm h1 ho hI av X hP j (by omega)) body_202 ?_)))
   refine .w (.move rfl) (.w (.as (v' := .agg ((wd (wgt m X j)).map u64).toArray) (.extract rfl rfl) rfl) (.w (.as (v' := it 0) (.extract rfl rfl) rfl) (.al zero_40 fun b12 => ?_)))
   refine .sa sz_40 ?_
   refine .w (.assign rfl) ?_
   refine .nil (.tn (.seq (.seq (.region ?_))))
   refine .w (.move rfl) (.w (.as (v' := .bool false) (.bin rfl rfl BinR.neq_i) rfl) ?_)
   refine .nil (.tn ?_)
   refine .cf rfl ?_
   refine .skip (.tn (.region ?_))
   refine .w (.move rfl) (.w (.as (v' := .agg ((wd (wgt m X j)).map u64).toArray) (.lda agg_40 rfl) (by rfl)) ?_)
   refine .ls Tryz.underlying38 info_40 (fun v54 => ?_) (hsz := (by intro v hv; obtain rfl := List.mem_singleton.1 hv; rfl))
   refine .ap Tryz.underlying38 info_40 (fun v55 => ?_) (hone := (by intro v hv; rw [show (List.flatMap (fun v => v.cells.toList) [Value.agg (List.map u64 (wd (wgt m X j))).toArray]) = natC (wgt m X j) from by simp [natC]] at hv; exact FS.one (f := natC) _ _ hv))
   rw [show bks natC (wgtL m X j) ++ List.flatMap (fun v => v.cells.toList) [Value.agg (List.map u64 (wd (wgt m X j))).toArray] = bks natC (wgtL m X (j + 1)) from by rw [wgtL_succ, bks_app]; rfl]
   refine .w (.assign rfl) ?_
   refine .nil (.block_normal (.tn (.region ?_)))
   refine .w (.asI ((j + 1 : Nat) : Int) (.bin rfl rfl (BinR.add_i zq3))) (.w (.move rfl) (.nil ?_))
   refine .hd (j + 1, v55) ?_
   exact ⟨by dsimp only; omega, by dsimp only; omega⟩
  ·obtain rfl : j = X.length := by omega
   refine .exit (.then_exit (.then_exit (.block_exit (.tn (.seq (.region ?_))))))
   refine .w (.move rfl) (.w (.assign rfl) (.w (.assign rfl) ?_))
   refine .nil (.tn (.ret ?_))
   exact .dn [] [Res.row vo X.length 40 4 (bks natC (wgtL m X X.length)), Res.mod p m] (res2 rfl (.tmp rfl) (.tmp rfl)) ⟨vo, rfl, rfl, rfl⟩

theorem f129_spec (p m : Nat) (hm : m < 115792089237316195423570985008687907853269984665640564039457584007913129639936) (h1 : 1 < m) (ho : m % 2 = 1) (hI : InvOk m) (lv : Value) (Z : List (Nat × Nat)) (hP : Plc m (Z.map (·.1))) (hY : ∀ e ∈ Z, e.2 < 115792089237316195423570985008687907853269984665640564039457584007913129639936) (hZ : Z.length ≤ 1000) :
  Spec Tryz.prog 129 #[(ptr p 0), lv] [Res.rd lv Z.length 8 (bks pntB Z)] [Res.mod p m]
   (fun r Γ' H' => r = .tuple #[(.agg ((wd (azV m (Z.map (·.1)) (Z.map (·.2)))).map u64).toArray), it 0] ∧ Γ' = [] ∧ H' = [Res.mod p m]) := by
 refine Spec.of_args Tryz.func129 rfl Tryz.ntmps129 (by simp) fun w => ?_
 refine JC.know (φ := Z.length ≤ 9223372036854775807) (fun w hs => by obtain ⟨_, _, _, _, _, _, h⟩ := hs.rdForm (.head _); unfold maxLen at h; omega) fun hll => ?_
 have hxl : (Z.map (·.1)).length = Z.length := List.length_map _
 refine .seq (.region ?_)
 refine .al zero_40 fun b4 => ?_
 refine .w (.assign rfl) ?_
 refine .nil (.tn (.seq (.region ?_)))
 refine JO.nilRow 40 4 ?_
 refine .w (.assign rfl) ?_
 refine JO.nilRow 40 4 ?_
 refine .w (.assign rfl) ?_
 refine .nil (.tn (.seq (.seq (.region ?_))))
 refine .w (.move rfl) (.w (.len Tryz.underlying196 rfl) (.w (.move rfl) ?_))
 refine .nil (.tn (.block ?_))
 refine .lp (ι := Nat × Value) (fun x => x.1 ≤ Z.length) (fun T x => (16, it (x.1 : Int)) :: (6, x.2) :: T) (fun T _ => T) (fun T x => Res.row x.2 x.1 40 4 (bks natC ((Z.take x.1).map (·.1))) :: T) (fun x => Z.length - x.1) (0, .slice none 0 0) [0, 1, 4, 5, 7, 10, 11, 12, 13, 14, 15, 26, 27, 28, 29, 30, 31, 32, 33, 34, 35, 36, 37, 38, 39, 40, 41, 42, 43, 44, 45, 46, 47, 48, 49, 50, 51, 52, 53, 54, 55, 56, 57] ?_ (fun x hx => ?_)
 ·exact Nat.zero_le _
 obtain ⟨j, vo⟩ := x
 have hj := hx
 dsimp only at hj ⊢
 refine .seq (.region ?_)
 refine .w (.bin rfl rfl BinR.lss_i) ?_
 refine .nil (.tn (.seq ?_))
 refine .cn rfl (fun hc1 => ?_) (fun hc1 => ?_)
 ·skip
  refine .skip (.tn (.seq (.block (.seq (.region ?_)))))
  refine .w (.ix Tryz.underlying196 sz_199 rfl rfl) (.w (.as (v' := .agg (pntB (Z.getD j (0, 0))).toArray) (.lda agg_199 rfl (hm := by first | exact AM.own zq5 (by rw [bks_len]; omega) | exact AM.ro zq5 (by rw [bks_len]; omega) | exact AM.ownAt zq5 (by rw [bks_len]; omega) | exact AM.rd zq8 (by rw [bks_len]; omega) | exact AM.row zq7 (by rw [bks_len]; omega))) (congrArg (fun l : List Value => Value.agg l.toArray) (bks_piece (f := pntB) (0, 0) (by omega)))) (.al zero_199 fun b9 => ?_))
  refine .sa sz_199 ?_ (h1 := (FS.one (f := pntB) _))
  refine JO.frz (r := Res.cells b9 (pntB (Z.getD j (0, 0))) 199) zq12 ?_
  refine .nil (.tn (.region ?_))
  refine .w (.move rfl) (.w (.fieldAddr fa_199_0 rfl) (.w (.as (v' := .agg ((wd (Z.getD j (0, 0)).1).map u64).toArray) (.lda agg_40 rfl) (by rfl)) ?_))
  refine .ls Tryz.underlying38 info_40 (fun v23 => ?_) (hsz := (by intro v hv; obtain rfl := List.mem_singleton.1 hv; rfl))
  refine .ap Tryz.underlying38 info_40 (fun v24 => ?_) (hone := (by intro v hv; rw [show (List.flatMap (fun v => v.cells.toList) [Value.agg (List.map u64 (wd (Z.getD j (0, 0)).1)).toArray]) = natC (Z.getD j (0, 0)).1 from by simp [natC]] at hv; exact FS.one (f := natC) _ _ hv))
  rw [show bks natC ((Z.take j).map (·.1)) ++ List.flatMap (fun v => v.cells.toList) [Value.agg (List.map u64 (wd (Z.getD j (0, 0)).1)).toArray] = bks natC ((Z.take (j + 1)).map (·.1)) from by rw [take_snoc (0, 0) (show j < Z.length by omega), List.map_append, bks_app]; rfl]
  refine .w (.assign rfl) ?_
  refine .nil (.block_normal (.tn (.region ?_)))
  refine .w (.asI ((j + 1 : Nat) : Int) (.bin rfl rfl (BinR.add_i zq3))) (.w (.move rfl) (.nil ?_))
  refine .hd (j + 1, v24) ?_
  exact ⟨by dsimp only; omega, by dsimp only; omega⟩
 ·obtain rfl : j = Z.length := by omega
  rw [show Res.row vo Z.length 40 4 (bks natC ((Z.take Z.length).map (·.1))) = Res.row vo (Z.map (·.1)).length 40 4 (bks natC (Z.map (·.1))) from by rw [List.take_length, List.length_map]]
  refine .exit (.then_exit (.then_exit (.block_exit (.tn (.seq (.region ?_))))))
  refine .w (.move rfl) (.w (.move rfl) (.cb (f181_spec p m hm h1 ho hI vo (Z.map (·.1)) hP (by omega)) body_181 ?_ (h0 := by rintro _ _ _ ⟨_, _, h, _⟩; exact h)))
  rintro _ _ ⟨vw, rfl, _, rfl⟩
  refine .ap ?_
  rw [hxl]
  refine JO.freeze (v := vw) zq12 (by decide) ?_
  refine .w (.move rfl) (.w (.as (v' := vw) (.extract rfl rfl) rfl) (.w (.as (v' := it 0) (.extract rfl rfl) rfl) (.w (.assign rfl) (.w (.assign rfl) ?_))))
  refine .nil (.tn (.seq (.seq (.region ?_))))
  refine .w (.move rfl) (.w (.as (v' := .bool false) (.bin rfl rfl BinR.neq_i) rfl) ?_)
  refine .nil (.tn ?_)
  refine .cf rfl ?_
  refine .skip (.tn (.seq (.seq (.region ?_))))
  refine .w (.move rfl) (.w (.len Tryz.underlying196 rfl) (.w (.move rfl) ?_))
  refine .nil (.tn (.block ?_))
  refine .lp (ι := Nat × Value) (fun x => x.1 ≤ Z.length) (fun T x => (38, it (x.1 : Int)) :: (7, x.2) :: T) (fun T _ => T) (fun T x => Res.row x.2 x.1 40 4 (bks natC (prtL m (Z.map (·.1)) (Z.map (·.2)) x.1)) :: T) (fun x => Z.length - x.1) (0, .slice none 0 0) [0, 4, 5, 10, 36, 37, 55, 56, 57] ?_ (fun x hx => ?_)
  ·exact Nat.zero_le _
  obtain ⟨k, vp⟩ := x
  have hk := hx
  dsimp only at hk ⊢
  refine .seq (.region ?_)
  refine .w (.bin rfl rfl BinR.lss_i) ?_
  refine .nil (.tn (.seq ?_))
  refine .cn rfl (fun hc3 => ?_) (fun hc3 => ?_)
  ·have hyk : (Z.getD k (0, 0)).2 < 115792089237316195423570985008687907853269984665640564039457584007913129639936 := hY _ (getD_mem' _ (by omega))
   refine .skip (.tn (.seq (.block (.seq (.region ?_)))))
   refine .w (.move rfl) (.w (.ix Tryz.underlying196 sz_199 rfl rfl) (.w (.as (v' := .agg (pntB (Z.getD k (0, 0))).toArray) (.lda agg_199 rfl (hm := by first | exact AM.own zq5 (by rw [bks_len]; omega) | exact AM.ro zq5 (by rw [bks_len]; omega) | exact AM.ownAt zq5 (by rw [bks_len]; omega) | exact AM.rd zq8 (by rw [bks_len]; omega) | exact AM.row zq7 (by rw [bks_len]; omega))) (congrArg (fun l : List Value => Value.agg l.toArray) (bks_piece (f := pntB) (0, 0) (by omega)))) (.al zero_199 fun b13 => ?_)))
   refine .w (.assign rfl) (.sa sz_199 ?_ (h1 := (FS.one (f := pntB) _)))
   refine JO.frz (r := Res.cells b13 (pntB (Z.getD k (0, 0))) 199) zq12 ?_
   refine .nil (.tn ?_)
   refine JC.draw (.one 0 (.one 1 (.one 2 (.one 3 (.one 4 (.one 5 (.one 6 (.one 7 (.one 8 (.one 9 (.one 10 (.one 11 .nil)))))))))))) (fun i => ([8, 9, 10] : List Nat).contains i) (fun i => ([8, 9, 10] : List Nat).contains i) (fun i => ([0, 1, 2, 3, 4, 5, 6, 7, 11] : List Nat).contains i) mixed (by kernel_rfl) (by decide) (by kernel_rfl) ?_
   refine .uw rfl (.move rfl) (.uw rfl (.move rfl) (.uw rfl (.fieldAddr fa_199_1 rfl) (.uw rfl (.as (v' := .agg ((wd (Z.getD k (0, 0)).2).map u64).toArray) (.lda agg_40 rfl) (by rfl)) (.uw rfl (.move rfl) (.uw rfl (.move rfl) (.uw rfl (.ix Tryz.underlying38 sz_40 rfl rfl) ?_))))))
   refine .uw rfl (.as (v' := .agg ((wd (wgt m (Z.map (·.1)) k)).map u64).toArray) (.lda agg_40 rfl (hm := by first | exact AM.own zq5 (by rw [bks_len, wgtL_len]; omega) | exact AM.ro zq5 (by rw [bks_len, wgtL_len]; omega) | exact AM.ownAt zq5 (by rw [bks_len, wgtL_len]; omega) | exact AM.rd zq8 (by rw [bks_len, wgtL_len]; omega) | exact AM.row zq7 (by rw [bks_len, wgtL_len]; omega))) (congrArg (fun l : List Value => Value.agg l.toArray) (by rw [nat_piece (by rw [wgtL_len]; omega), wgtL_get (by omega)]; rfl))) ?_
   refine .mw rfl (.c (f182_spec p m hm h1 ho (Z.getD k (0, 0)).2 (wgt m (Z.map (·.1)) k) hyk (Nat.lt_trans (wgt_lt (by omega) _ _) hm)) body_182) ?_
   rintro _ _ _ ⟨rfl, rfl, rfl⟩
   refine kp ?_
   refine .mw rfl (.ls Tryz.underlying38 info_40 (hsz := (by intro v hv; obtain rfl := List.mem_singleton.1 hv; rfl))) ?_
   rintro v52 _ _ ⟨rfl, rfl⟩
   refine kp ?_
   refine .mw rfl (.ap Tryz.underlying38 info_40 (hone := (by intro v hv; rw [show (List.flatMap (fun v => v.cells.toList) [Value.agg (List.map u64 (wd ((Z.getD k (0, 0)).2 * wgt m (Z.map (·.1)) k % m))).toArray]) = natC ((Z.getD k (0, 0)).2 * wgt m (Z.map (·.1)) k % m) from by simp [natC]] at hv; exact FS.one (f := natC) _ _ hv))) ?_
   rintro v53 _ _ ⟨rfl, rfl⟩
   refine kp ?_
   rw [show bks natC (prtL m (Z.map (·.1)) (Z.map (·.2)) k) ++ List.flatMap (fun v => v.cells.toList) [Value.agg (List.map u64 (wd ((Z.getD k (0, 0)).2 * wgt m (Z.map (·.1)) k % m))).toArray] = bks natC (prtL m (Z.map (·.1)) (Z.map (·.2)) (k + 1)) from by rw [prtL_succ, show (Z.map (·.2)).getD k 0 = (Z.getD k (0, 0)).2 from by rw [List.getD_eq_getElem?_getD, List.getD_eq_getElem?_getD, List.getElem?_map]; cases Z[k]? <;> rfl, bks_app]; rfl]
   refine .uw rfl (.assign rfl) ?_
   refine .nil (.block_normal (.tn (.region ?_)))
   refine .w (.asI ((k + 1 : Nat) : Int) (.bin rfl rfl (BinR.add_i zq3))) (.w (.move rfl) (.nil ?_))
   refine .hd (k + 1, v53) ?_
   exact ⟨by dsimp only; omega, by dsimp only; omega⟩
  ·obtain rfl : k = Z.length := by omega
   rw [show Res.row vp Z.length 40 4 (bks natC (prtL m (Z.map (·.1)) (Z.map (·.2)) Z.length)) = Res.row vp (prtL m (Z.map (·.1)) (Z.map (·.2)) Z.length).length 40 4 (bks natC (prtL m (Z.map (·.1)) (Z.map (·.2)) Z.length)) from by rw [prtL_len]]
   refine .exit (.then_exit (.then_exit (.block_exit (.tn (.seq (.region ?_))))))
   refine .w (.move rfl) (.w (.move rfl) ?_)
   refine .c (f126_spec p m hm h1 vp (prtL m (Z.map (·.1)) (Z.map (·.2)) Z.length) (fun a ha => by
 obtain ⟨i, _, rfl⟩ := List.mem_map.1 ha
 exact Nat.lt_trans (Nat.mod_lt _ (by omega)) hm)) body_126 ?_
   rw [prtL_len]
   refine .sa sz_40 ?_
   refine .w (.assign rfl) ?_
   refine .nil (.tn (.ret ?_))
   exact .dn [] [Res.mod p m] (res2 rfl (.cl agg_40) (.tmp rfl)) ⟨by rw [azV, hxl], rfl, rfl⟩

theorem f130_spec (lv : Value) (n : Nat) (xs : List Value) :
  Spec Tryz.prog 130 #[lv] [Res.rd lv n 8 xs] []
   (fun r Γ' H' => True ∧ Γ' = [Res.rd r n 8 xs] ∧ H' = []) := by
 refine Spec.of_args Tryz.func130 rfl Tryz.ntmps130 (by simp) fun w => ?_
 refine JC.know (φ := n ≤ 9223372036854775807) (fun w hs => by obtain ⟨_, _, _, _, _, _, h⟩ := hs.rdForm (.head _); unfold maxLen at h; omega) fun hll => ?_
 refine .seq (.region ?_)
 refine .w (.assign rfl) ?_
 refine .nil (.tn (.seq (.region ?_)))
 refine .w (.move rfl) (.w (.move rfl) (.w (.len Tryz.underlying196 rfl) (.w (.move rfl) (.w (.len Tryz.underlying196 rfl) (.w (.clip (size := 8) Tryz.underlying196 sz_199 rfl (.head _) rfl rfl) ?_)))))
 refine JO.clip (.head _) ?_
 refine .w (.assign rfl) ?_
 refine .nil (.tn (.ret ?_))
 exact .dn [Res.rd (clipV 8 lv) n 8 xs] [] (res1 rfl (.tmp rfl)) ⟨trivial, rfl, rfl⟩
end Go.Proofs.YtmhiapebljfebaaGreatDoor
