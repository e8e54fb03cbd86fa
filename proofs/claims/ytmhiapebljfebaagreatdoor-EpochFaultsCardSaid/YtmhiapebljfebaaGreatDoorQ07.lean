/- Texts of ours, gathered: PC PD SA SB. -/
import Derived.Test.YtmhiapebljfebaaGreatDoorQ06
/- Walks: lists of proofs; members; powers. -/
namespace Go.Proofs.YtmhiapebljfebaaGreatDoor
open Go.RowKit
set_option maxRecDepth 100000
set_option linter.unusedVariables false
set_option linter.unusedSimpArgs false
theorem f157_spec (bm : Nat) (M : MM N256 Int) (n : Nat) (hn : n < 115792089237316195423570985008687907853269984665640564039457584007913129639936) :
    Spec Tryz.prog 157 #[(.map (some bm)), (.agg ((wd n).map u64).toArray)] [mpR bm ntV itK M] []
      (fun r Γ' H' => r = (.bool (M.get ⟨n, hn⟩).isSome) ∧ Γ' = [] ∧ H' = []) := by
  refine Spec.of_args Tryz.func157 rfl Tryz.ntmps157 (by simp) fun w => ?_
  refine .seq (.region ?_)
  refine .bx fun b3 => ?_
  refine .w (.assign rfl) ?_
  refine .nil (.tn (.seq (.region ?_)))
  refine .w (.move rfl) ?_
  refine .w (.lda agg_40 rfl) ?_
  refine .w (.lk2 (⟨n, hn⟩) Tryz.underlying224 mkey_224 zf_3) ?_
  refine .w (.move rfl) ?_
  refine .w (.extract rfl rfl) ?_
  refine .w (.as (v' := .bool (M.get ⟨n, hn⟩).isSome) (.extract rfl rfl) rfl) ?_
  refine .w (.assign rfl) ?_
  refine .w (.assign rfl) ?_
  refine .nil (.tn (.seq (.region ?_)))
  refine .w (.move rfl) ?_
  refine .w (.assign rfl) ?_
  refine .nil (.tn (.ret ?_))
  exact .dn [] [] (res1 rfl (.tmp rfl)) ⟨rfl, rfl, rfl⟩

theorem f156_spec (lv : Value) (L : List PF) (hg : GoodL (L.map PF.pd)) :
    Spec Tryz.prog 156 #[lv] [Res.var 3 ((wd 2).map u64), Res.rd lv L.length 9 (bks prfC L), Res.all (facRes L)] []
      (fun r Γ' H' => ∃ bm M, KI L L.length M ∧ r = .tuple #[.map (some bm), it 0] ∧ Γ' = [] ∧ H' = [mpR bm ntV itK M]) := by
  refine Spec.of_args Tryz.func156 rfl Tryz.ntmps156 (by simp) fun w => ?_
  have hl40 : L.length ≤ 40 := by have := hg.1; simpa using this
  refine .seq (.region ?_)
  refine .w (.assign rfl) ?_
  refine .w (.assign rfl) ?_
  refine .nil (.tn (.seq (.region ?_)))
  refine .mm ntV itK fun b10 => ?_
  refine .w (.as (v' := ntV n2) (.lda agg_40 rfl) (by rfl)) ?_
  refine .ins n2 (0 : Int) Tryz.underlying224 mkey_224 ?_
  refine .w (.move rfl) ?_
  refine .w (.assign rfl) ?_
  refine .nil (.tn (.seq (.seq (.region ?_))))
  refine .w (.move rfl) ?_
  refine .w (.len Tryz.underlying56 rfl) ?_
  refine .w (.bin rfl rfl BinR.gtr_i) ?_
  refine .nil (.tn ?_)
  refine .cn rfl (fun hc1 => ?_) (fun hc1 => ?_)
  · exfalso; omega
  · refine .skip (.tn (.seq (.seq (.region ?_))))
    refine .w (.move rfl) ?_
    refine .w (.len Tryz.underlying56 rfl) ?_
    refine .w (.move rfl) ?_
    refine .nil (.tn (.block ?_))
    refine .lp (ι := Nat × MM N256 Int) (fun x => x.1 ≤ L.length ∧ KI L x.1 x.2) (fun T x => (19, it (x.1 : Int)) :: T) (fun T _ => T) (fun T x => mpR b10 ntV itK x.2 :: T) (fun x => L.length - x.1) (0, MM.nil.put n2 0) [4, 17, 18, 50] ?_ (fun x hx => ?_)
    · exact ⟨Nat.zero_le _, ki_0 L⟩
    obtain ⟨k, M⟩ := x
    obtain ⟨hk, hK⟩ := hx
    dsimp only at hk hK ⊢
    refine .seq (.region ?_)
    refine .w (.bin rfl rfl BinR.lss_i) ?_
    refine .nil (.tn (.seq ?_))
    refine .cn rfl (fun hc2 => ?_) (fun hc2 => ?_)
    · have hst := good_step hg (k := k) (by omega)
      have hfs := fun x hx => good_fac hg (k := k) (x := x) (by omega) hx
      have h40 : (L.getD k PZ).fs.length ≤ 40 := hst.1
      refine .skip (.tn (.seq (.block (.seq (.region ?_)))))
      refine .w (.move rfl) ?_
      refine .w (.ix Tryz.underlying56 sz_120 rfl rfl) ?_
      refine .w (.as (v' := .agg (prfC (L.getD k PZ)).toArray) (.lda agg_120 rfl (hm := by first | exact AM.own (by (repeat (first | exact List.Mem.head _ | refine List.Mem.tail _ ?_)); first | done | fail) (by rw [bks_len]; omega) | exact AM.ro (by (repeat (first | exact List.Mem.head _ | refine List.Mem.tail _ ?_)); first | done | fail) (by rw [bks_len]; omega) | exact AM.ownAt (by (repeat (first | exact List.Mem.head _ | refine List.Mem.tail _ ?_)); first | done | fail) (by rw [bks_len]; omega) | exact AM.rd zqc (by rw [bks_len]; omega) | exact AM.row zqa (by rw [bks_len]; omega))) (congrArg (fun l : List Value => Value.agg l.toArray) (bks_piece (f := prfC) PZ (by omega)))) ?_
      refine JO.open (r := Res.rd (L.getD k PZ).v (L.getD k PZ).fs.length 5 (bks facC (L.getD k PZ).fs)) zqa (fac_res (by omega)) ?_
      refine .al zero_120 fun b6 => ?_
      refine .w (.assign rfl) ?_
      refine .sa sz_120 ?_ (h1 := (FS.one (f := prfC) _))
      refine .nil (.tn (.seq (.seq (.region ?_))))
      refine .w (.fieldAddr fa_120_2 rfl) ?_
      refine .w (.ld one_118 rfl) ?_
      refine .w (.len Tryz.underlying118 rfl) ?_
      refine .w (.move rfl) ?_
      refine .nil (.tn (.block ?_))
      refine .lp (ι := Nat) (fun x => x ≤ (L.getD k PZ).fs.length) (fun T x => (27, it (x : Int)) :: T) (fun T _ => T) (fun T _ => T) (fun x => (L.getD k PZ).fs.length - x) 0 [4, 5, 6, 9, 17, 18, 19, 20, 21, 22, 23, 24, 25, 26, 38, 39, 40, 41, 42, 43, 44, 45, 46, 47, 48, 49, 50] ?_ (fun x hx => ?_)
      · exact Nat.zero_le _
      obtain ⟨i, hi⟩ : ∃ i, i = x := ⟨_, rfl⟩
      subst hi
      refine .seq (.region ?_)
      refine .w (.bin rfl rfl BinR.lss_i) ?_
      refine .nil (.tn (.seq ?_))
      refine .cn rfl (fun hc3 => ?_) (fun hc3 => ?_)
      · have hf := hst.2.1 _ (fz_mem (l := (L.getD k PZ).fs) (k := i) (by omega))
        have hkn : (M.get ⟨((L.getD k PZ).fs.getD i FZ).1, hf.1.2.2.2⟩).isSome = true := (hK _).2 (hfs _ (fz_mem (by omega)))
        refine .skip (.tn (.seq (.block (.seq (.region ?_)))))
        refine .w (.ix Tryz.underlying118 sz_117 rfl rfl) ?_
        refine .w (.as (v' := .agg (facC ((L.getD k PZ).fs.getD i FZ)).toArray) (.lda agg_117 rfl (hm := by first | exact AM.own (by (repeat (first | exact List.Mem.head _ | refine List.Mem.tail _ ?_)); first | done | fail) (by rw [bks_len]; omega) | exact AM.ro (by (repeat (first | exact List.Mem.head _ | refine List.Mem.tail _ ?_)); first | done | fail) (by rw [bks_len]; omega) | exact AM.ownAt (by (repeat (first | exact List.Mem.head _ | refine List.Mem.tail _ ?_)); first | done | fail) (by rw [bks_len]; omega) | exact AM.rd zqc (by rw [bks_len]; omega) | exact AM.row zqa (by rw [bks_len]; omega))) (congrArg (fun l : List Value => Value.agg l.toArray) (bks_piece (f := facC) FZ (by omega)))) ?_
        refine .al zero_117 fun b8 => ?_
        refine .sa sz_117 ?_ (h1 := (FS.one (f := facC) _))
        refine .nil (.tn (.seq (.region ?_)))
        refine .w (.move rfl) ?_
        refine .w (.fieldAddr fa_117_0 rfl) ?_
        refine .w (.as (v' := .agg ((wd ((L.getD k PZ).fs.getD i FZ).1).map u64).toArray) (.lda agg_40 rfl) (by rfl)) ?_
        refine .c (f157_spec b10 M ((L.getD k PZ).fs.getD i FZ).1 hf.1.2.2.2) body_157 ?_
        refine .w (.as (v' := .bool false) (.not rfl) (congrArg Value.bool (by rw [hkn]; rfl))) ?_
        refine .nil (.tn ?_)
        refine .cf rfl ?_
        refine .skip (.block_normal (.tn (.region ?_)))
        refine .w (.asI ((i + 1 : Nat) : Int) (.bin rfl rfl (BinR.add_i zqf))) ?_
        refine .w (.move rfl) ?_
        refine .nil ?_
        refine .hd (i + 1) ?_
        exact ⟨by omega, by omega⟩
      · skip
        refine .exit (.then_exit (.then_exit (.block_exit (.tn (.seq (.seq (.region ?_)))))))
        refine .w (.as (v' := .agg (prfC (L.getD k PZ)).toArray) (.lda agg_120 rfl) (by rfl)) ?_
        refine .c (f188_spec (L.getD k PZ) hst) body_188 ?_
        refine .w (.assign rfl) ?_
        refine .nil (.tn (.seq (.region ?_)))
        refine .w (.move rfl) ?_
        refine .w (.as (v' := .bool false) (.bin rfl rfl BinR.neq_i) rfl) ?_
        refine .nil (.tn ?_)
        refine .cf rfl ?_
        refine .skip (.tn (.region ?_))
        refine .w (.move rfl) ?_
        refine .w (.fieldAddr fa_120_0 rfl) ?_
        refine .w (.as (v' := .agg ((wd (L.getD k PZ).N).map u64).toArray) (.lda agg_40 rfl) (by rfl)) ?_
        refine .w (.move rfl) ?_
        refine .w (.bin rfl rfl (BinR.add_i zqf)) ?_
        refine .mu (⟨(L.getD k PZ).N, hst.2.2.2.2.2.1⟩) ((k : Int) + 1) Tryz.underlying224 mkey_224 ?_
        refine .nil (.block_normal (.tn (.region ?_)))
        refine .w (.asI ((k + 1 : Nat) : Int) (.bin rfl rfl (BinR.add_i zqf))) ?_
        refine .w (.move rfl) ?_
        refine .nil ?_
        refine .hd (k + 1, M.put ⟨(L.getD k PZ).N, hst.2.2.2.2.2.1⟩ ((k : Int) + 1)) ?_
        exact ⟨⟨by dsimp only; omega, ki_succ hK _ _⟩, by dsimp only; omega⟩
    · obtain rfl : k = L.length := by omega
      refine .exit (.then_exit (.then_exit (.block_exit (.tn (.seq (.region ?_))))))
      refine .w (.move rfl) ?_
      refine .w (.assign rfl) ?_
      refine .w (.assign rfl) ?_
      refine .nil (.tn (.ret ?_))
      exact .dn [] [mpR b10 ntV itK M] (res2 rfl (.tmp rfl) (.tmp rfl)) ⟨b10, M, hK, rfl, rfl, rfl⟩

theorem f109_spec (lv : Value) (L : List PF) (hg : GoodL (L.map PF.pd)) (n : Nat) (hn : n < 115792089237316195423570985008687907853269984665640564039457584007913129639936) (hin : ∃ j, j < L.length ∧ (L.getD j PZ).N = n) :
    Spec Tryz.prog 109 #[lv, (.agg ((wd n).map u64).toArray)] [Res.var 3 ((wd 2).map u64), Res.rd lv L.length 9 (bks prfC L), Res.all (facRes L)] []
      (fun r Γ' H' => r = (it 0) ∧ Γ' = [] ∧ H' = []) := by
  refine Spec.of_args Tryz.func109 rfl Tryz.ntmps109 (by simp) fun w => ?_
  refine .seq (.region ?_)
  refine .bx fun b3 => ?_
  refine .w (.assign rfl) ?_
  refine .nil (.tn (.seq (.region ?_)))
  refine .w (.move rfl) ?_
  refine .cb (f156_spec lv L hg) body_156 ?_ (h0 := by rintro _ _ _ ⟨_, _, _, _, h, _⟩; exact h)
  rintro _ _ ⟨bm, M, hK, rfl, _, rfl⟩
  refine .ap ?_
  have hkn : (M.get ⟨n, hn⟩).isSome = true := (hK _).2 (.inr hin)
  refine .w (.move rfl) ?_
  refine .w (.extract rfl rfl) ?_
  refine .w (.as (v' := it 0) (.extract rfl rfl) rfl) ?_
  refine .w (.assign rfl) ?_
  refine .w (.assign rfl) ?_
  refine .nil (.tn (.seq (.seq (.region ?_))))
  refine .w (.move rfl) ?_
  refine .w (.as (v' := .bool true) (.bin rfl rfl BinR.eql_i) rfl) ?_
  refine .w (.move rfl) ?_
  refine .gt (g := 14) rfl rfl rfl ?_
  refine .w (.move rfl) ?_
  refine .gt (g := 14) rfl rfl rfl ?_
  refine .w (.lda agg_40 rfl) ?_
  refine .gt (g := 14) rfl rfl rfl ?_
  refine .c (f157_spec bm M n hn) body_157 ?_
  refine .gt (g := 14) rfl rfl rfl ?_
  refine .w (.as (v' := .bool false) (.not rfl) (congrArg Value.bool (by rw [hkn]; rfl))) ?_
  refine .w (.pick1 rfl rfl rfl) ?_
  refine .nil (.tn ?_)
  refine .cf rfl ?_
  refine .skip (.tn (.seq (.region ?_)))
  refine .w (.move rfl) ?_
  refine .w (.assign rfl) ?_
  refine .nil (.tn (.ret ?_))
  exact .dn [] [] (res1 rfl (.tmp rfl)) ⟨rfl, rfl, rfl⟩

theorem f53_spec (γ : GP) :
    Spec Tryz.prog 53 #[(ptr γ.g 0)] [cGrp γ] []
      (fun r Γ' H' => r = (ptr γ.pq 0) ∧ Γ' = [] ∧ H' = []) := by
  refine Spec.of_args Tryz.func53 rfl Tryz.ntmps53 (by simp) fun w => ?_
  refine .seq (.region ?_)
  refine .w (.assign rfl) ?_
  refine .nil (.tn (.seq (.region ?_)))
  refine .w (.move rfl) ?_
  refine .w (.nilCheck rfl) ?_
  refine .w (.fieldAddr fa_165_2 rfl) ?_
  refine .w (.as (v' := ptr γ.pq 0) (.ld one_91 rfl) (by rfl)) ?_
  refine .w (.assign rfl) ?_
  refine .nil (.tn (.ret ?_))
  exact .dn [] [] (res1 rfl (.tmp rfl)) ⟨rfl, rfl, rfl⟩

theorem f120_spec (γ : GP) (hγ : GOk γ) (a : Nat) (ha : a < 115792089237316195423570985008687907853269984665640564039457584007913129639936) :
    Spec Tryz.prog 120 #[(ptr γ.g 0), (.agg ((wd a).map u64).toArray)] [Res.var 2 ((wd 1).map u64)] [cGrp γ, Res.mod γ.px γ.P, Res.mod γ.pq γ.Q]
      (fun r Γ' H' => r = .bool (memB γ a) ∧ Γ' = [] ∧ H' = [cGrp γ, Res.mod γ.px γ.P, Res.mod γ.pq γ.Q]) := by
  refine Spec.of_args Tryz.func120 rfl Tryz.ntmps120 (by simp) fun w => ?_
  refine .seq (.region ?_)
  refine .bx fun b3 => ?_
  refine .w (.assign rfl) ?_
  refine .nil (.tn (.seq ?_))
  refine JC.draw (.one 0 (.one 1 (.one 2 (.one 3 (.one 4 (.one 5 (.one 6 (.one 7 (.one 8 (.one 9 (.one 10 (.one 11 (.one 12 (.one 13 (.one 14 (.one 15 (.one 16 (.one 17 (.one 18 (.one 19 (.one 20 (.one 21 (.one 22 (.one 23 (.one 25 (.one 24 (.one 26 (.one 27 (.one 28 .nil))))))))))))))))))))))))))))) (fun i => ([] : List Nat).contains i) (fun i => ([10, 24] : List Nat).contains i) (fun i => ([1, 2, 3, 5, 6, 7, 8, 11, 12, 13, 14, 15, 16, 19, 20, 21, 22, 26, 27, 28] : List Nat).contains i) mixed (by kernel_rfl) (by decide) (by kernel_rfl) ?_
  refine .w rfl (.lda agg_40 rfl) ?_
  refine .uw rfl (.as (v' := .agg ((wd 0).map u64).toArray) (.build bld_40 rfl rfl) rfl) ?_
  refine .uw rfl (.as (v' := .bool (decide (a ≠ 0))) (.bin rfl rfl (neq_nat wd_len' wd_len')) (congrArg Value.bool (nz_b ha))) ?_
  refine .uw rfl (.move rfl) ?_
  refine JR.gsplit (g := 7) rfl (fun hg7 => ?_) (fun hg7 => ?_)
  · have hg7' := hg7
    try simp only [decide_eq_true_eq, decide_eq_false_iff_not, Bool.not_eq_true', Bool.not_eq_false', ne_eq, Decidable.not_not, Bool.not_eq_true, Bool.and_eq_true, Bool.or_eq_true, BitVec.reduceToNat] at hg7'
    refine JR.vgt (g := 8) rfl rfl rfl rfl rfl hg7 (.lda agg_40 rfl) (by decide) ?_
    refine JR.ugt (g := 8) rfl rfl rfl rfl rfl hg7 (.move rfl) (by decide) ?_
    refine JR.ugt (g := 8) rfl rfl rfl rfl rfl hg7 (.nilCheck rfl) (by decide) ?_
    refine JR.ugt (g := 8) rfl rfl rfl rfl rfl hg7 (.fieldAddr fa_165_0 rfl) (by decide) ?_
    refine JR.ugt (g := 8) rfl rfl rfl rfl rfl hg7 (.fieldAddr fa_55_0 rfl) (by decide) ?_
    refine JR.vgt (g := 8) rfl rfl rfl rfl rfl hg7 (.as (v' := .agg ((wd γ.P).map u64).toArray) (.lda agg_40 rfl) (by rfl)) (by decide) ?_
    refine JR.mgt (g := 8) rfl rfl rfl rfl hg7 (.c (f52_spec a γ.P ha hγ.pb) body_52) (by decide) ?_
    rintro _ _ _ ⟨rfl, rfl, rfl⟩
    refine kp ?_
    refine JR.ugt (g := 8) rfl rfl rfl rfl rfl hg7 (.as (v' := .bool (decide (a < γ.P))) (.bin rfl rfl BinR.lss_i) (congrArg Value.bool (decide_eq_decide.2 (cmp_lt _ _)))) (by decide) ?_
    refine JR.u rfl rfl rfl (Yv.pick1 rfl hg7 rfl) (by decide) ?_
    refine .uw rfl (.move rfl) ?_
    refine JR.gsplit (g := 17) rfl (fun hg17 => ?_) (fun hg17 => ?_)
    · have hg17' := hg17
      try simp only [decide_eq_true_eq, decide_eq_false_iff_not, Bool.not_eq_true', Bool.not_eq_false', ne_eq, Decidable.not_not, Bool.not_eq_true, Bool.and_eq_true, Bool.or_eq_true, BitVec.reduceToNat] at hg17'
      refine JR.ugt (g := 18) rfl rfl rfl rfl rfl hg17 (.move rfl) (by decide) ?_
      refine JR.ugt (g := 18) rfl rfl rfl rfl rfl hg17 (.nilCheck rfl) (by decide) ?_
      refine JR.ugt (g := 18) rfl rfl rfl rfl rfl hg17 (.fieldAddr fa_165_1 rfl) (by decide) ?_
      refine JR.vgt (g := 18) rfl rfl rfl rfl rfl hg17 (.as (v' := ptr γ.px 0) (.ld one_91 rfl) (by rfl)) (by decide) ?_
      refine JR.vgt (g := 18) rfl rfl rfl rfl rfl hg17 (.lda agg_40 rfl) (by decide) ?_
      refine JR.ugt (g := 18) rfl rfl rfl rfl rfl hg17 (.move rfl) (by decide) ?_
      refine JR.ugt (g := 18) rfl rfl rfl rfl rfl hg17 (.nilCheck rfl) (by decide) ?_
      refine JR.ugt (g := 18) rfl rfl rfl rfl rfl hg17 (.fieldAddr fa_165_0 rfl) (by decide) ?_
      refine JR.ugt (g := 18) rfl rfl rfl rfl rfl hg17 (.fieldAddr fa_55_1 rfl) (by decide) ?_
      refine JR.vgt (g := 18) rfl rfl rfl rfl rfl hg17 (.as (v' := .agg ((wd γ.Q).map u64).toArray) (.lda agg_40 rfl) (by rfl)) (by decide) ?_
      refine JR.vgt (g := 18) rfl rfl rfl rfl rfl hg17 (.as (v' := .agg ((wd 1).map u64).toArray) (.lda agg_40 rfl) (by rfl)) (by decide) ?_
      refine JR.mgt (g := 18) rfl rfl rfl rfl hg17 (.c (f111_spec γ.px γ.P hγ.pb hγ.p1 hγ.po a γ.Q ha hγ.qb) body_111) (by decide) ?_
      rintro _ _ _ ⟨rfl, rfl, rfl⟩
      refine kp ?_
      refine JR.ugt (g := 18) rfl rfl rfl rfl rfl hg17 (.as (v' := .bool (decide (a ^ γ.Q % γ.P = 1))) (.bin rfl rfl (eql_nat wd_len' wd_len')) (congrArg Value.bool (decide_eq_decide.2 (by rw [wd_eq (Nat.lt_trans (Nat.mod_lt _ (by have := hγ.p1; omega)) hγ.pb) (by decide)])))) (by decide) ?_
      refine JR.u rfl rfl rfl (Yv.pick1 rfl hg17 rfl) (by decide) ?_
      refine .uw rfl (.assign rfl) ?_
      refine .nil (.tn (.ret ?_))
      exact .dn [] [cGrp γ, Res.mod γ.px γ.P, Res.mod γ.pq γ.Q] (res1 rfl (.tmp rfl)) ⟨congrArg Value.bool (by unfold memB; first | (simp_all; done) | (simp_all; omega)), rfl, rfl⟩
    · have hg17' := hg17
      try simp only [decide_eq_true_eq, decide_eq_false_iff_not, Bool.not_eq_true', Bool.not_eq_false', ne_eq, Decidable.not_not, Bool.not_eq_true, Bool.and_eq_true, Bool.or_eq_true, BitVec.reduceToNat] at hg17'
      refine JR.gf (g := 18) rfl rfl rfl rfl hg17 (by decide) ?_
      refine JR.gf (g := 18) rfl rfl rfl rfl hg17 (by decide) ?_
      refine JR.gf (g := 18) rfl rfl rfl rfl hg17 (by decide) ?_
      refine JR.gf (g := 18) rfl rfl rfl rfl hg17 (by decide) ?_
      refine JR.gf (g := 18) rfl rfl rfl rfl hg17 (by decide) ?_
      refine JR.gf (g := 18) rfl rfl rfl rfl hg17 (by decide) ?_
      refine JR.gf (g := 18) rfl rfl rfl rfl hg17 (by decide) ?_
      refine JR.gf (g := 18) rfl rfl rfl rfl hg17 (by decide) ?_
      refine JR.gf (g := 18) rfl rfl rfl rfl hg17 (by decide) ?_
      refine JR.gf (g := 18) rfl rfl rfl rfl hg17 (by decide) ?_
      refine JR.gf (g := 18) rfl rfl rfl rfl hg17 (by decide) ?_
      refine JR.gfm (g := 18) rfl rfl rfl rfl hg17 (by decide) ?_ ?_
      · exact ⟨Subs.sub zqe, .inr (St.keep zqe zqd)⟩
      refine JR.gf (g := 18) rfl rfl rfl rfl hg17 (by decide) ?_
      refine JR.u rfl rfl rfl (Yv.pick0 rfl hg17 rfl) (by decide) ?_
      refine .uw rfl (.assign rfl) ?_
      refine .nil (.tn (.ret ?_))
      exact .dn [] [cGrp γ, Res.mod γ.px γ.P, Res.mod γ.pq γ.Q] (res1 rfl (.tmp rfl)) ⟨congrArg Value.bool (by unfold memB; first | (simp_all; done) | (simp_all; omega)), rfl, rfl⟩
  · have hg7' := hg7
    try simp only [decide_eq_true_eq, decide_eq_false_iff_not, Bool.not_eq_true', Bool.not_eq_false', ne_eq, Decidable.not_not, Bool.not_eq_true, Bool.and_eq_true, Bool.or_eq_true, BitVec.reduceToNat] at hg7'
    refine JR.gf (g := 8) rfl rfl rfl rfl hg7 (by decide) ?_
    refine JR.gf (g := 8) rfl rfl rfl rfl hg7 (by decide) ?_
    refine JR.gf (g := 8) rfl rfl rfl rfl hg7 (by decide) ?_
    refine JR.gf (g := 8) rfl rfl rfl rfl hg7 (by decide) ?_
    refine JR.gf (g := 8) rfl rfl rfl rfl hg7 (by decide) ?_
    refine JR.gf (g := 8) rfl rfl rfl rfl hg7 (by decide) ?_
    refine JR.gfm (g := 8) rfl rfl rfl rfl hg7 (by decide) ?_ ?_
    · exact ⟨Subs.sub zqe, .inr (St.keep zqe zqd)⟩
    refine JR.gf (g := 8) rfl rfl rfl rfl hg7 (by decide) ?_
    refine JR.u rfl rfl rfl (Yv.pick0 rfl hg7 rfl) (by decide) ?_
    refine .uw rfl (.move rfl) ?_
    refine JR.gf (g := 18) rfl rfl rfl rfl rfl (by decide) ?_
    refine JR.gf (g := 18) rfl rfl rfl rfl rfl (by decide) ?_
    refine JR.gf (g := 18) rfl rfl rfl rfl rfl (by decide) ?_
    refine JR.gf (g := 18) rfl rfl rfl rfl rfl (by decide) ?_
    refine JR.gf (g := 18) rfl rfl rfl rfl rfl (by decide) ?_
    refine JR.gf (g := 18) rfl rfl rfl rfl rfl (by decide) ?_
    refine JR.gf (g := 18) rfl rfl rfl rfl rfl (by decide) ?_
    refine JR.gf (g := 18) rfl rfl rfl rfl rfl (by decide) ?_
    refine JR.gf (g := 18) rfl rfl rfl rfl rfl (by decide) ?_
    refine JR.gf (g := 18) rfl rfl rfl rfl rfl (by decide) ?_
    refine JR.gf (g := 18) rfl rfl rfl rfl rfl (by decide) ?_
    refine JR.gfm (g := 18) rfl rfl rfl rfl rfl (by decide) ?_ ?_
    · exact ⟨Subs.sub zqe, .inr (St.keep zqe zqd)⟩
    refine JR.gf (g := 18) rfl rfl rfl rfl rfl (by decide) ?_
    refine JR.u rfl rfl rfl (Yv.pick0 rfl rfl rfl) (by decide) ?_
    refine .uw rfl (.assign rfl) ?_
    refine .nil (.tn (.ret ?_))
    exact .dn [] [cGrp γ, Res.mod γ.px γ.P, Res.mod γ.pq γ.Q] (res1 rfl (.tmp rfl)) ⟨congrArg Value.bool (by unfold memB; first | (simp_all; done) | (simp_all; omega)), rfl, rfl⟩

theorem f170_spec (γ : GP) (hγ : GOk γ) (n : Nat) (hn : n < 115792089237316195423570985008687907853269984665640564039457584007913129639936) :
    Spec Tryz.prog 170 #[(ptr γ.g 0), (.agg ((wd n).map u64).toArray)] [] [cGrp γ, Res.mod γ.px γ.P, Res.mod γ.pq γ.Q]
      (fun r Γ' H' => r = (.agg ((wd (γ.G ^ n % γ.P)).map u64).toArray) ∧ Γ' = [] ∧ H' = [cGrp γ, Res.mod γ.px γ.P, Res.mod γ.pq γ.Q]) := by
  refine Spec.of_args Tryz.func170 rfl Tryz.ntmps170 (by simp) fun w => ?_
  refine .seq (.region ?_)
  refine .bx fun b3 => ?_
  refine .al zero_40 fun b4 => ?_
  refine .nil (.tn (.seq ?_))
  refine JC.draw (.one 0 (.one 1 (.one 2 (.one 3 (.one 4 (.one 5 (.one 6 (.one 7 (.one 8 (.one 9 (.one 10 (.one 11 .nil)))))))))))) (fun i => ([10, 11] : List Nat).contains i) (fun i => ([10, 11] : List Nat).contains i) (fun i => ([0, 1, 2, 4, 5, 6, 7] : List Nat).contains i) mixed (by kernel_rfl) (by decide) (by kernel_rfl) ?_
  refine .uw rfl (.move rfl) ?_
  refine .uw rfl (.nilCheck rfl) ?_
  refine .uw rfl (.fieldAddr fa_165_1 rfl) ?_
  refine .w rfl (.as (v' := ptr γ.px 0) (.ld one_91 rfl) (by rfl)) ?_
  refine .uw rfl (.move rfl) ?_
  refine .uw rfl (.nilCheck rfl) ?_
  refine .uw rfl (.fieldAddr fa_165_0 rfl) ?_
  refine .uw rfl (.fieldAddr fa_55_2 rfl) ?_
  refine .w rfl (.as (v' := .agg ((wd γ.G).map u64).toArray) (.lda agg_40 rfl) (by rfl)) ?_
  refine .w rfl (.lda agg_40 rfl) ?_
  refine .mw rfl (.c (f111_spec γ.px γ.P hγ.pb hγ.p1 hγ.po γ.G n hγ.gb hn) body_111) ?_
  rintro _ _ _ ⟨rfl, rfl, rfl⟩
  refine kp ?_
  first | refine .mw0 rfl (.sa sz_40) ?_ | refine .mw0 rfl (.so sz_40) ?_ | refine .mw0 rfl (.sr sz_40) ?_
  rintro _ _ _ ⟨rfl, rfl⟩
  refine kp ?_
  refine .nil (.tn (.ret ?_))
  exact .dn [] [cGrp γ, Res.mod γ.px γ.P, Res.mod γ.pq γ.Q] (res1 rfl (.cl agg_40)) ⟨rfl, rfl, rfl⟩

theorem f200_spec (lv nv : Value) (l n : List Nat) (hn : n.length = l.length) (hl : ∀ a ∈ l, a < 115792089237316195423570985008687907853269984665640564039457584007913129639936) (hb : ∀ a ∈ n, a < 115792089237316195423570985008687907853269984665640564039457584007913129639936) (p m : Nat) (hm : m < 115792089237316195423570985008687907853269984665640564039457584007913129639936) (h1 : 1 < m) (ho : m % 2 = 1) :
    Spec Tryz.prog 200 #[lv, nv, (.func (.func 111) #[ptr p 0] #[]), (.func (.func 182) #[ptr p 0] #[])] [Res.rd lv l.length 4 (bks natC l), Res.rd nv n.length 4 (bks natC n), Res.var 2 ((wd 1).map u64)] [Res.mod p m]
      (fun r Γ' H' => r = (.agg ((wd (mulK m l n l.length)).map u64).toArray) ∧ Γ' = [] ∧ H' = [Res.mod p m]) := by
  refine Spec.of_args Tryz.func200 rfl Tryz.ntmps200 (by simp) fun w => ?_
  refine JC.know (φ := l.length ≤ 9223372036854775807) (fun w hs => by obtain ⟨_, _, _, _, _, _, h⟩ := hs.rdForm (.head _); unfold maxLen at h; omega) fun hll => ?_
  refine .seq (.region ?_)
  refine .al zero_40 fun b8 => ?_
  refine .nil (.tn (.seq (.region ?_)))
  refine .w (.as (v' := .agg ((wd 1).map u64).toArray) (.lda agg_40 rfl) (by rfl)) ?_
  refine .al zero_40 fun b9 => ?_
  first | refine .sa sz_40 ?_ | refine .so sz_40 ?_ | refine .sr sz_40 ?_
  refine .nil (.tn (.seq (.seq (.region ?_))))
  refine .w (.move rfl) ?_
  refine .w (.len Tryz.underlying38 rfl) ?_
  refine .w (.move rfl) ?_
  refine .nil (.tn (.block ?_))
  refine .lp (ι := Nat) (fun x => x ≤ l.length) (fun T x => (15, it (x : Int)) :: T) (fun T _ => T) (fun T x => Res.cells b9 ((wd (mulK m l n x)).map u64) 40 :: T) (fun x => l.length - x) 0 [1, 2, 3, 8, 9, 13, 14, 31] ?_ (fun x hx => ?_)
  · exact Nat.zero_le _
  obtain ⟨k, hk⟩ : ∃ k, k = x := ⟨_, rfl⟩
  subst hk
  refine .seq (.region ?_)
  refine .w (.bin rfl rfl BinR.lss_i) ?_
  refine .nil (.tn (.seq ?_))
  refine .cn rfl (fun hc1 => ?_) (fun hc1 => ?_)
  · skip
    refine .skip (.tn (.seq (.block (.seq (.region ?_)))))
    refine .w (.move rfl) ?_
    refine .w (.ix Tryz.underlying38 sz_40 rfl rfl) ?_
    refine .w (.as (v' := .agg ((wd (l.getD k 0)).map u64).toArray) (.lda agg_40 rfl (hm := by first | exact AM.own (by (repeat (first | exact List.Mem.head _ | refine List.Mem.tail _ ?_)); first | done | fail) (by rw [bks_len]; omega) | exact AM.ro (by (repeat (first | exact List.Mem.head _ | refine List.Mem.tail _ ?_)); first | done | fail) (by rw [bks_len]; omega) | exact AM.ownAt (by (repeat (first | exact List.Mem.head _ | refine List.Mem.tail _ ?_)); first | done | fail) (by rw [bks_len]; omega) | exact AM.rd zqc (by rw [bks_len]; omega) | exact AM.row zqa (by rw [bks_len]; omega))) (congrArg (fun l : List Value => Value.agg l.toArray) (nat_piece (by omega)))) ?_
    refine .al zero_40 fun b11 => ?_
    refine .w (.assign rfl) ?_
    first | refine .sa sz_40 ?_ | refine .so sz_40 ?_ | refine .sr sz_40 ?_
    refine .nil (.tn ?_)
    refine JC.draw (.one 0 (.one 1 (.one 2 (.one 3 (.one 4 (.one 5 (.one 6 (.one 7 (.one 8 (.one 9 (.one 10 .nil))))))))))) (fun i => ([9, 10] : List Nat).contains i) (fun i => ([8, 9, 10] : List Nat).contains i) (fun i => ([0, 2, 4, 5, 6] : List Nat).contains i) mixed (by kernel_rfl) (by decide) (by kernel_rfl) ?_
    refine .uw rfl (.move rfl) ?_
    refine .w rfl (.lda agg_40 rfl) ?_
    refine .uw rfl (.move rfl) ?_
    refine .w rfl (.lda agg_40 rfl) ?_
    refine .uw rfl (.move rfl) ?_
    refine .uw rfl (.move rfl) ?_
    refine .uw rfl (.ix Tryz.underlying38 sz_40 rfl rfl) ?_
    refine .w rfl (.as (v' := .agg ((wd (n.getD k 0)).map u64).toArray) (.lda agg_40 rfl (hm := by first | exact AM.own (by (repeat (first | exact List.Mem.head _ | refine List.Mem.tail _ ?_)); first | done | fail) (by rw [bks_len]; omega) | exact AM.ro (by (repeat (first | exact List.Mem.head _ | refine List.Mem.tail _ ?_)); first | done | fail) (by rw [bks_len]; omega) | exact AM.ownAt (by (repeat (first | exact List.Mem.head _ | refine List.Mem.tail _ ?_)); first | done | fail) (by rw [bks_len]; omega) | exact AM.rd zqc (by rw [bks_len]; omega) | exact AM.row zqa (by rw [bks_len]; omega))) (congrArg (fun l : List Value => Value.agg l.toArray) (nat_piece (by omega)))) ?_
    refine .mw rfl (Mv.callF body_111 rfl rfl rfl (f111_spec p m hm h1 ho (l.getD k 0) (n.getD k 0) (nat_lt hl (by omega)) (nat_lt hb (by omega))) zqd (by repeat (first | exact Lends.nil _ | apply Lends.cons | exact Lend.same _ _ | exact Lend.row _ _ _ _ _ _ (by decide) | apply Lend.there)) (by rintro _ _ _ ⟨_, h, _⟩; exact h)) ?_
    rintro _ _ _ ⟨_, ⟨rfl, _, rfl⟩, hΓ, hH⟩
    simp only [List.cons_append, List.nil_append] at hH; subst hΓ hH
    refine kp ?_
    refine .mw rfl (Mv.callF body_182 rfl rfl rfl (f182_spec p m hm h1 ho (mulK m l n k) ((l.getD k 0) ^ (n.getD k 0) % m) (Nat.lt_trans (mulK_lt h1 l n k) hm) (Nat.lt_trans (Nat.mod_lt _ (by omega)) hm)) zqd (by repeat (first | exact Lends.nil _ | apply Lends.cons | exact Lend.same _ _ | exact Lend.row _ _ _ _ _ _ (by decide) | apply Lend.there)) (by rintro _ _ _ ⟨_, h, _⟩; exact h)) ?_
    rintro _ _ _ ⟨_, ⟨rfl, _, rfl⟩, hΓ, hH⟩
    simp only [List.cons_append, List.nil_append] at hH; subst hΓ hH
    refine kp ?_
    first | refine .mw0 rfl (.sa sz_40) ?_ | refine .mw0 rfl (.so sz_40) ?_ | refine .mw0 rfl (.sr sz_40) ?_
    rintro _ _ _ ⟨rfl, rfl⟩
    refine kp ?_
    refine .nil (.block_normal (.tn (.region ?_)))
    refine .w (.asI ((k + 1 : Nat) : Int) (.bin rfl rfl (BinR.add_i zqf))) ?_
    refine .w (.move rfl) ?_
    refine .nil ?_
    refine .hd (k + 1) ?_
    exact ⟨by omega, by omega⟩
  · obtain rfl : k = l.length := by omega
    refine .exit (.then_exit (.then_exit (.block_exit (.tn (.seq (.region ?_))))))
    refine .w (.lda agg_40 rfl) ?_
    first | refine .sa sz_40 ?_ | refine .so sz_40 ?_ | refine .sr sz_40 ?_
    refine .nil (.tn (.ret ?_))
    exact .dn [] [Res.mod p m] (res1 rfl (.cl agg_40)) ⟨rfl, rfl, rfl⟩
end Go.Proofs.YtmhiapebljfebaaGreatDoor

/- Walks: products of powers; a group. -/
namespace Go.Proofs.YtmhiapebljfebaaGreatDoor
open Go.RowKit
set_option maxRecDepth 100000
set_option linter.unusedVariables false
set_option linter.unusedSimpArgs false
theorem f199_spec (γ : GP) (hγ : GOk γ) (bg a : Nat) (ha : a < 115792089237316195423570985008687907853269984665640564039457584007913129639936) :
    Spec Tryz.prog 199 #[(.agg ((wd a).map u64).toArray), (ptr bg 0)] [Res.var 2 ((wd 1).map u64)] [cGrp γ, Res.mod γ.px γ.P, Res.mod γ.pq γ.Q, Res.cells bg [ptr γ.g 0] 28]
      (fun r Γ' H' => r = .bool (!memB γ a) ∧ Γ' = [] ∧ H' = [cGrp γ, Res.mod γ.px γ.P, Res.mod γ.pq γ.Q, Res.cells bg [ptr γ.g 0] 28]) := by
  refine Spec.of_args Tryz.func199 rfl Tryz.ntmps199 (by simp) fun w => ?_
  refine .seq (.region ?_)
  refine .bx fun b2 => ?_
  refine .w (.assign rfl) ?_
  refine .nil (.tn (.seq (.region ?_)))
  refine .w (.ld one_28 rfl) ?_
  refine .w (.lda agg_40 rfl) ?_
  refine .c (f120_spec γ hγ a ha) body_120 ?_
  refine .w (.not rfl) ?_
  refine .w (.assign rfl) ?_
  refine .nil (.tn (.ret ?_))
  exact .dn [] [cGrp γ, Res.mod γ.px γ.P, Res.mod γ.pq γ.Q, Res.cells bg [ptr γ.g 0] 28] (res1 rfl (.tmp rfl)) ⟨rfl, rfl, rfl⟩

theorem f168_spec (γ : GP) (hγ : GOk γ) (bg : Nat) (lv : Value) (l : List Nat) (hl : ∀ a ∈ l, a < 115792089237316195423570985008687907853269984665640564039457584007913129639936) :
    Spec Tryz.prog 168 #[lv, (.func (.func 199) #[] #[ptr bg 0])] [Res.rd lv l.length 4 (bks natC l), Res.var 2 ((wd 1).map u64)] [cGrp γ, Res.mod γ.px γ.P, Res.mod γ.pq γ.Q, Res.cells bg [ptr γ.g 0] 28]
      (fun r Γ' H' => ∃ i : Int, decide (i ≥ 0) = l.any (fun a => !memB γ a) ∧ r = it i ∧ Γ' = [] ∧ H' = [cGrp γ, Res.mod γ.px γ.P, Res.mod γ.pq γ.Q, Res.cells bg [ptr γ.g 0] 28]) := by
  refine Spec.of_args Tryz.func168 rfl Tryz.ntmps168 (by simp) fun w => ?_
  refine JC.know (φ := l.length ≤ 9223372036854775807) (fun w hs => by obtain ⟨_, _, _, _, _, _, h⟩ := hs.rdForm (.head _); unfold maxLen at h; omega) fun hll => ?_
  refine .seq (.region ?_)
  refine .w (.assign rfl) ?_
  refine .nil (.tn (.seq (.seq (.region ?_))))
  refine .w (.move rfl) ?_
  refine .w (.len Tryz.underlying38 rfl) ?_
  refine .w (.move rfl) ?_
  refine .nil (.tn (.block ?_))
  refine .lp (ι := Nat) (fun x => x ≤ l.length ∧ ∀ j, j < x → (!memB γ (l.getD j 0)) = false) (fun T x => (8, it (x : Int)) :: T) (fun T _ => T) (fun T _ => T) (fun x => l.length - x) 0 [0, 1, 7] ?_ (fun x hx => ?_)
  · exact ⟨Nat.zero_le _, fun j hj => absurd hj (Nat.not_lt_zero _)⟩
  obtain ⟨k, hk⟩ : ∃ k, k = x := ⟨_, rfl⟩
  subst hk
  obtain ⟨hk, hall⟩ := hx
  refine .seq (.region ?_)
  refine .w (.bin rfl rfl BinR.lss_i) ?_
  refine .nil (.tn (.seq ?_))
  refine .cn rfl (fun hc1 => ?_) (fun hc1 => ?_)
  · skip
    refine .skip (.tn (.seq (.block (.seq (.region ?_)))))
    refine .w (.move rfl) ?_
    refine .w (.assign rfl) ?_
    refine .nil (.tn (.seq (.region ?_)))
    refine .w (.move rfl) ?_
    refine .w (.move rfl) ?_
    refine .w (.move rfl) ?_
    refine .w (.ix Tryz.underlying38 sz_40 rfl rfl) ?_
    refine .w (.as (v' := .agg ((wd (l.getD k 0)).map u64).toArray) (.lda agg_40 rfl (hm := by first | exact AM.own (by (repeat (first | exact List.Mem.head _ | refine List.Mem.tail _ ?_)); first | done | fail) (by rw [bks_len]; omega) | exact AM.ro (by (repeat (first | exact List.Mem.head _ | refine List.Mem.tail _ ?_)); first | done | fail) (by rw [bks_len]; omega) | exact AM.ownAt (by (repeat (first | exact List.Mem.head _ | refine List.Mem.tail _ ?_)); first | done | fail) (by rw [bks_len]; omega) | exact AM.rd zqc (by rw [bks_len]; omega) | exact AM.row zqa (by rw [bks_len]; omega))) (congrArg (fun l : List Value => Value.agg l.toArray) (nat_piece (by omega)))) ?_
    refine JO.callF (f199_spec γ hγ bg (l.getD k 0) (nat_lt hl (by omega))) body_199 rfl rfl rfl zqd (by repeat (first | exact Lends.nil _ | apply Lends.cons | exact Lend.same _ _ | exact Lend.row _ _ _ _ _ _ (by decide) | apply Lend.there)) (by rintro _ _ _ ⟨_, h, _⟩; exact h) (by decide) ?_
    rintro _ _ ⟨_, ⟨rfl, _, rfl⟩, hH⟩
    simp only [List.cons_append, List.nil_append] at hH; subst hH
    refine .nil (.tn ?_)
    refine .cn rfl (fun hc2 => ?_) (fun hc2 => ?_)
    · skip
      refine .seq (.region ?_)
      refine .w (.move rfl) ?_
      refine .w (.assign rfl) ?_
      refine .nil (.tn (.ret (.block_ret (.then_ret (.then_ret (.block_ret (.then_ret ?_)))))))
      exact .dn [] [cGrp γ, Res.mod γ.px γ.P, Res.mod γ.pq γ.Q, Res.cells bg [ptr γ.g 0] 28] (res1 rfl (.tmp rfl)) ⟨k, by rw [any_some (j := k) (by omega) (by simpa using hc2)]; simp, rfl, rfl, rfl⟩
    · skip
      refine .skip (.block_normal (.tn (.region ?_)))
      refine .w (.asI ((k + 1 : Nat) : Int) (.bin rfl rfl (BinR.add_i zqf))) ?_
      refine .w (.move rfl) ?_
      refine .nil ?_
      refine .hd (k + 1) ?_
      exact ⟨⟨by omega, fun j hj => by rcases Nat.lt_succ_iff_lt_or_eq.1 hj with h | rfl; exact hall j h; simpa using hc2⟩, by omega⟩
  · obtain rfl : k = l.length := by omega
    refine .exit (.then_exit (.then_exit (.block_exit (.tn (.seq (.region ?_))))))
    refine .w (.assign rfl) ?_
    refine .nil (.tn (.ret ?_))
    exact .dn [] [cGrp γ, Res.mod γ.px γ.P, Res.mod γ.pq γ.Q, Res.cells bg [ptr γ.g 0] 28] (res1 rfl (.tmp rfl)) ⟨-1, by rw [any_none hall]; rfl, rfl, rfl, rfl⟩

theorem f118_spec (γ : GP) (hγ : GOk γ) (bg : Nat) (lv : Value) (l : List Nat) (hl : ∀ a ∈ l, a < 115792089237316195423570985008687907853269984665640564039457584007913129639936) :
    Spec Tryz.prog 118 #[lv, (.func (.func 199) #[] #[ptr bg 0])] [Res.rd lv l.length 4 (bks natC l), Res.var 2 ((wd 1).map u64)] [cGrp γ, Res.mod γ.px γ.P, Res.mod γ.pq γ.Q, Res.cells bg [ptr γ.g 0] 28]
      (fun r Γ' H' => r = .bool (l.any (fun a => !memB γ a)) ∧ Γ' = [] ∧ H' = [cGrp γ, Res.mod γ.px γ.P, Res.mod γ.pq γ.Q, Res.cells bg [ptr γ.g 0] 28]) := by
  refine Spec.of_args Tryz.func118 rfl Tryz.ntmps118 (by simp) fun w => ?_
  refine .seq (.region ?_)
  refine .w (.assign rfl) ?_
  refine .nil (.tn (.seq (.region ?_)))
  refine .w (.move rfl) ?_
  refine .w (.move rfl) ?_
  refine .cb (f168_spec γ hγ bg lv l hl) body_168 ?_ (h0 := by rintro _ _ _ ⟨_, _, _, h, _⟩; exact h)
  rintro _ _ ⟨i, hi, rfl, _, rfl⟩
  refine .ap ?_
  refine .w (.as (v' := .bool (l.any (fun a => !memB γ a))) (.bin rfl rfl BinR.geq_i) (congrArg Value.bool hi)) ?_
  refine .w (.assign rfl) ?_
  refine .nil (.tn (.ret ?_))
  exact .dn [] [cGrp γ, Res.mod γ.px γ.P, Res.mod γ.pq γ.Q, Res.cells bg [ptr γ.g 0] 28] (res1 rfl (.tmp rfl)) ⟨rfl, rfl, rfl⟩

theorem f179_spec (γ : GP) (hγ : GOk γ) (lv nv : Value) (l n : List Nat) (hl : ∀ a ∈ l, a < 115792089237316195423570985008687907853269984665640564039457584007913129639936) (hb : ∀ a ∈ n, a < 115792089237316195423570985008687907853269984665640564039457584007913129639936) :
    Spec Tryz.prog 179 #[(ptr γ.g 0), lv, nv] [Res.rd lv l.length 4 (bks natC l), Res.rd nv n.length 4 (bks natC n), Res.var 2 ((wd 1).map u64)] [cGrp γ, Res.mod γ.px γ.P, Res.mod γ.pq γ.Q]
      (fun r Γ' H' => r = .tuple #[(.agg ((wd (mulV γ l n)).map u64).toArray), it (mulE γ l n)] ∧ Γ' = [] ∧ H' = [cGrp γ, Res.mod γ.px γ.P, Res.mod γ.pq γ.Q]) := by
  refine Spec.of_args Tryz.func179 rfl Tryz.ntmps179 (by simp) fun w => ?_
  refine JC.know (φ := l.length ≤ 9223372036854775807) (fun w hs => by obtain ⟨_, _, _, _, _, _, h⟩ := hs.rdForm (.head _); unfold maxLen at h; omega) fun hll => ?_
  refine JC.know (φ := n.length ≤ 9223372036854775807) (fun w hs => by obtain ⟨_, _, _, _, _, _, h⟩ := hs.rdForm (.tail _ (.head _)); unfold maxLen at h; omega) fun hnn => ?_
  refine .seq (.region ?_)
  refine .bx fun b3 => ?_
  refine .al zero_40 fun b6 => ?_
  refine .w (.assign rfl) ?_
  refine .nil (.tn (.seq (.block (.seq (.region ?_)))))
  refine .w (.move rfl) ?_
  refine .w (.len Tryz.underlying38 rfl) ?_
  refine .w (.move rfl) ?_
  refine .w (.len Tryz.underlying38 rfl) ?_
  refine .w (.asB (l.length ≠ n.length) (.bin rfl rfl BinR.neq_i)) ?_
  refine .w (.move rfl) ?_
  refine .join 4 18 (.bool (decide (l.length ≠ n.length ∨ l.length > 40))) ?_ ?_
  · refine .gn (g := 13) rfl (fun hg10 hg10' => ?_) (fun hg10 hg10' => ?_)
    · refine .gf (g := 14) rfl rfl hg10 (by decide) ?_
      refine .gf (g := 14) rfl rfl hg10 (by decide) ?_
      refine .gf (g := 14) rfl rfl hg10 (by decide) ?_
      refine .w (.pick1 rfl hg10 rfl) ?_
      refine .nil ?_
      refine .head () (by first | (refine ⟨by first | rfl | exact congrArg (fun b => some (Value.bool b)) (by first | exact (decide_eq_true (by omega)).symm | exact (decide_eq_false (by omega)).symm | exact decide_eq_decide.2 (by omega)) | (simp [*]; done) | (show some _ = some _; simp [*]; done), ?_⟩; repeat (first | exact trivial | refine ⟨rfl, ?_⟩))) (fun _ h => h) (Picks.perm zqd) ?_
      trivial
    · refine .gt (g := 14) rfl rfl hg10 ?_
      refine .w (.move rfl) ?_
      refine .gt (g := 14) rfl rfl hg10 ?_
      refine .w (.len Tryz.underlying38 rfl) ?_
      refine .gt (g := 14) rfl rfl hg10 ?_
      refine .w (.asB (l.length > 40) (.bin rfl rfl BinR.gtr_i)) ?_
      refine .w (.pick0 rfl hg10 rfl) ?_
      refine .nil ?_
      refine .head () (by first | (refine ⟨by first | rfl | exact congrArg (fun b => some (Value.bool b)) (by first | exact (decide_eq_true (by omega)).symm | exact (decide_eq_false (by omega)).symm | exact decide_eq_decide.2 (by omega)) | (simp [*]; done) | (show some _ = some _; simp [*]; done), ?_⟩; repeat (first | exact trivial | refine ⟨rfl, ?_⟩))) (fun _ h => h) (Picks.perm zqd) ?_
      trivial
  · refine .w (.assign rfl) ?_
    refine .nil (.tn ?_)
    refine .cn rfl (fun hc1 => ?_) (fun hc1 => ?_)
    · have hme : mulE γ l n = 1 := if_pos hc1
      refine .seq (.region ?_)
      refine .w (.as (v' := .agg ((wd 0).map u64).toArray) (.build bld_40 rfl rfl) rfl) ?_
      first | refine .sa sz_40 ?_ | refine .so sz_40 ?_ | refine .sr sz_40 ?_
      refine .w (.assign rfl) ?_
      refine .nil (.tn (.ret (.block_ret (.then_ret ?_))))
      exact .dn [] [cGrp γ, Res.mod γ.px γ.P, Res.mod γ.pq γ.Q] (res2 rfl (.cl agg_40) (.tmp rfl)) ⟨by rw [mulV, hme]; rfl, rfl, rfl⟩
    · have hne : l.length = n.length := by omega
      refine .seq (.region ?_)
      refine .w (.move rfl) ?_
      refine .w (.makeFunc rfl rfl) ?_
      refine .c (f118_spec γ hγ b3 lv l hl) body_118 ?_
      refine .w (.assign rfl) ?_
      refine .nil (.tn ?_)
      refine .cn rfl (fun hc2 => ?_) (fun hc2 => ?_)
      · have hme : mulE γ l n = 22 := by unfold mulE; rw [if_neg hc1, if_pos hc2]
        refine .seq (.region ?_)
        refine .w (.as (v' := .agg ((wd 0).map u64).toArray) (.build bld_40 rfl rfl) rfl) ?_
        first | refine .sa sz_40 ?_ | refine .so sz_40 ?_ | refine .sr sz_40 ?_
        refine .w (.assign rfl) ?_
        refine .nil (.tn (.ret (.block_ret (.then_ret ?_))))
        exact .dn [] [cGrp γ, Res.mod γ.px γ.P, Res.mod γ.pq γ.Q] (res2 rfl (.cl agg_40) (.tmp rfl)) ⟨by rw [mulV, hme]; rfl, rfl, rfl⟩
      · have hme : mulE γ l n = 0 := by unfold mulE; rw [if_neg hc1, if_neg (by simpa using hc2)]
        refine .skip (.block_normal (.tn (.seq ?_)))
        refine JC.draw (.one 0 (.one 1 (.one 2 (.one 3 (.one 4 (.one 5 (.one 6 (.one 7 (.one 8 (.one 9 (.one 10 (.one 11 (.one 12 (.one 13 (.one 14 .nil))))))))))))))) (fun i => ([12, 13] : List Nat).contains i) (fun i => ([12, 13] : List Nat).contains i) (fun i => ([0, 1, 3, 4, 6, 8, 9, 11, 14] : List Nat).contains i) mixed (by kernel_rfl) (by decide) (by kernel_rfl) ?_
        refine .uw rfl (.move rfl) ?_
        refine .uw rfl (.move rfl) ?_
        refine .w rfl (.ld one_28 rfl) ?_
        refine .uw rfl (.nilCheck rfl) ?_
        refine .uw rfl (.fieldAddr fa_165_1 rfl) ?_
        refine .w rfl (.as (v' := ptr γ.px 0) (.ld one_91 rfl) (by rfl)) ?_
        refine .uw rfl (.makeFunc rfl rfl) ?_
        refine .w rfl (.ld one_28 rfl) ?_
        refine .uw rfl (.nilCheck rfl) ?_
        refine .uw rfl (.fieldAddr fa_165_1 rfl) ?_
        refine .w rfl (.as (v' := ptr γ.px 0) (.ld one_91 rfl) (by rfl)) ?_
        refine .uw rfl (.makeFunc rfl rfl) ?_
        refine .mw rfl (.c (f200_spec lv nv l n hne.symm hl hb γ.px γ.P hγ.pb hγ.p1 hγ.po) body_200) ?_
        rintro _ _ _ ⟨rfl, rfl, rfl⟩
        refine kp ?_
        first | refine .mw0 rfl (.sa sz_40) ?_ | refine .mw0 rfl (.so sz_40) ?_ | refine .mw0 rfl (.sr sz_40) ?_
        rintro _ _ _ ⟨rfl, rfl⟩
        refine kp ?_
        refine .uw rfl (.assign rfl) ?_
        refine .nil (.tn (.ret ?_))
        exact .dn [] [cGrp γ, Res.mod γ.px γ.P, Res.mod γ.pq γ.Q] (res2 rfl (.cl agg_40) (.tmp rfl)) ⟨by rw [mulV, hme]; rfl, rfl, rfl⟩

theorem f51_spec (d : GD) (hd : GDok d) (lv : Value) (L : List PF) (hL : L.map PF.pd = d.L) :
    Spec Tryz.prog 51 #[(.agg (parC d.P d.Q d.G).toArray), lv] [Res.var 0 ((wd 5).map u64), Res.var 1 ((wd 2).map u64), Res.var 2 ((wd 1).map u64), Res.var 3 ((wd 2).map u64), Res.rd lv L.length 9 (bks prfC L), Res.all (facRes L)] []
      (fun r Γ' H' => ∃ γ : GP, GOk γ ∧ γ.P = d.P ∧ γ.Q = d.Q ∧ γ.G = d.G ∧ r = .tuple #[ptr γ.g 0, it 0] ∧ Γ' = [] ∧ H' = [cGrp γ, Res.mod γ.px γ.P, Res.mod γ.pq γ.Q]) := by
  refine Spec.of_args Tryz.func51 rfl Tryz.ntmps51 (by simp) fun w => ?_
  have hin : ∃ j, j < L.length ∧ (L.getD j PZ).N = d.Q := by
    obtain ⟨p, hp, e⟩ := hd.last
    rw [← hL] at hp
    obtain ⟨q, hq, rfl⟩ := List.mem_map.1 hp
    obtain ⟨j, hj, rfl⟩ := List.getElem_of_mem hq
    exact ⟨j, hj, by rw [List.getD_eq_getElem?_getD, List.getElem?_eq_getElem hj]; exact e⟩
  refine .seq (.region ?_)
  refine .bx fun b2 => ?_
  refine .w (.assign rfl) ?_
  refine .w (.assign rfl) ?_
  refine .nil (.tn (.seq (.seq (.region ?_))))
  refine .w (.move rfl) ?_
  refine .w (.fieldAddr fa_55_1 rfl) ?_
  refine .w (.as (v' := .agg ((wd d.Q).map u64).toArray) (.lda agg_40 rfl) (by rfl)) ?_
  refine .c (f109_spec lv L (by rw [hL]; exact hd.good) d.Q (Nat.lt_trans hd.qp hd.pb) hin) body_109 ?_
  refine .w (.assign rfl) ?_
  refine .nil (.tn (.seq (.region ?_)))
  refine .w (.move rfl) ?_
  refine .w (.as (v' := .bool false) (.bin rfl rfl BinR.neq_i) rfl) ?_
  refine .nil (.tn ?_)
  refine .cf rfl ?_
  refine .skip (.tn (.seq (.region ?_)))
  refine .w (.fieldAddr fa_55_0 rfl) ?_
  refine .w (.as (v' := .agg ((wd d.P).map u64).toArray) (.lda agg_40 rfl) (by rfl)) ?_
  refine .cb (f110_spec d.P hd.pb (by have := hd.p5; omega) hd.po) body_110 ?_ (h0 := by rintro _ _ _ ⟨_, _, h, _⟩; exact h)
  rintro _ _ ⟨px, rfl, _, rfl⟩
  refine .ap ?_
  refine .w (.move rfl) ?_
  refine .w (.extract rfl rfl) ?_
  refine .w (.as (v' := it 0) (.extract rfl rfl) rfl) ?_
  refine .w (.assign rfl) ?_
  refine .w (.assign rfl) ?_
  refine .nil (.tn (.seq (.region ?_)))
  refine .w (.fieldAddr fa_55_1 rfl) ?_
  refine .w (.as (v' := .agg ((wd d.Q).map u64).toArray) (.lda agg_40 rfl) (by rfl)) ?_
  refine .cb (f110_spec d.Q (Nat.lt_trans hd.qp hd.pb) hd.q1 hd.qo) body_110 ?_ (h0 := by rintro _ _ _ ⟨_, _, h, _⟩; exact h)
  rintro _ _ ⟨pq, rfl, _, rfl⟩
  refine .ap ?_
  refine .w (.move rfl) ?_
  refine .w (.extract rfl rfl) ?_
  refine .w (.as (v' := it 0) (.extract rfl rfl) rfl) ?_
  refine .w (.assign rfl) ?_
  refine .w (.assign rfl) ?_
  refine .nil (.tn (.seq (.block (.seq (.region ?_)))))
  refine .w (.move rfl) ?_
  refine .w (.as (v' := .bool false) (.bin rfl rfl BinR.neq_i) rfl) ?_
  refine .w (.move rfl) ?_
  refine .gt (g := 33) rfl rfl rfl ?_
  refine .w (.move rfl) ?_
  refine .gt (g := 33) rfl rfl rfl ?_
  refine .w (.as (v' := .bool false) (.bin rfl rfl BinR.neq_i) rfl) ?_
  refine .w (.pick0 rfl rfl rfl) ?_
  refine .w (.move rfl) ?_
  refine .gt (g := 37) rfl rfl rfl ?_
  refine .w (.fieldAddr fa_55_0 rfl) ?_
  refine .gt (g := 37) rfl rfl rfl ?_
  refine .w (.as (v' := .agg ((wd d.P).map u64).toArray) (.lda agg_40 rfl) (by rfl)) ?_
  refine .gt (g := 37) rfl rfl rfl ?_
  refine .w (.as (v' := .agg ((wd 5).map u64).toArray) (.lda agg_40 rfl) (by rfl)) ?_
  refine .gt (g := 37) rfl rfl rfl ?_
  refine .c (f52_spec d.P 5 hd.pb (by decide)) body_52 ?_
  refine .gt (g := 37) rfl rfl rfl ?_
  refine .w (.as (v' := .bool false) (.bin rfl rfl BinR.lss_i) (congrArg Value.bool (decide_eq_false (by rw [cmp_lt]; have := hd.p5; omega)))) ?_
  refine .w (.pick0 rfl rfl rfl) ?_
  refine .w (.move rfl) ?_
  refine .gt (g := 44) rfl rfl rfl ?_
  refine .w (.fieldAddr fa_55_1 rfl) ?_
  refine .gt (g := 44) rfl rfl rfl ?_
  refine .w (.as (v' := .agg ((wd d.Q).map u64).toArray) (.lda agg_40 rfl) (by rfl)) ?_
  refine .gt (g := 44) rfl rfl rfl ?_
  refine .w (.fieldAddr fa_55_0 rfl) ?_
  refine .gt (g := 44) rfl rfl rfl ?_
  refine .w (.as (v' := .agg ((wd d.P).map u64).toArray) (.lda agg_40 rfl) (by rfl)) ?_
  refine .gt (g := 44) rfl rfl rfl ?_
  refine .c (f52_spec d.Q d.P (Nat.lt_trans hd.qp hd.pb) hd.pb) body_52 ?_
  refine .gt (g := 44) rfl rfl rfl ?_
  refine .w (.as (v' := .bool false) (.bin rfl rfl BinR.geq_i) (congrArg Value.bool (decide_eq_false (by rw [ge_iff_le, ← Int.not_lt, cmp_lt]; have := hd.qp; omega)))) ?_
  refine .w (.pick0 rfl rfl rfl) ?_
  refine .w (.assign rfl) ?_
  refine .nil (.tn ?_)
  refine .cf rfl ?_
  refine .seq ?_
  refine JC.draw (.one 0 (.one 1 (.one 2 (.one 3 (.one 4 (.one 5 (.one 6 (.one 7 (.one 8 (.one 9 (.one 10 (.one 11 (.one 12 (.one 13 (.one 14 (.one 15 (.one 16 (.one 17 (.one 18 (.one 20 (.one 19 (.one 21 (.one 22 (.one 23 .nil)))))))))))))))))))))))) (fun i => ([] : List Nat).contains i) (fun i => ([3, 10, 19] : List Nat).contains i) (fun i => ([0, 4, 5, 6, 8, 11, 12, 13, 14, 15, 17, 21, 22, 23] : List Nat).contains i) mixed (by kernel_rfl) (by decide) (by kernel_rfl) ?_
  refine .uw rfl (.fieldAddr fa_55_2 rfl) ?_
  refine .w rfl (.as (v' := .agg ((wd d.G).map u64).toArray) (.lda agg_40 rfl) (by rfl)) ?_
  refine .w rfl (.as (v' := .agg ((wd 2).map u64).toArray) (.lda agg_40 rfl) (by rfl)) ?_
  refine .mw rfl (.c (f52_spec d.G 2 (Nat.lt_trans hd.gp hd.pb) (by decide)) body_52) ?_
  rintro _ _ _ ⟨rfl, rfl, rfl⟩
  refine kp ?_
  refine .uw rfl (.as (v' := .bool false) (.bin rfl rfl BinR.lss_i) (congrArg Value.bool (decide_eq_false (by rw [cmp_lt]; have := hd.g2; omega)))) ?_
  refine .uw rfl (.move rfl) ?_
  refine JR.ugt (g := 58) rfl rfl rfl rfl rfl rfl (.fieldAddr fa_55_2 rfl) (by decide) ?_
  refine JR.vgt (g := 58) rfl rfl rfl rfl rfl rfl (.as (v' := .agg ((wd d.G).map u64).toArray) (.lda agg_40 rfl) (by rfl)) (by decide) ?_
  refine JR.ugt (g := 58) rfl rfl rfl rfl rfl rfl (.fieldAddr fa_55_0 rfl) (by decide) ?_
  refine JR.vgt (g := 58) rfl rfl rfl rfl rfl rfl (.as (v' := .agg ((wd d.P).map u64).toArray) (.lda agg_40 rfl) (by rfl)) (by decide) ?_
  refine JR.mgt (g := 58) rfl rfl rfl rfl rfl (.c (f52_spec d.G d.P (Nat.lt_trans hd.gp hd.pb) hd.pb) body_52) (by decide) ?_
  rintro _ _ _ ⟨rfl, rfl, rfl⟩
  refine kp ?_
  refine JR.ugt (g := 58) rfl rfl rfl rfl rfl rfl (.as (v' := .bool false) (.bin rfl rfl BinR.geq_i) (congrArg Value.bool (decide_eq_false (by rw [ge_iff_le, ← Int.not_lt, cmp_lt]; have := hd.gp; omega)))) (by decide) ?_
  refine JR.u rfl rfl rfl (Yv.pick0 rfl rfl rfl) (by decide) ?_
  refine .uw rfl (.move rfl) ?_
  refine JR.ugt (g := 66) rfl rfl rfl rfl rfl rfl (.move rfl) (by decide) ?_
  refine JR.ugt (g := 66) rfl rfl rfl rfl rfl rfl (.fieldAddr fa_55_2 rfl) (by decide) ?_
  refine JR.vgt (g := 66) rfl rfl rfl rfl rfl rfl (.as (v' := .agg ((wd d.G).map u64).toArray) (.lda agg_40 rfl) (by rfl)) (by decide) ?_
  refine JR.ugt (g := 66) rfl rfl rfl rfl rfl rfl (.fieldAddr fa_55_1 rfl) (by decide) ?_
  refine JR.vgt (g := 66) rfl rfl rfl rfl rfl rfl (.as (v' := .agg ((wd d.Q).map u64).toArray) (.lda agg_40 rfl) (by rfl)) (by decide) ?_
  refine JR.vgt (g := 66) rfl rfl rfl rfl rfl rfl (.as (v' := .agg ((wd 1).map u64).toArray) (.lda agg_40 rfl) (by rfl)) (by decide) ?_
  refine JR.mgt (g := 66) rfl rfl rfl rfl rfl (.c (f111_spec px d.P hd.pb (by have := hd.p5; omega) hd.po d.G d.Q (Nat.lt_trans hd.gp hd.pb) (Nat.lt_trans hd.qp hd.pb)) body_111) (by decide) ?_
  rintro _ _ _ ⟨rfl, rfl, rfl⟩
  rw [hd.ord]
  refine kp ?_
  refine JR.ugt (g := 66) rfl rfl rfl rfl rfl rfl (.as (v' := .bool false) (.bin rfl rfl (neq_nat wd_len' wd_len')) (congrArg Value.bool (by simp))) (by decide) ?_
  refine JR.u rfl rfl rfl (Yv.pick0 rfl rfl rfl) (by decide) ?_
  refine .uw rfl (.assign rfl) ?_
  refine .nil (.tn ?_)
  refine .cf rfl ?_
  refine .skip (.block_normal (.tn (.seq (.region ?_))))
  refine .w (.as (v' := .agg (parC d.P d.Q d.G).toArray) (.lda agg_55 rfl) (by rfl)) ?_
  refine .w (.move rfl) ?_
  refine .w (.move rfl) ?_
  refine .w (.build (cs := (grpC ⟨0, px, pq, d.P, d.Q, d.G⟩)) bld_165 rfl (by kernel_rfl)) ?_
  refine .bx fun b80 => ?_
  refine .w (.assign rfl) ?_
  refine .w (.assign rfl) ?_
  refine .nil (.tn (.ret ?_))
  exact .dn [] [cGrp ⟨b80, px, pq, d.P, d.Q, d.G⟩, Res.mod px d.P, Res.mod pq d.Q] (res2 rfl (.tmp rfl) (.tmp rfl)) ⟨⟨b80, px, pq, d.P, d.Q, d.G⟩, ⟨hd.p5, hd.pb, hd.po, hd.qp, hd.q1, hd.qo, hd.g2, hd.gp, hd.ord⟩, rfl, rfl, rfl, rfl, rfl, rfl⟩
end Go.Proofs.YtmhiapebljfebaaGreatDoor

/- Walks: shares. -/
namespace Go.Proofs.YtmhiapebljfebaaGreatDoor
open Go.RowKit
set_option maxRecDepth 100000
set_option linter.unusedVariables false
set_option linter.unusedSimpArgs false
theorem f128_spec (n : Nat) (hn : n ≤ 1000) :
    Spec Tryz.prog 128 #[(it (n : Int))] [] []
      (fun r Γ' H' => r = (.agg ((wd (n + 1)).map u64).toArray) ∧ Γ' = [] ∧ H' = []) := by
  refine Spec.of_args Tryz.func128 rfl Tryz.ntmps128 (by simp) fun w => ?_
  refine .seq (.region ?_)
  refine .al zero_40 fun b2 => ?_
  refine .nil (.tn (.seq (.region ?_)))
  refine .w (.move rfl) ?_
  refine .w (.asI (n : Int) (.max_i rfl rfl)) ?_
  refine .w (.asI ((n + 1 : Nat) : Int) (.bin rfl rfl (BinR.add_i zqf))) ?_
  refine .w (.as (v' := u64 (BitVec.ofNat 64 (n + 1))) (.conv_i_u64 Tryz.underlying3 Tryz.underlying22 rfl) (congrArg u64 (BitVec.ofInt_natCast _ _))) ?_
  refine .w (.as (v' := .agg ((wd (n + 1)).map u64).toArray) (.build bld_40 rfl rfl) (by rw [wd_lt64 (by omega)]; rfl)) ?_
  first | refine .sa sz_40 ?_ | refine .so sz_40 ?_ | refine .sr sz_40 ?_
  refine .nil (.tn (.ret ?_))
  exact .dn [] [] (res1 rfl (.cl agg_40)) ⟨rfl, rfl, rfl⟩

theorem f177_spec (n : Int) :
    Spec Tryz.prog 177 #[(it n)] [] []
      (fun r Γ' H' => r = (.bool (decide (1 ≤ n ∧ n ≤ 20))) ∧ Γ' = [] ∧ H' = []) := by
  refine Spec.of_args Tryz.func177 rfl Tryz.ntmps177 (by simp) fun w => ?_
  refine .seq (.region ?_)
  refine .w (.assign rfl) ?_
  refine .nil (.tn (.seq (.region ?_)))
  refine .w (.move rfl) ?_
  refine .w (.bin rfl rfl BinR.geq_i) ?_
  refine .w (.asB (1 ≤ n) (.move rfl)) ?_
  refine .join 3 8 (.bool (decide (1 ≤ n ∧ n ≤ 20))) ?_ ?_
  · refine .gn (g := 4) rfl (fun hg5 hg5' => ?_) (fun hg5 hg5' => ?_)
    · refine .gt (g := 5) rfl rfl hg5 ?_
      refine .w (.move rfl) ?_
      refine .gt (g := 5) rfl rfl hg5 ?_
      refine .w (.bin rfl rfl BinR.leq_i) ?_
      refine .w (.pick1 rfl hg5 rfl) ?_
      refine .nil ?_
      refine .head () (by first | (refine ⟨by first | rfl | exact congrArg (fun b => some (Value.bool b)) (by first | exact (decide_eq_true (by omega)).symm | exact (decide_eq_false (by omega)).symm | exact decide_eq_decide.2 (by omega)) | (simp [*]; done) | (show some _ = some _; simp [*]; done), ?_⟩; repeat (first | exact trivial | refine ⟨rfl, ?_⟩))) (fun _ h => h) (Picks.perm zqd) ?_
      trivial
    · refine .gf (g := 5) rfl rfl hg5 (by decide) ?_
      refine .gf (g := 5) rfl rfl hg5 (by decide) ?_
      refine .w (.pick0 rfl hg5 rfl) ?_
      refine .nil ?_
      refine .head () (by first | (refine ⟨by first | rfl | exact congrArg (fun b => some (Value.bool b)) (by first | exact (decide_eq_true (by omega)).symm | exact (decide_eq_false (by omega)).symm | exact decide_eq_decide.2 (by omega)) | (simp [*]; done) | (show some _ = some _; simp [*]; done), ?_⟩; repeat (first | exact trivial | refine ⟨rfl, ?_⟩))) (fun _ h => h) (Picks.perm zqd) ?_
      trivial
  · refine .w (.assign rfl) ?_
    refine .nil (.tn (.ret ?_))
    exact .dn [] [] (res1 rfl (.tmp rfl)) ⟨rfl, rfl, rfl⟩

theorem f169_spec (γ : GP) (hγ : GOk γ) (a : Nat) (ha : a < 115792089237316195423570985008687907853269984665640564039457584007913129639936) :
    Spec Tryz.prog 169 #[(ptr γ.g 0), (.agg ((wd a).map u64).toArray)] [cGrp γ, Res.mod γ.pq γ.Q] []
      (fun r Γ' H' => r = (.bool (decide (a < γ.Q))) ∧ Γ' = [] ∧ H' = []) := by
  refine Spec.of_args Tryz.func169 rfl Tryz.ntmps169 (by simp) fun w => ?_
  refine .seq (.region ?_)
  refine .bx fun b3 => ?_
  refine .w (.assign rfl) ?_
  refine .nil (.tn (.seq ?_))
  refine JC.draw (.one 0 (.one 1 (.one 2 (.one 3 (.one 4 (.one 5 (.one 6 .nil))))))) (fun i => ([4] : List Nat).contains i) (fun i => ([2, 3, 4] : List Nat).contains i) (fun i => ([1, 5, 6] : List Nat).contains i) mixed (by kernel_rfl) (by decide) (by kernel_rfl) ?_
  refine .w rfl (.lda agg_40 rfl) ?_
  refine .uw rfl (.move rfl) ?_
  refine .mw rfl (.c (f53_spec γ) body_53) ?_
  rintro _ _ _ ⟨rfl, rfl, rfl⟩
  refine kp ?_
  refine .mw rfl (.c (f54_spec γ.pq γ.Q) body_54) ?_
  rintro _ _ _ ⟨rfl, rfl, rfl⟩
  refine kp ?_
  refine .mw rfl (.c (f52_spec a γ.Q ha hγ.qb) body_52) ?_
  rintro _ _ _ ⟨rfl, rfl, rfl⟩
  refine kp ?_
  refine .uw rfl (.as (v' := .bool (decide (a < γ.Q))) (.bin rfl rfl BinR.lss_i) (congrArg Value.bool (decide_eq_decide.2 (cmp_lt _ _)))) ?_
  refine .uw rfl (.assign rfl) ?_
  refine .nil (.tn (.ret ?_))
  exact .dn [] [] (res1 rfl (.tmp rfl)) ⟨rfl, rfl, rfl⟩

theorem f180_spec (γ : GP) (hγ : GOk γ) (a : Nat) (ha : a < 115792089237316195423570985008687907853269984665640564039457584007913129639936) (n : Nat) (h1 : 1 ≤ n) (hn : n ≤ 1000) :
    Spec Tryz.prog 180 #[(ptr γ.g 0), (.agg ((wd a).map u64).toArray), (it (n : Int))] [] [cGrp γ, Res.mod γ.px γ.P, Res.mod γ.pq γ.Q]
      (fun r Γ' H' => ∃ v, r = v ∧ Γ' = [] ∧ H' = [Res.row v n 40 4 (bks natC (powL γ.Q a n)), cGrp γ, Res.mod γ.px γ.P, Res.mod γ.pq γ.Q]) := by
  refine Spec.of_args Tryz.func180 rfl Tryz.ntmps180 (by simp) fun w => ?_
  refine .seq (.region ?_)
  refine .bx fun b4 => ?_
  refine .w (.assign rfl) ?_
  refine .nil (.tn (.seq (.region ?_)))
  refine .w (.as (v' := .agg ((wd 1).map u64).toArray) (.build bld_40 rfl rfl) rfl) ?_
  refine .ls Tryz.underlying38 info_40 (fun v9 => ?_) (hsz := (by intro v hv; obtain rfl := List.mem_singleton.1 hv; rfl))
  refine .w (.assign rfl) ?_
  refine .nil (.tn (.seq (.block ?_)))
  refine .lp (ι := Nat × Value) (fun x => 1 ≤ x.1 ∧ x.1 ≤ n) (fun T x => (7, x.2) :: T) (fun T _ => T) (fun T x => Res.row x.2 x.1 40 4 (bks natC (powL γ.Q a x.1)) :: T) (fun x => n - x.1) (1, v9) [0, 2, 4, 6, 27] ?_ (fun x hx => ?_)
  · exact ⟨Nat.le_refl _, h1⟩
  obtain ⟨k, vo⟩ := x
  obtain ⟨hk1, hk⟩ := hx
  dsimp only at hk1 hk ⊢
  refine .seq (.seq (.region ?_))
  refine .w (.move rfl) ?_
  refine .w (.len Tryz.underlying38 rfl) ?_
  refine .w (.move rfl) ?_
  refine .w (.bin rfl rfl BinR.lss_i) ?_
  refine .nil (.tn ?_)
  refine .cn rfl (fun hc1 => ?_) (fun hc1 => ?_)
  · obtain ⟨j, rfl⟩ : ∃ j, k = j + 1 := ⟨k - 1, by omega⟩
    refine .skip (.tn (.block ?_))
    refine JC.draw (.one 0 (.one 1 (.one 3 (.one 4 (.one 5 (.one 6 (.one 7 (.one 8 (.one 9 (.one 2 (.one 10 (.one 11 (.one 12 (.one 13 .nil)))))))))))))) (fun i => ([10, 11, 12] : List Nat).contains i) (fun i => ([2, 10, 11, 12] : List Nat).contains i) (fun i => ([0, 1, 3, 4, 6, 13] : List Nat).contains i) mixed (by kernel_rfl) (by decide) (by kernel_rfl) ?_
    refine .uw rfl (.move rfl) ?_
    refine .uw rfl (.move rfl) ?_
    refine .uw rfl (.move rfl) ?_
    refine .uw rfl (.move rfl) ?_
    refine .w rfl (.len Tryz.underlying38 rfl) ?_
    refine .uw rfl (.asI (j : Int) (.bin rfl rfl (BinR.sub_i zqf))) ?_
    refine .w rfl (.ix Tryz.underlying38 sz_40 rfl rfl) ?_
    refine .w rfl (.as (v' := .agg ((wd (powK γ.Q a j)).map u64).toArray) (.lda agg_40 rfl (hm := by first | exact AM.own (by (repeat (first | exact List.Mem.head _ | refine List.Mem.tail _ ?_)); first | done | fail) (by rw [bks_len, powL_len]; omega) | exact AM.ro (by (repeat (first | exact List.Mem.head _ | refine List.Mem.tail _ ?_)); first | done | fail) (by rw [bks_len, powL_len]; omega) | exact AM.ownAt (by (repeat (first | exact List.Mem.head _ | refine List.Mem.tail _ ?_)); first | done | fail) (by rw [bks_len, powL_len]; omega) | exact AM.rd zqc (by rw [bks_len, powL_len]; omega) | exact AM.row zqa (by rw [bks_len, powL_len]; omega))) (congrArg (fun l : List Value => Value.agg l.toArray) (by rw [nat_piece (by rw [powL_len]; omega), powL_get (by omega)]; rfl))) ?_
    refine .w rfl (.lda agg_40 rfl) ?_
    refine .mw rfl (.c (f53_spec γ) body_53) ?_
    rintro _ _ _ ⟨rfl, rfl, rfl⟩
    refine kp ?_
    refine .mw rfl (.c (f182_spec γ.pq γ.Q hγ.qb hγ.q1 hγ.qo (powK γ.Q a j) a (Nat.lt_trans (powK_lt hγ.q1 a j) hγ.qb) ha) body_182) ?_
    rintro _ _ _ ⟨rfl, rfl, rfl⟩
    refine kp ?_
    refine .mw rfl (.ls Tryz.underlying38 info_40 (hsz := (by intro v hv; obtain rfl := List.mem_singleton.1 hv; rfl))) ?_
    rintro v25 _ _ ⟨rfl, rfl⟩
    refine kp ?_
    refine .mw rfl (.ap Tryz.underlying38 info_40 (hone := (by intro v hv; rw [show (List.flatMap (fun v => v.cells.toList) [Value.agg (List.map u64 (wd (powK γ.Q a j * a % γ.Q))).toArray]) = natC (powK γ.Q a (j + 1)) from by simp [natC, powK]] at hv; exact FS.one (f := natC) _ _ hv))) ?_
    rintro v26 _ _ ⟨rfl, rfl⟩
    refine kp ?_
    rw [show bks natC (powL γ.Q a (j + 1)) ++ List.flatMap (fun v => v.cells.toList) [Value.agg (List.map u64 (wd (powK γ.Q a j * a % γ.Q))).toArray] = bks natC (powL γ.Q a (j + 1 + 1)) from by rw [powL_succ γ.Q a (j + 1), bks_app]; rfl]
    refine .uw rfl (.assign rfl) ?_
    refine .nil (.block_normal ?_)
    refine .hd (j + 1 + 1, v26) ?_
    exact ⟨⟨by dsimp only; omega, by dsimp only; omega⟩, by dsimp only; omega⟩
  · obtain rfl : k = n := by omega
    refine .exit (.then_exit (.then_exit (.block_exit (.tn (.seq (.region ?_))))))
    refine .w (.move rfl) ?_
    refine .w (.assign rfl) ?_
    refine .nil (.tn (.ret ?_))
    exact .dn [] [Res.row vo k 40 4 (bks natC (powL γ.Q a k)), cGrp γ, Res.mod γ.px γ.P, Res.mod γ.pq γ.Q] (res1 rfl (.tmp rfl)) ⟨vo, rfl, rfl, rfl⟩

theorem f176_spec (γ : GP) (hγ : GOk γ) (bg bc bp : Nat) (cv : Value) (com : List Nat) (hc : ∀ a ∈ com, a < 115792089237316195423570985008687907853269984665640564039457584007913129639936) (slot : Int) (sh : Nat) (hsh : sh < 115792089237316195423570985008687907853269984665640564039457584007913129639936) :
    Spec Tryz.prog 176 #[(ptr bc 0), (ptr bp 0), (ptr bg 0)] [Res.cells bc [cv] 38, Res.cells bp (pieC slot sh) 113, Res.cells bg [ptr γ.g 0] 28, Res.rd cv com.length 4 (bks natC com), Res.var 2 ((wd 1).map u64)] [cGrp γ, Res.mod γ.px γ.P, Res.mod γ.pq γ.Q]
      (fun r Γ' H' => r = it (r1E γ com.length slot) ∧ Γ' = [] ∧ H' = [cGrp γ, Res.mod γ.px γ.P, Res.mod γ.pq γ.Q]) := by
  refine Spec.of_args Tryz.func176 rfl Tryz.ntmps176 (by simp) fun w => ?_
  refine JC.know (φ := com.length ≤ 9223372036854775807) (fun w hs => by obtain ⟨_, _, _, _, _, _, h⟩ := hs.rdForm (.tail _ (.tail _ (.tail _ (.head _)))); unfold maxLen at h; omega) fun hll => ?_
  refine .seq (.region ?_)
  refine .w (.assign rfl) ?_
  refine .nil (.tn (.seq (.seq ?_)))
  refine JC.draw (.one 0 (.one 1 (.one 2 (.one 3 (.one 4 (.one 5 (.one 6 (.one 7 (.one 8 (.one 9 (.one 10 (.one 11 (.one 12 (.one 13 (.one 14 (.one 15 (.one 16 (.one 17 (.one 18 (.one 19 (.one 20 (.one 21 .nil)))))))))))))))))))))) (fun i => ([19] : List Nat).contains i) (fun i => ([2, 18, 19] : List Nat).contains i) (fun i => ([1, 3, 4, 5, 7, 8, 9, 10, 12, 13, 14, 16, 20, 21] : List Nat).contains i) mixed (by kernel_rfl) (by decide) (by kernel_rfl) ?_
  refine .w rfl (.ld one_38 rfl) ?_
  refine .uw rfl (.len Tryz.underlying38 rfl) ?_
  refine .mw rfl (.c (f177_spec (com.length : Int)) body_177) ?_
  rintro _ _ _ ⟨rfl, rfl, rfl⟩
  refine kp ?_
  refine .uw rfl (.not rfl) ?_
  refine .uw rfl (.move rfl) ?_
  refine JR.gsplit (g := 7) rfl (fun hg7 => ?_) (fun hg7 => ?_)
  · have hg7' := hg7
    try simp only [decide_eq_true_eq, decide_eq_false_iff_not, Bool.not_eq_true', Bool.not_eq_false', ne_eq, Decidable.not_not, Bool.not_eq_true, Bool.and_eq_true, Bool.or_eq_true, BitVec.reduceToNat] at hg7'
    refine JR.gf (g := 8) rfl rfl rfl rfl hg7 (by decide) ?_
    refine JR.gf (g := 8) rfl rfl rfl rfl hg7 (by decide) ?_
    refine JR.gf (g := 8) rfl rfl rfl rfl hg7 (by decide) ?_
    refine JR.u rfl rfl rfl (Yv.pick1 rfl hg7 rfl) (by decide) ?_
    refine .uw rfl (.move rfl) ?_
    refine JR.gf (g := 13) rfl rfl rfl rfl rfl (by decide) ?_
    refine JR.gf (g := 13) rfl rfl rfl rfl rfl (by decide) ?_
    refine JR.gf (g := 13) rfl rfl rfl rfl rfl (by decide) ?_
    refine JR.u rfl rfl rfl (Yv.pick1 rfl rfl rfl) (by decide) ?_
    refine .uw rfl (.move rfl) ?_
    refine JR.gf (g := 18) rfl rfl rfl rfl rfl (by decide) ?_
    refine JR.gf (g := 18) rfl rfl rfl rfl rfl (by decide) ?_
    refine JR.gf (g := 18) rfl rfl rfl rfl rfl (by decide) ?_
    refine JR.gfm (g := 18) rfl rfl rfl rfl rfl (by decide) ?_ ?_
    · exact ⟨Subs.sub zqe, .inr (St.keep zqe zqd)⟩
    refine JR.gfm (g := 18) rfl rfl rfl rfl rfl (by decide) ?_ ?_
    · exact ⟨Subs.sub zqe, .inl rfl⟩
    refine JR.gf (g := 18) rfl rfl rfl rfl rfl (by decide) ?_
    refine JR.u rfl rfl rfl (Yv.pick1 rfl rfl rfl) (by decide) ?_
    refine .nil (.tn ?_)
    refine .k1 rfl rfl ?_
    refine .seq (.region ?_)
    refine .w (.assign rfl) ?_
    refine .nil (.tn (.ret (.then_ret ?_)))
    exact .dn [] [cGrp γ, Res.mod γ.px γ.P, Res.mod γ.pq γ.Q] (res1 rfl (.tmp rfl)) ⟨congrArg it (by unfold r1E; first | (rw [if_pos (by omega)]; done) | (rw [if_neg (by omega)]; done) | (simp_all; omega)), rfl, rfl⟩
  · have hg7' := hg7
    try simp only [decide_eq_true_eq, decide_eq_false_iff_not, Bool.not_eq_true', Bool.not_eq_false', ne_eq, Decidable.not_not, Bool.not_eq_true, Bool.and_eq_true, Bool.or_eq_true, BitVec.reduceToNat] at hg7'
    refine JR.ugt (g := 8) rfl rfl rfl rfl rfl hg7 (.fieldAddr fa_113_0 rfl) (by decide) ?_
    refine JR.vgt (g := 8) rfl rfl rfl rfl rfl hg7 (.as (v' := it slot) (.ld one_3 rfl) rfl) (by decide) ?_
    refine JR.ugt (g := 8) rfl rfl rfl rfl rfl hg7 (.bin rfl rfl BinR.lss_i) (by decide) ?_
    refine JR.u rfl rfl rfl (Yv.pick0 rfl hg7 rfl) (by decide) ?_
    refine .uw rfl (.move rfl) ?_
    refine JR.gsplit (g := 12) rfl (fun hg12 => ?_) (fun hg12 => ?_)
    · have hg12' := hg12
      try simp only [decide_eq_true_eq, decide_eq_false_iff_not, Bool.not_eq_true', Bool.not_eq_false', ne_eq, Decidable.not_not, Bool.not_eq_true, Bool.and_eq_true, Bool.or_eq_true, BitVec.reduceToNat] at hg12'
      refine JR.gf (g := 13) rfl rfl rfl rfl hg12 (by decide) ?_
      refine JR.gf (g := 13) rfl rfl rfl rfl hg12 (by decide) ?_
      refine JR.gf (g := 13) rfl rfl rfl rfl hg12 (by decide) ?_
      refine JR.u rfl rfl rfl (Yv.pick1 rfl hg12 rfl) (by decide) ?_
      refine .uw rfl (.move rfl) ?_
      refine JR.gf (g := 18) rfl rfl rfl rfl rfl (by decide) ?_
      refine JR.gf (g := 18) rfl rfl rfl rfl rfl (by decide) ?_
      refine JR.gf (g := 18) rfl rfl rfl rfl rfl (by decide) ?_
      refine JR.gfm (g := 18) rfl rfl rfl rfl rfl (by decide) ?_ ?_
      · exact ⟨Subs.sub zqe, .inr (St.keep zqe zqd)⟩
      refine JR.gfm (g := 18) rfl rfl rfl rfl rfl (by decide) ?_ ?_
      · exact ⟨Subs.sub zqe, .inl rfl⟩
      refine JR.gf (g := 18) rfl rfl rfl rfl rfl (by decide) ?_
      refine JR.u rfl rfl rfl (Yv.pick1 rfl rfl rfl) (by decide) ?_
      refine .nil (.tn ?_)
      refine .k1 rfl rfl ?_
      refine .seq (.region ?_)
      refine .w (.assign rfl) ?_
      refine .nil (.tn (.ret (.then_ret ?_)))
      exact .dn [] [cGrp γ, Res.mod γ.px γ.P, Res.mod γ.pq γ.Q] (res1 rfl (.tmp rfl)) ⟨congrArg it (by unfold r1E; first | (rw [if_pos (by omega)]; done) | (rw [if_neg (by omega)]; done) | (simp_all; omega)), rfl, rfl⟩
    · have hg12' := hg12
      try simp only [decide_eq_true_eq, decide_eq_false_iff_not, Bool.not_eq_true', Bool.not_eq_false', ne_eq, Decidable.not_not, Bool.not_eq_true, Bool.and_eq_true, Bool.or_eq_true, BitVec.reduceToNat] at hg12'
      refine JR.ugt (g := 13) rfl rfl rfl rfl rfl hg12 (.fieldAddr fa_113_0 rfl) (by decide) ?_
      refine JR.vgt (g := 13) rfl rfl rfl rfl rfl hg12 (.as (v' := it slot) (.ld one_3 rfl) rfl) (by decide) ?_
      refine JR.ugt (g := 13) rfl rfl rfl rfl rfl hg12 (.bin rfl rfl BinR.geq_i) (by decide) ?_
      refine JR.u rfl rfl rfl (Yv.pick0 rfl hg12 rfl) (by decide) ?_
      refine .uw rfl (.move rfl) ?_
      refine JR.gsplit (g := 17) rfl (fun hg17 => ?_) (fun hg17 => ?_)
      · have hg17' := hg17
        try simp only [decide_eq_true_eq, decide_eq_false_iff_not, Bool.not_eq_true', Bool.not_eq_false', ne_eq, Decidable.not_not, Bool.not_eq_true, Bool.and_eq_true, Bool.or_eq_true, BitVec.reduceToNat] at hg17'
        refine JR.gf (g := 18) rfl rfl rfl rfl hg17 (by decide) ?_
        refine JR.gf (g := 18) rfl rfl rfl rfl hg17 (by decide) ?_
        refine JR.gf (g := 18) rfl rfl rfl rfl hg17 (by decide) ?_
        refine JR.gfm (g := 18) rfl rfl rfl rfl hg17 (by decide) ?_ ?_
        · exact ⟨Subs.sub zqe, .inr (St.keep zqe zqd)⟩
        refine JR.gfm (g := 18) rfl rfl rfl rfl hg17 (by decide) ?_ ?_
        · exact ⟨Subs.sub zqe, .inl rfl⟩
        refine JR.gf (g := 18) rfl rfl rfl rfl hg17 (by decide) ?_
        refine JR.u rfl rfl rfl (Yv.pick1 rfl hg17 rfl) (by decide) ?_
        refine .nil (.tn ?_)
        refine .k1 rfl rfl ?_
        refine .seq (.region ?_)
        refine .w (.assign rfl) ?_
        refine .nil (.tn (.ret (.then_ret ?_)))
        exact .dn [] [cGrp γ, Res.mod γ.px γ.P, Res.mod γ.pq γ.Q] (res1 rfl (.tmp rfl)) ⟨congrArg it (by unfold r1E; first | (rw [if_pos (by omega)]; done) | (rw [if_neg (by omega)]; done) | (simp_all; omega)), rfl, rfl⟩
      · have hg17' := hg17
        try simp only [decide_eq_true_eq, decide_eq_false_iff_not, Bool.not_eq_true', Bool.not_eq_false', ne_eq, Decidable.not_not, Bool.not_eq_true, Bool.and_eq_true, Bool.or_eq_true, BitVec.reduceToNat] at hg17'
        refine JR.vgt (g := 18) rfl rfl rfl rfl rfl hg17 (.ld one_28 rfl) (by decide) ?_
        refine JR.ugt (g := 18) rfl rfl rfl rfl rfl hg17 (.fieldAddr fa_113_0 rfl) (by decide) ?_
        refine JR.vgt (g := 18) rfl rfl rfl rfl rfl hg17 (.asI (slot.toNat : Int) (.ld one_3 rfl)) (by decide) ?_
        refine JR.mgt (g := 18) rfl rfl rfl rfl hg17 (.c (f128_spec slot.toNat (by omega)) body_128) (by decide) ?_
        rintro _ _ _ ⟨rfl, rfl, rfl⟩
        refine kp ?_
        refine JR.mgt (g := 18) rfl rfl rfl rfl hg17 (.c (f169_spec γ hγ (slot.toNat + 1) (small_lt (by omega))) body_169) (by decide) ?_
        rintro _ _ _ ⟨rfl, rfl, rfl⟩
        refine kp ?_
        refine JR.ugt (g := 18) rfl rfl rfl rfl rfl hg17 (.not rfl) (by decide) ?_
        refine JR.u rfl rfl rfl (Yv.pick0 rfl hg17 rfl) (by decide) ?_
        refine .nil (.tn ?_)
        refine .cn rfl (fun hc1 => ?_) (fun hc1 => ?_)
        · skip
          refine .seq (.region ?_)
          refine .w (.assign rfl) ?_
          refine .nil (.tn (.ret (.then_ret ?_)))
          exact .dn [] [cGrp γ, Res.mod γ.px γ.P, Res.mod γ.pq γ.Q] (res1 rfl (.tmp rfl)) ⟨congrArg it (by unfold r1E; first | (rw [if_pos (by omega)]; done) | (rw [if_neg (by omega)]; done) | (simp_all; omega)), rfl, rfl⟩
        · skip
          refine .skip (.tn (.seq (.region ?_)))
          refine .w (.assign rfl) ?_
          refine .nil (.tn (.ret ?_))
          exact .dn [] [cGrp γ, Res.mod γ.px γ.P, Res.mod γ.pq γ.Q] (res1 rfl (.tmp rfl)) ⟨congrArg it (by unfold r1E; first | (rw [if_pos (by omega)]; done) | (rw [if_neg (by omega)]; done) | (simp_all; omega)), rfl, rfl⟩

theorem f178_spec (γ : GP) (hγ : GOk γ) (bg bc bp : Nat) (cv : Value) (com : List Nat) (hc : ∀ a ∈ com, a < 115792089237316195423570985008687907853269984665640564039457584007913129639936) (slot : Int) (sh : Nat) (hsh : sh < 115792089237316195423570985008687907853269984665640564039457584007913129639936) (hr : r1E γ com.length slot = 0) :
    Spec Tryz.prog 178 #[(ptr bg 0), (ptr bc 0), (ptr bp 0)] [Res.cells bc [cv] 38, Res.cells bp (pieC slot sh) 113, Res.cells bg [ptr γ.g 0] 28, Res.rd cv com.length 4 (bks natC com), Res.var 2 ((wd 1).map u64)] [cGrp γ, Res.mod γ.px γ.P, Res.mod γ.pq γ.Q]
      (fun r Γ' H' => r = it (r2E γ com slot.toNat sh) ∧ Γ' = [] ∧ H' = [cGrp γ, Res.mod γ.px γ.P, Res.mod γ.pq γ.Q]) := by
  refine Spec.of_args Tryz.func178 rfl Tryz.ntmps178 (by simp) fun w => ?_
  refine JC.know (φ := com.length ≤ 9223372036854775807) (fun w hs => by obtain ⟨_, _, _, _, _, _, h⟩ := hs.rdForm (.tail _ (.tail _ (.tail _ (.head _)))); unfold maxLen at h; omega) fun hll => ?_
  obtain ⟨⟨hr1, hr2⟩, hr3, hr4, hr5⟩ := r1_ok hr
  have hst : (slot.toNat : Int) = slot := by omega
  refine .seq (.region ?_)
  refine .w (.assign rfl) ?_
  refine .nil (.tn (.seq ?_))
  refine JC.draw (.one 0 (.one 1 (.one 2 (.one 3 (.one 4 (.one 6 (.one 7 (.alt 5 (.alt 8 (.alt 9 (.one 10 (.one 11 (.one 12 (.one 13 (.one 14 (.one 15 .nil)))))) (.alt 13 (.one 9 (.one 10 (.one 11 (.one 12 (.one 14 (.one 15 .nil)))))) .nil)) (.alt 13 (.one 8 (.one 9 (.one 10 (.one 11 (.one 12 (.one 14 (.one 15 .nil))))))) .nil)) (.alt 13 (.one 5 (.one 8 (.one 9 (.one 10 (.one 11 (.one 12 (.one 14 (.one 15 .nil)))))))) .nil))))))))) (fun i => ([14] : List Nat).contains i) (fun i => ([5, 8, 9, 13, 14] : List Nat).contains i) (fun i => ([3, 7, 10, 11, 12, 15] : List Nat).contains i) mixed (by kernel_rfl) (by decide) (by kernel_rfl) ?_
  refine .w rfl (.ld one_28 rfl) ?_
  refine .w rfl (.ld one_38 rfl) ?_
  refine .w rfl (.ld one_28 rfl) ?_
  refine .uw rfl (.fieldAddr fa_113_0 rfl) ?_
  refine .w rfl (.as (v' := it (slot.toNat : Int)) (.ld one_3 rfl) (congrArg it hst.symm)) ?_
  refine .w rfl (.ld one_38 rfl) ?_
  refine .uw rfl (.len Tryz.underlying38 rfl) ?_
  refine JR.alt rfl ?_ ?_
  · refine .mw rfl (.c (f128_spec slot.toNat (by omega)) body_128) ?_
    rintro _ _ _ ⟨rfl, rfl, rfl⟩
    refine kp ?_
    refine JR.alt rfl ?_ ?_
    · refine .mw rfl (.cb (f180_spec γ hγ (slot.toNat + 1) (small_lt (by omega)) com.length hr1 (by omega)) body_180 (h0 := by rintro _ _ _ ⟨_, _, h, _⟩; exact h)) ?_
      rintro v15 _ _ ⟨_, ⟨_, rfl, _, rfl⟩, hΓ, hH⟩
      simp only [List.cons_append, List.nil_append] at hH; subst hΓ hH
      rw [show Res.row v15 com.length 40 4 (bks natC (powL γ.Q (slot.toNat + 1) com.length)) = Res.row v15 (powL γ.Q (slot.toNat + 1) com.length).length 40 4 (bks natC (powL γ.Q (slot.toNat + 1) com.length)) from by rw [powL_len]]
      refine kp ?_
      refine JR.alt rfl ?_ ?_
      · refine .mw rfl (.c (f179_spec γ hγ cv v15 com (powL γ.Q (slot.toNat + 1) com.length) hc (powL_lt hγ.q1 hγ.qb _ _)) body_179) ?_
        rintro _ _ _ ⟨rfl, rfl, rfl⟩
        refine kp ?_
        refine .uw rfl (.move rfl) ?_
        refine .uw rfl (.as (v' := .agg ((wd (wantV γ com slot.toNat)).map u64).toArray) (.extract rfl rfl) rfl) ?_
        refine .uw rfl (.as (v' := it (wantE γ com slot.toNat)) (.extract rfl rfl) rfl) ?_
        refine .mw rfl (Mv.alloc zero_40) ?_
        rintro _ _ _ ⟨b4, rfl, rfl, rfl⟩
        refine kp ?_
        first | refine .mw0 rfl (.sa sz_40) ?_ | refine .mw0 rfl (.so sz_40) ?_ | refine .mw0 rfl (.sr sz_40) ?_
        rintro _ _ _ ⟨rfl, rfl⟩
        refine kp ?_
        refine .uw rfl (.assign rfl) ?_
        refine .nil (.tn (.seq (.seq ?_)))
        refine JC.draw (.one 0 (.one 1 (.one 2 (.one 3 (.one 4 (.one 5 (.one 6 (.one 7 (.one 8 (.one 9 (.one 10 (.one 11 (.one 13 (.one 12 (.one 14 (.one 15 (.one 16 .nil))))))))))))))))) (fun i => ([] : List Nat).contains i) (fun i => ([6, 12] : List Nat).contains i) (fun i => ([0, 1, 2, 4, 7, 8, 10, 14, 15, 16] : List Nat).contains i) mixed (by kernel_rfl) (by decide) (by kernel_rfl) ?_
        refine .uw rfl (.move rfl) ?_
        refine .uw rfl (.bin rfl rfl BinR.eql_i) ?_
        refine .uw rfl (.move rfl) ?_
        refine JR.gsplit (g := 20) rfl (fun hg21 => ?_) (fun hg21 => ?_)
        · have hg21' := hg21
          try simp only [decide_eq_true_eq, decide_eq_false_iff_not, Bool.not_eq_true', Bool.not_eq_false', ne_eq, Decidable.not_not, Bool.not_eq_true, Bool.and_eq_true, Bool.or_eq_true, BitVec.reduceToNat] at hg21'
          refine JR.vgt (g := 21) rfl rfl rfl rfl rfl hg21 (.ld one_28 rfl) (by decide) ?_
          refine JR.ugt (g := 21) rfl rfl rfl rfl rfl hg21 (.fieldAddr fa_113_1 rfl) (by decide) ?_
          refine JR.vgt (g := 21) rfl rfl rfl rfl rfl hg21 (.as (v' := .agg ((wd sh).map u64).toArray) (.lda agg_40 rfl) (by rfl)) (by decide) ?_
          refine JR.mgt (g := 21) rfl rfl rfl rfl hg21 (.c (f169_spec γ hγ sh hsh) body_169) (by decide) ?_
          rintro _ _ _ ⟨rfl, rfl, rfl⟩
          refine kp ?_
          refine JR.ugt (g := 21) rfl rfl rfl rfl rfl hg21 (.not rfl) (by decide) ?_
          refine JR.ugt (g := 21) rfl rfl rfl rfl rfl hg21 (.move rfl) (by decide) ?_
          refine JR.gsplit (g := 26) rfl (fun hg27 => ?_) (fun hg27 => ?_)
          · have hg27' := hg27
            try simp only [decide_eq_true_eq, decide_eq_false_iff_not, Bool.not_eq_true', Bool.not_eq_false', ne_eq, Decidable.not_not, Bool.not_eq_true, Bool.and_eq_true, Bool.or_eq_true, BitVec.reduceToNat] at hg27'
            refine JR.gf (g := 27) rfl rfl rfl rfl hg27 (by decide) ?_
            refine JR.gf (g := 27) rfl rfl rfl rfl hg27 (by decide) ?_
            refine JR.gf (g := 27) rfl rfl rfl rfl hg27 (by decide) ?_
            refine JR.gf (g := 27) rfl rfl rfl rfl hg27 (by decide) ?_
            refine JR.gfm (g := 27) rfl rfl rfl rfl hg27 (by decide) ?_ ?_
            · exact ⟨Subs.sub zqe, .inr (St.keep zqe zqd)⟩
            refine JR.gf (g := 27) rfl rfl rfl rfl hg27 (by decide) ?_
            refine JR.ugt (g := 21) rfl rfl rfl rfl rfl hg21 (Yv.pick1 rfl hg27 rfl) (by decide) ?_
            refine JR.u rfl rfl rfl (Yv.pick1 rfl hg21 rfl) (by decide) ?_
            refine .nil (.tn ?_)
            refine .k1 rfl rfl ?_
            refine .region ?_
            refine .w (.assign rfl) ?_
            refine .nil (.tn (.seq (.region ?_)))
            refine .w (.move rfl) ?_
            refine .w (.assign rfl) ?_
            refine .nil (.tn (.ret ?_))
            exact .dn [] [cGrp γ, Res.mod γ.px γ.P, Res.mod γ.pq γ.Q] (res1 rfl (.tmp rfl)) ⟨congrArg it (by unfold r2E; first | (rw [if_pos (by simp_all)]; done) | (rw [if_neg (by simp_all)]; done) | (rw [if_neg (by simp_all)]; rfl)), rfl, rfl⟩
          · have hg27' := hg27
            try simp only [decide_eq_true_eq, decide_eq_false_iff_not, Bool.not_eq_true', Bool.not_eq_false', ne_eq, Decidable.not_not, Bool.not_eq_true, Bool.and_eq_true, Bool.or_eq_true, BitVec.reduceToNat] at hg27'
            refine JR.vgt (g := 27) rfl rfl rfl rfl rfl hg27 (.ld one_28 rfl) (by decide) ?_
            refine JR.ugt (g := 27) rfl rfl rfl rfl rfl hg27 (.fieldAddr fa_113_1 rfl) (by decide) ?_
            refine JR.vgt (g := 27) rfl rfl rfl rfl rfl hg27 (.as (v' := .agg ((wd sh).map u64).toArray) (.lda agg_40 rfl) (by rfl)) (by decide) ?_
            refine JR.vgt (g := 27) rfl rfl rfl rfl rfl hg27 (.lda agg_40 rfl) (by decide) ?_
            refine JR.mgt (g := 27) rfl rfl rfl rfl hg27 (.c (f170_spec γ hγ sh hsh) body_170) (by decide) ?_
            rintro _ _ _ ⟨rfl, rfl, rfl⟩
            refine kp ?_
            refine JR.ugt (g := 27) rfl rfl rfl rfl rfl hg27 (.as (v' := .bool (!decide (γ.G ^ sh % γ.P = wantV γ com slot.toNat))) (.bin rfl rfl (neq_nat wd_len' wd_len')) (congrArg Value.bool (by rw [neq_b (Nat.lt_trans (Nat.mod_lt _ (by have := hγ.p1; omega)) hγ.pb) (wantV_lt hγ)]))) (by decide) ?_
            refine JR.ugt (g := 21) rfl rfl rfl rfl rfl hg21 (Yv.pick0 rfl hg27 rfl) (by decide) ?_
            refine JR.u rfl rfl rfl (Yv.pick1 rfl hg21 rfl) (by decide) ?_
            refine .nil (.tn ?_)
            refine .cn rfl (fun hc1 => ?_) (fun hc1 => ?_)
            · skip
              refine .region ?_
              refine .w (.assign rfl) ?_
              refine .nil (.tn (.seq (.region ?_)))
              refine .w (.move rfl) ?_
              refine .w (.assign rfl) ?_
              refine .nil (.tn (.ret ?_))
              exact .dn [] [cGrp γ, Res.mod γ.px γ.P, Res.mod γ.pq γ.Q] (res1 rfl (.tmp rfl)) ⟨congrArg it (by unfold r2E; first | (rw [if_pos (by simp_all)]; done) | (rw [if_neg (by simp_all)]; done) | (rw [if_neg (by simp_all)]; rfl)), rfl, rfl⟩
            · skip
              refine .skip (.tn (.seq (.region ?_)))
              refine .w (.move rfl) ?_
              refine .w (.assign rfl) ?_
              refine .nil (.tn (.ret ?_))
              exact .dn [] [cGrp γ, Res.mod γ.px γ.P, Res.mod γ.pq γ.Q] (res1 rfl (.tmp rfl)) ⟨congrArg it (by unfold r2E; first | (rw [if_pos (by simp_all)]; done) | (rw [if_neg (by simp_all)]; done) | (rw [if_neg (by simp_all)]; rfl)), rfl, rfl⟩
        · have hg21' := hg21
          try simp only [decide_eq_true_eq, decide_eq_false_iff_not, Bool.not_eq_true', Bool.not_eq_false', ne_eq, Decidable.not_not, Bool.not_eq_true, Bool.and_eq_true, Bool.or_eq_true, BitVec.reduceToNat] at hg21'
          refine JR.gf (g := 21) rfl rfl rfl rfl hg21 (by decide) ?_
          refine JR.gf (g := 21) rfl rfl rfl rfl hg21 (by decide) ?_
          refine JR.gf (g := 21) rfl rfl rfl rfl hg21 (by decide) ?_
          refine JR.gfm (g := 21) rfl rfl rfl rfl hg21 (by decide) ?_ ?_
          · exact ⟨Subs.sub zqe, .inr (St.keep zqe zqd)⟩
          refine JR.gf (g := 21) rfl rfl rfl rfl hg21 (by decide) ?_
          refine JR.gf (g := 21) rfl rfl rfl rfl hg21 (by decide) ?_
          refine JR.gu (g := 27) rfl rfl rfl rfl (by decide) ?_
          refine JR.gu (g := 27) rfl rfl rfl rfl (by decide) ?_
          refine JR.gu (g := 27) rfl rfl rfl rfl (by decide) ?_
          refine JR.gu (g := 27) rfl rfl rfl rfl (by decide) ?_
          refine JR.gum (g := 27) rfl rfl rfl rfl (by decide) ?_ ?_
          · exact ⟨Subs.sub zqe, .inr (St.keep zqe zqd)⟩
          refine JR.gu (g := 27) rfl rfl rfl rfl (by decide) ?_
          refine JR.gf (g := 21) rfl rfl rfl rfl hg21 (by decide) ?_
          refine JR.u rfl rfl rfl (Yv.pick0 rfl hg21 rfl) (by decide) ?_
          refine .nil (.tn ?_)
          refine .k0 rfl rfl ?_
          refine .skip (.tn (.seq (.region ?_)))
          refine .w (.move rfl) ?_
          refine .w (.assign rfl) ?_
          refine .nil (.tn (.ret ?_))
          exact .dn [] [cGrp γ, Res.mod γ.px γ.P, Res.mod γ.pq γ.Q] (res1 rfl (.tmp rfl)) ⟨congrArg it (by unfold r2E; first | (rw [if_pos (by simp_all)]; done) | (rw [if_neg (by simp_all)]; done) | (rw [if_neg (by simp_all)]; rfl)), rfl, rfl⟩
      refine JA.alt rfl ?_ ?_
      · refine .mw rfl (Mv.alloc zero_40) ?_
        rintro _ _ _ ⟨b4, rfl, rfl, rfl⟩
        refine kp ?_
        refine .mw rfl (.c (f179_spec γ hγ cv v15 com (powL γ.Q (slot.toNat + 1) com.length) hc (powL_lt hγ.q1 hγ.qb _ _)) body_179) ?_
        rintro _ _ _ ⟨rfl, rfl, rfl⟩
        refine kp ?_
        refine .uw rfl (.move rfl) ?_
        refine .uw rfl (.as (v' := .agg ((wd (wantV γ com slot.toNat)).map u64).toArray) (.extract rfl rfl) rfl) ?_
        refine .uw rfl (.as (v' := it (wantE γ com slot.toNat)) (.extract rfl rfl) rfl) ?_
        first | refine .mw0 rfl (.sa sz_40) ?_ | refine .mw0 rfl (.so sz_40) ?_ | refine .mw0 rfl (.sr sz_40) ?_
        rintro _ _ _ ⟨rfl, rfl⟩
        refine kp ?_
        refine .uw rfl (.assign rfl) ?_
        refine .nil (.tn (.seq (.seq ?_)))
        refine JC.draw (.one 0 (.one 1 (.one 2 (.one 3 (.one 4 (.one 5 (.one 6 (.one 7 (.one 8 (.one 9 (.one 10 (.one 11 (.one 13 (.one 12 (.one 14 (.one 15 (.one 16 .nil))))))))))))))))) (fun i => ([] : List Nat).contains i) (fun i => ([6, 12] : List Nat).contains i) (fun i => ([0, 1, 2, 4, 7, 8, 10, 14, 15, 16] : List Nat).contains i) mixed (by kernel_rfl) (by decide) (by kernel_rfl) ?_
        refine .uw rfl (.move rfl) ?_
        refine .uw rfl (.bin rfl rfl BinR.eql_i) ?_
        refine .uw rfl (.move rfl) ?_
        refine JR.gsplit (g := 20) rfl (fun hg21 => ?_) (fun hg21 => ?_)
        · have hg21' := hg21
          try simp only [decide_eq_true_eq, decide_eq_false_iff_not, Bool.not_eq_true', Bool.not_eq_false', ne_eq, Decidable.not_not, Bool.not_eq_true, Bool.and_eq_true, Bool.or_eq_true, BitVec.reduceToNat] at hg21'
          refine JR.vgt (g := 21) rfl rfl rfl rfl rfl hg21 (.ld one_28 rfl) (by decide) ?_
          refine JR.ugt (g := 21) rfl rfl rfl rfl rfl hg21 (.fieldAddr fa_113_1 rfl) (by decide) ?_
          refine JR.vgt (g := 21) rfl rfl rfl rfl rfl hg21 (.as (v' := .agg ((wd sh).map u64).toArray) (.lda agg_40 rfl) (by rfl)) (by decide) ?_
          refine JR.mgt (g := 21) rfl rfl rfl rfl hg21 (.c (f169_spec γ hγ sh hsh) body_169) (by decide) ?_
          rintro _ _ _ ⟨rfl, rfl, rfl⟩
          refine kp ?_
          refine JR.ugt (g := 21) rfl rfl rfl rfl rfl hg21 (.not rfl) (by decide) ?_
          refine JR.ugt (g := 21) rfl rfl rfl rfl rfl hg21 (.move rfl) (by decide) ?_
          refine JR.gsplit (g := 26) rfl (fun hg27 => ?_) (fun hg27 => ?_)
          · have hg27' := hg27
            try simp only [decide_eq_true_eq, decide_eq_false_iff_not, Bool.not_eq_true', Bool.not_eq_false', ne_eq, Decidable.not_not, Bool.not_eq_true, Bool.and_eq_true, Bool.or_eq_true, BitVec.reduceToNat] at hg27'
            refine JR.gf (g := 27) rfl rfl rfl rfl hg27 (by decide) ?_
            refine JR.gf (g := 27) rfl rfl rfl rfl hg27 (by decide) ?_
            refine JR.gf (g := 27) rfl rfl rfl rfl hg27 (by decide) ?_
            refine JR.gf (g := 27) rfl rfl rfl rfl hg27 (by decide) ?_
            refine JR.gfm (g := 27) rfl rfl rfl rfl hg27 (by decide) ?_ ?_
            · exact ⟨Subs.sub zqe, .inr (St.keep zqe zqd)⟩
            refine JR.gf (g := 27) rfl rfl rfl rfl hg27 (by decide) ?_
            refine JR.ugt (g := 21) rfl rfl rfl rfl rfl hg21 (Yv.pick1 rfl hg27 rfl) (by decide) ?_
            refine JR.u rfl rfl rfl (Yv.pick1 rfl hg21 rfl) (by decide) ?_
            refine .nil (.tn ?_)
            refine .k1 rfl rfl ?_
            refine .region ?_
            refine .w (.assign rfl) ?_
            refine .nil (.tn (.seq (.region ?_)))
            refine .w (.move rfl) ?_
            refine .w (.assign rfl) ?_
            refine .nil (.tn (.ret ?_))
            exact .dn [] [cGrp γ, Res.mod γ.px γ.P, Res.mod γ.pq γ.Q] (res1 rfl (.tmp rfl)) ⟨congrArg it (by unfold r2E; first | (rw [if_pos (by simp_all)]; done) | (rw [if_neg (by simp_all)]; done) | (rw [if_neg (by simp_all)]; rfl)), rfl, rfl⟩
          · have hg27' := hg27
            try simp only [decide_eq_true_eq, decide_eq_false_iff_not, Bool.not_eq_true', Bool.not_eq_false', ne_eq, Decidable.not_not, Bool.not_eq_true, Bool.and_eq_true, Bool.or_eq_true, BitVec.reduceToNat] at hg27'
            refine JR.vgt (g := 27) rfl rfl rfl rfl rfl hg27 (.ld one_28 rfl) (by decide) ?_
            refine JR.ugt (g := 27) rfl rfl rfl rfl rfl hg27 (.fieldAddr fa_113_1 rfl) (by decide) ?_
            refine JR.vgt (g := 27) rfl rfl rfl rfl rfl hg27 (.as (v' := .agg ((wd sh).map u64).toArray) (.lda agg_40 rfl) (by rfl)) (by decide) ?_
            refine JR.vgt (g := 27) rfl rfl rfl rfl rfl hg27 (.lda agg_40 rfl) (by decide) ?_
            refine JR.mgt (g := 27) rfl rfl rfl rfl hg27 (.c (f170_spec γ hγ sh hsh) body_170) (by decide) ?_
            rintro _ _ _ ⟨rfl, rfl, rfl⟩
            refine kp ?_
            refine JR.ugt (g := 27) rfl rfl rfl rfl rfl hg27 (.as (v' := .bool (!decide (γ.G ^ sh % γ.P = wantV γ com slot.toNat))) (.bin rfl rfl (neq_nat wd_len' wd_len')) (congrArg Value.bool (by rw [neq_b (Nat.lt_trans (Nat.mod_lt _ (by have := hγ.p1; omega)) hγ.pb) (wantV_lt hγ)]))) (by decide) ?_
            refine JR.ugt (g := 21) rfl rfl rfl rfl rfl hg21 (Yv.pick0 rfl hg27 rfl) (by decide) ?_
            refine JR.u rfl rfl rfl (Yv.pick1 rfl hg21 rfl) (by decide) ?_
            refine .nil (.tn ?_)
            refine .cn rfl (fun hc1 => ?_) (fun hc1 => ?_)
            · skip
              refine .region ?_
              refine .w (.assign rfl) ?_
              refine .nil (.tn (.seq (.region ?_)))
              refine .w (.move rfl) ?_
              refine .w (.assign rfl) ?_
              refine .nil (.tn (.ret ?_))
              exact .dn [] [cGrp γ, Res.mod γ.px γ.P, Res.mod γ.pq γ.Q] (res1 rfl (.tmp rfl)) ⟨congrArg it (by unfold r2E; first | (rw [if_pos (by simp_all)]; done) | (rw [if_neg (by simp_all)]; done) | (rw [if_neg (by simp_all)]; rfl)), rfl, rfl⟩
            · skip
              refine .skip (.tn (.seq (.region ?_)))
              refine .w (.move rfl) ?_
              refine .w (.assign rfl) ?_
              refine .nil (.tn (.ret ?_))
              exact .dn [] [cGrp γ, Res.mod γ.px γ.P, Res.mod γ.pq γ.Q] (res1 rfl (.tmp rfl)) ⟨congrArg it (by unfold r2E; first | (rw [if_pos (by simp_all)]; done) | (rw [if_neg (by simp_all)]; done) | (rw [if_neg (by simp_all)]; rfl)), rfl, rfl⟩
        · have hg21' := hg21
          try simp only [decide_eq_true_eq, decide_eq_false_iff_not, Bool.not_eq_true', Bool.not_eq_false', ne_eq, Decidable.not_not, Bool.not_eq_true, Bool.and_eq_true, Bool.or_eq_true, BitVec.reduceToNat] at hg21'
          refine JR.gf (g := 21) rfl rfl rfl rfl hg21 (by decide) ?_
          refine JR.gf (g := 21) rfl rfl rfl rfl hg21 (by decide) ?_
          refine JR.gf (g := 21) rfl rfl rfl rfl hg21 (by decide) ?_
          refine JR.gfm (g := 21) rfl rfl rfl rfl hg21 (by decide) ?_ ?_
          · exact ⟨Subs.sub zqe, .inr (St.keep zqe zqd)⟩
          refine JR.gf (g := 21) rfl rfl rfl rfl hg21 (by decide) ?_
          refine JR.gf (g := 21) rfl rfl rfl rfl hg21 (by decide) ?_
          refine JR.gu (g := 27) rfl rfl rfl rfl (by decide) ?_
          refine JR.gu (g := 27) rfl rfl rfl rfl (by decide) ?_
          refine JR.gu (g := 27) rfl rfl rfl rfl (by decide) ?_
          refine JR.gu (g := 27) rfl rfl rfl rfl (by decide) ?_
          refine JR.gum (g := 27) rfl rfl rfl rfl (by decide) ?_ ?_
          · exact ⟨Subs.sub zqe, .inr (St.keep zqe zqd)⟩
          refine JR.gu (g := 27) rfl rfl rfl rfl (by decide) ?_
          refine JR.gf (g := 21) rfl rfl rfl rfl hg21 (by decide) ?_
          refine JR.u rfl rfl rfl (Yv.pick0 rfl hg21 rfl) (by decide) ?_
          refine .nil (.tn ?_)
          refine .k0 rfl rfl ?_
          refine .skip (.tn (.seq (.region ?_)))
          refine .w (.move rfl) ?_
          refine .w (.assign rfl) ?_
          refine .nil (.tn (.ret ?_))
          exact .dn [] [cGrp γ, Res.mod γ.px γ.P, Res.mod γ.pq γ.Q] (res1 rfl (.tmp rfl)) ⟨congrArg it (by unfold r2E; first | (rw [if_pos (by simp_all)]; done) | (rw [if_neg (by simp_all)]; done) | (rw [if_neg (by simp_all)]; rfl)), rfl, rfl⟩
      exact JA.nil
    refine JA.alt rfl ?_ ?_
    · refine .mw rfl (Mv.alloc zero_40) ?_
      rintro _ _ _ ⟨b4, rfl, rfl, rfl⟩
      refine kp ?_
      refine .mw rfl (.cb (f180_spec γ hγ (slot.toNat + 1) (small_lt (by omega)) com.length hr1 (by omega)) body_180 (h0 := by rintro _ _ _ ⟨_, _, h, _⟩; exact h)) ?_
      rintro v15 _ _ ⟨_, ⟨_, rfl, _, rfl⟩, hΓ, hH⟩
      simp only [List.cons_append, List.nil_append] at hH; subst hΓ hH
      rw [show Res.row v15 com.length 40 4 (bks natC (powL γ.Q (slot.toNat + 1) com.length)) = Res.row v15 (powL γ.Q (slot.toNat + 1) com.length).length 40 4 (bks natC (powL γ.Q (slot.toNat + 1) com.length)) from by rw [powL_len]]
      refine kp ?_
      refine .mw rfl (.c (f179_spec γ hγ cv v15 com (powL γ.Q (slot.toNat + 1) com.length) hc (powL_lt hγ.q1 hγ.qb _ _)) body_179) ?_
      rintro _ _ _ ⟨rfl, rfl, rfl⟩
      refine kp ?_
      refine .uw rfl (.move rfl) ?_
      refine .uw rfl (.as (v' := .agg ((wd (wantV γ com slot.toNat)).map u64).toArray) (.extract rfl rfl) rfl) ?_
      refine .uw rfl (.as (v' := it (wantE γ com slot.toNat)) (.extract rfl rfl) rfl) ?_
      first | refine .mw0 rfl (.sa sz_40) ?_ | refine .mw0 rfl (.so sz_40) ?_ | refine .mw0 rfl (.sr sz_40) ?_
      rintro _ _ _ ⟨rfl, rfl⟩
      refine kp ?_
      refine .uw rfl (.assign rfl) ?_
      refine .nil (.tn (.seq (.seq ?_)))
      refine JC.draw (.one 0 (.one 1 (.one 2 (.one 3 (.one 4 (.one 5 (.one 6 (.one 7 (.one 8 (.one 9 (.one 10 (.one 11 (.one 13 (.one 12 (.one 14 (.one 15 (.one 16 .nil))))))))))))))))) (fun i => ([] : List Nat).contains i) (fun i => ([6, 12] : List Nat).contains i) (fun i => ([0, 1, 2, 4, 7, 8, 10, 14, 15, 16] : List Nat).contains i) mixed (by kernel_rfl) (by decide) (by kernel_rfl) ?_
      refine .uw rfl (.move rfl) ?_
      refine .uw rfl (.bin rfl rfl BinR.eql_i) ?_
      refine .uw rfl (.move rfl) ?_
      refine JR.gsplit (g := 20) rfl (fun hg21 => ?_) (fun hg21 => ?_)
      · have hg21' := hg21
        try simp only [decide_eq_true_eq, decide_eq_false_iff_not, Bool.not_eq_true', Bool.not_eq_false', ne_eq, Decidable.not_not, Bool.not_eq_true, Bool.and_eq_true, Bool.or_eq_true, BitVec.reduceToNat] at hg21'
        refine JR.vgt (g := 21) rfl rfl rfl rfl rfl hg21 (.ld one_28 rfl) (by decide) ?_
        refine JR.ugt (g := 21) rfl rfl rfl rfl rfl hg21 (.fieldAddr fa_113_1 rfl) (by decide) ?_
        refine JR.vgt (g := 21) rfl rfl rfl rfl rfl hg21 (.as (v' := .agg ((wd sh).map u64).toArray) (.lda agg_40 rfl) (by rfl)) (by decide) ?_
        refine JR.mgt (g := 21) rfl rfl rfl rfl hg21 (.c (f169_spec γ hγ sh hsh) body_169) (by decide) ?_
        rintro _ _ _ ⟨rfl, rfl, rfl⟩
        refine kp ?_
        refine JR.ugt (g := 21) rfl rfl rfl rfl rfl hg21 (.not rfl) (by decide) ?_
        refine JR.ugt (g := 21) rfl rfl rfl rfl rfl hg21 (.move rfl) (by decide) ?_
        refine JR.gsplit (g := 26) rfl (fun hg27 => ?_) (fun hg27 => ?_)
        · have hg27' := hg27
          try simp only [decide_eq_true_eq, decide_eq_false_iff_not, Bool.not_eq_true', Bool.not_eq_false', ne_eq, Decidable.not_not, Bool.not_eq_true, Bool.and_eq_true, Bool.or_eq_true, BitVec.reduceToNat] at hg27'
          refine JR.gf (g := 27) rfl rfl rfl rfl hg27 (by decide) ?_
          refine JR.gf (g := 27) rfl rfl rfl rfl hg27 (by decide) ?_
          refine JR.gf (g := 27) rfl rfl rfl rfl hg27 (by decide) ?_
          refine JR.gf (g := 27) rfl rfl rfl rfl hg27 (by decide) ?_
          refine JR.gfm (g := 27) rfl rfl rfl rfl hg27 (by decide) ?_ ?_
          · exact ⟨Subs.sub zqe, .inr (St.keep zqe zqd)⟩
          refine JR.gf (g := 27) rfl rfl rfl rfl hg27 (by decide) ?_
          refine JR.ugt (g := 21) rfl rfl rfl rfl rfl hg21 (Yv.pick1 rfl hg27 rfl) (by decide) ?_
          refine JR.u rfl rfl rfl (Yv.pick1 rfl hg21 rfl) (by decide) ?_
          refine .nil (.tn ?_)
          refine .k1 rfl rfl ?_
          refine .region ?_
          refine .w (.assign rfl) ?_
          refine .nil (.tn (.seq (.region ?_)))
          refine .w (.move rfl) ?_
          refine .w (.assign rfl) ?_
          refine .nil (.tn (.ret ?_))
          exact .dn [] [cGrp γ, Res.mod γ.px γ.P, Res.mod γ.pq γ.Q] (res1 rfl (.tmp rfl)) ⟨congrArg it (by unfold r2E; first | (rw [if_pos (by simp_all)]; done) | (rw [if_neg (by simp_all)]; done) | (rw [if_neg (by simp_all)]; rfl)), rfl, rfl⟩
        · have hg27' := hg27
          try simp only [decide_eq_true_eq, decide_eq_false_iff_not, Bool.not_eq_true', Bool.not_eq_false', ne_eq, Decidable.not_not, Bool.not_eq_true, Bool.and_eq_true, Bool.or_eq_true, BitVec.reduceToNat] at hg27'
          refine JR.vgt (g := 27) rfl rfl rfl rfl rfl hg27 (.ld one_28 rfl) (by decide) ?_
          refine JR.ugt (g := 27) rfl rfl rfl rfl rfl hg27 (.fieldAddr fa_113_1 rfl) (by decide) ?_
          refine JR.vgt (g := 27) rfl rfl rfl rfl rfl hg27 (.as (v' := .agg ((wd sh).map u64).toArray) (.lda agg_40 rfl) (by rfl)) (by decide) ?_
          refine JR.vgt (g := 27) rfl rfl rfl rfl rfl hg27 (.lda agg_40 rfl) (by decide) ?_
          refine JR.mgt (g := 27) rfl rfl rfl rfl hg27 (.c (f170_spec γ hγ sh hsh) body_170) (by decide) ?_
          rintro _ _ _ ⟨rfl, rfl, rfl⟩
          refine kp ?_
          refine JR.ugt (g := 27) rfl rfl rfl rfl rfl hg27 (.as (v' := .bool (!decide (γ.G ^ sh % γ.P = wantV γ com slot.toNat))) (.bin rfl rfl (neq_nat wd_len' wd_len')) (congrArg Value.bool (by rw [neq_b (Nat.lt_trans (Nat.mod_lt _ (by have := hγ.p1; omega)) hγ.pb) (wantV_lt hγ)]))) (by decide) ?_
          refine JR.ugt (g := 21) rfl rfl rfl rfl rfl hg21 (Yv.pick0 rfl hg27 rfl) (by decide) ?_
          refine JR.u rfl rfl rfl (Yv.pick1 rfl hg21 rfl) (by decide) ?_
          refine .nil (.tn ?_)
          refine .cn rfl (fun hc1 => ?_) (fun hc1 => ?_)
          · skip
            refine .region ?_
            refine .w (.assign rfl) ?_
            refine .nil (.tn (.seq (.region ?_)))
            refine .w (.move rfl) ?_
            refine .w (.assign rfl) ?_
            refine .nil (.tn (.ret ?_))
            exact .dn [] [cGrp γ, Res.mod γ.px γ.P, Res.mod γ.pq γ.Q] (res1 rfl (.tmp rfl)) ⟨congrArg it (by unfold r2E; first | (rw [if_pos (by simp_all)]; done) | (rw [if_neg (by simp_all)]; done) | (rw [if_neg (by simp_all)]; rfl)), rfl, rfl⟩
          · skip
            refine .skip (.tn (.seq (.region ?_)))
            refine .w (.move rfl) ?_
            refine .w (.assign rfl) ?_
            refine .nil (.tn (.ret ?_))
            exact .dn [] [cGrp γ, Res.mod γ.px γ.P, Res.mod γ.pq γ.Q] (res1 rfl (.tmp rfl)) ⟨congrArg it (by unfold r2E; first | (rw [if_pos (by simp_all)]; done) | (rw [if_neg (by simp_all)]; done) | (rw [if_neg (by simp_all)]; rfl)), rfl, rfl⟩
      · have hg21' := hg21
        try simp only [decide_eq_true_eq, decide_eq_false_iff_not, Bool.not_eq_true', Bool.not_eq_false', ne_eq, Decidable.not_not, Bool.not_eq_true, Bool.and_eq_true, Bool.or_eq_true, BitVec.reduceToNat] at hg21'
        refine JR.gf (g := 21) rfl rfl rfl rfl hg21 (by decide) ?_
        refine JR.gf (g := 21) rfl rfl rfl rfl hg21 (by decide) ?_
        refine JR.gf (g := 21) rfl rfl rfl rfl hg21 (by decide) ?_
        refine JR.gfm (g := 21) rfl rfl rfl rfl hg21 (by decide) ?_ ?_
        · exact ⟨Subs.sub zqe, .inr (St.keep zqe zqd)⟩
        refine JR.gf (g := 21) rfl rfl rfl rfl hg21 (by decide) ?_
        refine JR.gf (g := 21) rfl rfl rfl rfl hg21 (by decide) ?_
        refine JR.gu (g := 27) rfl rfl rfl rfl (by decide) ?_
        refine JR.gu (g := 27) rfl rfl rfl rfl (by decide) ?_
        refine JR.gu (g := 27) rfl rfl rfl rfl (by decide) ?_
        refine JR.gu (g := 27) rfl rfl rfl rfl (by decide) ?_
        refine JR.gum (g := 27) rfl rfl rfl rfl (by decide) ?_ ?_
        · exact ⟨Subs.sub zqe, .inr (St.keep zqe zqd)⟩
        refine JR.gu (g := 27) rfl rfl rfl rfl (by decide) ?_
        refine JR.gf (g := 21) rfl rfl rfl rfl hg21 (by decide) ?_
        refine JR.u rfl rfl rfl (Yv.pick0 rfl hg21 rfl) (by decide) ?_
        refine .nil (.tn ?_)
        refine .k0 rfl rfl ?_
        refine .skip (.tn (.seq (.region ?_)))
        refine .w (.move rfl) ?_
        refine .w (.assign rfl) ?_
        refine .nil (.tn (.ret ?_))
        exact .dn [] [cGrp γ, Res.mod γ.px γ.P, Res.mod γ.pq γ.Q] (res1 rfl (.tmp rfl)) ⟨congrArg it (by unfold r2E; first | (rw [if_pos (by simp_all)]; done) | (rw [if_neg (by simp_all)]; done) | (rw [if_neg (by simp_all)]; rfl)), rfl, rfl⟩
    exact JA.nil
  refine JA.alt rfl ?_ ?_
  · refine .mw rfl (Mv.alloc zero_40) ?_
    rintro _ _ _ ⟨b4, rfl, rfl, rfl⟩
    refine kp ?_
    refine .mw rfl (.c (f128_spec slot.toNat (by omega)) body_128) ?_
    rintro _ _ _ ⟨rfl, rfl, rfl⟩
    refine kp ?_
    refine .mw rfl (.cb (f180_spec γ hγ (slot.toNat + 1) (small_lt (by omega)) com.length hr1 (by omega)) body_180 (h0 := by rintro _ _ _ ⟨_, _, h, _⟩; exact h)) ?_
    rintro v15 _ _ ⟨_, ⟨_, rfl, _, rfl⟩, hΓ, hH⟩
    simp only [List.cons_append, List.nil_append] at hH; subst hΓ hH
    rw [show Res.row v15 com.length 40 4 (bks natC (powL γ.Q (slot.toNat + 1) com.length)) = Res.row v15 (powL γ.Q (slot.toNat + 1) com.length).length 40 4 (bks natC (powL γ.Q (slot.toNat + 1) com.length)) from by rw [powL_len]]
    refine kp ?_
    refine .mw rfl (.c (f179_spec γ hγ cv v15 com (powL γ.Q (slot.toNat + 1) com.length) hc (powL_lt hγ.q1 hγ.qb _ _)) body_179) ?_
    rintro _ _ _ ⟨rfl, rfl, rfl⟩
    refine kp ?_
    refine .uw rfl (.move rfl) ?_
    refine .uw rfl (.as (v' := .agg ((wd (wantV γ com slot.toNat)).map u64).toArray) (.extract rfl rfl) rfl) ?_
    refine .uw rfl (.as (v' := it (wantE γ com slot.toNat)) (.extract rfl rfl) rfl) ?_
    first | refine .mw0 rfl (.sa sz_40) ?_ | refine .mw0 rfl (.so sz_40) ?_ | refine .mw0 rfl (.sr sz_40) ?_
    rintro _ _ _ ⟨rfl, rfl⟩
    refine kp ?_
    refine .uw rfl (.assign rfl) ?_
    refine .nil (.tn (.seq (.seq ?_)))
    refine JC.draw (.one 0 (.one 1 (.one 2 (.one 3 (.one 4 (.one 5 (.one 6 (.one 7 (.one 8 (.one 9 (.one 10 (.one 11 (.one 13 (.one 12 (.one 14 (.one 15 (.one 16 .nil))))))))))))))))) (fun i => ([] : List Nat).contains i) (fun i => ([6, 12] : List Nat).contains i) (fun i => ([0, 1, 2, 4, 7, 8, 10, 14, 15, 16] : List Nat).contains i) mixed (by kernel_rfl) (by decide) (by kernel_rfl) ?_
    refine .uw rfl (.move rfl) ?_
    refine .uw rfl (.bin rfl rfl BinR.eql_i) ?_
    refine .uw rfl (.move rfl) ?_
    refine JR.gsplit (g := 20) rfl (fun hg21 => ?_) (fun hg21 => ?_)
    · have hg21' := hg21
      try simp only [decide_eq_true_eq, decide_eq_false_iff_not, Bool.not_eq_true', Bool.not_eq_false', ne_eq, Decidable.not_not, Bool.not_eq_true, Bool.and_eq_true, Bool.or_eq_true, BitVec.reduceToNat] at hg21'
      refine JR.vgt (g := 21) rfl rfl rfl rfl rfl hg21 (.ld one_28 rfl) (by decide) ?_
      refine JR.ugt (g := 21) rfl rfl rfl rfl rfl hg21 (.fieldAddr fa_113_1 rfl) (by decide) ?_
      refine JR.vgt (g := 21) rfl rfl rfl rfl rfl hg21 (.as (v' := .agg ((wd sh).map u64).toArray) (.lda agg_40 rfl) (by rfl)) (by decide) ?_
      refine JR.mgt (g := 21) rfl rfl rfl rfl hg21 (.c (f169_spec γ hγ sh hsh) body_169) (by decide) ?_
      rintro _ _ _ ⟨rfl, rfl, rfl⟩
      refine kp ?_
      refine JR.ugt (g := 21) rfl rfl rfl rfl rfl hg21 (.not rfl) (by decide) ?_
      refine JR.ugt (g := 21) rfl rfl rfl rfl rfl hg21 (.move rfl) (by decide) ?_
      refine JR.gsplit (g := 26) rfl (fun hg27 => ?_) (fun hg27 => ?_)
      · have hg27' := hg27
        try simp only [decide_eq_true_eq, decide_eq_false_iff_not, Bool.not_eq_true', Bool.not_eq_false', ne_eq, Decidable.not_not, Bool.not_eq_true, Bool.and_eq_true, Bool.or_eq_true, BitVec.reduceToNat] at hg27'
        refine JR.gf (g := 27) rfl rfl rfl rfl hg27 (by decide) ?_
        refine JR.gf (g := 27) rfl rfl rfl rfl hg27 (by decide) ?_
        refine JR.gf (g := 27) rfl rfl rfl rfl hg27 (by decide) ?_
        refine JR.gf (g := 27) rfl rfl rfl rfl hg27 (by decide) ?_
        refine JR.gfm (g := 27) rfl rfl rfl rfl hg27 (by decide) ?_ ?_
        · exact ⟨Subs.sub zqe, .inr (St.keep zqe zqd)⟩
        refine JR.gf (g := 27) rfl rfl rfl rfl hg27 (by decide) ?_
        refine JR.ugt (g := 21) rfl rfl rfl rfl rfl hg21 (Yv.pick1 rfl hg27 rfl) (by decide) ?_
        refine JR.u rfl rfl rfl (Yv.pick1 rfl hg21 rfl) (by decide) ?_
        refine .nil (.tn ?_)
        refine .k1 rfl rfl ?_
        refine .region ?_
        refine .w (.assign rfl) ?_
        refine .nil (.tn (.seq (.region ?_)))
        refine .w (.move rfl) ?_
        refine .w (.assign rfl) ?_
        refine .nil (.tn (.ret ?_))
        exact .dn [] [cGrp γ, Res.mod γ.px γ.P, Res.mod γ.pq γ.Q] (res1 rfl (.tmp rfl)) ⟨congrArg it (by unfold r2E; first | (rw [if_pos (by simp_all)]; done) | (rw [if_neg (by simp_all)]; done) | (rw [if_neg (by simp_all)]; rfl)), rfl, rfl⟩
      · have hg27' := hg27
        try simp only [decide_eq_true_eq, decide_eq_false_iff_not, Bool.not_eq_true', Bool.not_eq_false', ne_eq, Decidable.not_not, Bool.not_eq_true, Bool.and_eq_true, Bool.or_eq_true, BitVec.reduceToNat] at hg27'
        refine JR.vgt (g := 27) rfl rfl rfl rfl rfl hg27 (.ld one_28 rfl) (by decide) ?_
        refine JR.ugt (g := 27) rfl rfl rfl rfl rfl hg27 (.fieldAddr fa_113_1 rfl) (by decide) ?_
        refine JR.vgt (g := 27) rfl rfl rfl rfl rfl hg27 (.as (v' := .agg ((wd sh).map u64).toArray) (.lda agg_40 rfl) (by rfl)) (by decide) ?_
        refine JR.vgt (g := 27) rfl rfl rfl rfl rfl hg27 (.lda agg_40 rfl) (by decide) ?_
        refine JR.mgt (g := 27) rfl rfl rfl rfl hg27 (.c (f170_spec γ hγ sh hsh) body_170) (by decide) ?_
        rintro _ _ _ ⟨rfl, rfl, rfl⟩
        refine kp ?_
        refine JR.ugt (g := 27) rfl rfl rfl rfl rfl hg27 (.as (v' := .bool (!decide (γ.G ^ sh % γ.P = wantV γ com slot.toNat))) (.bin rfl rfl (neq_nat wd_len' wd_len')) (congrArg Value.bool (by rw [neq_b (Nat.lt_trans (Nat.mod_lt _ (by have := hγ.p1; omega)) hγ.pb) (wantV_lt hγ)]))) (by decide) ?_
        refine JR.ugt (g := 21) rfl rfl rfl rfl rfl hg21 (Yv.pick0 rfl hg27 rfl) (by decide) ?_
        refine JR.u rfl rfl rfl (Yv.pick1 rfl hg21 rfl) (by decide) ?_
        refine .nil (.tn ?_)
        refine .cn rfl (fun hc1 => ?_) (fun hc1 => ?_)
        · skip
          refine .region ?_
          refine .w (.assign rfl) ?_
          refine .nil (.tn (.seq (.region ?_)))
          refine .w (.move rfl) ?_
          refine .w (.assign rfl) ?_
          refine .nil (.tn (.ret ?_))
          exact .dn [] [cGrp γ, Res.mod γ.px γ.P, Res.mod γ.pq γ.Q] (res1 rfl (.tmp rfl)) ⟨congrArg it (by unfold r2E; first | (rw [if_pos (by simp_all)]; done) | (rw [if_neg (by simp_all)]; done) | (rw [if_neg (by simp_all)]; rfl)), rfl, rfl⟩
        · skip
          refine .skip (.tn (.seq (.region ?_)))
          refine .w (.move rfl) ?_
          refine .w (.assign rfl) ?_
          refine .nil (.tn (.ret ?_))
          exact .dn [] [cGrp γ, Res.mod γ.px γ.P, Res.mod γ.pq γ.Q] (res1 rfl (.tmp rfl)) ⟨congrArg it (by unfold r2E; first | (rw [if_pos (by simp_all)]; done) | (rw [if_neg (by simp_all)]; done) | (rw [if_neg (by simp_all)]; rfl)), rfl, rfl⟩
    · have hg21' := hg21
      try simp only [decide_eq_true_eq, decide_eq_false_iff_not, Bool.not_eq_true', Bool.not_eq_false', ne_eq, Decidable.not_not, Bool.not_eq_true, Bool.and_eq_true, Bool.or_eq_true, BitVec.reduceToNat] at hg21'
      refine JR.gf (g := 21) rfl rfl rfl rfl hg21 (by decide) ?_
      refine JR.gf (g := 21) rfl rfl rfl rfl hg21 (by decide) ?_
      refine JR.gf (g := 21) rfl rfl rfl rfl hg21 (by decide) ?_
      refine JR.gfm (g := 21) rfl rfl rfl rfl hg21 (by decide) ?_ ?_
      · exact ⟨Subs.sub zqe, .inr (St.keep zqe zqd)⟩
      refine JR.gf (g := 21) rfl rfl rfl rfl hg21 (by decide) ?_
      refine JR.gf (g := 21) rfl rfl rfl rfl hg21 (by decide) ?_
      refine JR.gu (g := 27) rfl rfl rfl rfl (by decide) ?_
      refine JR.gu (g := 27) rfl rfl rfl rfl (by decide) ?_
      refine JR.gu (g := 27) rfl rfl rfl rfl (by decide) ?_
      refine JR.gu (g := 27) rfl rfl rfl rfl (by decide) ?_
      refine JR.gum (g := 27) rfl rfl rfl rfl (by decide) ?_ ?_
      · exact ⟨Subs.sub zqe, .inr (St.keep zqe zqd)⟩
      refine JR.gu (g := 27) rfl rfl rfl rfl (by decide) ?_
      refine JR.gf (g := 21) rfl rfl rfl rfl hg21 (by decide) ?_
      refine JR.u rfl rfl rfl (Yv.pick0 rfl hg21 rfl) (by decide) ?_
      refine .nil (.tn ?_)
      refine .k0 rfl rfl ?_
      refine .skip (.tn (.seq (.region ?_)))
      refine .w (.move rfl) ?_
      refine .w (.assign rfl) ?_
      refine .nil (.tn (.ret ?_))
      exact .dn [] [cGrp γ, Res.mod γ.px γ.P, Res.mod γ.pq γ.Q] (res1 rfl (.tmp rfl)) ⟨congrArg it (by unfold r2E; first | (rw [if_pos (by simp_all)]; done) | (rw [if_neg (by simp_all)]; done) | (rw [if_neg (by simp_all)]; rfl)), rfl, rfl⟩
  exact JA.nil
end Go.Proofs.YtmhiapebljfebaaGreatDoor

/- Walks: whether a share is right, and a secret opens. -/
namespace Go.Proofs.YtmhiapebljfebaaGreatDoor
open Go.RowKit
set_option maxRecDepth 100000
set_option linter.unusedVariables false
set_option linter.unusedSimpArgs false
theorem ask_body (x : Nat) : Body Tryz.prog (askF x) := by
  unfold askF; split
  · exact body_176
  · exact body_178
theorem ask_spec (γ : GP) (hγ : GOk γ) (bg bc bp : Nat) (cv : Value) (com : List Nat) (hc : ∀ a ∈ com, a < 115792089237316195423570985008687907853269984665640564039457584007913129639936) (slot : Int) (sh : Nat) (hsh : sh < 115792089237316195423570985008687907853269984665640564039457584007913129639936) (x : Nat) (hx : x < 2) (hr : x = 1 → r1E γ com.length slot = 0) : Spec Tryz.prog (askF x) (#[] ++ #[] ++ askC bg bc bp x) [Res.cells bc [cv] 38, Res.cells bp (pieC slot sh) 113, Res.cells bg [ptr γ.g 0] 28, Res.rd cv com.length 4 (bks natC com), Res.var 2 ((wd 1).map u64)] [cGrp γ, Res.mod γ.px γ.P, Res.mod γ.pq γ.Q] (fun r Γ' H' => r = it (askE γ com slot sh x) ∧ Γ' = [] ∧ H' = [cGrp γ, Res.mod γ.px γ.P, Res.mod γ.pq γ.Q]) := by
  rcases (show x = 0 ∨ x = 1 by omega) with rfl | rfl
  · exact f176_spec γ hγ bg bc bp cv com hc slot sh hsh
  · exact f178_spec γ hγ bg bc bp cv com hc slot sh hsh (hr rfl)

theorem f127_spec (γ : GP) (hγ : GOk γ) (cv : Value) (com : List Nat) (hc : ∀ a ∈ com, a < 115792089237316195423570985008687907853269984665640564039457584007913129639936) (slot : Int) (sh : Nat) (hsh : sh < 115792089237316195423570985008687907853269984665640564039457584007913129639936) :
    Spec Tryz.prog 127 #[(ptr γ.g 0), cv, (.agg (pieC slot sh).toArray)] [Res.rd cv com.length 4 (bks natC com), Res.var 2 ((wd 1).map u64)] [cGrp γ, Res.mod γ.px γ.P, Res.mod γ.pq γ.Q]
      (fun r Γ' H' => r = it (rightF γ com slot sh) ∧ Γ' = [] ∧ H' = [cGrp γ, Res.mod γ.px γ.P, Res.mod γ.pq γ.Q]) := by
  refine Spec.of_args Tryz.func127 rfl Tryz.ntmps127 (by simp) fun w => ?_
  refine JC.know (φ := cv.oneCell' = true) (fun w hs => by obtain ⟨A, c, rfl, _⟩ := hs.rdForm (.head _); rfl) fun hcv => ?_
  refine .seq (.region ?_)
  refine .bx fun b3 => ?_
  refine .bx fun b4 => ?_
  rw [one_cells hcv]
  refine .bx fun b5 => ?_
  refine .w (.assign rfl) ?_
  refine .nil (.tn (.seq (.seq (.region ?_))))
  refine .w (.makeFunc rfl rfl) ?_
  refine .w (.makeFunc rfl rfl) ?_
  refine .l1 Tryz.underlying249 info_156 (fun v12 => ?_) (h1 := (by intro v hv; simp only [List.mem_cons, List.not_mem_nil, or_false] at hv; rcases hv with rfl | rfl <;> rfl))
  refine .w (.len Tryz.underlying249 rfl) ?_
  refine .w (.move rfl) ?_
  refine .nil (.tn (.block ?_))
  refine .lp (ι := Nat) (fun x => x ≤ 2 ∧ (x = 1 → r1E γ com.length slot = 0) ∧ (x = 2 → rightF γ com slot sh = 0)) (fun T x => (14, it (x : Int)) :: T) (fun T _ => T) (fun T _ => T) (fun x => 2 - x) 0 [12, 13] ?_ (fun x hx => ?_)
  · exact ⟨by decide, fun h => absurd h (by decide), fun h => absurd h (by decide)⟩
  obtain ⟨k, hk⟩ : ∃ k, k = x := ⟨_, rfl⟩
  subst hk
  obtain ⟨hk, hr1, hr2⟩ := hx
  refine .seq (.region ?_)
  refine .w (.bin rfl rfl BinR.lss_i) ?_
  refine .nil (.tn (.seq ?_))
  refine .cn rfl (fun hc1 => ?_) (fun hc1 => ?_)
  · skip
    refine .skip (.tn (.seq (.block (.seq (.region ?_)))))
    refine .w (.ix1 Tryz.underlying249 sz_156 rfl rfl) ?_
    refine .w (.ld one_156 rfl (hj := by exact ask_at (bg := b3) (bc := b4) (bp := b5) (by omega))) ?_
    refine .w (.assign rfl) ?_
    refine .nil (.tn (.seq (.region ?_)))
    refine .w (.move rfl) ?_
    refine JO.callF (ask_spec γ hγ b3 b4 b5 cv com hc slot sh hsh k (by omega) hr1) (ask_body k) rfl rfl rfl zqd (by repeat (first | exact Lends.nil _ | apply Lends.cons | exact Lend.same _ _ | exact Lend.row _ _ _ _ _ _ (by decide) | apply Lend.there)) (by rintro _ _ _ ⟨_, h, _⟩; exact h) (by decide) ?_
    rintro _ _ ⟨_, ⟨rfl, _, rfl⟩, hH⟩
    simp only [List.cons_append, List.nil_append] at hH; subst hH
    refine .w (.assign rfl) ?_
    refine .nil (.tn (.seq (.region ?_)))
    refine .w (.move rfl) ?_
    refine .w (.bin rfl rfl BinR.neq_i) ?_
    refine .nil (.tn ?_)
    refine .cn rfl (fun hc2 => ?_) (fun hc2 => ?_)
    · have hres : rightF γ com slot sh = askE γ com slot sh k := by
        rcases (show k = 0 ∨ k = 1 by omega) with rfl | rfl
        · have h2 : ¬ r1E γ com.length slot = 0 := by simpa [askE] using hc2
          rw [rightF, if_neg h2]; rfl
        · rw [rightF, if_pos (hr1 rfl)]; rfl
      refine .seq (.region ?_)
      refine .w (.move rfl) ?_
      refine .w (.assign rfl) ?_
      refine .nil (.tn (.ret (.block_ret (.then_ret (.then_ret (.block_ret (.then_ret ?_)))))))
      exact .dn [] [cGrp γ, Res.mod γ.px γ.P, Res.mod γ.pq γ.Q] (res1 rfl (.tmp rfl)) ⟨by rw [hres], rfl, rfl⟩
    · skip
      refine .skip (.block_normal (.tn (.region ?_)))
      refine .w (.asI ((k + 1 : Nat) : Int) (.bin rfl rfl (BinR.add_i zqf))) ?_
      refine .w (.move rfl) ?_
      refine .nil ?_
      refine .hd (k + 1) ?_
      refine ⟨⟨by omega, fun h => ?_, fun h => ?_⟩, by omega⟩
      · obtain rfl : k = 0 := by omega
        simpa [askE] using hc2
      · obtain rfl : k = 1 := by omega
        rw [rightF, if_pos (hr1 rfl)]; simpa [askE] using hc2
  · obtain rfl : k = 2 := by omega
    refine .exit (.then_exit (.then_exit (.block_exit (.tn (.seq (.region ?_))))))
    refine .w (.assign rfl) ?_
    refine .nil (.tn (.ret ?_))
    exact .dn [] [cGrp γ, Res.mod γ.px γ.P, Res.mod γ.pq γ.Q] (res1 rfl (.tmp rfl)) ⟨by rw [hr2 rfl], rfl, rfl⟩

theorem f122_spec (γ : GP) (hγ : GOk γ) (cv : Value) (com : List Nat) (hc : ∀ a ∈ com, a < 115792089237316195423570985008687907853269984665640564039457584007913129639936) (s : Nat) (hs : s < 115792089237316195423570985008687907853269984665640564039457584007913129639936) :
    Spec Tryz.prog 122 #[(ptr γ.g 0), cv, (.agg ((wd s).map u64).toArray)] [Res.rd cv com.length 4 (bks natC com)] [cGrp γ, Res.mod γ.px γ.P, Res.mod γ.pq γ.Q]
      (fun r Γ' H' => r = .bool (opensB γ com s) ∧ Γ' = [] ∧ H' = [cGrp γ, Res.mod γ.px γ.P, Res.mod γ.pq γ.Q]) := by
  refine Spec.of_args Tryz.func122 rfl Tryz.ntmps122 (by simp) fun w => ?_
  refine JC.know (φ := com.length ≤ 9223372036854775807) (fun w hs => by obtain ⟨_, _, _, _, _, _, h⟩ := hs.rdForm (.head _); unfold maxLen at h; omega) fun hll => ?_
  refine .seq (.region ?_)
  refine .bx fun b5 => ?_
  refine .w (.assign rfl) ?_
  refine .nil (.tn (.seq ?_))
  refine JC.draw (.one 0 (.one 1 (.one 2 (.one 3 (.one 4 (.one 5 (.one 6 (.one 7 (.one 8 (.one 9 (.one 10 (.one 12 (.one 13 (.one 14 (.one 11 (.one 15 (.one 16 (.one 17 .nil)))))))))))))))))) (fun i => ([11] : List Nat).contains i) (fun i => ([6, 11] : List Nat).contains i) (fun i => ([0, 1, 2, 3, 4, 7, 8, 9, 12, 13, 14, 15, 16, 17] : List Nat).contains i) mixed (by kernel_rfl) (by decide) (by kernel_rfl) ?_
  refine .uw rfl (.move rfl) ?_
  refine .uw rfl (.len Tryz.underlying38 rfl) ?_
  refine .uw rfl (.bin rfl rfl BinR.gtr_i) ?_
  refine .uw rfl (.move rfl) ?_
  refine JR.gsplit (g := 9) rfl (fun hg7 => ?_) (fun hg7 => ?_)
  · have hg7' := hg7
    try simp only [decide_eq_true_eq, decide_eq_false_iff_not, Bool.not_eq_true', Bool.not_eq_false', ne_eq, Decidable.not_not, Bool.not_eq_true, Bool.and_eq_true, Bool.or_eq_true, BitVec.reduceToNat] at hg7'
    have hcl : 0 < com.length := by omega
    refine JR.ugt (g := 10) rfl rfl rfl rfl rfl hg7 (.move rfl) (by decide) ?_
    refine JR.vgt (g := 10) rfl rfl rfl rfl rfl hg7 (.lda agg_40 rfl) (by decide) ?_
    refine JR.mgt (g := 10) rfl rfl rfl rfl hg7 (.c (f169_spec γ hγ s hs) body_169) (by decide) ?_
    rintro _ _ _ ⟨rfl, rfl, rfl⟩
    refine kp ?_
    refine JR.u rfl rfl rfl (Yv.pick1 rfl hg7 rfl) (by decide) ?_
    refine .uw rfl (.move rfl) ?_
    refine JR.gsplit (g := 14) rfl (fun hg12 => ?_) (fun hg12 => ?_)
    · have hg12' := hg12
      try simp only [decide_eq_true_eq, decide_eq_false_iff_not, Bool.not_eq_true', Bool.not_eq_false', ne_eq, Decidable.not_not, Bool.not_eq_true, Bool.and_eq_true, Bool.or_eq_true, BitVec.reduceToNat] at hg12'
      refine JR.ugt (g := 15) rfl rfl rfl rfl rfl hg12 (.move rfl) (by decide) ?_
      refine JR.vgt (g := 15) rfl rfl rfl rfl rfl hg12 (.lda agg_40 rfl) (by decide) ?_
      refine JR.ugt (g := 15) rfl rfl rfl rfl rfl hg12 (.move rfl) (by decide) ?_
      refine JR.ugt (g := 15) rfl rfl rfl rfl rfl hg12 (.ix (j := 0) Tryz.underlying38 sz_40 rfl rfl) (by decide) ?_
      refine JR.ugt (g := 15) rfl rfl rfl rfl rfl hg12 (.as (v' := .agg ((wd (com.getD 0 0)).map u64).toArray) (.lda agg_40 rfl (hm := by first | exact AM.own (by (repeat (first | exact List.Mem.head _ | refine List.Mem.tail _ ?_)); first | done | fail) (by rw [bks_len]; omega) | exact AM.ro (by (repeat (first | exact List.Mem.head _ | refine List.Mem.tail _ ?_)); first | done | fail) (by rw [bks_len]; omega) | exact AM.ownAt (by (repeat (first | exact List.Mem.head _ | refine List.Mem.tail _ ?_)); first | done | fail) (by rw [bks_len]; omega) | exact AM.rd zqc (by rw [bks_len]; omega) | exact AM.row zqa (by rw [bks_len]; omega))) (congrArg (fun l : List Value => Value.agg l.toArray) (nat_piece (k := 0) (by omega)))) (by decide) ?_
      refine JR.mgt (g := 15) rfl rfl rfl rfl hg12 (.c (f170_spec γ hγ s hs) body_170) (by decide) ?_
      rintro _ _ _ ⟨rfl, rfl, rfl⟩
      refine kp ?_
      refine JR.ugt (g := 15) rfl rfl rfl rfl rfl hg12 (.as (v' := .bool (decide (γ.G ^ s % γ.P = com.getD 0 0))) (.bin rfl rfl (eql_nat wd_len' wd_len')) (congrArg Value.bool (eq_b (Nat.lt_trans (Nat.mod_lt _ (by have := hγ.p1; omega)) hγ.pb) (nat_lt hc (by omega))))) (by decide) ?_
      refine JR.u rfl rfl rfl (Yv.pick1 rfl hg12 rfl) (by decide) ?_
      refine .uw rfl (.assign rfl) ?_
      refine .nil (.tn (.ret ?_))
      exact .dn [] [cGrp γ, Res.mod γ.px γ.P, Res.mod γ.pq γ.Q] (res1 rfl (.tmp rfl)) ⟨congrArg Value.bool (by unfold opensB; first | (simp_all; done) | (simp_all; omega) | (simp_all; intros; omega)), rfl, rfl⟩
    · have hg12' := hg12
      try simp only [decide_eq_true_eq, decide_eq_false_iff_not, Bool.not_eq_true', Bool.not_eq_false', ne_eq, Decidable.not_not, Bool.not_eq_true, Bool.and_eq_true, Bool.or_eq_true, BitVec.reduceToNat] at hg12'
      refine JR.gf (g := 15) rfl rfl rfl rfl hg12 (by decide) ?_
      refine JR.gf (g := 15) rfl rfl rfl rfl hg12 (by decide) ?_
      refine JR.gf (g := 15) rfl rfl rfl rfl hg12 (by decide) ?_
      refine JR.gf (g := 15) rfl rfl rfl rfl hg12 (by decide) ?_
      refine JR.gf (g := 15) rfl rfl rfl rfl hg12 (by decide) ?_
      refine JR.gfm (g := 15) rfl rfl rfl rfl hg12 (by decide) ?_ ?_
      · exact ⟨Subs.sub zqe, .inl rfl⟩
      refine JR.gf (g := 15) rfl rfl rfl rfl hg12 (by decide) ?_
      refine JR.u rfl rfl rfl (Yv.pick0 rfl hg12 rfl) (by decide) ?_
      refine .uw rfl (.assign rfl) ?_
      refine .nil (.tn (.ret ?_))
      exact .dn [] [cGrp γ, Res.mod γ.px γ.P, Res.mod γ.pq γ.Q] (res1 rfl (.tmp rfl)) ⟨congrArg Value.bool (by unfold opensB; first | (simp_all; done) | (simp_all; omega) | (simp_all; intros; omega)), rfl, rfl⟩
  · have hg7' := hg7
    try simp only [decide_eq_true_eq, decide_eq_false_iff_not, Bool.not_eq_true', Bool.not_eq_false', ne_eq, Decidable.not_not, Bool.not_eq_true, Bool.and_eq_true, Bool.or_eq_true, BitVec.reduceToNat] at hg7'
    refine JR.gf (g := 10) rfl rfl rfl rfl hg7 (by decide) ?_
    refine JR.gf (g := 10) rfl rfl rfl rfl hg7 (by decide) ?_
    refine JR.gfm (g := 10) rfl rfl rfl rfl hg7 (by decide) ?_ ?_
    · exact ⟨Subs.sub zqe, .inr (St.keep zqe zqd)⟩
    refine JR.u rfl rfl rfl (Yv.pick0 rfl hg7 rfl) (by decide) ?_
    refine .uw rfl (.move rfl) ?_
    refine JR.gf (g := 15) rfl rfl rfl rfl rfl (by decide) ?_
    refine JR.gf (g := 15) rfl rfl rfl rfl rfl (by decide) ?_
    refine JR.gf (g := 15) rfl rfl rfl rfl rfl (by decide) ?_
    refine JR.gf (g := 15) rfl rfl rfl rfl rfl (by decide) ?_
    refine JR.gf (g := 15) rfl rfl rfl rfl rfl (by decide) ?_
    refine JR.gfm (g := 15) rfl rfl rfl rfl rfl (by decide) ?_ ?_
    · exact ⟨Subs.sub zqe, .inl rfl⟩
    refine JR.gf (g := 15) rfl rfl rfl rfl rfl (by decide) ?_
    refine JR.u rfl rfl rfl (Yv.pick0 rfl rfl rfl) (by decide) ?_
    refine .uw rfl (.assign rfl) ?_
    refine .nil (.tn (.ret ?_))
    exact .dn [] [cGrp γ, Res.mod γ.px γ.P, Res.mod γ.pq γ.Q] (res1 rfl (.tmp rfl)) ⟨congrArg Value.bool (by unfold opensB; first | (simp_all; done) | (simp_all; omega) | (simp_all; intros; omega)), rfl, rfl⟩
end Go.Proofs.YtmhiapebljfebaaGreatDoor
