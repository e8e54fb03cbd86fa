/- Walks: the rule of prevotes. -/
import Derived.Test.YtncececcopalgaaDoorF6
namespace Go.Proofs.YtncececcopalgaaDoor
open Go.RowKit
set_option maxRecDepth 100000
set_option linter.unusedVariables false
set_option linter.unusedSimpArgs false
theorem f44_spec (p : Nat) (s : RA) (hok : s.Ok) :
    Spec Tryd.prog 44 #[(ptr p 0)] [Res.var 0 [u64 9223372036854775808, u64 0, u64 0, u64 0]] (RA.H p s)
      (fun r Γ' H' => ∃ (s' : RA) (w : Value), s'.Ok ∧ s'.abs = (s.abs.prevote).1 ∧ r = .tuple #[w, .bool (s.abs.prevote).2.2] ∧ Γ' = [] ∧ H' = Res.row w (s.abs.prevote).2.1.length 41 35 (acC (s.abs.prevote).2.1) :: RA.H p s') := by
  refine Spec.of_args Tryd.func44 rfl Tryd.ntmps44 (by simp) fun w => ?_
  refine .seq (.region ?_)
  refine .w (.assign rfl) ?_
  refine .w (.assign rfl) ?_
  refine .nil (.tn (.seq ?_))
  refine JC.draw (.one 0 (.one 1 (.one 2 (.one 3 (.one 4 (.one 5 (.one 6 (.one 7 (.one 8 (.one 9 (.one 10 (.one 11 (.one 12 (.one 13 (.one 14 .nil))))))))))))))) (fun i => ([13] : List Nat).contains i) (fun i => ([12, 13] : List Nat).contains i) (fun i => ([0, 1, 2, 4, 5, 6, 9, 10, 11, 14] : List Nat).contains i) mixed (by kernel_rfl) (by decide) (by kernel_rfl) ?_
  refine .uw rfl (.move rfl) ?_
  refine .uw rfl (.nilCheck rfl) ?_
  refine .uw rfl (.fieldAddr fa_77_9 rfl) ?_
  refine .w rfl (.ld one_73 rfl (hj := by first | exact RA.get_rd _ | exact RA.get_st _ | exact RA.get_me _ | exact RA.get_sh _ | exact RA.get_sv _ | exact RA.get_lkr _ | exact RA.get_vdr _ | exact RA.get_dcr _ | exact RA.get_bp _ | exact RA.get_bt _ | exact RA.get_bd _ | exact RA.pr_valid _ | exact RA.pr_good _ | rfl | exact tab_get (by first | omega | (simp; omega)) | exact gm (d := 0) (by first | omega | (simp; omega)))) ?_
  refine .uw rfl (.move rfl) ?_
  refine .uw rfl (.nilCheck rfl) ?_
  refine .uw rfl (.fieldAddr fa_77_4 rfl) ?_
  refine .w rfl (.ld one_3 rfl (hj := by first | exact RA.get_rd _ | exact RA.get_st _ | exact RA.get_me _ | exact RA.get_sh _ | exact RA.get_sv _ | exact RA.get_lkr _ | exact RA.get_vdr _ | exact RA.get_dcr _ | exact RA.get_bp _ | exact RA.get_bt _ | exact RA.get_bd _ | exact RA.pr_valid _ | exact RA.pr_good _ | rfl | exact tab_get (by first | omega | (simp; omega)) | exact gm (d := 0) (by first | omega | (simp; omega)))) ?_
  refine .w rfl (.as (v' := .tuple #[prV ((s.pr.get s.rd).getD Prp0), .bool (s.pr.get s.rd).isSome]) (.lk2 s.rd Tryd.underlying73 mkey_73 zf_100) (by cases s.pr.get s.rd <;> rfl)) ?_
  refine .uw rfl (.move rfl) ?_
  refine .uw rfl (.as (v' := prV ((s.pr.get s.rd).getD Prp0)) (.extract rfl rfl) rfl) ?_
  refine .uw rfl (.as (v' := .bool (s.pr.get s.rd).isSome) (.extract rfl rfl) rfl) ?_
  refine .mw rfl (Mv.alloc zero_100) ?_
  rintro _ _ _ ⟨b4, rfl, rfl, rfl⟩
  refine kp ?_
  refine .mw0 rfl (.sa sz_100 (h1 := (Prp.one _))) ?_
  rintro _ _ _ ⟨rfl, rfl⟩
  refine kp ?_
  refine .uw rfl (.assign rfl) ?_
  refine .nil (.tn (.seq (.seq (.region ?_))))
  refine .w (.move rfl) ?_
  refine .w (.nilCheck rfl) ?_
  refine .w (.fieldAddr fa_77_5 rfl) ?_
  refine .w (.ld one_3 rfl (hj := by first | exact RA.get_rd _ | exact RA.get_st _ | exact RA.get_me _ | exact RA.get_sh _ | exact RA.get_sv _ | exact RA.get_lkr _ | exact RA.get_vdr _ | exact RA.get_dcr _ | exact RA.get_bp _ | exact RA.get_bt _ | exact RA.get_bd _ | exact RA.pr_valid _ | exact RA.pr_good _ | rfl | exact tab_get (by first | omega | (simp; omega)) | exact gm (d := 0) (by first | omega | (simp; omega)))) ?_
  refine .w (.bin rfl rfl BinR.neq_i) ?_
  refine .w (.move rfl) ?_
  refine .gn (g := 23) rfl (fun hg24 hg24' => ?_) (fun hg24 hg24' => ?_)
  · have hno := AR.prevote_no1 (a := s.abs) hg24'
    refine .gf (g := 24) rfl rfl hg24 (by decide) ?_
    refine .gf (g := 24) rfl rfl hg24 (by decide) ?_
    refine .w (.pick1 rfl hg24 rfl) ?_
    refine .w (.move rfl) ?_
    refine .gf (g := 28) rfl rfl rfl (by decide) ?_
    refine .gf (g := 28) rfl rfl rfl (by decide) ?_
    refine .gf (g := 28) rfl rfl rfl (by decide) ?_
    refine .gf (g := 28) rfl rfl rfl (by decide) ?_
    refine .gu (g := 32) rfl rfl (by decide) ?_
    refine .gu (g := 32) rfl rfl (by decide) ?_
    refine .gu (g := 32) rfl rfl (by decide) ?_
    refine .gu (g := 32) rfl rfl (by decide) ?_
    refine .gu (g := 32) rfl rfl (by decide) ?_
    refine .gu (g := 32) rfl rfl (by decide) ?_
    refine .gu (g := 32) rfl rfl (by decide) ?_
    refine .gf (g := 28) rfl rfl rfl (by decide) ?_
    refine .w (.pick1 rfl rfl rfl) ?_
    refine .nil (.tn ?_)
    refine .k1 rfl rfl ?_
    refine .seq (.region ?_)
    refine .w (.assign rfl) ?_
    refine .w (.assign rfl) ?_
    refine .nil (.tn (.ret (.then_ret ?_)))
    refine .nilRow 41 35 ?_
    exact .dn [] (Res.row (.slice none 0 0) 0 41 35 [] :: RA.H p s) (res2 rfl (.tmp rfl) (.tmp rfl)) ⟨s, _, (RA.Like.refl hok).ok, by rw [hno]; exact (RA.Like.refl hok).abs, by rw [hno]; rfl, rfl, by rw [hno]; rfl⟩
  · refine .gt (g := 24) rfl rfl hg24 ?_
    refine .w (.move rfl) ?_
    refine .gt (g := 24) rfl rfl hg24 ?_
    refine .w (.not rfl) ?_
    refine .w (.pick0 rfl hg24 rfl) ?_
    refine .w (.move rfl) ?_
    refine .gn (g := 27) rfl (fun hg28 hg28' => ?_) (fun hg28 hg28' => ?_)
    · have hP : s.abs.pr s.abs.rd = none := by have h := hg28'; cases hq : s.pr.get s.rd with
        | none => exact hq
        | some _ => rw [hq] at h; cases h
      have hno := AR.prevote_no2 (a := s.abs) hg24' hP
      refine .gf (g := 28) rfl rfl hg28 (by decide) ?_
      refine .gf (g := 28) rfl rfl hg28 (by decide) ?_
      refine .gf (g := 28) rfl rfl hg28 (by decide) ?_
      refine .gf (g := 28) rfl rfl hg28 (by decide) ?_
      refine .gu (g := 32) rfl rfl (by decide) ?_
      refine .gu (g := 32) rfl rfl (by decide) ?_
      refine .gu (g := 32) rfl rfl (by decide) ?_
      refine .gu (g := 32) rfl rfl (by decide) ?_
      refine .gu (g := 32) rfl rfl (by decide) ?_
      refine .gu (g := 32) rfl rfl (by decide) ?_
      refine .gu (g := 32) rfl rfl (by decide) ?_
      refine .gf (g := 28) rfl rfl hg28 (by decide) ?_
      refine .w (.pick1 rfl hg28 rfl) ?_
      refine .nil (.tn ?_)
      refine .k1 rfl rfl ?_
      refine .seq (.region ?_)
      refine .w (.assign rfl) ?_
      refine .w (.assign rfl) ?_
      refine .nil (.tn (.ret (.then_ret ?_)))
      refine .nilRow 41 35 ?_
      exact .dn [] (Res.row (.slice none 0 0) 0 41 35 [] :: RA.H p s) (res2 rfl (.tmp rfl) (.tmp rfl)) ⟨s, _, (RA.Like.refl hok).ok, by rw [hno]; exact (RA.Like.refl hok).abs, by rw [hno]; rfl, rfl, by rw [hno]; rfl⟩
    · obtain ⟨P, hP⟩ := Option.isSome_iff_exists.1 hg28'
      have hPg : ((s.pr.get s.rd).getD Prp0) = P := by rw [hP]; rfl
      rw [hPg]
      have hP' : s.abs.pr s.abs.rd = some P := hP
      refine .gt (g := 28) rfl rfl hg28 ?_
      refine .w (.fieldAddr fa_100_1 rfl) ?_
      refine .gt (g := 28) rfl rfl hg28 ?_
      refine .w (.ld one_3 rfl (hj := by first | exact RA.get_rd _ | exact RA.get_st _ | exact RA.get_me _ | exact RA.get_sh _ | exact RA.get_sv _ | exact RA.get_lkr _ | exact RA.get_vdr _ | exact RA.get_dcr _ | exact RA.get_bp _ | exact RA.get_bt _ | exact RA.get_bd _ | exact RA.pr_valid _ | exact RA.pr_good _ | rfl | exact tab_get (by first | omega | (simp; omega)) | exact gm (d := 0) (by first | omega | (simp; omega)))) ?_
      refine .gt (g := 28) rfl rfl hg28 ?_
      refine .w (.bin rfl rfl BinR.geq_i) ?_
      refine .gt (g := 28) rfl rfl hg28 ?_
      refine .w (.move rfl) ?_
      refine .gn (g := 31) rfl (fun hg32 hg32' => ?_) (fun hg32 hg32' => ?_)
      · refine .gt (g := 32) rfl rfl hg32 ?_
        refine .w (.move rfl) ?_
        refine .gt (g := 32) rfl rfl hg32 ?_
        refine .w (.fieldAddr fa_100_1 rfl) ?_
        refine .gt (g := 32) rfl rfl hg32 ?_
        refine .w (.ld one_3 rfl (hj := by first | exact RA.get_rd _ | exact RA.get_st _ | exact RA.get_me _ | exact RA.get_sh _ | exact RA.get_sv _ | exact RA.get_lkr _ | exact RA.get_vdr _ | exact RA.get_dcr _ | exact RA.get_bp _ | exact RA.get_bt _ | exact RA.get_bd _ | exact RA.pr_valid _ | exact RA.pr_good _ | rfl | exact tab_get (by first | omega | (simp; omega)) | exact gm (d := 0) (by first | omega | (simp; omega)))) ?_
        refine .gt (g := 32) rfl rfl hg32 ?_
        refine .w (.fieldAddr fa_100_0 rfl) ?_
        refine .gt (g := 32) rfl rfl hg32 ?_
        refine .w (.as (v' := dgV P.v) (.lda agg_24 rfl) (congrArg (fun l : List Value => Value.agg l.toArray) (RA.pr_v _))) ?_
        refine .gt (g := 32) rfl rfl hg32 ?_
        refine .cb (f51_spec p s hok 2 P.valid P.v) body_51 ?_ (h0 := by rintro _ _ _ ⟨_, _, _, h, _⟩; exact h)
        rintro _ _ ⟨s1, hl1, rfl, _, rfl⟩
        refine .ap ?_
        refine .gt (g := 32) rfl rfl hg32 ?_
        refine .w (.not rfl) ?_
        refine .gt (g := 28) rfl rfl hg28 ?_
        refine .w (.pick1 rfl hg32 rfl) ?_
        refine .w (.pick0 rfl hg28 rfl) ?_
        refine .nil (.tn ?_)
        refine .cn rfl (fun hc1 => ?_) (fun hc1 => ?_)
        · have hno := AR.prevote_no3 (a := s.abs) hg24' hP' hg32' hc1
          refine .seq (.region ?_)
          refine .w (.assign rfl) ?_
          refine .w (.assign rfl) ?_
          refine .nil (.tn (.ret (.then_ret ?_)))
          refine .nilRow 41 35 ?_
          exact .dn [] (Res.row (.slice none 0 0) 0 41 35 [] :: RA.H p s1) (res2 rfl (.tmp rfl) (.tmp rfl)) ⟨s1, _, hl1.ok, by rw [hno]; exact hl1.abs, by rw [hno]; rfl, rfl, by rw [hno]; rfl⟩
        · have hyes := AR.prevote_yes (a := s.abs) hg24' hP' (fun h => by rw [hc1] at h; exact absurd h.2 (by decide))
          refine .skip (.tn (.seq (.region ?_)))
          refine .al zero_24 fun b6 => ?_
          refine .nil (.tn (.seq (.seq ?_)))
          refine JC.draw (.one 0 (.one 1 (.one 2 (.one 3 (.one 4 (.one 5 (.one 6 (.one 7 (.one 8 (.one 9 (.one 10 (.one 11 (.one 12 (.one 13 (.one 14 (.one 15 (.one 16 (.one 17 (.one 18 (.one 19 (.one 20 (.one 21 .nil)))))))))))))))))))))) (fun i => ([] : List Nat).contains i) (fun i => ([] : List Nat).contains i) (fun i => ([0, 2, 3, 4, 5, 6, 8, 10, 11, 12, 13, 14, 15, 17, 19, 20, 21] : List Nat).contains i) mixed (by kernel_rfl) (by decide) (by kernel_rfl) ?_
          refine .uw rfl (.fieldAddr fa_100_2 rfl) ?_
          refine .w rfl (.ld one_4 rfl (hj := by first | exact RA.get_rd _ | exact RA.get_st _ | exact RA.get_me _ | exact RA.get_sh _ | exact RA.get_sv _ | exact RA.get_lkr _ | exact RA.get_vdr _ | exact RA.get_dcr _ | exact RA.get_bp _ | exact RA.get_bt _ | exact RA.get_bd _ | exact RA.pr_valid _ | exact RA.pr_good _ | rfl | exact tab_get (by first | omega | (simp; omega)) | exact gm (d := 0) (by first | omega | (simp; omega)))) ?_
          refine .uw rfl (.move rfl) ?_
          refine JR.gsplit (g := 43) rfl (fun hg47 => ?_) (fun hg47 => ?_)
          · have hg47' := hg47
            try simp only [decide_eq_true_eq, decide_eq_false_iff_not, Bool.not_eq_true', Bool.not_eq_false', ne_eq, Decidable.not_not, Bool.not_eq_true, Bool.and_eq_true, Bool.or_eq_true, BitVec.reduceToNat] at hg47'
            refine JR.ugt (g := 44) rfl rfl rfl rfl rfl hg47 (.move rfl) (by decide) ?_
            refine JR.ugt (g := 44) rfl rfl rfl rfl rfl hg47 (.nilCheck rfl) (by decide) ?_
            refine JR.ugt (g := 44) rfl rfl rfl rfl rfl hg47 (.fieldAddr fa_77_6 rfl) (by decide) ?_
            refine JR.ugt (g := 44) rfl rfl rfl rfl rfl hg47 (.fieldAddr fa_71_1 rfl) (by decide) ?_
            refine JR.vgt (g := 44) rfl rfl rfl rfl rfl hg47 (.ld one_3 rfl (hj := by first | exact RA.get_rd _ | exact RA.get_st _ | exact RA.get_me _ | exact RA.get_sh _ | exact RA.get_sv _ | exact RA.get_lkr _ | exact RA.get_vdr _ | exact RA.get_dcr _ | exact RA.get_bp _ | exact RA.get_bt _ | exact RA.get_bd _ | exact RA.pr_valid _ | exact RA.pr_good _ | rfl | exact tab_get (by first | omega | (simp; omega)) | exact gm (d := 0) (by first | omega | (simp; omega)))) (by decide) ?_
            refine JR.ugt (g := 44) rfl rfl rfl rfl rfl hg47 (.fieldAddr fa_100_1 rfl) (by decide) ?_
            refine JR.vgt (g := 44) rfl rfl rfl rfl rfl hg47 (.ld one_3 rfl (hj := by first | exact RA.get_rd _ | exact RA.get_st _ | exact RA.get_me _ | exact RA.get_sh _ | exact RA.get_sv _ | exact RA.get_lkr _ | exact RA.get_vdr _ | exact RA.get_dcr _ | exact RA.get_bp _ | exact RA.get_bt _ | exact RA.get_bd _ | exact RA.pr_valid _ | exact RA.pr_good _ | rfl | exact tab_get (by first | omega | (simp; omega)) | exact gm (d := 0) (by first | omega | (simp; omega)))) (by decide) ?_
            refine JR.ugt (g := 44) rfl rfl rfl rfl rfl hg47 (.bin rfl rfl BinR.leq_i) (by decide) ?_
            refine JR.ugt (g := 44) rfl rfl rfl rfl rfl hg47 (.move rfl) (by decide) ?_
            refine JR.gsplit (g := 52) rfl (fun hg56 => ?_) (fun hg56 => ?_)
            · have hg56' := hg56
              try simp only [decide_eq_true_eq, decide_eq_false_iff_not, Bool.not_eq_true', Bool.not_eq_false', ne_eq, Decidable.not_not, Bool.not_eq_true, Bool.and_eq_true, Bool.or_eq_true, BitVec.reduceToNat] at hg56'
              refine JR.gf (g := 53) rfl rfl rfl rfl hg56 (by decide) ?_
              refine JR.gf (g := 53) rfl rfl rfl rfl hg56 (by decide) ?_
              refine JR.gf (g := 53) rfl rfl rfl rfl hg56 (by decide) ?_
              refine JR.gf (g := 53) rfl rfl rfl rfl hg56 (by decide) ?_
              refine JR.gf (g := 53) rfl rfl rfl rfl hg56 (by decide) ?_
              refine JR.gf (g := 53) rfl rfl rfl rfl hg56 (by decide) ?_
              refine JR.gf (g := 53) rfl rfl rfl rfl hg56 (by decide) ?_
              refine JR.gf (g := 53) rfl rfl rfl rfl hg56 (by decide) ?_
              refine JR.ugt (g := 44) rfl rfl rfl rfl rfl hg47 (Yv.pick1 rfl hg56 rfl) (by decide) ?_
              refine JR.u rfl rfl rfl (Yv.pick1 rfl hg47 rfl) (by decide) ?_
              refine .nil (.tn ?_)
              refine .k1 rfl rfl ?_
              have hW : (s.abs.wOf P) = P.v := if_pos ⟨hg47', .inl (by show s.lk.r ≤ _; rw [← hl1.lk]; exact hg56')⟩
              refine .region ?_
              refine .w (.fieldAddr fa_100_0 rfl) ?_
              refine .w (.as (v' := dgV P.v) (.lda agg_24 rfl) (congrArg (fun l : List Value => Value.agg l.toArray) (RA.pr_v _))) ?_
              refine .sa sz_24 ?_
              refine .nil (.tn (.seq (.region ?_)))
              refine .w (.move rfl) ?_
              refine .w (.as (v' := dgV (s.abs.wOf P)) (.lda agg_24 rfl) (by first | (rw [hW]; done) | (rw [hW]; rfl))) ?_
              refine .cb (f33_spec p s1 2 (s.abs.wOf P)) body_33 ?_
              rintro _ _ ⟨_, _, rfl⟩
              refine .ap ?_
              rw [hl1.abs]
              refine .w (.assign rfl) ?_
              refine .w (.assign rfl) ?_
              refine .nil (.tn (.ret ?_))
              exact .dn [] (Res.row _ 1 41 35 (acC (s.abs.vote 2 (s.abs.wOf P)).2) :: RA.H p (s1.setSt 2)) (res2 rfl (.tmp rfl) (.tmp rfl)) ⟨(s1.setSt 2), _, (RA.st_ok hl1.ok (by decide) (by decide)), by rw [hyes]; exact (by show (s1.abs.vote 2 (s.abs.wOf P)).1 = _; rw [hl1.abs]), by rw [hyes], rfl, by rw [hyes]; rfl⟩
            · have hg56' := hg56
              try simp only [decide_eq_true_eq, decide_eq_false_iff_not, Bool.not_eq_true', Bool.not_eq_false', ne_eq, Decidable.not_not, Bool.not_eq_true, Bool.and_eq_true, Bool.or_eq_true, BitVec.reduceToNat] at hg56'
              refine JR.ugt (g := 53) rfl rfl rfl rfl rfl hg56 (.move rfl) (by decide) ?_
              refine JR.ugt (g := 53) rfl rfl rfl rfl rfl hg56 (.nilCheck rfl) (by decide) ?_
              refine JR.ugt (g := 53) rfl rfl rfl rfl rfl hg56 (.fieldAddr fa_77_6 rfl) (by decide) ?_
              refine JR.ugt (g := 53) rfl rfl rfl rfl rfl hg56 (.fieldAddr fa_71_0 rfl) (by decide) ?_
              refine JR.vgt (g := 53) rfl rfl rfl rfl rfl hg56 (.as (v' := dgV s1.lk.v) (.lda agg_24 rfl) (congrArg (fun l : List Value => Value.agg l.toArray) (RA.drop_lk _))) (by decide) ?_
              refine JR.ugt (g := 53) rfl rfl rfl rfl rfl hg56 (.fieldAddr fa_100_0 rfl) (by decide) ?_
              refine JR.vgt (g := 53) rfl rfl rfl rfl rfl hg56 (.as (v' := dgV P.v) (.lda agg_24 rfl) (congrArg (fun l : List Value => Value.agg l.toArray) (RA.pr_v _))) (by decide) ?_
              refine JR.ugt (g := 53) rfl rfl rfl rfl rfl hg56 (.bin rfl rfl (eql_dig)) (by decide) ?_
              refine JR.ugt (g := 44) rfl rfl rfl rfl rfl hg47 (Yv.pick0 rfl hg56 rfl) (by decide) ?_
              refine JR.u rfl rfl rfl (Yv.pick1 rfl hg47 rfl) (by decide) ?_
              refine .nil (.tn ?_)
              refine .cn rfl (fun hc2 => ?_) (fun hc2 => ?_)
              · have hW : (AR.wOf s.abs P) = P.v := if_pos ⟨hg47', .inr (by show s.lk.v = _; rw [← hl1.lk]; exact hc2)⟩
                refine .region ?_
                refine .w (.fieldAddr fa_100_0 rfl) ?_
                refine .w (.as (v' := dgV P.v) (.lda agg_24 rfl) (congrArg (fun l : List Value => Value.agg l.toArray) (RA.pr_v _))) ?_
                refine .sa sz_24 ?_
                refine .nil (.tn (.seq (.region ?_)))
                refine .w (.move rfl) ?_
                refine .w (.as (v' := dgV (s.abs.wOf P)) (.lda agg_24 rfl) (by first | (rw [hW]; done) | (rw [hW]; rfl))) ?_
                refine .cb (f33_spec p s1 2 (s.abs.wOf P)) body_33 ?_
                rintro _ _ ⟨_, _, rfl⟩
                refine .ap ?_
                rw [hl1.abs]
                refine .w (.assign rfl) ?_
                refine .w (.assign rfl) ?_
                refine .nil (.tn (.ret ?_))
                exact .dn [] (Res.row _ 1 41 35 (acC (s.abs.vote 2 (s.abs.wOf P)).2) :: RA.H p (s1.setSt 2)) (res2 rfl (.tmp rfl) (.tmp rfl)) ⟨(s1.setSt 2), _, (RA.st_ok hl1.ok (by decide) (by decide)), by rw [hyes]; exact (by show (s1.abs.vote 2 (s.abs.wOf P)).1 = _; rw [hl1.abs]), by rw [hyes], rfl, by rw [hyes]; rfl⟩
              · have hW : (s.abs.wOf P) = D0 := if_neg (fun h => h.2.elim (fun h => hg56' (by rw [hl1.lk]; exact h)) (fun h => hc2 (by rw [hl1.lk]; exact h)))
                refine .skip (.tn (.seq (.region ?_)))
                refine .w (.move rfl) ?_
                refine .w (.as (v' := dgV (s.abs.wOf P)) (.lda agg_24 rfl) (by first | (rw [hW]; done) | (rw [hW]; rfl))) ?_
                refine .cb (f33_spec p s1 2 (s.abs.wOf P)) body_33 ?_
                rintro _ _ ⟨_, _, rfl⟩
                refine .ap ?_
                rw [hl1.abs]
                refine .w (.assign rfl) ?_
                refine .w (.assign rfl) ?_
                refine .nil (.tn (.ret ?_))
                exact .dn [] (Res.row _ 1 41 35 (acC (s.abs.vote 2 (s.abs.wOf P)).2) :: RA.H p (s1.setSt 2)) (res2 rfl (.tmp rfl) (.tmp rfl)) ⟨(s1.setSt 2), _, (RA.st_ok hl1.ok (by decide) (by decide)), by rw [hyes]; exact (by show (s1.abs.vote 2 (s.abs.wOf P)).1 = _; rw [hl1.abs]), by rw [hyes], rfl, by rw [hyes]; rfl⟩
          · have hg47' := hg47
            try simp only [decide_eq_true_eq, decide_eq_false_iff_not, Bool.not_eq_true', Bool.not_eq_false', ne_eq, Decidable.not_not, Bool.not_eq_true, Bool.and_eq_true, Bool.or_eq_true, BitVec.reduceToNat] at hg47'
            refine JR.gf (g := 44) rfl rfl rfl rfl hg47 (by decide) ?_
            refine JR.gf (g := 44) rfl rfl rfl rfl hg47 (by decide) ?_
            refine JR.gf (g := 44) rfl rfl rfl rfl hg47 (by decide) ?_
            refine JR.gf (g := 44) rfl rfl rfl rfl hg47 (by decide) ?_
            refine JR.gf (g := 44) rfl rfl rfl rfl hg47 (by decide) ?_
            refine JR.gf (g := 44) rfl rfl rfl rfl hg47 (by decide) ?_
            refine JR.gf (g := 44) rfl rfl rfl rfl hg47 (by decide) ?_
            refine JR.gf (g := 44) rfl rfl rfl rfl hg47 (by decide) ?_
            refine JR.gf (g := 44) rfl rfl rfl rfl hg47 (by decide) ?_
            refine JR.gu (g := 53) rfl rfl rfl rfl (by decide) ?_
            refine JR.gu (g := 53) rfl rfl rfl rfl (by decide) ?_
            refine JR.gu (g := 53) rfl rfl rfl rfl (by decide) ?_
            refine JR.gu (g := 53) rfl rfl rfl rfl (by decide) ?_
            refine JR.gu (g := 53) rfl rfl rfl rfl (by decide) ?_
            refine JR.gu (g := 53) rfl rfl rfl rfl (by decide) ?_
            refine JR.gu (g := 53) rfl rfl rfl rfl (by decide) ?_
            refine JR.gu (g := 53) rfl rfl rfl rfl (by decide) ?_
            refine JR.gf (g := 44) rfl rfl rfl rfl hg47 (by decide) ?_
            refine JR.u rfl rfl rfl (Yv.pick0 rfl hg47 rfl) (by decide) ?_
            refine .nil (.tn ?_)
            refine .k0 rfl rfl ?_
            have hW : (s.abs.wOf P) = D0 := if_neg (fun h => by rw [hg47'] at h; exact absurd h.1 (by decide))
            refine .skip (.tn (.seq (.region ?_)))
            refine .w (.move rfl) ?_
            refine .w (.as (v' := dgV (s.abs.wOf P)) (.lda agg_24 rfl) (by first | (rw [hW]; done) | (rw [hW]; rfl))) ?_
            refine .cb (f33_spec p s1 2 (s.abs.wOf P)) body_33 ?_
            rintro _ _ ⟨_, _, rfl⟩
            refine .ap ?_
            rw [hl1.abs]
            refine .w (.assign rfl) ?_
            refine .w (.assign rfl) ?_
            refine .nil (.tn (.ret ?_))
            exact .dn [] (Res.row _ 1 41 35 (acC (s.abs.vote 2 (s.abs.wOf P)).2) :: RA.H p (s1.setSt 2)) (res2 rfl (.tmp rfl) (.tmp rfl)) ⟨(s1.setSt 2), _, (RA.st_ok hl1.ok (by decide) (by decide)), by rw [hyes]; exact (by show (s1.abs.vote 2 (s.abs.wOf P)).1 = _; rw [hl1.abs]), by rw [hyes], rfl, by rw [hyes]; rfl⟩
      · have hyes := AR.prevote_yes (a := s.abs) hg24' hP' (fun h => hg32' h.1)
        let s1 : RA := s
        have hl1 : s.Like s1 := RA.Like.refl hok
        refine .gf (g := 32) rfl rfl hg32 (by decide) ?_
        refine .gf (g := 32) rfl rfl hg32 (by decide) ?_
        refine .gf (g := 32) rfl rfl hg32 (by decide) ?_
        refine .gf (g := 32) rfl rfl hg32 (by decide) ?_
        refine .gf (g := 32) rfl rfl hg32 (by decide) ?_
        refine .gf (g := 32) rfl rfl hg32 (by decide) ?_
        refine .gf (g := 32) rfl rfl hg32 (by decide) ?_
        refine .gt (g := 28) rfl rfl hg28 ?_
        refine .w (.pick0 rfl hg32 rfl) ?_
        refine .w (.pick0 rfl hg28 rfl) ?_
        refine .nil (.tn ?_)
        refine .k0 rfl rfl ?_
        refine .skip (.tn (.seq (.region ?_)))
        refine .al zero_24 fun b6 => ?_
        refine .nil (.tn (.seq (.seq ?_)))
        refine JC.draw (.one 0 (.one 1 (.one 2 (.one 3 (.one 4 (.one 5 (.one 6 (.one 7 (.one 8 (.one 9 (.one 10 (.one 11 (.one 12 (.one 13 (.one 14 (.one 15 (.one 16 (.one 17 (.one 18 (.one 19 (.one 20 (.one 21 .nil)))))))))))))))))))))) (fun i => ([] : List Nat).contains i) (fun i => ([] : List Nat).contains i) (fun i => ([0, 2, 3, 4, 5, 6, 8, 10, 11, 12, 13, 14, 15, 17, 19, 20, 21] : List Nat).contains i) mixed (by kernel_rfl) (by decide) (by kernel_rfl) ?_
        refine .uw rfl (.fieldAddr fa_100_2 rfl) ?_
        refine .w rfl (.ld one_4 rfl (hj := by first | exact RA.get_rd _ | exact RA.get_st _ | exact RA.get_me _ | exact RA.get_sh _ | exact RA.get_sv _ | exact RA.get_lkr _ | exact RA.get_vdr _ | exact RA.get_dcr _ | exact RA.get_bp _ | exact RA.get_bt _ | exact RA.get_bd _ | exact RA.pr_valid _ | exact RA.pr_good _ | rfl | exact tab_get (by first | omega | (simp; omega)) | exact gm (d := 0) (by first | omega | (simp; omega)))) ?_
        refine .uw rfl (.move rfl) ?_
        refine JR.gsplit (g := 43) rfl (fun hg47 => ?_) (fun hg47 => ?_)
        · have hg47' := hg47
          try simp only [decide_eq_true_eq, decide_eq_false_iff_not, Bool.not_eq_true', Bool.not_eq_false', ne_eq, Decidable.not_not, Bool.not_eq_true, Bool.and_eq_true, Bool.or_eq_true, BitVec.reduceToNat] at hg47'
          refine JR.ugt (g := 44) rfl rfl rfl rfl rfl hg47 (.move rfl) (by decide) ?_
          refine JR.ugt (g := 44) rfl rfl rfl rfl rfl hg47 (.nilCheck rfl) (by decide) ?_
          refine JR.ugt (g := 44) rfl rfl rfl rfl rfl hg47 (.fieldAddr fa_77_6 rfl) (by decide) ?_
          refine JR.ugt (g := 44) rfl rfl rfl rfl rfl hg47 (.fieldAddr fa_71_1 rfl) (by decide) ?_
          refine JR.vgt (g := 44) rfl rfl rfl rfl rfl hg47 (.ld one_3 rfl (hj := by first | exact RA.get_rd _ | exact RA.get_st _ | exact RA.get_me _ | exact RA.get_sh _ | exact RA.get_sv _ | exact RA.get_lkr _ | exact RA.get_vdr _ | exact RA.get_dcr _ | exact RA.get_bp _ | exact RA.get_bt _ | exact RA.get_bd _ | exact RA.pr_valid _ | exact RA.pr_good _ | rfl | exact tab_get (by first | omega | (simp; omega)) | exact gm (d := 0) (by first | omega | (simp; omega)))) (by decide) ?_
          refine JR.ugt (g := 44) rfl rfl rfl rfl rfl hg47 (.fieldAddr fa_100_1 rfl) (by decide) ?_
          refine JR.vgt (g := 44) rfl rfl rfl rfl rfl hg47 (.ld one_3 rfl (hj := by first | exact RA.get_rd _ | exact RA.get_st _ | exact RA.get_me _ | exact RA.get_sh _ | exact RA.get_sv _ | exact RA.get_lkr _ | exact RA.get_vdr _ | exact RA.get_dcr _ | exact RA.get_bp _ | exact RA.get_bt _ | exact RA.get_bd _ | exact RA.pr_valid _ | exact RA.pr_good _ | rfl | exact tab_get (by first | omega | (simp; omega)) | exact gm (d := 0) (by first | omega | (simp; omega)))) (by decide) ?_
          refine JR.ugt (g := 44) rfl rfl rfl rfl rfl hg47 (.bin rfl rfl BinR.leq_i) (by decide) ?_
          refine JR.ugt (g := 44) rfl rfl rfl rfl rfl hg47 (.move rfl) (by decide) ?_
          refine JR.gsplit (g := 52) rfl (fun hg56 => ?_) (fun hg56 => ?_)
          · have hg56' := hg56
            try simp only [decide_eq_true_eq, decide_eq_false_iff_not, Bool.not_eq_true', Bool.not_eq_false', ne_eq, Decidable.not_not, Bool.not_eq_true, Bool.and_eq_true, Bool.or_eq_true, BitVec.reduceToNat] at hg56'
            refine JR.gf (g := 53) rfl rfl rfl rfl hg56 (by decide) ?_
            refine JR.gf (g := 53) rfl rfl rfl rfl hg56 (by decide) ?_
            refine JR.gf (g := 53) rfl rfl rfl rfl hg56 (by decide) ?_
            refine JR.gf (g := 53) rfl rfl rfl rfl hg56 (by decide) ?_
            refine JR.gf (g := 53) rfl rfl rfl rfl hg56 (by decide) ?_
            refine JR.gf (g := 53) rfl rfl rfl rfl hg56 (by decide) ?_
            refine JR.gf (g := 53) rfl rfl rfl rfl hg56 (by decide) ?_
            refine JR.gf (g := 53) rfl rfl rfl rfl hg56 (by decide) ?_
            refine JR.ugt (g := 44) rfl rfl rfl rfl rfl hg47 (Yv.pick1 rfl hg56 rfl) (by decide) ?_
            refine JR.u rfl rfl rfl (Yv.pick1 rfl hg47 rfl) (by decide) ?_
            refine .nil (.tn ?_)
            refine .k1 rfl rfl ?_
            have hW : (s.abs.wOf P) = P.v := if_pos ⟨hg47', .inl (by show s.lk.r ≤ _; rw [← hl1.lk]; exact hg56')⟩
            refine .region ?_
            refine .w (.fieldAddr fa_100_0 rfl) ?_
            refine .w (.as (v' := dgV P.v) (.lda agg_24 rfl) (congrArg (fun l : List Value => Value.agg l.toArray) (RA.pr_v _))) ?_
            refine .sa sz_24 ?_
            refine .nil (.tn (.seq (.region ?_)))
            refine .w (.move rfl) ?_
            refine .w (.as (v' := dgV (s.abs.wOf P)) (.lda agg_24 rfl) (by first | (rw [hW]; done) | (rw [hW]; rfl))) ?_
            refine .cb (f33_spec p s1 2 (s.abs.wOf P)) body_33 ?_
            rintro _ _ ⟨_, _, rfl⟩
            refine .ap ?_
            rw [hl1.abs]
            refine .w (.assign rfl) ?_
            refine .w (.assign rfl) ?_
            refine .nil (.tn (.ret ?_))
            exact .dn [] (Res.row _ 1 41 35 (acC (s.abs.vote 2 (s.abs.wOf P)).2) :: RA.H p (s1.setSt 2)) (res2 rfl (.tmp rfl) (.tmp rfl)) ⟨(s1.setSt 2), _, (RA.st_ok hl1.ok (by decide) (by decide)), by rw [hyes]; exact (by show (s1.abs.vote 2 (s.abs.wOf P)).1 = _; rw [hl1.abs]), by rw [hyes], rfl, by rw [hyes]; rfl⟩
          · have hg56' := hg56
            try simp only [decide_eq_true_eq, decide_eq_false_iff_not, Bool.not_eq_true', Bool.not_eq_false', ne_eq, Decidable.not_not, Bool.not_eq_true, Bool.and_eq_true, Bool.or_eq_true, BitVec.reduceToNat] at hg56'
            refine JR.ugt (g := 53) rfl rfl rfl rfl rfl hg56 (.move rfl) (by decide) ?_
            refine JR.ugt (g := 53) rfl rfl rfl rfl rfl hg56 (.nilCheck rfl) (by decide) ?_
            refine JR.ugt (g := 53) rfl rfl rfl rfl rfl hg56 (.fieldAddr fa_77_6 rfl) (by decide) ?_
            refine JR.ugt (g := 53) rfl rfl rfl rfl rfl hg56 (.fieldAddr fa_71_0 rfl) (by decide) ?_
            refine JR.vgt (g := 53) rfl rfl rfl rfl rfl hg56 (.as (v' := dgV s1.lk.v) (.lda agg_24 rfl) (congrArg (fun l : List Value => Value.agg l.toArray) (RA.drop_lk _))) (by decide) ?_
            refine JR.ugt (g := 53) rfl rfl rfl rfl rfl hg56 (.fieldAddr fa_100_0 rfl) (by decide) ?_
            refine JR.vgt (g := 53) rfl rfl rfl rfl rfl hg56 (.as (v' := dgV P.v) (.lda agg_24 rfl) (congrArg (fun l : List Value => Value.agg l.toArray) (RA.pr_v _))) (by decide) ?_
            refine JR.ugt (g := 53) rfl rfl rfl rfl rfl hg56 (.bin rfl rfl (eql_dig)) (by decide) ?_
            refine JR.ugt (g := 44) rfl rfl rfl rfl rfl hg47 (Yv.pick0 rfl hg56 rfl) (by decide) ?_
            refine JR.u rfl rfl rfl (Yv.pick1 rfl hg47 rfl) (by decide) ?_
            refine .nil (.tn ?_)
            refine .cn rfl (fun hc2 => ?_) (fun hc2 => ?_)
            · have hW : (AR.wOf s.abs P) = P.v := if_pos ⟨hg47', .inr (by show s.lk.v = _; rw [← hl1.lk]; exact hc2)⟩
              refine .region ?_
              refine .w (.fieldAddr fa_100_0 rfl) ?_
              refine .w (.as (v' := dgV P.v) (.lda agg_24 rfl) (congrArg (fun l : List Value => Value.agg l.toArray) (RA.pr_v _))) ?_
              refine .sa sz_24 ?_
              refine .nil (.tn (.seq (.region ?_)))
              refine .w (.move rfl) ?_
              refine .w (.as (v' := dgV (s.abs.wOf P)) (.lda agg_24 rfl) (by first | (rw [hW]; done) | (rw [hW]; rfl))) ?_
              refine .cb (f33_spec p s1 2 (s.abs.wOf P)) body_33 ?_
              rintro _ _ ⟨_, _, rfl⟩
              refine .ap ?_
              rw [hl1.abs]
              refine .w (.assign rfl) ?_
              refine .w (.assign rfl) ?_
              refine .nil (.tn (.ret ?_))
              exact .dn [] (Res.row _ 1 41 35 (acC (s.abs.vote 2 (s.abs.wOf P)).2) :: RA.H p (s1.setSt 2)) (res2 rfl (.tmp rfl) (.tmp rfl)) ⟨(s1.setSt 2), _, (RA.st_ok hl1.ok (by decide) (by decide)), by rw [hyes]; exact (by show (s1.abs.vote 2 (s.abs.wOf P)).1 = _; rw [hl1.abs]), by rw [hyes], rfl, by rw [hyes]; rfl⟩
            · have hW : (s.abs.wOf P) = D0 := if_neg (fun h => h.2.elim (fun h => hg56' (by rw [hl1.lk]; exact h)) (fun h => hc2 (by rw [hl1.lk]; exact h)))
              refine .skip (.tn (.seq (.region ?_)))
              refine .w (.move rfl) ?_
              refine .w (.as (v' := dgV (s.abs.wOf P)) (.lda agg_24 rfl) (by first | (rw [hW]; done) | (rw [hW]; rfl))) ?_
              refine .cb (f33_spec p s1 2 (s.abs.wOf P)) body_33 ?_
              rintro _ _ ⟨_, _, rfl⟩
              refine .ap ?_
              rw [hl1.abs]
              refine .w (.assign rfl) ?_
              refine .w (.assign rfl) ?_
              refine .nil (.tn (.ret ?_))
              exact .dn [] (Res.row _ 1 41 35 (acC (s.abs.vote 2 (s.abs.wOf P)).2) :: RA.H p (s1.setSt 2)) (res2 rfl (.tmp rfl) (.tmp rfl)) ⟨(s1.setSt 2), _, (RA.st_ok hl1.ok (by decide) (by decide)), by rw [hyes]; exact (by show (s1.abs.vote 2 (s.abs.wOf P)).1 = _; rw [hl1.abs]), by rw [hyes], rfl, by rw [hyes]; rfl⟩
        · have hg47' := hg47
          try simp only [decide_eq_true_eq, decide_eq_false_iff_not, Bool.not_eq_true', Bool.not_eq_false', ne_eq, Decidable.not_not, Bool.not_eq_true, Bool.and_eq_true, Bool.or_eq_true, BitVec.reduceToNat] at hg47'
          refine JR.gf (g := 44) rfl rfl rfl rfl hg47 (by decide) ?_
          refine JR.gf (g := 44) rfl rfl rfl rfl hg47 (by decide) ?_
          refine JR.gf (g := 44) rfl rfl rfl rfl hg47 (by decide) ?_
          refine JR.gf (g := 44) rfl rfl rfl rfl hg47 (by decide) ?_
          refine JR.gf (g := 44) rfl rfl rfl rfl hg47 (by decide) ?_
          refine JR.gf (g := 44) rfl rfl rfl rfl hg47 (by decide) ?_
          refine JR.gf (g := 44) rfl rfl rfl rfl hg47 (by decide) ?_
          refine JR.gf (g := 44) rfl rfl rfl rfl hg47 (by decide) ?_
          refine JR.gf (g := 44) rfl rfl rfl rfl hg47 (by decide) ?_
          refine JR.gu (g := 53) rfl rfl rfl rfl (by decide) ?_
          refine JR.gu (g := 53) rfl rfl rfl rfl (by decide) ?_
          refine JR.gu (g := 53) rfl rfl rfl rfl (by decide) ?_
          refine JR.gu (g := 53) rfl rfl rfl rfl (by decide) ?_
          refine JR.gu (g := 53) rfl rfl rfl rfl (by decide) ?_
          refine JR.gu (g := 53) rfl rfl rfl rfl (by decide) ?_
          refine JR.gu (g := 53) rfl rfl rfl rfl (by decide) ?_
          refine JR.gu (g := 53) rfl rfl rfl rfl (by decide) ?_
          refine JR.gf (g := 44) rfl rfl rfl rfl hg47 (by decide) ?_
          refine JR.u rfl rfl rfl (Yv.pick0 rfl hg47 rfl) (by decide) ?_
          refine .nil (.tn ?_)
          refine .k0 rfl rfl ?_
          have hW : (s.abs.wOf P) = D0 := if_neg (fun h => by rw [hg47'] at h; exact absurd h.1 (by decide))
          refine .skip (.tn (.seq (.region ?_)))
          refine .w (.move rfl) ?_
          refine .w (.as (v' := dgV (s.abs.wOf P)) (.lda agg_24 rfl) (by first | (rw [hW]; done) | (rw [hW]; rfl))) ?_
          refine .cb (f33_spec p s1 2 (s.abs.wOf P)) body_33 ?_
          rintro _ _ ⟨_, _, rfl⟩
          refine .ap ?_
          rw [hl1.abs]
          refine .w (.assign rfl) ?_
          refine .w (.assign rfl) ?_
          refine .nil (.tn (.ret ?_))
          exact .dn [] (Res.row _ 1 41 35 (acC (s.abs.vote 2 (s.abs.wOf P)).2) :: RA.H p (s1.setSt 2)) (res2 rfl (.tmp rfl) (.tmp rfl)) ⟨(s1.setSt 2), _, (RA.st_ok hl1.ok (by decide) (by decide)), by rw [hyes]; exact (by show (s1.abs.vote 2 (s.abs.wOf P)).1 = _; rw [hl1.abs]), by rw [hyes], rfl, by rw [hyes]; rfl⟩
end Go.Proofs.YtncececcopalgaaDoor
