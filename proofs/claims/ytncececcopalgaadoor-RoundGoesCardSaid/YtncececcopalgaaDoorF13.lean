/- Walks: begun, heard. -/
import Derived.Test.YtncececcopalgaaDoorF12
namespace Go.Proofs.YtncececcopalgaaDoor
open Go.RowKit
set_option maxRecDepth 100000
set_option linter.unusedVariables false
set_option linter.unusedSimpArgs false
theorem f10_spec (p : Nat) (s : RA) (hok : s.Ok) :
    Spec Tryd.prog 10 #[(ptr p 0)] [Res.var 0 [u64 9223372036854775808, u64 0, u64 0, u64 0]] (RA.H p s)
      (fun r Γ' H' => ∃ (s' : RA) (w : Value), s'.Ok ∧ s'.abs = (s.abs.start).1 ∧ r = w ∧ Γ' = [] ∧ H' = Res.row w (s.abs.start).2.length 41 35 (acC (s.abs.start).2) :: RA.H p s') := by
  refine Spec.of_args Tryd.func10 rfl Tryd.ntmps10 (by simp) fun w => ?_
  refine .seq (.region ?_)
  refine .w (.assign rfl) ?_
  refine .nil (.tn (.seq (.seq (.region ?_))))
  refine .w (.move rfl) ?_
  refine .w (.nilCheck rfl) ?_
  refine .w (.fieldAddr fa_77_5 rfl) ?_
  refine .w (.ld one_3 rfl (hj := by first | exact RA.get_rd _ | exact RA.get_st _ | exact RA.get_me _ | exact RA.get_sh _ | exact RA.get_sv _ | exact RA.get_lkr _ | exact RA.get_vdr _ | exact RA.get_dcr _ | exact RA.get_bp _ | exact RA.get_bt _ | exact RA.get_bd _ | exact RA.msg_valid _ | exact RA.pr_valid _ | rfl | exact tab_get (by first | omega | (simp; omega)) | exact gm (d := 0) (by first | omega | (simp; omega)))) ?_
  refine .w (.bin rfl rfl BinR.gtr_i) ?_
  refine .nil (.tn ?_)
  refine .cn rfl (fun hc1 => ?_) (fun hc1 => ?_)
  · have he : s.abs.start = (s.abs, []) := if_pos hc1
    refine .seq (.region ?_)
    refine .w (.assign rfl) ?_
    refine .nil (.tn (.ret (.then_ret ?_)))
    refine .nilRow 41 35 ?_
    exact .dn [] (Res.row (.slice none 0 0) 0 41 35 [] :: RA.H p s) (res1 rfl (.tmp rfl)) ⟨s, _, hok, by rw [he], rfl, rfl, by rw [he]; rfl⟩
  · have he : s.abs.start = (((s.abs.begin 0).1.follow).1, (s.abs.begin 0).2 ++ ((s.abs.begin 0).1.follow).2) := if_neg hc1
    refine .skip (.tn (.seq (.region ?_)))
    refine .w (.move rfl) ?_
    refine .w (.move rfl) ?_
    refine .cb (f28_spec p s hok 0 (by decide) (by decide)) body_28 ?_
    rintro _ _ ⟨_, _, rfl⟩
    refine .ap ?_
    refine .cb (f27_spec p ((s.setRd 0).setSt 1) (hok.begin 0 (by decide) (by decide)) _ 1 (s.abs.begin 0).2 (RA.begin_len _ _).symm (by decide)) body_27 ?_ (h0 := by rintro _ _ _ ⟨_, _, _, _, _, h, _⟩; exact h)
    rintro _ _ ⟨s9, w9, hok9, hab9, rfl, _, rfl⟩
    refine .ap ?_
    refine .w (.assign rfl) ?_
    refine .nil (.tn (.ret ?_))
    exact .dn [] (Res.row _ ((s.abs.begin 0).2 ++ ((s.setRd 0).setSt 1).abs.follow.2).length 41 35 (acC ((s.abs.begin 0).2 ++ ((s.setRd 0).setSt 1).abs.follow.2)) :: RA.H p s9) (res1 rfl (.tmp rfl)) ⟨s9, _, hok9, by rw [he, hab9, RA.begin_abs (a := s.abs) rfl 0], rfl, rfl, by rw [he, RA.begin_abs (a := s.abs) rfl 0]⟩

theorem f30_spec (p : Nat) (s : RA) (hok : s.Ok) (m : Msg) (good : Bool) :
    Spec Tryd.prog 30 #[(ptr p 0), (msV m), (.bool good)] [Res.cells p s.cells 77, Res.rd s.sv s.S.length 1 (s.S.map u64)] [mpR s.bp itK prV s.pr]
      (fun r Γ' H' => r = it (s.abs.hearE m) ∧ Γ' = [] ∧ H' = [mpR s.bp itK prV (if s.abs.hearE m = 0 then s.pr.put m.round ⟨m.value, m.valid, good⟩ else s.pr)]) := by
  refine Spec.of_args Tryd.func30 rfl Tryd.ntmps30 (by simp) fun w => ?_
  refine .seq (.region ?_)
  refine .bx fun b4 => ?_
  refine .w (.assign rfl) ?_
  refine .nil (.tn (.seq ?_))
  refine JC.draw (.one 0 (.one 1 (.one 2 (.one 3 (.one 4 (.one 5 (.one 6 (.one 7 (.one 8 (.one 9 (.one 10 (.one 11 (.one 12 .nil))))))))))))) (fun i => ([11] : List Nat).contains i) (fun i => ([10, 11] : List Nat).contains i) (fun i => ([0, 1, 2, 4, 7, 8, 9, 12] : List Nat).contains i) mixed (by kernel_rfl) (by decide) (by kernel_rfl) ?_
  refine .uw rfl (.move rfl) ?_
  refine .uw rfl (.nilCheck rfl) ?_
  refine .uw rfl (.fieldAddr fa_77_9 rfl) ?_
  refine .w rfl (.ld one_73 rfl (hj := by first | exact RA.get_rd _ | exact RA.get_st _ | exact RA.get_me _ | exact RA.get_sh _ | exact RA.get_sv _ | exact RA.get_lkr _ | exact RA.get_vdr _ | exact RA.get_dcr _ | exact RA.get_bp _ | exact RA.get_bt _ | exact RA.get_bd _ | exact RA.msg_valid _ | exact RA.pr_valid _ | rfl | exact tab_get (by first | omega | (simp; omega)) | exact gm (d := 0) (by first | omega | (simp; omega)))) ?_
  refine .uw rfl (.fieldAddr fa_33_1 rfl) ?_
  refine .w rfl (.ld one_3 rfl (hj := by first | exact RA.get_rd _ | exact RA.get_st _ | exact RA.get_me _ | exact RA.get_sh _ | exact RA.get_sv _ | exact RA.get_lkr _ | exact RA.get_vdr _ | exact RA.get_dcr _ | exact RA.get_bp _ | exact RA.get_bt _ | exact RA.get_bd _ | exact RA.msg_valid _ | exact RA.pr_valid _ | rfl | exact tab_get (by first | omega | (simp; omega)) | exact gm (d := 0) (by first | omega | (simp; omega)))) ?_
  refine .w rfl (.as (v' := .tuple #[prV ((s.pr.get m.round).getD Prp0), .bool (s.pr.get m.round).isSome]) (.lk2 m.round Tryd.underlying73 mkey_73 zf_100) (by cases s.pr.get m.round <;> rfl)) ?_
  refine .uw rfl (.move rfl) ?_
  refine .uw rfl (.as (v' := prV ((s.pr.get m.round).getD Prp0)) (.extract rfl rfl) rfl) ?_
  refine .uw rfl (.as (v' := .bool (s.pr.get m.round).isSome) (.extract rfl rfl) rfl) ?_
  refine .mw rfl (Mv.alloc zero_100) ?_
  rintro _ _ _ ⟨b7, rfl, rfl, rfl⟩
  refine kp ?_
  refine .mw0 rfl (.sa sz_100 (h1 := (Prp.one _))) ?_
  rintro _ _ _ ⟨rfl, rfl⟩
  refine kp ?_
  refine .uw rfl (.assign rfl) ?_
  refine .nil (.tn (.seq (.block (.seq ?_))))
  refine JC.draw (.one 0 (.one 1 (.one 2 (.one 3 (.one 4 (.one 5 (.one 6 (.one 7 (.one 8 (.one 9 (.one 10 (.one 11 (.one 12 (.one 13 (.one 14 (.one 15 (.one 16 (.one 17 (.one 18 (.one 19 (.one 20 (.one 21 (.one 22 (.one 23 (.one 24 (.one 25 .nil)))))))))))))))))))))))))) (fun i => ([] : List Nat).contains i) (fun i => ([16] : List Nat).contains i) (fun i => ([0, 2, 3, 4, 6, 8, 9, 10, 11, 13, 14, 17, 18, 19, 20, 22, 23, 24, 25] : List Nat).contains i) mixed (by kernel_rfl) (by decide) (by kernel_rfl) ?_
  refine .uw rfl (.fieldAddr fa_33_4 rfl) ?_
  refine .w rfl (.ld one_3 rfl (hj := by first | exact RA.get_rd _ | exact RA.get_st _ | exact RA.get_me _ | exact RA.get_sh _ | exact RA.get_sv _ | exact RA.get_lkr _ | exact RA.get_vdr _ | exact RA.get_dcr _ | exact RA.get_bp _ | exact RA.get_bt _ | exact RA.get_bd _ | exact RA.msg_valid _ | exact RA.pr_valid _ | rfl | exact tab_get (by first | omega | (simp; omega)) | exact gm (d := 0) (by first | omega | (simp; omega)))) ?_
  refine .uw rfl (.bin rfl rfl BinR.lss_i) ?_
  refine .uw rfl (.move rfl) ?_
  refine JR.gsplit (g := 22) rfl (fun hg20 => ?_) (fun hg20 => ?_)
  · have hg20' := hg20
    try simp only [decide_eq_true_eq, decide_eq_false_iff_not, Bool.not_eq_true', Bool.not_eq_false', ne_eq, Decidable.not_not, Bool.not_eq_true, Bool.and_eq_true, Bool.or_eq_true, BitVec.reduceToNat] at hg20'
    refine JR.gf (g := 23) rfl rfl rfl rfl hg20 (by decide) ?_
    refine JR.gf (g := 23) rfl rfl rfl rfl hg20 (by decide) ?_
    refine JR.gf (g := 23) rfl rfl rfl rfl hg20 (by decide) ?_
    refine JR.gf (g := 23) rfl rfl rfl rfl hg20 (by decide) ?_
    refine JR.gf (g := 23) rfl rfl rfl rfl hg20 (by decide) ?_
    refine JR.u rfl rfl rfl (Yv.pick1 rfl hg20 rfl) (by decide) ?_
    refine .uw rfl (.move rfl) ?_
    refine JR.gf (g := 30) rfl rfl rfl rfl rfl (by decide) ?_
    refine JR.gf (g := 30) rfl rfl rfl rfl rfl (by decide) ?_
    refine JR.gf (g := 30) rfl rfl rfl rfl rfl (by decide) ?_
    refine JR.gf (g := 30) rfl rfl rfl rfl rfl (by decide) ?_
    refine JR.gf (g := 30) rfl rfl rfl rfl rfl (by decide) ?_
    refine JR.gfm (g := 30) rfl rfl rfl rfl rfl (by decide) ?_ ?_
    · exact ⟨Subs.sub (by repeat (first | exact Subs.nil _ | apply Subs.cons | exact List.Mem.head _ | refine List.Mem.tail _ ?_)), .inr (St.keep (by repeat (first | exact Subs.nil _ | apply Subs.cons | exact List.Mem.head _ | refine List.Mem.tail _ ?_)) (by repeat (first | exact Picks.nil _ | apply Picks.cons | exact Pull.here _ _ | apply Pull.there)))⟩
    refine JR.gf (g := 30) rfl rfl rfl rfl rfl (by decide) ?_
    refine JR.u rfl rfl rfl (Yv.pick1 rfl rfl rfl) (by decide) ?_
    refine .uw rfl (.move rfl) ?_
    refine JR.gf (g := 39) rfl rfl rfl rfl rfl (by decide) ?_
    refine JR.gf (g := 39) rfl rfl rfl rfl rfl (by decide) ?_
    refine JR.gf (g := 39) rfl rfl rfl rfl rfl (by decide) ?_
    refine JR.gf (g := 39) rfl rfl rfl rfl rfl (by decide) ?_
    refine JR.u rfl rfl rfl (Yv.pick1 rfl rfl rfl) (by decide) ?_
    refine .uw rfl (.assign rfl) ?_
    refine .nil (.tn ?_)
    refine .k1 rfl rfl ?_
    have hE : s.abs.hearE m = 1 := if_pos (by first | exact .inl hg20' | exact .inr (.inl hg27') | exact .inr (.inr (.inl hg36')))
    refine .seq (.region ?_)
    refine .w (.assign rfl) ?_
    refine .nil (.tn (.ret (.block_ret (.then_ret ?_))))
    exact .dn [] [mpR s.bp itK prV _] (res1 rfl (.tmp rfl)) ⟨by rw [hE], rfl, by rw [hE]; first | done | rfl⟩
  · have hg20' := hg20
    try simp only [decide_eq_true_eq, decide_eq_false_iff_not, Bool.not_eq_true', Bool.not_eq_false', ne_eq, Decidable.not_not, Bool.not_eq_true, Bool.and_eq_true, Bool.or_eq_true, BitVec.reduceToNat] at hg20'
    refine JR.ugt (g := 23) rfl rfl rfl rfl rfl hg20 (.fieldAddr fa_33_4 rfl) (by decide) ?_
    refine JR.vgt (g := 23) rfl rfl rfl rfl rfl hg20 (.ld one_3 rfl (hj := by first | exact RA.get_rd _ | exact RA.get_st _ | exact RA.get_me _ | exact RA.get_sh _ | exact RA.get_sv _ | exact RA.get_lkr _ | exact RA.get_vdr _ | exact RA.get_dcr _ | exact RA.get_bp _ | exact RA.get_bt _ | exact RA.get_bd _ | exact RA.msg_valid _ | exact RA.pr_valid _ | rfl | exact tab_get (by first | omega | (simp; omega)) | exact gm (d := 0) (by first | omega | (simp; omega)))) (by decide) ?_
    refine JR.ugt (g := 23) rfl rfl rfl rfl rfl hg20 (.fieldAddr fa_33_1 rfl) (by decide) ?_
    refine JR.vgt (g := 23) rfl rfl rfl rfl rfl hg20 (.ld one_3 rfl (hj := by first | exact RA.get_rd _ | exact RA.get_st _ | exact RA.get_me _ | exact RA.get_sh _ | exact RA.get_sv _ | exact RA.get_lkr _ | exact RA.get_vdr _ | exact RA.get_dcr _ | exact RA.get_bp _ | exact RA.get_bt _ | exact RA.get_bd _ | exact RA.msg_valid _ | exact RA.pr_valid _ | rfl | exact tab_get (by first | omega | (simp; omega)) | exact gm (d := 0) (by first | omega | (simp; omega)))) (by decide) ?_
    refine JR.ugt (g := 23) rfl rfl rfl rfl rfl hg20 (.bin rfl rfl BinR.geq_i) (by decide) ?_
    refine JR.u rfl rfl rfl (Yv.pick0 rfl hg20 rfl) (by decide) ?_
    refine .uw rfl (.move rfl) ?_
    refine JR.gsplit (g := 29) rfl (fun hg27 => ?_) (fun hg27 => ?_)
    · have hg27' := hg27
      try simp only [decide_eq_true_eq, decide_eq_false_iff_not, Bool.not_eq_true', Bool.not_eq_false', ne_eq, Decidable.not_not, Bool.not_eq_true, Bool.and_eq_true, Bool.or_eq_true, BitVec.reduceToNat] at hg27'
      refine JR.gf (g := 30) rfl rfl rfl rfl hg27 (by decide) ?_
      refine JR.gf (g := 30) rfl rfl rfl rfl hg27 (by decide) ?_
      refine JR.gf (g := 30) rfl rfl rfl rfl hg27 (by decide) ?_
      refine JR.gf (g := 30) rfl rfl rfl rfl hg27 (by decide) ?_
      refine JR.gf (g := 30) rfl rfl rfl rfl hg27 (by decide) ?_
      refine JR.gfm (g := 30) rfl rfl rfl rfl hg27 (by decide) ?_ ?_
      · exact ⟨Subs.sub (by repeat (first | exact Subs.nil _ | apply Subs.cons | exact List.Mem.head _ | refine List.Mem.tail _ ?_)), .inr (St.keep (by repeat (first | exact Subs.nil _ | apply Subs.cons | exact List.Mem.head _ | refine List.Mem.tail _ ?_)) (by repeat (first | exact Picks.nil _ | apply Picks.cons | exact Pull.here _ _ | apply Pull.there)))⟩
      refine JR.gf (g := 30) rfl rfl rfl rfl hg27 (by decide) ?_
      refine JR.u rfl rfl rfl (Yv.pick1 rfl hg27 rfl) (by decide) ?_
      refine .uw rfl (.move rfl) ?_
      refine JR.gf (g := 39) rfl rfl rfl rfl rfl (by decide) ?_
      refine JR.gf (g := 39) rfl rfl rfl rfl rfl (by decide) ?_
      refine JR.gf (g := 39) rfl rfl rfl rfl rfl (by decide) ?_
      refine JR.gf (g := 39) rfl rfl rfl rfl rfl (by decide) ?_
      refine JR.u rfl rfl rfl (Yv.pick1 rfl rfl rfl) (by decide) ?_
      refine .uw rfl (.assign rfl) ?_
      refine .nil (.tn ?_)
      refine .k1 rfl rfl ?_
      have hE : s.abs.hearE m = 1 := if_pos (by first | exact .inl hg20' | exact .inr (.inl hg27') | exact .inr (.inr (.inl hg36')))
      refine .seq (.region ?_)
      refine .w (.assign rfl) ?_
      refine .nil (.tn (.ret (.block_ret (.then_ret ?_))))
      exact .dn [] [mpR s.bp itK prV _] (res1 rfl (.tmp rfl)) ⟨by rw [hE], rfl, by rw [hE]; first | done | rfl⟩
    · have hg27' := hg27
      try simp only [decide_eq_true_eq, decide_eq_false_iff_not, Bool.not_eq_true', Bool.not_eq_false', ne_eq, Decidable.not_not, Bool.not_eq_true, Bool.and_eq_true, Bool.or_eq_true, BitVec.reduceToNat] at hg27'
      refine JR.ugt (g := 30) rfl rfl rfl rfl rfl hg27 (.fieldAddr fa_33_2 rfl) (by decide) ?_
      refine JR.vgt (g := 30) rfl rfl rfl rfl rfl hg27 (.ld one_3 rfl (hj := by first | exact RA.get_rd _ | exact RA.get_st _ | exact RA.get_me _ | exact RA.get_sh _ | exact RA.get_sv _ | exact RA.get_lkr _ | exact RA.get_vdr _ | exact RA.get_dcr _ | exact RA.get_bp _ | exact RA.get_bt _ | exact RA.get_bd _ | exact RA.msg_valid _ | exact RA.pr_valid _ | rfl | exact tab_get (by first | omega | (simp; omega)) | exact gm (d := 0) (by first | omega | (simp; omega)))) (by decide) ?_
      refine JR.ugt (g := 30) rfl rfl rfl rfl rfl hg27 (.move rfl) (by decide) ?_
      refine JR.ugt (g := 30) rfl rfl rfl rfl rfl hg27 (.fieldAddr fa_33_1 rfl) (by decide) ?_
      refine JR.vgt (g := 30) rfl rfl rfl rfl rfl hg27 (.ld one_3 rfl (hj := by first | exact RA.get_rd _ | exact RA.get_st _ | exact RA.get_me _ | exact RA.get_sh _ | exact RA.get_sv _ | exact RA.get_lkr _ | exact RA.get_vdr _ | exact RA.get_dcr _ | exact RA.get_bp _ | exact RA.get_bt _ | exact RA.get_bd _ | exact RA.msg_valid _ | exact RA.pr_valid _ | rfl | exact tab_get (by first | omega | (simp; omega)) | exact gm (d := 0) (by first | omega | (simp; omega)))) (by decide) ?_
      refine JR.mgt (g := 30) rfl rfl rfl rfl hg27 (.c (f21_spec p s hok m.round) body_21) (by decide) ?_
      rintro _ _ _ ⟨rfl, rfl, rfl⟩
      refine kp ?_
      refine JR.ugt (g := 30) rfl rfl rfl rfl rfl hg27 (.bin rfl rfl BinR.neq_i) (by decide) ?_
      refine JR.u rfl rfl rfl (Yv.pick0 rfl hg27 rfl) (by decide) ?_
      refine .uw rfl (.move rfl) ?_
      refine JR.gsplit (g := 38) rfl (fun hg36 => ?_) (fun hg36 => ?_)
      · have hg36' := hg36
        try simp only [decide_eq_true_eq, decide_eq_false_iff_not, Bool.not_eq_true', Bool.not_eq_false', ne_eq, Decidable.not_not, Bool.not_eq_true, Bool.and_eq_true, Bool.or_eq_true, BitVec.reduceToNat] at hg36'
        refine JR.gf (g := 39) rfl rfl rfl rfl hg36 (by decide) ?_
        refine JR.gf (g := 39) rfl rfl rfl rfl hg36 (by decide) ?_
        refine JR.gf (g := 39) rfl rfl rfl rfl hg36 (by decide) ?_
        refine JR.gf (g := 39) rfl rfl rfl rfl hg36 (by decide) ?_
        refine JR.u rfl rfl rfl (Yv.pick1 rfl hg36 rfl) (by decide) ?_
        refine .uw rfl (.assign rfl) ?_
        refine .nil (.tn ?_)
        refine .k1 rfl rfl ?_
        have hE : s.abs.hearE m = 1 := if_pos (by first | exact .inl hg20' | exact .inr (.inl hg27') | exact .inr (.inr (.inl hg36')))
        refine .seq (.region ?_)
        refine .w (.assign rfl) ?_
        refine .nil (.tn (.ret (.block_ret (.then_ret ?_))))
        exact .dn [] [mpR s.bp itK prV _] (res1 rfl (.tmp rfl)) ⟨by rw [hE], rfl, by rw [hE]; first | done | rfl⟩
      · have hg36' := hg36
        try simp only [decide_eq_true_eq, decide_eq_false_iff_not, Bool.not_eq_true', Bool.not_eq_false', ne_eq, Decidable.not_not, Bool.not_eq_true, Bool.and_eq_true, Bool.or_eq_true, BitVec.reduceToNat] at hg36'
        refine JR.ugt (g := 39) rfl rfl rfl rfl rfl hg36 (.fieldAddr fa_33_3 rfl) (by decide) ?_
        refine JR.vgt (g := 39) rfl rfl rfl rfl rfl hg36 (.as (v' := dgV m.value) (.lda agg_24 rfl) (congrArg (fun l : List Value => Value.agg l.toArray) (RA.msg_v _))) (by decide) ?_
        refine JR.ugt (g := 39) rfl rfl rfl rfl rfl hg36 (.as (v' := dgV D0) (.build bld_24 rfl rfl) rfl) (by decide) ?_
        refine JR.ugt (g := 39) rfl rfl rfl rfl rfl hg36 (.bin rfl rfl (eql_dig)) (by decide) ?_
        refine JR.u rfl rfl rfl (Yv.pick0 rfl hg36 rfl) (by decide) ?_
        refine .uw rfl (.assign rfl) ?_
        refine .nil (.tn ?_)
        refine .cn rfl (fun hc1 => ?_) (fun hc1 => ?_)
        · have hE : s.abs.hearE m = 1 := if_pos (.inr (.inr (.inr hc1)))
          refine .seq (.region ?_)
          refine .w (.assign rfl) ?_
          refine .nil (.tn (.ret (.block_ret (.then_ret ?_))))
          exact .dn [] [mpR s.bp itK prV _] (res1 rfl (.tmp rfl)) ⟨by rw [hE], rfl, by rw [hE]; first | done | rfl⟩
        · have hnb : ¬ (m.valid < -1 ∨ m.round ≤ m.valid ∨ m.from_ ≠ s.abs.proposer m.round ∨ m.value = D0) := by
            rintro (h | h | h | h)
            · exact hg20' h
            · omega
            · exact h hg36'
            · exact hc1 h
          refine .seq (.region ?_)
          refine .w (.move rfl) ?_
          refine .w (.move rfl) ?_
          refine .gn (g := 8) rfl (fun hg45 hg45' => ?_) (fun hg45 hg45' => ?_)
          · obtain ⟨P, hP⟩ := Option.isSome_iff_exists.1 hg45'
            have hPg : ((s.pr.get m.round).getD Prp0) = P := by rw [hP]; rfl
            rw [hPg]
            have hP' : s.abs.pr m.round = some P := hP
            refine .gt (g := 47) rfl rfl hg45 ?_
            refine .w (.fieldAddr fa_100_0 rfl) ?_
            refine .gt (g := 47) rfl rfl hg45 ?_
            refine .w (.as (v' := dgV P.v) (.lda agg_24 rfl) (congrArg (fun l : List Value => Value.agg l.toArray) (RA.pr_v _))) ?_
            refine .gt (g := 47) rfl rfl hg45 ?_
            refine .w (.fieldAddr fa_33_3 rfl) ?_
            refine .gt (g := 47) rfl rfl hg45 ?_
            refine .w (.as (v' := dgV m.value) (.lda agg_24 rfl) (congrArg (fun l : List Value => Value.agg l.toArray) (RA.msg_v _))) ?_
            refine .gt (g := 47) rfl rfl hg45 ?_
            refine .w (.bin rfl rfl (eql_dig)) ?_
            refine .w (.pick1 rfl hg45 rfl) ?_
            refine .w (.move rfl) ?_
            refine .gn (g := 53) rfl (fun hg52 hg52' => ?_) (fun hg52 hg52' => ?_)
            · refine .gt (g := 54) rfl rfl hg52 ?_
              refine .w (.fieldAddr fa_100_1 rfl) ?_
              refine .gt (g := 54) rfl rfl hg52 ?_
              refine .w (.ld one_3 rfl (hj := by first | exact RA.get_rd _ | exact RA.get_st _ | exact RA.get_me _ | exact RA.get_sh _ | exact RA.get_sv _ | exact RA.get_lkr _ | exact RA.get_vdr _ | exact RA.get_dcr _ | exact RA.get_bp _ | exact RA.get_bt _ | exact RA.get_bd _ | exact RA.msg_valid _ | exact RA.pr_valid _ | rfl | exact tab_get (by first | omega | (simp; omega)) | exact gm (d := 0) (by first | omega | (simp; omega)))) ?_
              refine .gt (g := 54) rfl rfl hg52 ?_
              refine .w (.fieldAddr fa_33_4 rfl) ?_
              refine .gt (g := 54) rfl rfl hg52 ?_
              refine .w (.ld one_3 rfl (hj := by first | exact RA.get_rd _ | exact RA.get_st _ | exact RA.get_me _ | exact RA.get_sh _ | exact RA.get_sv _ | exact RA.get_lkr _ | exact RA.get_vdr _ | exact RA.get_dcr _ | exact RA.get_bp _ | exact RA.get_bt _ | exact RA.get_bd _ | exact RA.msg_valid _ | exact RA.pr_valid _ | rfl | exact tab_get (by first | omega | (simp; omega)) | exact gm (d := 0) (by first | omega | (simp; omega)))) ?_
              refine .gt (g := 54) rfl rfl hg52 ?_
              refine .w (.bin rfl rfl BinR.eql_i) ?_
              refine .w (.pick1 rfl hg52 rfl) ?_
              refine .w (.assign rfl) ?_
              refine .nil (.tn ?_)
              refine .cn rfl (fun hc2 => ?_) (fun hc2 => ?_)
              · have hE := AR.hearE_13 hnb (a := s.abs) hP' ⟨hg52', hc2⟩
                refine .seq (.region ?_)
                refine .w (.assign rfl) ?_
                refine .nil (.tn (.ret (.block_ret (.then_ret ?_))))
                exact .dn [] [mpR s.bp itK prV _] (res1 rfl (.tmp rfl)) ⟨by rw [hE], rfl, by rw [hE]; first | done | rfl⟩
              · have hE := AR.hearE_52 hnb (a := s.abs) hP' (fun h => hc2 h.2)
                refine .seq (.region ?_)
                refine .w (.move rfl) ?_
                refine .w (.assign rfl) ?_
                refine .nil (.tn ?_)
                refine .k1 rfl hg45 ?_
                skip
                refine .seq (.region ?_)
                refine .w (.assign rfl) ?_
                refine .nil (.tn (.ret (.block_ret (.then_ret ?_))))
                exact .dn [] [mpR s.bp itK prV _] (res1 rfl (.tmp rfl)) ⟨by rw [hE], rfl, by rw [hE]; first | done | rfl⟩
            · refine .gf (g := 54) rfl rfl hg52 (by decide) ?_
              refine .gf (g := 54) rfl rfl hg52 (by decide) ?_
              refine .gf (g := 54) rfl rfl hg52 (by decide) ?_
              refine .gf (g := 54) rfl rfl hg52 (by decide) ?_
              refine .gf (g := 54) rfl rfl hg52 (by decide) ?_
              refine .w (.pick0 rfl hg52 rfl) ?_
              refine .w (.assign rfl) ?_
              refine .nil (.tn ?_)
              refine .k0 rfl rfl ?_
              first | (have hE := AR.hearE_52 hnb (a := s.abs) hP' (fun h => hg52' h.1)) | skip
              refine .seq (.region ?_)
              refine .w (.move rfl) ?_
              refine .w (.assign rfl) ?_
              refine .nil (.tn ?_)
              refine .k1 rfl hg45 ?_
              skip
              refine .seq (.region ?_)
              refine .w (.assign rfl) ?_
              refine .nil (.tn (.ret (.block_ret (.then_ret ?_))))
              exact .dn [] [mpR s.bp itK prV _] (res1 rfl (.tmp rfl)) ⟨by rw [hE], rfl, by rw [hE]; first | done | rfl⟩
          · have hP : s.pr.get m.round = none := by have h := hg45'; cases hq : s.pr.get m.round with
              | none => rfl
              | some _ => rw [hq] at h; cases h
            have hE := AR.hearE_0 hnb (a := s.abs) hP
            refine .gf (g := 47) rfl rfl hg45 (by decide) ?_
            refine .gf (g := 47) rfl rfl hg45 (by decide) ?_
            refine .gf (g := 47) rfl rfl hg45 (by decide) ?_
            refine .gf (g := 47) rfl rfl hg45 (by decide) ?_
            refine .gf (g := 47) rfl rfl hg45 (by decide) ?_
            refine .w (.pick0 rfl hg45 rfl) ?_
            refine .w (.move rfl) ?_
            refine .gf (g := 54) rfl rfl rfl (by decide) ?_
            refine .gf (g := 54) rfl rfl rfl (by decide) ?_
            refine .gf (g := 54) rfl rfl rfl (by decide) ?_
            refine .gf (g := 54) rfl rfl rfl (by decide) ?_
            refine .gf (g := 54) rfl rfl rfl (by decide) ?_
            refine .w (.pick0 rfl rfl rfl) ?_
            refine .w (.assign rfl) ?_
            refine .nil (.tn ?_)
            refine .k0 rfl rfl ?_
            first | (have hE := AR.hearE_52 hnb (a := s.abs) hP' (fun h => hg52' h.1)) | skip
            refine .seq (.region ?_)
            refine .w (.move rfl) ?_
            refine .w (.assign rfl) ?_
            refine .nil (.tn ?_)
            refine .k0 rfl hg45 ?_
            skip
            refine .skip (.block_normal (.tn (.seq ?_)))
            refine JC.draw (.one 0 (.one 1 (.one 2 (.one 3 (.one 4 (.one 5 (.one 6 (.one 7 (.one 8 (.one 9 (.one 10 (.one 11 (.one 12 .nil))))))))))))) (fun i => ([12] : List Nat).contains i) (fun i => ([12] : List Nat).contains i) (fun i => ([0, 1, 2, 4, 6, 8, 10, 11] : List Nat).contains i) mixed (by kernel_rfl) (by decide) (by kernel_rfl) ?_
            refine .uw rfl (.move rfl) ?_
            refine .uw rfl (.nilCheck rfl) ?_
            refine .uw rfl (.fieldAddr fa_77_9 rfl) ?_
            refine .w rfl (.ld one_73 rfl (hj := by first | exact RA.get_rd _ | exact RA.get_st _ | exact RA.get_me _ | exact RA.get_sh _ | exact RA.get_sv _ | exact RA.get_lkr _ | exact RA.get_vdr _ | exact RA.get_dcr _ | exact RA.get_bp _ | exact RA.get_bt _ | exact RA.get_bd _ | exact RA.msg_valid _ | exact RA.pr_valid _ | rfl | exact tab_get (by first | omega | (simp; omega)) | exact gm (d := 0) (by first | omega | (simp; omega)))) ?_
            refine .uw rfl (.fieldAddr fa_33_1 rfl) ?_
            refine .w rfl (.ld one_3 rfl (hj := by first | exact RA.get_rd _ | exact RA.get_st _ | exact RA.get_me _ | exact RA.get_sh _ | exact RA.get_sv _ | exact RA.get_lkr _ | exact RA.get_vdr _ | exact RA.get_dcr _ | exact RA.get_bp _ | exact RA.get_bt _ | exact RA.get_bd _ | exact RA.msg_valid _ | exact RA.pr_valid _ | rfl | exact tab_get (by first | omega | (simp; omega)) | exact gm (d := 0) (by first | omega | (simp; omega)))) ?_
            refine .uw rfl (.fieldAddr fa_33_3 rfl) ?_
            refine .w rfl (.as (v' := dgV m.value) (.lda agg_24 rfl) (congrArg (fun l : List Value => Value.agg l.toArray) (RA.msg_v _))) ?_
            refine .uw rfl (.fieldAddr fa_33_4 rfl) ?_
            refine .w rfl (.ld one_3 rfl (hj := by first | exact RA.get_rd _ | exact RA.get_st _ | exact RA.get_me _ | exact RA.get_sh _ | exact RA.get_sv _ | exact RA.get_lkr _ | exact RA.get_vdr _ | exact RA.get_dcr _ | exact RA.get_bp _ | exact RA.get_bt _ | exact RA.get_bd _ | exact RA.msg_valid _ | exact RA.pr_valid _ | rfl | exact tab_get (by first | omega | (simp; omega)) | exact gm (d := 0) (by first | omega | (simp; omega)))) ?_
            refine .uw rfl (.move rfl) ?_
            refine .uw rfl (.as (v' := prV ⟨m.value, m.valid, good⟩) (.bd bld_100) (congrArg (fun l : List Value => Value.agg l.toArray) (pr3 _ _ _))) ?_
            refine .mw0 rfl (.mu m.round (⟨m.value, m.valid, good⟩ : Prp) Tryd.underlying73 mkey_73) ?_
            rintro _ _ _ ⟨rfl, rfl⟩
            refine kp ?_
            refine .nil (.tn (.seq (.region ?_)))
            refine .w (.assign rfl) ?_
            refine .nil (.tn (.ret ?_))
            exact .dn [] [mpR s.bp itK prV _] (res1 rfl (.tmp rfl)) ⟨by rw [hE], rfl, by rw [hE]; first | done | rfl⟩
end Go.Proofs.YtncececcopalgaaDoor
