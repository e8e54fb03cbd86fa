/- Walks: the rule of locks. -/
import Derived.Test.YtncececcopalgaaDoorF6
namespace Go.Proofs.YtncececcopalgaaDoor
open Go.RowKit
set_option maxRecDepth 100000
set_option linter.unusedVariables false
set_option linter.unusedSimpArgs false
theorem f46_spec (p : Nat) (s : RA) (hok : s.Ok) :
    Spec Tryd.prog 46 #[(ptr p 0)] [Res.var 0 [u64 9223372036854775808, u64 0, u64 0, u64 0]] (RA.H p s)
      (fun r Γ' H' => ∃ (s' : RA) (w : Value), s'.Ok ∧ s'.abs = (s.abs.lock).1 ∧ r = .tuple #[w, .bool (s.abs.lock).2.2] ∧ Γ' = [] ∧ H' = Res.row w (s.abs.lock).2.1.length 41 35 (acC (s.abs.lock).2.1) :: RA.H p s') := by
  refine Spec.of_args Tryd.func46 rfl Tryd.ntmps46 (by simp) fun w => ?_
  refine .seq (.region ?_)
  refine .w (.assign rfl) ?_
  refine .w (.assign rfl) ?_
  refine .nil (.tn (.seq ?_))
  refine JC.draw (.one 0 (.one 1 (.one 2 (.one 3 (.one 4 (.one 5 (.one 6 (.one 7 (.one 8 (.one 9 (.one 10 (.one 11 (.one 12 (.one 13 (.one 14 .nil))))))))))))))) (fun i => ([13] : List Nat).contains i) (fun i => ([12, 13] : List Nat).contains i) (fun i => ([0, 1, 2, 4, 5, 6, 9, 10, 11, 14] : List Nat).contains i) mixed (by kernel_rfl) (by decide) (by kernel_rfl) ?_
  refine .uw rfl (.move rfl) ?_
  refine .uw rfl (.nilCheck rfl) ?_
  refine .uw rfl (.fieldAddr fa_77_9 rfl) ?_
  refine .w rfl (.ld one_73 rfl (hj := by first | exact RA.get_rd _ | exact RA.get_st _ | exact RA.get_me _ | exact RA.get_sh _ | exact RA.get_sv _ | exact RA.get_lkr _ | exact RA.get_vdr _ | exact RA.get_dcr _ | exact RA.get_bp _ | exact RA.get_bt _ | exact RA.get_bd _ | exact RA.pr_valid _ | exact RA.pr_good _ | rfl | exact tab_get (by first | omega | (simp; omega)) | exact gm (d := 0) (by first | omega | (simp; omega)))) ?_
  refine .uw rfl (.move rfl) ?_
  refine .uw rfl (.nilCheck rfl) ?_
  refine .uw rfl (.fieldAddr fa_77_4 rfl) ?_
  refine .w rfl (.ld one_3 rfl (hj := by first | exact RA.get_rd _ | exact RA.get_st _ | exact RA.get_me _ | exact RA.get_sh _ | exact RA.get_sv _ | exact RA.get_lkr _ | exact RA.get_vdr _ | exact RA.get_dcr _ | exact RA.get_bp _ | exact RA.get_bt _ | exact RA.get_bd _ | exact RA.pr_valid _ | exact RA.pr_good _ | rfl | exact tab_get (by first | omega | (simp; omega)) | exact gm (d := 0) (by first | omega | (simp; omega)))) ?_
  refine .w rfl (.as (v' := .tuple #[prV ((s.pr.get s.rd).getD Prp0), .bool (s.pr.get s.rd).isSome]) (.lk2 s.rd Tryd.underlying73 mkey_73 zf_100) (by cases s.pr.get s.rd <;> rfl)) ?_
  refine .uw rfl (.move rfl) ?_
  refine .uw rfl (.as (v' := prV ((s.pr.get s.rd).getD Prp0)) (.extract rfl rfl) rfl) ?_
  refine .uw rfl (.as (v' := .bool (s.pr.get s.rd).isSome) (.extract rfl rfl) rfl) ?_
  refine .mw rfl (Mv.alloc zero_100) ?_
  rintro _ _ _ ⟨b4, rfl, rfl, rfl⟩
  refine kp ?_
  refine .mw0 rfl (.sa sz_100 (h1 := (Prp.one _))) ?_
  rintro _ _ _ ⟨rfl, rfl⟩
  refine kp ?_
  refine .uw rfl (.assign rfl) ?_
  refine .nil (.tn (.seq (.seq ?_)))
  refine JC.draw (.one 0 (.one 1 (.one 2 (.one 3 (.one 4 (.one 5 (.one 6 (.one 7 (.one 8 (.one 9 (.one 10 (.one 11 (.one 12 (.one 13 (.one 14 (.one 15 (.one 16 (.one 17 (.one 18 (.one 19 (.one 20 (.one 21 (.one 22 (.one 23 (.one 24 (.one 25 (.one 26 (.one 27 (.one 28 (.one 29 .nil)))))))))))))))))))))))))))))) (fun i => ([22, 27] : List Nat).contains i) (fun i => ([22, 27] : List Nat).contains i) (fun i => ([0, 1, 2, 4, 5, 6, 7, 8, 9, 10, 12, 13, 14, 15, 16, 17, 18, 20, 23, 24, 25, 26, 28, 29] : List Nat).contains i) mixed (by kernel_rfl) (by decide) (by kernel_rfl) ?_
  refine .uw rfl (.move rfl) ?_
  refine .uw rfl (.nilCheck rfl) ?_
  refine .uw rfl (.fieldAddr fa_77_5 rfl) ?_
  refine .w rfl (.ld one_3 rfl (hj := by first | exact RA.get_rd _ | exact RA.get_st _ | exact RA.get_me _ | exact RA.get_sh _ | exact RA.get_sv _ | exact RA.get_lkr _ | exact RA.get_vdr _ | exact RA.get_dcr _ | exact RA.get_bp _ | exact RA.get_bt _ | exact RA.get_bd _ | exact RA.pr_valid _ | exact RA.pr_good _ | rfl | exact tab_get (by first | omega | (simp; omega)) | exact gm (d := 0) (by first | omega | (simp; omega)))) ?_
  refine .uw rfl (.bin rfl rfl BinR.lss_i) ?_
  refine .uw rfl (.move rfl) ?_
  refine JR.gsplit (g := 22) rfl (fun hg24 => ?_) (fun hg24 => ?_)
  · have hg24' := hg24
    try simp only [decide_eq_true_eq, decide_eq_false_iff_not, Bool.not_eq_true', Bool.not_eq_false', ne_eq, Decidable.not_not, Bool.not_eq_true, Bool.and_eq_true, Bool.or_eq_true, BitVec.reduceToNat] at hg24'
    have hno := AR.lock_no1 (a := s.abs) hg24'
    refine JR.gf (g := 23) rfl rfl rfl rfl hg24 (by decide) ?_
    refine JR.gf (g := 23) rfl rfl rfl rfl hg24 (by decide) ?_
    refine JR.u rfl rfl rfl (Yv.pick1 rfl hg24 rfl) (by decide) ?_
    refine .uw rfl (.move rfl) ?_
    refine JR.gf (g := 27) rfl rfl rfl rfl rfl (by decide) ?_
    refine JR.gf (g := 27) rfl rfl rfl rfl rfl (by decide) ?_
    refine JR.gf (g := 27) rfl rfl rfl rfl rfl (by decide) ?_
    refine JR.u rfl rfl rfl (Yv.pick1 rfl rfl rfl) (by decide) ?_
    refine .uw rfl (.move rfl) ?_
    refine JR.gf (g := 32) rfl rfl rfl rfl rfl (by decide) ?_
    refine JR.gf (g := 32) rfl rfl rfl rfl rfl (by decide) ?_
    refine JR.gf (g := 32) rfl rfl rfl rfl rfl (by decide) ?_
    refine JR.gf (g := 32) rfl rfl rfl rfl rfl (by decide) ?_
    refine JR.gf (g := 32) rfl rfl rfl rfl rfl (by decide) ?_
    refine JR.gf (g := 32) rfl rfl rfl rfl rfl (by decide) ?_
    refine JR.gf (g := 32) rfl rfl rfl rfl rfl (by decide) ?_
    refine JR.gfm (g := 32) rfl rfl rfl rfl rfl (by decide) ?_ ?_
    · exact ⟨Subs.sub (by repeat (first | exact Subs.nil _ | apply Subs.cons | exact List.Mem.head _ | refine List.Mem.tail _ ?_)), .inl rfl⟩
    refine JR.gf (g := 32) rfl rfl rfl rfl rfl (by decide) ?_
    refine JR.u rfl rfl rfl (Yv.pick1 rfl rfl rfl) (by decide) ?_
    refine .uw rfl (.move rfl) ?_
    refine JR.gf (g := 43) rfl rfl rfl rfl rfl (by decide) ?_
    refine JR.gfm (g := 43) rfl rfl rfl rfl rfl (by decide) ?_ ?_
    · exact ⟨Subs.sub (by repeat (first | exact Subs.nil _ | apply Subs.cons | exact List.Mem.head _ | refine List.Mem.tail _ ?_)), .inl rfl⟩
    refine JR.gf (g := 43) rfl rfl rfl rfl rfl (by decide) ?_
    refine JR.u rfl rfl rfl (Yv.pick1 rfl rfl rfl) (by decide) ?_
    refine .nil (.tn ?_)
    refine .k1 rfl rfl ?_
    refine .seq (.region ?_)
    refine .w (.assign rfl) ?_
    refine .w (.assign rfl) ?_
    refine .nil (.tn (.ret (.then_ret ?_)))
    refine .nilRow 41 35 ?_
    exact .dn [] (Res.row (.slice none 0 0) 0 41 35 [] :: RA.H p s) (res2 rfl (.tmp rfl) (.tmp rfl)) ⟨s, _, (RA.Like.refl hok).ok, by rw [hno]; exact (RA.Like.refl hok).abs, by rw [hno]; rfl, rfl, by rw [hno]; rfl⟩
  · have hg24' := hg24
    try simp only [decide_eq_true_eq, decide_eq_false_iff_not, Bool.not_eq_true', Bool.not_eq_false', ne_eq, Decidable.not_not, Bool.not_eq_true, Bool.and_eq_true, Bool.or_eq_true, BitVec.reduceToNat] at hg24'
    have hg24' : ¬ s.st < 2 := by omega
    refine JR.ugt (g := 23) rfl rfl rfl rfl rfl hg24 (.move rfl) (by decide) ?_
    refine JR.ugt (g := 23) rfl rfl rfl rfl rfl hg24 (.not rfl) (by decide) ?_
    refine JR.u rfl rfl rfl (Yv.pick0 rfl hg24 rfl) (by decide) ?_
    refine .uw rfl (.move rfl) ?_
    refine JR.gsplit (g := 26) rfl (fun hg28 => ?_) (fun hg28 => ?_)
    · have hg28' := hg28
      try simp only [decide_eq_true_eq, decide_eq_false_iff_not, Bool.not_eq_true', Bool.not_eq_false', ne_eq, Decidable.not_not, Bool.not_eq_true, Bool.and_eq_true, Bool.or_eq_true, BitVec.reduceToNat] at hg28'
      have hP : s.abs.pr s.abs.rd = none := by have h := hg28'; cases hq : s.pr.get s.rd with
        | none => exact hq
        | some _ => rw [hq] at h; cases h
      have hno := AR.lock_no2 (a := s.abs) hg24' hP
      refine JR.gf (g := 27) rfl rfl rfl rfl hg28 (by decide) ?_
      refine JR.gf (g := 27) rfl rfl rfl rfl hg28 (by decide) ?_
      refine JR.gf (g := 27) rfl rfl rfl rfl hg28 (by decide) ?_
      refine JR.u rfl rfl rfl (Yv.pick1 rfl hg28 rfl) (by decide) ?_
      refine .uw rfl (.move rfl) ?_
      refine JR.gf (g := 32) rfl rfl rfl rfl rfl (by decide) ?_
      refine JR.gf (g := 32) rfl rfl rfl rfl rfl (by decide) ?_
      refine JR.gf (g := 32) rfl rfl rfl rfl rfl (by decide) ?_
      refine JR.gf (g := 32) rfl rfl rfl rfl rfl (by decide) ?_
      refine JR.gf (g := 32) rfl rfl rfl rfl rfl (by decide) ?_
      refine JR.gf (g := 32) rfl rfl rfl rfl rfl (by decide) ?_
      refine JR.gf (g := 32) rfl rfl rfl rfl rfl (by decide) ?_
      refine JR.gfm (g := 32) rfl rfl rfl rfl rfl (by decide) ?_ ?_
      · exact ⟨Subs.sub (by repeat (first | exact Subs.nil _ | apply Subs.cons | exact List.Mem.head _ | refine List.Mem.tail _ ?_)), .inl rfl⟩
      refine JR.gf (g := 32) rfl rfl rfl rfl rfl (by decide) ?_
      refine JR.u rfl rfl rfl (Yv.pick1 rfl rfl rfl) (by decide) ?_
      refine .uw rfl (.move rfl) ?_
      refine JR.gf (g := 43) rfl rfl rfl rfl rfl (by decide) ?_
      refine JR.gfm (g := 43) rfl rfl rfl rfl rfl (by decide) ?_ ?_
      · exact ⟨Subs.sub (by repeat (first | exact Subs.nil _ | apply Subs.cons | exact List.Mem.head _ | refine List.Mem.tail _ ?_)), .inl rfl⟩
      refine JR.gf (g := 43) rfl rfl rfl rfl rfl (by decide) ?_
      refine JR.u rfl rfl rfl (Yv.pick1 rfl rfl rfl) (by decide) ?_
      refine .nil (.tn ?_)
      refine .k1 rfl rfl ?_
      refine .seq (.region ?_)
      refine .w (.assign rfl) ?_
      refine .w (.assign rfl) ?_
      refine .nil (.tn (.ret (.then_ret ?_)))
      refine .nilRow 41 35 ?_
      exact .dn [] (Res.row (.slice none 0 0) 0 41 35 [] :: RA.H p s) (res2 rfl (.tmp rfl) (.tmp rfl)) ⟨s, _, (RA.Like.refl hok).ok, by rw [hno]; exact (RA.Like.refl hok).abs, by rw [hno]; rfl, rfl, by rw [hno]; rfl⟩
    · have hg28' := hg28
      try simp only [decide_eq_true_eq, decide_eq_false_iff_not, Bool.not_eq_true', Bool.not_eq_false', ne_eq, Decidable.not_not, Bool.not_eq_true, Bool.and_eq_true, Bool.or_eq_true, BitVec.reduceToNat] at hg28'
      obtain ⟨P, hP⟩ := Option.isSome_iff_exists.1 hg28'
      have hPg : ((s.pr.get s.rd).getD Prp0) = P := by rw [hP]; rfl
      rw [hPg]
      have hP' : s.abs.pr s.abs.rd = some P := hP
      refine JR.ugt (g := 27) rfl rfl rfl rfl rfl hg28 (.fieldAddr fa_100_2 rfl) (by decide) ?_
      refine JR.vgt (g := 27) rfl rfl rfl rfl rfl hg28 (.ld one_4 rfl (hj := by first | exact RA.get_rd _ | exact RA.get_st _ | exact RA.get_me _ | exact RA.get_sh _ | exact RA.get_sv _ | exact RA.get_lkr _ | exact RA.get_vdr _ | exact RA.get_dcr _ | exact RA.get_bp _ | exact RA.get_bt _ | exact RA.get_bd _ | exact RA.pr_valid _ | exact RA.pr_good _ | rfl | exact tab_get (by first | omega | (simp; omega)) | exact gm (d := 0) (by first | omega | (simp; omega)))) (by decide) ?_
      refine JR.ugt (g := 27) rfl rfl rfl rfl rfl hg28 (.not rfl) (by decide) ?_
      refine JR.u rfl rfl rfl (Yv.pick0 rfl hg28 rfl) (by decide) ?_
      refine .uw rfl (.move rfl) ?_
      refine JR.gsplit (g := 31) rfl (fun hg33 => ?_) (fun hg33 => ?_)
      · have hg33' := hg33
        try simp only [decide_eq_true_eq, decide_eq_false_iff_not, Bool.not_eq_true', Bool.not_eq_false', ne_eq, Decidable.not_not, Bool.not_eq_true, Bool.and_eq_true, Bool.or_eq_true, BitVec.reduceToNat] at hg33'
        have hno := AR.lock_no3 (a := s.abs) hg24' hP' (.inl hg33')
        refine JR.gf (g := 32) rfl rfl rfl rfl hg33 (by decide) ?_
        refine JR.gf (g := 32) rfl rfl rfl rfl hg33 (by decide) ?_
        refine JR.gf (g := 32) rfl rfl rfl rfl hg33 (by decide) ?_
        refine JR.gf (g := 32) rfl rfl rfl rfl hg33 (by decide) ?_
        refine JR.gf (g := 32) rfl rfl rfl rfl hg33 (by decide) ?_
        refine JR.gf (g := 32) rfl rfl rfl rfl hg33 (by decide) ?_
        refine JR.gf (g := 32) rfl rfl rfl rfl hg33 (by decide) ?_
        refine JR.gfm (g := 32) rfl rfl rfl rfl hg33 (by decide) ?_ ?_
        · exact ⟨Subs.sub (by repeat (first | exact Subs.nil _ | apply Subs.cons | exact List.Mem.head _ | refine List.Mem.tail _ ?_)), .inl rfl⟩
        refine JR.gf (g := 32) rfl rfl rfl rfl hg33 (by decide) ?_
        refine JR.u rfl rfl rfl (Yv.pick1 rfl hg33 rfl) (by decide) ?_
        refine .uw rfl (.move rfl) ?_
        refine JR.gf (g := 43) rfl rfl rfl rfl rfl (by decide) ?_
        refine JR.gfm (g := 43) rfl rfl rfl rfl rfl (by decide) ?_ ?_
        · exact ⟨Subs.sub (by repeat (first | exact Subs.nil _ | apply Subs.cons | exact List.Mem.head _ | refine List.Mem.tail _ ?_)), .inl rfl⟩
        refine JR.gf (g := 43) rfl rfl rfl rfl rfl (by decide) ?_
        refine JR.u rfl rfl rfl (Yv.pick1 rfl rfl rfl) (by decide) ?_
        refine .nil (.tn ?_)
        refine .k1 rfl rfl ?_
        refine .seq (.region ?_)
        refine .w (.assign rfl) ?_
        refine .w (.assign rfl) ?_
        refine .nil (.tn (.ret (.then_ret ?_)))
        refine .nilRow 41 35 ?_
        exact .dn [] (Res.row (.slice none 0 0) 0 41 35 [] :: RA.H p s) (res2 rfl (.tmp rfl) (.tmp rfl)) ⟨s, _, (RA.Like.refl hok).ok, by rw [hno]; exact (RA.Like.refl hok).abs, by rw [hno]; rfl, rfl, by rw [hno]; rfl⟩
      · have hg33' := hg33
        try simp only [decide_eq_true_eq, decide_eq_false_iff_not, Bool.not_eq_true', Bool.not_eq_false', ne_eq, Decidable.not_not, Bool.not_eq_true, Bool.and_eq_true, Bool.or_eq_true, BitVec.reduceToNat] at hg33'
        refine JR.ugt (g := 32) rfl rfl rfl rfl rfl hg33 (.move rfl) (by decide) ?_
        refine JR.ugt (g := 32) rfl rfl rfl rfl rfl hg33 (.move rfl) (by decide) ?_
        refine JR.ugt (g := 32) rfl rfl rfl rfl rfl hg33 (.nilCheck rfl) (by decide) ?_
        refine JR.ugt (g := 32) rfl rfl rfl rfl rfl hg33 (.fieldAddr fa_77_4 rfl) (by decide) ?_
        refine JR.vgt (g := 32) rfl rfl rfl rfl rfl hg33 (.ld one_3 rfl (hj := by first | exact RA.get_rd _ | exact RA.get_st _ | exact RA.get_me _ | exact RA.get_sh _ | exact RA.get_sv _ | exact RA.get_lkr _ | exact RA.get_vdr _ | exact RA.get_dcr _ | exact RA.get_bp _ | exact RA.get_bt _ | exact RA.get_bd _ | exact RA.pr_valid _ | exact RA.pr_good _ | rfl | exact tab_get (by first | omega | (simp; omega)) | exact gm (d := 0) (by first | omega | (simp; omega)))) (by decide) ?_
        refine JR.ugt (g := 32) rfl rfl rfl rfl rfl hg33 (.fieldAddr fa_100_0 rfl) (by decide) ?_
        refine JR.vgt (g := 32) rfl rfl rfl rfl rfl hg33 (.as (v' := dgV P.v) (.lda agg_24 rfl) (congrArg (fun l : List Value => Value.agg l.toArray) (RA.pr_v _))) (by decide) ?_
        refine JR.mgt (g := 32) rfl rfl rfl rfl hg33 (.cb (f51_spec p s hok 2 s.rd P.v) body_51 (h0 := by rintro _ _ _ ⟨_, _, _, h, _⟩; exact h)) (by decide) ?_
        rintro _ _ _ ⟨_, ⟨s2, hl2, rfl, _, rfl⟩, hΓ, hH⟩
        simp only [List.cons_append, List.nil_append] at hH; subst hΓ hH
        refine kp ?_
        refine JR.ugt (g := 32) rfl rfl rfl rfl rfl hg33 (.not rfl) (by decide) ?_
        refine JR.u rfl rfl rfl (Yv.pick0 rfl hg33 rfl) (by decide) ?_
        refine .uw rfl (.move rfl) ?_
        refine JR.gsplit (g := 42) rfl (fun hg44 => ?_) (fun hg44 => ?_)
        · have hg44' := hg44
          try simp only [decide_eq_true_eq, decide_eq_false_iff_not, Bool.not_eq_true', Bool.not_eq_false', ne_eq, Decidable.not_not, Bool.not_eq_true, Bool.and_eq_true, Bool.or_eq_true, BitVec.reduceToNat] at hg44'
          have hno := AR.lock_no3 (a := s.abs) hg24' hP' (.inr (.inl hg44'))
          refine JR.gf (g := 43) rfl rfl rfl rfl hg44 (by decide) ?_
          refine JR.gfm (g := 43) rfl rfl rfl rfl hg44 (by decide) ?_ ?_
          · exact ⟨Subs.sub (by repeat (first | exact Subs.nil _ | apply Subs.cons | exact List.Mem.head _ | refine List.Mem.tail _ ?_)), .inl rfl⟩
          refine JR.gf (g := 43) rfl rfl rfl rfl hg44 (by decide) ?_
          refine JR.u rfl rfl rfl (Yv.pick1 rfl hg44 rfl) (by decide) ?_
          refine .nil (.tn ?_)
          refine .k1 rfl rfl ?_
          refine .seq (.region ?_)
          refine .w (.assign rfl) ?_
          refine .w (.assign rfl) ?_
          refine .nil (.tn (.ret (.then_ret ?_)))
          refine .nilRow 41 35 ?_
          exact .dn [] (Res.row (.slice none 0 0) 0 41 35 [] :: RA.H p s2) (res2 rfl (.tmp rfl) (.tmp rfl)) ⟨s2, _, hl2.ok, by rw [hno]; exact hl2.abs, by rw [hno]; rfl, rfl, by rw [hno]; rfl⟩
        · have hg44' := hg44
          try simp only [decide_eq_true_eq, decide_eq_false_iff_not, Bool.not_eq_true', Bool.not_eq_false', ne_eq, Decidable.not_not, Bool.not_eq_true, Bool.and_eq_true, Bool.or_eq_true, BitVec.reduceToNat] at hg44'
          refine JR.ugt (g := 43) rfl rfl rfl rfl rfl hg44 (.move rfl) (by decide) ?_
          refine JR.mgt (g := 43) rfl rfl rfl rfl hg44 (.c (f54_spec p s2 6) body_54) (by decide) ?_
          rintro _ _ _ ⟨rfl, rfl, rfl⟩
          refine kp ?_
          rw [RA.dn_is hl2]
          refine JR.ugt (g := 43) rfl rfl rfl rfl rfl hg44 (.not rfl) (by decide) ?_
          refine JR.u rfl rfl rfl (Yv.pick0 rfl hg44 rfl) (by decide) ?_
          refine .nil (.tn ?_)
          refine .cn rfl (fun hc1 => ?_) (fun hc1 => ?_)
          · have hno := AR.lock_no3 (a := s.abs) hg24' hP' (.inr (.inr hc1))
            have hl3 : s.Like (s2.mark 6) := ⟨RA.mark_ok hl2.ok _, by rw [RA.mark_abs, hl2.abs]; exact RA.done_same hc1, hl2.sv⟩
            refine .seq (.region ?_)
            refine .w (.assign rfl) ?_
            refine .w (.assign rfl) ?_
            refine .nil (.tn (.ret (.then_ret ?_)))
            refine .nilRow 41 35 ?_
            exact .dn [] (Res.row (.slice none 0 0) 0 41 35 [] :: RA.H p (s2.mark 6)) (res2 rfl (.tmp rfl) (.tmp rfl)) ⟨(s2.mark 6), _, hl3.ok, by rw [hno]; exact hl3.abs, by rw [hno]; rfl, rfl, by rw [hno]; rfl⟩
          · skip
            refine .skip (.tn (.seq ?_))
            refine JC.draw (.one 0 (.one 1 (.one 2 (.one 3 (.one 4 (.one 5 (.one 6 (.one 7 (.one 8 (.one 9 (.one 10 .nil))))))))))) (fun i => ([10] : List Nat).contains i) (fun i => ([10] : List Nat).contains i) (fun i => ([0, 1, 3, 4, 5, 7, 8, 9] : List Nat).contains i) mixed (by kernel_rfl) (by decide) (by kernel_rfl) ?_
            refine .uw rfl (.move rfl) ?_
            refine .uw rfl (.fieldAddr fa_100_0 rfl) ?_
            refine .w rfl (.as (v' := dgV P.v) (.lda agg_24 rfl) (congrArg (fun l : List Value => Value.agg l.toArray) (RA.pr_v _))) ?_
            refine .uw rfl (.move rfl) ?_
            refine .uw rfl (.nilCheck rfl) ?_
            refine .uw rfl (.fieldAddr fa_77_4 rfl) ?_
            refine .w rfl (.ld one_3 rfl (hj := by first | exact RA.get_rd _ | exact RA.get_st _ | exact RA.get_me _ | exact RA.get_sh _ | exact RA.get_sv _ | exact RA.get_lkr _ | exact RA.get_vdr _ | exact RA.get_dcr _ | exact RA.get_bp _ | exact RA.get_bt _ | exact RA.get_bd _ | exact RA.pr_valid _ | exact RA.pr_good _ | rfl | exact tab_get (by first | omega | (simp; omega)) | exact gm (d := 0) (by first | omega | (simp; omega)))) ?_
            refine .uw rfl (.as (v' := hdV ⟨P.v, s2.rd⟩) (.bd bld_71) (congrArg (fun l : List Value => Value.agg l.toArray) (hd2 _ _))) ?_
            refine .uw rfl (.nilCheck rfl) ?_
            refine .uw rfl (.fieldAddr fa_77_7 rfl) ?_
            refine .mw0 rfl (.so sz_71 (h1 := (Held.one _))) ?_
            rintro _ _ _ ⟨rfl, rfl⟩
            refine kp ?_
            rw [RA.set_vd]
            refine .nil (.tn (.seq (.seq (.region ?_))))
            refine .w (.move rfl) ?_
            refine .w (.nilCheck rfl) ?_
            refine .w (.fieldAddr fa_77_5 rfl) ?_
            refine .w (.ld one_3 rfl (hj := by first | exact RA.get_rd _ | exact RA.get_st _ | exact RA.get_me _ | exact RA.get_sh _ | exact RA.get_sv _ | exact RA.get_lkr _ | exact RA.get_vdr _ | exact RA.get_dcr _ | exact RA.get_bp _ | exact RA.get_bt _ | exact RA.get_bd _ | exact RA.pr_valid _ | exact RA.pr_good _ | rfl | exact tab_get (by first | omega | (simp; omega)) | exact gm (d := 0) (by first | omega | (simp; omega)))) ?_
            refine .w (.bin rfl rfl BinR.neq_i) ?_
            refine .nil (.tn ?_)
            refine .cn rfl (fun hc2 => ?_) (fun hc2 => ?_)
            · have hyes := AR.lock_yes1 (a := s.abs) hg24' hP' hg33' hg44' hc1 (fun h => hc2 (by show s2.st = 2; rw [hl2.st]; exact h))
              refine .seq (.region ?_)
              refine .w (.assign rfl) ?_
              refine .w (.assign rfl) ?_
              refine .nil (.tn (.ret (.then_ret ?_)))
              refine .nilRow 41 35 ?_
              exact .dn [] (Res.row (.slice none 0 0) 0 41 35 [] :: RA.H p ((s2.mark 6).setVd ⟨P.v, s2.rd⟩)) (res2 rfl (.tmp rfl) (.tmp rfl)) ⟨((s2.mark 6).setVd ⟨P.v, s2.rd⟩), _, (RA.vd_ok (RA.mark_ok hl2.ok _) _), by rw [hyes]; exact (RA.lock_abs hl2 6 P.v), by rw [hyes], rfl, by rw [hyes]; rfl⟩
            · have hyes := AR.lock_yes2 (a := s.abs) hP' hg33' hg44' hc1 (by show s.st = 2; rw [← hl2.st]; exact hc2)
              refine .skip (.tn (.seq (.region ?_)))
              refine .w (.move rfl) ?_
              refine .w (.move rfl) ?_
              refine .w (.nilCheck rfl) ?_
              refine .w (.fieldAddr fa_77_7 rfl) ?_
              refine .w (.as (v' := hdV ⟨P.v, s2.rd⟩) (.lda agg_71 rfl) (congrArg (fun l : List Value => Value.agg l.toArray) (RA.drop_vdh ((s2.mark 6).setVd ⟨P.v, s2.rd⟩)))) ?_
              refine .w (.nilCheck rfl) ?_
              refine .w (.fieldAddr fa_77_6 rfl) ?_
              refine .so sz_71 ?_ (h1 := (Held.one _))
              rw [RA.set_lk]
              refine .nil (.tn (.seq (.region ?_)))
              refine .w (.move rfl) ?_
              refine .w (.fieldAddr fa_100_0 rfl) ?_
              refine .w (.as (v' := dgV P.v) (.lda agg_24 rfl) (congrArg (fun l : List Value => Value.agg l.toArray) (RA.pr_v _))) ?_
              refine .cb (f33_spec p (((s2.mark 6).setVd ⟨P.v, s2.rd⟩).setLk ⟨P.v, s2.rd⟩) 3 P.v) body_33 ?_
              rintro _ _ ⟨_, _, rfl⟩
              refine .ap ?_
              rw [show ((((s2.mark 6).setVd ⟨P.v, s2.rd⟩).setLk ⟨P.v, s2.rd⟩).abs.vote 3 P.v).2 = (s.abs.vote 3 P.v).2 from by rw [RA.lock_abs2 hl2]; rfl]
              refine .w (.assign rfl) ?_
              refine .w (.assign rfl) ?_
              refine .nil (.tn (.ret ?_))
              exact .dn [] (Res.row _ 1 41 35 (acC (s.abs.vote 3 P.v).2) :: RA.H p ((((s2.mark 6).setVd ⟨P.v, s2.rd⟩).setLk ⟨P.v, s2.rd⟩).setSt 3)) (res2 rfl (.tmp rfl) (.tmp rfl)) ⟨((((s2.mark 6).setVd ⟨P.v, s2.rd⟩).setLk ⟨P.v, s2.rd⟩).setSt 3), _, (RA.st_ok (RA.lk_ok (RA.vd_ok (RA.mark_ok hl2.ok _) _) _) (by decide) (by decide)), by rw [hyes]; exact (by show ((((s2.mark 6).setVd ⟨P.v, s2.rd⟩).setLk ⟨P.v, s2.rd⟩).abs.vote 3 P.v).1 = _; rw [RA.lock_abs2 hl2]), by rw [hyes], rfl, by rw [hyes]; rfl⟩
end Go.Proofs.YtncececcopalgaaDoor
