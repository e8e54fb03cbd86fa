/- Walks: heard. -/
import Derived.Test.YtncececcopalgaaDoorF13
namespace Go.Proofs.YtncececcopalgaaDoor
open Go.RowKit
set_option maxRecDepth 100000
set_option linter.unusedVariables false
set_option linter.unusedSimpArgs false
theorem f11_spec (p : Nat) (s : RA) (hok : s.Ok) (m : Msg) (good : Bool) :
    Spec Tryd.prog 11 #[(ptr p 0), (msV m), (.bool good)] [Res.var 0 [u64 9223372036854775808, u64 0, u64 0, u64 0]] (RA.H p s)
      (fun r Γ' H' => ∃ (s' : RA) (w : Value), s'.Ok ∧ s'.abs = (s.abs.hear m good).1 ∧ r = .tuple #[w, it (s.abs.hear m good).2.2] ∧ Γ' = [] ∧ H' = Res.row w (s.abs.hear m good).2.1.length 41 35 (acC (s.abs.hear m good).2.1) :: RA.H p s') := by
  refine Spec.of_args Tryd.func11 rfl Tryd.ntmps11 (by simp) fun w => ?_
  refine .seq (.region ?_)
  refine .bx fun b4 => ?_
  refine .w (.assign rfl) ?_
  refine .w (.assign rfl) ?_
  refine .nil (.tn (.seq (.seq ?_)))
  refine JC.draw (.one 0 (.one 1 (.one 2 (.one 3 (.one 4 (.one 5 (.one 6 (.one 7 (.one 8 (.one 9 (.one 10 (.one 11 (.one 12 (.one 13 (.one 14 (.one 15 (.one 16 (.one 17 (.one 18 (.one 19 (.one 20 (.one 21 (.one 22 (.one 23 (.one 24 (.one 25 (.one 26 (.one 27 (.one 28 .nil))))))))))))))))))))))))))))) (fun i => ([] : List Nat).contains i) (fun i => ([11] : List Nat).contains i) (fun i => ([0, 2, 3, 4, 6, 7, 8, 9, 12, 13, 14, 15, 17, 18, 19, 20, 22, 23, 24, 27, 28] : List Nat).contains i) mixed (by kernel_rfl) (by decide) (by kernel_rfl) ?_
  refine .uw rfl (.fieldAddr fa_33_0 rfl) ?_
  refine .w rfl (.ld one_3 rfl (hj := by first | exact RA.get_rd _ | exact RA.get_st _ | exact RA.get_me _ | exact RA.get_sh _ | exact RA.get_sv _ | exact RA.get_lkr _ | exact RA.get_vdr _ | exact RA.get_dcr _ | exact RA.get_bp _ | exact RA.get_bt _ | exact RA.get_bd _ | exact RA.msg_valid _ | exact RA.pr_valid _ | rfl | exact tab_get (by first | omega | (simp; omega)) | exact gm (d := 0) (by first | omega | (simp; omega)))) ?_
  refine .uw rfl (.bin rfl rfl BinR.lss_i) ?_
  refine .uw rfl (.move rfl) ?_
  refine JR.gsplit (g := 11) rfl (fun hg8 => ?_) (fun hg8 => ?_)
  · have hg8' := hg8
    try simp only [decide_eq_true_eq, decide_eq_false_iff_not, Bool.not_eq_true', Bool.not_eq_false', ne_eq, Decidable.not_not, Bool.not_eq_true, Bool.and_eq_true, Bool.or_eq_true, BitVec.reduceToNat] at hg8'
    refine JR.gf (g := 12) rfl rfl rfl rfl hg8 (by decide) ?_
    refine JR.gf (g := 12) rfl rfl rfl rfl hg8 (by decide) ?_
    refine JR.gf (g := 12) rfl rfl rfl rfl hg8 (by decide) ?_
    refine JR.u rfl rfl rfl (Yv.pick1 rfl hg8 rfl) (by decide) ?_
    refine .uw rfl (.move rfl) ?_
    refine JR.gf (g := 17) rfl rfl rfl rfl rfl (by decide) ?_
    refine JR.gf (g := 17) rfl rfl rfl rfl rfl (by decide) ?_
    refine JR.gfm (g := 17) rfl rfl rfl rfl rfl (by decide) ?_ ?_
    · exact ⟨Subs.sub (by repeat (first | exact Subs.nil _ | apply Subs.cons | exact List.Mem.head _ | refine List.Mem.tail _ ?_)), .inr (St.keep (by repeat (first | exact Subs.nil _ | apply Subs.cons | exact List.Mem.head _ | refine List.Mem.tail _ ?_)) (by repeat (first | exact Picks.nil _ | apply Picks.cons | exact Pull.here _ _ | apply Pull.there)))⟩
    refine JR.gf (g := 17) rfl rfl rfl rfl rfl (by decide) ?_
    refine JR.u rfl rfl rfl (Yv.pick1 rfl rfl rfl) (by decide) ?_
    refine .uw rfl (.move rfl) ?_
    refine JR.gf (g := 23) rfl rfl rfl rfl rfl (by decide) ?_
    refine JR.gf (g := 23) rfl rfl rfl rfl rfl (by decide) ?_
    refine JR.gf (g := 23) rfl rfl rfl rfl rfl (by decide) ?_
    refine JR.u rfl rfl rfl (Yv.pick1 rfl rfl rfl) (by decide) ?_
    refine .uw rfl (.move rfl) ?_
    refine JR.gf (g := 28) rfl rfl rfl rfl rfl (by decide) ?_
    refine JR.gf (g := 28) rfl rfl rfl rfl rfl (by decide) ?_
    refine JR.gf (g := 28) rfl rfl rfl rfl rfl (by decide) ?_
    refine JR.gf (g := 28) rfl rfl rfl rfl rfl (by decide) ?_
    refine JR.gf (g := 28) rfl rfl rfl rfl rfl (by decide) ?_
    refine JR.gf (g := 28) rfl rfl rfl rfl rfl (by decide) ?_
    refine JR.gf (g := 28) rfl rfl rfl rfl rfl (by decide) ?_
    refine JR.gf (g := 28) rfl rfl rfl rfl rfl (by decide) ?_
    refine JR.u rfl rfl rfl (Yv.pick1 rfl rfl rfl) (by decide) ?_
    refine .nil (.tn ?_)
    refine .k1 rfl rfl ?_
    have he := AR.hear_bad (a := s.abs) (g := good) (show s.abs.badMsg m from by first | exact .inl hg8' | exact .inr (.inl hg13') | exact .inr (.inr (.inl (by first | exact hg19' | exact decide_eq_false hg19'))) | exact .inr (.inr (.inr (.inl hg24'))))
    refine .seq (.region ?_)
    refine .w (.assign rfl) ?_
    refine .w (.assign rfl) ?_
    refine .nil (.tn (.ret (.then_ret ?_)))
    refine .nilRow 41 35 ?_
    exact .dn [] (Res.row (.slice none 0 0) 0 41 35 [] :: RA.H p s) (res2 rfl (.tmp rfl) (.tmp rfl)) ⟨s, _, hok, by rw [he], by rw [he], rfl, by rw [he]; rfl⟩
  · have hg8' := hg8
    try simp only [decide_eq_true_eq, decide_eq_false_iff_not, Bool.not_eq_true', Bool.not_eq_false', ne_eq, Decidable.not_not, Bool.not_eq_true, Bool.and_eq_true, Bool.or_eq_true, BitVec.reduceToNat] at hg8'
    refine JR.ugt (g := 12) rfl rfl rfl rfl rfl hg8 (.fieldAddr fa_33_0 rfl) (by decide) ?_
    refine JR.vgt (g := 12) rfl rfl rfl rfl rfl hg8 (.ld one_3 rfl (hj := by first | exact RA.get_rd _ | exact RA.get_st _ | exact RA.get_me _ | exact RA.get_sh _ | exact RA.get_sv _ | exact RA.get_lkr _ | exact RA.get_vdr _ | exact RA.get_dcr _ | exact RA.get_bp _ | exact RA.get_bt _ | exact RA.get_bd _ | exact RA.msg_valid _ | exact RA.pr_valid _ | rfl | exact tab_get (by first | omega | (simp; omega)) | exact gm (d := 0) (by first | omega | (simp; omega)))) (by decide) ?_
    refine JR.ugt (g := 12) rfl rfl rfl rfl rfl hg8 (.bin rfl rfl BinR.gtr_i) (by decide) ?_
    refine JR.u rfl rfl rfl (Yv.pick0 rfl hg8 rfl) (by decide) ?_
    refine .uw rfl (.move rfl) ?_
    refine JR.gsplit (g := 16) rfl (fun hg13 => ?_) (fun hg13 => ?_)
    · have hg13' := hg13
      try simp only [decide_eq_true_eq, decide_eq_false_iff_not, Bool.not_eq_true', Bool.not_eq_false', ne_eq, Decidable.not_not, Bool.not_eq_true, Bool.and_eq_true, Bool.or_eq_true, BitVec.reduceToNat] at hg13'
      refine JR.gf (g := 17) rfl rfl rfl rfl hg13 (by decide) ?_
      refine JR.gf (g := 17) rfl rfl rfl rfl hg13 (by decide) ?_
      refine JR.gfm (g := 17) rfl rfl rfl rfl hg13 (by decide) ?_ ?_
      · exact ⟨Subs.sub (by repeat (first | exact Subs.nil _ | apply Subs.cons | exact List.Mem.head _ | refine List.Mem.tail _ ?_)), .inr (St.keep (by repeat (first | exact Subs.nil _ | apply Subs.cons | exact List.Mem.head _ | refine List.Mem.tail _ ?_)) (by repeat (first | exact Picks.nil _ | apply Picks.cons | exact Pull.here _ _ | apply Pull.there)))⟩
      refine JR.gf (g := 17) rfl rfl rfl rfl hg13 (by decide) ?_
      refine JR.u rfl rfl rfl (Yv.pick1 rfl hg13 rfl) (by decide) ?_
      refine .uw rfl (.move rfl) ?_
      refine JR.gf (g := 23) rfl rfl rfl rfl rfl (by decide) ?_
      refine JR.gf (g := 23) rfl rfl rfl rfl rfl (by decide) ?_
      refine JR.gf (g := 23) rfl rfl rfl rfl rfl (by decide) ?_
      refine JR.u rfl rfl rfl (Yv.pick1 rfl rfl rfl) (by decide) ?_
      refine .uw rfl (.move rfl) ?_
      refine JR.gf (g := 28) rfl rfl rfl rfl rfl (by decide) ?_
      refine JR.gf (g := 28) rfl rfl rfl rfl rfl (by decide) ?_
      refine JR.gf (g := 28) rfl rfl rfl rfl rfl (by decide) ?_
      refine JR.gf (g := 28) rfl rfl rfl rfl rfl (by decide) ?_
      refine JR.gf (g := 28) rfl rfl rfl rfl rfl (by decide) ?_
      refine JR.gf (g := 28) rfl rfl rfl rfl rfl (by decide) ?_
      refine JR.gf (g := 28) rfl rfl rfl rfl rfl (by decide) ?_
      refine JR.gf (g := 28) rfl rfl rfl rfl rfl (by decide) ?_
      refine JR.u rfl rfl rfl (Yv.pick1 rfl rfl rfl) (by decide) ?_
      refine .nil (.tn ?_)
      refine .k1 rfl rfl ?_
      have he := AR.hear_bad (a := s.abs) (g := good) (show s.abs.badMsg m from by first | exact .inl hg8' | exact .inr (.inl hg13') | exact .inr (.inr (.inl (by first | exact hg19' | exact decide_eq_false hg19'))) | exact .inr (.inr (.inr (.inl hg24'))))
      refine .seq (.region ?_)
      refine .w (.assign rfl) ?_
      refine .w (.assign rfl) ?_
      refine .nil (.tn (.ret (.then_ret ?_)))
      refine .nilRow 41 35 ?_
      exact .dn [] (Res.row (.slice none 0 0) 0 41 35 [] :: RA.H p s) (res2 rfl (.tmp rfl) (.tmp rfl)) ⟨s, _, hok, by rw [he], by rw [he], rfl, by rw [he]; rfl⟩
    · have hg13' := hg13
      try simp only [decide_eq_true_eq, decide_eq_false_iff_not, Bool.not_eq_true', Bool.not_eq_false', ne_eq, Decidable.not_not, Bool.not_eq_true, Bool.and_eq_true, Bool.or_eq_true, BitVec.reduceToNat] at hg13'
      refine JR.ugt (g := 17) rfl rfl rfl rfl rfl hg13 (.fieldAddr fa_33_1 rfl) (by decide) ?_
      refine JR.vgt (g := 17) rfl rfl rfl rfl rfl hg13 (.ld one_3 rfl (hj := by first | exact RA.get_rd _ | exact RA.get_st _ | exact RA.get_me _ | exact RA.get_sh _ | exact RA.get_sv _ | exact RA.get_lkr _ | exact RA.get_vdr _ | exact RA.get_dcr _ | exact RA.get_bp _ | exact RA.get_bt _ | exact RA.get_bd _ | exact RA.msg_valid _ | exact RA.pr_valid _ | rfl | exact tab_get (by first | omega | (simp; omega)) | exact gm (d := 0) (by first | omega | (simp; omega)))) (by decide) ?_
      refine JR.mgt (g := 17) rfl rfl rfl rfl hg13 (.c (f29_spec m.round) body_29) (by decide) ?_
      rintro _ _ _ ⟨rfl, rfl, rfl⟩
      refine kp ?_
      refine JR.ugt (g := 17) rfl rfl rfl rfl rfl hg13 (.not rfl) (by decide) ?_
      refine JR.u rfl rfl rfl (Yv.pick0 rfl hg13 rfl) (by decide) ?_
      refine .uw rfl (.move rfl) ?_
      refine JR.gsplit (g := 22) rfl (fun hg19 => ?_) (fun hg19 => ?_)
      · have hg19' := hg19
        try simp only [decide_eq_true_eq, decide_eq_false_iff_not, Bool.not_eq_true', Bool.not_eq_false', ne_eq, Decidable.not_not, Bool.not_eq_true, Bool.and_eq_true, Bool.or_eq_true, BitVec.reduceToNat] at hg19'
        refine JR.gf (g := 23) rfl rfl rfl rfl hg19 (by decide) ?_
        refine JR.gf (g := 23) rfl rfl rfl rfl hg19 (by decide) ?_
        refine JR.gf (g := 23) rfl rfl rfl rfl hg19 (by decide) ?_
        refine JR.u rfl rfl rfl (Yv.pick1 rfl hg19 rfl) (by decide) ?_
        refine .uw rfl (.move rfl) ?_
        refine JR.gf (g := 28) rfl rfl rfl rfl rfl (by decide) ?_
        refine JR.gf (g := 28) rfl rfl rfl rfl rfl (by decide) ?_
        refine JR.gf (g := 28) rfl rfl rfl rfl rfl (by decide) ?_
        refine JR.gf (g := 28) rfl rfl rfl rfl rfl (by decide) ?_
        refine JR.gf (g := 28) rfl rfl rfl rfl rfl (by decide) ?_
        refine JR.gf (g := 28) rfl rfl rfl rfl rfl (by decide) ?_
        refine JR.gf (g := 28) rfl rfl rfl rfl rfl (by decide) ?_
        refine JR.gf (g := 28) rfl rfl rfl rfl rfl (by decide) ?_
        refine JR.u rfl rfl rfl (Yv.pick1 rfl rfl rfl) (by decide) ?_
        refine .nil (.tn ?_)
        refine .k1 rfl rfl ?_
        have he := AR.hear_bad (a := s.abs) (g := good) (show s.abs.badMsg m from by first | exact .inl hg8' | exact .inr (.inl hg13') | exact .inr (.inr (.inl (by first | exact hg19' | exact decide_eq_false hg19'))) | exact .inr (.inr (.inr (.inl hg24'))))
        refine .seq (.region ?_)
        refine .w (.assign rfl) ?_
        refine .w (.assign rfl) ?_
        refine .nil (.tn (.ret (.then_ret ?_)))
        refine .nilRow 41 35 ?_
        exact .dn [] (Res.row (.slice none 0 0) 0 41 35 [] :: RA.H p s) (res2 rfl (.tmp rfl) (.tmp rfl)) ⟨s, _, hok, by rw [he], by rw [he], rfl, by rw [he]; rfl⟩
      · have hg19' := hg19
        try simp only [decide_eq_true_eq, decide_eq_false_iff_not, Bool.not_eq_true', Bool.not_eq_false', ne_eq, Decidable.not_not, Bool.not_eq_true, Bool.and_eq_true, Bool.or_eq_true, BitVec.reduceToNat] at hg19'
        refine JR.ugt (g := 23) rfl rfl rfl rfl rfl hg19 (.fieldAddr fa_33_2 rfl) (by decide) ?_
        refine JR.vgt (g := 23) rfl rfl rfl rfl rfl hg19 (.ld one_3 rfl (hj := by first | exact RA.get_rd _ | exact RA.get_st _ | exact RA.get_me _ | exact RA.get_sh _ | exact RA.get_sv _ | exact RA.get_lkr _ | exact RA.get_vdr _ | exact RA.get_dcr _ | exact RA.get_bp _ | exact RA.get_bt _ | exact RA.get_bd _ | exact RA.msg_valid _ | exact RA.pr_valid _ | rfl | exact tab_get (by first | omega | (simp; omega)) | exact gm (d := 0) (by first | omega | (simp; omega)))) (by decide) ?_
        refine JR.ugt (g := 23) rfl rfl rfl rfl rfl hg19 (.bin rfl rfl BinR.lss_i) (by decide) ?_
        refine JR.u rfl rfl rfl (Yv.pick0 rfl hg19 rfl) (by decide) ?_
        refine .uw rfl (.move rfl) ?_
        refine JR.gsplit (g := 27) rfl (fun hg24 => ?_) (fun hg24 => ?_)
        · have hg24' := hg24
          try simp only [decide_eq_true_eq, decide_eq_false_iff_not, Bool.not_eq_true', Bool.not_eq_false', ne_eq, Decidable.not_not, Bool.not_eq_true, Bool.and_eq_true, Bool.or_eq_true, BitVec.reduceToNat] at hg24'
          refine JR.gf (g := 28) rfl rfl rfl rfl hg24 (by decide) ?_
          refine JR.gf (g := 28) rfl rfl rfl rfl hg24 (by decide) ?_
          refine JR.gf (g := 28) rfl rfl rfl rfl hg24 (by decide) ?_
          refine JR.gf (g := 28) rfl rfl rfl rfl hg24 (by decide) ?_
          refine JR.gf (g := 28) rfl rfl rfl rfl hg24 (by decide) ?_
          refine JR.gf (g := 28) rfl rfl rfl rfl hg24 (by decide) ?_
          refine JR.gf (g := 28) rfl rfl rfl rfl hg24 (by decide) ?_
          refine JR.gf (g := 28) rfl rfl rfl rfl hg24 (by decide) ?_
          refine JR.u rfl rfl rfl (Yv.pick1 rfl hg24 rfl) (by decide) ?_
          refine .nil (.tn ?_)
          refine .k1 rfl rfl ?_
          have he := AR.hear_bad (a := s.abs) (g := good) (show s.abs.badMsg m from by first | exact .inl hg8' | exact .inr (.inl hg13') | exact .inr (.inr (.inl (by first | exact hg19' | exact decide_eq_false hg19'))) | exact .inr (.inr (.inr (.inl hg24'))))
          refine .seq (.region ?_)
          refine .w (.assign rfl) ?_
          refine .w (.assign rfl) ?_
          refine .nil (.tn (.ret (.then_ret ?_)))
          refine .nilRow 41 35 ?_
          exact .dn [] (Res.row (.slice none 0 0) 0 41 35 [] :: RA.H p s) (res2 rfl (.tmp rfl) (.tmp rfl)) ⟨s, _, hok, by rw [he], by rw [he], rfl, by rw [he]; rfl⟩
        · have hg24' := hg24
          try simp only [decide_eq_true_eq, decide_eq_false_iff_not, Bool.not_eq_true', Bool.not_eq_false', ne_eq, Decidable.not_not, Bool.not_eq_true, Bool.and_eq_true, Bool.or_eq_true, BitVec.reduceToNat] at hg24'
          refine JR.ugt (g := 28) rfl rfl rfl rfl rfl hg24 (.fieldAddr fa_33_2 rfl) (by decide) ?_
          refine JR.vgt (g := 28) rfl rfl rfl rfl rfl hg24 (.ld one_3 rfl (hj := by first | exact RA.get_rd _ | exact RA.get_st _ | exact RA.get_me _ | exact RA.get_sh _ | exact RA.get_sv _ | exact RA.get_lkr _ | exact RA.get_vdr _ | exact RA.get_dcr _ | exact RA.get_bp _ | exact RA.get_bt _ | exact RA.get_bd _ | exact RA.msg_valid _ | exact RA.pr_valid _ | rfl | exact tab_get (by first | omega | (simp; omega)) | exact gm (d := 0) (by first | omega | (simp; omega)))) (by decide) ?_
          refine JR.ugt (g := 28) rfl rfl rfl rfl rfl hg24 (.move rfl) (by decide) ?_
          refine JR.ugt (g := 28) rfl rfl rfl rfl rfl hg24 (.nilCheck rfl) (by decide) ?_
          refine JR.ugt (g := 28) rfl rfl rfl rfl rfl hg24 (.fieldAddr fa_77_0 rfl) (by decide) ?_
          refine JR.vgt (g := 28) rfl rfl rfl rfl rfl hg24 (.ld one_22 rfl (hj := by first | exact RA.get_rd _ | exact RA.get_st _ | exact RA.get_me _ | exact RA.get_sh _ | exact RA.get_sv _ | exact RA.get_lkr _ | exact RA.get_vdr _ | exact RA.get_dcr _ | exact RA.get_bp _ | exact RA.get_bt _ | exact RA.get_bd _ | exact RA.msg_valid _ | exact RA.pr_valid _ | rfl | exact tab_get (by first | omega | (simp; omega)) | exact gm (d := 0) (by first | omega | (simp; omega)))) (by decide) ?_
          refine JR.vgt (g := 28) rfl rfl rfl rfl rfl hg24 (.len Tryd.underlying22 rfl) (by decide) ?_
          refine JR.ugt (g := 28) rfl rfl rfl rfl rfl hg24 (.bin rfl rfl BinR.geq_i) (by decide) ?_
          refine JR.u rfl rfl rfl (Yv.pick0 rfl hg24 rfl) (by decide) ?_
          refine .nil (.tn ?_)
          refine .cn rfl (fun hc1 => ?_) (fun hc1 => ?_)
          · have he := AR.hear_bad (a := s.abs) (g := good) (show s.abs.badMsg m from .inr (.inr (.inr (.inr hc1))))
            refine .seq (.region ?_)
            refine .w (.assign rfl) ?_
            refine .w (.assign rfl) ?_
            refine .nil (.tn (.ret (.then_ret ?_)))
            refine .nilRow 41 35 ?_
            exact .dn [] (Res.row (.slice none 0 0) 0 41 35 [] :: RA.H p s) (res2 rfl (.tmp rfl) (.tmp rfl)) ⟨s, _, hok, by rw [he], by rw [he], rfl, by rw [he]; rfl⟩
          · have hnb : ¬ s.abs.badMsg m := by
              rintro (h | h | h | h | h)
              · omega
              · omega
              · have h2 : ¬ (0 ≤ m.round ∧ m.round ≤ 60) := of_decide_eq_false h; omega
              · omega
              · have h2 : (s.S.length : Int) ≤ m.from_ := h; omega
            refine .skip (.tn (.seq (.region ?_)))
            refine .w (.assign rfl) ?_
            refine .nil (.tn (.seq (.seq (.region ?_))))
            refine .w (.fieldAddr fa_33_0 rfl) ?_
            refine .w (.ld one_3 rfl (hj := by first | exact RA.get_rd _ | exact RA.get_st _ | exact RA.get_me _ | exact RA.get_sh _ | exact RA.get_sv _ | exact RA.get_lkr _ | exact RA.get_vdr _ | exact RA.get_dcr _ | exact RA.get_bp _ | exact RA.get_bt _ | exact RA.get_bd _ | exact RA.msg_valid _ | exact RA.pr_valid _ | rfl | exact tab_get (by first | omega | (simp; omega)) | exact gm (d := 0) (by first | omega | (simp; omega)))) ?_
            refine .w (.bin rfl rfl BinR.eql_i) ?_
            refine .nil (.tn ?_)
            refine .cn rfl (fun hc2 => ?_) (fun hc2 => ?_)
            · skip
              refine .region ?_
              refine .w (.move rfl) ?_
              refine .w (.as (v' := msV m) (.lda agg_33 rfl) rfl) ?_
              refine .w (.move rfl) ?_
              refine .c (f30_spec p s hok m good) body_30 ?_
              refine .w (.assign rfl) ?_
              refine .nil (.tn (.seq (.seq (.region ?_))))
              refine .w (.move rfl) ?_
              refine .w (.bin rfl rfl BinR.neq_i) ?_
              refine .nil (.tn ?_)
              refine .cn rfl (fun hc3 => ?_) (fun hc3 => ?_)
              · first | (have he := AR.hear_p1 (g := good) hnb hc2 hc3; rw [if_neg hc3]) | (have he := AR.hear_v1 (g := good) hnb hc2 hc3; have hm5 : m' = t.m := hm'.trans (if_neg hc3))
                refine .seq (.region ?_)
                refine .w (.move rfl) ?_
                refine .w (.assign rfl) ?_
                refine .w (.assign rfl) ?_
                refine .nil (.tn (.ret (.then_ret ?_)))
                refine .nilRow 41 35 ?_
                exact .dn [] (Res.row (.slice none 0 0) 0 41 35 [] :: RA.H p s) (res2 rfl (.tmp rfl) (.tmp rfl)) ⟨s, _, hok, by rw [he], by rw [he], rfl, by rw [he]; rfl⟩
              · first | (have he := AR.hear_p0 (g := good) hnb hc2 hc3; rw [if_pos hc3]; have hok5 := RA.putPr_ok hok m.round (⟨m.value, m.valid, good⟩ : Prp); have hab5 := RA.putPr_abs s m.round (⟨m.value, m.valid, good⟩ : Prp)) | (have he := AR.hear_v0 (g := good) hnb hc2 hc3; have hok5 := hokv; have hab5 := (RA.abs_vote (t' := (⟨t.p, t.a, t.b, t.sv, m', tw'⟩ : TP)) hk (hm'.trans (if_pos hc3))).trans (by rw [hl1.abs]))
                refine .skip (.tn (.seq (.region ?_)))
                refine .w (.move rfl) ?_
                refine .nilRow 41 35 ?_
                refine .nilRow 41 35 ?_
                refine .cb (f27_spec p _ hok5 _ 0 [] rfl (by decide)) body_27 ?_ (h0 := by rintro _ _ _ ⟨_, _, _, _, _, h, _⟩; exact h)
                rintro _ _ ⟨s9, w9, hok9, hab9, rfl, _, rfl⟩
                refine .ap ?_
                refine .w (.assign rfl) ?_
                refine .w (.assign rfl) ?_
                refine .nil (.tn (.ret ?_))
                exact .dn [] (Res.row _ ([] ++ (s.putPr m.round ⟨m.value, m.valid, good⟩).abs.follow.2).length 41 35 (acC ([] ++ (s.putPr m.round ⟨m.value, m.valid, good⟩).abs.follow.2)) :: RA.H p s9) (res2 rfl (.tmp rfl) (.tmp rfl)) ⟨s9, _, hok9, by rw [he, hab9, hab5], by rw [he], rfl, by rw [he, hab5]; rfl⟩
            · refine JC.frz (r := Res.cells b4 (msV m).cells.toList 33) (by repeat (first | exact Pull.here _ _ | apply Pull.there)) ?_
              refine JC.draw (.one 0 (.one 1 (.one 2 (.one 3 (.one 4 (.one 6 (.one 7 (.one 8 (.one 9 (.one 5 (.one 10 (.one 11 .nil)))))))))))) (fun i => ([5, 10] : List Nat).contains i) (fun i => ([5, 10] : List Nat).contains i) (fun i => ([0, 1, 2, 3, 4, 6, 7, 8, 9, 11] : List Nat).contains i) mixed (by kernel_rfl) (by decide) (by kernel_rfl) ?_
              refine .uw rfl (.move rfl) ?_
              refine .uw rfl (.fieldAddr fa_33_0 rfl) ?_
              refine .uw rfl (.ld one_3 rfl (hj := by first | exact RA.get_rd _ | exact RA.get_st _ | exact RA.get_me _ | exact RA.get_sh _ | exact RA.get_sv _ | exact RA.get_lkr _ | exact RA.get_vdr _ | exact RA.get_dcr _ | exact RA.get_bp _ | exact RA.get_bt _ | exact RA.get_bd _ | exact RA.msg_valid _ | exact RA.pr_valid _ | rfl | exact tab_get (by first | omega | (simp; omega)) | exact gm (d := 0) (by first | omega | (simp; omega)))) ?_
              refine .uw rfl (.fieldAddr fa_33_1 rfl) ?_
              refine .uw rfl (.ld one_3 rfl (hj := by first | exact RA.get_rd _ | exact RA.get_st _ | exact RA.get_me _ | exact RA.get_sh _ | exact RA.get_sv _ | exact RA.get_lkr _ | exact RA.get_vdr _ | exact RA.get_dcr _ | exact RA.get_bp _ | exact RA.get_bt _ | exact RA.get_bd _ | exact RA.msg_valid _ | exact RA.pr_valid _ | rfl | exact tab_get (by first | omega | (simp; omega)) | exact gm (d := 0) (by first | omega | (simp; omega)))) ?_
              refine .uw rfl (.fieldAddr fa_33_2 rfl) ?_
              refine .uw rfl (.ld one_3 rfl (hj := by first | exact RA.get_rd _ | exact RA.get_st _ | exact RA.get_me _ | exact RA.get_sh _ | exact RA.get_sv _ | exact RA.get_lkr _ | exact RA.get_vdr _ | exact RA.get_dcr _ | exact RA.get_bp _ | exact RA.get_bt _ | exact RA.get_bd _ | exact RA.msg_valid _ | exact RA.pr_valid _ | rfl | exact tab_get (by first | omega | (simp; omega)) | exact gm (d := 0) (by first | omega | (simp; omega)))) ?_
              refine .uw rfl (.fieldAddr fa_33_3 rfl) ?_
              refine .uw rfl (.as (v' := dgV m.value) (.lda agg_24 rfl) (congrArg (fun l : List Value => Value.agg l.toArray) (RA.msg_v _))) ?_
              refine .mw rfl (.cb (f31_spec p s hok m.kind m.round) body_31 (h0 := by rintro _ _ _ ⟨_, _, _, _, _, h, _⟩; exact h)) ?_
              rintro _ _ _ ⟨_, ⟨s1, t, hk, hl1, rfl, _, rfl⟩, hΓ, hH⟩
              simp only [List.cons_append, List.nil_append] at hH; subst hΓ hH
              refine kp ?_
              obtain ⟨s1_B, s1_p, s1_q⟩ := RA.tals_split (S := s1.S) hk
              refine .us s1_p ?_
              refine .mw rfl (.cb (f32_spec t.p t.a t.b t.sv (BitVec.ofNat 64 (sumS s1.S)) s1.S t.m t.tw m.from_ m.value (RA.tal_ok hl1.ok hk).1 (by have := hl1.ok.l2; omega)) body_32 (h0 := by rintro _ _ _ ⟨_, _, _, _, _, _, _, h, _⟩; exact h)) ?_
              rintro _ _ _ ⟨_, ⟨m', tw', rfl, hTok, hm', htw, htw', _, rfl⟩, hΓ, hH⟩
              simp only [List.cons_append, List.nil_append] at hH; subst hΓ hH
              refine kp ?_
              refine .rs (s1_q (⟨t.p, t.a, t.b, t.sv, m', tw'⟩ : TP) s1.ta.ck) ?_
              rw [RA.setT_mp (t := t) (t' := (⟨t.p, t.a, t.b, t.sv, m', tw'⟩ : TP)) rfl hk]
              have hokv : (s1.setT (m.kind, m.round) (⟨t.p, t.a, t.b, t.sv, m', tw'⟩ : TP)).Ok := RA.ok_setT hl1.ok hTok (htw (RA.tal_ok hl1.ok hk).2)
              rw [show voteE s1.S t.m.get m.from_ m.value = voteE s.abs.S (s.abs.ta (m.kind, m.round)) m.from_ m.value from by rw [← hl1.abs, RA.abs_ta hk]; rfl] at *
              refine .uw rfl (.assign rfl) ?_
              refine .nil (.tn (.seq (.seq (.region ?_))))
              refine .w (.move rfl) ?_
              refine .w (.bin rfl rfl BinR.neq_i) ?_
              refine .nil (.tn ?_)
              refine .cn rfl (fun hc3 => ?_) (fun hc3 => ?_)
              · first | (have he := AR.hear_p1 (g := good) hnb hc2 hc3; rw [if_neg hc3]) | (have he := AR.hear_v1 (g := good) hnb hc2 hc3; have hm5 : m' = t.m := hm'.trans (if_neg hc3))
                refine .seq (.region ?_)
                refine .w (.move rfl) ?_
                refine .w (.assign rfl) ?_
                refine .w (.assign rfl) ?_
                refine .nil (.tn (.ret (.then_ret ?_)))
                refine .nilRow 41 35 ?_
                exact .dn [] (Res.row (.slice none 0 0) 0 41 35 [] :: RA.H p (s1.setT (m.kind, m.round) (⟨t.p, t.a, t.b, t.sv, m', tw'⟩ : TP))) (res2 rfl (.tmp rfl) (.tmp rfl)) ⟨(s1.setT (m.kind, m.round) (⟨t.p, t.a, t.b, t.sv, m', tw'⟩ : TP)), _, hokv, by rw [he, RA.abs_setT hk hm5, hl1.abs], by rw [he], rfl, by rw [he]; rfl⟩
              · first | (have he := AR.hear_p0 (g := good) hnb hc2 hc3; rw [if_pos hc3]; have hok5 := RA.putPr_ok hok m.round (⟨m.value, m.valid, good⟩ : Prp); have hab5 := RA.putPr_abs s m.round (⟨m.value, m.valid, good⟩ : Prp)) | (have he := AR.hear_v0 (g := good) hnb hc2 hc3; have hok5 := hokv; have hab5 := (RA.abs_vote (t' := (⟨t.p, t.a, t.b, t.sv, m', tw'⟩ : TP)) hk (hm'.trans (if_pos hc3))).trans (by rw [hl1.abs]))
                refine .skip (.tn (.seq (.region ?_)))
                refine .w (.move rfl) ?_
                refine .nilRow 41 35 ?_
                refine .nilRow 41 35 ?_
                refine .cb (f27_spec p _ hok5 _ 0 [] rfl (by decide)) body_27 ?_ (h0 := by rintro _ _ _ ⟨_, _, _, _, _, h, _⟩; exact h)
                rintro _ _ ⟨s9, w9, hok9, hab9, rfl, _, rfl⟩
                refine .ap ?_
                refine .w (.assign rfl) ?_
                refine .w (.assign rfl) ?_
                refine .nil (.tn (.ret ?_))
                exact .dn [] (Res.row _ ([] ++ (s1.setT (m.kind, m.round) (⟨t.p, t.a, t.b, t.sv, m', tw'⟩ : TP)).abs.follow.2).length 41 35 (acC ([] ++ (s1.setT (m.kind, m.round) (⟨t.p, t.a, t.b, t.sv, m', tw'⟩ : TP)).abs.follow.2)) :: RA.H p s9) (res2 rfl (.tmp rfl) (.tmp rfl)) ⟨s9, _, hok9, by rw [he, hab9, hab5], by rw [he], rfl, by rw [he, hab5]; rfl⟩
end Go.Proofs.YtncececcopalgaaDoor
