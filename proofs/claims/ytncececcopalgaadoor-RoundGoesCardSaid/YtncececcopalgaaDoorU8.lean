/- Walk: a thing happens. -/
import Derived.Test.YtncececcopalgaaDoorU7
namespace Go.Proofs.YtncececcopalgaaDoor
open Go.RowKit
set_option maxRecDepth 100000
set_option linter.unusedVariables false
set_option linter.unusedSimpArgs false
theorem f17_spec (pw : Nat) (x : WA) (hok : x.Ok) (o : PickE) (cb : Value) (bad : List Bool) (hbl : bad.length ≤ 1000) :
    Spec Tryd.prog 17 #[(ptr pw 0), (.agg o.cells.toArray), cb] [Res.var 0 [u64 9223372036854775808, u64 0, u64 0, u64 0], Res.rd cb bad.length 1 (bad.map Value.bool)] (WA.H pw x)
      (fun r Γ' H' => ∃ x' : WA, x'.Ok ∧ x'.es.length = x.es.length ∧ x'.abs = x.abs.pick o bad ∧ Γ' = [] ∧ H' = WA.H pw x') := by
  refine Spec.of_args Tryd.func17 rfl Tryd.ntmps17 (by simp) fun w => ?_
  have hbl2 := hok.len
  have hsl : x.abs.st.length = x.es.length := List.length_map _
  have hsd := hok.said
  refine .seq (.region ?_)
  refine .bx fun b4 => ?_
  refine JO.frz (r := Res.cells b4 o.cells 53) (by repeat (first | exact Pull.here _ _ | apply Pull.there)) ?_
  refine .nil (.tn (.seq (.seq ?_)))
  refine JC.draw (.one 0 (.one 1 (.one 2 (.one 3 (.one 4 (.one 5 (.one 6 (.one 7 (.one 8 (.one 9 (.one 10 (.one 11 (.one 12 .nil))))))))))))) (fun i => ([] : List Nat).contains i) (fun i => ([] : List Nat).contains i) (fun i => ([0, 1, 2, 3, 4, 5, 6, 7, 8, 11, 12] : List Nat).contains i) mixed (by kernel_rfl) (by decide) (by kernel_rfl) ?_
  refine .uw rfl (.fieldAddr fa_53_1 rfl) ?_
  refine .uw rfl (.ld one_3 rfl (hj := by first | exact RA.get_rd _ | exact RA.get_st _ | exact RA.get_me _ | exact RA.get_sh _ | exact RA.get_sv _ | exact RA.get_lkr _ | exact RA.get_vdr _ | exact RA.get_dcr _ | exact RA.get_bp _ | exact RA.get_bt _ | exact RA.get_bd _ | rfl | exact tab_get (by first | omega | (simp; omega)) | exact gm (d := 0) (by first | omega | (simp; omega)))) ?_
  refine .uw rfl (.bin rfl rfl BinR.lss_i) ?_
  refine .uw rfl (.move rfl) ?_
  refine JR.gsplit (g := 14) rfl (fun hg6 => ?_) (fun hg6 => ?_)
  · have hg6' := hg6
    try simp only [decide_eq_true_eq, decide_eq_false_iff_not, Bool.not_eq_true', Bool.not_eq_false', ne_eq, Decidable.not_not, Bool.not_eq_true, Bool.and_eq_true, Bool.or_eq_true, BitVec.reduceToNat] at hg6'
    refine JR.gf (g := 15) rfl rfl rfl rfl hg6 (by decide) ?_
    refine JR.gf (g := 15) rfl rfl rfl rfl hg6 (by decide) ?_
    refine JR.gf (g := 15) rfl rfl rfl rfl hg6 (by decide) ?_
    refine JR.gf (g := 15) rfl rfl rfl rfl hg6 (by decide) ?_
    refine JR.gf (g := 15) rfl rfl rfl rfl hg6 (by decide) ?_
    refine JR.gf (g := 15) rfl rfl rfl rfl hg6 (by decide) ?_
    refine JR.gf (g := 15) rfl rfl rfl rfl hg6 (by decide) ?_
    refine JR.gf (g := 15) rfl rfl rfl rfl hg6 (by decide) ?_
    refine JR.u rfl rfl rfl (Yv.pick1 rfl hg6 rfl) (by decide) ?_
    refine .nil (.tn ?_)
    refine .k1 rfl rfl ?_
    have hst : x.abs.pick o bad = x.abs := AW.pick_out (.inl hg6')
    refine .ret (.then_ret ?_)
    exact .dn [] (WA.H pw x) (res_none rfl) ⟨x, hok, rfl, hst.symm, rfl, rfl⟩
  · have hg6' := hg6
    try simp only [decide_eq_true_eq, decide_eq_false_iff_not, Bool.not_eq_true', Bool.not_eq_false', ne_eq, Decidable.not_not, Bool.not_eq_true, Bool.and_eq_true, Bool.or_eq_true, BitVec.reduceToNat] at hg6'
    refine JR.ugt (g := 15) rfl rfl rfl rfl rfl hg6 (.fieldAddr fa_53_1 rfl) (by decide) ?_
    refine JR.ugt (g := 15) rfl rfl rfl rfl rfl hg6 (.ld one_3 rfl (hj := by first | exact RA.get_rd _ | exact RA.get_st _ | exact RA.get_me _ | exact RA.get_sh _ | exact RA.get_sv _ | exact RA.get_lkr _ | exact RA.get_vdr _ | exact RA.get_dcr _ | exact RA.get_bp _ | exact RA.get_bt _ | exact RA.get_bd _ | rfl | exact tab_get (by first | omega | (simp; omega)) | exact gm (d := 0) (by first | omega | (simp; omega)))) (by decide) ?_
    refine JR.ugt (g := 15) rfl rfl rfl rfl rfl hg6 (.move rfl) (by decide) ?_
    refine JR.ugt (g := 15) rfl rfl rfl rfl rfl hg6 (.nilCheck rfl) (by decide) ?_
    refine JR.ugt (g := 15) rfl rfl rfl rfl rfl hg6 (.fieldAddr fa_59_0 rfl) (by decide) ?_
    refine JR.vgt (g := 15) rfl rfl rfl rfl rfl hg6 (.ld one_56 rfl (hj := by first | exact RA.get_rd _ | exact RA.get_st _ | exact RA.get_me _ | exact RA.get_sh _ | exact RA.get_sv _ | exact RA.get_lkr _ | exact RA.get_vdr _ | exact RA.get_dcr _ | exact RA.get_bp _ | exact RA.get_bt _ | exact RA.get_bd _ | rfl | exact tab_get (by first | omega | (simp; omega)) | exact gm (d := 0) (by first | omega | (simp; omega)))) (by decide) ?_
    refine JR.vgt (g := 15) rfl rfl rfl rfl rfl hg6 (.len Tryd.underlying56 rfl) (by decide) ?_
    refine JR.ugt (g := 15) rfl rfl rfl rfl rfl hg6 (.bin rfl rfl BinR.geq_i) (by decide) ?_
    refine JR.u rfl rfl rfl (Yv.pick0 rfl hg6 rfl) (by decide) ?_
    refine .nil (.tn ?_)
    refine .cn rfl (fun hc1 => ?_) (fun hc1 => ?_)
    · have hst : x.abs.pick o bad = x.abs := AW.pick_out (.inr (by omega))
      refine .ret (.then_ret ?_)
      exact .dn [] (WA.H pw x) (res_none rfl) ⟨x, hok, rfl, hst.symm, rfl, rfl⟩
    · obtain ⟨i, hi⟩ : ∃ i : Nat, o.who = i := ⟨o.who.toNat, by omega⟩
      have hil : i < x.es.length := by omega
      have hil2 : i < x.abs.st.length := by omega
      have hat := WA.at_abs (x := x) hil
      refine .skip (.tn (.seq ?_))
      refine JC.draw (.one 0 (.one 1 (.one 2 (.one 3 (.one 4 (.one 5 (.one 6 (.one 7 (.one 8 .nil))))))))) (fun i => ([] : List Nat).contains i) (fun i => ([] : List Nat).contains i) (fun i => ([0, 1, 2, 4, 5, 8] : List Nat).contains i) mixed (by kernel_rfl) (by decide) (by kernel_rfl) ?_
      refine .uw rfl (.move rfl) ?_
      refine .uw rfl (.nilCheck rfl) ?_
      refine .uw rfl (.fieldAddr fa_59_0 rfl) ?_
      refine .w rfl (.ld one_56 rfl (hj := by first | exact RA.get_rd _ | exact RA.get_st _ | exact RA.get_me _ | exact RA.get_sh _ | exact RA.get_sv _ | exact RA.get_lkr _ | exact RA.get_vdr _ | exact RA.get_dcr _ | exact RA.get_bp _ | exact RA.get_bt _ | exact RA.get_bd _ | rfl | exact tab_get (by first | omega | (simp; omega)) | exact gm (d := 0) (by first | omega | (simp; omega)))) ?_
      refine .uw rfl (.fieldAddr fa_53_1 rfl) ?_
      refine .uw rfl (.as (v' := it (i : Int)) (.ld one_3 rfl (hj := by first | exact RA.get_rd _ | exact RA.get_st _ | exact RA.get_me _ | exact RA.get_sh _ | exact RA.get_sv _ | exact RA.get_lkr _ | exact RA.get_vdr _ | exact RA.get_dcr _ | exact RA.get_bp _ | exact RA.get_bt _ | exact RA.get_bd _ | rfl | exact tab_get (by first | omega | (simp; omega)) | exact gm (d := 0) (by first | omega | (simp; omega)))) (congrArg it hi)) ?_
      refine .w rfl (.ix1 Tryd.underlying56 sz_27 rfl rfl) ?_
      refine .w rfl (.ld one_27 rfl (hj := by exact WA.at_ptr hil)) ?_
      refine .uw rfl (.assign rfl) ?_
      refine .nil (.tn (.seq (.region ?_)))
      refine .w (.fieldAddr fa_53_0 rfl) ?_
      refine .w (.ld one_3 rfl (hj := by first | exact RA.get_rd _ | exact RA.get_st _ | exact RA.get_me _ | exact RA.get_sh _ | exact RA.get_sv _ | exact RA.get_lkr _ | exact RA.get_vdr _ | exact RA.get_dcr _ | exact RA.get_bp _ | exact RA.get_bt _ | exact RA.get_bd _ | rfl | exact tab_get (by first | omega | (simp; omega)) | exact gm (d := 0) (by first | omega | (simp; omega)))) ?_
      refine .nil (.tn (.block (.seq (.region ?_))))
      refine .w (.bin rfl rfl BinR.eql_i) ?_
      refine .w (.assign rfl) ?_
      refine .nil (.tn ?_)
      refine .cn rfl (fun hc2 => ?_) (fun hc2 => ?_)
      · have hp := AW.pick1 (bad := bad) hi hil2 hc2
        obtain ⟨B, hB, hB2⟩ := x.split hil
        refine .us hB ?_
        refine JC.draw (.one 0 (.one 1 (.one 2 (.one 3 (.one 4 (.one 5 .nil)))))) (fun i => ([4, 5] : List Nat).contains i) (fun i => ([4, 5] : List Nat).contains i) (fun i => ([0, 1, 2, 3] : List Nat).contains i) mixed (by kernel_rfl) (by decide) (by kernel_rfl) ?_
        refine .uw rfl (.move rfl) ?_
        refine .uw rfl (.fieldAddr fa_53_1 rfl) ?_
        refine .uw rfl (.as (v' := it (i : Int)) (.ld one_3 rfl (hj := by first | exact RA.get_rd _ | exact RA.get_st _ | exact RA.get_me _ | exact RA.get_sh _ | exact RA.get_sv _ | exact RA.get_lkr _ | exact RA.get_vdr _ | exact RA.get_dcr _ | exact RA.get_bp _ | exact RA.get_bt _ | exact RA.get_bd _ | rfl | exact tab_get (by first | omega | (simp; omega)) | exact gm (d := 0) (by first | omega | (simp; omega)))) (congrArg it hi)) ?_
        refine .uw rfl (.move rfl) ?_
        refine .mw rfl (.cb (f10_spec (x.at_ i).1 (x.at_ i).2 (WA.at_ok hok hil)) body_10 (h0 := by rintro _ _ _ ⟨_, _, _, _, _, h, _⟩; exact h)) ?_
        rintro va _ _ ⟨_, ⟨s2, w2, hok2, hab2, rfl, _, rfl⟩, hΓ, hH⟩
        simp only [List.cons_append, List.nil_append] at hH; subst hΓ hH
        refine kp ?_
        refine .rs (hB2 s2) ?_
        rw [WA.row_set (x := x) (i := i) s2]
        refine .mw rfl (.cb (f35_spec pw (x.set i s2) (WA.set_ok hok i hok2) i (by rw [WA.set_len]; exact hil) va _ (x.at_ i).2.abs.start.2 rfl (AR.start_len (WA.at_ok hok hil).fine)) body_35 (h0 := by rintro _ _ _ ⟨_, _, _, _, h, _⟩; exact h)) ?_
        rintro _ _ _ ⟨_, ⟨x9, hok9, hlen9, hab9, _, rfl⟩, hΓ, hH⟩
        simp only [List.cons_append, List.nil_append] at hH; subst hΓ hH
        rw [WA.set_len] at hlen9
        rw [WA.set_abs, hab2] at hab9
        refine kp ?_
        refine .nil (.block_normal ?_)
        exact .dn [] (WA.H pw x9) (res_none rfl) ⟨x9, hok9, hlen9, hab9.trans (by rw [hp]; first | (rw [hat]; done) | (unfold AW.hearW; rw [hat]; done) | (unfold AW.hearW; rw [hat]; rfl) | (rw [hat]; rfl)), rfl, rfl⟩
      · skip
        refine .seq (.region ?_)
        refine .w (.bin rfl rfl BinR.eql_i) ?_
        refine .w (.assign rfl) ?_
        refine .nil (.tn ?_)
        refine .cn rfl (fun hc3 => ?_) (fun hc3 => ?_)
        · skip
          refine .seq ?_
          refine JC.draw (.one 0 (.one 1 (.one 2 (.one 3 (.one 4 (.one 5 (.one 6 (.one 7 (.one 8 (.one 9 (.one 10 (.one 11 (.one 12 .nil))))))))))))) (fun i => ([] : List Nat).contains i) (fun i => ([] : List Nat).contains i) (fun i => ([0, 1, 2, 3, 4, 5, 6, 7, 8, 11, 12] : List Nat).contains i) mixed (by kernel_rfl) (by decide) (by kernel_rfl) ?_
          refine .uw rfl (.fieldAddr fa_53_2 rfl) ?_
          refine .uw rfl (.ld one_3 rfl (hj := by first | exact RA.get_rd _ | exact RA.get_st _ | exact RA.get_me _ | exact RA.get_sh _ | exact RA.get_sv _ | exact RA.get_lkr _ | exact RA.get_vdr _ | exact RA.get_dcr _ | exact RA.get_bp _ | exact RA.get_bt _ | exact RA.get_bd _ | rfl | exact tab_get (by first | omega | (simp; omega)) | exact gm (d := 0) (by first | omega | (simp; omega)))) ?_
          refine .uw rfl (.bin rfl rfl BinR.geq_i) ?_
          refine .uw rfl (.move rfl) ?_
          refine JR.gsplit (g := 47) rfl (fun hg40 => ?_) (fun hg40 => ?_)
          · have hg40' := hg40
            try simp only [decide_eq_true_eq, decide_eq_false_iff_not, Bool.not_eq_true', Bool.not_eq_false', ne_eq, Decidable.not_not, Bool.not_eq_true, Bool.and_eq_true, Bool.or_eq_true, BitVec.reduceToNat] at hg40'
            refine JR.ugt (g := 48) rfl rfl rfl rfl rfl hg40 (.fieldAddr fa_53_2 rfl) (by decide) ?_
            refine JR.ugt (g := 48) rfl rfl rfl rfl rfl hg40 (.ld one_3 rfl (hj := by first | exact RA.get_rd _ | exact RA.get_st _ | exact RA.get_me _ | exact RA.get_sh _ | exact RA.get_sv _ | exact RA.get_lkr _ | exact RA.get_vdr _ | exact RA.get_dcr _ | exact RA.get_bp _ | exact RA.get_bt _ | exact RA.get_bd _ | rfl | exact tab_get (by first | omega | (simp; omega)) | exact gm (d := 0) (by first | omega | (simp; omega)))) (by decide) ?_
            refine JR.ugt (g := 48) rfl rfl rfl rfl rfl hg40 (.move rfl) (by decide) ?_
            refine JR.ugt (g := 48) rfl rfl rfl rfl rfl hg40 (.nilCheck rfl) (by decide) ?_
            refine JR.ugt (g := 48) rfl rfl rfl rfl rfl hg40 (.fieldAddr fa_59_1 rfl) (by decide) ?_
            refine JR.vgt (g := 48) rfl rfl rfl rfl rfl hg40 (.ld one_57 rfl (hj := by first | exact RA.get_rd _ | exact RA.get_st _ | exact RA.get_me _ | exact RA.get_sh _ | exact RA.get_sv _ | exact RA.get_lkr _ | exact RA.get_vdr _ | exact RA.get_dcr _ | exact RA.get_bp _ | exact RA.get_bt _ | exact RA.get_bd _ | rfl | exact tab_get (by first | omega | (simp; omega)) | exact gm (d := 0) (by first | omega | (simp; omega)))) (by decide) ?_
            refine JR.vgt (g := 48) rfl rfl rfl rfl rfl hg40 (.len Tryd.underlying57 rfl) (by decide) ?_
            refine JR.ugt (g := 48) rfl rfl rfl rfl rfl hg40 (.bin rfl rfl BinR.lss_i) (by decide) ?_
            refine JR.u rfl rfl rfl (Yv.pick1 rfl hg40 rfl) (by decide) ?_
            refine .nil (.tn ?_)
            refine .cn rfl (fun hc4 => ?_) (fun hc4 => ?_)
            · obtain ⟨k, hk⟩ : ∃ k : Nat, o.k = k := ⟨o.k.toNat, by omega⟩
              have hks : k < x.said.length := by omega
              have hp := AW.pick2 (bad := bad) hi hil2 hc3 ⟨hg40', hc4⟩
              rw [hk, Int.toNat_natCast] at hp
              refine .seq ?_
              refine JC.draw (.one 0 (.one 1 (.one 2 (.one 3 (.one 4 (.one 5 (.one 6 (.one 7 (.one 8 (.one 9 .nil)))))))))) (fun i => ([9] : List Nat).contains i) (fun i => ([8, 9] : List Nat).contains i) (fun i => ([0, 1, 2, 4, 5] : List Nat).contains i) mixed (by kernel_rfl) (by decide) (by kernel_rfl) ?_
              refine .uw rfl (.move rfl) ?_
              refine .uw rfl (.nilCheck rfl) ?_
              refine .uw rfl (.fieldAddr fa_59_1 rfl) ?_
              refine .w rfl (.ld one_57 rfl (hj := by first | exact RA.get_rd _ | exact RA.get_st _ | exact RA.get_me _ | exact RA.get_sh _ | exact RA.get_sv _ | exact RA.get_lkr _ | exact RA.get_vdr _ | exact RA.get_dcr _ | exact RA.get_bp _ | exact RA.get_bt _ | exact RA.get_bd _ | rfl | exact tab_get (by first | omega | (simp; omega)) | exact gm (d := 0) (by first | omega | (simp; omega)))) ?_
              refine .uw rfl (.fieldAddr fa_53_2 rfl) ?_
              refine .uw rfl (.as (v' := it (k : Int)) (.ld one_3 rfl (hj := by first | exact RA.get_rd _ | exact RA.get_st _ | exact RA.get_me _ | exact RA.get_sh _ | exact RA.get_sv _ | exact RA.get_lkr _ | exact RA.get_vdr _ | exact RA.get_dcr _ | exact RA.get_bp _ | exact RA.get_bt _ | exact RA.get_bd _ | rfl | exact tab_get (by first | omega | (simp; omega)) | exact gm (d := 0) (by first | omega | (simp; omega)))) (congrArg it hk)) ?_
              refine .w rfl (.ix Tryd.underlying57 sz_33 rfl rfl) ?_
              refine .w rfl (.as (v' := msV (msAt x.said k)) (.lda agg_33 rfl) (congrArg (fun l : List Value => Value.agg l.toArray) (ms_all (by omega)))) ?_
              refine .mw rfl (Mv.alloc zero_33) ?_
              rintro _ _ _ ⟨b7, rfl, rfl, rfl⟩
              refine kp ?_
              refine .mw0 rfl (.sa sz_33 (h1 := (Msg.one _))) ?_
              rintro _ _ _ ⟨rfl, rfl⟩
              refine kp ?_
              obtain ⟨B, hB, hB2⟩ := x.split hil
              refine .us hB ?_
              refine .nil (.tn (.seq ?_))
              refine JC.draw (.one 0 (.one 1 (.one 2 (.one 3 (.one 4 (.one 5 (.one 6 (.one 7 (.one 8 (.one 9 (.one 10 .nil))))))))))) (fun i => ([5] : List Nat).contains i) (fun i => ([4, 5] : List Nat).contains i) (fun i => ([0, 2, 6, 7, 8, 9, 10] : List Nat).contains i) mixed (by kernel_rfl) (by decide) (by kernel_rfl) ?_
              refine .uw rfl (.move rfl) ?_
              refine .w rfl (.as (v' := msV (msAt x.said k)) (.lda agg_33 rfl) rfl) ?_
              refine .uw rfl (.fieldAddr fa_33_3 rfl) ?_
              refine .w rfl (.as (v' := dgV (msAt x.said k).value) (.lda agg_24 rfl) (congrArg (fun l : List Value => Value.agg l.toArray) (RA.msg_v _))) ?_
              refine .mw rfl (.c (f19_spec (msAt x.said k).value) body_19) ?_
              rintro _ _ _ ⟨rfl, rfl, rfl⟩
              refine kp ?_
              refine .mw rfl (.cb (f11_spec (x.at_ i).1 (x.at_ i).2 (WA.at_ok hok hil) (msAt x.said k) (goodV (msAt x.said k).value)) body_11 (h0 := by rintro _ _ _ ⟨_, _, _, _, _, h, _⟩; exact h)) ?_
              rintro _ _ _ ⟨_, ⟨s2, wb, hok2, hab2, rfl, _, rfl⟩, hΓ, hH⟩
              simp only [List.cons_append, List.nil_append] at hH; subst hΓ hH
              refine kp ?_
              refine .rs (hB2 s2) ?_
              rw [WA.row_set (x := x) (i := i) s2]
              refine .uw rfl (.move rfl) ?_
              refine .uw rfl (.extract rfl rfl) ?_
              refine .uw rfl (.extract rfl rfl) ?_
              refine .uw rfl (.assign rfl) ?_
              refine .uw rfl (.assign rfl) ?_
              refine .nil (.tn (.region ?_))
              refine .w (.move rfl) ?_
              refine .w (.fieldAddr fa_53_1 rfl) ?_
              refine .w (.as (v' := it (i : Int)) (.ld one_3 rfl (hj := by first | exact RA.get_rd _ | exact RA.get_st _ | exact RA.get_me _ | exact RA.get_sh _ | exact RA.get_sv _ | exact RA.get_lkr _ | exact RA.get_vdr _ | exact RA.get_dcr _ | exact RA.get_bp _ | exact RA.get_bt _ | exact RA.get_bd _ | rfl | exact tab_get (by first | omega | (simp; omega)) | exact gm (d := 0) (by first | omega | (simp; omega)))) (congrArg it hi)) ?_
              refine .w (.move rfl) ?_
              refine .cb (f35_spec pw (x.set i s2) (WA.set_ok hok i hok2) i (by rw [WA.set_len]; exact hil) wb _ ((x.at_ i).2.abs.hear (msAt x.said k) (goodV (msAt x.said k).value)).2.1 rfl (AR.hear_len (WA.at_ok hok hil).fine _ _)) body_35 ?_ (h0 := by rintro _ _ _ ⟨_, _, _, _, h, _⟩; exact h)
              rintro _ _ ⟨x9, hok9, hlen9, hab9, _, rfl⟩
              refine .ap ?_
              rw [WA.set_len] at hlen9
              rw [WA.set_abs, hab2] at hab9
              refine .nil (.block_normal ?_)
              exact .dn [] (WA.H pw x9) (res_none rfl) ⟨x9, hok9, hlen9, hab9.trans (by rw [hp]; first | (rw [hat]; done) | (unfold AW.hearW; rw [hat]; done) | (unfold AW.hearW; rw [hat]; rfl) | (rw [hat]; rfl)), rfl, rfl⟩
            · have hst := AW.pick2n (bad := bad) hi hil2 hc3 (fun h => hc4 h.2)
              refine .skip (.block_normal ?_)
              exact .dn [] (WA.H pw x) (res_none rfl) ⟨x, hok, rfl, hst.symm, rfl, rfl⟩
          · have hg40' := hg40
            try simp only [decide_eq_true_eq, decide_eq_false_iff_not, Bool.not_eq_true', Bool.not_eq_false', ne_eq, Decidable.not_not, Bool.not_eq_true, Bool.and_eq_true, Bool.or_eq_true, BitVec.reduceToNat] at hg40'
            refine JR.gf (g := 48) rfl rfl rfl rfl hg40 (by decide) ?_
            refine JR.gf (g := 48) rfl rfl rfl rfl hg40 (by decide) ?_
            refine JR.gf (g := 48) rfl rfl rfl rfl hg40 (by decide) ?_
            refine JR.gf (g := 48) rfl rfl rfl rfl hg40 (by decide) ?_
            refine JR.gf (g := 48) rfl rfl rfl rfl hg40 (by decide) ?_
            refine JR.gf (g := 48) rfl rfl rfl rfl hg40 (by decide) ?_
            refine JR.gf (g := 48) rfl rfl rfl rfl hg40 (by decide) ?_
            refine JR.gf (g := 48) rfl rfl rfl rfl hg40 (by decide) ?_
            refine JR.u rfl rfl rfl (Yv.pick0 rfl hg40 rfl) (by decide) ?_
            refine .nil (.tn ?_)
            refine .k0 rfl rfl ?_
            have hst := AW.pick2n (bad := bad) hi hil2 hc3 (fun h => hg40' h.1)
            refine .skip (.block_normal ?_)
            exact .dn [] (WA.H pw x) (res_none rfl) ⟨x, hok, rfl, hst.symm, rfl, rfl⟩
        · skip
          refine .seq (.region ?_)
          refine .w (.bin rfl rfl BinR.eql_i) ?_
          refine .w (.assign rfl) ?_
          refine .nil (.tn ?_)
          refine .cn rfl (fun hc5 => ?_) (fun hc5 => ?_)
          · skip
            refine .seq (.region ?_)
            refine .w (.fieldAddr fa_53_4 rfl) ?_
            refine .w (.fieldAddr fa_33_2 rfl) ?_
            refine .w (.ld one_3 rfl (hj := by exact pk_from o)) ?_
            refine .w (.bin rfl rfl BinR.geq_i) ?_
            refine .w (.move rfl) ?_
            refine .join 15 101 (.bool (decide (0 ≤ o.m.from_ ∧ o.m.from_ < bad.length ∧ bad.getD o.m.from_.toNat false = true))) ?_ ?_
            · refine .gn (g := 85) rfl (fun hg82 hg82' => ?_) (fun hg82 hg82' => ?_)
              · refine .gt (g := 86) rfl rfl hg82 ?_
                refine .w (.fieldAddr fa_53_4 rfl) ?_
                refine .gt (g := 86) rfl rfl hg82 ?_
                refine .w (.fieldAddr fa_33_2 rfl) ?_
                refine .gt (g := 86) rfl rfl hg82 ?_
                refine .w (.ld one_3 rfl (hj := by exact pk_from o)) ?_
                refine .gt (g := 86) rfl rfl hg82 ?_
                refine .w (.move rfl) ?_
                refine .gt (g := 86) rfl rfl hg82 ?_
                refine .w (.len Tryd.underlying46 rfl) ?_
                refine .gt (g := 86) rfl rfl hg82 ?_
                refine .w (.bin rfl rfl BinR.lss_i) ?_
                refine .w (.pick1 rfl hg82 rfl) ?_
                refine .w (.move rfl) ?_
                refine .gn (g := 93) rfl (fun hg90 hg90' => ?_) (fun hg90 hg90' => ?_)
                · obtain ⟨fr, hfr⟩ : ∃ fr : Nat, o.m.from_ = fr := ⟨o.m.from_.toNat, by omega⟩
                  refine .gt (g := 94) rfl rfl hg90 ?_
                  refine .w (.move rfl) ?_
                  refine .gt (g := 94) rfl rfl hg90 ?_
                  refine .w (.fieldAddr fa_53_4 rfl) ?_
                  refine .gt (g := 94) rfl rfl hg90 ?_
                  refine .w (.fieldAddr fa_33_2 rfl) ?_
                  refine .gt (g := 94) rfl rfl hg90 ?_
                  refine .w (.as (v' := it (fr : Int)) (.ld one_3 rfl (hj := by exact pk_from o)) (congrArg it hfr)) ?_
                  refine .gt (g := 94) rfl rfl hg90 ?_
                  refine .w (.ix1 Tryd.underlying46 sz_4 rfl rfl) ?_
                  refine .gt (g := 94) rfl rfl hg90 ?_
                  refine .w (.ld one_4 rfl (hj := by exact gm (d := false) (by omega))) ?_
                  refine .w (.pick1 rfl hg90 rfl) ?_
                  refine .nil ?_
                  refine .head () (by first | (refine ⟨by first | rfl | exact congrArg some (congrArg Value.bool (by first | exact from_join hfr hg90' | exact (decide_eq_false (fun h => absurd h.1 (by omega))).symm | exact (decide_eq_false (fun h => absurd h.2.1 (by omega))).symm)), ?_⟩; repeat (first | exact trivial | refine ⟨rfl, ?_⟩))) (fun _ h => h) (Picks.perm (by repeat (first | exact Picks.nil _ | apply Picks.cons | exact Pull.here _ _ | apply Pull.there))) ?_
                  trivial
                · refine .gf (g := 94) rfl rfl hg90 (by decide) ?_
                  refine .gf (g := 94) rfl rfl hg90 (by decide) ?_
                  refine .gf (g := 94) rfl rfl hg90 (by decide) ?_
                  refine .gf (g := 94) rfl rfl hg90 (by decide) ?_
                  refine .gf (g := 94) rfl rfl hg90 (by decide) ?_
                  refine .gf (g := 94) rfl rfl hg90 (by decide) ?_
                  refine .w (.pick0 rfl hg90 rfl) ?_
                  refine .nil ?_
                  refine .head () (by first | (refine ⟨by first | rfl | exact congrArg some (congrArg Value.bool (by first | exact from_join hfr hg90' | exact (decide_eq_false (fun h => absurd h.1 (by omega))).symm | exact (decide_eq_false (fun h => absurd h.2.1 (by omega))).symm)), ?_⟩; repeat (first | exact trivial | refine ⟨rfl, ?_⟩))) (fun _ h => h) (Picks.perm (by repeat (first | exact Picks.nil _ | apply Picks.cons | exact Pull.here _ _ | apply Pull.there))) ?_
                  trivial
              · refine .gf (g := 86) rfl rfl hg82 (by decide) ?_
                refine .gf (g := 86) rfl rfl hg82 (by decide) ?_
                refine .gf (g := 86) rfl rfl hg82 (by decide) ?_
                refine .gf (g := 86) rfl rfl hg82 (by decide) ?_
                refine .gf (g := 86) rfl rfl hg82 (by decide) ?_
                refine .gf (g := 86) rfl rfl hg82 (by decide) ?_
                refine .w (.pick0 rfl hg82 rfl) ?_
                refine .w (.move rfl) ?_
                refine .gf (g := 94) rfl rfl rfl (by decide) ?_
                refine .gf (g := 94) rfl rfl rfl (by decide) ?_
                refine .gf (g := 94) rfl rfl rfl (by decide) ?_
                refine .gf (g := 94) rfl rfl rfl (by decide) ?_
                refine .gf (g := 94) rfl rfl rfl (by decide) ?_
                refine .gf (g := 94) rfl rfl rfl (by decide) ?_
                refine .w (.pick0 rfl rfl rfl) ?_
                refine .nil ?_
                refine .head () (by first | (refine ⟨by first | rfl | exact congrArg some (congrArg Value.bool (by first | exact from_join hfr hg90' | exact (decide_eq_false (fun h => absurd h.1 (by omega))).symm | exact (decide_eq_false (fun h => absurd h.2.1 (by omega))).symm)), ?_⟩; repeat (first | exact trivial | refine ⟨rfl, ?_⟩))) (fun _ h => h) (Picks.perm (by repeat (first | exact Picks.nil _ | apply Picks.cons | exact Pull.here _ _ | apply Pull.there))) ?_
                trivial
            · refine .nil (.tn ?_)
              refine .cn rfl (fun hc6 => ?_) (fun hc6 => ?_)
              · have hp := AW.pick3 (bad := bad) hi hil2 hc5 hc6
                obtain ⟨B, hB, hB2⟩ := x.split hil
                refine .us hB ?_
                refine .seq ?_
                refine JC.draw (.one 0 (.one 1 (.one 2 (.one 3 (.one 4 (.one 5 (.one 6 (.one 7 (.one 8 (.one 9 (.one 10 (.one 11 (.one 12 .nil))))))))))))) (fun i => ([6, 7] : List Nat).contains i) (fun i => ([6, 7] : List Nat).contains i) (fun i => ([0, 1, 2, 3, 4, 5, 8, 9, 10, 11, 12] : List Nat).contains i) mixed (by kernel_rfl) (by decide) (by kernel_rfl) ?_
                refine .uw rfl (.move rfl) ?_
                refine .uw rfl (.fieldAddr fa_53_4 rfl) ?_
                refine .uw rfl (.as (v' := msV o.m) (.lda agg_33 rfl) (congrArg (fun l : List Value => Value.agg l.toArray) (pk_m o))) ?_
                refine .uw rfl (.fieldAddr fa_53_4 rfl) ?_
                refine .uw rfl (.fieldAddr fa_33_3 rfl) ?_
                refine .uw rfl (.as (v' := dgV o.m.value) (.lda agg_24 rfl) (congrArg (fun l : List Value => Value.agg l.toArray) (pk_v o))) ?_
                refine .mw rfl (.c (f19_spec o.m.value) body_19) ?_
                rintro _ _ _ ⟨rfl, rfl, rfl⟩
                refine kp ?_
                refine .mw rfl (.cb (f11_spec (x.at_ i).1 (x.at_ i).2 (WA.at_ok hok hil) o.m (goodV o.m.value)) body_11 (h0 := by rintro _ _ _ ⟨_, _, _, _, _, h, _⟩; exact h)) ?_
                rintro _ _ _ ⟨_, ⟨s2, wb, hok2, hab2, rfl, _, rfl⟩, hΓ, hH⟩
                simp only [List.cons_append, List.nil_append] at hH; subst hΓ hH
                refine kp ?_
                refine .rs (hB2 s2) ?_
                rw [WA.row_set (x := x) (i := i) s2]
                refine .uw rfl (.move rfl) ?_
                refine .uw rfl (.extract rfl rfl) ?_
                refine .uw rfl (.extract rfl rfl) ?_
                refine .uw rfl (.assign rfl) ?_
                refine .uw rfl (.assign rfl) ?_
                refine .nil (.tn (.region ?_))
                refine .w (.move rfl) ?_
                refine .w (.fieldAddr fa_53_1 rfl) ?_
                refine .w (.as (v' := it (i : Int)) (.ld one_3 rfl (hj := by first | exact RA.get_rd _ | exact RA.get_st _ | exact RA.get_me _ | exact RA.get_sh _ | exact RA.get_sv _ | exact RA.get_lkr _ | exact RA.get_vdr _ | exact RA.get_dcr _ | exact RA.get_bp _ | exact RA.get_bt _ | exact RA.get_bd _ | rfl | exact tab_get (by first | omega | (simp; omega)) | exact gm (d := 0) (by first | omega | (simp; omega)))) (congrArg it hi)) ?_
                refine .w (.move rfl) ?_
                refine .cb (f35_spec pw (x.set i s2) (WA.set_ok hok i hok2) i (by rw [WA.set_len]; exact hil) wb _ ((x.at_ i).2.abs.hear o.m (goodV o.m.value)).2.1 rfl (AR.hear_len (WA.at_ok hok hil).fine _ _)) body_35 ?_ (h0 := by rintro _ _ _ ⟨_, _, _, _, h, _⟩; exact h)
                rintro _ _ ⟨x9, hok9, hlen9, hab9, _, rfl⟩
                refine .ap ?_
                rw [WA.set_len] at hlen9
                rw [WA.set_abs, hab2] at hab9
                refine .nil (.block_normal ?_)
                exact .dn [] (WA.H pw x9) (res_none rfl) ⟨x9, hok9, hlen9, hab9.trans (by rw [hp]; first | (rw [hat]; done) | (unfold AW.hearW; rw [hat]; done) | (unfold AW.hearW; rw [hat]; rfl) | (rw [hat]; rfl)), rfl, rfl⟩
              · have hst := AW.pick3n (bad := bad) hi hil2 hc5 hc6
                refine .skip (.block_normal ?_)
                exact .dn [] (WA.H pw x) (res_none rfl) ⟨x, hok, rfl, hst.symm, rfl, rfl⟩
          · skip
            refine .seq (.region ?_)
            refine .w (.bin rfl rfl BinR.eql_i) ?_
            refine .w (.assign rfl) ?_
            refine .nil (.tn ?_)
            refine .cn rfl (fun hc7 => ?_) (fun hc7 => ?_)
            · have hp := AW.pick4 (bad := bad) hi hil2 hc7
              obtain ⟨B, hB, hB2⟩ := x.split hil
              refine .us hB ?_
              refine JC.draw (.one 0 (.one 1 (.one 2 (.one 3 (.one 4 (.one 5 (.one 6 (.one 7 (.one 8 (.one 9 .nil)))))))))) (fun i => ([7, 8, 9] : List Nat).contains i) (fun i => ([7, 8, 9] : List Nat).contains i) (fun i => ([0, 1, 2, 3, 4, 5, 6] : List Nat).contains i) mixed (by kernel_rfl) (by decide) (by kernel_rfl) ?_
              refine .uw rfl (.move rfl) ?_
              refine .uw rfl (.fieldAddr fa_53_1 rfl) ?_
              refine .uw rfl (.as (v' := it (i : Int)) (.ld one_3 rfl (hj := by first | exact RA.get_rd _ | exact RA.get_st _ | exact RA.get_me _ | exact RA.get_sh _ | exact RA.get_sv _ | exact RA.get_lkr _ | exact RA.get_vdr _ | exact RA.get_dcr _ | exact RA.get_bp _ | exact RA.get_bt _ | exact RA.get_bd _ | rfl | exact tab_get (by first | omega | (simp; omega)) | exact gm (d := 0) (by first | omega | (simp; omega)))) (congrArg it hi)) ?_
              refine .uw rfl (.move rfl) ?_
              refine .uw rfl (.fieldAddr fa_53_3 rfl) ?_
              refine .uw rfl (.ld one_3 rfl (hj := by first | exact RA.get_rd _ | exact RA.get_st _ | exact RA.get_me _ | exact RA.get_sh _ | exact RA.get_sv _ | exact RA.get_lkr _ | exact RA.get_vdr _ | exact RA.get_dcr _ | exact RA.get_bp _ | exact RA.get_bt _ | exact RA.get_bd _ | rfl | exact tab_get (by first | omega | (simp; omega)) | exact gm (d := 0) (by first | omega | (simp; omega)))) ?_
              refine .uw rfl (.move rfl) ?_
              refine .mw rfl (.c (f13_spec (x.at_ i).1 (x.at_ i).2) body_13) ?_
              rintro _ _ _ ⟨rfl, rfl, rfl⟩
              refine kp ?_
              refine .mw rfl (.cb (f12_spec (x.at_ i).1 (x.at_ i).2 (WA.at_ok hok hil) o.kind (x.at_ i).2.rd) body_12 (h0 := by rintro _ _ _ ⟨_, _, _, _, _, h, _⟩; exact h)) ?_
              rintro vc _ _ ⟨_, ⟨s2, w2, hok2, hab2, rfl, _, rfl⟩, hΓ, hH⟩
              simp only [List.cons_append, List.nil_append] at hH; subst hΓ hH
              refine kp ?_
              refine .rs (hB2 s2) ?_
              rw [WA.row_set (x := x) (i := i) s2]
              refine .mw rfl (.cb (f35_spec pw (x.set i s2) (WA.set_ok hok i hok2) i (by rw [WA.set_len]; exact hil) vc _ ((x.at_ i).2.abs.timeout o.kind (x.at_ i).2.rd).2 rfl (AR.timeout_len (WA.at_ok hok hil).fine _ _)) body_35 (h0 := by rintro _ _ _ ⟨_, _, _, _, h, _⟩; exact h)) ?_
              rintro _ _ _ ⟨_, ⟨x9, hok9, hlen9, hab9, _, rfl⟩, hΓ, hH⟩
              simp only [List.cons_append, List.nil_append] at hH; subst hΓ hH
              rw [WA.set_len] at hlen9
              rw [WA.set_abs, hab2] at hab9
              refine kp ?_
              refine .nil (.block_normal ?_)
              exact .dn [] (WA.H pw x9) (res_none rfl) ⟨x9, hok9, hlen9, hab9.trans (by rw [hp]; first | (rw [hat]; done) | (unfold AW.hearW; rw [hat]; done) | (unfold AW.hearW; rw [hat]; rfl) | (rw [hat]; rfl)), rfl, rfl⟩
            · have hst := AW.pickn (bad := bad) (w := x.abs) (o := o) (by omega) hc2 hc3 hc5 hc7
              refine .skip (.block_normal ?_)
              exact .dn [] (WA.H pw x) (res_none rfl) ⟨x, hok, rfl, hst.symm, rfl, rfl⟩
end Go.Proofs.YtncececcopalgaaDoor
