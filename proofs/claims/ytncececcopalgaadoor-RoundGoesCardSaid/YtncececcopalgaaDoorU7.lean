/- Walk: what one does is said, and heard by oneself. -/
import Derived.Test.YtncececcopalgaaDoorU6
namespace Go.Proofs.YtncececcopalgaaDoor
open Go.RowKit
set_option maxRecDepth 100000
set_option linter.unusedVariables false
set_option linter.unusedSimpArgs false
theorem f35_spec (pw : Nat) (x0 : WA) (hok : x0.Ok) (who : Nat) (hw : who < x0.es.length) (v : Value) (n : Nat) (l : List Act) (hn : n = l.length) (hl : n ≤ 620) :
    Spec Tryd.prog 35 #[(ptr pw 0), (it (who : Int)), v] [Res.var 0 [u64 9223372036854775808, u64 0, u64 0, u64 0]] (Res.row v n 41 35 (acC l) :: WA.H pw x0)
      (fun r Γ' H' => ∃ x' : WA, x'.Ok ∧ x'.es.length = x0.es.length ∧ x'.abs = x0.abs.act who l ∧ Γ' = [] ∧ H' = WA.H pw x') := by
  refine Spec.of_args Tryd.func35 rfl Tryd.ntmps35 (by simp) fun w => ?_
  subst hn
  refine .seq (.region ?_)
  refine .w (.assign rfl) ?_
  refine .nil (.tn (.block ?_))
  refine .lp (ι := Nat × Value × WA × List Act) (fun x => x.1 ≤ 200 ∧ x.2.2.1.Ok ∧ x.2.2.1.es.length = x0.es.length ∧ x.2.2.2.length ≤ 620 * (x.1 + 1) ∧ AW.actN who (201 - x.1) x.2.2.1.abs x.2.2.2 x.1 = x0.abs.act who l) (fun T x => (2, x.2.1) :: (6, it (x.1 : Int)) :: T) (fun T _ => T) (fun T x => Res.row x.2.1 x.2.2.2.length 41 35 (acC x.2.2.2) :: Res.cells pw [x.2.2.1.stv, x.2.2.1.sdv] 59 :: Res.row x.2.2.1.stv x.2.2.1.es.length 27 1 (x.2.2.1.es.map fun e => ptr e.1 0) :: Res.row x.2.2.1.sdv x.2.2.1.said.length 33 36 (msC x.2.2.1.said) :: Res.sep (stsH x.2.2.1.es) :: T) (fun x => 201 - x.1) (0, v, x0, l) [0, 1] ?_ (fun x hx => ?_)
  · exact ⟨Nat.zero_le _, hok, rfl, by dsimp only; omega, rfl⟩
  obtain ⟨i, w1, x1, l1⟩ := x
  obtain ⟨hi, hok1, hlen, hll, hact⟩ := hx
  dsimp only at hi hok1 hlen hll hact ⊢
  have hw1 : who < x1.es.length := by omega
  have hsd := hok1.said
  refine .seq (.seq (.region ?_))
  refine .w (.move rfl) ?_
  refine .w (.move rfl) ?_
  refine .w (.len Tryd.underlying31 rfl) ?_
  refine .w (.bin rfl rfl BinR.lss_i) ?_
  refine .w (.move rfl) ?_
  refine .join 3 17 (.bool (decide ((i : Int) < l1.length ∧ (i : Int) < 200))) ?_ ?_
  · refine .gn (g := 13) rfl (fun hg7 hg7' => ?_) (fun hg7 hg7' => ?_)
    · refine .gt (g := 14) rfl rfl hg7 ?_
      refine .w (.move rfl) ?_
      refine .gt (g := 14) rfl rfl hg7 ?_
      refine .w (.bin rfl rfl BinR.lss_i) ?_
      refine .w (.pick1 rfl hg7 rfl) ?_
      refine .nil ?_
      refine .head () (by first | (refine ⟨by first | rfl | exact congrArg (fun b => some (Value.bool b)) (by first | exact (decide_eq_true (by omega)).symm | exact (decide_eq_false (by omega)).symm | exact decide_eq_decide.2 (by omega)) | (simp [*]; done) | (show some _ = some _; simp [*]; done), ?_⟩; repeat (first | exact trivial | refine ⟨rfl, ?_⟩))) (fun _ h => h) (Picks.perm (by repeat (first | exact Picks.nil _ | apply Picks.cons | exact Pull.here _ _ | apply Pull.there))) ?_
      trivial
    · refine .gf (g := 14) rfl rfl hg7 (by decide) ?_
      refine .gf (g := 14) rfl rfl hg7 (by decide) ?_
      refine .w (.pick0 rfl hg7 rfl) ?_
      refine .nil ?_
      refine .head () (by first | (refine ⟨by first | rfl | exact congrArg (fun b => some (Value.bool b)) (by first | exact (decide_eq_true (by omega)).symm | exact (decide_eq_false (by omega)).symm | exact decide_eq_decide.2 (by omega)) | (simp [*]; done) | (show some _ = some _; simp [*]; done), ?_⟩; repeat (first | exact trivial | refine ⟨rfl, ?_⟩))) (fun _ h => h) (Picks.perm (by repeat (first | exact Picks.nil _ | apply Picks.cons | exact Pull.here _ _ | apply Pull.there))) ?_
      trivial
  · refine .nil (.tn ?_)
    refine .cn rfl (fun hc1 => ?_) (fun hc1 => ?_)
    · have hgo1 := AW.actN_go (who := who) (f := 200 - i) (w := x1.abs) (l := l1) (i := i) (by omega)
      rw [show 200 - i + 1 = 201 - i by omega, hact] at hgo1
      refine .skip (.tn (.seq (.block (.seq (.seq (.region ?_))))))
      refine .w (.move rfl) ?_
      refine .w (.move rfl) ?_
      refine .w (.ix Tryd.underlying31 sz_41 rfl rfl) ?_
      refine .w (.fieldAddr fa_41_0 rfl) ?_
      refine .w (.ld one_3 rfl (hj := by exact act_kind0 (by omega))) ?_
      refine .w (.bin rfl rfl BinR.lss_i) ?_
      refine .w (.move rfl) ?_
      refine .join 15 41 (.bool (decide ((actAt l1 i).kind < 1 ∨ 3 < (actAt l1 i).kind ∨ 400 < (x1.said.length : Int)))) ?_ ?_
      · refine .gn (g := 25) rfl (fun hg17 hg17' => ?_) (fun hg17 hg17' => ?_)
        · refine .gf (g := 26) rfl rfl hg17 (by decide) ?_
          refine .gf (g := 26) rfl rfl hg17 (by decide) ?_
          refine .gf (g := 26) rfl rfl hg17 (by decide) ?_
          refine .gf (g := 26) rfl rfl hg17 (by decide) ?_
          refine .gf (g := 26) rfl rfl hg17 (by decide) ?_
          refine .gf (g := 26) rfl rfl hg17 (by decide) ?_
          refine .w (.pick1 rfl hg17 rfl) ?_
          refine .w (.move rfl) ?_
          refine .gf (g := 34) rfl rfl rfl (by decide) ?_
          refine .gf (g := 34) rfl rfl rfl (by decide) ?_
          refine .gf (g := 34) rfl rfl rfl (by decide) ?_
          refine .gf (g := 34) rfl rfl rfl (by decide) ?_
          refine .gf (g := 34) rfl rfl rfl (by decide) ?_
          refine .gf (g := 34) rfl rfl rfl (by decide) ?_
          refine .w (.pick1 rfl rfl rfl) ?_
          refine .nil ?_
          refine .head () (by first | (refine ⟨by first | rfl | exact congrArg (fun b => some (Value.bool b)) (by first | exact (decide_eq_true (by omega)).symm | exact (decide_eq_false (by omega)).symm | exact decide_eq_decide.2 (by omega)) | (simp [*]; done) | (show some _ = some _; simp [*]; done), ?_⟩; repeat (first | exact trivial | refine ⟨rfl, ?_⟩))) (fun _ h => h) (Picks.perm (by repeat (first | exact Picks.nil _ | apply Picks.cons | exact Pull.here _ _ | apply Pull.there))) ?_
          trivial
        · refine .gt (g := 26) rfl rfl hg17 ?_
          refine .w (.move rfl) ?_
          refine .gt (g := 26) rfl rfl hg17 ?_
          refine .w (.move rfl) ?_
          refine .gt (g := 26) rfl rfl hg17 ?_
          refine .w (.ix Tryd.underlying31 sz_41 rfl rfl) ?_
          refine .gt (g := 26) rfl rfl hg17 ?_
          refine .w (.fieldAddr fa_41_0 rfl) ?_
          refine .gt (g := 26) rfl rfl hg17 ?_
          refine .w (.ld one_3 rfl (hj := by exact act_kind0 (by omega))) ?_
          refine .gt (g := 26) rfl rfl hg17 ?_
          refine .w (.bin rfl rfl BinR.gtr_i) ?_
          refine .w (.pick0 rfl hg17 rfl) ?_
          refine .w (.move rfl) ?_
          refine .gn (g := 33) rfl (fun hg25 hg25' => ?_) (fun hg25 hg25' => ?_)
          · refine .gf (g := 34) rfl rfl hg25 (by decide) ?_
            refine .gf (g := 34) rfl rfl hg25 (by decide) ?_
            refine .gf (g := 34) rfl rfl hg25 (by decide) ?_
            refine .gf (g := 34) rfl rfl hg25 (by decide) ?_
            refine .gf (g := 34) rfl rfl hg25 (by decide) ?_
            refine .gf (g := 34) rfl rfl hg25 (by decide) ?_
            refine .w (.pick1 rfl hg25 rfl) ?_
            refine .nil ?_
            refine .head () (by first | (refine ⟨by first | rfl | exact congrArg (fun b => some (Value.bool b)) (by first | exact (decide_eq_true (by omega)).symm | exact (decide_eq_false (by omega)).symm | exact decide_eq_decide.2 (by omega)) | (simp [*]; done) | (show some _ = some _; simp [*]; done), ?_⟩; repeat (first | exact trivial | refine ⟨rfl, ?_⟩))) (fun _ h => h) (Picks.perm (by repeat (first | exact Picks.nil _ | apply Picks.cons | exact Pull.here _ _ | apply Pull.there))) ?_
            trivial
          · refine .gt (g := 34) rfl rfl hg25 ?_
            refine .w (.move rfl) ?_
            refine .gt (g := 34) rfl rfl hg25 ?_
            refine .w (.nilCheck rfl) ?_
            refine .gt (g := 34) rfl rfl hg25 ?_
            refine .w (.fieldAddr fa_59_1 rfl) ?_
            refine .gt (g := 34) rfl rfl hg25 ?_
            refine .w (.ld one_57 rfl (hj := by first | exact RA.get_rd _ | exact RA.get_st _ | exact RA.get_me _ | exact RA.get_sh _ | exact RA.get_sv _ | exact RA.get_lkr _ | exact RA.get_vdr _ | exact RA.get_dcr _ | exact RA.get_bp _ | exact RA.get_bt _ | exact RA.get_bd _ | rfl | exact tab_get (by first | omega | (simp; omega)) | exact gm (d := 0) (by first | omega | (simp; omega)))) ?_
            refine .gt (g := 34) rfl rfl hg25 ?_
            refine .w (.len Tryd.underlying57 rfl) ?_
            refine .gt (g := 34) rfl rfl hg25 ?_
            refine .w (.bin rfl rfl BinR.gtr_i) ?_
            refine .w (.pick0 rfl hg25 rfl) ?_
            refine .nil ?_
            refine .head () (by first | (refine ⟨by first | rfl | exact congrArg (fun b => some (Value.bool b)) (by first | exact (decide_eq_true (by omega)).symm | exact (decide_eq_false (by omega)).symm | exact decide_eq_decide.2 (by omega)) | (simp [*]; done) | (show some _ = some _; simp [*]; done), ?_⟩; repeat (first | exact trivial | refine ⟨rfl, ?_⟩))) (fun _ h => h) (Picks.perm (by repeat (first | exact Picks.nil _ | apply Picks.cons | exact Pull.here _ _ | apply Pull.there))) ?_
            trivial
      · refine .nil (.tn ?_)
        refine .cn rfl (fun hc2 => ?_) (fun hc2 => ?_)
        · have hgo : AW.actN who (201 - (i + 1)) x1.abs l1 (i + 1) = x0.abs.act who l := by
            rw [AW.act1_no (show _ ∨ _ ∨ 400 < x1.abs.said.length from by have : x1.abs.said = x1.said := rfl; rw [this]; omega), List.append_nil] at hgo1
            rw [show 201 - (i + 1) = 200 - i by omega]
            exact hgo1.symm
          refine .exit (.then_exit (.block_exit (.tn (.region ?_))))
          refine .w (.move rfl) ?_
          refine .w (.asI ((i + 1 : Nat) : Int) (.bin rfl rfl (BinR.add_i (by first | (constructor <;> omega) | (constructor <;> simp <;> omega))))) ?_
          refine .w (.assign rfl) ?_
          refine .nil ?_
          first | refine .hd (i + 1, w1, x1, l1) ?_ | refine .hd (i + 1, v93, ((x1.say v71 (AW.msgOf who (actAt l1 i))).set who s2), l1 ++ ((x1.at_ who).2.abs.hear (AW.msgOf who (actAt l1 i)) (goodV (actAt l1 i).value)).2.1) ?_
          first | exact ⟨⟨by dsimp only; omega, hok1, hlen, by dsimp only; omega, by dsimp only; rw [hgo]⟩, by dsimp only; omega⟩ | exact ⟨⟨by dsimp only; omega, WA.set_ok (WA.say_ok hok1 _ _ hsn) who hoks, by dsimp only; rw [WA.set_len]; exact hlen, by dsimp only; rw [List.length_append]; omega, by dsimp only; rw [WA.set_abs, hab2]; exact hgo⟩, by dsimp only; omega⟩
        · have hsn : x1.said.length ≤ 400 := by omega
          have hml : ((x1.at_ who).2.abs.hear (AW.msgOf who (actAt l1 i)) (goodV (actAt l1 i).value)).2.1.length ≤ 620 := AR.hear_len (WA.at_ok hok1 hw1).fine _ _
          have hgo : AW.actN who (201 - (i + 1)) ⟨x1.abs.st.set who ((x1.at_ who).2.abs.hear (AW.msgOf who (actAt l1 i)) (goodV (actAt l1 i).value)).1, x1.said ++ [(AW.msgOf who (actAt l1 i))]⟩ (l1 ++ ((x1.at_ who).2.abs.hear (AW.msgOf who (actAt l1 i)) (goodV (actAt l1 i).value)).2.1) (i + 1) = x0.abs.act who l := by
            rw [AW.act1_yes (show ¬ (_ ∨ _ ∨ 400 < x1.abs.said.length) from by have : x1.abs.said = x1.said := rfl; rw [this]; omega), WA.at_abs hw1] at hgo1
            rw [show 201 - (i + 1) = 200 - i by omega]
            exact hgo1.symm
          refine .skip (.tn (.seq ?_))
          refine JC.draw (.one 0 (.one 1 (.one 2 (.one 3 (.one 4 (.one 5 (.one 6 (.one 7 (.one 8 (.one 9 (.one 10 (.one 11 (.one 12 (.one 13 (.one 14 (.one 15 (.one 16 (.one 17 (.one 18 (.one 19 (.one 20 (.one 21 (.one 22 (.one 23 .nil)))))))))))))))))))))))) (fun i => ([23] : List Nat).contains i) (fun i => ([22, 23] : List Nat).contains i) (fun i => ([0, 1, 3, 5, 6, 8, 10, 11, 12, 14, 16, 17, 19, 21] : List Nat).contains i) mixed (by kernel_rfl) (by decide) (by kernel_rfl) ?_
          refine .uw rfl (.move rfl) ?_
          refine .uw rfl (.move rfl) ?_
          refine .w rfl (.ix Tryd.underlying31 sz_41 rfl rfl) ?_
          refine .uw rfl (.fieldAddr fa_41_0 rfl) ?_
          refine .w rfl (.ld one_3 rfl (hj := by exact act_kind0 (by omega))) ?_
          refine .uw rfl (.move rfl) ?_
          refine .uw rfl (.move rfl) ?_
          refine .w rfl (.ix Tryd.underlying31 sz_41 rfl rfl) ?_
          refine .uw rfl (.fieldAddr fa_41_1 rfl) ?_
          refine .w rfl (.ld one_3 rfl (hj := by exact act_round (by omega))) ?_
          refine .uw rfl (.move rfl) ?_
          refine .uw rfl (.move rfl) ?_
          refine .uw rfl (.move rfl) ?_
          refine .w rfl (.ix Tryd.underlying31 sz_41 rfl rfl) ?_
          refine .uw rfl (.fieldAddr fa_41_2 rfl) ?_
          refine .w rfl (.as (v' := dgV (actAt l1 i).value) (.lda agg_24 rfl) (congrArg (fun l : List Value => Value.agg l.toArray) (act_val (by omega)))) ?_
          refine .uw rfl (.move rfl) ?_
          refine .uw rfl (.move rfl) ?_
          refine .w rfl (.ix Tryd.underlying31 sz_41 rfl rfl) ?_
          refine .uw rfl (.fieldAddr fa_41_3 rfl) ?_
          refine .w rfl (.ld one_3 rfl (hj := by exact act_valid (by omega))) ?_
          refine .uw rfl (.as (v' := msV (AW.msgOf who (actAt l1 i))) (.bd bld_33) (congrArg (fun l : List Value => Value.agg l.toArray) (ms5 _ _ _ _ _))) ?_
          refine .mw rfl (Mv.alloc zero_33) ?_
          rintro _ _ _ ⟨b7, rfl, rfl, rfl⟩
          refine kp ?_
          refine .mw0 rfl (.sa sz_33 (h1 := (Msg.one _))) ?_
          rintro _ _ _ ⟨rfl, rfl⟩
          refine kp ?_
          refine .nil (.tn (.seq ?_))
          refine JC.draw (.one 0 (.one 1 (.one 2 (.one 3 (.one 4 (.one 5 (.one 6 (.one 7 (.one 8 (.one 9 (.one 10 .nil))))))))))) (fun i => ([7, 10] : List Nat).contains i) (fun i => ([6, 7, 10] : List Nat).contains i) (fun i => ([0, 1, 2, 3, 8, 9] : List Nat).contains i) mixed (by kernel_rfl) (by decide) (by kernel_rfl) ?_
          refine .uw rfl (.move rfl) ?_
          refine .uw rfl (.move rfl) ?_
          refine .uw rfl (.nilCheck rfl) ?_
          refine .uw rfl (.fieldAddr fa_59_1 rfl) ?_
          refine .w rfl (.ld one_57 rfl (hj := by first | exact RA.get_rd _ | exact RA.get_st _ | exact RA.get_me _ | exact RA.get_sh _ | exact RA.get_sv _ | exact RA.get_lkr _ | exact RA.get_vdr _ | exact RA.get_dcr _ | exact RA.get_bp _ | exact RA.get_bt _ | exact RA.get_bd _ | rfl | exact tab_get (by first | omega | (simp; omega)) | exact gm (d := 0) (by first | omega | (simp; omega)))) ?_
          refine .w rfl (.as (v' := msV (AW.msgOf who (actAt l1 i))) (.lda agg_33 rfl) rfl) ?_
          refine .mw rfl (Mv.lit Tryd.underlying57 info_33 rfl rfl (by intro v hv; rw [List.mem_singleton.1 hv]; exact msV_size _) (by decide) (by decide) (by unfold maxLen; omega)) ?_
          rintro v70 _ _ ⟨rfl, rfl⟩
          refine kp ?_
          rw [ms1]
          refine .mw rfl (.ap Tryd.underlying57 info_33 (hone := (msC_one _))) ?_
          rintro v71 _ _ ⟨rfl, rfl⟩
          refine kp ?_
          rw [← msC_app, show x1.said.length + 1 = (x1.said ++ [(AW.msgOf who (actAt l1 i))]).length from by simp]
          refine .uw rfl (.nilCheck rfl) ?_
          refine .uw rfl (.fieldAddr fa_59_1 rfl) ?_
          refine .mw0 rfl (.s1s sz_57) ?_
          rintro _ _ _ ⟨rfl, rfl⟩
          refine kp ?_
          obtain ⟨B, hB, hB2⟩ := x1.split hw1
          refine .us hB ?_
          refine .nil (.tn (.seq ?_))
          refine JC.draw (.one 0 (.one 1 (.one 2 (.one 3 (.one 4 (.one 5 (.one 6 (.one 7 (.one 8 (.one 9 (.one 10 (.one 11 (.one 12 (.one 13 (.one 14 (.one 15 (.one 16 .nil))))))))))))))))) (fun i => ([11] : List Nat).contains i) (fun i => ([10, 11] : List Nat).contains i) (fun i => ([0, 1, 2, 4, 8, 12, 13, 14, 15, 16] : List Nat).contains i) mixed (by kernel_rfl) (by decide) (by kernel_rfl) ?_
          refine .uw rfl (.move rfl) ?_
          refine .uw rfl (.nilCheck rfl) ?_
          refine .uw rfl (.fieldAddr fa_59_0 rfl) ?_
          refine .w rfl (.ld one_56 rfl (hj := by first | exact RA.get_rd _ | exact RA.get_st _ | exact RA.get_me _ | exact RA.get_sh _ | exact RA.get_sv _ | exact RA.get_lkr _ | exact RA.get_vdr _ | exact RA.get_dcr _ | exact RA.get_bp _ | exact RA.get_bt _ | exact RA.get_bd _ | rfl | exact tab_get (by first | omega | (simp; omega)) | exact gm (d := 0) (by first | omega | (simp; omega)))) ?_
          refine .uw rfl (.move rfl) ?_
          refine .w rfl (.ix1 Tryd.underlying56 sz_27 rfl rfl) ?_
          refine .w rfl (.ld one_27 rfl (hj := by exact WA.at_ptr hw1)) ?_
          refine .w rfl (.as (v' := msV (AW.msgOf who (actAt l1 i))) (.lda agg_33 rfl) rfl) ?_
          refine .uw rfl (.fieldAddr fa_33_3 rfl) ?_
          refine .w rfl (.as (v' := dgV (actAt l1 i).value) (.lda agg_24 rfl) (congrArg (fun l : List Value => Value.agg l.toArray) (RA.msg_v _))) ?_
          refine .mw rfl (.c (f19_spec (actAt l1 i).value) body_19) ?_
          rintro _ _ _ ⟨rfl, rfl, rfl⟩
          refine kp ?_
          refine .mw rfl (.cb (f11_spec (x1.at_ who).1 (x1.at_ who).2 (WA.at_ok hok1 hw1) (AW.msgOf who (actAt l1 i)) (goodV (actAt l1 i).value)) body_11 (h0 := by rintro _ _ _ ⟨_, _, _, _, _, h, _⟩; exact h)) ?_
          rintro _ _ _ ⟨_, ⟨s2, wb, hoks, hab2, rfl, _, rfl⟩, hΓ, hH⟩
          simp only [List.cons_append, List.nil_append] at hH; subst hΓ hH
          refine kp ?_
          refine .rs (hB2 s2) ?_
          rw [WA.row_set (x := x1) (i := who) s2]
          refine .uw rfl (.move rfl) ?_
          refine .uw rfl (.extract rfl rfl) ?_
          refine .uw rfl (.extract rfl rfl) ?_
          refine .uw rfl (.assign rfl) ?_
          refine .uw rfl (.assign rfl) ?_
          refine .nil (.tn (.region ?_))
          refine .le Tryd.underlying31 sz_41 fun v89 => ?_
          refine .w (.move rfl) ?_
          refine .ap Tryd.underlying31 info_41 (fun v91 => ?_) (hone := (acC_one _))
          refine .w (.move rfl) ?_
          refine .ap Tryd.underlying31 info_41 (fun v93 => ?_) (hone := (acC_one _))
          rw [List.nil_append, ← acC_app, show 0 + l1.length = l1.length from Nat.zero_add _, ← List.length_append]
          refine .w (.assign rfl) ?_
          refine .nil (.block_normal (.tn (.region ?_)))
          refine .w (.move rfl) ?_
          refine .w (.asI ((i + 1 : Nat) : Int) (.bin rfl rfl (BinR.add_i (by first | (constructor <;> omega) | (constructor <;> simp <;> omega))))) ?_
          refine .w (.assign rfl) ?_
          refine .nil ?_
          first | refine .hd (i + 1, w1, x1, l1) ?_ | refine .hd (i + 1, v93, ((x1.say v71 (AW.msgOf who (actAt l1 i))).set who s2), l1 ++ ((x1.at_ who).2.abs.hear (AW.msgOf who (actAt l1 i)) (goodV (actAt l1 i).value)).2.1) ?_
          first | exact ⟨⟨by dsimp only; omega, hok1, hlen, by dsimp only; omega, by dsimp only; rw [hgo]⟩, by dsimp only; omega⟩ | exact ⟨⟨by dsimp only; omega, WA.set_ok (WA.say_ok hok1 _ _ hsn) who hoks, by dsimp only; rw [WA.set_len]; exact hlen, by dsimp only; rw [List.length_append]; omega, by dsimp only; rw [WA.set_abs, hab2]; exact hgo⟩, by dsimp only; omega⟩
    · have hst := hact.symm.trans (AW.actN_stop (who := who) (by omega))
      refine .exit (.then_exit (.then_exit (.block_exit ?_)))
      exact .dn [] (WA.H pw x1) (res_none rfl) ⟨x1, hok1, hlen, hst.symm, rfl, rfl⟩
end Go.Proofs.YtncececcopalgaaDoor
