/- Walks: a timer heard. -/
import Derived.Test.YtncececcopalgaaDoorF12
namespace Go.Proofs.YtncececcopalgaaDoor
open Go.RowKit
set_option maxRecDepth 100000
set_option linter.unusedVariables false
set_option linter.unusedSimpArgs false
theorem f12_spec (p : Nat) (s : RA) (hok : s.Ok) (kind round : Int) :
    Spec Tryd.prog 12 #[(ptr p 0), (it kind), (it round)] [Res.var 0 [u64 9223372036854775808, u64 0, u64 0, u64 0]] (RA.H p s)
      (fun r Γ' H' => ∃ (s' : RA) (w : Value), s'.Ok ∧ s'.abs = (s.abs.timeout kind round).1 ∧ r = w ∧ Γ' = [] ∧ H' = Res.row w (s.abs.timeout kind round).2.length 41 35 (acC (s.abs.timeout kind round).2) :: RA.H p s') := by
  refine Spec.of_args Tryd.func12 rfl Tryd.ntmps12 (by simp) fun w => ?_
  have hr0 : 0 ≤ s.rd := hok.fine.rd0
  have hr1 : s.rd ≤ 60 := hok.fine.rd1
  refine .seq (.region ?_)
  refine .w (.assign rfl) ?_
  refine .nil (.tn (.seq (.seq (.region ?_))))
  refine .w (.move rfl) ?_
  refine .w (.nilCheck rfl) ?_
  refine .w (.fieldAddr fa_77_5 rfl) ?_
  refine .w (.ld one_3 rfl (hj := by first | exact RA.get_rd _ | exact RA.get_st _ | exact RA.get_me _ | exact RA.get_sh _ | exact RA.get_sv _ | exact RA.get_lkr _ | exact RA.get_vdr _ | exact RA.get_dcr _ | exact RA.get_bp _ | exact RA.get_bt _ | exact RA.get_bd _ | exact RA.msg_valid _ | exact RA.pr_valid _ | rfl | exact tab_get (by first | omega | (simp; omega)) | exact gm (d := 0) (by first | omega | (simp; omega)))) ?_
  refine .w (.bin rfl rfl BinR.eql_i) ?_
  refine .w (.move rfl) ?_
  refine .join 15 28 (.bool (decide (s.st = 0 ∨ 0 ≤ s.dc.r ∨ round ≠ s.rd))) ?_ ?_
  · refine .gn (g := 12) rfl (fun hg8 hg8' => ?_) (fun hg8 hg8' => ?_)
    · refine .gf (g := 13) rfl rfl hg8 (by decide) ?_
      refine .gf (g := 13) rfl rfl hg8 (by decide) ?_
      refine .gf (g := 13) rfl rfl hg8 (by decide) ?_
      refine .gf (g := 13) rfl rfl hg8 (by decide) ?_
      refine .gf (g := 13) rfl rfl hg8 (by decide) ?_
      refine .gf (g := 13) rfl rfl hg8 (by decide) ?_
      refine .w (.pick1 rfl hg8 rfl) ?_
      refine .w (.move rfl) ?_
      refine .gf (g := 21) rfl rfl rfl (by decide) ?_
      refine .gf (g := 21) rfl rfl rfl (by decide) ?_
      refine .gf (g := 21) rfl rfl rfl (by decide) ?_
      refine .gf (g := 21) rfl rfl rfl (by decide) ?_
      refine .gf (g := 21) rfl rfl rfl (by decide) ?_
      refine .gf (g := 21) rfl rfl rfl (by decide) ?_
      refine .w (.pick1 rfl rfl rfl) ?_
      refine .nil ?_
      refine .head () (by first | (refine ⟨by first | rfl | exact congrArg (fun b => some (Value.bool b)) (by first | exact (decide_eq_true (by omega)).symm | exact (decide_eq_false (by omega)).symm | exact decide_eq_decide.2 (by omega)) | (simp [*]; done) | (show some _ = some _; simp [*]; done), ?_⟩; repeat (first | exact trivial | refine ⟨rfl, ?_⟩))) (fun _ h => h) (Picks.perm (by repeat (first | exact Picks.nil _ | apply Picks.cons | exact Pull.here _ _ | apply Pull.there))) ?_
      trivial
    · refine .gt (g := 13) rfl rfl hg8 ?_
      refine .w (.move rfl) ?_
      refine .gt (g := 13) rfl rfl hg8 ?_
      refine .w (.nilCheck rfl) ?_
      refine .gt (g := 13) rfl rfl hg8 ?_
      refine .w (.fieldAddr fa_77_8 rfl) ?_
      refine .gt (g := 13) rfl rfl hg8 ?_
      refine .w (.fieldAddr fa_71_1 rfl) ?_
      refine .gt (g := 13) rfl rfl hg8 ?_
      refine .w (.ld one_3 rfl (hj := by first | exact RA.get_rd _ | exact RA.get_st _ | exact RA.get_me _ | exact RA.get_sh _ | exact RA.get_sv _ | exact RA.get_lkr _ | exact RA.get_vdr _ | exact RA.get_dcr _ | exact RA.get_bp _ | exact RA.get_bt _ | exact RA.get_bd _ | exact RA.msg_valid _ | exact RA.pr_valid _ | rfl | exact tab_get (by first | omega | (simp; omega)) | exact gm (d := 0) (by first | omega | (simp; omega)))) ?_
      refine .gt (g := 13) rfl rfl hg8 ?_
      refine .w (.bin rfl rfl BinR.geq_i) ?_
      refine .w (.pick0 rfl hg8 rfl) ?_
      refine .w (.move rfl) ?_
      refine .gn (g := 20) rfl (fun hg16 hg16' => ?_) (fun hg16 hg16' => ?_)
      · refine .gf (g := 21) rfl rfl hg16 (by decide) ?_
        refine .gf (g := 21) rfl rfl hg16 (by decide) ?_
        refine .gf (g := 21) rfl rfl hg16 (by decide) ?_
        refine .gf (g := 21) rfl rfl hg16 (by decide) ?_
        refine .gf (g := 21) rfl rfl hg16 (by decide) ?_
        refine .gf (g := 21) rfl rfl hg16 (by decide) ?_
        refine .w (.pick1 rfl hg16 rfl) ?_
        refine .nil ?_
        refine .head () (by first | (refine ⟨by first | rfl | exact congrArg (fun b => some (Value.bool b)) (by first | exact (decide_eq_true (by omega)).symm | exact (decide_eq_false (by omega)).symm | exact decide_eq_decide.2 (by omega)) | (simp [*]; done) | (show some _ = some _; simp [*]; done), ?_⟩; repeat (first | exact trivial | refine ⟨rfl, ?_⟩))) (fun _ h => h) (Picks.perm (by repeat (first | exact Picks.nil _ | apply Picks.cons | exact Pull.here _ _ | apply Pull.there))) ?_
        trivial
      · refine .gt (g := 21) rfl rfl hg16 ?_
        refine .w (.move rfl) ?_
        refine .gt (g := 21) rfl rfl hg16 ?_
        refine .w (.move rfl) ?_
        refine .gt (g := 21) rfl rfl hg16 ?_
        refine .w (.nilCheck rfl) ?_
        refine .gt (g := 21) rfl rfl hg16 ?_
        refine .w (.fieldAddr fa_77_4 rfl) ?_
        refine .gt (g := 21) rfl rfl hg16 ?_
        refine .w (.ld one_3 rfl (hj := by first | exact RA.get_rd _ | exact RA.get_st _ | exact RA.get_me _ | exact RA.get_sh _ | exact RA.get_sv _ | exact RA.get_lkr _ | exact RA.get_vdr _ | exact RA.get_dcr _ | exact RA.get_bp _ | exact RA.get_bt _ | exact RA.get_bd _ | exact RA.msg_valid _ | exact RA.pr_valid _ | rfl | exact tab_get (by first | omega | (simp; omega)) | exact gm (d := 0) (by first | omega | (simp; omega)))) ?_
        refine .gt (g := 21) rfl rfl hg16 ?_
        refine .w (.bin rfl rfl BinR.neq_i) ?_
        refine .w (.pick0 rfl hg16 rfl) ?_
        refine .nil ?_
        refine .head () (by first | (refine ⟨by first | rfl | exact congrArg (fun b => some (Value.bool b)) (by first | exact (decide_eq_true (by omega)).symm | exact (decide_eq_false (by omega)).symm | exact decide_eq_decide.2 (by omega)) | (simp [*]; done) | (show some _ = some _; simp [*]; done), ?_⟩; repeat (first | exact trivial | refine ⟨rfl, ?_⟩))) (fun _ h => h) (Picks.perm (by repeat (first | exact Picks.nil _ | apply Picks.cons | exact Pull.here _ _ | apply Pull.there))) ?_
        trivial
  · refine .nil (.tn ?_)
    refine .cn rfl (fun hc1 => ?_) (fun hc1 => ?_)
    · have he : s.abs.timeout kind round = (s.abs, []) := if_pos hc1
      refine .seq (.region ?_)
      refine .w (.assign rfl) ?_
      refine .nil (.tn (.ret (.then_ret ?_)))
      refine .nilRow 41 35 ?_
      exact .dn [] (Res.row (.slice none 0 0) 0 41 35 [] :: RA.H p s) (res1 rfl (.tmp rfl)) ⟨s, _, hok, by rw [he], rfl, rfl, by rw [he]; rfl⟩
    · have he : s.abs.timeout kind round = (((s.abs.timeout1 kind).1.follow).1, (s.abs.timeout1 kind).2 ++ ((s.abs.timeout1 kind).1.follow).2) := if_neg hc1
      refine .skip (.tn (.seq (.region ?_)))
      refine .w (.assign rfl) ?_
      refine .nil (.tn ?_)
      refine .mt (ι := Value × RA × List Act × Nat) (fun x => x.2.1.Ok ∧ x.2.1.abs = (s.abs.timeout1 kind).1 ∧ x.2.2.1 = (s.abs.timeout1 kind).2 ∧ x.2.2.2 = x.2.2.1.length ∧ x.2.2.2 ≤ 1) (fun T x => (7, x.1) :: T) (fun T _ => T) (fun T x => Res.row x.1 x.2.2.2 41 35 (acC x.2.2.1) :: Res.cells p x.2.1.cells 77 :: Res.row x.2.1.sv x.2.1.S.length 48 1 (x.2.1.S.map u64) :: mpR x.2.1.bp itK prV x.2.1.pr :: mpR x.2.1.bt k2V tpV x.2.1.ta :: mpR x.2.1.bd k2V blV x.2.1.dn :: Res.sep (tals x.2.1.S x.2.1.ta.es) :: T) [0, 6, 72, 73, 74] (RA.H p s) ?_ (fun x hx => ?_)
      · refine .block (.seq (.region ?_))
        refine .w (.move rfl) ?_
        refine .w (.bin rfl rfl BinR.eql_i) ?_
        refine .w (.move rfl) ?_
        refine .join 6 38 (.bool (decide (kind = 4 ∧ s.st = 1))) ?_ ?_
        · refine .gn (g := 31) rfl (fun hg28 hg28' => ?_) (fun hg28 hg28' => ?_)
          · refine .gt (g := 32) rfl rfl hg28 ?_
            refine .w (.move rfl) ?_
            refine .gt (g := 32) rfl rfl hg28 ?_
            refine .w (.nilCheck rfl) ?_
            refine .gt (g := 32) rfl rfl hg28 ?_
            refine .w (.fieldAddr fa_77_5 rfl) ?_
            refine .gt (g := 32) rfl rfl hg28 ?_
            refine .w (.ld one_3 rfl (hj := by first | exact RA.get_rd _ | exact RA.get_st _ | exact RA.get_me _ | exact RA.get_sh _ | exact RA.get_sv _ | exact RA.get_lkr _ | exact RA.get_vdr _ | exact RA.get_dcr _ | exact RA.get_bp _ | exact RA.get_bt _ | exact RA.get_bd _ | exact RA.msg_valid _ | exact RA.pr_valid _ | rfl | exact tab_get (by first | omega | (simp; omega)) | exact gm (d := 0) (by first | omega | (simp; omega)))) ?_
            refine .gt (g := 32) rfl rfl hg28 ?_
            refine .w (.bin rfl rfl BinR.eql_i) ?_
            refine .w (.pick1 rfl hg28 rfl) ?_
            refine .nil ?_
            refine .head () (by first | (refine ⟨by first | rfl | exact congrArg (fun b => some (Value.bool b)) (by first | exact (decide_eq_true (by omega)).symm | exact (decide_eq_false (by omega)).symm | exact decide_eq_decide.2 (by omega)) | (simp [*]; done) | (show some _ = some _; simp [*]; done), ?_⟩; repeat (first | exact trivial | refine ⟨rfl, ?_⟩))) (fun _ h => h) (Picks.perm (by repeat (first | exact Picks.nil _ | apply Picks.cons | exact Pull.here _ _ | apply Pull.there))) ?_
            trivial
          · refine .gf (g := 32) rfl rfl hg28 (by decide) ?_
            refine .gf (g := 32) rfl rfl hg28 (by decide) ?_
            refine .gf (g := 32) rfl rfl hg28 (by decide) ?_
            refine .gf (g := 32) rfl rfl hg28 (by decide) ?_
            refine .gf (g := 32) rfl rfl hg28 (by decide) ?_
            refine .w (.pick0 rfl hg28 rfl) ?_
            refine .nil ?_
            refine .head () (by first | (refine ⟨by first | rfl | exact congrArg (fun b => some (Value.bool b)) (by first | exact (decide_eq_true (by omega)).symm | exact (decide_eq_false (by omega)).symm | exact decide_eq_decide.2 (by omega)) | (simp [*]; done) | (show some _ = some _; simp [*]; done), ?_⟩; repeat (first | exact trivial | refine ⟨rfl, ?_⟩))) (fun _ h => h) (Picks.perm (by repeat (first | exact Picks.nil _ | apply Picks.cons | exact Pull.here _ _ | apply Pull.there))) ?_
            trivial
        · refine .w (.assign rfl) ?_
          refine .nil (.tn ?_)
          refine .cn rfl (fun hc2 => ?_) (fun hc2 => ?_)
          · have h1 : s.abs.timeout1 kind = (s.abs.vote 2 D0) := if_pos hc2
            refine .region ?_
            refine .w (.move rfl) ?_
            refine .w (.as (v' := dgV D0) (.build bld_24 rfl rfl) rfl) ?_
            refine .cb (f33_spec p s 2 D0) body_33 ?_
            rintro va _ ⟨_, _, rfl⟩
            refine .ap ?_
            refine .w (.assign rfl) ?_
            refine .nil (.block_normal ?_)
            refine .hd (va, s.setSt 2, (s.abs.vote 2 D0).2, 1) ?_
            first | exact ⟨RA.st_ok hok (by decide) (by decide), by dsimp only; rw [h1]; rfl, by dsimp only; rw [h1], rfl, by dsimp only; decide⟩ | exact ⟨hok.begin (s.rd + 1) (by omega) (by omega), by dsimp only; rw [h1]; exact RA.begin_abs rfl _, by dsimp only; rw [h1]; rfl, (RA.begin_len _ _).symm, by dsimp only; decide⟩ | exact ⟨hok, by dsimp only; rw [h1], by dsimp only; rw [h1], rfl, by dsimp only; decide⟩
          · skip
            refine .seq (.region ?_)
            refine .w (.move rfl) ?_
            refine .w (.bin rfl rfl BinR.eql_i) ?_
            refine .w (.move rfl) ?_
            refine .join 6 51 (.bool (decide (kind = 5 ∧ s.st = 2))) ?_ ?_
            · refine .gn (g := 44) rfl (fun hg42 hg42' => ?_) (fun hg42 hg42' => ?_)
              · refine .gt (g := 45) rfl rfl hg42 ?_
                refine .w (.move rfl) ?_
                refine .gt (g := 45) rfl rfl hg42 ?_
                refine .w (.nilCheck rfl) ?_
                refine .gt (g := 45) rfl rfl hg42 ?_
                refine .w (.fieldAddr fa_77_5 rfl) ?_
                refine .gt (g := 45) rfl rfl hg42 ?_
                refine .w (.ld one_3 rfl (hj := by first | exact RA.get_rd _ | exact RA.get_st _ | exact RA.get_me _ | exact RA.get_sh _ | exact RA.get_sv _ | exact RA.get_lkr _ | exact RA.get_vdr _ | exact RA.get_dcr _ | exact RA.get_bp _ | exact RA.get_bt _ | exact RA.get_bd _ | exact RA.msg_valid _ | exact RA.pr_valid _ | rfl | exact tab_get (by first | omega | (simp; omega)) | exact gm (d := 0) (by first | omega | (simp; omega)))) ?_
                refine .gt (g := 45) rfl rfl hg42 ?_
                refine .w (.bin rfl rfl BinR.eql_i) ?_
                refine .w (.pick1 rfl hg42 rfl) ?_
                refine .nil ?_
                refine .head () (by first | (refine ⟨by first | rfl | exact congrArg (fun b => some (Value.bool b)) (by first | exact (decide_eq_true (by omega)).symm | exact (decide_eq_false (by omega)).symm | exact decide_eq_decide.2 (by omega)) | (simp [*]; done) | (show some _ = some _; simp [*]; done), ?_⟩; repeat (first | exact trivial | refine ⟨rfl, ?_⟩))) (fun _ h => h) (Picks.perm (by repeat (first | exact Picks.nil _ | apply Picks.cons | exact Pull.here _ _ | apply Pull.there))) ?_
                trivial
              · refine .gf (g := 45) rfl rfl hg42 (by decide) ?_
                refine .gf (g := 45) rfl rfl hg42 (by decide) ?_
                refine .gf (g := 45) rfl rfl hg42 (by decide) ?_
                refine .gf (g := 45) rfl rfl hg42 (by decide) ?_
                refine .gf (g := 45) rfl rfl hg42 (by decide) ?_
                refine .w (.pick0 rfl hg42 rfl) ?_
                refine .nil ?_
                refine .head () (by first | (refine ⟨by first | rfl | exact congrArg (fun b => some (Value.bool b)) (by first | exact (decide_eq_true (by omega)).symm | exact (decide_eq_false (by omega)).symm | exact decide_eq_decide.2 (by omega)) | (simp [*]; done) | (show some _ = some _; simp [*]; done), ?_⟩; repeat (first | exact trivial | refine ⟨rfl, ?_⟩))) (fun _ h => h) (Picks.perm (by repeat (first | exact Picks.nil _ | apply Picks.cons | exact Pull.here _ _ | apply Pull.there))) ?_
                trivial
            · refine .w (.assign rfl) ?_
              refine .nil (.tn ?_)
              refine .cn rfl (fun hc3 => ?_) (fun hc3 => ?_)
              · have h1 : s.abs.timeout1 kind = (s.abs.vote 3 D0) := (if_neg hc2).trans (if_pos hc3)
                refine .region ?_
                refine .w (.move rfl) ?_
                refine .w (.as (v' := dgV D0) (.build bld_24 rfl rfl) rfl) ?_
                refine .cb (f33_spec p s 3 D0) body_33 ?_
                rintro vb _ ⟨_, _, rfl⟩
                refine .ap ?_
                refine .w (.assign rfl) ?_
                refine .nil (.block_normal ?_)
                refine .hd (vb, s.setSt 3, (s.abs.vote 3 D0).2, 1) ?_
                first | exact ⟨RA.st_ok hok (by decide) (by decide), by dsimp only; rw [h1]; rfl, by dsimp only; rw [h1], rfl, by dsimp only; decide⟩ | exact ⟨hok.begin (s.rd + 1) (by omega) (by omega), by dsimp only; rw [h1]; exact RA.begin_abs rfl _, by dsimp only; rw [h1]; rfl, (RA.begin_len _ _).symm, by dsimp only; decide⟩ | exact ⟨hok, by dsimp only; rw [h1], by dsimp only; rw [h1], rfl, by dsimp only; decide⟩
              · skip
                refine .seq (.region ?_)
                refine .w (.move rfl) ?_
                refine .w (.bin rfl rfl BinR.eql_i) ?_
                refine .w (.move rfl) ?_
                refine .join 6 64 (.bool (decide (kind = 6 ∧ s.rd < 60))) ?_ ?_
                · refine .gn (g := 57) rfl (fun hg56 hg56' => ?_) (fun hg56 hg56' => ?_)
                  · refine .gt (g := 58) rfl rfl hg56 ?_
                    refine .w (.move rfl) ?_
                    refine .gt (g := 58) rfl rfl hg56 ?_
                    refine .w (.nilCheck rfl) ?_
                    refine .gt (g := 58) rfl rfl hg56 ?_
                    refine .w (.fieldAddr fa_77_4 rfl) ?_
                    refine .gt (g := 58) rfl rfl hg56 ?_
                    refine .w (.ld one_3 rfl (hj := by first | exact RA.get_rd _ | exact RA.get_st _ | exact RA.get_me _ | exact RA.get_sh _ | exact RA.get_sv _ | exact RA.get_lkr _ | exact RA.get_vdr _ | exact RA.get_dcr _ | exact RA.get_bp _ | exact RA.get_bt _ | exact RA.get_bd _ | exact RA.msg_valid _ | exact RA.pr_valid _ | rfl | exact tab_get (by first | omega | (simp; omega)) | exact gm (d := 0) (by first | omega | (simp; omega)))) ?_
                    refine .gt (g := 58) rfl rfl hg56 ?_
                    refine .w (.bin rfl rfl BinR.lss_i) ?_
                    refine .w (.pick1 rfl hg56 rfl) ?_
                    refine .nil ?_
                    refine .head () (by first | (refine ⟨by first | rfl | exact congrArg (fun b => some (Value.bool b)) (by first | exact (decide_eq_true (by omega)).symm | exact (decide_eq_false (by omega)).symm | exact decide_eq_decide.2 (by omega)) | (simp [*]; done) | (show some _ = some _; simp [*]; done), ?_⟩; repeat (first | exact trivial | refine ⟨rfl, ?_⟩))) (fun _ h => h) (Picks.perm (by repeat (first | exact Picks.nil _ | apply Picks.cons | exact Pull.here _ _ | apply Pull.there))) ?_
                    trivial
                  · refine .gf (g := 58) rfl rfl hg56 (by decide) ?_
                    refine .gf (g := 58) rfl rfl hg56 (by decide) ?_
                    refine .gf (g := 58) rfl rfl hg56 (by decide) ?_
                    refine .gf (g := 58) rfl rfl hg56 (by decide) ?_
                    refine .gf (g := 58) rfl rfl hg56 (by decide) ?_
                    refine .w (.pick0 rfl hg56 rfl) ?_
                    refine .nil ?_
                    refine .head () (by first | (refine ⟨by first | rfl | exact congrArg (fun b => some (Value.bool b)) (by first | exact (decide_eq_true (by omega)).symm | exact (decide_eq_false (by omega)).symm | exact decide_eq_decide.2 (by omega)) | (simp [*]; done) | (show some _ = some _; simp [*]; done), ?_⟩; repeat (first | exact trivial | refine ⟨rfl, ?_⟩))) (fun _ h => h) (Picks.perm (by repeat (first | exact Picks.nil _ | apply Picks.cons | exact Pull.here _ _ | apply Pull.there))) ?_
                    trivial
                · refine .w (.assign rfl) ?_
                  refine .nil (.tn ?_)
                  refine .cn rfl (fun hc4 => ?_) (fun hc4 => ?_)
                  · have h1 : s.abs.timeout1 kind = s.abs.begin (s.abs.rd + 1) := (if_neg hc2).trans ((if_neg hc3).trans (if_pos hc4))
                    refine .region ?_
                    refine .w (.move rfl) ?_
                    refine .w (.move rfl) ?_
                    refine .w (.nilCheck rfl) ?_
                    refine .w (.fieldAddr fa_77_4 rfl) ?_
                    refine .w (.ld one_3 rfl (hj := by first | exact RA.get_rd _ | exact RA.get_st _ | exact RA.get_me _ | exact RA.get_sh _ | exact RA.get_sv _ | exact RA.get_lkr _ | exact RA.get_vdr _ | exact RA.get_dcr _ | exact RA.get_bp _ | exact RA.get_bt _ | exact RA.get_bd _ | exact RA.msg_valid _ | exact RA.pr_valid _ | rfl | exact tab_get (by first | omega | (simp; omega)) | exact gm (d := 0) (by first | omega | (simp; omega)))) ?_
                    refine .w (.bin rfl rfl (BinR.add_i (by first | (constructor <;> omega) | (constructor <;> simp <;> omega)))) ?_
                    refine .cb (f28_spec p s hok (s.rd + 1) (by omega) (by omega)) body_28 ?_
                    rintro vc _ ⟨_, _, rfl⟩
                    refine .ap ?_
                    refine .w (.assign rfl) ?_
                    refine .nil (.block_normal ?_)
                    refine .hd (vc, ((s.setRd (s.rd + 1)).setSt 1), (s.abs.begin (s.rd + 1)).2, 1) ?_
                    first | exact ⟨RA.st_ok hok (by decide) (by decide), by dsimp only; rw [h1]; rfl, by dsimp only; rw [h1], rfl, by dsimp only; decide⟩ | exact ⟨hok.begin (s.rd + 1) (by omega) (by omega), by dsimp only; rw [h1]; exact RA.begin_abs rfl _, by dsimp only; rw [h1]; rfl, (RA.begin_len _ _).symm, by dsimp only; decide⟩ | exact ⟨hok, by dsimp only; rw [h1], by dsimp only; rw [h1], rfl, by dsimp only; decide⟩
                  · have h1 : s.abs.timeout1 kind = (s.abs, []) := (if_neg hc2).trans ((if_neg hc3).trans (if_neg hc4))
                    refine .nilRow 41 35 ?_
                    refine .skip (.block_normal ?_)
                    refine .hd (.slice none 0 0, s, [], 0) ?_
                    first | exact ⟨RA.st_ok hok (by decide) (by decide), by dsimp only; rw [h1]; rfl, by dsimp only; rw [h1], rfl, by dsimp only; decide⟩ | exact ⟨hok.begin (s.rd + 1) (by omega) (by omega), by dsimp only; rw [h1]; exact RA.begin_abs rfl _, by dsimp only; rw [h1]; rfl, (RA.begin_len _ _).symm, by dsimp only; decide⟩ | exact ⟨hok, by dsimp only; rw [h1], by dsimp only; rw [h1], rfl, by dsimp only; decide⟩
      · obtain ⟨w1, s1, l1, n1⟩ := x
        obtain ⟨hok1, hab1, hl1, hn1, hle⟩ := hx
        dsimp only at hok1 hab1 hl1 hn1 hle ⊢
        refine .seq (.region ?_)
        refine .w (.move rfl) ?_
        refine .w (.move rfl) ?_
        refine .cb (f27_spec p s1 hok1 _ n1 l1 hn1 (by omega)) body_27 ?_ (h0 := by rintro _ _ _ ⟨_, _, _, _, _, h, _⟩; exact h)
        rintro _ _ ⟨s9, w9, hok9, hab9, rfl, _, rfl⟩
        refine .ap ?_
        refine .w (.assign rfl) ?_
        refine .nil (.tn (.ret ?_))
        exact .dn [] (Res.row _ (l1 ++ s1.abs.follow.2).length 41 35 (acC (l1 ++ s1.abs.follow.2)) :: RA.H p s9) (res1 rfl (.tmp rfl)) ⟨s9, _, hok9, by rw [he, hab9, hab1], rfl, rfl, by rw [he, ← hab1, ← hl1]⟩
end Go.Proofs.YtncececcopalgaaDoor
