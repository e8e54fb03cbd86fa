/- Walks: the document's tally. -/
import Derived.Test.YtmbpngnamnoiaaaDoorF3
namespace Go.Proofs.YtmbpngnamnoiaaaDoor
open Go.RowKit
set_option maxRecDepth 100000
set_option linter.unusedVariables false
set_option linter.unusedSimpArgs false
theorem f24_spec (p : Nat) (sv iv vv av : Value) (S : List W64) (g : Int → Option D32) (t : Int → Bool) (who : Int) (v : D32) (hln : S.length ≤ 1000000) :
    Spec Tryd.prog 24 #[(ptr p 0), (it who), (dgV v)] [Res.cells p [sv, iv, vv, av] 56, Res.rd sv S.length 1 (S.map u64)] [Res.row iv S.length 4 1 (isT S.length g), Res.row vv S.length 31 32 (bks dgC (vvL S.length g)), Res.row av S.length 4 1 (agT S.length t)]
      (fun r Γ' H' => r = it (voteE S g who v) ∧ Γ' = [] ∧ H' = [Res.row iv S.length 4 1 (isT S.length (if voteE S g who v = 0 then gput g who v else g)), Res.row vv S.length 31 32 (bks dgC (vvL S.length (if voteE S g who v = 0 then gput g who v else g))), Res.row av S.length 4 1 (agT S.length (if voteE S g who v = 52 then tput t who else t))]) := by
  refine Spec.of_args Tryd.func24 rfl Tryd.ntmps24 (by simp) fun w => ?_
  refine .seq (.region ?_)
  refine .bx fun b5 => ?_
  refine .w (.assign rfl) ?_
  refine .nil (.tn (.seq (.seq (.region ?_))))
  refine .w (.move rfl) ?_
  refine .w (.bin rfl rfl BinR.lss_i) ?_
  refine .w (.move rfl) ?_
  refine .join 8 17 (.bool (decide (who < 0 ∨ (S.length : Int) ≤ who))) ?_ ?_
  · refine .gn (g := 8) rfl (fun hg6 hg6' => ?_) (fun hg6 hg6' => ?_)
    · refine .gf (g := 9) rfl rfl hg6 (by decide) ?_
      refine .gf (g := 9) rfl rfl hg6 (by decide) ?_
      refine .gf (g := 9) rfl rfl hg6 (by decide) ?_
      refine .gf (g := 9) rfl rfl hg6 (by decide) ?_
      refine .gf (g := 9) rfl rfl hg6 (by decide) ?_
      refine .gf (g := 9) rfl rfl hg6 (by decide) ?_
      refine .gf (g := 9) rfl rfl hg6 (by decide) ?_
      refine .w (.pick1 rfl hg6 rfl) ?_
      refine .nil ?_
      refine .head () (by first | (refine ⟨by first | rfl | exact congrArg (fun b => some (Value.bool b)) (by first | exact (decide_eq_true (by omega)).symm | exact (decide_eq_false (by omega)).symm | exact decide_eq_decide.2 (by omega)) | (simp [*]; done) | (show some _ = some _; simp [*]; done), ?_⟩; repeat (first | exact trivial | refine ⟨rfl, ?_⟩))) (fun _ h => h) (Picks.perm (by repeat (first | exact Picks.nil _ | apply Picks.cons | exact Pull.here _ _ | apply Pull.there))) ?_
      trivial
    · refine .gt (g := 9) rfl rfl hg6 ?_
      refine .w (.move rfl) ?_
      refine .gt (g := 9) rfl rfl hg6 ?_
      refine .w (.move rfl) ?_
      refine .gt (g := 9) rfl rfl hg6 ?_
      refine .w (.nilCheck rfl) ?_
      refine .gt (g := 9) rfl rfl hg6 ?_
      refine .w (.fieldAddr fa_56_0 rfl) ?_
      refine .gt (g := 9) rfl rfl hg6 ?_
      refine .w (.ld one_22 rfl (hj := by first | exact isT_get _ (by omega) | exact agT_get _ (by omega) | rfl | exact tab_get (by first | omega | (simp; omega)) | exact gm (d := 0) (by first | omega | (simp; omega)))) ?_
      refine .gt (g := 9) rfl rfl hg6 ?_
      refine .w (.len Tryd.underlying22 rfl) ?_
      refine .gt (g := 9) rfl rfl hg6 ?_
      refine .w (.bin rfl rfl BinR.geq_i) ?_
      refine .w (.pick0 rfl hg6 rfl) ?_
      refine .nil ?_
      refine .head () (by first | (refine ⟨by first | rfl | exact congrArg (fun b => some (Value.bool b)) (by first | exact (decide_eq_true (by omega)).symm | exact (decide_eq_false (by omega)).symm | exact decide_eq_decide.2 (by omega)) | (simp [*]; done) | (show some _ = some _; simp [*]; done), ?_⟩; repeat (first | exact trivial | refine ⟨rfl, ?_⟩))) (fun _ h => h) (Picks.perm (by repeat (first | exact Picks.nil _ | apply Picks.cons | exact Pull.here _ _ | apply Pull.there))) ?_
      trivial
  · refine .nil (.tn ?_)
    refine .cn rfl (fun hc1 => ?_) (fun hc1 => ?_)
    · have hE : voteE S g who v = 1 := if_pos hc1
      refine .seq (.region ?_)
      refine .w (.assign rfl) ?_
      refine .nil (.tn (.ret (.then_ret ?_)))
      exact .dn [] [Res.row iv S.length 4 1 (isT S.length g), Res.row vv S.length 31 32 (bks dgC (vvL S.length g)), Res.row av S.length 4 1 (agT S.length t)] (res1 rfl (.tmp rfl)) ⟨by rw [hE], rfl, by rw [hE]; rfl⟩
    · obtain ⟨i, rfl⟩ : ∃ i : Nat, who = i := ⟨who.toNat, by omega⟩
      have hil : i < S.length := by omega
      refine .skip (.tn (.seq (.seq (.region ?_))))
      refine .w (.move rfl) ?_
      refine .w (.nilCheck rfl) ?_
      refine .w (.fieldAddr fa_56_0 rfl) ?_
      refine .w (.ld one_22 rfl (hj := by first | exact isT_get _ (by omega) | exact agT_get _ (by omega) | rfl | exact tab_get (by first | omega | (simp; omega)) | exact gm (d := 0) (by first | omega | (simp; omega)))) ?_
      refine .w (.move rfl) ?_
      refine .w (.ix1 Tryd.underlying22 sz_34 rfl rfl) ?_
      refine .w (.ld one_34 rfl (hj := by first | exact isT_get _ (by omega) | exact agT_get _ (by omega) | rfl | exact tab_get (by first | omega | (simp; omega)) | exact gm (d := 0) (by first | omega | (simp; omega)))) ?_
      refine .w (.as (v' := .bool (decide (stk S i = 0))) (.bin rfl rfl (BinR.eql_u64 (b := 0#64))) (congrArg Value.bool (decide_eq_decide.2 (stk0 S i)))) ?_
      refine .nil (.tn ?_)
      refine .cn rfl (fun hc2 => ?_) (fun hc2 => ?_)
      · try simp only [BitVec.reduceToNat] at hc2
        have hE : voteE S g i v = 51 := by rw [voteE, if_neg hc1, if_pos hc2]
        refine .seq (.region ?_)
        refine .w (.assign rfl) ?_
        refine .nil (.tn (.ret (.then_ret ?_)))
        exact .dn [] [Res.row iv S.length 4 1 (isT S.length g), Res.row vv S.length 31 32 (bks dgC (vvL S.length g)), Res.row av S.length 4 1 (agT S.length t)] (res1 rfl (.tmp rfl)) ⟨by rw [hE], rfl, by rw [hE]; rfl⟩
      · try simp only [BitVec.reduceToNat] at hc2
        skip
        refine .skip (.tn (.seq (.seq ?_)))
        refine JC.draw (.one 0 (.one 1 (.one 2 (.one 3 (.one 4 (.one 5 (.one 6 (.one 7 (.one 8 (.one 9 (.one 10 (.one 11 (.one 12 (.one 13 (.one 14 (.one 15 (.one 16 (.one 17 .nil)))))))))))))))))) (fun i => ([] : List Nat).contains i) (fun i => ([] : List Nat).contains i) (fun i => ([0, 1, 2, 4, 7, 8, 9, 10, 12, 16, 17] : List Nat).contains i) mixed (by kernel_rfl) (by decide) (by kernel_rfl) ?_
        refine .uw rfl (.move rfl) ?_
        refine .uw rfl (.nilCheck rfl) ?_
        refine .uw rfl (.fieldAddr fa_56_1 rfl) ?_
        refine .w rfl (.ld one_53 rfl (hj := by first | exact isT_get _ (by omega) | exact agT_get _ (by omega) | rfl | exact tab_get (by first | omega | (simp; omega)) | exact gm (d := 0) (by first | omega | (simp; omega)))) ?_
        refine .uw rfl (.move rfl) ?_
        refine .w rfl (.ix1 Tryd.underlying53 sz_4 rfl rfl) ?_
        refine .w rfl (.ld one_4 rfl (hj := by first | exact isT_get _ (by omega) | exact agT_get _ (by omega) | rfl | exact tab_get (by first | omega | (simp; omega)) | exact gm (d := 0) (by first | omega | (simp; omega)))) ?_
        refine .uw rfl (.move rfl) ?_
        refine JR.gsplit (g := 32) rfl (fun hg32 => ?_) (fun hg32 => ?_)
        · have hg32' := hg32
          try simp only [decide_eq_true_eq, decide_eq_false_iff_not, Bool.not_eq_true', Bool.not_eq_false', ne_eq, Decidable.not_not, Bool.not_eq_true, Bool.and_eq_true, Bool.or_eq_true, BitVec.reduceToNat] at hg32'
          refine JR.ugt (g := 33) rfl rfl rfl rfl rfl hg32 (.move rfl) (by decide) ?_
          refine JR.ugt (g := 33) rfl rfl rfl rfl rfl hg32 (.nilCheck rfl) (by decide) ?_
          refine JR.ugt (g := 33) rfl rfl rfl rfl rfl hg32 (.fieldAddr fa_56_2 rfl) (by decide) ?_
          refine JR.vgt (g := 33) rfl rfl rfl rfl rfl hg32 (.ld one_54 rfl (hj := by first | exact isT_get _ (by omega) | exact agT_get _ (by omega) | rfl | exact tab_get (by first | omega | (simp; omega)) | exact gm (d := 0) (by first | omega | (simp; omega)))) (by decide) ?_
          refine JR.ugt (g := 33) rfl rfl rfl rfl rfl hg32 (.move rfl) (by decide) ?_
          refine JR.vgt (g := 33) rfl rfl rfl rfl rfl hg32 (.ix Tryd.underlying54 sz_31 rfl rfl) (by decide) ?_
          refine JR.vgt (g := 33) rfl rfl rfl rfl rfl hg32 (.as (v' := dgV ((g (i : Int)).getD D0)) (.lda agg_31 rfl) (congrArg (fun l : List Value => Value.agg l.toArray) (by first | (have h := vv_load (n := S.length) g (j := i) (by omega); exact h) | (rw [vv_load g (by omega)])))) (by decide) ?_
          refine JR.vgt (g := 33) rfl rfl rfl rfl rfl hg32 (.as (v' := dgV v) (.lda agg_31 rfl) rfl) (by decide) ?_
          refine JR.ugt (g := 33) rfl rfl rfl rfl rfl hg32 (.bin rfl rfl (eql_dig)) (by decide) ?_
          refine JR.u rfl rfl rfl (Yv.pick1 rfl hg32 rfl) (by decide) ?_
          refine .nil (.tn ?_)
          refine .cn rfl (fun hc3 => ?_) (fun hc3 => ?_)
          · have hgs : g ((i : Nat) : Int) = some v := by obtain ⟨u, hu⟩ := Option.isSome_iff_exists.1 hg32'; rw [hu] at hc3 ⊢; exact congrArg some hc3
            have hE : voteE S g i v = 13 := by rw [voteE, if_neg hc1, if_neg hc2, if_pos hgs]
            refine .seq (.region ?_)
            refine .w (.assign rfl) ?_
            refine .nil (.tn (.ret (.then_ret ?_)))
            exact .dn [] [Res.row iv S.length 4 1 (isT S.length g), Res.row vv S.length 31 32 (bks dgC (vvL S.length g)), Res.row av S.length 4 1 (agT S.length t)] (res1 rfl (.tmp rfl)) ⟨by rw [hE], rfl, by rw [hE]; rfl⟩
          · have hgn : ¬ g ((i : Nat) : Int) = some v := by first | (intro h; rw [h] at hc3; exact hc3 rfl) | (intro h; rw [h] at hg32'; cases hg32')
            refine .skip (.tn (.seq (.seq (.region ?_))))
            refine .w (.move rfl) ?_
            refine .w (.nilCheck rfl) ?_
            refine .w (.fieldAddr fa_56_1 rfl) ?_
            refine .w (.ld one_53 rfl (hj := by first | exact isT_get _ (by omega) | exact agT_get _ (by omega) | rfl | exact tab_get (by first | omega | (simp; omega)) | exact gm (d := 0) (by first | omega | (simp; omega)))) ?_
            refine .w (.move rfl) ?_
            refine .w (.ix1 Tryd.underlying53 sz_4 rfl rfl) ?_
            refine .w (.ld one_4 rfl (hj := by first | exact isT_get _ (by omega) | exact agT_get _ (by omega) | rfl | exact tab_get (by first | omega | (simp; omega)) | exact gm (d := 0) (by first | omega | (simp; omega)))) ?_
            refine .nil (.tn ?_)
            refine .cn rfl (fun hc4 => ?_) (fun hc4 => ?_)
            · have hE : voteE S g i v = 52 := by rw [voteE, if_neg hc1, if_neg hc2, if_neg hgn, if_pos hc4]
              refine .seq (.region ?_)
              refine .w (.move rfl) ?_
              refine .w (.nilCheck rfl) ?_
              refine .w (.fieldAddr fa_56_3 rfl) ?_
              refine .w (.ld one_53 rfl (hj := by first | exact isT_get _ (by omega) | exact agT_get _ (by omega) | rfl | exact tab_get (by first | omega | (simp; omega)) | exact gm (d := 0) (by first | omega | (simp; omega)))) ?_
              refine .w (.move rfl) ?_
              refine .w (.ix1 Tryd.underlying53 sz_4 rfl rfl) ?_
              first | refine .s1 sz_4 ?_ | refine .sr1 sz_4 ?_
              rw [agT_set]
              refine .nil (.tn (.seq (.region ?_)))
              refine .w (.assign rfl) ?_
              refine .nil (.tn (.ret (.then_ret ?_)))
              exact .dn [] [Res.row iv S.length 4 1 (isT S.length g), Res.row vv S.length 31 32 (bks dgC (vvL S.length g)), Res.row av S.length 4 1 (agT S.length (tput t i))] (res1 rfl (.tmp rfl)) ⟨by rw [hE], rfl, by rw [hE]; rfl⟩
            · have hE : voteE S g i v = 0 := by rw [voteE, if_neg hc1, if_neg hc2, if_neg hgn, if_neg (by rw [hc4]; decide)]
              refine .skip (.tn (.seq (.region ?_)))
              refine .w (.move rfl) ?_
              refine .w (.nilCheck rfl) ?_
              refine .w (.fieldAddr fa_56_1 rfl) ?_
              refine .w (.ld one_53 rfl (hj := by first | exact isT_get _ (by omega) | exact agT_get _ (by omega) | rfl | exact tab_get (by first | omega | (simp; omega)) | exact gm (d := 0) (by first | omega | (simp; omega)))) ?_
              refine .w (.move rfl) ?_
              refine .w (.ix1 Tryd.underlying53 sz_4 rfl rfl) ?_
              first | refine .s1 sz_4 ?_ | refine .sr1 sz_4 ?_
              rw [isT_set g v]
              refine .nil (.tn (.seq ?_))
              refine JC.draw (.one 0 (.one 1 (.one 2 (.one 3 (.one 4 (.one 5 (.one 6 (.one 7 .nil)))))))) (fun i => ([7] : List Nat).contains i) (fun i => ([7] : List Nat).contains i) (fun i => ([0, 1, 2, 4] : List Nat).contains i) mixed (by kernel_rfl) (by decide) (by kernel_rfl) ?_
              refine .uw rfl (.move rfl) ?_
              refine .uw rfl (.nilCheck rfl) ?_
              refine .uw rfl (.fieldAddr fa_56_2 rfl) ?_
              refine .w rfl (.ld one_54 rfl (hj := by first | exact isT_get _ (by omega) | exact agT_get _ (by omega) | rfl | exact tab_get (by first | omega | (simp; omega)) | exact gm (d := 0) (by first | omega | (simp; omega)))) ?_
              refine .uw rfl (.move rfl) ?_
              refine .w rfl (.as (v' := dgV v) (.lda agg_31 rfl) rfl) ?_
              refine .w rfl (.ix Tryd.underlying54 sz_31 rfl rfl) ?_
              refine .mw0 rfl (.sr sz_31) ?_
              rintro _ _ _ ⟨rfl, rfl⟩
              refine kp ?_
              rw [vv_store g v hil]
              refine .nil (.tn (.seq (.region ?_)))
              refine .w (.assign rfl) ?_
              refine .nil (.tn (.ret ?_))
              exact .dn [] [Res.row iv S.length 4 1 (isT S.length (gput g i v)), Res.row vv S.length 31 32 (bks dgC (vvL S.length (gput g i v))), Res.row av S.length 4 1 (agT S.length t)] (res1 rfl (.tmp rfl)) ⟨by rw [hE], rfl, by rw [hE]; rfl⟩
        · have hg32' := hg32
          try simp only [decide_eq_true_eq, decide_eq_false_iff_not, Bool.not_eq_true', Bool.not_eq_false', ne_eq, Decidable.not_not, Bool.not_eq_true, Bool.and_eq_true, Bool.or_eq_true, BitVec.reduceToNat] at hg32'
          refine JR.gf (g := 33) rfl rfl rfl rfl hg32 (by decide) ?_
          refine JR.gf (g := 33) rfl rfl rfl rfl hg32 (by decide) ?_
          refine JR.gf (g := 33) rfl rfl rfl rfl hg32 (by decide) ?_
          refine JR.gf (g := 33) rfl rfl rfl rfl hg32 (by decide) ?_
          refine JR.gf (g := 33) rfl rfl rfl rfl hg32 (by decide) ?_
          refine JR.gf (g := 33) rfl rfl rfl rfl hg32 (by decide) ?_
          refine JR.gf (g := 33) rfl rfl rfl rfl hg32 (by decide) ?_
          refine JR.gf (g := 33) rfl rfl rfl rfl hg32 (by decide) ?_
          refine JR.gf (g := 33) rfl rfl rfl rfl hg32 (by decide) ?_
          refine JR.u rfl rfl rfl (Yv.pick0 rfl hg32 rfl) (by decide) ?_
          refine .nil (.tn ?_)
          refine .k0 rfl rfl ?_
          have hgn : ¬ g ((i : Nat) : Int) = some v := by first | (intro h; rw [h] at hc3; exact hc3 rfl) | (intro h; rw [h] at hg32'; cases hg32')
          refine .skip (.tn (.seq (.seq (.region ?_))))
          refine .w (.move rfl) ?_
          refine .w (.nilCheck rfl) ?_
          refine .w (.fieldAddr fa_56_1 rfl) ?_
          refine .w (.ld one_53 rfl (hj := by first | exact isT_get _ (by omega) | exact agT_get _ (by omega) | rfl | exact tab_get (by first | omega | (simp; omega)) | exact gm (d := 0) (by first | omega | (simp; omega)))) ?_
          refine .w (.move rfl) ?_
          refine .w (.ix1 Tryd.underlying53 sz_4 rfl rfl) ?_
          refine .w (.ld one_4 rfl (hj := by first | exact isT_get _ (by omega) | exact agT_get _ (by omega) | rfl | exact tab_get (by first | omega | (simp; omega)) | exact gm (d := 0) (by first | omega | (simp; omega)))) ?_
          refine .nil (.tn ?_)
          refine .cn rfl (fun hc4 => ?_) (fun hc4 => ?_)
          · have hE : voteE S g i v = 52 := by rw [voteE, if_neg hc1, if_neg hc2, if_neg hgn, if_pos hc4]
            refine .seq (.region ?_)
            refine .w (.move rfl) ?_
            refine .w (.nilCheck rfl) ?_
            refine .w (.fieldAddr fa_56_3 rfl) ?_
            refine .w (.ld one_53 rfl (hj := by first | exact isT_get _ (by omega) | exact agT_get _ (by omega) | rfl | exact tab_get (by first | omega | (simp; omega)) | exact gm (d := 0) (by first | omega | (simp; omega)))) ?_
            refine .w (.move rfl) ?_
            refine .w (.ix1 Tryd.underlying53 sz_4 rfl rfl) ?_
            first | refine .s1 sz_4 ?_ | refine .sr1 sz_4 ?_
            rw [agT_set]
            refine .nil (.tn (.seq (.region ?_)))
            refine .w (.assign rfl) ?_
            refine .nil (.tn (.ret (.then_ret ?_)))
            exact .dn [] [Res.row iv S.length 4 1 (isT S.length g), Res.row vv S.length 31 32 (bks dgC (vvL S.length g)), Res.row av S.length 4 1 (agT S.length (tput t i))] (res1 rfl (.tmp rfl)) ⟨by rw [hE], rfl, by rw [hE]; rfl⟩
          · have hE : voteE S g i v = 0 := by rw [voteE, if_neg hc1, if_neg hc2, if_neg hgn, if_neg (by rw [hc4]; decide)]
            refine .skip (.tn (.seq (.region ?_)))
            refine .w (.move rfl) ?_
            refine .w (.nilCheck rfl) ?_
            refine .w (.fieldAddr fa_56_1 rfl) ?_
            refine .w (.ld one_53 rfl (hj := by first | exact isT_get _ (by omega) | exact agT_get _ (by omega) | rfl | exact tab_get (by first | omega | (simp; omega)) | exact gm (d := 0) (by first | omega | (simp; omega)))) ?_
            refine .w (.move rfl) ?_
            refine .w (.ix1 Tryd.underlying53 sz_4 rfl rfl) ?_
            first | refine .s1 sz_4 ?_ | refine .sr1 sz_4 ?_
            rw [isT_set g v]
            refine .nil (.tn (.seq ?_))
            refine JC.draw (.one 0 (.one 1 (.one 2 (.one 3 (.one 4 (.one 5 (.one 6 (.one 7 .nil)))))))) (fun i => ([7] : List Nat).contains i) (fun i => ([7] : List Nat).contains i) (fun i => ([0, 1, 2, 4] : List Nat).contains i) mixed (by kernel_rfl) (by decide) (by kernel_rfl) ?_
            refine .uw rfl (.move rfl) ?_
            refine .uw rfl (.nilCheck rfl) ?_
            refine .uw rfl (.fieldAddr fa_56_2 rfl) ?_
            refine .w rfl (.ld one_54 rfl (hj := by first | exact isT_get _ (by omega) | exact agT_get _ (by omega) | rfl | exact tab_get (by first | omega | (simp; omega)) | exact gm (d := 0) (by first | omega | (simp; omega)))) ?_
            refine .uw rfl (.move rfl) ?_
            refine .w rfl (.as (v' := dgV v) (.lda agg_31 rfl) rfl) ?_
            refine .w rfl (.ix Tryd.underlying54 sz_31 rfl rfl) ?_
            refine .mw0 rfl (.sr sz_31) ?_
            rintro _ _ _ ⟨rfl, rfl⟩
            refine kp ?_
            rw [vv_store g v hil]
            refine .nil (.tn (.seq (.region ?_)))
            refine .w (.assign rfl) ?_
            refine .nil (.tn (.ret ?_))
            exact .dn [] [Res.row iv S.length 4 1 (isT S.length (gput g i v)), Res.row vv S.length 31 32 (bks dgC (vvL S.length (gput g i v))), Res.row av S.length 4 1 (agT S.length t)] (res1 rfl (.tmp rfl)) ⟨by rw [hE], rfl, by rw [hE]; rfl⟩

theorem f26_spec (p : Nat) (sv iv vv av : Value) (S : List W64) (g : Int → Option D32) (v : D32) :
    Spec Tryd.prog 26 #[(ptr p 0), (dgV v)] [Res.cells p [sv, iv, vv, av] 56, Res.rd sv S.length 1 (S.map u64), Res.rd iv S.length 1 (isT S.length g), Res.rd vv S.length 32 (bks dgC (vvL S.length g))] []
      (fun r Γ' H' => r = (u64 (BitVec.ofNat 64 (forA S g v))) ∧ Γ' = [] ∧ H' = []) := by
  refine Spec.of_args Tryd.func26 rfl Tryd.ntmps26 (by simp) fun w => ?_
  refine JC.know (φ := S.length ≤ 9223372036854775807) (fun w hs => by obtain ⟨_, _, _, _, _, _, h⟩ := hs.rdForm (.tail _ (.head _)); unfold maxLen at h; omega) fun hln => ?_
  refine .seq (.region ?_)
  refine .bx fun b3 => ?_
  refine .w (.assign rfl) ?_
  refine .nil (.tn (.seq (.region ?_)))
  refine .w (.as (v' := u64 (BitVec.ofNat 64 (byTo S (fun i : Nat => decide (g (i : Int) = some v)) 0))) (.assign rfl) rfl) ?_
  refine .nil (.tn (.seq (.seq (.region ?_))))
  refine .w (.assign rfl) ?_
  refine .nil (.tn (.block ?_))
  refine .lp (ι := Nat) (fun x => x ≤ S.length) (fun T x => (5, u64 (BitVec.ofNat 64 (byTo S (fun i : Nat => decide (g (i : Int) = some v)) x))) :: (6, it (x : Int)) :: T) (fun T _ => T) (fun T _ => T) (fun x => S.length - x) 0 [0, 3, 4, 43] ?_ (fun x hx => ?_)
  · exact Nat.zero_le _
  refine .seq (.seq (.region ?_))
  refine .w (.move rfl) ?_
  refine .w (.move rfl) ?_
  refine .w (.nilCheck rfl) ?_
  refine .w (.fieldAddr fa_56_0 rfl) ?_
  refine .w (.ld one_22 rfl (hj := by first | exact isT_get _ (by omega) | exact agT_get _ (by omega) | rfl | exact tab_get (by first | omega | (simp; omega)) | exact gm (d := 0) (by first | omega | (simp; omega)))) ?_
  refine .w (.len Tryd.underlying22 rfl) ?_
  refine .w (.bin rfl rfl BinR.lss_i) ?_
  refine .nil (.tn ?_)
  refine .cn rfl (fun hc1 => ?_) (fun hc1 => ?_)
  · skip
    refine .skip (.tn (.seq (.block (.seq ?_))))
    refine JC.draw (.one 0 (.one 1 (.one 2 (.one 3 (.one 4 (.one 5 (.one 6 (.one 7 (.one 8 (.one 9 (.one 10 (.one 11 (.one 12 (.one 13 (.one 14 (.one 15 (.one 16 (.one 17 .nil)))))))))))))))))) (fun i => ([] : List Nat).contains i) (fun i => ([] : List Nat).contains i) (fun i => ([0, 1, 2, 4, 5, 7, 8, 9, 10, 12, 13, 16, 17] : List Nat).contains i) mixed (by kernel_rfl) (by decide) (by kernel_rfl) ?_
    refine .uw rfl (.move rfl) ?_
    refine .uw rfl (.nilCheck rfl) ?_
    refine .uw rfl (.fieldAddr fa_56_1 rfl) ?_
    refine .w rfl (.ld one_53 rfl (hj := by first | exact isT_get _ (by omega) | exact agT_get _ (by omega) | rfl | exact tab_get (by first | omega | (simp; omega)) | exact gm (d := 0) (by first | omega | (simp; omega)))) ?_
    refine .uw rfl (.move rfl) ?_
    refine .uw rfl (.ix1 Tryd.underlying53 sz_4 rfl rfl) ?_
    refine .w rfl (.ld one_4 rfl (hj := by first | exact isT_get _ (by omega) | exact agT_get _ (by omega) | rfl | exact tab_get (by first | omega | (simp; omega)) | exact gm (d := 0) (by first | omega | (simp; omega)))) ?_
    refine .uw rfl (.move rfl) ?_
    refine JR.gsplit (g := 22) rfl (fun hg20 => ?_) (fun hg20 => ?_)
    · have hg20' := hg20
      try simp only [decide_eq_true_eq, decide_eq_false_iff_not, Bool.not_eq_true', Bool.not_eq_false', ne_eq, Decidable.not_not, Bool.not_eq_true, Bool.and_eq_true, Bool.or_eq_true, BitVec.reduceToNat] at hg20'
      refine JR.ugt (g := 23) rfl rfl rfl rfl rfl hg20 (.move rfl) (by decide) ?_
      refine JR.ugt (g := 23) rfl rfl rfl rfl rfl hg20 (.nilCheck rfl) (by decide) ?_
      refine JR.ugt (g := 23) rfl rfl rfl rfl rfl hg20 (.fieldAddr fa_56_2 rfl) (by decide) ?_
      refine JR.vgt (g := 23) rfl rfl rfl rfl rfl hg20 (.ld one_54 rfl (hj := by first | exact isT_get _ (by omega) | exact agT_get _ (by omega) | rfl | exact tab_get (by first | omega | (simp; omega)) | exact gm (d := 0) (by first | omega | (simp; omega)))) (by decide) ?_
      refine JR.ugt (g := 23) rfl rfl rfl rfl rfl hg20 (.move rfl) (by decide) ?_
      refine JR.ugt (g := 23) rfl rfl rfl rfl rfl hg20 (.ix Tryd.underlying54 sz_31 rfl rfl) (by decide) ?_
      refine JR.vgt (g := 23) rfl rfl rfl rfl rfl hg20 (.as (v' := dgV ((g (x : Int)).getD D0)) (.lda agg_31 rfl) (congrArg (fun l : List Value => Value.agg l.toArray) (by first | (have h := vv_load (n := S.length) g (j := x) (by omega); exact h) | (rw [vv_load g (by omega)])))) (by decide) ?_
      refine JR.vgt (g := 23) rfl rfl rfl rfl rfl hg20 (.as (v' := dgV v) (.lda agg_31 rfl) rfl) (by decide) ?_
      refine JR.ugt (g := 23) rfl rfl rfl rfl rfl hg20 (.bin rfl rfl (eql_dig)) (by decide) ?_
      refine JR.u rfl rfl rfl (Yv.pick1 rfl hg20 rfl) (by decide) ?_
      refine .nil (.tn ?_)
      refine .cn rfl (fun hc2 => ?_) (fun hc2 => ?_)
      · have hgs : g ((x : Nat) : Int) = some v := by obtain ⟨u, hu⟩ := Option.isSome_iff_exists.1 hg20'; rw [hu] at hc2 ⊢; exact congrArg some hc2
        refine .region ?_
        refine .w (.move rfl) ?_
        refine .w (.move rfl) ?_
        refine .w (.nilCheck rfl) ?_
        refine .w (.fieldAddr fa_56_0 rfl) ?_
        refine .w (.ld one_22 rfl (hj := by first | exact isT_get _ (by omega) | exact agT_get _ (by omega) | rfl | exact tab_get (by first | omega | (simp; omega)) | exact gm (d := 0) (by first | omega | (simp; omega)))) ?_
        refine .w (.move rfl) ?_
        refine .w (.ix1 Tryd.underlying22 sz_34 rfl rfl) ?_
        refine .w (.ld one_34 rfl (hj := by first | exact isT_get _ (by omega) | exact agT_get _ (by omega) | rfl | exact tab_get (by first | omega | (simp; omega)) | exact gm (d := 0) (by first | omega | (simp; omega)))) ?_
        refine .w (.as (v' := u64 (BitVec.ofNat 64 (byTo S (fun i : Nat => decide (g (i : Int) = some v)) (x + 1)))) (.bin rfl rfl (BinR.add_u64)) (congrArg u64 (byTo_u64 S (fun i : Nat => decide (g (i : Int) = some v)) x (decide_eq_true hgs)))) ?_
        refine .w (.assign rfl) ?_
        refine .nil (.block_normal (.tn (.region ?_)))
        refine .w (.move rfl) ?_
        refine .w (.asI ((x + 1 : Nat) : Int) (.bin rfl rfl (BinR.add_i (by first | (constructor <;> omega) | (constructor <;> simp <;> omega))))) ?_
        refine .w (.assign rfl) ?_
        refine .nil ?_
        refine .hd (x + 1) ?_
        exact ⟨by omega, by omega⟩
      · have hgn : ¬ g ((x : Nat) : Int) = some v := by intro h; rw [h] at hc2; exact hc2 rfl
        rw [byTo_skip S (fun i : Nat => decide (g (i : Int) = some v)) x (decide_eq_false hgn)]
        refine .skip (.block_normal (.tn (.region ?_)))
        refine .w (.move rfl) ?_
        refine .w (.asI ((x + 1 : Nat) : Int) (.bin rfl rfl (BinR.add_i (by first | (constructor <;> omega) | (constructor <;> simp <;> omega))))) ?_
        refine .w (.assign rfl) ?_
        refine .nil ?_
        refine .hd (x + 1) ?_
        exact ⟨by omega, by omega⟩
    · have hg20' := hg20
      try simp only [decide_eq_true_eq, decide_eq_false_iff_not, Bool.not_eq_true', Bool.not_eq_false', ne_eq, Decidable.not_not, Bool.not_eq_true, Bool.and_eq_true, Bool.or_eq_true, BitVec.reduceToNat] at hg20'
      refine JR.gf (g := 23) rfl rfl rfl rfl hg20 (by decide) ?_
      refine JR.gf (g := 23) rfl rfl rfl rfl hg20 (by decide) ?_
      refine JR.gf (g := 23) rfl rfl rfl rfl hg20 (by decide) ?_
      refine JR.gf (g := 23) rfl rfl rfl rfl hg20 (by decide) ?_
      refine JR.gf (g := 23) rfl rfl rfl rfl hg20 (by decide) ?_
      refine JR.gf (g := 23) rfl rfl rfl rfl hg20 (by decide) ?_
      refine JR.gf (g := 23) rfl rfl rfl rfl hg20 (by decide) ?_
      refine JR.gf (g := 23) rfl rfl rfl rfl hg20 (by decide) ?_
      refine JR.gf (g := 23) rfl rfl rfl rfl hg20 (by decide) ?_
      refine JR.u rfl rfl rfl (Yv.pick0 rfl hg20 rfl) (by decide) ?_
      refine .nil (.tn ?_)
      refine .k0 rfl rfl ?_
      have hgn : ¬ g ((x : Nat) : Int) = some v := by intro h; rw [h] at hg20'; cases hg20'
      rw [byTo_skip S (fun i : Nat => decide (g (i : Int) = some v)) x (decide_eq_false hgn)]
      refine .skip (.block_normal (.tn (.region ?_)))
      refine .w (.move rfl) ?_
      refine .w (.asI ((x + 1 : Nat) : Int) (.bin rfl rfl (BinR.add_i (by first | (constructor <;> omega) | (constructor <;> simp <;> omega))))) ?_
      refine .w (.assign rfl) ?_
      refine .nil ?_
      refine .hd (x + 1) ?_
      exact ⟨by omega, by omega⟩
  · obtain rfl : x = S.length := by omega
    rw [byTo_len]
    refine .exit (.then_exit (.then_exit (.block_exit (.tn (.seq (.region ?_))))))
    refine .w (.move rfl) ?_
    refine .w (.assign rfl) ?_
    refine .nil (.tn (.ret ?_))
    exact .dn [] [] (res1 rfl (.tmp rfl)) ⟨rfl, rfl, rfl⟩

theorem f27_spec (p : Nat) (sv iv vv av : Value) (S : List W64) (g : Int → Option D32) :
    Spec Tryd.prog 27 #[(ptr p 0)] [Res.cells p [sv, iv, vv, av] 56, Res.rd sv S.length 1 (S.map u64), Res.rd iv S.length 1 (isT S.length g), Res.rd vv S.length 32 (bks dgC (vvL S.length g))] []
      (fun r Γ' H' => r = (u64 (BitVec.ofNat 64 (anyA S g))) ∧ Γ' = [] ∧ H' = []) := by
  refine Spec.of_args Tryd.func27 rfl Tryd.ntmps27 (by simp) fun w => ?_
  refine JC.know (φ := S.length ≤ 9223372036854775807) (fun w hs => by obtain ⟨_, _, _, _, _, _, h⟩ := hs.rdForm (.tail _ (.head _)); unfold maxLen at h; omega) fun hln => ?_
  refine .seq (.region ?_)
  refine .w (.assign rfl) ?_
  refine .nil (.tn (.seq (.region ?_)))
  refine .w (.as (v' := u64 (BitVec.ofNat 64 (byTo S (fun i : Nat => (g (i : Int)).isSome) 0))) (.assign rfl) rfl) ?_
  refine .nil (.tn (.seq (.seq (.region ?_))))
  refine .w (.assign rfl) ?_
  refine .nil (.tn (.block ?_))
  refine .lp (ι := Nat) (fun x => x ≤ S.length) (fun T x => (3, u64 (BitVec.ofNat 64 (byTo S (fun i : Nat => (g (i : Int)).isSome) x))) :: (4, it (x : Int)) :: T) (fun T _ => T) (fun T _ => T) (fun x => S.length - x) 0 [0, 2, 30] ?_ (fun x hx => ?_)
  · exact Nat.zero_le _
  refine .seq (.seq (.region ?_))
  refine .w (.move rfl) ?_
  refine .w (.move rfl) ?_
  refine .w (.nilCheck rfl) ?_
  refine .w (.fieldAddr fa_56_0 rfl) ?_
  refine .w (.ld one_22 rfl (hj := by first | exact isT_get _ (by omega) | exact agT_get _ (by omega) | rfl | exact tab_get (by first | omega | (simp; omega)) | exact gm (d := 0) (by first | omega | (simp; omega)))) ?_
  refine .w (.len Tryd.underlying22 rfl) ?_
  refine .w (.bin rfl rfl BinR.lss_i) ?_
  refine .nil (.tn ?_)
  refine .cn rfl (fun hc1 => ?_) (fun hc1 => ?_)
  · skip
    refine .skip (.tn (.seq (.block (.seq (.region ?_)))))
    refine .w (.move rfl) ?_
    refine .w (.nilCheck rfl) ?_
    refine .w (.fieldAddr fa_56_1 rfl) ?_
    refine .w (.ld one_53 rfl (hj := by first | exact isT_get _ (by omega) | exact agT_get _ (by omega) | rfl | exact tab_get (by first | omega | (simp; omega)) | exact gm (d := 0) (by first | omega | (simp; omega)))) ?_
    refine .w (.move rfl) ?_
    refine .w (.ix1 Tryd.underlying53 sz_4 rfl rfl) ?_
    refine .w (.ld one_4 rfl (hj := by first | exact isT_get _ (by omega) | exact agT_get _ (by omega) | rfl | exact tab_get (by first | omega | (simp; omega)) | exact gm (d := 0) (by first | omega | (simp; omega)))) ?_
    refine .nil (.tn ?_)
    refine .cn rfl (fun hc2 => ?_) (fun hc2 => ?_)
    · skip
      refine .region ?_
      refine .w (.move rfl) ?_
      refine .w (.move rfl) ?_
      refine .w (.nilCheck rfl) ?_
      refine .w (.fieldAddr fa_56_0 rfl) ?_
      refine .w (.ld one_22 rfl (hj := by first | exact isT_get _ (by omega) | exact agT_get _ (by omega) | rfl | exact tab_get (by first | omega | (simp; omega)) | exact gm (d := 0) (by first | omega | (simp; omega)))) ?_
      refine .w (.move rfl) ?_
      refine .w (.ix1 Tryd.underlying22 sz_34 rfl rfl) ?_
      refine .w (.ld one_34 rfl (hj := by first | exact isT_get _ (by omega) | exact agT_get _ (by omega) | rfl | exact tab_get (by first | omega | (simp; omega)) | exact gm (d := 0) (by first | omega | (simp; omega)))) ?_
      refine .w (.as (v' := u64 (BitVec.ofNat 64 (byTo S (fun i : Nat => (g (i : Int)).isSome) (x + 1)))) (.bin rfl rfl (BinR.add_u64)) (congrArg u64 (byTo_u64 S (fun i : Nat => (g (i : Int)).isSome) x hc2))) ?_
      refine .w (.assign rfl) ?_
      refine .nil (.block_normal (.tn (.region ?_)))
      refine .w (.move rfl) ?_
      refine .w (.asI ((x + 1 : Nat) : Int) (.bin rfl rfl (BinR.add_i (by first | (constructor <;> omega) | (constructor <;> simp <;> omega))))) ?_
      refine .w (.assign rfl) ?_
      refine .nil ?_
      refine .hd (x + 1) ?_
      exact ⟨by omega, by omega⟩
    · rw [byTo_skip S (fun i : Nat => (g (i : Int)).isSome) x hc2]
      refine .skip (.block_normal (.tn (.region ?_)))
      refine .w (.move rfl) ?_
      refine .w (.asI ((x + 1 : Nat) : Int) (.bin rfl rfl (BinR.add_i (by first | (constructor <;> omega) | (constructor <;> simp <;> omega))))) ?_
      refine .w (.assign rfl) ?_
      refine .nil ?_
      refine .hd (x + 1) ?_
      exact ⟨by omega, by omega⟩
  · obtain rfl : x = S.length := by omega
    rw [byTo_len]
    refine .exit (.then_exit (.then_exit (.block_exit (.tn (.seq (.region ?_))))))
    refine .w (.move rfl) ?_
    refine .w (.assign rfl) ?_
    refine .nil (.tn (.ret ?_))
    exact .dn [] [] (res1 rfl (.tmp rfl)) ⟨rfl, rfl, rfl⟩

theorem f25_spec (p : Nat) (sv iv vv av : Value) (S : List W64) (g : Int → Option D32) (hS : sumS S < 18446744073709551616) :
    Spec Tryd.prog 25 #[(ptr p 0)] [Res.cells p [sv, iv, vv, av] 56, Res.rd sv S.length 1 (S.map u64), Res.rd iv S.length 1 (isT S.length g), Res.rd vv S.length 32 (bks dgC (vvL S.length g))] []
      (fun r Γ' H' => ∃ o : Option D32, QuoR S g o ∧ r = .tuple #[dgV (o.getD D0), .bool o.isSome] ∧ Γ' = [] ∧ H' = []) := by
  refine Spec.of_args Tryd.func25 rfl Tryd.ntmps25 (by simp) fun w => ?_
  refine JC.know (φ := S.length ≤ 9223372036854775807) (fun w hs => by obtain ⟨_, _, _, _, _, _, h⟩ := hs.rdForm (.tail _ (.head _)); unfold maxLen at h; omega) fun hln => ?_
  refine .seq (.region ?_)
  refine .al zero_31 fun b2 => ?_
  refine .w (.assign rfl) ?_
  refine .nil (.tn (.seq (.region ?_)))
  refine .w (.move rfl) ?_
  refine .w (.nilCheck rfl) ?_
  refine .w (.fieldAddr fa_56_0 rfl) ?_
  refine .w (.ld one_22 rfl) ?_
  refine .c (f17_spec sv S) body_17 ?_
  refine .w (.assign rfl) ?_
  refine .nil (.tn (.seq (.seq (.region ?_))))
  refine .w (.assign rfl) ?_
  refine .nil (.tn (.block ?_))
  refine .lp (ι := Nat) (fun x => x ≤ S.length ∧ ∀ j : Nat, j < x → ∀ v, g (j : Int) = some v → ¬ Quo S g v) (fun T x => (5, it (x : Int)) :: T) (fun T _ => T) (fun T _ => T) (fun x => S.length - x) 0 [0, 2, 4, 47] ?_ (fun x hx => ?_)
  · exact ⟨Nat.zero_le _, fun j hj => absurd hj (Nat.not_lt_zero _)⟩
  obtain ⟨hx, hno⟩ := hx
  refine .seq (.seq (.region ?_))
  refine .w (.move rfl) ?_
  refine .w (.move rfl) ?_
  refine .w (.nilCheck rfl) ?_
  refine .w (.fieldAddr fa_56_0 rfl) ?_
  refine .w (.ld one_22 rfl) ?_
  refine .w (.len Tryd.underlying22 rfl) ?_
  refine .w (.bin rfl rfl BinR.lss_i) ?_
  refine .nil (.tn ?_)
  refine .cn rfl (fun hc1 => ?_) (fun hc1 => ?_)
  · skip
    refine .skip (.tn (.seq (.block (.seq (.region ?_)))))
    refine .w (.move rfl) ?_
    refine .w (.nilCheck rfl) ?_
    refine .w (.fieldAddr fa_56_1 rfl) ?_
    refine .w (.ld one_53 rfl) ?_
    refine .w (.move rfl) ?_
    refine .w (.ix1 Tryd.underlying53 sz_4 rfl rfl) ?_
    refine .w (.ld one_4 rfl (hj := by exact isT_get _ (by omega))) ?_
    refine .w (.move rfl) ?_
    refine .join 12 39 (.bool (quoB S g (g (x : Int)))) ?_ ?_
    · refine .gn (g := 26) rfl (fun hg25 hg25' => ?_) (fun hg25 hg25' => ?_)
      · refine .gt (g := 27) rfl rfl hg25 ?_
        refine .w (.move rfl) ?_
        refine .gt (g := 27) rfl rfl hg25 ?_
        refine .w (.move rfl) ?_
        refine .gt (g := 27) rfl rfl hg25 ?_
        refine .w (.nilCheck rfl) ?_
        refine .gt (g := 27) rfl rfl hg25 ?_
        refine .w (.fieldAddr fa_56_2 rfl) ?_
        refine .gt (g := 27) rfl rfl hg25 ?_
        refine .w (.ld one_54 rfl) ?_
        refine .gt (g := 27) rfl rfl hg25 ?_
        refine .w (.move rfl) ?_
        refine .gt (g := 27) rfl rfl hg25 ?_
        refine .w (.ix Tryd.underlying54 sz_31 rfl rfl) ?_
        refine .gt (g := 27) rfl rfl hg25 ?_
        refine .w (.as (v' := dgV ((g (x : Int)).getD D0)) (.lda agg_31 rfl) (congrArg (fun l : List Value => Value.agg l.toArray) (by first | (have h := vv_load (n := S.length) g (j := x) (by omega); exact h) | (rw [vv_load g (by omega)])))) ?_
        refine .gt (g := 27) rfl rfl hg25 ?_
        refine .c (f26_spec p sv iv vv av S g ((g (x : Int)).getD D0)) body_26 ?_
        refine .gt (g := 27) rfl rfl hg25 ?_
        refine .w (.move rfl) ?_
        refine .gt (g := 27) rfl rfl hg25 ?_
        refine .c (f21_spec (BitVec.ofNat 64 (forA S g ((g (x : Int)).getD D0))) S.sum) body_21 ?_
        rw [quo_in hS]
        refine .w (.pick1 rfl hg25 rfl) ?_
        refine .nil ?_
        refine .head () (by first | (refine ⟨by first | rfl | exact congrArg some (congrArg Value.bool (by first | exact quo_yes hg25' | exact quo_not hg25')), ?_⟩; repeat (first | exact trivial | refine ⟨rfl, ?_⟩))) (fun _ h => h) (Picks.perm (by repeat (first | exact Picks.nil _ | apply Picks.cons | exact Pull.here _ _ | apply Pull.there))) ?_
        trivial
      · refine .gf (g := 27) rfl rfl hg25 (by decide) ?_
        refine .gf (g := 27) rfl rfl hg25 (by decide) ?_
        refine .gf (g := 27) rfl rfl hg25 (by decide) ?_
        refine .gf (g := 27) rfl rfl hg25 (by decide) ?_
        refine .gf (g := 27) rfl rfl hg25 (by decide) ?_
        refine .gf (g := 27) rfl rfl hg25 (by decide) ?_
        refine .gf (g := 27) rfl rfl hg25 (by decide) ?_
        refine .gf (g := 27) rfl rfl hg25 (by decide) ?_
        refine .gf (g := 27) rfl rfl hg25 (by decide) ?_
        refine .gf (g := 27) rfl rfl hg25 (by decide) ?_
        refine .gf (g := 27) rfl rfl hg25 (by decide) ?_
        refine .w (.pick0 rfl hg25 rfl) ?_
        refine .nil ?_
        refine .head () (by first | (refine ⟨by first | rfl | exact congrArg some (congrArg Value.bool (by first | exact quo_yes hg25' | exact quo_not hg25')), ?_⟩; repeat (first | exact trivial | refine ⟨rfl, ?_⟩))) (fun _ h => h) (Picks.perm (by repeat (first | exact Picks.nil _ | apply Picks.cons | exact Pull.here _ _ | apply Pull.there))) ?_
        trivial
    · refine .nil (.tn ?_)
      refine .cn rfl (fun hc2 => ?_) (fun hc2 => ?_)
      · obtain ⟨v, hgv, hq⟩ := quoB_t hc2
        refine .seq (.region ?_)
        refine .w (.move rfl) ?_
        refine .w (.nilCheck rfl) ?_
        refine .w (.fieldAddr fa_56_2 rfl) ?_
        refine .w (.ld one_54 rfl) ?_
        refine .w (.move rfl) ?_
        refine .w (.ix Tryd.underlying54 sz_31 rfl rfl) ?_
        refine .w (.as (v' := dgV v) (.lda agg_31 rfl) (by have h := vv_load (n := S.length) g (j := x) (by omega); rw [hgv] at h; exact congrArg (fun l : List Value => Value.agg l.toArray) h)) ?_
        first | refine .sa sz_31 ?_ | refine .so sz_31 ?_ | refine .sr sz_31 ?_
        refine .w (.assign rfl) ?_
        refine .nil (.tn (.ret (.block_ret (.then_ret (.then_ret (.block_ret (.then_ret ?_)))))))
        exact .dn [] [] (res2 rfl (.cl agg_31) (.tmp rfl)) ⟨some v, hq, by rfl, rfl, rfl⟩
      · have hnx : ∀ v, g (x : Int) = some v → ¬ Quo S g v := fun v h1 => quoB_f hc2 h1
        refine .skip (.block_normal (.tn (.region ?_)))
        refine .w (.move rfl) ?_
        refine .w (.bin rfl rfl (BinR.add_i (by first | (constructor <;> omega) | (constructor <;> simp <;> omega)))) ?_
        refine .w (.asI ((x + 1 : Nat) : Int) (.assign rfl)) ?_
        refine .nil ?_
        refine .hd (x + 1) ?_
        exact ⟨⟨by omega, fun j h => by
          rcases Nat.lt_succ_iff_lt_or_eq.1 h with h | h
          · exact hno j h
          · subst h; exact fun v hv hq => hnx v hv hq⟩, by omega⟩
  · have hq : QuoR S g none := quo_first (fun j hj => hno j (by omega))
    refine .exit (.then_exit (.then_exit (.block_exit (.tn (.seq (.region ?_))))))
    refine .w (.as (v' := dgV D0) (.build bld_31 rfl rfl) rfl) ?_
    first | refine .sa sz_31 ?_ | refine .so sz_31 ?_ | refine .sr sz_31 ?_
    refine .w (.assign rfl) ?_
    refine .nil (.tn (.ret ?_))
    exact .dn [] [] (res2 rfl (.cl agg_31) (.tmp rfl)) ⟨none, hq, rfl, rfl, rfl⟩

theorem f29_spec (p : Nat) (sv iv vv av : Value) (S : List W64) (t : Int → Bool) (hl : S.length ≤ 1000000) :
    Spec Tryd.prog 29 #[(ptr p 0)] [Res.cells p [sv, iv, vv, av] 56, Res.rd sv S.length 1 (S.map u64), Res.rd av S.length 1 (agT S.length t)] []
      (fun r Γ' H' => True ∧ Γ' = [] ∧ H' = [Res.row r (twL t S.length).length 3 1 ((twL t S.length).map it)]) := by
  refine Spec.of_args Tryd.func29 rfl Tryd.ntmps29 (by simp) fun w => ?_
  refine .seq (.region ?_)
  refine .w (.assign rfl) ?_
  refine .nil (.tn (.seq (.region ?_)))
  refine .w (.assign rfl) ?_
  refine .nil (.tn (.seq (.seq (.region ?_))))
  refine .nilRow 3 1 ?_
  refine .w (.assign rfl) ?_
  refine .nil (.tn (.block ?_))
  refine .lp (ι := Nat × Value) (fun x => x.1 ≤ S.length) (fun T x => (3, x.2) :: (4, it (x.1 : Int)) :: T) (fun T _ => T) (fun T x => Res.row x.2 (twL t x.1).length 3 1 ((twL t x.1).map it) :: T) (fun x => S.length - x.1) (0, .slice none 0 0) [0, 2, 25] ?_ (fun x hx => ?_)
  · exact Nat.zero_le _
  obtain ⟨k, w⟩ := x
  have hk := hx
  dsimp only at hk ⊢
  have htl := twL_len t k
  refine .seq (.seq (.region ?_))
  refine .w (.move rfl) ?_
  refine .w (.move rfl) ?_
  refine .w (.nilCheck rfl) ?_
  refine .w (.fieldAddr fa_56_0 rfl) ?_
  refine .w (.ld one_22 rfl (hj := by first | exact isT_get _ (by omega) | exact agT_get _ (by omega) | rfl | exact tab_get (by first | omega | (simp; omega)) | exact gm (d := 0) (by first | omega | (simp; omega)))) ?_
  refine .w (.len Tryd.underlying22 rfl) ?_
  refine .w (.bin rfl rfl BinR.lss_i) ?_
  refine .nil (.tn ?_)
  refine .cn rfl (fun hc1 => ?_) (fun hc1 => ?_)
  · skip
    refine .skip (.tn (.seq (.block (.seq (.region ?_)))))
    refine .w (.move rfl) ?_
    refine .w (.nilCheck rfl) ?_
    refine .w (.fieldAddr fa_56_3 rfl) ?_
    refine .w (.ld one_53 rfl (hj := by first | exact isT_get _ (by omega) | exact agT_get _ (by omega) | rfl | exact tab_get (by first | omega | (simp; omega)) | exact gm (d := 0) (by first | omega | (simp; omega)))) ?_
    refine .w (.move rfl) ?_
    refine .w (.ix1 Tryd.underlying53 sz_4 rfl rfl) ?_
    refine .w (.ld one_4 rfl (hj := by first | exact isT_get _ (by omega) | exact agT_get _ (by omega) | rfl | exact tab_get (by first | omega | (simp; omega)) | exact gm (d := 0) (by first | omega | (simp; omega)))) ?_
    refine .nil (.tn ?_)
    refine .cn rfl (fun hc2 => ?_) (fun hc2 => ?_)
    · have hts : twL t (k + 1) = twL t k ++ [(k : Int)] := by rw [twL_succ, if_pos hc2]
      refine .region ?_
      refine .w (.move rfl) ?_
      refine .w (.move rfl) ?_
      refine .l1 Tryd.underlying37 info_3 (fun v23 => ?_)
      refine .ap Tryd.underlying37 info_3 (fun v24 => ?_)
      rw [show (twL t k).map it ++ [it (k : Int)] = (twL t (k + 1)).map it from by rw [hts]; simp, show (twL t k).length + 1 = (twL t (k + 1)).length from by rw [hts]; simp]
      refine .w (.assign rfl) ?_
      refine .nil (.block_normal (.tn (.region ?_)))
      refine .w (.move rfl) ?_
      refine .w (.asI ((k + 1 : Nat) : Int) (.bin rfl rfl (BinR.add_i (by first | (constructor <;> omega) | (constructor <;> simp <;> omega))))) ?_
      refine .w (.assign rfl) ?_
      refine .nil ?_
      first | refine .hd (k + 1, v24) ?_ | refine .hd (k + 1, w) ?_
      exact ⟨by dsimp only; omega, by dsimp only; omega⟩
    · rw [show twL t k = twL t (k + 1) from by rw [twL_succ, if_neg (by rw [hc2]; decide), List.append_nil]]
      refine .skip (.block_normal (.tn (.region ?_)))
      refine .w (.move rfl) ?_
      refine .w (.asI ((k + 1 : Nat) : Int) (.bin rfl rfl (BinR.add_i (by first | (constructor <;> omega) | (constructor <;> simp <;> omega))))) ?_
      refine .w (.assign rfl) ?_
      refine .nil ?_
      first | refine .hd (k + 1, v24) ?_ | refine .hd (k + 1, w) ?_
      exact ⟨by dsimp only; omega, by dsimp only; omega⟩
  · have hke : k = S.length := by omega
    subst hke
    refine .exit (.then_exit (.then_exit (.block_exit (.tn (.seq (.region ?_))))))
    refine .w (.move rfl) ?_
    refine .w (.assign rfl) ?_
    refine .nil (.tn (.ret ?_))
    exact .dn [] [Res.row _ (twL t S.length).length 3 1 ((twL t S.length).map it)] (res1 rfl (.tmp rfl)) ⟨trivial, rfl, rfl⟩
end Go.Proofs.YtmbpngnamnoiaaaDoor
