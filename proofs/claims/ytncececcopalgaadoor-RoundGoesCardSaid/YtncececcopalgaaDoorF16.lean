/- Walks: made. -/
import Derived.Test.YtncececcopalgaaDoorF5
namespace Go.Proofs.YtncececcopalgaaDoor
open Go.RowKit
set_option maxRecDepth 100000
set_option linter.unusedVariables false
set_option linter.unusedSimpArgs false
theorem f9no_spec (u : Value) (S : List W64) (me sh : Int) (own : D32) (hbad : newE S ≠ 0) :
    Spec Tryd.prog 9 #[u, (it me), (it sh), (dgV own)] [Res.var 0 [u64 9223372036854775808, u64 0, u64 0, u64 0], Res.rd u S.length 1 (S.map u64)] []
      (fun r Γ' H' => r = (.tuple #[.pointer none, it (newE S)]) ∧ Γ' = [] ∧ H' = []) := by
  refine Spec.of_args Tryd.func9 rfl Tryd.ntmps9 (by simp) fun w => ?_
  refine JC.know (φ := S.length ≤ 9223372036854775807) (fun w hs => by obtain ⟨_, _, _, _, _, _, h⟩ := hs.rdForm (.tail _ (.head _)); unfold maxLen at h; omega) fun hln => ?_
  refine .seq (.region ?_)
  refine .bx fun b7 => ?_
  refine .w (.assign rfl) ?_
  refine .w (.assign rfl) ?_
  refine .nil (.tn (.seq (.seq (.region ?_))))
  refine .w (.move rfl) ?_
  refine .c (f25no_spec u S hbad) body_25 ?_
  refine .w (.move rfl) ?_
  refine .w (.extract rfl rfl) ?_
  refine .w (.extract rfl rfl) ?_
  refine .w (.assign rfl) ?_
  refine .w (.assign rfl) ?_
  refine .nil (.tn (.seq (.region ?_)))
  refine .w (.move rfl) ?_
  refine .w (.bin rfl rfl BinR.neq_i) ?_
  refine .nil (.tn ?_)
  refine .cn rfl (fun hc1 => ?_) (fun hc1 => ?_)
  · skip
    refine .seq (.region ?_)
    refine .w (.move rfl) ?_
    refine .w (.assign rfl) ?_
    refine .w (.assign rfl) ?_
    refine .nil (.tn (.ret (.then_ret ?_)))
    exact .dn [] [] (res2 rfl (.tmp rfl) (.tmp rfl)) ⟨rfl, rfl, rfl⟩
  · exact absurd hc1 hbad

theorem f9bad_spec (u : Value) (S : List W64) (me sh : Int) (own : D32) (hl1 : 1 ≤ S.length) (hl2 : S.length ≤ 40) (hsum : sumS S < 9223372036854775808) (hq : (me < 0 ∨ (S.length : Int) ≤ me ∨ sh < 0 ∨ own = D0)) :
    Spec Tryd.prog 9 #[u, (it me), (it sh), (dgV own)] [Res.var 0 [u64 9223372036854775808, u64 0, u64 0, u64 0], Res.rd u S.length 1 (S.map u64)] []
      (fun r Γ' H' => r = (.tuple #[.pointer none, it 1]) ∧ Γ' = [] ∧ H' = []) := by
  refine Spec.of_args Tryd.func9 rfl Tryd.ntmps9 (by simp) fun w => ?_
  refine JC.know (φ := S.length ≤ 9223372036854775807) (fun w hs => by obtain ⟨_, _, _, _, _, _, h⟩ := hs.rdForm (.tail _ (.head _)); unfold maxLen at h; omega) fun hln => ?_
  refine .seq (.region ?_)
  refine .bx fun b7 => ?_
  refine .w (.assign rfl) ?_
  refine .w (.assign rfl) ?_
  refine .nil (.tn (.seq (.seq (.region ?_))))
  refine .w (.move rfl) ?_
  refine .cb (f25ok_spec u S hl1 hl2 hsum) body_25 ?_ (h0 := by rintro _ _ _ ⟨_, _, _, _, _, h, _⟩; exact h)
  rintro _ _ ⟨q, a, b, tv, rfl, _, rfl⟩
  refine .ap ?_
  refine .w (.move rfl) ?_
  refine .w (.extract rfl rfl) ?_
  refine .w (.extract rfl rfl) ?_
  refine .w (.assign rfl) ?_
  refine .w (.assign rfl) ?_
  refine .nil (.tn (.seq (.region ?_)))
  refine .w (.move rfl) ?_
  refine .w (.bin rfl rfl BinR.neq_i) ?_
  refine .nil (.tn ?_)
  refine .cf rfl ?_
  refine .skip (.tn (.seq (.seq (.region ?_))))
  refine .w (.move rfl) ?_
  refine .w (.bin rfl rfl BinR.lss_i) ?_
  refine .w (.move rfl) ?_
  refine .join 14 37 (.bool (decide (me < 0 ∨ (S.length : Int) ≤ me ∨ sh < 0 ∨ own = D0))) ?_ ?_
  · refine .gn (g := 22) rfl (fun hg19 hg19' => ?_) (fun hg19 hg19' => ?_)
    · refine .gf (g := 23) rfl rfl hg19 (by decide) ?_
      refine .gf (g := 23) rfl rfl hg19 (by decide) ?_
      refine .gf (g := 23) rfl rfl hg19 (by decide) ?_
      refine .gf (g := 23) rfl rfl hg19 (by decide) ?_
      refine .w (.pick1 rfl hg19 rfl) ?_
      refine .w (.move rfl) ?_
      refine .gf (g := 29) rfl rfl rfl (by decide) ?_
      refine .gf (g := 29) rfl rfl rfl (by decide) ?_
      refine .w (.pick1 rfl rfl rfl) ?_
      refine .w (.move rfl) ?_
      refine .gf (g := 33) rfl rfl rfl (by decide) ?_
      refine .gf (g := 33) rfl rfl rfl (by decide) ?_
      refine .gf (g := 33) rfl rfl rfl (by decide) ?_
      refine .w (.pick1 rfl rfl rfl) ?_
      refine .nil ?_
      refine .head () (by first | (refine ⟨by first | rfl | exact congrArg (fun b => some (Value.bool b)) (by first | exact (decide_eq_true (by omega)).symm | exact (decide_eq_false (by omega)).symm | exact decide_eq_decide.2 (by omega)) | (simp [*]; done) | (show some _ = some _; simp [*]; done), ?_⟩; repeat (first | exact trivial | refine ⟨rfl, ?_⟩))) (fun _ h => h) (Picks.perm (by repeat (first | exact Picks.nil _ | apply Picks.cons | exact Pull.here _ _ | apply Pull.there))) ?_
      trivial
    · refine .gt (g := 23) rfl rfl hg19 ?_
      refine .w (.move rfl) ?_
      refine .gt (g := 23) rfl rfl hg19 ?_
      refine .w (.move rfl) ?_
      refine .gt (g := 23) rfl rfl hg19 ?_
      refine .w (.len Tryd.underlying22 rfl) ?_
      refine .gt (g := 23) rfl rfl hg19 ?_
      refine .w (.bin rfl rfl BinR.geq_i) ?_
      refine .w (.pick0 rfl hg19 rfl) ?_
      refine .w (.move rfl) ?_
      refine .gn (g := 28) rfl (fun hg25 hg25' => ?_) (fun hg25 hg25' => ?_)
      · refine .gf (g := 29) rfl rfl hg25 (by decide) ?_
        refine .gf (g := 29) rfl rfl hg25 (by decide) ?_
        refine .w (.pick1 rfl hg25 rfl) ?_
        refine .w (.move rfl) ?_
        refine .gf (g := 33) rfl rfl rfl (by decide) ?_
        refine .gf (g := 33) rfl rfl rfl (by decide) ?_
        refine .gf (g := 33) rfl rfl rfl (by decide) ?_
        refine .w (.pick1 rfl rfl rfl) ?_
        refine .nil ?_
        refine .head () (by first | (refine ⟨by first | rfl | exact congrArg (fun b => some (Value.bool b)) (by first | exact (decide_eq_true (by omega)).symm | exact (decide_eq_false (by omega)).symm | exact decide_eq_decide.2 (by omega)) | (simp [*]; done) | (show some _ = some _; simp [*]; done), ?_⟩; repeat (first | exact trivial | refine ⟨rfl, ?_⟩))) (fun _ h => h) (Picks.perm (by repeat (first | exact Picks.nil _ | apply Picks.cons | exact Pull.here _ _ | apply Pull.there))) ?_
        trivial
      · refine .gt (g := 29) rfl rfl hg25 ?_
        refine .w (.move rfl) ?_
        refine .gt (g := 29) rfl rfl hg25 ?_
        refine .w (.bin rfl rfl BinR.lss_i) ?_
        refine .w (.pick0 rfl hg25 rfl) ?_
        refine .w (.move rfl) ?_
        refine .gn (g := 32) rfl (fun hg29 hg29' => ?_) (fun hg29 hg29' => ?_)
        · refine .gf (g := 33) rfl rfl hg29 (by decide) ?_
          refine .gf (g := 33) rfl rfl hg29 (by decide) ?_
          refine .gf (g := 33) rfl rfl hg29 (by decide) ?_
          refine .w (.pick1 rfl hg29 rfl) ?_
          refine .nil ?_
          refine .head () (by first | (refine ⟨by first | rfl | exact congrArg (fun b => some (Value.bool b)) (by first | exact (decide_eq_true (by omega)).symm | exact (decide_eq_false (by omega)).symm | exact decide_eq_decide.2 (by omega)) | (simp [*]; done) | (show some _ = some _; simp [*]; done), ?_⟩; repeat (first | exact trivial | refine ⟨rfl, ?_⟩))) (fun _ h => h) (Picks.perm (by repeat (first | exact Picks.nil _ | apply Picks.cons | exact Pull.here _ _ | apply Pull.there))) ?_
          trivial
        · refine .gt (g := 33) rfl rfl hg29 ?_
          refine .w (.as (v' := dgV own) (.lda agg_24 rfl) rfl) ?_
          refine .gt (g := 33) rfl rfl hg29 ?_
          refine .w (.as (v' := dgV D0) (.build bld_24 rfl rfl) rfl) ?_
          refine .gt (g := 33) rfl rfl hg29 ?_
          refine .w (.bin rfl rfl (eql_dig)) ?_
          refine .w (.pick0 rfl hg29 rfl) ?_
          refine .nil ?_
          refine .head () (by first | (refine ⟨by first | rfl | exact congrArg (fun b => some (Value.bool b)) (by first | exact (decide_eq_true (by omega)).symm | exact (decide_eq_false (by omega)).symm | exact decide_eq_decide.2 (by omega)) | (simp [*]; done) | (show some _ = some _; simp [*]; done), ?_⟩; repeat (first | exact trivial | refine ⟨rfl, ?_⟩))) (fun _ h => h) (Picks.perm (by repeat (first | exact Picks.nil _ | apply Picks.cons | exact Pull.here _ _ | apply Pull.there))) ?_
          trivial
  · refine .nil (.tn ?_)
    refine .cn rfl (fun hc2 => ?_) (fun hc2 => ?_)
    · skip
      refine .seq (.region ?_)
      refine .w (.assign rfl) ?_
      refine .w (.assign rfl) ?_
      refine .nil (.tn (.ret (.then_ret ?_)))
      exact .dn [] [] (res2 rfl (.tmp rfl) (.tmp rfl)) ⟨rfl, rfl, rfl⟩
    · exact absurd hq hc2

theorem f9ok_spec (u : Value) (S : List W64) (me sh : Int) (own : D32) (hl1 : 1 ≤ S.length) (hl2 : S.length ≤ 40) (hsum : sumS S < 9223372036854775808) (hq : ¬ (me < 0 ∨ (S.length : Int) ≤ me ∨ sh < 0 ∨ own = D0)) :
    Spec Tryd.prog 9 #[u, (it me), (it sh), (dgV own)] [Res.var 0 [u64 9223372036854775808, u64 0, u64 0, u64 0], Res.rd u S.length 1 (S.map u64)] []
      (fun r Γ' H' => ∃ (p : Nat) (sv : Value) (bp bt bd : Nat), r = .tuple #[ptr p 0, it 0] ∧ Γ' = [] ∧ H' = RA.H p (RA.newA sv bp bt bd S me sh own)) := by
  refine Spec.of_args Tryd.func9 rfl Tryd.ntmps9 (by simp) fun w => ?_
  refine JC.know (φ := S.length ≤ 9223372036854775807) (fun w hs => by obtain ⟨_, _, _, _, _, _, h⟩ := hs.rdForm (.tail _ (.head _)); unfold maxLen at h; omega) fun hln => ?_
  refine .seq (.region ?_)
  refine .bx fun b7 => ?_
  refine .w (.assign rfl) ?_
  refine .w (.assign rfl) ?_
  refine .nil (.tn (.seq (.seq (.region ?_))))
  refine .w (.move rfl) ?_
  refine .cb (f25ok_spec u S hl1 hl2 hsum) body_25 ?_ (h0 := by rintro _ _ _ ⟨_, _, _, _, _, h, _⟩; exact h)
  rintro _ _ ⟨q, a, b, tv, rfl, _, rfl⟩
  refine .ap ?_
  refine .w (.move rfl) ?_
  refine .w (.extract rfl rfl) ?_
  refine .w (.extract rfl rfl) ?_
  refine .w (.assign rfl) ?_
  refine .w (.assign rfl) ?_
  refine .nil (.tn (.seq (.region ?_)))
  refine .w (.move rfl) ?_
  refine .w (.bin rfl rfl BinR.neq_i) ?_
  refine .nil (.tn ?_)
  refine .cf rfl ?_
  refine .skip (.tn (.seq (.seq (.region ?_))))
  refine .w (.move rfl) ?_
  refine .w (.bin rfl rfl BinR.lss_i) ?_
  refine .w (.move rfl) ?_
  refine .join 14 37 (.bool (decide (me < 0 ∨ (S.length : Int) ≤ me ∨ sh < 0 ∨ own = D0))) ?_ ?_
  · refine .gn (g := 22) rfl (fun hg19 hg19' => ?_) (fun hg19 hg19' => ?_)
    · refine .gf (g := 23) rfl rfl hg19 (by decide) ?_
      refine .gf (g := 23) rfl rfl hg19 (by decide) ?_
      refine .gf (g := 23) rfl rfl hg19 (by decide) ?_
      refine .gf (g := 23) rfl rfl hg19 (by decide) ?_
      refine .w (.pick1 rfl hg19 rfl) ?_
      refine .w (.move rfl) ?_
      refine .gf (g := 29) rfl rfl rfl (by decide) ?_
      refine .gf (g := 29) rfl rfl rfl (by decide) ?_
      refine .w (.pick1 rfl rfl rfl) ?_
      refine .w (.move rfl) ?_
      refine .gf (g := 33) rfl rfl rfl (by decide) ?_
      refine .gf (g := 33) rfl rfl rfl (by decide) ?_
      refine .gf (g := 33) rfl rfl rfl (by decide) ?_
      refine .w (.pick1 rfl rfl rfl) ?_
      refine .nil ?_
      refine .head () (by first | (refine ⟨by first | rfl | exact congrArg (fun b => some (Value.bool b)) (by first | exact (decide_eq_true (by omega)).symm | exact (decide_eq_false (by omega)).symm | exact decide_eq_decide.2 (by omega)) | (simp [*]; done) | (show some _ = some _; simp [*]; done), ?_⟩; repeat (first | exact trivial | refine ⟨rfl, ?_⟩))) (fun _ h => h) (Picks.perm (by repeat (first | exact Picks.nil _ | apply Picks.cons | exact Pull.here _ _ | apply Pull.there))) ?_
      trivial
    · refine .gt (g := 23) rfl rfl hg19 ?_
      refine .w (.move rfl) ?_
      refine .gt (g := 23) rfl rfl hg19 ?_
      refine .w (.move rfl) ?_
      refine .gt (g := 23) rfl rfl hg19 ?_
      refine .w (.len Tryd.underlying22 rfl) ?_
      refine .gt (g := 23) rfl rfl hg19 ?_
      refine .w (.bin rfl rfl BinR.geq_i) ?_
      refine .w (.pick0 rfl hg19 rfl) ?_
      refine .w (.move rfl) ?_
      refine .gn (g := 28) rfl (fun hg25 hg25' => ?_) (fun hg25 hg25' => ?_)
      · refine .gf (g := 29) rfl rfl hg25 (by decide) ?_
        refine .gf (g := 29) rfl rfl hg25 (by decide) ?_
        refine .w (.pick1 rfl hg25 rfl) ?_
        refine .w (.move rfl) ?_
        refine .gf (g := 33) rfl rfl rfl (by decide) ?_
        refine .gf (g := 33) rfl rfl rfl (by decide) ?_
        refine .gf (g := 33) rfl rfl rfl (by decide) ?_
        refine .w (.pick1 rfl rfl rfl) ?_
        refine .nil ?_
        refine .head () (by first | (refine ⟨by first | rfl | exact congrArg (fun b => some (Value.bool b)) (by first | exact (decide_eq_true (by omega)).symm | exact (decide_eq_false (by omega)).symm | exact decide_eq_decide.2 (by omega)) | (simp [*]; done) | (show some _ = some _; simp [*]; done), ?_⟩; repeat (first | exact trivial | refine ⟨rfl, ?_⟩))) (fun _ h => h) (Picks.perm (by repeat (first | exact Picks.nil _ | apply Picks.cons | exact Pull.here _ _ | apply Pull.there))) ?_
        trivial
      · refine .gt (g := 29) rfl rfl hg25 ?_
        refine .w (.move rfl) ?_
        refine .gt (g := 29) rfl rfl hg25 ?_
        refine .w (.bin rfl rfl BinR.lss_i) ?_
        refine .w (.pick0 rfl hg25 rfl) ?_
        refine .w (.move rfl) ?_
        refine .gn (g := 32) rfl (fun hg29 hg29' => ?_) (fun hg29 hg29' => ?_)
        · refine .gf (g := 33) rfl rfl hg29 (by decide) ?_
          refine .gf (g := 33) rfl rfl hg29 (by decide) ?_
          refine .gf (g := 33) rfl rfl hg29 (by decide) ?_
          refine .w (.pick1 rfl hg29 rfl) ?_
          refine .nil ?_
          refine .head () (by first | (refine ⟨by first | rfl | exact congrArg (fun b => some (Value.bool b)) (by first | exact (decide_eq_true (by omega)).symm | exact (decide_eq_false (by omega)).symm | exact decide_eq_decide.2 (by omega)) | (simp [*]; done) | (show some _ = some _; simp [*]; done), ?_⟩; repeat (first | exact trivial | refine ⟨rfl, ?_⟩))) (fun _ h => h) (Picks.perm (by repeat (first | exact Picks.nil _ | apply Picks.cons | exact Pull.here _ _ | apply Pull.there))) ?_
          trivial
        · refine .gt (g := 33) rfl rfl hg29 ?_
          refine .w (.as (v' := dgV own) (.lda agg_24 rfl) rfl) ?_
          refine .gt (g := 33) rfl rfl hg29 ?_
          refine .w (.as (v' := dgV D0) (.build bld_24 rfl rfl) rfl) ?_
          refine .gt (g := 33) rfl rfl hg29 ?_
          refine .w (.bin rfl rfl (eql_dig)) ?_
          refine .w (.pick0 rfl hg29 rfl) ?_
          refine .nil ?_
          refine .head () (by first | (refine ⟨by first | rfl | exact congrArg (fun b => some (Value.bool b)) (by first | exact (decide_eq_true (by omega)).symm | exact (decide_eq_false (by omega)).symm | exact decide_eq_decide.2 (by omega)) | (simp [*]; done) | (show some _ = some _; simp [*]; done), ?_⟩; repeat (first | exact trivial | refine ⟨rfl, ?_⟩))) (fun _ h => h) (Picks.perm (by repeat (first | exact Picks.nil _ | apply Picks.cons | exact Pull.here _ _ | apply Pull.there))) ?_
          trivial
  · refine .nil (.tn ?_)
    refine .cn rfl (fun hc2 => ?_) (fun hc2 => ?_)
    · exact absurd hc2 hq
    · skip
      refine .skip (.tn (.seq (.region ?_)))
      refine .w (.as (v' := hdV ⟨D0, -1⟩) (.bd bld_71) (congrArg (fun l : List Value => Value.agg l.toArray) (hd1 _))) ?_
      refine .al zero_71 fun b12 => ?_
      refine .sa sz_71 ?_ (h1 := (Held.one _))
      refine .nil (.tn (.seq ?_))
      refine JC.draw (.one 0 (.one 2 (.one 3 (.one 4 (.one 5 (.one 6 (.one 7 (.alt 1 (.alt 8 (.alt 9 (.one 10 (.one 11 (.one 12 (.one 13 (.one 14 .nil))))) (.alt 10 (.one 9 (.one 11 (.one 12 (.one 13 (.one 14 .nil))))) .nil)) (.alt 9 (.alt 8 (.one 10 (.one 11 (.one 12 (.one 13 (.one 14 .nil))))) (.alt 10 (.one 8 (.one 11 (.one 12 (.one 13 (.one 14 .nil))))) .nil)) (.alt 10 (.alt 8 (.one 9 (.one 11 (.one 12 (.one 13 (.one 14 .nil))))) (.alt 9 (.one 8 (.one 11 (.one 12 (.one 13 (.one 14 .nil))))) .nil)) .nil))) (.alt 8 (.alt 1 (.alt 9 (.one 10 (.one 11 (.one 12 (.one 13 (.one 14 .nil))))) (.alt 10 (.one 9 (.one 11 (.one 12 (.one 13 (.one 14 .nil))))) .nil)) (.alt 9 (.alt 1 (.one 10 (.one 11 (.one 12 (.one 13 (.one 14 .nil))))) (.alt 10 (.one 1 (.one 11 (.one 12 (.one 13 (.one 14 .nil))))) .nil)) (.alt 10 (.alt 1 (.one 9 (.one 11 (.one 12 (.one 13 (.one 14 .nil))))) (.alt 9 (.one 1 (.one 11 (.one 12 (.one 13 (.one 14 .nil))))) .nil)) .nil))) (.alt 9 (.alt 1 (.alt 8 (.one 10 (.one 11 (.one 12 (.one 13 (.one 14 .nil))))) (.alt 10 (.one 8 (.one 11 (.one 12 (.one 13 (.one 14 .nil))))) .nil)) (.alt 8 (.alt 1 (.one 10 (.one 11 (.one 12 (.one 13 (.one 14 .nil))))) (.alt 10 (.one 1 (.one 11 (.one 12 (.one 13 (.one 14 .nil))))) .nil)) (.alt 10 (.alt 1 (.one 8 (.one 11 (.one 12 (.one 13 (.one 14 .nil))))) (.alt 8 (.one 1 (.one 11 (.one 12 (.one 13 (.one 14 .nil))))) .nil)) .nil))) (.alt 10 (.alt 1 (.alt 8 (.one 9 (.one 11 (.one 12 (.one 13 (.one 14 .nil))))) (.alt 9 (.one 8 (.one 11 (.one 12 (.one 13 (.one 14 .nil))))) .nil)) (.alt 8 (.alt 1 (.one 9 (.one 11 (.one 12 (.one 13 (.one 14 .nil))))) (.alt 9 (.one 1 (.one 11 (.one 12 (.one 13 (.one 14 .nil))))) .nil)) (.alt 9 (.alt 1 (.one 8 (.one 11 (.one 12 (.one 13 (.one 14 .nil))))) (.alt 8 (.one 1 (.one 11 (.one 12 (.one 13 (.one 14 .nil))))) .nil)) .nil))) .nil))))))))))) (fun i => ([12] : List Nat).contains i) (fun i => ([1, 8, 9, 10, 12] : List Nat).contains i) (fun i => ([0, 2, 3, 11, 13, 14] : List Nat).contains i) mixed (by kernel_rfl) (by decide) (by kernel_rfl) ?_
      refine .uw rfl (.move rfl) ?_
      refine .uw rfl (.move rfl) ?_
      refine .uw rfl (.move rfl) ?_
      refine .w rfl (.as (v' := dgV own) (.lda agg_24 rfl) rfl) ?_
      refine .w rfl (.as (v' := hdV ⟨D0, -1⟩) (.lda agg_71 rfl) rfl) ?_
      refine .w rfl (.as (v' := hdV ⟨D0, -1⟩) (.lda agg_71 rfl) rfl) ?_
      refine .w rfl (.as (v' := hdV ⟨D0, -1⟩) (.lda agg_71 rfl) rfl) ?_
      refine JR.alt rfl ?_ ?_
      · refine .mw rfl (.cb (f26_spec u S.length (S.map u64) (by omega) (one_map fun _ => rfl)) body_26) ?_
        rintro sv _ _ ⟨_, ⟨_, _, rfl⟩, hΓ, hH⟩
        simp only [List.cons_append, List.nil_append] at hH; subst hΓ hH
        refine kp ?_
        refine JR.know (φ := ∃ A c, sv = .slice A S.length c) (fun w hs => hs.rowSl (v := sv) (e := 48) (size := 1) (xs := S.map u64) (by repeat (first | exact List.Mem.head _ | refine List.Mem.tail _ ?_))) fun ⟨A, c, hsl⟩ => ?_
        have hsv : sv.cells = #[sv] := by rw [hsl]; rfl
        refine JR.alt rfl ?_ ?_
        · refine .mw rfl (.mm itK prV) ?_
          rintro v47 _ _ ⟨b47, rfl, rfl, rfl⟩
          refine kp ?_
          refine JR.alt rfl ?_ ?_
          · refine .mw rfl (.mm k2V tpV) ?_
            rintro v48 _ _ ⟨b48, rfl, rfl, rfl⟩
            refine kp ?_
            refine .mw rfl (.mm k2V blV) ?_
            rintro v49 _ _ ⟨b49, rfl, rfl, rfl⟩
            refine kp ?_
            refine .uw rfl (.bd bld_77 (hf := (RA.new_fill sv b47 b48 b49 S me sh own hsv rfl rfl rfl rfl rfl rfl rfl rfl rfl rfl))) ?_
            refine .mw rfl (Mv.box rfl) ?_
            rintro _ _ _ ⟨b51, rfl, rfl, rfl⟩
            refine kp ?_
            refine .uw rfl (.assign rfl) ?_
            refine .uw rfl (.assign rfl) ?_
            refine .nil (.tn (.ret ?_))
            refine .sp0 ?_
            exact .dn [] (RA.H _ (RA.newA sv b47 b48 b49 S me sh own)) (res2 rfl (.tmp rfl) (.tmp rfl)) ⟨_, sv, b47, b48, b49, rfl, rfl, rfl⟩
          refine JA.alt rfl ?_ ?_
          · refine .mw rfl (.mm k2V blV) ?_
            rintro v49 _ _ ⟨b49, rfl, rfl, rfl⟩
            refine kp ?_
            refine .mw rfl (.mm k2V tpV) ?_
            rintro v48 _ _ ⟨b48, rfl, rfl, rfl⟩
            refine kp ?_
            refine .uw rfl (.bd bld_77 (hf := (RA.new_fill sv b47 b48 b49 S me sh own hsv rfl rfl rfl rfl rfl rfl rfl rfl rfl rfl))) ?_
            refine .mw rfl (Mv.box rfl) ?_
            rintro _ _ _ ⟨b51, rfl, rfl, rfl⟩
            refine kp ?_
            refine .uw rfl (.assign rfl) ?_
            refine .uw rfl (.assign rfl) ?_
            refine .nil (.tn (.ret ?_))
            refine .sp0 ?_
            exact .dn [] (RA.H _ (RA.newA sv b47 b48 b49 S me sh own)) (res2 rfl (.tmp rfl) (.tmp rfl)) ⟨_, sv, b47, b48, b49, rfl, rfl, rfl⟩
          exact JA.nil
        refine JA.alt rfl ?_ ?_
        · refine .mw rfl (.mm k2V tpV) ?_
          rintro v48 _ _ ⟨b48, rfl, rfl, rfl⟩
          refine kp ?_
          refine JR.alt rfl ?_ ?_
          · refine .mw rfl (.mm itK prV) ?_
            rintro v47 _ _ ⟨b47, rfl, rfl, rfl⟩
            refine kp ?_
            refine .mw rfl (.mm k2V blV) ?_
            rintro v49 _ _ ⟨b49, rfl, rfl, rfl⟩
            refine kp ?_
            refine .uw rfl (.bd bld_77 (hf := (RA.new_fill sv b47 b48 b49 S me sh own hsv rfl rfl rfl rfl rfl rfl rfl rfl rfl rfl))) ?_
            refine .mw rfl (Mv.box rfl) ?_
            rintro _ _ _ ⟨b51, rfl, rfl, rfl⟩
            refine kp ?_
            refine .uw rfl (.assign rfl) ?_
            refine .uw rfl (.assign rfl) ?_
            refine .nil (.tn (.ret ?_))
            refine .sp0 ?_
            exact .dn [] (RA.H _ (RA.newA sv b47 b48 b49 S me sh own)) (res2 rfl (.tmp rfl) (.tmp rfl)) ⟨_, sv, b47, b48, b49, rfl, rfl, rfl⟩
          refine JA.alt rfl ?_ ?_
          · refine .mw rfl (.mm k2V blV) ?_
            rintro v49 _ _ ⟨b49, rfl, rfl, rfl⟩
            refine kp ?_
            refine .mw rfl (.mm itK prV) ?_
            rintro v47 _ _ ⟨b47, rfl, rfl, rfl⟩
            refine kp ?_
            refine .uw rfl (.bd bld_77 (hf := (RA.new_fill sv b47 b48 b49 S me sh own hsv rfl rfl rfl rfl rfl rfl rfl rfl rfl rfl))) ?_
            refine .mw rfl (Mv.box rfl) ?_
            rintro _ _ _ ⟨b51, rfl, rfl, rfl⟩
            refine kp ?_
            refine .uw rfl (.assign rfl) ?_
            refine .uw rfl (.assign rfl) ?_
            refine .nil (.tn (.ret ?_))
            refine .sp0 ?_
            exact .dn [] (RA.H _ (RA.newA sv b47 b48 b49 S me sh own)) (res2 rfl (.tmp rfl) (.tmp rfl)) ⟨_, sv, b47, b48, b49, rfl, rfl, rfl⟩
          exact JA.nil
        refine JA.alt rfl ?_ ?_
        · refine .mw rfl (.mm k2V blV) ?_
          rintro v49 _ _ ⟨b49, rfl, rfl, rfl⟩
          refine kp ?_
          refine JR.alt rfl ?_ ?_
          · refine .mw rfl (.mm itK prV) ?_
            rintro v47 _ _ ⟨b47, rfl, rfl, rfl⟩
            refine kp ?_
            refine .mw rfl (.mm k2V tpV) ?_
            rintro v48 _ _ ⟨b48, rfl, rfl, rfl⟩
            refine kp ?_
            refine .uw rfl (.bd bld_77 (hf := (RA.new_fill sv b47 b48 b49 S me sh own hsv rfl rfl rfl rfl rfl rfl rfl rfl rfl rfl))) ?_
            refine .mw rfl (Mv.box rfl) ?_
            rintro _ _ _ ⟨b51, rfl, rfl, rfl⟩
            refine kp ?_
            refine .uw rfl (.assign rfl) ?_
            refine .uw rfl (.assign rfl) ?_
            refine .nil (.tn (.ret ?_))
            refine .sp0 ?_
            exact .dn [] (RA.H _ (RA.newA sv b47 b48 b49 S me sh own)) (res2 rfl (.tmp rfl) (.tmp rfl)) ⟨_, sv, b47, b48, b49, rfl, rfl, rfl⟩
          refine JA.alt rfl ?_ ?_
          · refine .mw rfl (.mm k2V tpV) ?_
            rintro v48 _ _ ⟨b48, rfl, rfl, rfl⟩
            refine kp ?_
            refine .mw rfl (.mm itK prV) ?_
            rintro v47 _ _ ⟨b47, rfl, rfl, rfl⟩
            refine kp ?_
            refine .uw rfl (.bd bld_77 (hf := (RA.new_fill sv b47 b48 b49 S me sh own hsv rfl rfl rfl rfl rfl rfl rfl rfl rfl rfl))) ?_
            refine .mw rfl (Mv.box rfl) ?_
            rintro _ _ _ ⟨b51, rfl, rfl, rfl⟩
            refine kp ?_
            refine .uw rfl (.assign rfl) ?_
            refine .uw rfl (.assign rfl) ?_
            refine .nil (.tn (.ret ?_))
            refine .sp0 ?_
            exact .dn [] (RA.H _ (RA.newA sv b47 b48 b49 S me sh own)) (res2 rfl (.tmp rfl) (.tmp rfl)) ⟨_, sv, b47, b48, b49, rfl, rfl, rfl⟩
          exact JA.nil
        exact JA.nil
      refine JA.alt rfl ?_ ?_
      · refine .mw rfl (.mm itK prV) ?_
        rintro v47 _ _ ⟨b47, rfl, rfl, rfl⟩
        refine kp ?_
        refine JR.alt rfl ?_ ?_
        · refine .mw rfl (.cb (f26_spec u S.length (S.map u64) (by omega) (one_map fun _ => rfl)) body_26) ?_
          rintro sv _ _ ⟨_, ⟨_, _, rfl⟩, hΓ, hH⟩
          simp only [List.cons_append, List.nil_append] at hH; subst hΓ hH
          refine kp ?_
          refine JR.know (φ := ∃ A c, sv = .slice A S.length c) (fun w hs => hs.rowSl (v := sv) (e := 48) (size := 1) (xs := S.map u64) (by repeat (first | exact List.Mem.head _ | refine List.Mem.tail _ ?_))) fun ⟨A, c, hsl⟩ => ?_
          have hsv : sv.cells = #[sv] := by rw [hsl]; rfl
          refine JR.alt rfl ?_ ?_
          · refine .mw rfl (.mm k2V tpV) ?_
            rintro v48 _ _ ⟨b48, rfl, rfl, rfl⟩
            refine kp ?_
            refine .mw rfl (.mm k2V blV) ?_
            rintro v49 _ _ ⟨b49, rfl, rfl, rfl⟩
            refine kp ?_
            refine .uw rfl (.bd bld_77 (hf := (RA.new_fill sv b47 b48 b49 S me sh own hsv rfl rfl rfl rfl rfl rfl rfl rfl rfl rfl))) ?_
            refine .mw rfl (Mv.box rfl) ?_
            rintro _ _ _ ⟨b51, rfl, rfl, rfl⟩
            refine kp ?_
            refine .uw rfl (.assign rfl) ?_
            refine .uw rfl (.assign rfl) ?_
            refine .nil (.tn (.ret ?_))
            refine .sp0 ?_
            exact .dn [] (RA.H _ (RA.newA sv b47 b48 b49 S me sh own)) (res2 rfl (.tmp rfl) (.tmp rfl)) ⟨_, sv, b47, b48, b49, rfl, rfl, rfl⟩
          refine JA.alt rfl ?_ ?_
          · refine .mw rfl (.mm k2V blV) ?_
            rintro v49 _ _ ⟨b49, rfl, rfl, rfl⟩
            refine kp ?_
            refine .mw rfl (.mm k2V tpV) ?_
            rintro v48 _ _ ⟨b48, rfl, rfl, rfl⟩
            refine kp ?_
            refine .uw rfl (.bd bld_77 (hf := (RA.new_fill sv b47 b48 b49 S me sh own hsv rfl rfl rfl rfl rfl rfl rfl rfl rfl rfl))) ?_
            refine .mw rfl (Mv.box rfl) ?_
            rintro _ _ _ ⟨b51, rfl, rfl, rfl⟩
            refine kp ?_
            refine .uw rfl (.assign rfl) ?_
            refine .uw rfl (.assign rfl) ?_
            refine .nil (.tn (.ret ?_))
            refine .sp0 ?_
            exact .dn [] (RA.H _ (RA.newA sv b47 b48 b49 S me sh own)) (res2 rfl (.tmp rfl) (.tmp rfl)) ⟨_, sv, b47, b48, b49, rfl, rfl, rfl⟩
          exact JA.nil
        refine JA.alt rfl ?_ ?_
        · refine .mw rfl (.mm k2V tpV) ?_
          rintro v48 _ _ ⟨b48, rfl, rfl, rfl⟩
          refine kp ?_
          refine JR.alt rfl ?_ ?_
          · refine .mw rfl (.cb (f26_spec u S.length (S.map u64) (by omega) (one_map fun _ => rfl)) body_26) ?_
            rintro sv _ _ ⟨_, ⟨_, _, rfl⟩, hΓ, hH⟩
            simp only [List.cons_append, List.nil_append] at hH; subst hΓ hH
            refine kp ?_
            refine JR.know (φ := ∃ A c, sv = .slice A S.length c) (fun w hs => hs.rowSl (v := sv) (e := 48) (size := 1) (xs := S.map u64) (by repeat (first | exact List.Mem.head _ | refine List.Mem.tail _ ?_))) fun ⟨A, c, hsl⟩ => ?_
            have hsv : sv.cells = #[sv] := by rw [hsl]; rfl
            refine .mw rfl (.mm k2V blV) ?_
            rintro v49 _ _ ⟨b49, rfl, rfl, rfl⟩
            refine kp ?_
            refine .uw rfl (.bd bld_77 (hf := (RA.new_fill sv b47 b48 b49 S me sh own hsv rfl rfl rfl rfl rfl rfl rfl rfl rfl rfl))) ?_
            refine .mw rfl (Mv.box rfl) ?_
            rintro _ _ _ ⟨b51, rfl, rfl, rfl⟩
            refine kp ?_
            refine .uw rfl (.assign rfl) ?_
            refine .uw rfl (.assign rfl) ?_
            refine .nil (.tn (.ret ?_))
            refine .sp0 ?_
            exact .dn [] (RA.H _ (RA.newA sv b47 b48 b49 S me sh own)) (res2 rfl (.tmp rfl) (.tmp rfl)) ⟨_, sv, b47, b48, b49, rfl, rfl, rfl⟩
          refine JA.alt rfl ?_ ?_
          · refine .mw rfl (.mm k2V blV) ?_
            rintro v49 _ _ ⟨b49, rfl, rfl, rfl⟩
            refine kp ?_
            refine .mw rfl (.cb (f26_spec u S.length (S.map u64) (by omega) (one_map fun _ => rfl)) body_26) ?_
            rintro sv _ _ ⟨_, ⟨_, _, rfl⟩, hΓ, hH⟩
            simp only [List.cons_append, List.nil_append] at hH; subst hΓ hH
            refine kp ?_
            refine JR.know (φ := ∃ A c, sv = .slice A S.length c) (fun w hs => hs.rowSl (v := sv) (e := 48) (size := 1) (xs := S.map u64) (by repeat (first | exact List.Mem.head _ | refine List.Mem.tail _ ?_))) fun ⟨A, c, hsl⟩ => ?_
            have hsv : sv.cells = #[sv] := by rw [hsl]; rfl
            refine .uw rfl (.bd bld_77 (hf := (RA.new_fill sv b47 b48 b49 S me sh own hsv rfl rfl rfl rfl rfl rfl rfl rfl rfl rfl))) ?_
            refine .mw rfl (Mv.box rfl) ?_
            rintro _ _ _ ⟨b51, rfl, rfl, rfl⟩
            refine kp ?_
            refine .uw rfl (.assign rfl) ?_
            refine .uw rfl (.assign rfl) ?_
            refine .nil (.tn (.ret ?_))
            refine .sp0 ?_
            exact .dn [] (RA.H _ (RA.newA sv b47 b48 b49 S me sh own)) (res2 rfl (.tmp rfl) (.tmp rfl)) ⟨_, sv, b47, b48, b49, rfl, rfl, rfl⟩
          exact JA.nil
        refine JA.alt rfl ?_ ?_
        · refine .mw rfl (.mm k2V blV) ?_
          rintro v49 _ _ ⟨b49, rfl, rfl, rfl⟩
          refine kp ?_
          refine JR.alt rfl ?_ ?_
          · refine .mw rfl (.cb (f26_spec u S.length (S.map u64) (by omega) (one_map fun _ => rfl)) body_26) ?_
            rintro sv _ _ ⟨_, ⟨_, _, rfl⟩, hΓ, hH⟩
            simp only [List.cons_append, List.nil_append] at hH; subst hΓ hH
            refine kp ?_
            refine JR.know (φ := ∃ A c, sv = .slice A S.length c) (fun w hs => hs.rowSl (v := sv) (e := 48) (size := 1) (xs := S.map u64) (by repeat (first | exact List.Mem.head _ | refine List.Mem.tail _ ?_))) fun ⟨A, c, hsl⟩ => ?_
            have hsv : sv.cells = #[sv] := by rw [hsl]; rfl
            refine .mw rfl (.mm k2V tpV) ?_
            rintro v48 _ _ ⟨b48, rfl, rfl, rfl⟩
            refine kp ?_
            refine .uw rfl (.bd bld_77 (hf := (RA.new_fill sv b47 b48 b49 S me sh own hsv rfl rfl rfl rfl rfl rfl rfl rfl rfl rfl))) ?_
            refine .mw rfl (Mv.box rfl) ?_
            rintro _ _ _ ⟨b51, rfl, rfl, rfl⟩
            refine kp ?_
            refine .uw rfl (.assign rfl) ?_
            refine .uw rfl (.assign rfl) ?_
            refine .nil (.tn (.ret ?_))
            refine .sp0 ?_
            exact .dn [] (RA.H _ (RA.newA sv b47 b48 b49 S me sh own)) (res2 rfl (.tmp rfl) (.tmp rfl)) ⟨_, sv, b47, b48, b49, rfl, rfl, rfl⟩
          refine JA.alt rfl ?_ ?_
          · refine .mw rfl (.mm k2V tpV) ?_
            rintro v48 _ _ ⟨b48, rfl, rfl, rfl⟩
            refine kp ?_
            refine .mw rfl (.cb (f26_spec u S.length (S.map u64) (by omega) (one_map fun _ => rfl)) body_26) ?_
            rintro sv _ _ ⟨_, ⟨_, _, rfl⟩, hΓ, hH⟩
            simp only [List.cons_append, List.nil_append] at hH; subst hΓ hH
            refine kp ?_
            refine JR.know (φ := ∃ A c, sv = .slice A S.length c) (fun w hs => hs.rowSl (v := sv) (e := 48) (size := 1) (xs := S.map u64) (by repeat (first | exact List.Mem.head _ | refine List.Mem.tail _ ?_))) fun ⟨A, c, hsl⟩ => ?_
            have hsv : sv.cells = #[sv] := by rw [hsl]; rfl
            refine .uw rfl (.bd bld_77 (hf := (RA.new_fill sv b47 b48 b49 S me sh own hsv rfl rfl rfl rfl rfl rfl rfl rfl rfl rfl))) ?_
            refine .mw rfl (Mv.box rfl) ?_
            rintro _ _ _ ⟨b51, rfl, rfl, rfl⟩
            refine kp ?_
            refine .uw rfl (.assign rfl) ?_
            refine .uw rfl (.assign rfl) ?_
            refine .nil (.tn (.ret ?_))
            refine .sp0 ?_
            exact .dn [] (RA.H _ (RA.newA sv b47 b48 b49 S me sh own)) (res2 rfl (.tmp rfl) (.tmp rfl)) ⟨_, sv, b47, b48, b49, rfl, rfl, rfl⟩
          exact JA.nil
        exact JA.nil
      refine JA.alt rfl ?_ ?_
      · refine .mw rfl (.mm k2V tpV) ?_
        rintro v48 _ _ ⟨b48, rfl, rfl, rfl⟩
        refine kp ?_
        refine JR.alt rfl ?_ ?_
        · refine .mw rfl (.cb (f26_spec u S.length (S.map u64) (by omega) (one_map fun _ => rfl)) body_26) ?_
          rintro sv _ _ ⟨_, ⟨_, _, rfl⟩, hΓ, hH⟩
          simp only [List.cons_append, List.nil_append] at hH; subst hΓ hH
          refine kp ?_
          refine JR.know (φ := ∃ A c, sv = .slice A S.length c) (fun w hs => hs.rowSl (v := sv) (e := 48) (size := 1) (xs := S.map u64) (by repeat (first | exact List.Mem.head _ | refine List.Mem.tail _ ?_))) fun ⟨A, c, hsl⟩ => ?_
          have hsv : sv.cells = #[sv] := by rw [hsl]; rfl
          refine JR.alt rfl ?_ ?_
          · refine .mw rfl (.mm itK prV) ?_
            rintro v47 _ _ ⟨b47, rfl, rfl, rfl⟩
            refine kp ?_
            refine .mw rfl (.mm k2V blV) ?_
            rintro v49 _ _ ⟨b49, rfl, rfl, rfl⟩
            refine kp ?_
            refine .uw rfl (.bd bld_77 (hf := (RA.new_fill sv b47 b48 b49 S me sh own hsv rfl rfl rfl rfl rfl rfl rfl rfl rfl rfl))) ?_
            refine .mw rfl (Mv.box rfl) ?_
            rintro _ _ _ ⟨b51, rfl, rfl, rfl⟩
            refine kp ?_
            refine .uw rfl (.assign rfl) ?_
            refine .uw rfl (.assign rfl) ?_
            refine .nil (.tn (.ret ?_))
            refine .sp0 ?_
            exact .dn [] (RA.H _ (RA.newA sv b47 b48 b49 S me sh own)) (res2 rfl (.tmp rfl) (.tmp rfl)) ⟨_, sv, b47, b48, b49, rfl, rfl, rfl⟩
          refine JA.alt rfl ?_ ?_
          · refine .mw rfl (.mm k2V blV) ?_
            rintro v49 _ _ ⟨b49, rfl, rfl, rfl⟩
            refine kp ?_
            refine .mw rfl (.mm itK prV) ?_
            rintro v47 _ _ ⟨b47, rfl, rfl, rfl⟩
            refine kp ?_
            refine .uw rfl (.bd bld_77 (hf := (RA.new_fill sv b47 b48 b49 S me sh own hsv rfl rfl rfl rfl rfl rfl rfl rfl rfl rfl))) ?_
            refine .mw rfl (Mv.box rfl) ?_
            rintro _ _ _ ⟨b51, rfl, rfl, rfl⟩
            refine kp ?_
            refine .uw rfl (.assign rfl) ?_
            refine .uw rfl (.assign rfl) ?_
            refine .nil (.tn (.ret ?_))
            refine .sp0 ?_
            exact .dn [] (RA.H _ (RA.newA sv b47 b48 b49 S me sh own)) (res2 rfl (.tmp rfl) (.tmp rfl)) ⟨_, sv, b47, b48, b49, rfl, rfl, rfl⟩
          exact JA.nil
        refine JA.alt rfl ?_ ?_
        · refine .mw rfl (.mm itK prV) ?_
          rintro v47 _ _ ⟨b47, rfl, rfl, rfl⟩
          refine kp ?_
          refine JR.alt rfl ?_ ?_
          · refine .mw rfl (.cb (f26_spec u S.length (S.map u64) (by omega) (one_map fun _ => rfl)) body_26) ?_
            rintro sv _ _ ⟨_, ⟨_, _, rfl⟩, hΓ, hH⟩
            simp only [List.cons_append, List.nil_append] at hH; subst hΓ hH
            refine kp ?_
            refine JR.know (φ := ∃ A c, sv = .slice A S.length c) (fun w hs => hs.rowSl (v := sv) (e := 48) (size := 1) (xs := S.map u64) (by repeat (first | exact List.Mem.head _ | refine List.Mem.tail _ ?_))) fun ⟨A, c, hsl⟩ => ?_
            have hsv : sv.cells = #[sv] := by rw [hsl]; rfl
            refine .mw rfl (.mm k2V blV) ?_
            rintro v49 _ _ ⟨b49, rfl, rfl, rfl⟩
            refine kp ?_
            refine .uw rfl (.bd bld_77 (hf := (RA.new_fill sv b47 b48 b49 S me sh own hsv rfl rfl rfl rfl rfl rfl rfl rfl rfl rfl))) ?_
            refine .mw rfl (Mv.box rfl) ?_
            rintro _ _ _ ⟨b51, rfl, rfl, rfl⟩
            refine kp ?_
            refine .uw rfl (.assign rfl) ?_
            refine .uw rfl (.assign rfl) ?_
            refine .nil (.tn (.ret ?_))
            refine .sp0 ?_
            exact .dn [] (RA.H _ (RA.newA sv b47 b48 b49 S me sh own)) (res2 rfl (.tmp rfl) (.tmp rfl)) ⟨_, sv, b47, b48, b49, rfl, rfl, rfl⟩
          refine JA.alt rfl ?_ ?_
          · refine .mw rfl (.mm k2V blV) ?_
            rintro v49 _ _ ⟨b49, rfl, rfl, rfl⟩
            refine kp ?_
            refine .mw rfl (.cb (f26_spec u S.length (S.map u64) (by omega) (one_map fun _ => rfl)) body_26) ?_
            rintro sv _ _ ⟨_, ⟨_, _, rfl⟩, hΓ, hH⟩
            simp only [List.cons_append, List.nil_append] at hH; subst hΓ hH
            refine kp ?_
            refine JR.know (φ := ∃ A c, sv = .slice A S.length c) (fun w hs => hs.rowSl (v := sv) (e := 48) (size := 1) (xs := S.map u64) (by repeat (first | exact List.Mem.head _ | refine List.Mem.tail _ ?_))) fun ⟨A, c, hsl⟩ => ?_
            have hsv : sv.cells = #[sv] := by rw [hsl]; rfl
            refine .uw rfl (.bd bld_77 (hf := (RA.new_fill sv b47 b48 b49 S me sh own hsv rfl rfl rfl rfl rfl rfl rfl rfl rfl rfl))) ?_
            refine .mw rfl (Mv.box rfl) ?_
            rintro _ _ _ ⟨b51, rfl, rfl, rfl⟩
            refine kp ?_
            refine .uw rfl (.assign rfl) ?_
            refine .uw rfl (.assign rfl) ?_
            refine .nil (.tn (.ret ?_))
            refine .sp0 ?_
            exact .dn [] (RA.H _ (RA.newA sv b47 b48 b49 S me sh own)) (res2 rfl (.tmp rfl) (.tmp rfl)) ⟨_, sv, b47, b48, b49, rfl, rfl, rfl⟩
          exact JA.nil
        refine JA.alt rfl ?_ ?_
        · refine .mw rfl (.mm k2V blV) ?_
          rintro v49 _ _ ⟨b49, rfl, rfl, rfl⟩
          refine kp ?_
          refine JR.alt rfl ?_ ?_
          · refine .mw rfl (.cb (f26_spec u S.length (S.map u64) (by omega) (one_map fun _ => rfl)) body_26) ?_
            rintro sv _ _ ⟨_, ⟨_, _, rfl⟩, hΓ, hH⟩
            simp only [List.cons_append, List.nil_append] at hH; subst hΓ hH
            refine kp ?_
            refine JR.know (φ := ∃ A c, sv = .slice A S.length c) (fun w hs => hs.rowSl (v := sv) (e := 48) (size := 1) (xs := S.map u64) (by repeat (first | exact List.Mem.head _ | refine List.Mem.tail _ ?_))) fun ⟨A, c, hsl⟩ => ?_
            have hsv : sv.cells = #[sv] := by rw [hsl]; rfl
            refine .mw rfl (.mm itK prV) ?_
            rintro v47 _ _ ⟨b47, rfl, rfl, rfl⟩
            refine kp ?_
            refine .uw rfl (.bd bld_77 (hf := (RA.new_fill sv b47 b48 b49 S me sh own hsv rfl rfl rfl rfl rfl rfl rfl rfl rfl rfl))) ?_
            refine .mw rfl (Mv.box rfl) ?_
            rintro _ _ _ ⟨b51, rfl, rfl, rfl⟩
            refine kp ?_
            refine .uw rfl (.assign rfl) ?_
            refine .uw rfl (.assign rfl) ?_
            refine .nil (.tn (.ret ?_))
            refine .sp0 ?_
            exact .dn [] (RA.H _ (RA.newA sv b47 b48 b49 S me sh own)) (res2 rfl (.tmp rfl) (.tmp rfl)) ⟨_, sv, b47, b48, b49, rfl, rfl, rfl⟩
          refine JA.alt rfl ?_ ?_
          · refine .mw rfl (.mm itK prV) ?_
            rintro v47 _ _ ⟨b47, rfl, rfl, rfl⟩
            refine kp ?_
            refine .mw rfl (.cb (f26_spec u S.length (S.map u64) (by omega) (one_map fun _ => rfl)) body_26) ?_
            rintro sv _ _ ⟨_, ⟨_, _, rfl⟩, hΓ, hH⟩
            simp only [List.cons_append, List.nil_append] at hH; subst hΓ hH
            refine kp ?_
            refine JR.know (φ := ∃ A c, sv = .slice A S.length c) (fun w hs => hs.rowSl (v := sv) (e := 48) (size := 1) (xs := S.map u64) (by repeat (first | exact List.Mem.head _ | refine List.Mem.tail _ ?_))) fun ⟨A, c, hsl⟩ => ?_
            have hsv : sv.cells = #[sv] := by rw [hsl]; rfl
            refine .uw rfl (.bd bld_77 (hf := (RA.new_fill sv b47 b48 b49 S me sh own hsv rfl rfl rfl rfl rfl rfl rfl rfl rfl rfl))) ?_
            refine .mw rfl (Mv.box rfl) ?_
            rintro _ _ _ ⟨b51, rfl, rfl, rfl⟩
            refine kp ?_
            refine .uw rfl (.assign rfl) ?_
            refine .uw rfl (.assign rfl) ?_
            refine .nil (.tn (.ret ?_))
            refine .sp0 ?_
            exact .dn [] (RA.H _ (RA.newA sv b47 b48 b49 S me sh own)) (res2 rfl (.tmp rfl) (.tmp rfl)) ⟨_, sv, b47, b48, b49, rfl, rfl, rfl⟩
          exact JA.nil
        exact JA.nil
      refine JA.alt rfl ?_ ?_
      · refine .mw rfl (.mm k2V blV) ?_
        rintro v49 _ _ ⟨b49, rfl, rfl, rfl⟩
        refine kp ?_
        refine JR.alt rfl ?_ ?_
        · refine .mw rfl (.cb (f26_spec u S.length (S.map u64) (by omega) (one_map fun _ => rfl)) body_26) ?_
          rintro sv _ _ ⟨_, ⟨_, _, rfl⟩, hΓ, hH⟩
          simp only [List.cons_append, List.nil_append] at hH; subst hΓ hH
          refine kp ?_
          refine JR.know (φ := ∃ A c, sv = .slice A S.length c) (fun w hs => hs.rowSl (v := sv) (e := 48) (size := 1) (xs := S.map u64) (by repeat (first | exact List.Mem.head _ | refine List.Mem.tail _ ?_))) fun ⟨A, c, hsl⟩ => ?_
          have hsv : sv.cells = #[sv] := by rw [hsl]; rfl
          refine JR.alt rfl ?_ ?_
          · refine .mw rfl (.mm itK prV) ?_
            rintro v47 _ _ ⟨b47, rfl, rfl, rfl⟩
            refine kp ?_
            refine .mw rfl (.mm k2V tpV) ?_
            rintro v48 _ _ ⟨b48, rfl, rfl, rfl⟩
            refine kp ?_
            refine .uw rfl (.bd bld_77 (hf := (RA.new_fill sv b47 b48 b49 S me sh own hsv rfl rfl rfl rfl rfl rfl rfl rfl rfl rfl))) ?_
            refine .mw rfl (Mv.box rfl) ?_
            rintro _ _ _ ⟨b51, rfl, rfl, rfl⟩
            refine kp ?_
            refine .uw rfl (.assign rfl) ?_
            refine .uw rfl (.assign rfl) ?_
            refine .nil (.tn (.ret ?_))
            refine .sp0 ?_
            exact .dn [] (RA.H _ (RA.newA sv b47 b48 b49 S me sh own)) (res2 rfl (.tmp rfl) (.tmp rfl)) ⟨_, sv, b47, b48, b49, rfl, rfl, rfl⟩
          refine JA.alt rfl ?_ ?_
          · refine .mw rfl (.mm k2V tpV) ?_
            rintro v48 _ _ ⟨b48, rfl, rfl, rfl⟩
            refine kp ?_
            refine .mw rfl (.mm itK prV) ?_
            rintro v47 _ _ ⟨b47, rfl, rfl, rfl⟩
            refine kp ?_
            refine .uw rfl (.bd bld_77 (hf := (RA.new_fill sv b47 b48 b49 S me sh own hsv rfl rfl rfl rfl rfl rfl rfl rfl rfl rfl))) ?_
            refine .mw rfl (Mv.box rfl) ?_
            rintro _ _ _ ⟨b51, rfl, rfl, rfl⟩
            refine kp ?_
            refine .uw rfl (.assign rfl) ?_
            refine .uw rfl (.assign rfl) ?_
            refine .nil (.tn (.ret ?_))
            refine .sp0 ?_
            exact .dn [] (RA.H _ (RA.newA sv b47 b48 b49 S me sh own)) (res2 rfl (.tmp rfl) (.tmp rfl)) ⟨_, sv, b47, b48, b49, rfl, rfl, rfl⟩
          exact JA.nil
        refine JA.alt rfl ?_ ?_
        · refine .mw rfl (.mm itK prV) ?_
          rintro v47 _ _ ⟨b47, rfl, rfl, rfl⟩
          refine kp ?_
          refine JR.alt rfl ?_ ?_
          · refine .mw rfl (.cb (f26_spec u S.length (S.map u64) (by omega) (one_map fun _ => rfl)) body_26) ?_
            rintro sv _ _ ⟨_, ⟨_, _, rfl⟩, hΓ, hH⟩
            simp only [List.cons_append, List.nil_append] at hH; subst hΓ hH
            refine kp ?_
            refine JR.know (φ := ∃ A c, sv = .slice A S.length c) (fun w hs => hs.rowSl (v := sv) (e := 48) (size := 1) (xs := S.map u64) (by repeat (first | exact List.Mem.head _ | refine List.Mem.tail _ ?_))) fun ⟨A, c, hsl⟩ => ?_
            have hsv : sv.cells = #[sv] := by rw [hsl]; rfl
            refine .mw rfl (.mm k2V tpV) ?_
            rintro v48 _ _ ⟨b48, rfl, rfl, rfl⟩
            refine kp ?_
            refine .uw rfl (.bd bld_77 (hf := (RA.new_fill sv b47 b48 b49 S me sh own hsv rfl rfl rfl rfl rfl rfl rfl rfl rfl rfl))) ?_
            refine .mw rfl (Mv.box rfl) ?_
            rintro _ _ _ ⟨b51, rfl, rfl, rfl⟩
            refine kp ?_
            refine .uw rfl (.assign rfl) ?_
            refine .uw rfl (.assign rfl) ?_
            refine .nil (.tn (.ret ?_))
            refine .sp0 ?_
            exact .dn [] (RA.H _ (RA.newA sv b47 b48 b49 S me sh own)) (res2 rfl (.tmp rfl) (.tmp rfl)) ⟨_, sv, b47, b48, b49, rfl, rfl, rfl⟩
          refine JA.alt rfl ?_ ?_
          · refine .mw rfl (.mm k2V tpV) ?_
            rintro v48 _ _ ⟨b48, rfl, rfl, rfl⟩
            refine kp ?_
            refine .mw rfl (.cb (f26_spec u S.length (S.map u64) (by omega) (one_map fun _ => rfl)) body_26) ?_
            rintro sv _ _ ⟨_, ⟨_, _, rfl⟩, hΓ, hH⟩
            simp only [List.cons_append, List.nil_append] at hH; subst hΓ hH
            refine kp ?_
            refine JR.know (φ := ∃ A c, sv = .slice A S.length c) (fun w hs => hs.rowSl (v := sv) (e := 48) (size := 1) (xs := S.map u64) (by repeat (first | exact List.Mem.head _ | refine List.Mem.tail _ ?_))) fun ⟨A, c, hsl⟩ => ?_
            have hsv : sv.cells = #[sv] := by rw [hsl]; rfl
            refine .uw rfl (.bd bld_77 (hf := (RA.new_fill sv b47 b48 b49 S me sh own hsv rfl rfl rfl rfl rfl rfl rfl rfl rfl rfl))) ?_
            refine .mw rfl (Mv.box rfl) ?_
            rintro _ _ _ ⟨b51, rfl, rfl, rfl⟩
            refine kp ?_
            refine .uw rfl (.assign rfl) ?_
            refine .uw rfl (.assign rfl) ?_
            refine .nil (.tn (.ret ?_))
            refine .sp0 ?_
            exact .dn [] (RA.H _ (RA.newA sv b47 b48 b49 S me sh own)) (res2 rfl (.tmp rfl) (.tmp rfl)) ⟨_, sv, b47, b48, b49, rfl, rfl, rfl⟩
          exact JA.nil
        refine JA.alt rfl ?_ ?_
        · refine .mw rfl (.mm k2V tpV) ?_
          rintro v48 _ _ ⟨b48, rfl, rfl, rfl⟩
          refine kp ?_
          refine JR.alt rfl ?_ ?_
          · refine .mw rfl (.cb (f26_spec u S.length (S.map u64) (by omega) (one_map fun _ => rfl)) body_26) ?_
            rintro sv _ _ ⟨_, ⟨_, _, rfl⟩, hΓ, hH⟩
            simp only [List.cons_append, List.nil_append] at hH; subst hΓ hH
            refine kp ?_
            refine JR.know (φ := ∃ A c, sv = .slice A S.length c) (fun w hs => hs.rowSl (v := sv) (e := 48) (size := 1) (xs := S.map u64) (by repeat (first | exact List.Mem.head _ | refine List.Mem.tail _ ?_))) fun ⟨A, c, hsl⟩ => ?_
            have hsv : sv.cells = #[sv] := by rw [hsl]; rfl
            refine .mw rfl (.mm itK prV) ?_
            rintro v47 _ _ ⟨b47, rfl, rfl, rfl⟩
            refine kp ?_
            refine .uw rfl (.bd bld_77 (hf := (RA.new_fill sv b47 b48 b49 S me sh own hsv rfl rfl rfl rfl rfl rfl rfl rfl rfl rfl))) ?_
            refine .mw rfl (Mv.box rfl) ?_
            rintro _ _ _ ⟨b51, rfl, rfl, rfl⟩
            refine kp ?_
            refine .uw rfl (.assign rfl) ?_
            refine .uw rfl (.assign rfl) ?_
            refine .nil (.tn (.ret ?_))
            refine .sp0 ?_
            exact .dn [] (RA.H _ (RA.newA sv b47 b48 b49 S me sh own)) (res2 rfl (.tmp rfl) (.tmp rfl)) ⟨_, sv, b47, b48, b49, rfl, rfl, rfl⟩
          refine JA.alt rfl ?_ ?_
          · refine .mw rfl (.mm itK prV) ?_
            rintro v47 _ _ ⟨b47, rfl, rfl, rfl⟩
            refine kp ?_
            refine .mw rfl (.cb (f26_spec u S.length (S.map u64) (by omega) (one_map fun _ => rfl)) body_26) ?_
            rintro sv _ _ ⟨_, ⟨_, _, rfl⟩, hΓ, hH⟩
            simp only [List.cons_append, List.nil_append] at hH; subst hΓ hH
            refine kp ?_
            refine JR.know (φ := ∃ A c, sv = .slice A S.length c) (fun w hs => hs.rowSl (v := sv) (e := 48) (size := 1) (xs := S.map u64) (by repeat (first | exact List.Mem.head _ | refine List.Mem.tail _ ?_))) fun ⟨A, c, hsl⟩ => ?_
            have hsv : sv.cells = #[sv] := by rw [hsl]; rfl
            refine .uw rfl (.bd bld_77 (hf := (RA.new_fill sv b47 b48 b49 S me sh own hsv rfl rfl rfl rfl rfl rfl rfl rfl rfl rfl))) ?_
            refine .mw rfl (Mv.box rfl) ?_
            rintro _ _ _ ⟨b51, rfl, rfl, rfl⟩
            refine kp ?_
            refine .uw rfl (.assign rfl) ?_
            refine .uw rfl (.assign rfl) ?_
            refine .nil (.tn (.ret ?_))
            refine .sp0 ?_
            exact .dn [] (RA.H _ (RA.newA sv b47 b48 b49 S me sh own)) (res2 rfl (.tmp rfl) (.tmp rfl)) ⟨_, sv, b47, b48, b49, rfl, rfl, rfl⟩
          exact JA.nil
        exact JA.nil
      exact JA.nil
end Go.Proofs.YtncececcopalgaaDoor
