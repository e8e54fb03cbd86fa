/- Walk: the chapter's examples. -/
import Derived.Test.YtjjcciefjcfdmaaDoorF7
namespace Go.Proofs.YtjjcciefjcfdmaaDoor
open Go.RowKit
set_option maxRecDepth 100000
set_option linter.unusedVariables false
set_option linter.unusedSimpArgs false

theorem f8_spec  :
    Spec Tryd.prog 8 #[] [Res.var 0 ((wd 9223372036854775808).map u64)] []
      (fun r Γ' H' => r = (.bool true) ∧ Γ' = [] ∧ H' = []) := by
  refine Spec.of_args Tryd.func8 rfl Tryd.ntmps8 (by simp) fun w => ?_
  refine JC.seq ?_
  refine JC.region ?_
  refine JO.v (Yv.assign rfl) (by decide) ?_
  refine JO.nil ?_
  refine JQ.then_normal ?_
  refine JC.seq ?_
  refine JC.region ?_
  refine JO.lit1 Tryd.underlying22 info_23 rfl rfl (by simp) (by decide) (by decide) (by decide) fun v10 => ?_
  refine JO.callB (f9a_spec v10 [5#64, 0#64, 10#64] (by decide +kernel)) body_9 rfl (by repeat (first | exact Picks.nil _ | apply Picks.cons | exact Pull.here _ _ | apply Pull.there)) (by repeat (first | exact Lends.nil _ | apply Lends.cons | exact Lend.same _ _ | exact Lend.row _ _ _ _ _ _ (by decide) | apply Lend.there)) (by rintro _ _ _ ⟨_, _, _, h, _⟩; exact h) (by decide) ?_
  rintro _ _ ⟨_, ⟨p, v, rfl, _, rfl⟩, hH⟩
  simp only [List.cons_append, List.nil_append] at hH; subst hH
  refine JO.v (Yv.move rfl) (by decide) ?_
  refine JO.v (Yv.as (v' := ptr p 0) (Yv.extract rfl rfl) rfl) (by decide) ?_
  refine JO.v (Yv.as (v' := it 0) (Yv.extract rfl rfl) rfl) (by decide) ?_
  refine JO.v (Yv.assign rfl) (by decide) ?_
  refine JO.v (Yv.assign rfl) (by decide) ?_
  refine JO.nil ?_
  refine JQ.then_normal ?_
  refine JC.seq ?_
  refine JC.seq ?_
  refine JC.region ?_
  refine JO.v (Yv.move rfl) (by decide) ?_
  refine JO.v (Yv.as (v' := .bool false) (Yv.bin rfl rfl (BinR.eql_p Tryd.underlying25)) rfl) (by decide) ?_
  refine JO.v (Yv.move rfl) (by decide) ?_
  refine JO.gt (g := 16) rfl rfl rfl ?_
  refine JO.v (Yv.move rfl) (by decide) ?_
  refine JO.gt (g := 16) rfl rfl rfl ?_
  refine JO.v (Yv.as (v' := .bool false) (Yv.bin rfl rfl BinR.neq_i) rfl) (by decide) ?_
  refine JO.v (Yv.pick0 rfl rfl rfl) (by decide) ?_
  refine JO.nil ?_
  refine JQ.then_normal ?_
  refine JC.cond rfl (fun hc1 => ?_) (fun hc1 => ?_)
  · try simp only [decide_eq_true_eq, decide_eq_false_iff_not, Bool.not_eq_true', Bool.not_eq_false', ne_eq, Decidable.not_not, Bool.not_eq_true, Bool.and_eq_true, Bool.or_eq_true, BitVec.reduceToNat] at hc1
    exact absurd hc1 (by decide)
  · try simp only [decide_eq_true_eq, decide_eq_false_iff_not, Bool.not_eq_true', Bool.not_eq_false', ne_eq, Decidable.not_not, Bool.not_eq_true, Bool.and_eq_true, Bool.or_eq_true, BitVec.reduceToNat] at hc1
    refine JC.skip ?_
    refine JQ.then_normal ?_
    refine JC.seq ?_
    refine JC.region ?_
    refine JO.v (Yv.move rfl) (by decide) ?_
    refine JO.callB (f12_spec p v [5#64, 0#64, 10#64] 0 1 6#64) body_12 rfl (by repeat (first | exact Picks.nil _ | apply Picks.cons | exact Pull.here _ _ | apply Pull.there)) (by repeat (first | exact Lends.nil _ | apply Lends.cons | exact Lend.same _ _ | exact Lend.row _ _ _ _ _ _ (by decide) | apply Lend.there)) (by rintro _ _ _ ⟨_, h, _⟩; exact h) (by decide) ?_
    rintro _ _ ⟨_, ⟨rfl, _, rfl⟩, hH⟩
    simp only [List.cons_append, List.nil_append] at hH; subst hH
    refine JO.v (Yv.assign rfl) (by decide) ?_
    refine JO.nil ?_
    refine JQ.then_normal ?_
    refine JC.seq ?_
    refine JC.region ?_
    refine JO.v (Yv.move rfl) (by decide) ?_
    refine JO.callB (f12_spec p v (moveL [5#64, 0#64, 10#64] 0 1 6#64) 0 1 5#64) body_12 rfl (by repeat (first | exact Picks.nil _ | apply Picks.cons | exact Pull.here _ _ | apply Pull.there)) (by repeat (first | exact Lends.nil _ | apply Lends.cons | exact Lend.same _ _ | exact Lend.row _ _ _ _ _ _ (by decide) | apply Lend.there)) (by rintro _ _ _ ⟨_, h, _⟩; exact h) (by decide) ?_
    rintro _ _ ⟨_, ⟨rfl, _, rfl⟩, hH⟩
    simp only [List.cons_append, List.nil_append] at hH; subst hH
    refine JO.v (Yv.assign rfl) (by decide) ?_
    refine JO.nil ?_
    refine JQ.then_normal ?_
    refine JC.seq ?_
    refine JC.region ?_
    refine JO.v (Yv.move rfl) (by decide) ?_
    refine JO.callB (f15_spec p v (moveL (moveL [5#64, 0#64, 10#64] 0 1 6#64) 0 1 5#64) 2 0 100#64) body_15 rfl (by repeat (first | exact Picks.nil _ | apply Picks.cons | exact Pull.here _ _ | apply Pull.there)) (by repeat (first | exact Lends.nil _ | apply Lends.cons | exact Lend.same _ _ | exact Lend.row _ _ _ _ _ _ (by decide) | apply Lend.there)) (by rintro _ _ _ ⟨_, h, _⟩; exact h) (by decide) ?_
    rintro _ _ ⟨_, ⟨rfl, _, rfl⟩, hH⟩
    simp only [List.cons_append, List.nil_append] at hH; subst hH
    refine JO.v (Yv.assign rfl) (by decide) ?_
    refine JO.nil ?_
    refine JQ.then_normal ?_
    refine JC.seq ?_
    refine JC.region ?_
    refine JO.v (Yv.move rfl) (by decide) ?_
    refine JO.callB (f11_spec p v (takeL (moveL (moveL [5#64, 0#64, 10#64] 0 1 6#64) 0 1 5#64) 2 0 100#64) (by simp)) body_11 rfl (by repeat (first | exact Picks.nil _ | apply Picks.cons | exact Pull.here _ _ | apply Pull.there)) (by repeat (first | exact Lends.nil _ | apply Lends.cons | exact Lend.same _ _ | exact Lend.row _ _ _ _ _ _ (by decide) | apply Lend.there)) (by rintro _ _ _ ⟨h, _⟩; exact h) (by decide) ?_
    rintro v27 _ ⟨_, ⟨_, rfl⟩, hH⟩
    simp only [List.cons_append, List.nil_append] at hH; subst hH
    refine JO.v (Yv.assign rfl) (by decide) ?_
    refine JO.nil ?_
    refine JQ.then_normal ?_
    refine JC.seq ?_
    refine JC.region ?_
    refine JO.v (Yv.move rfl) (by decide) ?_
    refine JO.lit1 Tryd.underlying22 info_23 rfl rfl (by simp) (by decide) (by decide) (by decide) fun v29 => ?_
    refine JO.callB (f10_spec p v v29 (takeL (moveL (moveL [5#64, 0#64, 10#64] 0 1 6#64) 0 1 5#64) 2 0 100#64) [1#64, 1#64, 1#64] 0 1) body_10 rfl (by repeat (first | exact Picks.nil _ | apply Picks.cons | exact Pull.here _ _ | apply Pull.there)) (by repeat (first | exact Lends.nil _ | apply Lends.cons | exact Lend.same _ _ | exact Lend.row _ _ _ _ _ _ (by decide) | apply Lend.there)) (by rintro _ _ _ ⟨_, h, _⟩; exact h) (by decide) ?_
    rintro _ _ ⟨_, ⟨rfl, _, rfl⟩, hH⟩
    simp only [List.cons_append, List.nil_append] at hH; subst hH
    refine JO.v (Yv.assign rfl) (by decide) ?_
    refine JO.nil ?_
    refine JQ.then_normal ?_
    refine JC.seq ?_
    refine JC.region ?_
    refine JO.v (Yv.move rfl) (by decide) ?_
    refine JO.callB (f11_spec p v (spreadL (takeL (moveL (moveL [5#64, 0#64, 10#64] 0 1 6#64) 0 1 5#64) 2 0 100#64) 0 1 [1#64, 1#64, 1#64]) (by simp)) body_11 rfl (by repeat (first | exact Picks.nil _ | apply Picks.cons | exact Pull.here _ _ | apply Pull.there)) (by repeat (first | exact Lends.nil _ | apply Lends.cons | exact Lend.same _ _ | exact Lend.row _ _ _ _ _ _ (by decide) | apply Lend.there)) (by rintro _ _ _ ⟨h, _⟩; exact h) (by decide) ?_
    rintro v32 _ ⟨_, ⟨_, rfl⟩, hH⟩
    simp only [List.cons_append, List.nil_append] at hH; subst hH
    refine JO.v (Yv.assign rfl) (by decide) ?_
    refine JO.nil ?_
    refine JQ.then_normal ?_
    refine JC.seq ?_
    refine JC.region ?_
    refine JO.v (Yv.move rfl) (by decide) ?_
    refine JO.v (Yv.as (v' := .bool true) (Yv.bin rfl rfl BinR.eql_i) (congrArg Value.bool (by decide +kernel))) (by decide) ?_
    refine JO.v (Yv.as (v' := .bool true) (Yv.move rfl) (congrArg Value.bool (by decide +kernel))) (by decide) ?_
    refine JO.gt (g := 35) rfl rfl rfl ?_
    refine JO.v (Yv.move rfl) (by decide) ?_
    refine JO.gt (g := 35) rfl rfl rfl ?_
    refine JO.v (Yv.bin rfl rfl BinR.eql_i) (by decide) ?_
    refine JO.v (Yv.pick1 rfl rfl rfl) (by decide) ?_
    refine JO.v (Yv.as (v' := .bool true) (Yv.move rfl) (congrArg Value.bool (by decide +kernel))) (by decide) ?_
    refine JO.gt (g := 39) rfl rfl rfl ?_
    refine JO.v (Yv.move rfl) (by decide) ?_
    refine JO.gt (g := 39) rfl rfl rfl ?_
    refine JO.v (Yv.as (v' := .bool true) (Yv.bin rfl rfl (BinR.eql_u64 (b := 10#64))) (congrArg Value.bool (by decide +kernel))) (by decide) ?_
    refine JO.v (Yv.pick1 rfl rfl rfl) (by decide) ?_
    refine JO.v (Yv.move rfl) (by decide) ?_
    refine JO.gt (g := 43) rfl rfl rfl ?_
    refine JO.v (Yv.move rfl) (by decide) ?_
    refine JO.gt (g := 43) rfl rfl rfl ?_
    refine JO.lit1 Tryd.underlying22 info_23 rfl rfl (by simp) (by decide) (by decide) (by decide) fun v45 => ?_
    refine JO.gt (g := 43) rfl rfl rfl ?_
    refine JO.callB (f13_spec v27 v45 (takeL (moveL (moveL [5#64, 0#64, 10#64] 0 1 6#64) 0 1 5#64) 2 0 100#64) [10#64, 5#64, 0#64]) body_13 rfl (by repeat (first | exact Picks.nil _ | apply Picks.cons | exact Pull.here _ _ | apply Pull.there)) (by repeat (first | exact Lends.nil _ | apply Lends.cons | exact Lend.same _ _ | exact Lend.row _ _ _ _ _ _ (by decide) | apply Lend.there)) (by rintro _ _ _ ⟨_, h, _⟩; exact h) (by decide) ?_
    rintro _ _ ⟨_, ⟨rfl, _, rfl⟩, hH⟩
    simp only [List.cons_append, List.nil_append] at hH; subst hH
    rw [show decide ((takeL (moveL (moveL [5#64, 0#64, 10#64] 0 1 6#64) 0 1 5#64) 2 0 100#64) = [10#64, 5#64, 0#64]) = true from by decide +kernel]
    refine JO.v (Yv.pick1 rfl rfl rfl) (by decide) ?_
    refine JO.v (Yv.as (v' := .bool true) (Yv.move rfl) (congrArg Value.bool (by decide +kernel))) (by decide) ?_
    refine JO.gt (g := 48) rfl rfl rfl ?_
    refine JO.v (Yv.move rfl) (by decide) ?_
    refine JO.gt (g := 48) rfl rfl rfl ?_
    refine JO.v (Yv.as (v' := .bool true) (Yv.bin rfl rfl BinR.eql_i) (congrArg Value.bool (by decide +kernel))) (by decide) ?_
    refine JO.v (Yv.pick1 rfl rfl rfl) (by decide) ?_
    refine JO.v (Yv.move rfl) (by decide) ?_
    refine JO.gt (g := 52) rfl rfl rfl ?_
    refine JO.v (Yv.move rfl) (by decide) ?_
    refine JO.gt (g := 52) rfl rfl rfl ?_
    refine JO.lit1 Tryd.underlying22 info_23 rfl rfl (by simp) (by decide) (by decide) (by decide) fun v54 => ?_
    refine JO.gt (g := 52) rfl rfl rfl ?_
    refine JO.callB (f13_spec v32 v54 (spreadL (takeL (moveL (moveL [5#64, 0#64, 10#64] 0 1 6#64) 0 1 5#64) 2 0 100#64) 0 1 [1#64, 1#64, 1#64]) [3#64, 9#64, 3#64]) body_13 rfl (by repeat (first | exact Picks.nil _ | apply Picks.cons | exact Pull.here _ _ | apply Pull.there)) (by repeat (first | exact Lends.nil _ | apply Lends.cons | exact Lend.same _ _ | exact Lend.row _ _ _ _ _ _ (by decide) | apply Lend.there)) (by rintro _ _ _ ⟨_, h, _⟩; exact h) (by decide) ?_
    rintro _ _ ⟨_, ⟨rfl, _, rfl⟩, hH⟩
    simp only [List.cons_append, List.nil_append] at hH; subst hH
    rw [show decide ((spreadL (takeL (moveL (moveL [5#64, 0#64, 10#64] 0 1 6#64) 0 1 5#64) 2 0 100#64) 0 1 [1#64, 1#64, 1#64]) = [3#64, 9#64, 3#64]) = true from by decide +kernel]
    refine JO.v (Yv.pick1 rfl rfl rfl) (by decide) ?_
    refine JO.v (Yv.assign rfl) (by decide) ?_
    refine JO.nil ?_
    refine JQ.then_normal ?_
    refine JC.ret ?_
    exact JQ.done (.inr rfl) (Γ' := []) (H' := []) (res1 rfl (RV.tmp rfl)) (Subs.sub (by repeat (first | exact Subs.nil _ | apply Subs.cons | exact List.Mem.head _ | refine List.Mem.tail _ ?_))) (Picks.perm (by repeat (first | exact Picks.nil _ | apply Picks.cons | exact Pull.here _ _ | apply Pull.there))) ⟨rfl, rfl, rfl⟩
end Go.Proofs.YtjjcciefjcfdmaaDoor
