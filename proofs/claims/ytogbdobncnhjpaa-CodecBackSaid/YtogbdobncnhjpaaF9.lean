/- Walks: the chapter's examples. -/
import Derived.Test.YtogbdobncnhjpaaF8
namespace Go.Proofs.Ytogbdobncnhjpaa
open Go.RowKit
set_option maxRecDepth 100000
set_option linter.unusedVariables false
set_option linter.unusedSimpArgs false

theorem f8_spec  :
    Spec Try.prog 8 #[] [] []
      (fun r Γ' H' => r = .bool true ∧ Γ' = [] ∧ H' = []) := by
  refine Spec.of_args Try.func8 rfl Try.ntmps8 (by simp) fun w => ?_
  refine JC.seq ?_
  refine JC.region ?_
  refine JO.v (Yv.assign rfl) (by decide) ?_
  refine JO.nil ?_
  refine JQ.then_normal ?_
  refine JC.seq ?_
  refine JC.region ?_
  refine JO.v (Yv.build bld_27 rfl rfl) (by decide) ?_
  refine JO.box rfl _ rfl (by decide) fun b11 => ?_
  refine JO.nilRow 5 1 ?_
  refine JO.v (Yv.assign rfl) (by decide) ?_
  refine JO.nil ?_
  refine JQ.then_normal ?_
  refine JC.seq ?_
  refine JC.region ?_
  refine JO.v (Yv.move rfl) (by decide) ?_
  refine JO.callB (f9_spec b11 _ [] (by decide) 0#64) body_9 rfl (by repeat (first | exact Picks.nil _ | apply Picks.cons | exact Pull.here _ _ | apply Pull.there)) (by repeat (first | exact Lends.nil _ | apply Lends.cons | exact Lend.same _ _ | exact Lend.row _ _ _ _ _ _ (by decide) | apply Lend.there)) (by rintro _ _ _ ⟨_, _, h, _⟩; exact h) (by decide) ?_
  rintro _ _ ⟨_, ⟨v1, rfl, _, rfl⟩, hH⟩
  simp only [List.cons_append, List.nil_append] at hH; subst hH
  rw [show smallB 0#64 = [0#8] from by decide +kernel]
  refine JO.nil ?_
  refine JQ.then_normal ?_
  refine JC.seq ?_
  refine JC.region ?_
  refine JO.v (Yv.move rfl) (by decide) ?_
  refine JO.callB (f9_spec b11 v1 [0#8] (by decide) 300#64) body_9 rfl (by repeat (first | exact Picks.nil _ | apply Picks.cons | exact Pull.here _ _ | apply Pull.there)) (by repeat (first | exact Lends.nil _ | apply Lends.cons | exact Lend.same _ _ | exact Lend.row _ _ _ _ _ _ (by decide) | apply Lend.there)) (by rintro _ _ _ ⟨_, _, h, _⟩; exact h) (by decide) ?_
  rintro _ _ ⟨_, ⟨v2, rfl, _, rfl⟩, hH⟩
  simp only [List.cons_append, List.nil_append] at hH; subst hH
  rw [show 0#8 :: smallB 300#64 = [0#8, 2#8, 1#8, 44#8] from by decide +kernel]
  refine JO.nil ?_
  refine JQ.then_normal ?_
  refine JC.seq ?_
  refine JC.region ?_
  refine JO.v (Yv.move rfl) (by decide) ?_
  refine JO.lit1 Try.underlying25 info_5 rfl rfl (by simp) (by decide) (by decide) (by decide) fun v17 => ?_
  refine JO.callB (f22_spec b11 v2 [0#8, 2#8, 1#8, 44#8] (by decide) v17 [7#8] (by decide)) body_22 rfl (by repeat (first | exact Picks.nil _ | apply Picks.cons | exact Pull.here _ _ | apply Pull.there)) (by repeat (first | exact Lends.nil _ | apply Lends.cons | exact Lend.same _ _ | exact Lend.row _ _ _ _ _ _ (by decide) | apply Lend.there)) (by rintro _ _ _ ⟨_, _, h, _⟩; exact h) (by decide) ?_
  rintro _ _ ⟨_, ⟨v3, rfl, _, rfl⟩, hH⟩
  simp only [List.cons_append, List.nil_append] at hH; subst hH
  rw [show 0#8 :: 2#8 :: 1#8 :: 44#8 :: bytesB [7#8] = [0#8, 2#8, 1#8, 44#8, 1#8, 1#8, 7#8] from by decide +kernel]
  refine JO.nil ?_
  refine JQ.then_normal ?_
  refine JC.seq ?_
  refine JC.region ?_
  refine JO.v (Yv.move rfl) (by decide) ?_
  refine JO.callB (f10_spec b11 v3 [0#8, 2#8, 1#8, 44#8, 1#8, 1#8, 7#8] (by decide)) body_10 rfl (by repeat (first | exact Picks.nil _ | apply Picks.cons | exact Pull.here _ _ | apply Pull.there)) (by repeat (first | exact Lends.nil _ | apply Lends.cons | exact Lend.same _ _ | exact Lend.row _ _ _ _ _ _ (by decide) | apply Lend.there)) (by rintro _ _ _ ⟨_, h, _⟩; exact h) (by decide) ?_
  rintro v20 _ ⟨_, ⟨_, _, rfl⟩, hH⟩
  simp only [List.cons_append, List.nil_append] at hH; subst hH
  refine JO.v (Yv.assign rfl) (by decide) ?_
  refine JO.nil ?_
  refine JQ.then_normal ?_
  refine JC.seq ?_
  refine JC.region ?_
  refine JO.lit1 Try.underlying25 info_5 rfl rfl (by simp) (by decide) (by decide) (by decide) fun v21 => ?_
  refine JO.freeze (by repeat (first | exact Pull.here _ _ | apply Pull.there)) (by decide) ?_
  refine JO.callB (f14_spec v21 [1#8, 0#8]) body_14 rfl (by repeat (first | exact Picks.nil _ | apply Picks.cons | exact Pull.here _ _ | apply Pull.there)) (by repeat (first | exact Lends.nil _ | apply Lends.cons | exact Lend.same _ _ | exact Lend.row _ _ _ _ _ _ (by decide) | apply Lend.there)) (by rintro _ _ _ ⟨_, _, h, _⟩; exact h) (by decide) ?_
  rintro _ _ ⟨_, ⟨p1, rfl, _, rfl⟩, hH⟩
  simp only [List.cons_append, List.nil_append] at hH; subst hH
  refine JO.v (Yv.assign rfl) (by decide) ?_
  refine JO.nil ?_
  refine JQ.then_normal ?_
  refine JC.seq ?_
  refine JC.region ?_
  refine JO.lit1 Try.underlying25 info_5 rfl rfl (by simp) (by decide) (by decide) (by decide) fun v23 => ?_
  refine JO.freeze (by repeat (first | exact Pull.here _ _ | apply Pull.there)) (by decide) ?_
  refine JO.callB (f14_spec v23 [1#8, 9#8]) body_14 rfl (by repeat (first | exact Picks.nil _ | apply Picks.cons | exact Pull.here _ _ | apply Pull.there)) (by repeat (first | exact Lends.nil _ | apply Lends.cons | exact Lend.same _ _ | exact Lend.row _ _ _ _ _ _ (by decide) | apply Lend.there)) (by rintro _ _ _ ⟨_, _, h, _⟩; exact h) (by decide) ?_
  rintro _ _ ⟨_, ⟨p2, rfl, _, rfl⟩, hH⟩
  simp only [List.cons_append, List.nil_append] at hH; subst hH
  refine JO.v (Yv.assign rfl) (by decide) ?_
  refine JO.nil ?_
  refine JQ.then_normal ?_
  refine JC.seq ?_
  refine JC.region ?_
  refine JO.lit1 Try.underlying25 info_5 rfl rfl (by simp) (by decide) (by decide) (by decide) fun v25 => ?_
  refine JO.freeze (by repeat (first | exact Pull.here _ _ | apply Pull.there)) (by decide) ?_
  refine JO.callB (f14_spec v25 [1#8, 9#8]) body_14 rfl (by repeat (first | exact Picks.nil _ | apply Picks.cons | exact Pull.here _ _ | apply Pull.there)) (by repeat (first | exact Lends.nil _ | apply Lends.cons | exact Lend.same _ _ | exact Lend.row _ _ _ _ _ _ (by decide) | apply Lend.there)) (by rintro _ _ _ ⟨_, _, h, _⟩; exact h) (by decide) ?_
  rintro _ _ ⟨_, ⟨p3, rfl, _, rfl⟩, hH⟩
  simp only [List.cons_append, List.nil_append] at hH; subst hH
  refine JO.v (Yv.assign rfl) (by decide) ?_
  refine JO.nil ?_
  refine JQ.then_normal ?_
  refine JC.seq ?_
  refine JC.seq ?_
  refine JC.region ?_
  refine JO.v (Yv.move rfl) (by decide) ?_
  refine JO.v (Yv.as (v' := .bool false) (Yv.bin rfl rfl (BinR.eql_p Try.underlying37)) rfl) (by decide) ?_
  refine JO.v (Yv.move rfl) (by decide) ?_
  refine JO.gt (g := 29) rfl rfl rfl ?_
  refine JO.v (Yv.move rfl) (by decide) ?_
  refine JO.gt (g := 29) rfl rfl rfl ?_
  refine JO.v (Yv.as (v' := .bool false) (Yv.bin rfl rfl (BinR.eql_p Try.underlying37)) rfl) (by decide) ?_
  refine JO.v (Yv.pick0 rfl rfl rfl) (by decide) ?_
  refine JO.v (Yv.move rfl) (by decide) ?_
  refine JO.gt (g := 33) rfl rfl rfl ?_
  refine JO.v (Yv.move rfl) (by decide) ?_
  refine JO.gt (g := 33) rfl rfl rfl ?_
  refine JO.v (Yv.as (v' := .bool false) (Yv.bin rfl rfl (BinR.eql_p Try.underlying37)) rfl) (by decide) ?_
  refine JO.v (Yv.pick0 rfl rfl rfl) (by decide) ?_
  refine JO.nil ?_
  refine JQ.then_normal ?_
  refine JC.cond rfl (fun hc1 => ?_) (fun hc1 => ?_)
  · try simp only [decide_eq_true_eq, decide_eq_false_iff_not, Bool.not_eq_true', Bool.not_eq_false', ne_eq, Decidable.not_not, Bool.not_eq_true, Bool.and_eq_true, Bool.or_eq_true, BitVec.reduceToNat] at hc1
    exact absurd hc1 (by decide)
  · try simp only [decide_eq_true_eq, decide_eq_false_iff_not, Bool.not_eq_true', Bool.not_eq_false', ne_eq, Decidable.not_not, Bool.not_eq_true, Bool.and_eq_true, Bool.or_eq_true, BitVec.reduceToNat] at hc1
    refine JC.skip ?_
    refine JQ.then_normal ?_
    refine JC.seq ?_
    refine JC.region ?_
    refine JO.v (Yv.move rfl) (by decide) ?_
    refine JO.call (f15_spec p1 v21 ⟨[1#8, 0#8], 0⟩ 9#64) body_15 rfl (by repeat (first | exact Picks.nil _ | apply Picks.cons | exact Pull.here _ _ | apply Pull.there)) (by repeat (first | exact Subs.nil _ | apply Subs.cons | exact List.Mem.head _ | refine List.Mem.tail _ ?_)) (by decide) ?_
    rintro _ _ _ ⟨_, _, ⟨w1, rfl, rfl, rfl⟩, hΓ, hH⟩
    simp only [List.cons_append, List.nil_append] at hΓ hH; subst hΓ hH
    refine JO.nil ?_
    refine JQ.then_normal ?_
    refine JC.seq ?_
    refine JC.region ?_
    refine JO.v (Yv.move rfl) (by decide) ?_
    refine JO.call (f15_spec p2 v23 ⟨[1#8, 9#8], 0⟩ 8#64) body_15 rfl (by repeat (first | exact Picks.nil _ | apply Picks.cons | exact Pull.here _ _ | apply Pull.there)) (by repeat (first | exact Subs.nil _ | apply Subs.cons | exact List.Mem.head _ | refine List.Mem.tail _ ?_)) (by decide) ?_
    rintro _ _ _ ⟨_, _, ⟨w2, rfl, rfl, rfl⟩, hΓ, hH⟩
    simp only [List.cons_append, List.nil_append] at hΓ hH; subst hΓ hH
    refine JO.nil ?_
    refine JQ.then_normal ?_
    refine JC.seq ?_
    refine JC.region ?_
    refine JO.v (Yv.move rfl) (by decide) ?_
    refine JO.call (f15_spec p3 v25 ⟨[1#8, 9#8], 0⟩ 9#64) body_15 rfl (by repeat (first | exact Picks.nil _ | apply Picks.cons | exact Pull.here _ _ | apply Pull.there)) (by repeat (first | exact Subs.nil _ | apply Subs.cons | exact List.Mem.head _ | refine List.Mem.tail _ ?_)) (by decide) ?_
    rintro _ _ _ ⟨_, _, ⟨w3, rfl, rfl, rfl⟩, hΓ, hH⟩
    simp only [List.cons_append, List.nil_append] at hΓ hH; subst hΓ hH
    refine JO.v (Yv.assign rfl) (by decide) ?_
    refine JO.nil ?_
    refine JQ.then_normal ?_
    refine JC.seq ?_
    refine JC.region ?_
    refine JO.v (Yv.move rfl) (by decide) ?_
    refine JO.call (f19_spec p1 w1 (Rdr.smA ⟨[1#8, 0#8], 0⟩ 9#64)) body_19 rfl (by repeat (first | exact Picks.nil _ | apply Picks.cons | exact Pull.here _ _ | apply Pull.there)) (by repeat (first | exact Subs.nil _ | apply Subs.cons | exact List.Mem.head _ | refine List.Mem.tail _ ?_)) (by decide) ?_
    rintro _ _ _ ⟨_, _, ⟨rfl, rfl, rfl⟩, hΓ, hH⟩
    simp only [List.cons_append, List.nil_append] at hΓ hH; subst hΓ hH
    refine JO.v (Yv.assign rfl) (by decide) ?_
    refine JO.nil ?_
    refine JQ.then_normal ?_
    refine JC.seq ?_
    refine JC.region ?_
    refine JO.v (Yv.move rfl) (by decide) ?_
    refine JO.call (f19_spec p2 w2 (Rdr.smA ⟨[1#8, 9#8], 0⟩ 8#64)) body_19 rfl (by repeat (first | exact Picks.nil _ | apply Picks.cons | exact Pull.here _ _ | apply Pull.there)) (by repeat (first | exact Subs.nil _ | apply Subs.cons | exact List.Mem.head _ | refine List.Mem.tail _ ?_)) (by decide) ?_
    rintro _ _ _ ⟨_, _, ⟨rfl, rfl, rfl⟩, hΓ, hH⟩
    simp only [List.cons_append, List.nil_append] at hΓ hH; subst hΓ hH
    refine JO.v (Yv.assign rfl) (by decide) ?_
    refine JO.nil ?_
    refine JQ.then_normal ?_
    refine JC.seq ?_
    refine JC.region ?_
    refine JO.v (Yv.move rfl) (by decide) ?_
    refine JO.call (f19_spec p3 w3 (Rdr.smA ⟨[1#8, 9#8], 0⟩ 9#64)) body_19 rfl (by repeat (first | exact Picks.nil _ | apply Picks.cons | exact Pull.here _ _ | apply Pull.there)) (by repeat (first | exact Subs.nil _ | apply Subs.cons | exact List.Mem.head _ | refine List.Mem.tail _ ?_)) (by decide) ?_
    rintro _ _ _ ⟨_, _, ⟨rfl, rfl, rfl⟩, hΓ, hH⟩
    simp only [List.cons_append, List.nil_append] at hΓ hH; subst hΓ hH
    refine JO.v (Yv.assign rfl) (by decide) ?_
    refine JO.nil ?_
    refine JQ.then_normal ?_
    refine JC.seq ?_
    refine JC.region ?_
    refine JO.v (Yv.move rfl) (by decide) ?_
    refine JO.lit1 Try.underlying25 info_5 rfl rfl (by simp) (by decide) (by decide) (by decide) fun v50 => ?_
    refine JO.callB (f11_spec v20 v50 [0#8, 2#8, 1#8, 44#8, 1#8, 1#8, 7#8] [0#8, 2#8, 1#8, 44#8, 1#8, 1#8, 7#8]) body_11 rfl (by repeat (first | exact Picks.nil _ | apply Picks.cons | exact Pull.here _ _ | apply Pull.there)) (by repeat (first | exact Lends.nil _ | apply Lends.cons | exact Lend.same _ _ | exact Lend.row _ _ _ _ _ _ (by decide) | apply Lend.there)) (by rintro _ _ _ ⟨_, h, _⟩; exact h) (by decide) ?_
    rintro _ _ ⟨_, ⟨rfl, _, rfl⟩, hH⟩
    simp only [List.cons_append, List.nil_append] at hH; subst hH
    rw [show decide (([0#8, 2#8, 1#8, 44#8, 1#8, 1#8, 7#8] : B8) = [0#8, 2#8, 1#8, 44#8, 1#8, 1#8, 7#8]) = true from rfl]
    refine JO.v (Yv.move rfl) (by decide) ?_
    refine JO.gt (g := 52) rfl rfl rfl ?_
    refine JO.v (Yv.move rfl) (by decide) ?_
    refine JO.gt (g := 52) rfl rfl rfl ?_
    refine JO.v (Yv.as (v' := .bool true) (Yv.bin rfl rfl BinR.eql_i) (congrArg Value.bool (by decide +kernel))) (by decide) ?_
    refine JO.v (Yv.pick1 rfl rfl rfl) (by decide) ?_
    refine JO.v (Yv.move rfl) (by decide) ?_
    refine JO.gt (g := 56) rfl rfl rfl ?_
    refine JO.v (Yv.move rfl) (by decide) ?_
    refine JO.gt (g := 56) rfl rfl rfl ?_
    refine JO.v (Yv.as (v' := .bool true) (Yv.bin rfl rfl BinR.eql_i) (congrArg Value.bool (by decide +kernel))) (by decide) ?_
    refine JO.v (Yv.pick1 rfl rfl rfl) (by decide) ?_
    refine JO.v (Yv.move rfl) (by decide) ?_
    refine JO.gt (g := 60) rfl rfl rfl ?_
    refine JO.v (Yv.move rfl) (by decide) ?_
    refine JO.gt (g := 60) rfl rfl rfl ?_
    refine JO.v (Yv.as (v' := .bool true) (Yv.bin rfl rfl (BinR.eql_u64 (b := 9#64))) (congrArg Value.bool (by decide +kernel))) (by decide) ?_
    refine JO.v (Yv.pick1 rfl rfl rfl) (by decide) ?_
    refine JO.v (Yv.move rfl) (by decide) ?_
    refine JO.gt (g := 64) rfl rfl rfl ?_
    refine JO.v (Yv.move rfl) (by decide) ?_
    refine JO.gt (g := 64) rfl rfl rfl ?_
    refine JO.v (Yv.as (v' := .bool true) (Yv.bin rfl rfl BinR.eql_i) (congrArg Value.bool (by decide +kernel))) (by decide) ?_
    refine JO.v (Yv.pick1 rfl rfl rfl) (by decide) ?_
    refine JO.v (Yv.assign rfl) (by decide) ?_
    refine JO.nil ?_
    refine JQ.then_normal ?_
    refine JC.ret ?_
    exact JQ.done (.inr rfl) (Γ' := []) (H' := []) (res1 rfl (RV.tmp rfl)) (Subs.sub (by repeat (first | exact Subs.nil _ | apply Subs.cons | exact List.Mem.head _ | refine List.Mem.tail _ ?_))) (Picks.perm (by repeat (first | exact Picks.nil _ | apply Picks.cons | exact Pull.here _ _ | apply Pull.there))) ⟨rfl, rfl, rfl⟩
end Go.Proofs.Ytogbdobncnhjpaa
