/- Walk: PortionRanges. -/
import Derived.Test.YtfcodaigdigjmaaF10
namespace Go.Proofs.Ytfcodaigdigjmaa
open Go.RowKit
set_option maxRecDepth 100000
set_option linter.unusedVariables false
set_option linter.unusedSimpArgs false

theorem f7a_spec (u : Value) (cs : List Int) (hr : rightE cs = 0) :
    Spec Try.prog 7 #[u] [Res.rd u cs.length 1 (cs.map it)] []
      (fun r Γ' H' => r = (.bool true) ∧ Γ' = [] ∧ H' = []) := by
  refine Spec.of_args Try.func7 rfl Try.ntmps7 (by simp) fun w => ?_
  have hol := own_len hr (Nat.le_refl _)
  obtain ⟨hr1, hr2, hr3⟩ := right_0 hr
  refine JC.seq ?_
  refine JC.region ?_
  refine JO.v (Yv.assign rfl) (by decide) ?_
  refine JO.nil ?_
  refine JQ.then_normal ?_
  refine JC.seq ?_
  refine JC.region ?_
  refine JO.callB f8_spec body_8 rfl (by repeat (first | exact Picks.nil _ | apply Picks.cons | exact Pull.here _ _ | apply Pull.there)) (by repeat (first | exact Lends.nil _ | apply Lends.cons | exact Lend.same _ _ | exact Lend.row _ _ _ _ _ _ (by decide) | apply Lend.there)) (by rintro _ _ _ ⟨_, h, _⟩; exact h) (by decide) ?_
  rintro _ _ ⟨_, ⟨rfl, _, rfl⟩, hH⟩
  simp only [List.cons_append, List.nil_append] at hH; subst hH
  refine JO.v (Yv.assign rfl) (by decide) ?_
  refine JO.nil ?_
  refine JQ.then_normal ?_
  refine JC.seq ?_
  refine JC.region ?_
  refine JO.v (Yv.move rfl) (by decide) ?_
  refine JO.callB (f16a_spec u cs hr) body_16 rfl (by repeat (first | exact Picks.nil _ | apply Picks.cons | exact Pull.here _ _ | apply Pull.there)) (by repeat (first | exact Lends.nil _ | apply Lends.cons | exact Lend.same _ _ | exact Lend.row _ _ _ _ _ _ (by decide) | apply Lend.there)) (by rintro _ _ _ ⟨_, _, h, _⟩; exact h) (by decide) ?_
  rintro _ _ ⟨_, ⟨v4, rfl, _, rfl⟩, hH⟩
  simp only [List.cons_append, List.nil_append] at hH; subst hH
  refine JO.v (Yv.move rfl) (by decide) ?_
  refine JO.v (Yv.as (v' := v4) (Yv.extract rfl rfl) rfl) (by decide) ?_
  refine JO.v (Yv.as (v' := it 0) (Yv.extract rfl rfl) rfl) (by decide) ?_
  refine JO.v (Yv.assign rfl) (by decide) ?_
  refine JO.v (Yv.assign rfl) (by decide) ?_
  refine JO.nil ?_
  refine JQ.then_normal ?_
  refine JC.seq ?_
  refine JC.region ?_
  refine JO.v (Yv.move rfl) (by decide) ?_
  refine JO.callB (f18a_spec u cs hr) body_18 rfl (by repeat (first | exact Picks.nil _ | apply Picks.cons | exact Pull.here _ _ | apply Pull.there)) (by repeat (first | exact Lends.nil _ | apply Lends.cons | exact Lend.same _ _ | exact Lend.row _ _ _ _ _ _ (by decide) | apply Lend.there)) (by rintro _ _ _ ⟨_, _, h, _⟩; exact h) (by decide) ?_
  rintro _ _ ⟨_, ⟨v6, rfl, _, rfl⟩, hH⟩
  simp only [List.cons_append, List.nil_append] at hH; subst hH
  refine JO.v (Yv.move rfl) (by decide) ?_
  refine JO.v (Yv.as (v' := v6) (Yv.extract rfl rfl) rfl) (by decide) ?_
  refine JO.v (Yv.as (v' := it 0) (Yv.extract rfl rfl) rfl) (by decide) ?_
  refine JO.v (Yv.assign rfl) (by decide) ?_
  refine JO.v (Yv.assign rfl) (by decide) ?_
  refine JO.nil ?_
  refine JQ.then_normal ?_
  refine JC.seq ?_
  refine JC.seq ?_
  refine JC.region ?_
  refine JO.v (Yv.move rfl) (by decide) ?_
  refine JO.v (Yv.as (v' := .bool false) (Yv.bin rfl rfl BinR.neq_i) (congrArg Value.bool (by decide +kernel))) (by decide) ?_
  refine JO.v (Yv.move rfl) (by decide) ?_
  refine JO.gt (g := 24) rfl rfl rfl ?_
  refine JO.v (Yv.move rfl) (by decide) ?_
  refine JO.gt (g := 24) rfl rfl rfl ?_
  refine JO.v (Yv.as (v' := .bool false) (Yv.bin rfl rfl BinR.neq_i) (congrArg Value.bool (by decide +kernel))) (by decide) ?_
  refine JO.v (Yv.pick0 rfl rfl rfl) (by decide) ?_
  refine JO.nil ?_
  refine JQ.then_normal ?_
  refine JC.cond rfl (fun hc1 => ?_) (fun hc1 => ?_)
  · try simp only [decide_eq_true_eq, decide_eq_false_iff_not, Bool.not_eq_true', Bool.not_eq_false', ne_eq, Decidable.not_not, Bool.not_eq_true, Bool.and_eq_true, Bool.or_eq_true, BitVec.reduceToNat] at hc1
    exact absurd hc1 (by decide)
  · try simp only [decide_eq_true_eq, decide_eq_false_iff_not, Bool.not_eq_true', Bool.not_eq_false', ne_eq, Decidable.not_not, Bool.not_eq_true, Bool.and_eq_true, Bool.or_eq_true, BitVec.reduceToNat] at hc1
    skip
    refine JC.skip ?_
    refine JQ.then_normal ?_
    refine JC.seq ?_
    refine JC.region ?_
    refine JO.v (Yv.as (v' := it (sumC cs 0)) (Yv.assign rfl) rfl) (by decide) ?_
    refine JO.nil ?_
    refine JQ.then_normal ?_
    refine JC.seq ?_
    refine JC.seq ?_
    refine JC.region ?_
    refine JO.v (Yv.as (v' := it ((0 : Nat) : Int)) (Yv.assign rfl) rfl) (by decide) ?_
    refine JO.nil ?_
    refine JQ.then_normal ?_
    refine JC.block ?_
    refine JC.loop (ι := Nat) (fun x => x ≤ cs.length) (fun x => [(0, u), (3, .bool true), (4, v4), (5, it 0), (6, v6), (7, it 0), (8, it (sumC cs x)), (9, it (x : Int))]) (fun x => [Res.rd u cs.length 1 (cs.map it)]) (fun x => [Res.row v4 (ownT cs cs.length).length 3 1 ((ownT cs cs.length).map it), Res.row v6 (rngT cs cs.length).length 40 2 (prC (rngT cs cs.length))]) (fun x => cs.length - x) 0 (by repeat (first | exact trivial | refine ⟨by first | rfl | (simp; done), ?_⟩)) (Subs.sub (by repeat (first | exact Subs.nil _ | apply Subs.cons | exact List.Mem.head _ | refine List.Mem.tail _ ?_))) (Picks.perm (by repeat (first | exact Picks.nil _ | apply Picks.cons | exact Pull.here _ _ | apply Pull.there))) ?_ (fun x hx => ?_)
    · exact Nat.zero_le _
    refine JC.seq ?_
    refine JC.seq ?_
    refine JC.region ?_
    refine JO.v (Yv.move rfl) (by decide) ?_
    refine JO.v (Yv.move rfl) (by decide) ?_
    first | refine JO.v (Yv.len_s Try.underlying37 rfl) (by decide) ?_ | refine JO.v (Yv.lenRd Try.underlying37 rfl (by repeat (first | exact Lend.same _ _ | exact Lend.row _ _ _ _ _ _ (by decide) | apply Lend.there))) (by decide) ?_
    refine JO.v (Yv.bin rfl rfl BinR.lss_i) (by decide) ?_
    refine JO.nil ?_
    refine JQ.then_normal ?_
    refine JC.cond rfl (fun hc2 => ?_) (fun hc2 => ?_)
    · try simp only [decide_eq_true_eq, decide_eq_false_iff_not, Bool.not_eq_true', Bool.not_eq_false', ne_eq, Decidable.not_not, Bool.not_eq_true, Bool.and_eq_true, Bool.or_eq_true, BitVec.reduceToNat] at hc2
      have hxl : x < cs.length := by simpa using hc2
      have hc := count_at hr hxl
      obtain ⟨c, hc1', hc2', hc3', hc4', hc5'⟩ := hc
      refine JC.skip ?_
      refine JQ.then_normal ?_
      refine JC.seq ?_
      refine JC.block ?_
      refine JC.seq ?_
      refine JC.seq ?_
      refine JC.draw (.one 0 (.one 1 (.one 2 (.one 3 (.one 4 (.one 5 (.one 6 (.one 7 (.one 8 (.one 9 (.one 10 (.one 11 (.one 12 (.one 13 (.one 14 (.one 15 (.one 16 (.one 17 (.one 18 (.one 19 (.one 20 (.one 21 (.one 22 (.one 23 (.one 24 (.one 25 (.one 26 .nil))))))))))))))))))))))))))) (fun i => ([] : List Nat).contains i) (fun i => ([] : List Nat).contains i) (fun i => ([0, 1, 2, 3, 4, 5, 6, 8, 10, 11, 12, 13, 14, 15, 17, 19, 20, 21, 24, 25, 26] : List Nat).contains i) mixed (by kernel_rfl) (by decide) (by kernel_rfl) ?_
      refine JR.u rfl rfl rfl (Yv.move rfl) (by decide) ?_
      refine JR.u rfl rfl rfl (Yv.move rfl) (by decide) ?_
      first | refine JR.u rfl rfl rfl (Yv.len_s Try.underlying25 rfl) (by decide) ?_ | refine JR.u rfl rfl rfl (Yv.lenRd Try.underlying25 rfl (by repeat (first | exact Lend.same _ _ | exact Lend.row _ _ _ _ _ _ (by decide) | apply Lend.there))) (by decide) ?_
      refine JR.u rfl rfl rfl (Yv.as (v' := .bool false) (Yv.bin rfl rfl BinR.geq_i) (congrArg Value.bool (decide_eq_false (by omega)))) (by decide) ?_
      refine JR.u rfl rfl rfl (Yv.move rfl) (by decide) ?_
      refine JR.ugt (g := 54) rfl rfl rfl rfl rfl rfl (Yv.move rfl) (by decide) ?_
      refine JR.ugt (g := 54) rfl rfl rfl rfl rfl rfl (Yv.move rfl) (by decide) ?_
      first | refine JR.vgt (g := 54) rfl rfl rfl rfl rfl rfl (Yv.indexRow Try.underlying37 sz_40 rfl rfl (by repeat (first | exact List.Mem.head _ | refine List.Mem.tail _ ?_)) (by first | exact ltb rfl | (simp; done) | (simp; omega) | omega | (simp [*]; omega))) (by decide) ?_ | refine JR.vgt (g := 54) rfl rfl rfl rfl rfl rfl (Yv.indexRd Try.underlying37 sz_40 rfl rfl (by repeat (first | exact Lend.same _ _ | exact Lend.row _ _ _ _ _ _ (by decide) | apply Lend.there)) (by decide) (by first | exact ltb rfl | (simp; done) | (simp; omega) | omega | (simp [*]; omega))) (by decide) ?_
      first | refine JR.ugt (g := 54) rfl rfl rfl rfl rfl rfl (Yv.indexArr1 (j := 0) Try.underlying40 sz_3 rfl rfl (by first | exact ltb rfl | (simp; done) | (simp; omega) | omega | (simp [*]; omega))) (by decide) ?_ | refine JR.ugt (g := 54) rfl rfl rfl rfl rfl rfl (Yv.indexArr1o (j := 0) Try.underlying40 sz_3 rfl rfl (by first | exact ltb rfl | (simp; done) | (simp; omega) | omega | (simp [*]; omega))) (by decide) ?_
      refine JR.vgt (g := 54) rfl rfl rfl rfl rfl rfl (Yv.as (v' := it (sumC cs x)) (Yv.load1 one_3 rfl (by first | exact Kn.own (by repeat (first | exact List.Mem.head _ | refine List.Mem.tail _ ?_)) (by first | exact pr_get0 (by simp; omega) | exact pr_get1 (by simp; omega) | rfl | exact tab_get (by first | omega | (simp; omega)) | exact gm (d := 0) (by first | omega | (simp; omega))) | exact Kn.ro (by repeat (first | exact List.Mem.head _ | refine List.Mem.tail _ ?_)) (by first | exact pr_get0 (by simp; omega) | exact pr_get1 (by simp; omega) | rfl | exact tab_get (by first | omega | (simp; omega)) | exact gm (d := 0) (by first | omega | (simp; omega))) | exact Kn.row (by repeat (first | exact List.Mem.head _ | refine List.Mem.tail _ ?_)) (by first | exact pr_get0 (by simp; omega) | exact pr_get1 (by simp; omega) | rfl | exact tab_get (by first | omega | (simp; omega)) | exact gm (d := 0) (by first | omega | (simp; omega))) | exact Kn.rd (by repeat (first | exact Lend.same _ _ | exact Lend.row _ _ _ _ _ _ (by decide) | apply Lend.there)) (by first | exact pr_get0 (by simp; omega) | exact pr_get1 (by simp; omega) | rfl | exact tab_get (by first | omega | (simp; omega)) | exact gm (d := 0) (by first | omega | (simp; omega))) | exact Kn.rd2 (by repeat (first | exact Lend.same _ _ | exact Lend.row _ _ _ _ _ _ (by decide) | apply Lend.there)) (by first | exact pr_get0 (by simp; omega) | exact pr_get1 (by simp; omega) | rfl | exact tab_get (by first | omega | (simp; omega)) | exact gm (d := 0) (by first | omega | (simp; omega))))) (congrArg it (by rw [rng_get (by omega)]))) (by decide) ?_
      refine JR.ugt (g := 54) rfl rfl rfl rfl rfl rfl (Yv.move rfl) (by decide) ?_
      refine JR.ugt (g := 54) rfl rfl rfl rfl rfl rfl (Yv.as (v' := .bool false) (Yv.bin rfl rfl BinR.neq_i) (congrArg Value.bool (by simp))) (by decide) ?_
      refine JR.u rfl rfl rfl (Yv.pick0 rfl rfl rfl) (by decide) ?_
      refine JR.u rfl rfl rfl (Yv.move rfl) (by decide) ?_
      refine JR.ugt (g := 63) rfl rfl rfl rfl rfl rfl (Yv.move rfl) (by decide) ?_
      refine JR.ugt (g := 63) rfl rfl rfl rfl rfl rfl (Yv.move rfl) (by decide) ?_
      first | refine JR.vgt (g := 63) rfl rfl rfl rfl rfl rfl (Yv.indexRow Try.underlying37 sz_40 rfl rfl (by repeat (first | exact List.Mem.head _ | refine List.Mem.tail _ ?_)) (by first | exact ltb rfl | (simp; done) | (simp; omega) | omega | (simp [*]; omega))) (by decide) ?_ | refine JR.vgt (g := 63) rfl rfl rfl rfl rfl rfl (Yv.indexRd Try.underlying37 sz_40 rfl rfl (by repeat (first | exact Lend.same _ _ | exact Lend.row _ _ _ _ _ _ (by decide) | apply Lend.there)) (by decide) (by first | exact ltb rfl | (simp; done) | (simp; omega) | omega | (simp [*]; omega))) (by decide) ?_
      first | refine JR.ugt (g := 63) rfl rfl rfl rfl rfl rfl (Yv.indexArr1 (j := 1) Try.underlying40 sz_3 rfl rfl (by first | exact ltb rfl | (simp; done) | (simp; omega) | omega | (simp [*]; omega))) (by decide) ?_ | refine JR.ugt (g := 63) rfl rfl rfl rfl rfl rfl (Yv.indexArr1o (j := 1) Try.underlying40 sz_3 rfl rfl (by first | exact ltb rfl | (simp; done) | (simp; omega) | omega | (simp [*]; omega))) (by decide) ?_
      refine JR.vgt (g := 63) rfl rfl rfl rfl rfl rfl (Yv.as (v' := it (sumC cs (x + 1))) (Yv.load1 one_3 rfl (by first | exact Kn.own (by repeat (first | exact List.Mem.head _ | refine List.Mem.tail _ ?_)) (by first | exact pr_get0 (by simp; omega) | exact pr_get1 (by simp; omega) | rfl | exact tab_get (by first | omega | (simp; omega)) | exact gm (d := 0) (by first | omega | (simp; omega))) | exact Kn.ro (by repeat (first | exact List.Mem.head _ | refine List.Mem.tail _ ?_)) (by first | exact pr_get0 (by simp; omega) | exact pr_get1 (by simp; omega) | rfl | exact tab_get (by first | omega | (simp; omega)) | exact gm (d := 0) (by first | omega | (simp; omega))) | exact Kn.row (by repeat (first | exact List.Mem.head _ | refine List.Mem.tail _ ?_)) (by first | exact pr_get0 (by simp; omega) | exact pr_get1 (by simp; omega) | rfl | exact tab_get (by first | omega | (simp; omega)) | exact gm (d := 0) (by first | omega | (simp; omega))) | exact Kn.rd (by repeat (first | exact Lend.same _ _ | exact Lend.row _ _ _ _ _ _ (by decide) | apply Lend.there)) (by first | exact pr_get0 (by simp; omega) | exact pr_get1 (by simp; omega) | rfl | exact tab_get (by first | omega | (simp; omega)) | exact gm (d := 0) (by first | omega | (simp; omega))) | exact Kn.rd2 (by repeat (first | exact Lend.same _ _ | exact Lend.row _ _ _ _ _ _ (by decide) | apply Lend.there)) (by first | exact pr_get0 (by simp; omega) | exact pr_get1 (by simp; omega) | rfl | exact tab_get (by first | omega | (simp; omega)) | exact gm (d := 0) (by first | omega | (simp; omega))))) (congrArg it (by rw [rng_get (by omega)]))) (by decide) ?_
      refine JR.ugt (g := 63) rfl rfl rfl rfl rfl rfl (Yv.move rfl) (by decide) ?_
      refine JR.ugt (g := 63) rfl rfl rfl rfl rfl rfl (Yv.move rfl) (by decide) ?_
      refine JR.ugt (g := 63) rfl rfl rfl rfl rfl rfl (Yv.move rfl) (by decide) ?_
      first | refine JR.vgt (g := 63) rfl rfl rfl rfl rfl rfl (Yv.indexRow1 Try.underlying25 sz_3 rfl rfl (by repeat (first | exact List.Mem.head _ | refine List.Mem.tail _ ?_)) (by first | exact ltb rfl | (simp; done) | (simp; omega) | omega | (simp [*]; omega))) (by decide) ?_ | refine JR.vgt (g := 63) rfl rfl rfl rfl rfl rfl (Yv.indexRd1 Try.underlying25 sz_3 rfl rfl (by repeat (first | exact Lend.same _ _ | exact Lend.row _ _ _ _ _ _ (by decide) | apply Lend.there)) (by first | exact ltb rfl | (simp; done) | (simp; omega) | omega | (simp [*]; omega))) (by decide) ?_
      refine JR.vgt (g := 63) rfl rfl rfl rfl rfl rfl (Yv.load1 one_3 rfl (by first | exact Kn.own (by repeat (first | exact List.Mem.head _ | refine List.Mem.tail _ ?_)) (by first | exact pr_get0 (by simp; omega) | exact pr_get1 (by simp; omega) | rfl | exact tab_get (by first | omega | (simp; omega)) | exact gm (d := 0) (by first | omega | (simp; omega))) | exact Kn.ro (by repeat (first | exact List.Mem.head _ | refine List.Mem.tail _ ?_)) (by first | exact pr_get0 (by simp; omega) | exact pr_get1 (by simp; omega) | rfl | exact tab_get (by first | omega | (simp; omega)) | exact gm (d := 0) (by first | omega | (simp; omega))) | exact Kn.row (by repeat (first | exact List.Mem.head _ | refine List.Mem.tail _ ?_)) (by first | exact pr_get0 (by simp; omega) | exact pr_get1 (by simp; omega) | rfl | exact tab_get (by first | omega | (simp; omega)) | exact gm (d := 0) (by first | omega | (simp; omega))) | exact Kn.rd (by repeat (first | exact Lend.same _ _ | exact Lend.row _ _ _ _ _ _ (by decide) | apply Lend.there)) (by first | exact pr_get0 (by simp; omega) | exact pr_get1 (by simp; omega) | rfl | exact tab_get (by first | omega | (simp; omega)) | exact gm (d := 0) (by first | omega | (simp; omega))) | exact Kn.rd2 (by repeat (first | exact Lend.same _ _ | exact Lend.row _ _ _ _ _ _ (by decide) | apply Lend.there)) (by first | exact pr_get0 (by simp; omega) | exact pr_get1 (by simp; omega) | rfl | exact tab_get (by first | omega | (simp; omega)) | exact gm (d := 0) (by first | omega | (simp; omega))))) (by decide) ?_
      refine JR.ugt (g := 63) rfl rfl rfl rfl rfl rfl (Yv.as (v' := it (sumC cs (x + 1))) (Yv.bin rfl rfl (BinR.add_i (by first | (constructor <;> omega) | (constructor <;> simp <;> omega)))) (congrArg it (sumC_succ (by omega)).symm)) (by decide) ?_
      refine JR.ugt (g := 63) rfl rfl rfl rfl rfl rfl (Yv.as (v' := .bool false) (Yv.bin rfl rfl BinR.neq_i) (congrArg Value.bool (by simp))) (by decide) ?_
      refine JR.u rfl rfl rfl (Yv.pick0 rfl rfl rfl) (by decide) ?_
      refine JR.nil ?_
      refine JQ.then_normal ?_
      refine JC.cond rfl (fun hc3 => ?_) (fun hc3 => ?_)
      · try simp only [decide_eq_true_eq, decide_eq_false_iff_not, Bool.not_eq_true', Bool.not_eq_false', ne_eq, Decidable.not_not, Bool.not_eq_true, Bool.and_eq_true, Bool.or_eq_true, BitVec.reduceToNat] at hc3
        exact absurd hc3 (by decide)
      · try simp only [decide_eq_true_eq, decide_eq_false_iff_not, Bool.not_eq_true', Bool.not_eq_false', ne_eq, Decidable.not_not, Bool.not_eq_true, Bool.and_eq_true, Bool.or_eq_true, BitVec.reduceToNat] at hc3
        skip
        refine JC.skip ?_
        refine JQ.then_normal ?_
        refine JC.region ?_
        refine JO.v (Yv.move rfl) (by decide) ?_
        refine JO.v (Yv.move rfl) (by decide) ?_
        first | refine JO.v (Yv.indexRow Try.underlying37 sz_40 rfl rfl (by repeat (first | exact List.Mem.head _ | refine List.Mem.tail _ ?_)) (by first | exact ltb rfl | (simp; done) | (simp; omega) | omega | (simp [*]; omega))) (by decide) ?_ | refine JO.v (Yv.indexRd Try.underlying37 sz_40 rfl rfl (by repeat (first | exact Lend.same _ _ | exact Lend.row _ _ _ _ _ _ (by decide) | apply Lend.there)) (by decide) (by first | exact ltb rfl | (simp; done) | (simp; omega) | omega | (simp [*]; omega))) (by decide) ?_
        first | refine JO.v (Yv.indexArr1 (j := 1) Try.underlying40 sz_3 rfl rfl (by first | exact ltb rfl | (simp; done) | (simp; omega) | omega | (simp [*]; omega))) (by decide) ?_ | refine JO.v (Yv.indexArr1o (j := 1) Try.underlying40 sz_3 rfl rfl (by first | exact ltb rfl | (simp; done) | (simp; omega) | omega | (simp [*]; omega))) (by decide) ?_
        refine JO.v (Yv.as (v' := it (sumC cs (x + 1))) (Yv.load1 one_3 rfl (by first | exact Kn.own (by repeat (first | exact List.Mem.head _ | refine List.Mem.tail _ ?_)) (by first | exact pr_get0 (by simp; omega) | exact pr_get1 (by simp; omega) | rfl | exact tab_get (by first | omega | (simp; omega)) | exact gm (d := 0) (by first | omega | (simp; omega))) | exact Kn.ro (by repeat (first | exact List.Mem.head _ | refine List.Mem.tail _ ?_)) (by first | exact pr_get0 (by simp; omega) | exact pr_get1 (by simp; omega) | rfl | exact tab_get (by first | omega | (simp; omega)) | exact gm (d := 0) (by first | omega | (simp; omega))) | exact Kn.row (by repeat (first | exact List.Mem.head _ | refine List.Mem.tail _ ?_)) (by first | exact pr_get0 (by simp; omega) | exact pr_get1 (by simp; omega) | rfl | exact tab_get (by first | omega | (simp; omega)) | exact gm (d := 0) (by first | omega | (simp; omega))) | exact Kn.rd (by repeat (first | exact Lend.same _ _ | exact Lend.row _ _ _ _ _ _ (by decide) | apply Lend.there)) (by first | exact pr_get0 (by simp; omega) | exact pr_get1 (by simp; omega) | rfl | exact tab_get (by first | omega | (simp; omega)) | exact gm (d := 0) (by first | omega | (simp; omega))) | exact Kn.rd2 (by repeat (first | exact Lend.same _ _ | exact Lend.row _ _ _ _ _ _ (by decide) | apply Lend.there)) (by first | exact pr_get0 (by simp; omega) | exact pr_get1 (by simp; omega) | rfl | exact tab_get (by first | omega | (simp; omega)) | exact gm (d := 0) (by first | omega | (simp; omega))))) (congrArg it (by rw [rng_get (by omega)]))) (by decide) ?_
        refine JO.v (Yv.assign rfl) (by decide) ?_
        refine JO.nil ?_
        refine JQ.block_normal ?_
        refine JQ.then_normal ?_
        refine JC.region ?_
        refine JO.v (Yv.move rfl) (by decide) ?_
        refine JO.v (Yv.as (v' := it ((x + 1 : Nat) : Int)) (Yv.bin rfl rfl (BinR.add_i (by first | (constructor <;> omega) | (constructor <;> simp <;> omega)))) (congrArg it (by omega))) (by decide) ?_
        refine JO.v (Yv.assign rfl) (by decide) ?_
        refine JO.nil ?_
        refine JQ.head (x + 1) (by repeat (first | exact trivial | refine ⟨by first | rfl | (simp; done), ?_⟩)) (Subs.sub (by repeat (first | exact Subs.nil _ | apply Subs.cons | exact List.Mem.head _ | refine List.Mem.tail _ ?_))) (Picks.perm (by repeat (first | exact Picks.nil _ | apply Picks.cons | exact Pull.here _ _ | apply Pull.there))) ?_
        exact ⟨by omega, by omega⟩
    · try simp only [decide_eq_true_eq, decide_eq_false_iff_not, Bool.not_eq_true', Bool.not_eq_false', ne_eq, Decidable.not_not, Bool.not_eq_true, Bool.and_eq_true, Bool.or_eq_true, BitVec.reduceToNat] at hc2
      obtain rfl : x = cs.length := by have : cs.length ≤ x := by simpa using hc2
                                       omega
      refine JC.exit ?_
      refine JQ.then_exit ?_
      refine JQ.then_exit ?_
      refine JQ.block_exit ?_
      refine JQ.then_normal ?_
      refine JC.seq ?_
      refine JC.seq ?_
      refine JC.region ?_
      refine JO.v (Yv.assign rfl) (by decide) ?_
      refine JO.nil ?_
      refine JQ.then_normal ?_
      refine JC.block ?_
      refine JC.loop (ι := Nat) (fun x => x ≤ (ownT cs cs.length).length) (fun x => [(0, u), (3, .bool true), (4, v4), (6, v6), (8, it (sumC cs cs.length)), (10, it (x : Int))]) (fun x => [Res.rd u cs.length 1 (cs.map it)]) (fun x => [Res.row v4 (ownT cs cs.length).length 3 1 ((ownT cs cs.length).map it), Res.row v6 (rngT cs cs.length).length 40 2 (prC (rngT cs cs.length))]) (fun x => (ownT cs cs.length).length - x) 0 (by repeat (first | exact trivial | refine ⟨by first | rfl | (simp; done), ?_⟩)) (Subs.sub (by repeat (first | exact Subs.nil _ | apply Subs.cons | exact List.Mem.head _ | refine List.Mem.tail _ ?_))) (Picks.perm (by repeat (first | exact Picks.nil _ | apply Picks.cons | exact Pull.here _ _ | apply Pull.there))) ?_ (fun x hx => ?_)
      · exact Nat.zero_le _
      refine JC.seq ?_
      refine JC.seq ?_
      refine JC.region ?_
      refine JO.v (Yv.move rfl) (by decide) ?_
      refine JO.v (Yv.move rfl) (by decide) ?_
      first | refine JO.v (Yv.len_s Try.underlying25 rfl) (by decide) ?_ | refine JO.v (Yv.lenRd Try.underlying25 rfl (by repeat (first | exact Lend.same _ _ | exact Lend.row _ _ _ _ _ _ (by decide) | apply Lend.there))) (by decide) ?_
      refine JO.v (Yv.bin rfl rfl BinR.lss_i) (by decide) ?_
      refine JO.nil ?_
      refine JQ.then_normal ?_
      refine JC.cond rfl (fun hc4 => ?_) (fun hc4 => ?_)
      · try simp only [decide_eq_true_eq, decide_eq_false_iff_not, Bool.not_eq_true', Bool.not_eq_false', ne_eq, Decidable.not_not, Bool.not_eq_true, Bool.and_eq_true, Bool.or_eq_true, BitVec.reduceToNat] at hc4
        have hxl : x < (ownT cs cs.length).length := by omega
        obtain ⟨o, ho1, ho2, ho3, ho4⟩ := own_at hr (Nat.le_refl _) hxl
        refine JC.skip ?_
        refine JQ.then_normal ?_
        refine JC.seq ?_
        refine JC.block ?_
        refine JC.seq ?_
        refine JC.region ?_
        refine JO.v (Yv.move rfl) (by decide) ?_
        refine JO.v (Yv.move rfl) (by decide) ?_
        first | refine JO.v (Yv.indexRow1 Try.underlying25 sz_3 rfl rfl (by repeat (first | exact List.Mem.head _ | refine List.Mem.tail _ ?_)) (by first | exact ltb rfl | (simp; done) | (simp; omega) | omega | (simp [*]; omega))) (by decide) ?_ | refine JO.v (Yv.indexRd1 Try.underlying25 sz_3 rfl rfl (by repeat (first | exact Lend.same _ _ | exact Lend.row _ _ _ _ _ _ (by decide) | apply Lend.there)) (by first | exact ltb rfl | (simp; done) | (simp; omega) | omega | (simp [*]; omega))) (by decide) ?_
        refine JO.v (Yv.as (v' := it (o : Int)) (Yv.load1 one_3 rfl (by first | exact Kn.own (by repeat (first | exact List.Mem.head _ | refine List.Mem.tail _ ?_)) (by first | exact pr_get0 (by simp; omega) | exact pr_get1 (by simp; omega) | rfl | exact tab_get (by first | omega | (simp; omega)) | exact gm (d := 0) (by first | omega | (simp; omega))) | exact Kn.ro (by repeat (first | exact List.Mem.head _ | refine List.Mem.tail _ ?_)) (by first | exact pr_get0 (by simp; omega) | exact pr_get1 (by simp; omega) | rfl | exact tab_get (by first | omega | (simp; omega)) | exact gm (d := 0) (by first | omega | (simp; omega))) | exact Kn.row (by repeat (first | exact List.Mem.head _ | refine List.Mem.tail _ ?_)) (by first | exact pr_get0 (by simp; omega) | exact pr_get1 (by simp; omega) | rfl | exact tab_get (by first | omega | (simp; omega)) | exact gm (d := 0) (by first | omega | (simp; omega))) | exact Kn.rd (by repeat (first | exact Lend.same _ _ | exact Lend.row _ _ _ _ _ _ (by decide) | apply Lend.there)) (by first | exact pr_get0 (by simp; omega) | exact pr_get1 (by simp; omega) | rfl | exact tab_get (by first | omega | (simp; omega)) | exact gm (d := 0) (by first | omega | (simp; omega))) | exact Kn.rd2 (by repeat (first | exact Lend.same _ _ | exact Lend.row _ _ _ _ _ _ (by decide) | apply Lend.there)) (by first | exact pr_get0 (by simp; omega) | exact pr_get1 (by simp; omega) | rfl | exact tab_get (by first | omega | (simp; omega)) | exact gm (d := 0) (by first | omega | (simp; omega))))) (congrArg it ho1)) (by decide) ?_
        refine JO.v (Yv.as (v' := .bool false) (Yv.bin rfl rfl BinR.lss_i) (congrArg Value.bool (decide_eq_false (by omega)))) (by decide) ?_
        refine JO.v (Yv.move rfl) (by decide) ?_
        refine JO.gt (g := 93) rfl rfl rfl ?_
        refine JO.v (Yv.move rfl) (by decide) ?_
        refine JO.gt (g := 93) rfl rfl rfl ?_
        refine JO.v (Yv.move rfl) (by decide) ?_
        refine JO.gt (g := 93) rfl rfl rfl ?_
        first | refine JO.v (Yv.indexRow1 Try.underlying25 sz_3 rfl rfl (by repeat (first | exact List.Mem.head _ | refine List.Mem.tail _ ?_)) (by first | exact ltb rfl | (simp; done) | (simp; omega) | omega | (simp [*]; omega))) (by decide) ?_ | refine JO.v (Yv.indexRd1 Try.underlying25 sz_3 rfl rfl (by repeat (first | exact Lend.same _ _ | exact Lend.row _ _ _ _ _ _ (by decide) | apply Lend.there)) (by first | exact ltb rfl | (simp; done) | (simp; omega) | omega | (simp [*]; omega))) (by decide) ?_
        refine JO.gt (g := 93) rfl rfl rfl ?_
        refine JO.v (Yv.as (v' := it (o : Int)) (Yv.load1 one_3 rfl (by first | exact Kn.own (by repeat (first | exact List.Mem.head _ | refine List.Mem.tail _ ?_)) (by first | exact pr_get0 (by simp; omega) | exact pr_get1 (by simp; omega) | rfl | exact tab_get (by first | omega | (simp; omega)) | exact gm (d := 0) (by first | omega | (simp; omega))) | exact Kn.ro (by repeat (first | exact List.Mem.head _ | refine List.Mem.tail _ ?_)) (by first | exact pr_get0 (by simp; omega) | exact pr_get1 (by simp; omega) | rfl | exact tab_get (by first | omega | (simp; omega)) | exact gm (d := 0) (by first | omega | (simp; omega))) | exact Kn.row (by repeat (first | exact List.Mem.head _ | refine List.Mem.tail _ ?_)) (by first | exact pr_get0 (by simp; omega) | exact pr_get1 (by simp; omega) | rfl | exact tab_get (by first | omega | (simp; omega)) | exact gm (d := 0) (by first | omega | (simp; omega))) | exact Kn.rd (by repeat (first | exact Lend.same _ _ | exact Lend.row _ _ _ _ _ _ (by decide) | apply Lend.there)) (by first | exact pr_get0 (by simp; omega) | exact pr_get1 (by simp; omega) | rfl | exact tab_get (by first | omega | (simp; omega)) | exact gm (d := 0) (by first | omega | (simp; omega))) | exact Kn.rd2 (by repeat (first | exact Lend.same _ _ | exact Lend.row _ _ _ _ _ _ (by decide) | apply Lend.there)) (by first | exact pr_get0 (by simp; omega) | exact pr_get1 (by simp; omega) | rfl | exact tab_get (by first | omega | (simp; omega)) | exact gm (d := 0) (by first | omega | (simp; omega))))) (congrArg it ho1)) (by decide) ?_
        refine JO.gt (g := 93) rfl rfl rfl ?_
        refine JO.v (Yv.move rfl) (by decide) ?_
        refine JO.gt (g := 93) rfl rfl rfl ?_
        first | refine JO.v (Yv.len_s Try.underlying37 rfl) (by decide) ?_ | refine JO.v (Yv.lenRd Try.underlying37 rfl (by repeat (first | exact Lend.same _ _ | exact Lend.row _ _ _ _ _ _ (by decide) | apply Lend.there))) (by decide) ?_
        refine JO.gt (g := 93) rfl rfl rfl ?_
        refine JO.v (Yv.as (v' := .bool false) (Yv.bin rfl rfl BinR.geq_i) (congrArg Value.bool (decide_eq_false (by simp; omega)))) (by decide) ?_
        refine JO.v (Yv.pick0 rfl rfl rfl) (by decide) ?_
        refine JO.v (Yv.move rfl) (by decide) ?_
        refine JO.gt (g := 102) rfl rfl rfl ?_
        refine JO.v (Yv.move rfl) (by decide) ?_
        refine JO.gt (g := 102) rfl rfl rfl ?_
        refine JO.v (Yv.move rfl) (by decide) ?_
        refine JO.gt (g := 102) rfl rfl rfl ?_
        refine JO.v (Yv.move rfl) (by decide) ?_
        refine JO.gt (g := 102) rfl rfl rfl ?_
        refine JO.v (Yv.move rfl) (by decide) ?_
        refine JO.gt (g := 102) rfl rfl rfl ?_
        first | refine JO.v (Yv.indexRow1 Try.underlying25 sz_3 rfl rfl (by repeat (first | exact List.Mem.head _ | refine List.Mem.tail _ ?_)) (by first | exact ltb rfl | (simp; done) | (simp; omega) | omega | (simp [*]; omega))) (by decide) ?_ | refine JO.v (Yv.indexRd1 Try.underlying25 sz_3 rfl rfl (by repeat (first | exact Lend.same _ _ | exact Lend.row _ _ _ _ _ _ (by decide) | apply Lend.there)) (by first | exact ltb rfl | (simp; done) | (simp; omega) | omega | (simp [*]; omega))) (by decide) ?_
        refine JO.gt (g := 102) rfl rfl rfl ?_
        refine JO.v (Yv.as (v' := it (o : Int)) (Yv.load1 one_3 rfl (by first | exact Kn.own (by repeat (first | exact List.Mem.head _ | refine List.Mem.tail _ ?_)) (by first | exact pr_get0 (by simp; omega) | exact pr_get1 (by simp; omega) | rfl | exact tab_get (by first | omega | (simp; omega)) | exact gm (d := 0) (by first | omega | (simp; omega))) | exact Kn.ro (by repeat (first | exact List.Mem.head _ | refine List.Mem.tail _ ?_)) (by first | exact pr_get0 (by simp; omega) | exact pr_get1 (by simp; omega) | rfl | exact tab_get (by first | omega | (simp; omega)) | exact gm (d := 0) (by first | omega | (simp; omega))) | exact Kn.row (by repeat (first | exact List.Mem.head _ | refine List.Mem.tail _ ?_)) (by first | exact pr_get0 (by simp; omega) | exact pr_get1 (by simp; omega) | rfl | exact tab_get (by first | omega | (simp; omega)) | exact gm (d := 0) (by first | omega | (simp; omega))) | exact Kn.rd (by repeat (first | exact Lend.same _ _ | exact Lend.row _ _ _ _ _ _ (by decide) | apply Lend.there)) (by first | exact pr_get0 (by simp; omega) | exact pr_get1 (by simp; omega) | rfl | exact tab_get (by first | omega | (simp; omega)) | exact gm (d := 0) (by first | omega | (simp; omega))) | exact Kn.rd2 (by repeat (first | exact Lend.same _ _ | exact Lend.row _ _ _ _ _ _ (by decide) | apply Lend.there)) (by first | exact pr_get0 (by simp; omega) | exact pr_get1 (by simp; omega) | rfl | exact tab_get (by first | omega | (simp; omega)) | exact gm (d := 0) (by first | omega | (simp; omega))))) (congrArg it ho1)) (by decide) ?_
        refine JO.gt (g := 102) rfl rfl rfl ?_
        first | refine JO.v (Yv.indexRow Try.underlying37 sz_40 rfl rfl (by repeat (first | exact List.Mem.head _ | refine List.Mem.tail _ ?_)) (by first | exact ltb rfl | (simp; done) | (simp; omega) | omega | (simp [*]; omega))) (by decide) ?_ | refine JO.v (Yv.indexRd Try.underlying37 sz_40 rfl rfl (by repeat (first | exact Lend.same _ _ | exact Lend.row _ _ _ _ _ _ (by decide) | apply Lend.there)) (by decide) (by first | exact ltb rfl | (simp; done) | (simp; omega) | omega | (simp [*]; omega))) (by decide) ?_
        refine JO.gt (g := 102) rfl rfl rfl ?_
        first | refine JO.v (Yv.indexArr1 (j := 0) Try.underlying40 sz_3 rfl rfl (by first | exact ltb rfl | (simp; done) | (simp; omega) | omega | (simp [*]; omega))) (by decide) ?_ | refine JO.v (Yv.indexArr1o (j := 0) Try.underlying40 sz_3 rfl rfl (by first | exact ltb rfl | (simp; done) | (simp; omega) | omega | (simp [*]; omega))) (by decide) ?_
        refine JO.gt (g := 102) rfl rfl rfl ?_
        refine JO.v (Yv.as (v' := it (sumC cs o)) (Yv.load1 one_3 rfl (by first | exact Kn.own (by repeat (first | exact List.Mem.head _ | refine List.Mem.tail _ ?_)) (by first | exact pr_get0 (by simp; omega) | exact pr_get1 (by simp; omega) | rfl | exact tab_get (by first | omega | (simp; omega)) | exact gm (d := 0) (by first | omega | (simp; omega))) | exact Kn.ro (by repeat (first | exact List.Mem.head _ | refine List.Mem.tail _ ?_)) (by first | exact pr_get0 (by simp; omega) | exact pr_get1 (by simp; omega) | rfl | exact tab_get (by first | omega | (simp; omega)) | exact gm (d := 0) (by first | omega | (simp; omega))) | exact Kn.row (by repeat (first | exact List.Mem.head _ | refine List.Mem.tail _ ?_)) (by first | exact pr_get0 (by simp; omega) | exact pr_get1 (by simp; omega) | rfl | exact tab_get (by first | omega | (simp; omega)) | exact gm (d := 0) (by first | omega | (simp; omega))) | exact Kn.rd (by repeat (first | exact Lend.same _ _ | exact Lend.row _ _ _ _ _ _ (by decide) | apply Lend.there)) (by first | exact pr_get0 (by simp; omega) | exact pr_get1 (by simp; omega) | rfl | exact tab_get (by first | omega | (simp; omega)) | exact gm (d := 0) (by first | omega | (simp; omega))) | exact Kn.rd2 (by repeat (first | exact Lend.same _ _ | exact Lend.row _ _ _ _ _ _ (by decide) | apply Lend.there)) (by first | exact pr_get0 (by simp; omega) | exact pr_get1 (by simp; omega) | rfl | exact tab_get (by first | omega | (simp; omega)) | exact gm (d := 0) (by first | omega | (simp; omega))))) (congrArg it (by rw [rng_get (by omega)]))) (by decide) ?_
        refine JO.gt (g := 102) rfl rfl rfl ?_
        refine JO.v (Yv.as (v' := .bool false) (Yv.bin rfl rfl BinR.lss_i) (congrArg Value.bool (decide_eq_false (by omega)))) (by decide) ?_
        refine JO.v (Yv.pick0 rfl rfl rfl) (by decide) ?_
        refine JO.v (Yv.move rfl) (by decide) ?_
        refine JO.gt (g := 114) rfl rfl rfl ?_
        refine JO.v (Yv.move rfl) (by decide) ?_
        refine JO.gt (g := 114) rfl rfl rfl ?_
        refine JO.v (Yv.move rfl) (by decide) ?_
        refine JO.gt (g := 114) rfl rfl rfl ?_
        refine JO.v (Yv.move rfl) (by decide) ?_
        refine JO.gt (g := 114) rfl rfl rfl ?_
        refine JO.v (Yv.move rfl) (by decide) ?_
        refine JO.gt (g := 114) rfl rfl rfl ?_
        first | refine JO.v (Yv.indexRow1 Try.underlying25 sz_3 rfl rfl (by repeat (first | exact List.Mem.head _ | refine List.Mem.tail _ ?_)) (by first | exact ltb rfl | (simp; done) | (simp; omega) | omega | (simp [*]; omega))) (by decide) ?_ | refine JO.v (Yv.indexRd1 Try.underlying25 sz_3 rfl rfl (by repeat (first | exact Lend.same _ _ | exact Lend.row _ _ _ _ _ _ (by decide) | apply Lend.there)) (by first | exact ltb rfl | (simp; done) | (simp; omega) | omega | (simp [*]; omega))) (by decide) ?_
        refine JO.gt (g := 114) rfl rfl rfl ?_
        refine JO.v (Yv.as (v' := it (o : Int)) (Yv.load1 one_3 rfl (by first | exact Kn.own (by repeat (first | exact List.Mem.head _ | refine List.Mem.tail _ ?_)) (by first | exact pr_get0 (by simp; omega) | exact pr_get1 (by simp; omega) | rfl | exact tab_get (by first | omega | (simp; omega)) | exact gm (d := 0) (by first | omega | (simp; omega))) | exact Kn.ro (by repeat (first | exact List.Mem.head _ | refine List.Mem.tail _ ?_)) (by first | exact pr_get0 (by simp; omega) | exact pr_get1 (by simp; omega) | rfl | exact tab_get (by first | omega | (simp; omega)) | exact gm (d := 0) (by first | omega | (simp; omega))) | exact Kn.row (by repeat (first | exact List.Mem.head _ | refine List.Mem.tail _ ?_)) (by first | exact pr_get0 (by simp; omega) | exact pr_get1 (by simp; omega) | rfl | exact tab_get (by first | omega | (simp; omega)) | exact gm (d := 0) (by first | omega | (simp; omega))) | exact Kn.rd (by repeat (first | exact Lend.same _ _ | exact Lend.row _ _ _ _ _ _ (by decide) | apply Lend.there)) (by first | exact pr_get0 (by simp; omega) | exact pr_get1 (by simp; omega) | rfl | exact tab_get (by first | omega | (simp; omega)) | exact gm (d := 0) (by first | omega | (simp; omega))) | exact Kn.rd2 (by repeat (first | exact Lend.same _ _ | exact Lend.row _ _ _ _ _ _ (by decide) | apply Lend.there)) (by first | exact pr_get0 (by simp; omega) | exact pr_get1 (by simp; omega) | rfl | exact tab_get (by first | omega | (simp; omega)) | exact gm (d := 0) (by first | omega | (simp; omega))))) (congrArg it ho1)) (by decide) ?_
        refine JO.gt (g := 114) rfl rfl rfl ?_
        first | refine JO.v (Yv.indexRow Try.underlying37 sz_40 rfl rfl (by repeat (first | exact List.Mem.head _ | refine List.Mem.tail _ ?_)) (by first | exact ltb rfl | (simp; done) | (simp; omega) | omega | (simp [*]; omega))) (by decide) ?_ | refine JO.v (Yv.indexRd Try.underlying37 sz_40 rfl rfl (by repeat (first | exact Lend.same _ _ | exact Lend.row _ _ _ _ _ _ (by decide) | apply Lend.there)) (by decide) (by first | exact ltb rfl | (simp; done) | (simp; omega) | omega | (simp [*]; omega))) (by decide) ?_
        refine JO.gt (g := 114) rfl rfl rfl ?_
        first | refine JO.v (Yv.indexArr1 (j := 1) Try.underlying40 sz_3 rfl rfl (by first | exact ltb rfl | (simp; done) | (simp; omega) | omega | (simp [*]; omega))) (by decide) ?_ | refine JO.v (Yv.indexArr1o (j := 1) Try.underlying40 sz_3 rfl rfl (by first | exact ltb rfl | (simp; done) | (simp; omega) | omega | (simp [*]; omega))) (by decide) ?_
        refine JO.gt (g := 114) rfl rfl rfl ?_
        refine JO.v (Yv.as (v' := it (sumC cs (o + 1))) (Yv.load1 one_3 rfl (by first | exact Kn.own (by repeat (first | exact List.Mem.head _ | refine List.Mem.tail _ ?_)) (by first | exact pr_get0 (by simp; omega) | exact pr_get1 (by simp; omega) | rfl | exact tab_get (by first | omega | (simp; omega)) | exact gm (d := 0) (by first | omega | (simp; omega))) | exact Kn.ro (by repeat (first | exact List.Mem.head _ | refine List.Mem.tail _ ?_)) (by first | exact pr_get0 (by simp; omega) | exact pr_get1 (by simp; omega) | rfl | exact tab_get (by first | omega | (simp; omega)) | exact gm (d := 0) (by first | omega | (simp; omega))) | exact Kn.row (by repeat (first | exact List.Mem.head _ | refine List.Mem.tail _ ?_)) (by first | exact pr_get0 (by simp; omega) | exact pr_get1 (by simp; omega) | rfl | exact tab_get (by first | omega | (simp; omega)) | exact gm (d := 0) (by first | omega | (simp; omega))) | exact Kn.rd (by repeat (first | exact Lend.same _ _ | exact Lend.row _ _ _ _ _ _ (by decide) | apply Lend.there)) (by first | exact pr_get0 (by simp; omega) | exact pr_get1 (by simp; omega) | rfl | exact tab_get (by first | omega | (simp; omega)) | exact gm (d := 0) (by first | omega | (simp; omega))) | exact Kn.rd2 (by repeat (first | exact Lend.same _ _ | exact Lend.row _ _ _ _ _ _ (by decide) | apply Lend.there)) (by first | exact pr_get0 (by simp; omega) | exact pr_get1 (by simp; omega) | rfl | exact tab_get (by first | omega | (simp; omega)) | exact gm (d := 0) (by first | omega | (simp; omega))))) (congrArg it (by rw [rng_get (by omega)]))) (by decide) ?_
        refine JO.gt (g := 114) rfl rfl rfl ?_
        refine JO.v (Yv.as (v' := .bool false) (Yv.bin rfl rfl BinR.geq_i) (congrArg Value.bool (decide_eq_false (by omega)))) (by decide) ?_
        refine JO.v (Yv.pick0 rfl rfl rfl) (by decide) ?_
        refine JO.nil ?_
        refine JQ.then_normal ?_
        refine JC.cond rfl (fun hc5 => ?_) (fun hc5 => ?_)
        · try simp only [decide_eq_true_eq, decide_eq_false_iff_not, Bool.not_eq_true', Bool.not_eq_false', ne_eq, Decidable.not_not, Bool.not_eq_true, Bool.and_eq_true, Bool.or_eq_true, BitVec.reduceToNat] at hc5
          exact absurd hc5 (by decide)
        · try simp only [decide_eq_true_eq, decide_eq_false_iff_not, Bool.not_eq_true', Bool.not_eq_false', ne_eq, Decidable.not_not, Bool.not_eq_true, Bool.and_eq_true, Bool.or_eq_true, BitVec.reduceToNat] at hc5
          skip
          refine JC.skip ?_
          refine JQ.block_normal ?_
          refine JQ.then_normal ?_
          refine JC.region ?_
          refine JO.v (Yv.move rfl) (by decide) ?_
          refine JO.v (Yv.as (v' := it ((x + 1 : Nat) : Int)) (Yv.bin rfl rfl (BinR.add_i (by first | (constructor <;> omega) | (constructor <;> simp <;> omega)))) (congrArg it (by omega))) (by decide) ?_
          refine JO.v (Yv.assign rfl) (by decide) ?_
          refine JO.nil ?_
          refine JQ.head (x + 1) (by repeat (first | exact trivial | refine ⟨by first | rfl | (simp; done), ?_⟩)) (Subs.sub (by repeat (first | exact Subs.nil _ | apply Subs.cons | exact List.Mem.head _ | refine List.Mem.tail _ ?_))) (Picks.perm (by repeat (first | exact Picks.nil _ | apply Picks.cons | exact Pull.here _ _ | apply Pull.there))) ?_
          exact ⟨by omega, by omega⟩
      · try simp only [decide_eq_true_eq, decide_eq_false_iff_not, Bool.not_eq_true', Bool.not_eq_false', ne_eq, Decidable.not_not, Bool.not_eq_true, Bool.and_eq_true, Bool.or_eq_true, BitVec.reduceToNat] at hc4
        obtain rfl : x = (ownT cs cs.length).length := by omega
        refine JC.exit ?_
        refine JQ.then_exit ?_
        refine JQ.then_exit ?_
        refine JQ.block_exit ?_
        refine JQ.then_normal ?_
        refine JC.seq ?_
        refine JC.region ?_
        refine JO.v (Yv.move rfl) (by decide) ?_
        refine JO.v (Yv.move rfl) (by decide) ?_
        refine JO.gt (g := 127) rfl rfl rfl ?_
        refine JO.v (Yv.move rfl) (by decide) ?_
        refine JO.gt (g := 127) rfl rfl rfl ?_
        first | refine JO.v (Yv.len_s Try.underlying25 rfl) (by decide) ?_ | refine JO.v (Yv.lenRd Try.underlying25 rfl (by repeat (first | exact Lend.same _ _ | exact Lend.row _ _ _ _ _ _ (by decide) | apply Lend.there))) (by decide) ?_
        refine JO.gt (g := 127) rfl rfl rfl ?_
        refine JO.v (Yv.move rfl) (by decide) ?_
        refine JO.gt (g := 127) rfl rfl rfl ?_
        refine JO.v (Yv.as (v' := .bool true) (Yv.bin rfl rfl BinR.eql_i) (congrArg Value.bool (decide_eq_true hol))) (by decide) ?_
        refine JO.v (Yv.pick1 rfl rfl rfl) (by decide) ?_
        refine JO.v (Yv.move rfl) (by decide) ?_
        refine JO.gt (g := 133) rfl rfl rfl ?_
        refine JO.v (Yv.move rfl) (by decide) ?_
        refine JO.gt (g := 133) rfl rfl rfl ?_
        first | refine JO.v (Yv.len_s Try.underlying37 rfl) (by decide) ?_ | refine JO.v (Yv.lenRd Try.underlying37 rfl (by repeat (first | exact Lend.same _ _ | exact Lend.row _ _ _ _ _ _ (by decide) | apply Lend.there))) (by decide) ?_
        refine JO.gt (g := 133) rfl rfl rfl ?_
        refine JO.v (Yv.move rfl) (by decide) ?_
        refine JO.gt (g := 133) rfl rfl rfl ?_
        first | refine JO.v (Yv.len_s Try.underlying25 rfl) (by decide) ?_ | refine JO.v (Yv.lenRd Try.underlying25 rfl (by repeat (first | exact Lend.same _ _ | exact Lend.row _ _ _ _ _ _ (by decide) | apply Lend.there))) (by decide) ?_
        refine JO.gt (g := 133) rfl rfl rfl ?_
        refine JO.v (Yv.as (v' := .bool true) (Yv.bin rfl rfl BinR.eql_i) (congrArg Value.bool (decide_eq_true (by simp)))) (by decide) ?_
        refine JO.v (Yv.pick1 rfl rfl rfl) (by decide) ?_
        refine JO.v (Yv.assign rfl) (by decide) ?_
        refine JO.nil ?_
        refine JQ.then_normal ?_
        refine JC.ret ?_
        exact JQ.done (.inr rfl) (Γ' := []) (H' := []) (res1 rfl (RV.tmp rfl)) (Subs.sub (by repeat (first | exact Subs.nil _ | apply Subs.cons | exact List.Mem.head _ | refine List.Mem.tail _ ?_))) (Picks.perm (by repeat (first | exact Picks.nil _ | apply Picks.cons | exact Pull.here _ _ | apply Pull.there))) ⟨rfl, rfl, rfl⟩


theorem f7b_spec (u : Value) (cs : List Int) (hr : rightE cs ≠ 0) :
    Spec Try.prog 7 #[u] [Res.rd u cs.length 1 (cs.map it)] []
      (fun r Γ' H' => r = (.bool true) ∧ Γ' = [] ∧ H' = []) := by
  refine Spec.of_args Try.func7 rfl Try.ntmps7 (by simp) fun w => ?_
  refine JC.seq ?_
  refine JC.region ?_
  refine JO.v (Yv.assign rfl) (by decide) ?_
  refine JO.nil ?_
  refine JQ.then_normal ?_
  refine JC.seq ?_
  refine JC.region ?_
  refine JO.callB f8_spec body_8 rfl (by repeat (first | exact Picks.nil _ | apply Picks.cons | exact Pull.here _ _ | apply Pull.there)) (by repeat (first | exact Lends.nil _ | apply Lends.cons | exact Lend.same _ _ | exact Lend.row _ _ _ _ _ _ (by decide) | apply Lend.there)) (by rintro _ _ _ ⟨_, h, _⟩; exact h) (by decide) ?_
  rintro _ _ ⟨_, ⟨rfl, _, rfl⟩, hH⟩
  simp only [List.cons_append, List.nil_append] at hH; subst hH
  refine JO.v (Yv.assign rfl) (by decide) ?_
  refine JO.nil ?_
  refine JQ.then_normal ?_
  refine JC.seq ?_
  refine JC.region ?_
  refine JO.v (Yv.move rfl) (by decide) ?_
  refine JO.callB (f16b_spec u cs hr) body_16 rfl (by repeat (first | exact Picks.nil _ | apply Picks.cons | exact Pull.here _ _ | apply Pull.there)) (by repeat (first | exact Lends.nil _ | apply Lends.cons | exact Lend.same _ _ | exact Lend.row _ _ _ _ _ _ (by decide) | apply Lend.there)) (by rintro _ _ _ ⟨_, h, _⟩; exact h) (by decide) ?_
  rintro _ _ ⟨_, ⟨rfl, _, rfl⟩, hH⟩
  simp only [List.cons_append, List.nil_append] at hH; subst hH
  refine JO.v (Yv.move rfl) (by decide) ?_
  refine JO.v (Yv.as (v' := .slice none 0 0) (Yv.extract rfl rfl) rfl) (by decide) ?_
  refine JO.v (Yv.as (v' := it 1) (Yv.extract rfl rfl) rfl) (by decide) ?_
  refine JO.v (Yv.assign rfl) (by decide) ?_
  refine JO.v (Yv.assign rfl) (by decide) ?_
  refine JO.nil ?_
  refine JQ.then_normal ?_
  refine JC.seq ?_
  refine JC.region ?_
  refine JO.v (Yv.move rfl) (by decide) ?_
  refine JO.callB (f18b_spec u cs hr) body_18 rfl (by repeat (first | exact Picks.nil _ | apply Picks.cons | exact Pull.here _ _ | apply Pull.there)) (by repeat (first | exact Lends.nil _ | apply Lends.cons | exact Lend.same _ _ | exact Lend.row _ _ _ _ _ _ (by decide) | apply Lend.there)) (by rintro _ _ _ ⟨_, h, _⟩; exact h) (by decide) ?_
  rintro _ _ ⟨_, ⟨rfl, _, rfl⟩, hH⟩
  simp only [List.cons_append, List.nil_append] at hH; subst hH
  refine JO.v (Yv.move rfl) (by decide) ?_
  refine JO.v (Yv.as (v' := .slice none 0 0) (Yv.extract rfl rfl) rfl) (by decide) ?_
  refine JO.v (Yv.as (v' := it 1) (Yv.extract rfl rfl) rfl) (by decide) ?_
  refine JO.v (Yv.assign rfl) (by decide) ?_
  refine JO.v (Yv.assign rfl) (by decide) ?_
  refine JO.nil ?_
  refine JQ.then_normal ?_
  refine JC.seq ?_
  refine JC.seq ?_
  refine JC.region ?_
  refine JO.v (Yv.move rfl) (by decide) ?_
  refine JO.v (Yv.as (v' := .bool true) (Yv.bin rfl rfl BinR.neq_i) (congrArg Value.bool (by decide +kernel))) (by decide) ?_
  refine JO.v (Yv.move rfl) (by decide) ?_
  refine JO.gf (g := 24) rfl rfl rfl (by decide) ?_
  refine JO.gf (g := 24) rfl rfl rfl (by decide) ?_
  refine JO.v (Yv.pick1 rfl rfl rfl) (by decide) ?_
  refine JO.nil ?_
  refine JQ.then_normal ?_
  refine JC.cond rfl (fun hc1 => ?_) (fun hc1 => ?_)
  · try simp only [decide_eq_true_eq, decide_eq_false_iff_not, Bool.not_eq_true', Bool.not_eq_false', ne_eq, Decidable.not_not, Bool.not_eq_true, Bool.and_eq_true, Bool.or_eq_true, BitVec.reduceToNat] at hc1
    skip
    refine JC.seq ?_
    refine JC.region ?_
    refine JO.v (Yv.move rfl) (by decide) ?_
    refine JO.v (Yv.move rfl) (by decide) ?_
    refine JO.gt (g := 29) rfl rfl rfl ?_
    refine JO.v (Yv.move rfl) (by decide) ?_
    refine JO.gt (g := 29) rfl rfl rfl ?_
    refine JO.v (Yv.move rfl) (by decide) ?_
    refine JO.gt (g := 29) rfl rfl rfl ?_
    refine JO.v (Yv.as (v' := .bool true) (Yv.bin rfl rfl BinR.eql_i) (congrArg Value.bool (by decide +kernel))) (by decide) ?_
    refine JO.v (Yv.pick1 rfl rfl rfl) (by decide) ?_
    refine JO.v (Yv.move rfl) (by decide) ?_
    refine JO.gt (g := 34) rfl rfl rfl ?_
    refine JO.v (Yv.move rfl) (by decide) ?_
    refine JO.gt (g := 34) rfl rfl rfl ?_
    first | refine JO.v (Yv.len_s Try.underlying25 rfl) (by decide) ?_ | refine JO.v (Yv.lenRd Try.underlying25 rfl (by repeat (first | exact Lend.same _ _ | exact Lend.row _ _ _ _ _ _ (by decide) | apply Lend.there))) (by decide) ?_
    refine JO.gt (g := 34) rfl rfl rfl ?_
    refine JO.v (Yv.as (v' := .bool true) (Yv.bin rfl rfl BinR.eql_i) (congrArg Value.bool (by decide +kernel))) (by decide) ?_
    refine JO.v (Yv.pick1 rfl rfl rfl) (by decide) ?_
    refine JO.v (Yv.move rfl) (by decide) ?_
    refine JO.gt (g := 39) rfl rfl rfl ?_
    refine JO.v (Yv.move rfl) (by decide) ?_
    refine JO.gt (g := 39) rfl rfl rfl ?_
    first | refine JO.v (Yv.len_s Try.underlying37 rfl) (by decide) ?_ | refine JO.v (Yv.lenRd Try.underlying37 rfl (by repeat (first | exact Lend.same _ _ | exact Lend.row _ _ _ _ _ _ (by decide) | apply Lend.there))) (by decide) ?_
    refine JO.gt (g := 39) rfl rfl rfl ?_
    refine JO.v (Yv.as (v' := .bool true) (Yv.bin rfl rfl BinR.eql_i) (congrArg Value.bool (by decide +kernel))) (by decide) ?_
    refine JO.v (Yv.pick1 rfl rfl rfl) (by decide) ?_
    refine JO.v (Yv.assign rfl) (by decide) ?_
    refine JO.nil ?_
    refine JQ.then_normal ?_
    refine JC.ret ?_
    refine JQ.then_ret ?_
    exact JQ.done (.inr rfl) (Γ' := []) (H' := []) (res1 rfl (RV.tmp rfl)) (Subs.sub (by repeat (first | exact Subs.nil _ | apply Subs.cons | exact List.Mem.head _ | refine List.Mem.tail _ ?_))) (Picks.perm (by repeat (first | exact Picks.nil _ | apply Picks.cons | exact Pull.here _ _ | apply Pull.there))) ⟨rfl, rfl, rfl⟩
  · try simp only [decide_eq_true_eq, decide_eq_false_iff_not, Bool.not_eq_true', Bool.not_eq_false', ne_eq, Decidable.not_not, Bool.not_eq_true, Bool.and_eq_true, Bool.or_eq_true, BitVec.reduceToNat] at hc1
    exact absurd hc1 (by decide)

theorem f7_spec (u : Value) (cs : List Int) : Spec Try.prog 7 #[u] [Res.rd u cs.length 1 (cs.map it)] [] (fun r Γ' H' => r = (.bool true) ∧ Γ' = [] ∧ H' = []) := by
  by_cases h : rightE cs = 0
  · exact f7a_spec u cs h
  · exact f7b_spec u cs h
end Go.Proofs.Ytfcodaigdigjmaa
