/- Walk: PurseBack. -/
import Derived.Test.YtjjcciefjcfdmaaDoorF8
namespace Go.Proofs.YtjjcciefjcfdmaaDoor
open Go.RowKit
set_option maxRecDepth 100000
set_option linter.unusedVariables false
set_option linter.unusedSimpArgs false

theorem f4a_spec (u : Value) (l : List W64) (f t : Int) (n : W64) (hn : newE l = 0) :
    Spec Tryd.prog 4 #[u, (it f), (it t), (u64 n)] [Res.var 0 ((wd 9223372036854775808).map u64), Res.rd u l.length 1 (l.map u64)] []
      (fun r Γ' H' => r = (.bool true) ∧ Γ' = [] ∧ H' = []) := by
  refine Spec.of_args Tryd.func4 rfl Tryd.ntmps4 (by simp) fun w => ?_
  obtain ⟨hn1, _⟩ := new_0 hn
  refine JC.seq ?_
  refine JC.region ?_
  refine JO.v (Yv.assign rfl) (by decide) ?_
  refine JO.nil ?_
  refine JQ.then_normal ?_
  refine JC.seq ?_
  refine JC.region ?_
  refine JO.callB f8_spec body_8 rfl (by repeat (first | exact Picks.nil _ | apply Picks.cons | exact Pull.here _ _ | apply Pull.there)) (by repeat (first | exact Lends.nil _ | apply Lends.cons | exact Lend.same _ _ | exact Lend.row _ _ _ _ _ _ (by decide) | apply Lend.there)) (by rintro _ _ _ ⟨_, h, _⟩; exact h) (by decide) ?_
  rintro _ _ ⟨_, ⟨rfl, _, rfl⟩, hH⟩
  simp only [List.cons_append, List.nil_append] at hH; subst hH
  refine JO.v (Yv.assign rfl) (by decide) ?_
  refine JO.nil ?_
  refine JQ.then_normal ?_
  refine JC.seq ?_
  refine JC.region ?_
  refine JO.v (Yv.move rfl) (by decide) ?_
  refine JO.callB (f9a_spec u l hn) body_9 rfl (by repeat (first | exact Picks.nil _ | apply Picks.cons | exact Pull.here _ _ | apply Pull.there)) (by repeat (first | exact Lends.nil _ | apply Lends.cons | exact Lend.same _ _ | exact Lend.row _ _ _ _ _ _ (by decide) | apply Lend.there)) (by rintro _ _ _ ⟨_, _, _, h, _⟩; exact h) (by decide) ?_
  rintro _ _ ⟨_, ⟨p, v, rfl, _, rfl⟩, hH⟩
  simp only [List.cons_append, List.nil_append] at hH; subst hH
  refine JO.v (Yv.move rfl) (by decide) ?_
  refine JO.v (Yv.as (v' := ptr p 0) (Yv.extract rfl rfl) rfl) (by decide) ?_
  refine JO.v (Yv.as (v' := it 0) (Yv.extract rfl rfl) rfl) (by decide) ?_
  refine JO.v (Yv.assign rfl) (by decide) ?_
  refine JO.v (Yv.assign rfl) (by decide) ?_
  refine JO.nil ?_
  refine JQ.then_normal ?_
  refine JC.seq ?_
  refine JC.region ?_
  refine JO.v (Yv.move rfl) (by decide) ?_
  refine JO.callB (f9a_spec u l hn) body_9 rfl (by repeat (first | exact Picks.nil _ | apply Picks.cons | exact Pull.here _ _ | apply Pull.there)) (by repeat (first | exact Lends.nil _ | apply Lends.cons | exact Lend.same _ _ | exact Lend.row _ _ _ _ _ _ (by decide) | apply Lend.there)) (by rintro _ _ _ ⟨_, _, _, h, _⟩; exact h) (by decide) ?_
  rintro _ _ ⟨_, ⟨q, v', rfl, _, rfl⟩, hH⟩
  simp only [List.cons_append, List.nil_append] at hH; subst hH
  refine JO.v (Yv.move rfl) (by decide) ?_
  refine JO.v (Yv.as (v' := ptr q 0) (Yv.extract rfl rfl) rfl) (by decide) ?_
  refine JO.v (Yv.as (v' := it 0) (Yv.extract rfl rfl) rfl) (by decide) ?_
  refine JO.v (Yv.assign rfl) (by decide) ?_
  refine JO.v (Yv.assign rfl) (by decide) ?_
  refine JO.nil ?_
  refine JQ.then_normal ?_
  refine JC.seq ?_
  refine JC.seq ?_
  refine JC.region ?_
  refine JO.v (Yv.move rfl) (by decide) ?_
  refine JO.v (Yv.as (v' := .bool false) (Yv.bin rfl rfl (BinR.eql_p Tryd.underlying25)) rfl) (by decide) ?_
  refine JO.v (Yv.move rfl) (by decide) ?_
  refine JO.gt (g := 33) rfl rfl rfl ?_
  refine JO.v (Yv.move rfl) (by decide) ?_
  refine JO.gt (g := 33) rfl rfl rfl ?_
  refine JO.v (Yv.as (v' := .bool false) (Yv.bin rfl rfl (BinR.eql_p Tryd.underlying25)) rfl) (by decide) ?_
  refine JO.v (Yv.pick0 rfl rfl rfl) (by decide) ?_
  refine JO.nil ?_
  refine JQ.then_normal ?_
  refine JC.cond rfl (fun hc1 => ?_) (fun hc1 => ?_)
  · try simp only [decide_eq_true_eq, decide_eq_false_iff_not, Bool.not_eq_true', Bool.not_eq_false', ne_eq, Decidable.not_not, Bool.not_eq_true, Bool.and_eq_true, Bool.or_eq_true, BitVec.reduceToNat] at hc1
    exact absurd hc1 (by decide)
  · try simp only [decide_eq_true_eq, decide_eq_false_iff_not, Bool.not_eq_true', Bool.not_eq_false', ne_eq, Decidable.not_not, Bool.not_eq_true, Bool.and_eq_true, Bool.or_eq_true, BitVec.reduceToNat] at hc1
    refine JC.skip ?_
    refine JQ.then_normal ?_
    refine JC.seq ?_
    refine JC.region ?_
    refine JO.v (Yv.move rfl) (by decide) ?_
    refine JO.v (Yv.move rfl) (by decide) ?_
    refine JO.v (Yv.move rfl) (by decide) ?_
    refine JO.v (Yv.move rfl) (by decide) ?_
    refine JO.callB (f12_spec p v l f t n) body_12 rfl (by repeat (first | exact Picks.nil _ | apply Picks.cons | exact Pull.here _ _ | apply Pull.there)) (by repeat (first | exact Lends.nil _ | apply Lends.cons | exact Lend.same _ _ | exact Lend.row _ _ _ _ _ _ (by decide) | apply Lend.there)) (by rintro _ _ _ ⟨_, h, _⟩; exact h) (by decide) ?_
    rintro _ _ ⟨_, ⟨rfl, _, rfl⟩, hH⟩
    simp only [List.cons_append, List.nil_append] at hH; subst hH
    refine JO.v (Yv.assign rfl) (by decide) ?_
    refine JO.nil ?_
    refine JQ.then_normal ?_
    refine JC.seq ?_
    refine JC.region ?_
    refine JO.v (Yv.move rfl) (by decide) ?_
    refine JO.v (Yv.move rfl) (by decide) ?_
    refine JO.v (Yv.move rfl) (by decide) ?_
    refine JO.v (Yv.move rfl) (by decide) ?_
    refine JO.callB (f12_spec p v (moveL l f t n) t f n) body_12 rfl (by repeat (first | exact Picks.nil _ | apply Picks.cons | exact Pull.here _ _ | apply Pull.there)) (by repeat (first | exact Lends.nil _ | apply Lends.cons | exact Lend.same _ _ | exact Lend.row _ _ _ _ _ _ (by decide) | apply Lend.there)) (by rintro _ _ _ ⟨_, h, _⟩; exact h) (by decide) ?_
    rintro _ _ ⟨_, ⟨rfl, _, rfl⟩, hH⟩
    simp only [List.cons_append, List.nil_append] at hH; subst hH
    refine JO.v (Yv.assign rfl) (by decide) ?_
    refine JO.nil ?_
    refine JQ.then_normal ?_
    refine JC.seq ?_
    refine JC.region ?_
    refine JO.v (Yv.move rfl) (by decide) ?_
    refine JO.callB (f11_spec p v (moveL (moveL l f t n) t f n) (by simp; omega)) body_11 rfl (by repeat (first | exact Picks.nil _ | apply Picks.cons | exact Pull.here _ _ | apply Pull.there)) (by repeat (first | exact Lends.nil _ | apply Lends.cons | exact Lend.same _ _ | exact Lend.row _ _ _ _ _ _ (by decide) | apply Lend.there)) (by rintro _ _ _ ⟨h, _⟩; exact h) (by decide) ?_
    rintro v57 _ ⟨_, ⟨_, rfl⟩, hH⟩
    simp only [List.cons_append, List.nil_append] at hH; subst hH
    refine JO.v (Yv.assign rfl) (by decide) ?_
    refine JO.nil ?_
    refine JQ.then_normal ?_
    refine JC.seq ?_
    refine JC.seq ?_
    refine JC.region ?_
    refine JO.v (Yv.move rfl) (by decide) ?_
    refine JO.v (Yv.bin rfl rfl BinR.eql_i) (by decide) ?_
    refine JO.v (Yv.move rfl) (by decide) ?_
    refine JO.join 13 73 (.bool false) ?_ ?_
    · skip
      refine JO.gsplit (g := 59) rfl (fun hg52 => ?_) (fun hg52 => ?_)
      · have hg52' := hg52
        try simp only [decide_eq_true_eq, decide_eq_false_iff_not, Bool.not_eq_true', Bool.not_eq_false', ne_eq, Decidable.not_not, Bool.not_eq_true, Bool.and_eq_true, Bool.or_eq_true, BitVec.reduceToNat] at hg52'
        refine JO.gt (g := 60) rfl rfl hg52 ?_
        refine JO.v (Yv.move rfl) (by decide) ?_
        refine JO.gt (g := 60) rfl rfl hg52 ?_
        refine JO.v (Yv.as (v' := .bool false) (Yv.bin rfl rfl BinR.neq_i) (by rw [(move_back hn hg52').1]; rfl)) (by decide) ?_
        refine JO.v (Yv.pick1 rfl hg52 rfl) (by decide) ?_
        refine JO.v (Yv.move rfl) (by decide) ?_
        refine JO.gt (g := 64) rfl rfl rfl ?_
        refine JO.v (Yv.move rfl) (by decide) ?_
        refine JO.gt (g := 64) rfl rfl rfl ?_
        refine JO.v (Yv.move rfl) (by decide) ?_
        refine JO.gt (g := 64) rfl rfl rfl ?_
        refine JO.callB (f13_spec v57 u (moveL (moveL l f t n) t f n) l) body_13 rfl (by repeat (first | exact Picks.nil _ | apply Picks.cons | exact Pull.here _ _ | apply Pull.there)) (by repeat (first | exact Lends.nil _ | apply Lends.cons | exact Lend.same _ _ | exact Lend.row _ _ _ _ _ _ (by decide) | apply Lend.there)) (by rintro _ _ _ ⟨_, h, _⟩; exact h) (by decide) ?_
        rintro _ _ ⟨_, ⟨rfl, _, rfl⟩, hH⟩
        simp only [List.cons_append, List.nil_append] at hH; subst hH
        refine JO.gt (g := 64) rfl rfl rfl ?_
        refine JO.v (Yv.not rfl) (by decide) ?_
        refine JO.gt (g := 64) rfl rfl rfl ?_
        refine JO.v (Yv.move rfl) (by decide) ?_
        refine JO.gsplit (g := 68) rfl (fun hg61 => ?_) (fun hg61 => ?_)
        · have hg61' := hg61
          try simp only [decide_eq_true_eq, decide_eq_false_iff_not, Bool.not_eq_true', Bool.not_eq_false', ne_eq, Decidable.not_not, Bool.not_eq_true, Bool.and_eq_true, Bool.or_eq_true, BitVec.reduceToNat] at hg61'
          refine JO.gt (g := 69) rfl rfl hg61 ?_
          refine JO.v (Yv.move rfl) (by decide) ?_
          refine JO.gt (g := 69) rfl rfl hg61 ?_
          refine JO.v (Yv.as (v' := .bool false) (Yv.bin rfl rfl BinR.eql_i) (congrArg Value.bool (decide_eq_false fun h => hg61' (move_back hn h).2))) (by decide) ?_
          refine JO.gt (g := 64) rfl rfl rfl ?_
          refine JO.v (Yv.pick1 rfl hg61 rfl) (by decide) ?_
          refine JO.v (Yv.pick0 rfl rfl rfl) (by decide) ?_
          refine JO.nil ?_
          refine JQ.head () (by first | (refine ⟨by first | rfl | (simp [*]; done) | (show some _ = some _; simp [*]; done), ?_⟩; repeat (first | exact trivial | refine ⟨rfl, ?_⟩))) (Subs.sub (by repeat (first | exact Subs.nil _ | apply Subs.cons | exact List.Mem.head _ | refine List.Mem.tail _ ?_))) (Picks.perm (by repeat (first | exact Picks.nil _ | apply Picks.cons | exact Pull.here _ _ | apply Pull.there))) ?_
          trivial
        · have hg61' := hg61
          try simp only [decide_eq_true_eq, decide_eq_false_iff_not, Bool.not_eq_true', Bool.not_eq_false', ne_eq, Decidable.not_not, Bool.not_eq_true, Bool.and_eq_true, Bool.or_eq_true, BitVec.reduceToNat] at hg61'
          refine JO.gf (g := 69) rfl rfl hg61 (by decide) ?_
          refine JO.gf (g := 69) rfl rfl hg61 (by decide) ?_
          refine JO.gt (g := 64) rfl rfl rfl ?_
          refine JO.v (Yv.pick0 rfl hg61 rfl) (by decide) ?_
          refine JO.v (Yv.pick0 rfl rfl rfl) (by decide) ?_
          refine JO.nil ?_
          refine JQ.head () (by first | (refine ⟨by first | rfl | (simp [*]; done) | (show some _ = some _; simp [*]; done), ?_⟩; repeat (first | exact trivial | refine ⟨rfl, ?_⟩))) (Subs.sub (by repeat (first | exact Subs.nil _ | apply Subs.cons | exact List.Mem.head _ | refine List.Mem.tail _ ?_))) (Picks.perm (by repeat (first | exact Picks.nil _ | apply Picks.cons | exact Pull.here _ _ | apply Pull.there))) ?_
          trivial
      · have hg52' := hg52
        try simp only [decide_eq_true_eq, decide_eq_false_iff_not, Bool.not_eq_true', Bool.not_eq_false', ne_eq, Decidable.not_not, Bool.not_eq_true, Bool.and_eq_true, Bool.or_eq_true, BitVec.reduceToNat] at hg52'
        refine JO.gf (g := 60) rfl rfl hg52 (by decide) ?_
        refine JO.gf (g := 60) rfl rfl hg52 (by decide) ?_
        refine JO.v (Yv.pick0 rfl hg52 rfl) (by decide) ?_
        refine JO.v (Yv.move rfl) (by decide) ?_
        refine JO.gt (g := 64) rfl rfl rfl ?_
        refine JO.v (Yv.move rfl) (by decide) ?_
        refine JO.gt (g := 64) rfl rfl rfl ?_
        refine JO.v (Yv.move rfl) (by decide) ?_
        refine JO.gt (g := 64) rfl rfl rfl ?_
        refine JO.callB (f13_spec v57 u (moveL (moveL l f t n) t f n) l) body_13 rfl (by repeat (first | exact Picks.nil _ | apply Picks.cons | exact Pull.here _ _ | apply Pull.there)) (by repeat (first | exact Lends.nil _ | apply Lends.cons | exact Lend.same _ _ | exact Lend.row _ _ _ _ _ _ (by decide) | apply Lend.there)) (by rintro _ _ _ ⟨_, h, _⟩; exact h) (by decide) ?_
        rintro _ _ ⟨_, ⟨rfl, _, rfl⟩, hH⟩
        simp only [List.cons_append, List.nil_append] at hH; subst hH
        refine JO.gt (g := 64) rfl rfl rfl ?_
        refine JO.v (Yv.not rfl) (by decide) ?_
        refine JO.gt (g := 64) rfl rfl rfl ?_
        refine JO.v (Yv.move rfl) (by decide) ?_
        refine JO.gsplit (g := 68) rfl (fun hg61 => ?_) (fun hg61 => ?_)
        · have hg61' := hg61
          try simp only [decide_eq_true_eq, decide_eq_false_iff_not, Bool.not_eq_true', Bool.not_eq_false', ne_eq, Decidable.not_not, Bool.not_eq_true, Bool.and_eq_true, Bool.or_eq_true, BitVec.reduceToNat] at hg61'
          refine JO.gt (g := 69) rfl rfl hg61 ?_
          refine JO.v (Yv.move rfl) (by decide) ?_
          refine JO.gt (g := 69) rfl rfl hg61 ?_
          refine JO.v (Yv.as (v' := .bool false) (Yv.bin rfl rfl BinR.eql_i) (congrArg Value.bool (decide_eq_false fun h => hg61' (move_back hn h).2))) (by decide) ?_
          refine JO.gt (g := 64) rfl rfl rfl ?_
          refine JO.v (Yv.pick1 rfl hg61 rfl) (by decide) ?_
          refine JO.v (Yv.pick0 rfl rfl rfl) (by decide) ?_
          refine JO.nil ?_
          refine JQ.head () (by first | (refine ⟨by first | rfl | (simp [*]; done) | (show some _ = some _; simp [*]; done), ?_⟩; repeat (first | exact trivial | refine ⟨rfl, ?_⟩))) (Subs.sub (by repeat (first | exact Subs.nil _ | apply Subs.cons | exact List.Mem.head _ | refine List.Mem.tail _ ?_))) (Picks.perm (by repeat (first | exact Picks.nil _ | apply Picks.cons | exact Pull.here _ _ | apply Pull.there))) ?_
          trivial
        · have hg61' := hg61
          try simp only [decide_eq_true_eq, decide_eq_false_iff_not, Bool.not_eq_true', Bool.not_eq_false', ne_eq, Decidable.not_not, Bool.not_eq_true, Bool.and_eq_true, Bool.or_eq_true, BitVec.reduceToNat] at hg61'
          refine JO.gf (g := 69) rfl rfl hg61 (by decide) ?_
          refine JO.gf (g := 69) rfl rfl hg61 (by decide) ?_
          refine JO.gt (g := 64) rfl rfl rfl ?_
          refine JO.v (Yv.pick0 rfl hg61 rfl) (by decide) ?_
          refine JO.v (Yv.pick0 rfl rfl rfl) (by decide) ?_
          refine JO.nil ?_
          refine JQ.head () (by first | (refine ⟨by first | rfl | (simp [*]; done) | (show some _ = some _; simp [*]; done), ?_⟩; repeat (first | exact trivial | refine ⟨rfl, ?_⟩))) (Subs.sub (by repeat (first | exact Subs.nil _ | apply Subs.cons | exact List.Mem.head _ | refine List.Mem.tail _ ?_))) (Picks.perm (by repeat (first | exact Picks.nil _ | apply Picks.cons | exact Pull.here _ _ | apply Pull.there))) ?_
          trivial
    · skip
      refine JO.nil ?_
      refine JQ.then_normal ?_
      refine JC.cond rfl (fun hc2 => ?_) (fun hc2 => ?_)
      · try simp only [decide_eq_true_eq, decide_eq_false_iff_not, Bool.not_eq_true', Bool.not_eq_false', ne_eq, Decidable.not_not, Bool.not_eq_true, Bool.and_eq_true, Bool.or_eq_true, BitVec.reduceToNat] at hc2
        exact absurd hc2 (by decide)
      · try simp only [decide_eq_true_eq, decide_eq_false_iff_not, Bool.not_eq_true', Bool.not_eq_false', ne_eq, Decidable.not_not, Bool.not_eq_true, Bool.and_eq_true, Bool.or_eq_true, BitVec.reduceToNat] at hc2
        refine JC.skip ?_
        refine JQ.then_normal ?_
        refine JC.seq ?_
        refine JC.region ?_
        refine JO.v (Yv.move rfl) (by decide) ?_
        refine JO.v (Yv.move rfl) (by decide) ?_
        refine JO.callB (f14_spec q v' l f) body_14 rfl (by repeat (first | exact Picks.nil _ | apply Picks.cons | exact Pull.here _ _ | apply Pull.there)) (by repeat (first | exact Lends.nil _ | apply Lends.cons | exact Lend.same _ _ | exact Lend.row _ _ _ _ _ _ (by decide) | apply Lend.there)) (by rintro _ _ _ ⟨_, h, _⟩; exact h) (by decide) ?_
        rintro _ _ ⟨_, ⟨rfl, _, rfl⟩, hH⟩
        simp only [List.cons_append, List.nil_append] at hH; subst hH
        refine JO.v (Yv.assign rfl) (by decide) ?_
        refine JO.nil ?_
        refine JQ.then_normal ?_
        refine JC.seq ?_
        refine JC.region ?_
        refine JO.v (Yv.move rfl) (by decide) ?_
        refine JO.v (Yv.move rfl) (by decide) ?_
        refine JO.v (Yv.move rfl) (by decide) ?_
        refine JO.v (Yv.move rfl) (by decide) ?_
        refine JO.callB (f15_spec q v' l f t n) body_15 rfl (by repeat (first | exact Picks.nil _ | apply Picks.cons | exact Pull.here _ _ | apply Pull.there)) (by repeat (first | exact Lends.nil _ | apply Lends.cons | exact Lend.same _ _ | exact Lend.row _ _ _ _ _ _ (by decide) | apply Lend.there)) (by rintro _ _ _ ⟨_, h, _⟩; exact h) (by decide) ?_
        rintro _ _ ⟨_, ⟨rfl, _, rfl⟩, hH⟩
        simp only [List.cons_append, List.nil_append] at hH; subst hH
        refine JO.v (Yv.assign rfl) (by decide) ?_
        refine JO.nil ?_
        refine JQ.then_normal ?_
        refine JC.seq ?_
        refine JC.region ?_
        refine JO.v (Yv.move rfl) (by decide) ?_
        refine JO.v (Yv.move rfl) (by decide) ?_
        refine JO.callB (f16_spec u l f) body_16 rfl (by repeat (first | exact Picks.nil _ | apply Picks.cons | exact Pull.here _ _ | apply Pull.there)) (by repeat (first | exact Lends.nil _ | apply Lends.cons | exact Lend.same _ _ | exact Lend.row _ _ _ _ _ _ (by decide) | apply Lend.there)) (by rintro _ _ _ ⟨_, h, _⟩; exact h) (by decide) ?_
        rintro _ _ ⟨_, ⟨rfl, _, rfl⟩, hH⟩
        simp only [List.cons_append, List.nil_append] at hH; subst hH
        refine JO.v (Yv.move rfl) (by decide) ?_
        refine JO.join 4 89 (.bool (isI l.length f && isI l.length t)) ?_ ?_
        · skip
          refine JO.gsplit (g := 84) rfl (fun hg80 => ?_) (fun hg80 => ?_)
          · have hg80' := hg80
            try simp only [decide_eq_true_eq, decide_eq_false_iff_not, Bool.not_eq_true', Bool.not_eq_false', ne_eq, Decidable.not_not, Bool.not_eq_true, Bool.and_eq_true, Bool.or_eq_true, BitVec.reduceToNat] at hg80'
            refine JO.gt (g := 85) rfl rfl hg80 ?_
            refine JO.v (Yv.move rfl) (by decide) ?_
            refine JO.gt (g := 85) rfl rfl hg80 ?_
            refine JO.v (Yv.move rfl) (by decide) ?_
            refine JO.gt (g := 85) rfl rfl hg80 ?_
            refine JO.callB (f16_spec u l t) body_16 rfl (by repeat (first | exact Picks.nil _ | apply Picks.cons | exact Pull.here _ _ | apply Pull.there)) (by repeat (first | exact Lends.nil _ | apply Lends.cons | exact Lend.same _ _ | exact Lend.row _ _ _ _ _ _ (by decide) | apply Lend.there)) (by rintro _ _ _ ⟨_, h, _⟩; exact h) (by decide) ?_
            rintro _ _ ⟨_, ⟨rfl, _, rfl⟩, hH⟩
            simp only [List.cons_append, List.nil_append] at hH; subst hH
            refine JO.v (Yv.pick1 rfl hg80 rfl) (by decide) ?_
            refine JO.nil ?_
            refine JQ.head () (by first | (refine ⟨by first | rfl | (simp [*]; done) | (show some _ = some _; simp [*]; done), ?_⟩; repeat (first | exact trivial | refine ⟨rfl, ?_⟩))) (Subs.sub (by repeat (first | exact Subs.nil _ | apply Subs.cons | exact List.Mem.head _ | refine List.Mem.tail _ ?_))) (Picks.perm (by repeat (first | exact Picks.nil _ | apply Picks.cons | exact Pull.here _ _ | apply Pull.there))) ?_
            trivial
          · have hg80' := hg80
            try simp only [decide_eq_true_eq, decide_eq_false_iff_not, Bool.not_eq_true', Bool.not_eq_false', ne_eq, Decidable.not_not, Bool.not_eq_true, Bool.and_eq_true, Bool.or_eq_true, BitVec.reduceToNat] at hg80'
            refine JO.gf (g := 85) rfl rfl hg80 (by decide) ?_
            refine JO.gf (g := 85) rfl rfl hg80 (by decide) ?_
            refine JO.gf (g := 85) rfl rfl hg80 (by decide) ?_
            refine JO.v (Yv.pick0 rfl hg80 rfl) (by decide) ?_
            refine JO.nil ?_
            refine JQ.head () (by first | (refine ⟨by first | rfl | (simp [*]; done) | (show some _ = some _; simp [*]; done), ?_⟩; repeat (first | exact trivial | refine ⟨rfl, ?_⟩))) (Subs.sub (by repeat (first | exact Subs.nil _ | apply Subs.cons | exact List.Mem.head _ | refine List.Mem.tail _ ?_))) (Picks.perm (by repeat (first | exact Picks.nil _ | apply Picks.cons | exact Pull.here _ _ | apply Pull.there))) ?_
            trivial
        · skip
          refine JO.v (Yv.assign rfl) (by decide) ?_
          refine JO.nil ?_
          refine JQ.then_normal ?_
          refine JC.seq ?_
          refine JC.region ?_
          refine JO.v (Yv.move rfl) (by decide) ?_
          refine JO.v (Yv.move rfl) (by decide) ?_
          refine JO.gt (g := 91) rfl rfl rfl ?_
          refine JO.v (Yv.move rfl) (by decide) ?_
          refine JO.gt (g := 91) rfl rfl rfl ?_
          refine JO.v (Yv.move rfl) (by decide) ?_
          refine JO.gsplit (g := 19) rfl (fun hg89 => ?_) (fun hg89 => ?_)
          · have hg89' := hg89
            try simp only [decide_eq_true_eq, decide_eq_false_iff_not, Bool.not_eq_true', Bool.not_eq_false', ne_eq, Decidable.not_not, Bool.not_eq_true, Bool.and_eq_true, Bool.or_eq_true, BitVec.reduceToNat] at hg89'
            refine JO.gt (g := 93) rfl rfl hg89 ?_
            refine JO.v (Yv.move rfl) (by decide) ?_
            refine JO.gt (g := 93) rfl rfl hg89 ?_
            refine JO.v (Yv.move rfl) (by decide) ?_
            refine JO.gt (g := 93) rfl rfl hg89 ?_
            refine JO.v (Yv.move rfl) (by decide) ?_
            refine JO.gt (g := 93) rfl rfl hg89 ?_
            refine JO.v (Yv.min_u64 rfl rfl) (by decide) ?_
            refine JO.gt (g := 93) rfl rfl hg89 ?_
            refine JO.v (Yv.as (v' := .bool true) (Yv.bin rfl rfl (BinR.eql_u64)) (congrArg Value.bool (decide_eq_true (take_there hg89)))) (by decide) ?_
            refine JO.gt (g := 91) rfl rfl rfl ?_
            refine JO.v (Yv.pick1 rfl hg89 rfl) (by decide) ?_
            refine JO.gt (g := 91) rfl rfl rfl ?_
            refine JO.v (Yv.move rfl) (by decide) ?_
            refine JO.gf (g := 100) rfl rfl rfl (by decide) ?_
            refine JO.gf (g := 100) rfl rfl rfl (by decide) ?_
            refine JO.gf (g := 100) rfl rfl rfl (by decide) ?_
            refine JO.gu (g := 103) rfl rfl (by decide) ?_
            refine JO.gu (g := 103) rfl rfl (by decide) ?_
            refine JO.gf (g := 100) rfl rfl rfl (by decide) ?_
            refine JO.gt (g := 91) rfl rfl rfl ?_
            refine JO.v (Yv.pick1 rfl rfl rfl) (by decide) ?_
            refine JO.v (Yv.pick1 rfl rfl rfl) (by decide) ?_
            refine JO.v (Yv.assign rfl) (by decide) ?_
            refine JO.nil ?_
            refine JQ.then_normal ?_
            refine JC.ret ?_
            exact JQ.done (.inr rfl) (Γ' := []) (H' := []) (res1 rfl (RV.tmp rfl)) (Subs.sub (by repeat (first | exact Subs.nil _ | apply Subs.cons | exact List.Mem.head _ | refine List.Mem.tail _ ?_))) (Picks.perm (by repeat (first | exact Picks.nil _ | apply Picks.cons | exact Pull.here _ _ | apply Pull.there))) ⟨rfl, rfl, rfl⟩
          · have hg89' := hg89
            try simp only [decide_eq_true_eq, decide_eq_false_iff_not, Bool.not_eq_true', Bool.not_eq_false', ne_eq, Decidable.not_not, Bool.not_eq_true, Bool.and_eq_true, Bool.or_eq_true, BitVec.reduceToNat] at hg89'
            refine JO.gf (g := 93) rfl rfl hg89 (by decide) ?_
            refine JO.gf (g := 93) rfl rfl hg89 (by decide) ?_
            refine JO.gf (g := 93) rfl rfl hg89 (by decide) ?_
            refine JO.gf (g := 93) rfl rfl hg89 (by decide) ?_
            refine JO.gf (g := 93) rfl rfl hg89 (by decide) ?_
            refine JO.gt (g := 91) rfl rfl rfl ?_
            refine JO.v (Yv.pick0 rfl hg89 rfl) (by decide) ?_
            refine JO.gt (g := 91) rfl rfl rfl ?_
            refine JO.v (Yv.move rfl) (by decide) ?_
            refine JO.gt (g := 100) rfl rfl rfl ?_
            refine JO.v (Yv.move rfl) (by decide) ?_
            refine JO.gt (g := 100) rfl rfl rfl ?_
            refine JO.v (Yv.as (v' := .bool true) (Yv.not rfl) (by rw [hg89]; rfl)) (by decide) ?_
            refine JO.gt (g := 100) rfl rfl rfl ?_
            refine JO.v (Yv.move rfl) (by decide) ?_
            refine JO.gt (g := 103) rfl rfl rfl ?_
            refine JO.v (Yv.move rfl) (by decide) ?_
            refine JO.gt (g := 103) rfl rfl rfl ?_
            refine JO.v (Yv.as (v' := .bool true) (Yv.bin rfl rfl (BinR.eql_u64 (b := 0#64))) (congrArg Value.bool (decide_eq_true (take_not (by rw [hg89]; decide))))) (by decide) ?_
            refine JO.gt (g := 100) rfl rfl rfl ?_
            refine JO.v (Yv.pick1 rfl rfl rfl) (by decide) ?_
            refine JO.gt (g := 91) rfl rfl rfl ?_
            refine JO.v (Yv.pick0 rfl rfl rfl) (by decide) ?_
            refine JO.v (Yv.pick1 rfl rfl rfl) (by decide) ?_
            refine JO.v (Yv.assign rfl) (by decide) ?_
            refine JO.nil ?_
            refine JQ.then_normal ?_
            refine JC.ret ?_
            exact JQ.done (.inr rfl) (Γ' := []) (H' := []) (res1 rfl (RV.tmp rfl)) (Subs.sub (by repeat (first | exact Subs.nil _ | apply Subs.cons | exact List.Mem.head _ | refine List.Mem.tail _ ?_))) (Picks.perm (by repeat (first | exact Picks.nil _ | apply Picks.cons | exact Pull.here _ _ | apply Pull.there))) ⟨rfl, rfl, rfl⟩


theorem f4b_spec (u : Value) (l : List W64) (f t : Int) (n : W64) (hn : newE l ≠ 0) :
    Spec Tryd.prog 4 #[u, (it f), (it t), (u64 n)] [Res.var 0 ((wd 9223372036854775808).map u64), Res.rd u l.length 1 (l.map u64)] []
      (fun r Γ' H' => r = (.bool true) ∧ Γ' = [] ∧ H' = []) := by
  refine Spec.of_args Tryd.func4 rfl Tryd.ntmps4 (by simp) fun w => ?_
  refine JC.seq ?_
  refine JC.region ?_
  refine JO.v (Yv.assign rfl) (by decide) ?_
  refine JO.nil ?_
  refine JQ.then_normal ?_
  refine JC.seq ?_
  refine JC.region ?_
  refine JO.callB f8_spec body_8 rfl (by repeat (first | exact Picks.nil _ | apply Picks.cons | exact Pull.here _ _ | apply Pull.there)) (by repeat (first | exact Lends.nil _ | apply Lends.cons | exact Lend.same _ _ | exact Lend.row _ _ _ _ _ _ (by decide) | apply Lend.there)) (by rintro _ _ _ ⟨_, h, _⟩; exact h) (by decide) ?_
  rintro _ _ ⟨_, ⟨rfl, _, rfl⟩, hH⟩
  simp only [List.cons_append, List.nil_append] at hH; subst hH
  refine JO.v (Yv.assign rfl) (by decide) ?_
  refine JO.nil ?_
  refine JQ.then_normal ?_
  refine JC.seq ?_
  refine JC.region ?_
  refine JO.v (Yv.move rfl) (by decide) ?_
  refine JO.callB (f9b_spec u l hn) body_9 rfl (by repeat (first | exact Picks.nil _ | apply Picks.cons | exact Pull.here _ _ | apply Pull.there)) (by repeat (first | exact Lends.nil _ | apply Lends.cons | exact Lend.same _ _ | exact Lend.row _ _ _ _ _ _ (by decide) | apply Lend.there)) (by rintro _ _ _ ⟨_, h, _⟩; exact h) (by decide) ?_
  rintro _ _ ⟨_, ⟨rfl, _, rfl⟩, hH⟩
  simp only [List.cons_append, List.nil_append] at hH; subst hH
  refine JO.v (Yv.move rfl) (by decide) ?_
  refine JO.v (Yv.as (v' := .pointer none) (Yv.extract rfl rfl) rfl) (by decide) ?_
  refine JO.v (Yv.as (v' := it (newE l)) (Yv.extract rfl rfl) rfl) (by decide) ?_
  refine JO.v (Yv.assign rfl) (by decide) ?_
  refine JO.v (Yv.assign rfl) (by decide) ?_
  refine JO.nil ?_
  refine JQ.then_normal ?_
  refine JC.seq ?_
  refine JC.region ?_
  refine JO.v (Yv.move rfl) (by decide) ?_
  refine JO.callB (f9b_spec u l hn) body_9 rfl (by repeat (first | exact Picks.nil _ | apply Picks.cons | exact Pull.here _ _ | apply Pull.there)) (by repeat (first | exact Lends.nil _ | apply Lends.cons | exact Lend.same _ _ | exact Lend.row _ _ _ _ _ _ (by decide) | apply Lend.there)) (by rintro _ _ _ ⟨_, h, _⟩; exact h) (by decide) ?_
  rintro _ _ ⟨_, ⟨rfl, _, rfl⟩, hH⟩
  simp only [List.cons_append, List.nil_append] at hH; subst hH
  refine JO.v (Yv.move rfl) (by decide) ?_
  refine JO.v (Yv.as (v' := .pointer none) (Yv.extract rfl rfl) rfl) (by decide) ?_
  refine JO.v (Yv.as (v' := it (newE l)) (Yv.extract rfl rfl) rfl) (by decide) ?_
  refine JO.v (Yv.assign rfl) (by decide) ?_
  refine JO.v (Yv.assign rfl) (by decide) ?_
  refine JO.nil ?_
  refine JQ.then_normal ?_
  refine JC.seq ?_
  refine JC.seq ?_
  refine JC.region ?_
  refine JO.v (Yv.move rfl) (by decide) ?_
  refine JO.v (Yv.as (v' := .bool true) (Yv.bin rfl rfl (BinR.eql_p Tryd.underlying25)) rfl) (by decide) ?_
  refine JO.v (Yv.move rfl) (by decide) ?_
  refine JO.gf (g := 33) rfl rfl rfl (by decide) ?_
  refine JO.gf (g := 33) rfl rfl rfl (by decide) ?_
  refine JO.v (Yv.pick1 rfl rfl rfl) (by decide) ?_
  refine JO.nil ?_
  refine JQ.then_normal ?_
  refine JC.cond rfl (fun hc1 => ?_) (fun hc1 => ?_)
  · try simp only [decide_eq_true_eq, decide_eq_false_iff_not, Bool.not_eq_true', Bool.not_eq_false', ne_eq, Decidable.not_not, Bool.not_eq_true, Bool.and_eq_true, Bool.or_eq_true, BitVec.reduceToNat] at hc1
    skip
    refine JC.seq ?_
    refine JC.region ?_
    refine JO.v (Yv.move rfl) (by decide) ?_
    refine JO.v (Yv.move rfl) (by decide) ?_
    refine JO.gt (g := 38) rfl rfl rfl ?_
    refine JO.v (Yv.move rfl) (by decide) ?_
    refine JO.gt (g := 38) rfl rfl rfl ?_
    refine JO.v (Yv.as (v' := .bool true) (Yv.bin rfl rfl (BinR.eql_p Tryd.underlying25)) rfl) (by decide) ?_
    refine JO.v (Yv.pick1 rfl rfl rfl) (by decide) ?_
    refine JO.v (Yv.move rfl) (by decide) ?_
    refine JO.gt (g := 42) rfl rfl rfl ?_
    refine JO.v (Yv.move rfl) (by decide) ?_
    refine JO.gt (g := 42) rfl rfl rfl ?_
    refine JO.v (Yv.as (v' := .bool true) (Yv.bin rfl rfl (BinR.eql_p Tryd.underlying25)) rfl) (by decide) ?_
    refine JO.v (Yv.pick1 rfl rfl rfl) (by decide) ?_
    refine JO.v (Yv.assign rfl) (by decide) ?_
    refine JO.nil ?_
    refine JQ.then_normal ?_
    refine JC.ret ?_
    refine JQ.then_ret ?_
    exact JQ.done (.inr rfl) (Γ' := []) (H' := []) (res1 rfl (RV.tmp rfl)) (Subs.sub (by repeat (first | exact Subs.nil _ | apply Subs.cons | exact List.Mem.head _ | refine List.Mem.tail _ ?_))) (Picks.perm (by repeat (first | exact Picks.nil _ | apply Picks.cons | exact Pull.here _ _ | apply Pull.there))) ⟨rfl, rfl, rfl⟩
  · try simp only [decide_eq_true_eq, decide_eq_false_iff_not, Bool.not_eq_true', Bool.not_eq_false', ne_eq, Decidable.not_not, Bool.not_eq_true, Bool.and_eq_true, Bool.or_eq_true, BitVec.reduceToNat] at hc1
    exact absurd hc1 (by decide)

theorem f4_spec (u : Value) (l : List W64) (f t : Int) (n : W64) : Spec Tryd.prog 4 #[u, it f, it t, u64 n] [Res.var 0 ((wd 9223372036854775808).map u64), Res.rd u l.length 1 (l.map u64)] [] (fun r Γ' H' => r = (.bool true) ∧ Γ' = [] ∧ H' = []) := by
  by_cases h : newE l = 0
  · exact f4a_spec u l f t n h
  · exact f4b_spec u l f t n h
end Go.Proofs.YtjjcciefjcfdmaaDoor
