/- Walk: CodecUnlike. -/
import Derived.Test.YtogbdobncnhjpaaF9
namespace Go.Proofs.Ytogbdobncnhjpaa
open Go.RowKit
set_option maxRecDepth 100000
set_option linter.unusedVariables false
set_option linter.unusedSimpArgs false

theorem f3_spec (a b : BitVec 64) :
    Spec Try.prog 3 #[u64 a, u64 b] [] []
      (fun r Γ' H' => r = .bool true ∧ Γ' = [] ∧ H' = []) := by
  refine Spec.of_args Try.func3 rfl Try.ntmps3 (by simp) fun w => ?_
  have hA := smallB_le a
  have hB := smallB_le b
  have hpre := smallB_pre a b
  have m1 : a.toNat < b.toNat → (smallB a).length ≤ (smallB b).length := fun h => by rw [smallB_length, smallB_length]; have := nsz_mono h; omega
  have m2 : b.toNat < a.toNat → (smallB b).length ≤ (smallB a).length := fun h => by rw [smallB_length, smallB_length]; have := nsz_mono h; omega
  refine JC.seq ?_
  refine JC.region ?_
  refine JO.v (Yv.assign rfl) (by decide) ?_
  refine JO.nil ?_
  refine JQ.then_normal ?_
  refine JC.seq ?_
  refine JC.region ?_
  refine JO.callB f8_spec body_8 rfl (by repeat (first | exact Picks.nil _ | apply Picks.cons | exact Pull.here _ _ | apply Pull.there)) (by repeat (first | exact Lends.nil _ | apply Lends.cons | exact Lend.same _ _ | exact Lend.row _ _ _ _ _ _ (by decide) | apply Lend.there)) (by rintro _ _ _ ⟨_, h, _⟩; exact h) (by decide) ?_
  rintro _ _ ⟨_, ⟨rfl, _, rfl⟩, hH⟩
  simp only [List.cons_append, List.nil_append] at hH; subst hH
  refine JO.v (Yv.assign rfl) (by decide) ?_
  refine JO.nil ?_
  refine JQ.then_normal ?_
  refine JC.seq ?_
  refine JC.region ?_
  refine JO.v (Yv.build bld_27 rfl rfl) (by decide) ?_
  refine JO.box rfl _ rfl (by decide) fun b13 => ?_
  refine JO.nilRow 5 1 ?_
  refine JO.v (Yv.assign rfl) (by decide) ?_
  refine JO.nil ?_
  refine JQ.then_normal ?_
  refine JC.seq ?_
  refine JC.region ?_
  refine JO.v (Yv.build bld_27 rfl rfl) (by decide) ?_
  refine JO.box rfl _ rfl (by decide) fun b15 => ?_
  refine JO.nilRow 5 1 ?_
  refine JO.v (Yv.assign rfl) (by decide) ?_
  refine JO.nil ?_
  refine JQ.then_normal ?_
  refine JC.seq ?_
  refine JC.region ?_
  refine JO.v (Yv.move rfl) (by decide) ?_
  refine JO.v (Yv.move rfl) (by decide) ?_
  refine JO.callB (f9_spec b13 (.slice none 0 0) [] (by decide) a) body_9 rfl (by repeat (first | exact Picks.nil _ | apply Picks.cons | exact Pull.here _ _ | apply Pull.there)) (by repeat (first | exact Lends.nil _ | apply Lends.cons | exact Lend.same _ _ | exact Lend.row _ _ _ _ _ _ (by decide) | apply Lend.there)) (by rintro _ _ _ ⟨_, _, h, _⟩; exact h) (by decide) ?_
  rintro _ _ ⟨_, ⟨v1, rfl, _, rfl⟩, hH⟩
  simp only [List.cons_append, List.nil_append] at hH; subst hH
  refine JO.nil ?_
  refine JQ.then_normal ?_
  refine JC.seq ?_
  refine JC.region ?_
  refine JO.v (Yv.move rfl) (by decide) ?_
  refine JO.v (Yv.move rfl) (by decide) ?_
  refine JO.callB (f9_spec b15 (.slice none 0 0) [] (by decide) b) body_9 rfl (by repeat (first | exact Picks.nil _ | apply Picks.cons | exact Pull.here _ _ | apply Pull.there)) (by repeat (first | exact Lends.nil _ | apply Lends.cons | exact Lend.same _ _ | exact Lend.row _ _ _ _ _ _ (by decide) | apply Lend.there)) (by rintro _ _ _ ⟨_, _, h, _⟩; exact h) (by decide) ?_
  rintro _ _ ⟨_, ⟨v2, rfl, _, rfl⟩, hH⟩
  simp only [List.cons_append, List.nil_append] at hH; subst hH
  refine JO.nil ?_
  refine JQ.then_normal ?_
  refine JC.seq ?_
  refine JC.region ?_
  refine JO.v (Yv.move rfl) (by decide) ?_
  refine JO.callB (f10_spec b13 v1 (smallB a) (by omega)) body_10 rfl (by repeat (first | exact Picks.nil _ | apply Picks.cons | exact Pull.here _ _ | apply Pull.there)) (by repeat (first | exact Lends.nil _ | apply Lends.cons | exact Lend.same _ _ | exact Lend.row _ _ _ _ _ _ (by decide) | apply Lend.there)) (by rintro _ _ _ ⟨_, h, _⟩; exact h) (by decide) ?_
  rintro v23 _ ⟨_, ⟨_, _, rfl⟩, hH⟩
  simp only [List.cons_append, List.nil_append] at hH; subst hH
  refine JO.freeze (Pull.here _ _) (by decide) ?_
  refine JO.v (Yv.assign rfl) (by decide) ?_
  refine JO.nil ?_
  refine JQ.then_normal ?_
  refine JC.seq ?_
  refine JC.region ?_
  refine JO.v (Yv.move rfl) (by decide) ?_
  refine JO.callB (f10_spec b15 v2 (smallB b) (by omega)) body_10 rfl (by repeat (first | exact Picks.nil _ | apply Picks.cons | exact Pull.here _ _ | apply Pull.there)) (by repeat (first | exact Lends.nil _ | apply Lends.cons | exact Lend.same _ _ | exact Lend.row _ _ _ _ _ _ (by decide) | apply Lend.there)) (by rintro _ _ _ ⟨_, h, _⟩; exact h) (by decide) ?_
  rintro v25 _ ⟨_, ⟨_, _, rfl⟩, hH⟩
  simp only [List.cons_append, List.nil_append] at hH; subst hH
  refine JO.freeze (Pull.here _ _) (by decide) ?_
  refine JO.v (Yv.assign rfl) (by decide) ?_
  refine JO.nil ?_
  refine JQ.then_normal ?_
  refine JC.seq ?_
  refine JC.region ?_
  refine JO.v (Yv.move rfl) (by decide) ?_
  first | refine JO.v (Yv.len_s Try.underlying25 rfl) (by decide) ?_ | refine JO.v (Yv.lenRd Try.underlying25 rfl (by repeat (first | exact Lend.same _ _ | exact Lend.row _ _ _ _ _ _ (by decide) | apply Lend.there))) (by decide) ?_
  refine JO.v (Yv.move rfl) (by decide) ?_
  first | refine JO.v (Yv.len_s Try.underlying25 rfl) (by decide) ?_ | refine JO.v (Yv.lenRd Try.underlying25 rfl (by repeat (first | exact Lend.same _ _ | exact Lend.row _ _ _ _ _ _ (by decide) | apply Lend.there))) (by decide) ?_
  refine JO.v (Yv.as (v' := it ((min (smallB a).length (smallB b).length : Nat) : Int)) (Yv.min_i rfl rfl) (congrArg it (by omega))) (by decide) ?_
  refine JO.v (Yv.assign rfl) (by decide) ?_
  refine JO.nil ?_
  refine JQ.then_normal ?_
  refine JC.seq ?_
  refine JC.seq ?_
  refine JC.region ?_
  refine JO.v (Yv.move rfl) (by decide) ?_
  refine JO.v (Yv.move rfl) (by decide) ?_
  refine JO.v (Yv.bin rfl rfl (BinR.lss_u64)) (by decide) ?_
  refine JO.v (Yv.move rfl) (by decide) ?_
  refine JO.join 6 40 (.bool false) ?_ ?_
  · skip
    refine JO.gsplit (g := 33) rfl (fun hg1 => ?_) (fun hg1 => ?_)
    · have hg1' := hg1
      try simp only [decide_eq_true_eq, decide_eq_false_iff_not, Bool.not_eq_true', Bool.not_eq_false', ne_eq, Decidable.not_not, Bool.not_eq_true, Bool.and_eq_true, Bool.or_eq_true, BitVec.reduceToNat] at hg1'
      have m := m1 hg1'
      refine JO.gt (g := 34) rfl rfl hg1 ?_
      refine JO.v (Yv.move rfl) (by decide) ?_
      refine JO.gt (g := 34) rfl rfl hg1 ?_
      first | refine JO.v (Yv.len_s Try.underlying25 rfl) (by decide) ?_ | refine JO.v (Yv.lenRd Try.underlying25 rfl (by repeat (first | exact Lend.same _ _ | exact Lend.row _ _ _ _ _ _ (by decide) | apply Lend.there))) (by decide) ?_
      refine JO.gt (g := 34) rfl rfl hg1 ?_
      refine JO.v (Yv.move rfl) (by decide) ?_
      refine JO.gt (g := 34) rfl rfl hg1 ?_
      first | refine JO.v (Yv.len_s Try.underlying25 rfl) (by decide) ?_ | refine JO.v (Yv.lenRd Try.underlying25 rfl (by repeat (first | exact Lend.same _ _ | exact Lend.row _ _ _ _ _ _ (by decide) | apply Lend.there))) (by decide) ?_
      refine JO.gt (g := 34) rfl rfl hg1 ?_
      refine JO.v (Yv.bin rfl rfl BinR.gtr_i) (by decide) ?_
      refine JO.v (Yv.pick1 rfl hg1 rfl) (by decide) ?_
      refine JO.nil ?_
      refine JQ.head () (by first | (refine ⟨by first | rfl | (simp [*]; done) | (show some _ = some _; simp [*]; done), ?_⟩; repeat (first | exact trivial | refine ⟨rfl, ?_⟩))) (Subs.sub (by repeat (first | exact Subs.nil _ | apply Subs.cons | exact List.Mem.head _ | refine List.Mem.tail _ ?_))) (Picks.perm (by repeat (first | exact Picks.nil _ | apply Picks.cons | exact Pull.here _ _ | apply Pull.there))) ?_
      trivial
    · have hg1' := hg1
      try simp only [decide_eq_true_eq, decide_eq_false_iff_not, Bool.not_eq_true', Bool.not_eq_false', ne_eq, Decidable.not_not, Bool.not_eq_true, Bool.and_eq_true, Bool.or_eq_true, BitVec.reduceToNat] at hg1'
      refine JO.gf (g := 34) rfl rfl hg1 (by decide) ?_
      refine JO.gf (g := 34) rfl rfl hg1 (by decide) ?_
      refine JO.gf (g := 34) rfl rfl hg1 (by decide) ?_
      refine JO.gf (g := 34) rfl rfl hg1 (by decide) ?_
      refine JO.gf (g := 34) rfl rfl hg1 (by decide) ?_
      refine JO.v (Yv.pick0 rfl hg1 rfl) (by decide) ?_
      refine JO.nil ?_
      refine JQ.head () (by first | (refine ⟨by first | rfl | (simp [*]; done) | (show some _ = some _; simp [*]; done), ?_⟩; repeat (first | exact trivial | refine ⟨rfl, ?_⟩))) (Subs.sub (by repeat (first | exact Subs.nil _ | apply Subs.cons | exact List.Mem.head _ | refine List.Mem.tail _ ?_))) (Picks.perm (by repeat (first | exact Picks.nil _ | apply Picks.cons | exact Pull.here _ _ | apply Pull.there))) ?_
      trivial
  · skip
    refine JO.v (Yv.move rfl) (by decide) ?_
    refine JO.join 11 52 (.bool false) ?_ ?_
    · skip
      refine JO.gt (g := 41) rfl rfl rfl ?_
      refine JO.v (Yv.move rfl) (by decide) ?_
      refine JO.gt (g := 41) rfl rfl rfl ?_
      refine JO.v (Yv.move rfl) (by decide) ?_
      refine JO.gt (g := 41) rfl rfl rfl ?_
      refine JO.v (Yv.bin rfl rfl (BinR.gtr_u64)) (by decide) ?_
      refine JO.gt (g := 41) rfl rfl rfl ?_
      refine JO.v (Yv.move rfl) (by decide) ?_
      refine JO.gsplit (g := 44) rfl (fun hg2 => ?_) (fun hg2 => ?_)
      · have hg2' := hg2
        try simp only [decide_eq_true_eq, decide_eq_false_iff_not, Bool.not_eq_true', Bool.not_eq_false', ne_eq, Decidable.not_not, Bool.not_eq_true, Bool.and_eq_true, Bool.or_eq_true, BitVec.reduceToNat] at hg2'
        refine JO.gt (g := 45) rfl rfl hg2 ?_
        refine JO.v (Yv.move rfl) (by decide) ?_
        refine JO.gt (g := 45) rfl rfl hg2 ?_
        first | refine JO.v (Yv.len_s Try.underlying25 rfl) (by decide) ?_ | refine JO.v (Yv.lenRd Try.underlying25 rfl (by repeat (first | exact Lend.same _ _ | exact Lend.row _ _ _ _ _ _ (by decide) | apply Lend.there))) (by decide) ?_
        refine JO.gt (g := 45) rfl rfl hg2 ?_
        refine JO.v (Yv.move rfl) (by decide) ?_
        refine JO.gt (g := 45) rfl rfl hg2 ?_
        first | refine JO.v (Yv.len_s Try.underlying25 rfl) (by decide) ?_ | refine JO.v (Yv.lenRd Try.underlying25 rfl (by repeat (first | exact Lend.same _ _ | exact Lend.row _ _ _ _ _ _ (by decide) | apply Lend.there))) (by decide) ?_
        refine JO.gt (g := 45) rfl rfl hg2 ?_
        refine JO.v (Yv.bin rfl rfl BinR.lss_i) (by decide) ?_
        refine JO.gt (g := 41) rfl rfl rfl ?_
        refine JO.v (Yv.pick1 rfl hg2 rfl) (by decide) ?_
        refine JO.v (Yv.pick0 rfl rfl rfl) (by decide) ?_
        refine JO.nil ?_
        refine JQ.head () (by first | (refine ⟨by first | rfl | (simp [*]; done) | (show some _ = some _; simp [*]; done), ?_⟩; repeat (first | exact trivial | refine ⟨rfl, ?_⟩))) (Subs.sub (by repeat (first | exact Subs.nil _ | apply Subs.cons | exact List.Mem.head _ | refine List.Mem.tail _ ?_))) (Picks.perm (by repeat (first | exact Picks.nil _ | apply Picks.cons | exact Pull.here _ _ | apply Pull.there))) ?_
        trivial
      · have hg2' := hg2
        try simp only [decide_eq_true_eq, decide_eq_false_iff_not, Bool.not_eq_true', Bool.not_eq_false', ne_eq, Decidable.not_not, Bool.not_eq_true, Bool.and_eq_true, Bool.or_eq_true, BitVec.reduceToNat] at hg2'
        refine JO.gf (g := 45) rfl rfl hg2 (by decide) ?_
        refine JO.gf (g := 45) rfl rfl hg2 (by decide) ?_
        refine JO.gf (g := 45) rfl rfl hg2 (by decide) ?_
        refine JO.gf (g := 45) rfl rfl hg2 (by decide) ?_
        refine JO.gf (g := 45) rfl rfl hg2 (by decide) ?_
        refine JO.gt (g := 41) rfl rfl rfl ?_
        refine JO.v (Yv.pick0 rfl hg2 rfl) (by decide) ?_
        refine JO.v (Yv.pick0 rfl rfl rfl) (by decide) ?_
        refine JO.nil ?_
        refine JQ.head () (by first | (refine ⟨by first | rfl | (simp [*]; done) | (show some _ = some _; simp [*]; done), ?_⟩; repeat (first | exact trivial | refine ⟨rfl, ?_⟩))) (Subs.sub (by repeat (first | exact Subs.nil _ | apply Subs.cons | exact List.Mem.head _ | refine List.Mem.tail _ ?_))) (Picks.perm (by repeat (first | exact Picks.nil _ | apply Picks.cons | exact Pull.here _ _ | apply Pull.there))) ?_
        trivial
    · skip
      refine JO.nil ?_
      refine JQ.then_normal ?_
      refine JC.cond rfl (fun hc1 => ?_) (fun hc1 => ?_)
      · try simp only [decide_eq_true_eq, decide_eq_false_iff_not, Bool.not_eq_true', Bool.not_eq_false', ne_eq, Decidable.not_not, Bool.not_eq_true, Bool.and_eq_true, Bool.or_eq_true, BitVec.reduceToNat] at hc1
        exact absurd hc1 (by decide)
      · try simp only [decide_eq_true_eq, decide_eq_false_iff_not, Bool.not_eq_true', Bool.not_eq_false', ne_eq, Decidable.not_not, Bool.not_eq_true, Bool.and_eq_true, Bool.or_eq_true, BitVec.reduceToNat] at hc1
        refine JC.skip ?_
        refine JQ.then_normal ?_
        refine JC.seq ?_
        refine JC.draw [0, 1, 2, 3, 4, 5, 6, 7, 9, 10, 11, 8, 12, 13, 14] (fun i => ([8] : List Nat).contains i) (fun i => ([8] : List Nat).contains i) (fun i => ([0, 1, 2, 3, 4, 5, 6, 7, 9, 10, 11, 12, 13, 14] : List Nat).contains i) mixed (by kernel_rfl) (by decide) (by kernel_rfl) ?_
        refine JR.u rfl rfl rfl (Yv.move rfl) (by decide) ?_
        refine JR.u rfl rfl rfl (Yv.move rfl) (by decide) ?_
        refine JR.ugt (g := 54) rfl rfl rfl rfl rfl rfl (Yv.move rfl) (by decide) ?_
        refine JR.ugt (g := 54) rfl rfl rfl rfl rfl rfl (Yv.move rfl) (by decide) ?_
        refine JR.ugt (g := 54) rfl rfl rfl rfl rfl rfl (Yv.cutRd (l := 0) (h := min (smallB a).length (smallB b).length) Try.underlying25 sz_5 rfl (by repeat (first | exact List.Mem.head _ | refine List.Mem.tail _ ?_)) rfl ⟨_, rfl⟩ (by first | (simp; done) | omega | (simp; omega)) (by first | (simp; done) | omega | (simp; omega))) (by decide) ?_
        refine JR.ugt (g := 54) rfl rfl rfl rfl rfl rfl (Yv.move rfl) (by decide) ?_
        refine JR.ugt (g := 54) rfl rfl rfl rfl rfl rfl (Yv.move rfl) (by decide) ?_
        refine JR.ugt (g := 54) rfl rfl rfl rfl rfl rfl (Yv.cutRd (l := 0) (h := min (smallB a).length (smallB b).length) Try.underlying25 sz_5 rfl (by repeat (first | exact List.Mem.head _ | refine List.Mem.tail _ ?_)) rfl ⟨_, rfl⟩ (by first | (simp; done) | omega | (simp; omega)) (by first | (simp; done) | omega | (simp; omega))) (by decide) ?_
        refine JR.ugt (g := 54) rfl rfl rfl rfl rfl rfl (Yv.move rfl) (by decide) ?_
        refine JR.ugt (g := 54) rfl rfl rfl rfl rfl rfl (Yv.move rfl) (by decide) ?_
        refine JR.ugt (g := 54) rfl rfl rfl rfl rfl rfl (Yv.bin rfl rfl (BinR.eql_u64)) (by decide) ?_
        refine JR.cutRd (v := v23) 0 (min (smallB a).length (smallB b).length) (by repeat (first | exact List.Mem.head _ | refine List.Mem.tail _ ?_)) (Nat.zero_le _) (by omega) ?_
        rw [rd_take (by omega)]
        refine JR.cutRd (v := v25) 0 (min (smallB a).length (smallB b).length) (by repeat (first | exact List.Mem.head _ | refine List.Mem.tail _ ?_)) (Nat.zero_le _) (by omega) ?_
        rw [rd_take (by omega)]
        refine JR.mgt (g := 54) rfl rfl rfl rfl rfl (Mv.callB body_11 rfl (f11_spec (cutV 1 v23 0 (min (smallB a).length (smallB b).length)) (cutV 1 v25 0 (min (smallB a).length (smallB b).length)) ((smallB a).take (min (smallB a).length (smallB b).length)) ((smallB b).take (min (smallB a).length (smallB b).length))) (by repeat (first | exact Picks.nil _ | apply Picks.cons | exact Pull.here _ _ | apply Pull.there)) (by repeat (first | exact Lends.nil _ | apply Lends.cons | exact Lend.same _ _ | exact Lend.row _ _ _ _ _ _ (by decide) | apply Lend.there)) (by rintro _ _ _ ⟨_, h, _⟩; exact h)) (by decide) ?_
        rintro _ _ _ ⟨_, ⟨rfl, _, rfl⟩, hΓ, hH⟩
        simp only [List.cons_append, List.nil_append] at hH; subst hΓ hH
        refine ⟨⟨Subs.sub (by repeat (first | exact Subs.nil _ | apply Subs.cons | exact List.Mem.head _ | refine List.Mem.tail _ ?_)), .inl rfl⟩, ?_⟩
        refine JR.ugt (g := 54) rfl rfl rfl rfl rfl rfl (Yv.as (v' := .bool true) (Yv.bin rfl rfl (BinR.eql_b Try.underlying4)) (congrArg Value.bool (by simp [hpre]))) (by decide) ?_
        refine JR.u rfl rfl rfl (Yv.pick1 rfl rfl rfl) (by decide) ?_
        refine JR.u rfl rfl rfl (Yv.assign rfl) (by decide) ?_
        refine JR.nil ?_
        refine JQ.then_normal ?_
        refine JC.ret ?_
        exact JQ.done (.inr rfl) (Γ' := []) (H' := []) (res1 rfl (RV.tmp rfl)) (Subs.sub (by repeat (first | exact Subs.nil _ | apply Subs.cons | exact List.Mem.head _ | refine List.Mem.tail _ ?_))) (Picks.perm (by repeat (first | exact Picks.nil _ | apply Picks.cons | exact Pull.here _ _ | apply Pull.there))) ⟨rfl, rfl, rfl⟩
end Go.Proofs.Ytogbdobncnhjpaa
