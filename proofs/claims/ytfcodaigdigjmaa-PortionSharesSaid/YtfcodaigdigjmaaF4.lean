/- Walks: the methods of what a heap holds. -/
import Derived.Test.YtfcodaigdigjmaaF1
namespace Go.Proofs.Ytfcodaigdigjmaa
open Go.RowKit
set_option maxRecDepth 100000
set_option linter.unusedVariables false
set_option linter.unusedSimpArgs false

theorem f67_spec (v : Value) (n : Nat) (xs : List Value) :
    Spec Try.prog 67 #[v] [Res.rd v n 5 xs] []
      (fun r Γ' H' => r = (it (n : Int)) ∧ Γ' = [] ∧ H' = []) := by
  refine Spec.of_args Try.func67 rfl Try.ntmps67 (by simp) fun w => ?_
  refine JC.seq ?_
  refine JC.region ?_
  refine JO.v (Yv.assign rfl) (by decide) ?_
  refine JO.nil ?_
  refine JQ.then_normal ?_
  refine JC.seq ?_
  refine JC.region ?_
  refine JO.v (Yv.move rfl) (by decide) ?_
  first | refine JO.v (Yv.len_s Try.underlying43 rfl) (by decide) ?_ | refine JO.v (Yv.lenRd Try.underlying43 rfl (by repeat (first | exact Lend.same _ _ | exact Lend.row _ _ _ _ _ _ (by decide) | apply Lend.there))) (by decide) ?_
  refine JO.v (Yv.assign rfl) (by decide) ?_
  refine JO.nil ?_
  refine JQ.then_normal ?_
  refine JC.ret ?_
  exact JQ.done (.inr rfl) (Γ' := []) (H' := []) (res1 rfl (RV.tmp rfl)) (Subs.sub (by repeat (first | exact Subs.nil _ | apply Subs.cons | exact List.Mem.head _ | refine List.Mem.tail _ ?_))) (Picks.perm (by repeat (first | exact Picks.nil _ | apply Picks.cons | exact Pull.here _ _ | apply Pull.there))) ⟨rfl, rfl, rfl⟩


theorem f68_spec (v : Value) (xs : List Lk) (i j : Nat) (hi : i < xs.length) (hj : j < xs.length) :
    Spec Try.prog 68 #[v, (it (i : Int)), (it (j : Int))] [Res.rd v xs.length 5 (lkC xs)] []
      (fun r Γ' H' => r = (.bool (decide (key (xs.getD i lkD) < key (xs.getD j lkD)))) ∧ Γ' = [] ∧ H' = []) := by
  refine Spec.of_args Try.func68 rfl Try.ntmps68 (by simp) fun w => ?_
  refine JC.seq ?_
  refine JC.region ?_
  refine JO.v (Yv.assign rfl) (by decide) ?_
  refine JO.nil ?_
  refine JQ.then_normal ?_
  refine JC.seq ?_
  refine JC.draw (.one 0 (.one 1 (.one 2 (.one 3 (.one 4 (.one 5 (.one 6 (.one 7 (.one 8 (.one 9 (.one 10 (.one 11 .nil)))))))))))) (fun i => ([10] : List Nat).contains i) (fun i => ([10] : List Nat).contains i) (fun i => ([0, 1, 2, 3, 5, 6, 7, 8, 11] : List Nat).contains i) mixed (by kernel_rfl) (by decide) (by kernel_rfl) ?_
  refine JR.u rfl rfl rfl (Yv.move rfl) (by decide) ?_
  refine JR.u rfl rfl rfl (Yv.move rfl) (by decide) ?_
  first | refine JR.u rfl rfl rfl (Yv.indexRow Try.underlying43 sz_50 rfl rfl (by repeat (first | exact List.Mem.head _ | refine List.Mem.tail _ ?_)) (by first | exact ltb rfl | (simp; done) | (simp; omega) | omega | (simp [*]; omega))) (by decide) ?_ | refine JR.u rfl rfl rfl (Yv.indexRd Try.underlying43 sz_50 rfl rfl (by repeat (first | exact Lend.same _ _ | exact Lend.row _ _ _ _ _ _ (by decide) | apply Lend.there)) (by decide) (by first | exact ltb rfl | (simp; done) | (simp; omega) | omega | (simp [*]; omega))) (by decide) ?_
  refine JR.u rfl rfl rfl (Yv.fieldAddr fa_50_1 rfl) (by decide) ?_
  first | refine JR.v rfl rfl rfl (Yv.as (v' := .agg ((wd (xs.getD i lkD).rest.toNat).map u64).toArray) (Yv.loadOwn agg_32 (by repeat (first | exact List.Mem.head _ | refine List.Mem.tail _ ?_)) rfl (by first | rfl | (simp; done) | (simp; omega) | (simp [*]; done))) (congrArg (fun l : List Value => Value.agg l.toArray) (lk_rest hi))) (by decide) ?_ | refine JR.v rfl rfl rfl (Yv.as (v' := .agg ((wd (xs.getD i lkD).rest.toNat).map u64).toArray) (Yv.loadOwnAt agg_32 (by repeat (first | exact List.Mem.head _ | refine List.Mem.tail _ ?_)) rfl (by first | rfl | (simp; done) | (simp; omega) | (simp [*]; done))) (congrArg (fun l : List Value => Value.agg l.toArray) (lk_rest hi))) (by decide) ?_ | refine JR.v rfl rfl rfl (Yv.as (v' := .agg ((wd (xs.getD i lkD).rest.toNat).map u64).toArray) (Yv.loadRow agg_32 (by repeat (first | exact List.Mem.head _ | refine List.Mem.tail _ ?_)) rfl (by first | rfl | (simp; done) | (simp; omega) | (simp [*]; done))) (congrArg (fun l : List Value => Value.agg l.toArray) (lk_rest hi))) (by decide) ?_ | refine JR.v rfl rfl rfl (Yv.as (v' := .agg ((wd (xs.getD i lkD).rest.toNat).map u64).toArray) (Yv.loadRd agg_32 (by repeat (first | exact Lend.same _ _ | exact Lend.row _ _ _ _ _ _ (by decide) | apply Lend.there)) rfl (by first | rfl | (simp; done) | (simp; omega) | (simp [*]; done))) (congrArg (fun l : List Value => Value.agg l.toArray) (lk_rest hi))) (by decide) ?_ | refine JR.v rfl rfl rfl (Yv.as (v' := .agg ((wd (xs.getD i lkD).rest.toNat).map u64).toArray) (Yv.loadRd2 agg_32 (by repeat (first | exact Lend.same _ _ | exact Lend.row _ _ _ _ _ _ (by decide) | apply Lend.there)) rfl (by first | rfl | (simp; done) | (simp; omega) | (simp [*]; done))) (congrArg (fun l : List Value => Value.agg l.toArray) (lk_rest hi))) (by decide) ?_ | refine JR.v rfl rfl rfl (Yv.as (v' := .agg ((wd (xs.getD i lkD).rest.toNat).map u64).toArray) (Yv.loadRo agg_32 (by repeat (first | exact List.Mem.head _ | refine List.Mem.tail _ ?_)) rfl (by first | rfl | (simp; done) | (simp; omega) | (simp [*]; done))) (congrArg (fun l : List Value => Value.agg l.toArray) (lk_rest hi))) (by decide) ?_
  refine JR.u rfl rfl rfl (Yv.move rfl) (by decide) ?_
  refine JR.u rfl rfl rfl (Yv.move rfl) (by decide) ?_
  first | refine JR.u rfl rfl rfl (Yv.indexRow Try.underlying43 sz_50 rfl rfl (by repeat (first | exact List.Mem.head _ | refine List.Mem.tail _ ?_)) (by first | exact ltb rfl | (simp; done) | (simp; omega) | omega | (simp [*]; omega))) (by decide) ?_ | refine JR.u rfl rfl rfl (Yv.indexRd Try.underlying43 sz_50 rfl rfl (by repeat (first | exact Lend.same _ _ | exact Lend.row _ _ _ _ _ _ (by decide) | apply Lend.there)) (by decide) (by first | exact ltb rfl | (simp; done) | (simp; omega) | omega | (simp [*]; omega))) (by decide) ?_
  refine JR.u rfl rfl rfl (Yv.fieldAddr fa_50_1 rfl) (by decide) ?_
  first | refine JR.v rfl rfl rfl (Yv.as (v' := .agg ((wd (xs.getD j lkD).rest.toNat).map u64).toArray) (Yv.loadOwn agg_32 (by repeat (first | exact List.Mem.head _ | refine List.Mem.tail _ ?_)) rfl (by first | rfl | (simp; done) | (simp; omega) | (simp [*]; done))) (congrArg (fun l : List Value => Value.agg l.toArray) (lk_rest hj))) (by decide) ?_ | refine JR.v rfl rfl rfl (Yv.as (v' := .agg ((wd (xs.getD j lkD).rest.toNat).map u64).toArray) (Yv.loadOwnAt agg_32 (by repeat (first | exact List.Mem.head _ | refine List.Mem.tail _ ?_)) rfl (by first | rfl | (simp; done) | (simp; omega) | (simp [*]; done))) (congrArg (fun l : List Value => Value.agg l.toArray) (lk_rest hj))) (by decide) ?_ | refine JR.v rfl rfl rfl (Yv.as (v' := .agg ((wd (xs.getD j lkD).rest.toNat).map u64).toArray) (Yv.loadRow agg_32 (by repeat (first | exact List.Mem.head _ | refine List.Mem.tail _ ?_)) rfl (by first | rfl | (simp; done) | (simp; omega) | (simp [*]; done))) (congrArg (fun l : List Value => Value.agg l.toArray) (lk_rest hj))) (by decide) ?_ | refine JR.v rfl rfl rfl (Yv.as (v' := .agg ((wd (xs.getD j lkD).rest.toNat).map u64).toArray) (Yv.loadRd agg_32 (by repeat (first | exact Lend.same _ _ | exact Lend.row _ _ _ _ _ _ (by decide) | apply Lend.there)) rfl (by first | rfl | (simp; done) | (simp; omega) | (simp [*]; done))) (congrArg (fun l : List Value => Value.agg l.toArray) (lk_rest hj))) (by decide) ?_ | refine JR.v rfl rfl rfl (Yv.as (v' := .agg ((wd (xs.getD j lkD).rest.toNat).map u64).toArray) (Yv.loadRd2 agg_32 (by repeat (first | exact Lend.same _ _ | exact Lend.row _ _ _ _ _ _ (by decide) | apply Lend.there)) rfl (by first | rfl | (simp; done) | (simp; omega) | (simp [*]; done))) (congrArg (fun l : List Value => Value.agg l.toArray) (lk_rest hj))) (by decide) ?_ | refine JR.v rfl rfl rfl (Yv.as (v' := .agg ((wd (xs.getD j lkD).rest.toNat).map u64).toArray) (Yv.loadRo agg_32 (by repeat (first | exact List.Mem.head _ | refine List.Mem.tail _ ?_)) rfl (by first | rfl | (simp; done) | (simp; omega) | (simp [*]; done))) (congrArg (fun l : List Value => Value.agg l.toArray) (lk_rest hj))) (by decide) ?_
  refine JR.m rfl rfl (Mv.callB body_44 rfl (f44_spec (xs.getD i lkD).rest.toNat (xs.getD j lkD).rest.toNat (rest_lt' _) (rest_lt' _)) (by repeat (first | exact Picks.nil _ | apply Picks.cons | exact Pull.here _ _ | apply Pull.there)) (by repeat (first | exact Lends.nil _ | apply Lends.cons | exact Lend.same _ _ | exact Lend.row _ _ _ _ _ _ (by decide) | apply Lend.there)) (by rintro _ _ _ ⟨_, h, _⟩; exact h)) (by decide) ?_
  rintro _ _ _ ⟨_, ⟨rfl, _, rfl⟩, hΓ, hH⟩
  simp only [List.cons_append, List.nil_append] at hH; subst hΓ hH
  refine ⟨⟨Subs.sub (by repeat (first | exact Subs.nil _ | apply Subs.cons | exact List.Mem.head _ | refine List.Mem.tail _ ?_)), .inl rfl⟩, ?_⟩
  refine JR.u rfl rfl rfl (Yv.assign rfl) (by decide) ?_
  refine JR.nil ?_
  refine JQ.then_normal ?_
  refine JC.seq ?_
  refine JC.draw (.one 0 (.one 1 (.one 2 (.one 3 (.one 4 (.one 5 (.one 6 (.one 7 (.one 8 (.one 9 (.one 10 (.one 11 (.one 12 (.one 13 (.one 14 (.one 15 (.one 16 (.one 17 (.one 18 (.one 19 .nil)))))))))))))))))))) (fun i => ([] : List Nat).contains i) (fun i => ([] : List Nat).contains i) (fun i => ([0, 1, 2, 3, 4, 5, 6, 7, 8, 9, 11, 12, 13, 14, 16, 17, 18, 19] : List Nat).contains i) mixed (by kernel_rfl) (by decide) (by kernel_rfl) ?_
  refine JR.u rfl rfl rfl (Yv.move rfl) (by decide) ?_
  refine JR.u rfl rfl rfl (Yv.bin rfl rfl BinR.gtr_i) (by decide) ?_
  refine JR.u rfl rfl rfl (Yv.move rfl) (by decide) ?_
  refine JR.gsplit (g := 20) rfl (fun hg17 => ?_) (fun hg17 => ?_)
  · have hg17' := hg17
    try simp only [decide_eq_true_eq, decide_eq_false_iff_not, Bool.not_eq_true', Bool.not_eq_false', ne_eq, Decidable.not_not, Bool.not_eq_true, Bool.and_eq_true, Bool.or_eq_true, BitVec.reduceToNat] at hg17'
    refine JR.gf (g := 21) rfl rfl rfl rfl hg17 (by decide) ?_
    refine JR.gf (g := 21) rfl rfl rfl rfl hg17 (by decide) ?_
    refine JR.gf (g := 21) rfl rfl rfl rfl hg17 (by decide) ?_
    refine JR.gu (g := 24) rfl rfl rfl rfl (by decide) ?_
    refine JR.gu (g := 24) rfl rfl rfl rfl (by decide) ?_
    refine JR.gu (g := 24) rfl rfl rfl rfl (by decide) ?_
    refine JR.gu (g := 24) rfl rfl rfl rfl (by decide) ?_
    refine JR.gu (g := 24) rfl rfl rfl rfl (by decide) ?_
    refine JR.gu (g := 24) rfl rfl rfl rfl (by decide) ?_
    refine JR.gu (g := 24) rfl rfl rfl rfl (by decide) ?_
    refine JR.gu (g := 24) rfl rfl rfl rfl (by decide) ?_
    refine JR.gu (g := 24) rfl rfl rfl rfl (by decide) ?_
    refine JR.gu (g := 24) rfl rfl rfl rfl (by decide) ?_
    refine JR.gu (g := 24) rfl rfl rfl rfl (by decide) ?_
    refine JR.gf (g := 21) rfl rfl rfl rfl hg17 (by decide) ?_
    refine JR.u rfl rfl rfl (Yv.pick1 rfl hg17 rfl) (by decide) ?_
    refine JR.u rfl rfl rfl (Yv.as (v' := .bool (decide (key (xs.getD i lkD) < key (xs.getD j lkD)))) (Yv.assign rfl) (by first | exact congrArg Value.bool (decide_eq_true (key_gt hg17')).symm | exact congrArg Value.bool (decide_eq_decide.2 (key_eq hg20')) | exact congrArg Value.bool (decide_eq_false (key_no hg17' hg20')).symm)) (by decide) ?_
    refine JR.nil ?_
    refine JQ.then_normal ?_
    refine JC.ret ?_
    exact JQ.done (.inr rfl) (Γ' := []) (H' := []) (res1 rfl (RV.tmp rfl)) (Subs.sub (by repeat (first | exact Subs.nil _ | apply Subs.cons | exact List.Mem.head _ | refine List.Mem.tail _ ?_))) (Picks.perm (by repeat (first | exact Picks.nil _ | apply Picks.cons | exact Pull.here _ _ | apply Pull.there))) ⟨rfl, rfl, rfl⟩
  · have hg17' := hg17
    try simp only [decide_eq_true_eq, decide_eq_false_iff_not, Bool.not_eq_true', Bool.not_eq_false', ne_eq, Decidable.not_not, Bool.not_eq_true, Bool.and_eq_true, Bool.or_eq_true, BitVec.reduceToNat] at hg17'
    refine JR.ugt (g := 21) rfl rfl rfl rfl rfl hg17 (Yv.move rfl) (by decide) ?_
    refine JR.ugt (g := 21) rfl rfl rfl rfl rfl hg17 (Yv.bin rfl rfl BinR.eql_i) (by decide) ?_
    refine JR.ugt (g := 21) rfl rfl rfl rfl rfl hg17 (Yv.move rfl) (by decide) ?_
    refine JR.gsplit (g := 23) rfl (fun hg20 => ?_) (fun hg20 => ?_)
    · have hg20' := hg20
      try simp only [decide_eq_true_eq, decide_eq_false_iff_not, Bool.not_eq_true', Bool.not_eq_false', ne_eq, Decidable.not_not, Bool.not_eq_true, Bool.and_eq_true, Bool.or_eq_true, BitVec.reduceToNat] at hg20'
      refine JR.ugt (g := 24) rfl rfl rfl rfl rfl hg20 (Yv.move rfl) (by decide) ?_
      refine JR.ugt (g := 24) rfl rfl rfl rfl rfl hg20 (Yv.move rfl) (by decide) ?_
      first | refine JR.ugt (g := 24) rfl rfl rfl rfl rfl hg20 (Yv.indexRow Try.underlying43 sz_50 rfl rfl (by repeat (first | exact List.Mem.head _ | refine List.Mem.tail _ ?_)) (by first | exact ltb rfl | (simp; done) | (simp; omega) | omega | (simp [*]; omega))) (by decide) ?_ | refine JR.ugt (g := 24) rfl rfl rfl rfl rfl hg20 (Yv.indexRd Try.underlying43 sz_50 rfl rfl (by repeat (first | exact Lend.same _ _ | exact Lend.row _ _ _ _ _ _ (by decide) | apply Lend.there)) (by decide) (by first | exact ltb rfl | (simp; done) | (simp; omega) | omega | (simp [*]; omega))) (by decide) ?_
      refine JR.ugt (g := 24) rfl rfl rfl rfl rfl hg20 (Yv.fieldAddr fa_50_0 rfl) (by decide) ?_
      refine JR.vgt (g := 24) rfl rfl rfl rfl rfl hg20 (Yv.load1 one_3 rfl (by first | exact Kn.own (by repeat (first | exact List.Mem.head _ | refine List.Mem.tail _ ?_)) (by first | exact lk_who (by omega) | rfl | exact tab_get (by first | omega | (simp; omega)) | exact gm (d := 0) (by first | omega | (simp; omega))) | exact Kn.ro (by repeat (first | exact List.Mem.head _ | refine List.Mem.tail _ ?_)) (by first | exact lk_who (by omega) | rfl | exact tab_get (by first | omega | (simp; omega)) | exact gm (d := 0) (by first | omega | (simp; omega))) | exact Kn.row (by repeat (first | exact List.Mem.head _ | refine List.Mem.tail _ ?_)) (by first | exact lk_who (by omega) | rfl | exact tab_get (by first | omega | (simp; omega)) | exact gm (d := 0) (by first | omega | (simp; omega))) | exact Kn.rd (by repeat (first | exact Lend.same _ _ | exact Lend.row _ _ _ _ _ _ (by decide) | apply Lend.there)) (by first | exact lk_who (by omega) | rfl | exact tab_get (by first | omega | (simp; omega)) | exact gm (d := 0) (by first | omega | (simp; omega))) | exact Kn.rd2 (by repeat (first | exact Lend.same _ _ | exact Lend.row _ _ _ _ _ _ (by decide) | apply Lend.there)) (by first | exact lk_who (by omega) | rfl | exact tab_get (by first | omega | (simp; omega)) | exact gm (d := 0) (by first | omega | (simp; omega))))) (by decide) ?_
      refine JR.ugt (g := 24) rfl rfl rfl rfl rfl hg20 (Yv.move rfl) (by decide) ?_
      refine JR.ugt (g := 24) rfl rfl rfl rfl rfl hg20 (Yv.move rfl) (by decide) ?_
      first | refine JR.ugt (g := 24) rfl rfl rfl rfl rfl hg20 (Yv.indexRow Try.underlying43 sz_50 rfl rfl (by repeat (first | exact List.Mem.head _ | refine List.Mem.tail _ ?_)) (by first | exact ltb rfl | (simp; done) | (simp; omega) | omega | (simp [*]; omega))) (by decide) ?_ | refine JR.ugt (g := 24) rfl rfl rfl rfl rfl hg20 (Yv.indexRd Try.underlying43 sz_50 rfl rfl (by repeat (first | exact Lend.same _ _ | exact Lend.row _ _ _ _ _ _ (by decide) | apply Lend.there)) (by decide) (by first | exact ltb rfl | (simp; done) | (simp; omega) | omega | (simp [*]; omega))) (by decide) ?_
      refine JR.ugt (g := 24) rfl rfl rfl rfl rfl hg20 (Yv.fieldAddr fa_50_0 rfl) (by decide) ?_
      refine JR.vgt (g := 24) rfl rfl rfl rfl rfl hg20 (Yv.load1 one_3 rfl (by first | exact Kn.own (by repeat (first | exact List.Mem.head _ | refine List.Mem.tail _ ?_)) (by first | exact lk_who (by omega) | rfl | exact tab_get (by first | omega | (simp; omega)) | exact gm (d := 0) (by first | omega | (simp; omega))) | exact Kn.ro (by repeat (first | exact List.Mem.head _ | refine List.Mem.tail _ ?_)) (by first | exact lk_who (by omega) | rfl | exact tab_get (by first | omega | (simp; omega)) | exact gm (d := 0) (by first | omega | (simp; omega))) | exact Kn.row (by repeat (first | exact List.Mem.head _ | refine List.Mem.tail _ ?_)) (by first | exact lk_who (by omega) | rfl | exact tab_get (by first | omega | (simp; omega)) | exact gm (d := 0) (by first | omega | (simp; omega))) | exact Kn.rd (by repeat (first | exact Lend.same _ _ | exact Lend.row _ _ _ _ _ _ (by decide) | apply Lend.there)) (by first | exact lk_who (by omega) | rfl | exact tab_get (by first | omega | (simp; omega)) | exact gm (d := 0) (by first | omega | (simp; omega))) | exact Kn.rd2 (by repeat (first | exact Lend.same _ _ | exact Lend.row _ _ _ _ _ _ (by decide) | apply Lend.there)) (by first | exact lk_who (by omega) | rfl | exact tab_get (by first | omega | (simp; omega)) | exact gm (d := 0) (by first | omega | (simp; omega))))) (by decide) ?_
      refine JR.ugt (g := 24) rfl rfl rfl rfl rfl hg20 (Yv.bin rfl rfl BinR.lss_i) (by decide) ?_
      refine JR.ugt (g := 21) rfl rfl rfl rfl rfl hg17 (Yv.pick1 rfl hg20 rfl) (by decide) ?_
      refine JR.u rfl rfl rfl (Yv.pick0 rfl hg17 rfl) (by decide) ?_
      refine JR.u rfl rfl rfl (Yv.as (v' := .bool (decide (key (xs.getD i lkD) < key (xs.getD j lkD)))) (Yv.assign rfl) (by first | exact congrArg Value.bool (decide_eq_true (key_gt hg17')).symm | exact congrArg Value.bool (decide_eq_decide.2 (key_eq hg20')) | exact congrArg Value.bool (decide_eq_false (key_no hg17' hg20')).symm)) (by decide) ?_
      refine JR.nil ?_
      refine JQ.then_normal ?_
      refine JC.ret ?_
      exact JQ.done (.inr rfl) (Γ' := []) (H' := []) (res1 rfl (RV.tmp rfl)) (Subs.sub (by repeat (first | exact Subs.nil _ | apply Subs.cons | exact List.Mem.head _ | refine List.Mem.tail _ ?_))) (Picks.perm (by repeat (first | exact Picks.nil _ | apply Picks.cons | exact Pull.here _ _ | apply Pull.there))) ⟨rfl, rfl, rfl⟩
    · have hg20' := hg20
      try simp only [decide_eq_true_eq, decide_eq_false_iff_not, Bool.not_eq_true', Bool.not_eq_false', ne_eq, Decidable.not_not, Bool.not_eq_true, Bool.and_eq_true, Bool.or_eq_true, BitVec.reduceToNat] at hg20'
      refine JR.gf (g := 24) rfl rfl rfl rfl hg20 (by decide) ?_
      refine JR.gf (g := 24) rfl rfl rfl rfl hg20 (by decide) ?_
      refine JR.gf (g := 24) rfl rfl rfl rfl hg20 (by decide) ?_
      refine JR.gf (g := 24) rfl rfl rfl rfl hg20 (by decide) ?_
      refine JR.gf (g := 24) rfl rfl rfl rfl hg20 (by decide) ?_
      refine JR.gf (g := 24) rfl rfl rfl rfl hg20 (by decide) ?_
      refine JR.gf (g := 24) rfl rfl rfl rfl hg20 (by decide) ?_
      refine JR.gf (g := 24) rfl rfl rfl rfl hg20 (by decide) ?_
      refine JR.gf (g := 24) rfl rfl rfl rfl hg20 (by decide) ?_
      refine JR.gf (g := 24) rfl rfl rfl rfl hg20 (by decide) ?_
      refine JR.gf (g := 24) rfl rfl rfl rfl hg20 (by decide) ?_
      refine JR.ugt (g := 21) rfl rfl rfl rfl rfl hg17 (Yv.pick0 rfl hg20 rfl) (by decide) ?_
      refine JR.u rfl rfl rfl (Yv.pick0 rfl hg17 rfl) (by decide) ?_
      refine JR.u rfl rfl rfl (Yv.as (v' := .bool (decide (key (xs.getD i lkD) < key (xs.getD j lkD)))) (Yv.assign rfl) (by first | exact congrArg Value.bool (decide_eq_true (key_gt hg17')).symm | exact congrArg Value.bool (decide_eq_decide.2 (key_eq hg20')) | exact congrArg Value.bool (decide_eq_false (key_no hg17' hg20')).symm)) (by decide) ?_
      refine JR.nil ?_
      refine JQ.then_normal ?_
      refine JC.ret ?_
      exact JQ.done (.inr rfl) (Γ' := []) (H' := []) (res1 rfl (RV.tmp rfl)) (Subs.sub (by repeat (first | exact Subs.nil _ | apply Subs.cons | exact List.Mem.head _ | refine List.Mem.tail _ ?_))) (Picks.perm (by repeat (first | exact Picks.nil _ | apply Picks.cons | exact Pull.here _ _ | apply Pull.there))) ⟨rfl, rfl, rfl⟩


theorem f69_spec (v : Value) (xs : List Lk) (i j : Nat) (hi : i < xs.length) (hj : j < xs.length) :
    Spec Try.prog 69 #[v, (it (i : Int)), (it (j : Int))] [] [Res.row v xs.length 50 5 (lkC xs)]
      (fun r Γ' H' => Γ' = [] ∧ H' = [Res.row v (swp lkD xs i j).length 50 5 (lkC (swp lkD xs i j))]) := by
  refine Spec.of_args Try.func69 rfl Try.ntmps69 (by simp) fun w => ?_
  refine JC.know (φ := ∃ g c, v = .slice (some ⟨g, 0, none⟩) xs.length c) (fun w hs => hs.rowForm (.head _) (by omega)) fun ⟨g, c, hv⟩ => ?_
  subst hv
  refine JC.draw (.one 0 (.one 1 (.one 2 (.one 3 (.one 4 (.one 5 (.one 6 (.one 7 (.one 8 (.one 9 (.one 10 (.one 11 (.one 12 (.one 13 (.one 14 (.one 15 .nil)))))))))))))))) (fun i => ([13, 15] : List Nat).contains i) (fun i => ([13, 15] : List Nat).contains i) (fun i => ([0, 1, 2, 3, 4, 5, 6, 8, 9, 10, 12, 14] : List Nat).contains i) mixed (by kernel_rfl) (by decide) (by kernel_rfl) ?_
  refine JR.u rfl rfl rfl (Yv.move rfl) (by decide) ?_
  refine JR.u rfl rfl rfl (Yv.move rfl) (by decide) ?_
  refine JR.u rfl rfl rfl (Yv.move rfl) (by decide) ?_
  refine JR.u rfl rfl rfl (Yv.move rfl) (by decide) ?_
  refine JR.u rfl rfl rfl (Yv.move rfl) (by decide) ?_
  refine JR.u rfl rfl rfl (Yv.move rfl) (by decide) ?_
  first | refine JR.u rfl rfl rfl (Yv.indexRow Try.underlying43 sz_50 rfl rfl (by repeat (first | exact List.Mem.head _ | refine List.Mem.tail _ ?_)) (by first | exact ltb rfl | (simp; done) | (simp; omega) | omega | (simp [*]; omega))) (by decide) ?_ | refine JR.u rfl rfl rfl (Yv.indexRd Try.underlying43 sz_50 rfl rfl (by repeat (first | exact Lend.same _ _ | exact Lend.row _ _ _ _ _ _ (by decide) | apply Lend.there)) (by decide) (by first | exact ltb rfl | (simp; done) | (simp; omega) | omega | (simp [*]; omega))) (by decide) ?_ | refine JR.u rfl rfl rfl (Yv.indexSl0 Try.underlying43 sz_50 rfl rfl (by first | exact ltb rfl | (simp; done) | (simp; omega) | omega | (simp [*]; omega))) (by decide) ?_
  first | refine JR.v rfl rfl rfl (Yv.as (v' := .agg (xs.getD j lkD).cells.toArray) (Yv.loadOwn agg_50 (by repeat (first | exact List.Mem.head _ | refine List.Mem.tail _ ?_)) rfl (by first | rfl | (simp; done) | (simp; omega) | (simp [*]; done))) (congrArg (fun l : List Value => Value.agg l.toArray) (lk_piece hj))) (by decide) ?_ | refine JR.v rfl rfl rfl (Yv.as (v' := .agg (xs.getD j lkD).cells.toArray) (Yv.loadOwnAt agg_50 (by repeat (first | exact List.Mem.head _ | refine List.Mem.tail _ ?_)) rfl (by first | rfl | (simp; done) | (simp; omega) | (simp [*]; done))) (congrArg (fun l : List Value => Value.agg l.toArray) (lk_piece hj))) (by decide) ?_ | refine JR.v rfl rfl rfl (Yv.as (v' := .agg (xs.getD j lkD).cells.toArray) (Yv.loadRow agg_50 (by repeat (first | exact List.Mem.head _ | refine List.Mem.tail _ ?_)) rfl (by first | rfl | (simp; done) | (simp; omega) | (simp [*]; done))) (congrArg (fun l : List Value => Value.agg l.toArray) (lk_piece hj))) (by decide) ?_ | refine JR.v rfl rfl rfl (Yv.as (v' := .agg (xs.getD j lkD).cells.toArray) (Yv.loadRd agg_50 (by repeat (first | exact Lend.same _ _ | exact Lend.row _ _ _ _ _ _ (by decide) | apply Lend.there)) rfl (by first | rfl | (simp; done) | (simp; omega) | (simp [*]; done))) (congrArg (fun l : List Value => Value.agg l.toArray) (lk_piece hj))) (by decide) ?_ | refine JR.v rfl rfl rfl (Yv.as (v' := .agg (xs.getD j lkD).cells.toArray) (Yv.loadRo agg_50 (by repeat (first | exact List.Mem.head _ | refine List.Mem.tail _ ?_)) rfl (by first | rfl | (simp; done) | (simp; omega) | (simp [*]; done))) (congrArg (fun l : List Value => Value.agg l.toArray) (lk_piece hj))) (by decide) ?_
  refine JR.u rfl rfl rfl (Yv.move rfl) (by decide) ?_
  refine JR.u rfl rfl rfl (Yv.move rfl) (by decide) ?_
  first | refine JR.u rfl rfl rfl (Yv.indexRow Try.underlying43 sz_50 rfl rfl (by repeat (first | exact List.Mem.head _ | refine List.Mem.tail _ ?_)) (by first | exact ltb rfl | (simp; done) | (simp; omega) | omega | (simp [*]; omega))) (by decide) ?_ | refine JR.u rfl rfl rfl (Yv.indexRd Try.underlying43 sz_50 rfl rfl (by repeat (first | exact Lend.same _ _ | exact Lend.row _ _ _ _ _ _ (by decide) | apply Lend.there)) (by decide) (by first | exact ltb rfl | (simp; done) | (simp; omega) | omega | (simp [*]; omega))) (by decide) ?_ | refine JR.u rfl rfl rfl (Yv.indexSl0 Try.underlying43 sz_50 rfl rfl (by first | exact ltb rfl | (simp; done) | (simp; omega) | omega | (simp [*]; omega))) (by decide) ?_
  first | refine JR.v rfl rfl rfl (Yv.as (v' := .agg (xs.getD i lkD).cells.toArray) (Yv.loadOwn agg_50 (by repeat (first | exact List.Mem.head _ | refine List.Mem.tail _ ?_)) rfl (by first | rfl | (simp; done) | (simp; omega) | (simp [*]; done))) (congrArg (fun l : List Value => Value.agg l.toArray) (lk_piece hi))) (by decide) ?_ | refine JR.v rfl rfl rfl (Yv.as (v' := .agg (xs.getD i lkD).cells.toArray) (Yv.loadOwnAt agg_50 (by repeat (first | exact List.Mem.head _ | refine List.Mem.tail _ ?_)) rfl (by first | rfl | (simp; done) | (simp; omega) | (simp [*]; done))) (congrArg (fun l : List Value => Value.agg l.toArray) (lk_piece hi))) (by decide) ?_ | refine JR.v rfl rfl rfl (Yv.as (v' := .agg (xs.getD i lkD).cells.toArray) (Yv.loadRow agg_50 (by repeat (first | exact List.Mem.head _ | refine List.Mem.tail _ ?_)) rfl (by first | rfl | (simp; done) | (simp; omega) | (simp [*]; done))) (congrArg (fun l : List Value => Value.agg l.toArray) (lk_piece hi))) (by decide) ?_ | refine JR.v rfl rfl rfl (Yv.as (v' := .agg (xs.getD i lkD).cells.toArray) (Yv.loadRd agg_50 (by repeat (first | exact Lend.same _ _ | exact Lend.row _ _ _ _ _ _ (by decide) | apply Lend.there)) rfl (by first | rfl | (simp; done) | (simp; omega) | (simp [*]; done))) (congrArg (fun l : List Value => Value.agg l.toArray) (lk_piece hi))) (by decide) ?_ | refine JR.v rfl rfl rfl (Yv.as (v' := .agg (xs.getD i lkD).cells.toArray) (Yv.loadRo agg_50 (by repeat (first | exact List.Mem.head _ | refine List.Mem.tail _ ?_)) rfl (by first | rfl | (simp; done) | (simp; omega) | (simp [*]; done))) (congrArg (fun l : List Value => Value.agg l.toArray) (lk_piece hi))) (by decide) ?_
  first | refine JR.u rfl rfl rfl (Yv.indexRow Try.underlying43 sz_50 rfl rfl (by repeat (first | exact List.Mem.head _ | refine List.Mem.tail _ ?_)) (by first | exact ltb rfl | (simp; done) | (simp; omega) | omega | (simp [*]; omega))) (by decide) ?_ | refine JR.u rfl rfl rfl (Yv.indexRd Try.underlying43 sz_50 rfl rfl (by repeat (first | exact Lend.same _ _ | exact Lend.row _ _ _ _ _ _ (by decide) | apply Lend.there)) (by decide) (by first | exact ltb rfl | (simp; done) | (simp; omega) | omega | (simp [*]; omega))) (by decide) ?_ | refine JR.u rfl rfl rfl (Yv.indexSl0 Try.underlying43 sz_50 rfl rfl (by first | exact ltb rfl | (simp; done) | (simp; omega) | omega | (simp [*]; omega))) (by decide) ?_
  refine JR.m0 rfl rfl (Mv.storeRow (v := .slice (some ⟨g, 0, none⟩) xs.length c) (o := i * 5) sz_50 rfl rfl rfl rfl (lk_one1 _) (by repeat (first | exact Upd.here _ _ _ | apply Upd.there)) (by omega) (by omega)) ?_
  rintro _ _ _ ⟨rfl, rfl⟩
  refine ⟨⟨Subs.sub (by repeat (first | exact Subs.nil _ | apply Subs.cons | exact List.Mem.head _ | refine List.Mem.tail _ ?_)), .inl rfl⟩, ?_⟩
  first | refine JR.u rfl rfl rfl (Yv.indexRow Try.underlying43 sz_50 rfl rfl (by repeat (first | exact List.Mem.head _ | refine List.Mem.tail _ ?_)) (by first | exact ltb rfl | (simp; done) | (simp; omega) | omega | (simp [*]; omega))) (by decide) ?_ | refine JR.u rfl rfl rfl (Yv.indexRd Try.underlying43 sz_50 rfl rfl (by repeat (first | exact Lend.same _ _ | exact Lend.row _ _ _ _ _ _ (by decide) | apply Lend.there)) (by decide) (by first | exact ltb rfl | (simp; done) | (simp; omega) | omega | (simp [*]; omega))) (by decide) ?_ | refine JR.u rfl rfl rfl (Yv.indexSl0 Try.underlying43 sz_50 rfl rfl (by first | exact ltb rfl | (simp; done) | (simp; omega) | omega | (simp [*]; omega))) (by decide) ?_
  refine JR.m0 rfl rfl (Mv.storeRow (v := .slice (some ⟨g, 0, none⟩) xs.length c) (o := j * 5) sz_50 rfl rfl rfl rfl (lk_one1 _) (by repeat (first | exact Upd.here _ _ _ | apply Upd.there)) (by omega) (by omega)) ?_
  rintro _ _ _ ⟨rfl, rfl⟩
  refine ⟨⟨Subs.sub (by repeat (first | exact Subs.nil _ | apply Subs.cons | exact List.Mem.head _ | refine List.Mem.tail _ ?_)), .inl rfl⟩, ?_⟩
  refine JR.nil ?_
  exact JQ.done (.inl rfl) (Γ' := []) (H' := [Res.row _ _ 50 5 _]) (res_none rfl) (Subs.sub (by repeat (first | exact Subs.nil _ | apply Subs.cons | exact List.Mem.head _ | refine List.Mem.tail _ ?_))) (Picks.perm (by repeat (first | exact Picks.nil _ | apply Picks.cons | exact Pull.here _ _ | apply Pull.there))) ⟨rfl, by rw [lk_splice hi, lk_splice (by simpa using hj), swp_len]; rfl⟩


theorem f70_spec (q : Nat) (v : Value) (ys : List Lk) (x : Lk) (hl : ys.length ≤ 1000000) :
    Spec Try.prog 70 #[(ptr q 0)] [] [Res.cells q [v] 43, Res.row v (ys ++ [x]).length 50 5 (lkC (ys ++ [x]))]
      (fun r Γ' H' => ∃ v', r = .iface 50 (.agg (x).cells.toArray) ∧ Γ' = [] ∧ H' = [Res.cells q [v'] 43, Res.row v' ys.length 50 5 (lkC ys)]) := by
  refine Spec.of_args Try.func70 rfl Try.ntmps70 (by simp) fun w => ?_
  refine JC.seq ?_
  refine JC.region ?_
  refine JO.v (Yv.assign rfl) (by decide) ?_
  refine JO.nil ?_
  refine JQ.then_normal ?_
  refine JC.seq ?_
  refine JC.region ?_
  refine JO.v (Yv.move rfl) (by decide) ?_
  refine JO.v (Yv.nilCheck rfl) (by decide) ?_
  refine JO.v (Yv.load1 one_43 rfl (by first | exact Kn.own (by repeat (first | exact List.Mem.head _ | refine List.Mem.tail _ ?_)) (by first  | rfl | exact tab_get (by first | omega | (simp; omega)) | exact gm (d := 0) (by first | omega | (simp; omega))) | exact Kn.ro (by repeat (first | exact List.Mem.head _ | refine List.Mem.tail _ ?_)) (by first  | rfl | exact tab_get (by first | omega | (simp; omega)) | exact gm (d := 0) (by first | omega | (simp; omega))) | exact Kn.row (by repeat (first | exact List.Mem.head _ | refine List.Mem.tail _ ?_)) (by first  | rfl | exact tab_get (by first | omega | (simp; omega)) | exact gm (d := 0) (by first | omega | (simp; omega))) | exact Kn.rd (by repeat (first | exact Lend.same _ _ | exact Lend.row _ _ _ _ _ _ (by decide) | apply Lend.there)) (by first  | rfl | exact tab_get (by first | omega | (simp; omega)) | exact gm (d := 0) (by first | omega | (simp; omega))) | exact Kn.rd2 (by repeat (first | exact Lend.same _ _ | exact Lend.row _ _ _ _ _ _ (by decide) | apply Lend.there)) (by first  | rfl | exact tab_get (by first | omega | (simp; omega)) | exact gm (d := 0) (by first | omega | (simp; omega))))) (by decide) ?_
  first | refine JO.v (Yv.len_s Try.underlying43 rfl) (by decide) ?_ | refine JO.v (Yv.lenRd Try.underlying43 rfl (by repeat (first | exact Lend.same _ _ | exact Lend.row _ _ _ _ _ _ (by decide) | apply Lend.there))) (by decide) ?_
  refine JO.v (Yv.as (v' := it (ys.length : Int)) (Yv.bin rfl rfl (BinR.sub_i (by first | (constructor <;> omega) | (constructor <;> simp <;> omega)))) (congrArg it (by simp))) (by decide) ?_
  refine JO.v (Yv.assign rfl) (by decide) ?_
  refine JO.nil ?_
  refine JQ.then_normal ?_
  refine JC.seq ?_
  refine JC.region ?_
  refine JO.v (Yv.move rfl) (by decide) ?_
  refine JO.v (Yv.nilCheck rfl) (by decide) ?_
  refine JO.v (Yv.load1 one_43 rfl (by first | exact Kn.own (by repeat (first | exact List.Mem.head _ | refine List.Mem.tail _ ?_)) (by first  | rfl | exact tab_get (by first | omega | (simp; omega)) | exact gm (d := 0) (by first | omega | (simp; omega))) | exact Kn.ro (by repeat (first | exact List.Mem.head _ | refine List.Mem.tail _ ?_)) (by first  | rfl | exact tab_get (by first | omega | (simp; omega)) | exact gm (d := 0) (by first | omega | (simp; omega))) | exact Kn.row (by repeat (first | exact List.Mem.head _ | refine List.Mem.tail _ ?_)) (by first  | rfl | exact tab_get (by first | omega | (simp; omega)) | exact gm (d := 0) (by first | omega | (simp; omega))) | exact Kn.rd (by repeat (first | exact Lend.same _ _ | exact Lend.row _ _ _ _ _ _ (by decide) | apply Lend.there)) (by first  | rfl | exact tab_get (by first | omega | (simp; omega)) | exact gm (d := 0) (by first | omega | (simp; omega))) | exact Kn.rd2 (by repeat (first | exact Lend.same _ _ | exact Lend.row _ _ _ _ _ _ (by decide) | apply Lend.there)) (by first  | rfl | exact tab_get (by first | omega | (simp; omega)) | exact gm (d := 0) (by first | omega | (simp; omega))))) (by decide) ?_
  refine JO.v (Yv.move rfl) (by decide) ?_
  first | refine JO.v (Yv.indexRow Try.underlying43 sz_50 rfl rfl (by repeat (first | exact List.Mem.head _ | refine List.Mem.tail _ ?_)) (by first | exact ltb rfl | (simp; done) | (simp; omega) | omega | (simp [*]; omega))) (by decide) ?_ | refine JO.v (Yv.indexRd Try.underlying43 sz_50 rfl rfl (by repeat (first | exact Lend.same _ _ | exact Lend.row _ _ _ _ _ _ (by decide) | apply Lend.there)) (by decide) (by first | exact ltb rfl | (simp; done) | (simp; omega) | omega | (simp [*]; omega))) (by decide) ?_
  first | refine JO.v (Yv.as (v' := .agg (x).cells.toArray) (Yv.loadOwn agg_50 (by repeat (first | exact List.Mem.head _ | refine List.Mem.tail _ ?_)) rfl (by first | rfl | (simp; done) | (simp; omega) | (simp [*]; done))) (congrArg (fun l : List Value => Value.agg l.toArray) (by rw [lk_piece (by simp)]; simp))) (by decide) ?_ | refine JO.v (Yv.as (v' := .agg (x).cells.toArray) (Yv.loadOwnAt agg_50 (by repeat (first | exact List.Mem.head _ | refine List.Mem.tail _ ?_)) rfl (by first | rfl | (simp; done) | (simp; omega) | (simp [*]; done))) (congrArg (fun l : List Value => Value.agg l.toArray) (by rw [lk_piece (by simp)]; simp))) (by decide) ?_ | refine JO.v (Yv.as (v' := .agg (x).cells.toArray) (Yv.loadRow agg_50 (by repeat (first | exact List.Mem.head _ | refine List.Mem.tail _ ?_)) rfl (by first | rfl | (simp; done) | (simp; omega) | (simp [*]; done))) (congrArg (fun l : List Value => Value.agg l.toArray) (by rw [lk_piece (by simp)]; simp))) (by decide) ?_ | refine JO.v (Yv.as (v' := .agg (x).cells.toArray) (Yv.loadRd agg_50 (by repeat (first | exact Lend.same _ _ | exact Lend.row _ _ _ _ _ _ (by decide) | apply Lend.there)) rfl (by first | rfl | (simp; done) | (simp; omega) | (simp [*]; done))) (congrArg (fun l : List Value => Value.agg l.toArray) (by rw [lk_piece (by simp)]; simp))) (by decide) ?_ | refine JO.v (Yv.as (v' := .agg (x).cells.toArray) (Yv.loadRo agg_50 (by repeat (first | exact List.Mem.head _ | refine List.Mem.tail _ ?_)) rfl (by first | rfl | (simp; done) | (simp; omega) | (simp [*]; done))) (congrArg (fun l : List Value => Value.agg l.toArray) (by rw [lk_piece (by simp)]; simp))) (by decide) ?_
  refine JO.alloc _ zero_50 rfl (by decide) fun b4 => ?_
  refine JO.storeAll sz_50 rfl rfl rfl rfl (lk_one1 x) (by repeat (first | exact Upd.here _ _ _ | apply Upd.there)) rfl ?_
  refine JO.nil ?_
  refine JQ.then_normal ?_
  refine JC.seq ?_
  refine JC.region ?_
  refine JO.v (Yv.move rfl) (by decide) ?_
  refine JO.v (Yv.move rfl) (by decide) ?_
  refine JO.v (Yv.nilCheck rfl) (by decide) ?_
  refine JO.v (Yv.load1 one_43 rfl (by first | exact Kn.own (by repeat (first | exact List.Mem.head _ | refine List.Mem.tail _ ?_)) (by first  | rfl | exact tab_get (by first | omega | (simp; omega)) | exact gm (d := 0) (by first | omega | (simp; omega))) | exact Kn.ro (by repeat (first | exact List.Mem.head _ | refine List.Mem.tail _ ?_)) (by first  | rfl | exact tab_get (by first | omega | (simp; omega)) | exact gm (d := 0) (by first | omega | (simp; omega))) | exact Kn.row (by repeat (first | exact List.Mem.head _ | refine List.Mem.tail _ ?_)) (by first  | rfl | exact tab_get (by first | omega | (simp; omega)) | exact gm (d := 0) (by first | omega | (simp; omega))) | exact Kn.rd (by repeat (first | exact Lend.same _ _ | exact Lend.row _ _ _ _ _ _ (by decide) | apply Lend.there)) (by first  | rfl | exact tab_get (by first | omega | (simp; omega)) | exact gm (d := 0) (by first | omega | (simp; omega))) | exact Kn.rd2 (by repeat (first | exact Lend.same _ _ | exact Lend.row _ _ _ _ _ _ (by decide) | apply Lend.there)) (by first  | rfl | exact tab_get (by first | omega | (simp; omega)) | exact gm (d := 0) (by first | omega | (simp; omega))))) (by decide) ?_
  refine JO.v (Yv.move rfl) (by decide) ?_
  refine JO.cutRow ys.length Try.underlying43 sz_50 rfl (by repeat (first | exact Pull.here _ _ | apply Pull.there)) rfl (by first | (simp; done) | omega | (simp; omega)) (by decide) fun v21 => ?_
  rw [show (lkC (ys ++ [x])).take (ys.length * 5) = lkC ys from by rw [lkC_append, List.take_left' (by simp)]]
  refine JO.v (Yv.nilCheck rfl) (by decide) ?_
  first | refine JO.store1 sz_43 rfl rfl rfl (by repeat (first | exact Upd.here _ _ _ | apply Upd.there)) (by first | exact ltb rfl | (simp; done) | (simp; omega) | omega | (simp [*]; omega)) ?_ | refine JO.store1s sz_43 rfl rfl (by repeat (first | exact Lend.same _ _ | exact Lend.row _ _ _ _ _ _ (by decide) | apply Lend.there)) (by repeat (first | exact Upd.here _ _ _ | apply Upd.there)) (by first | exact ltb rfl | (simp; done) | (simp; omega) | omega | (simp [*]; omega)) ?_ | refine JO.storeRow1 sz_43 rfl rfl rfl (by repeat (first | exact Upd.here _ _ _ | apply Upd.there)) (by first | exact ltb rfl | (simp; done) | (simp; omega) | omega | (simp [*]; omega)) (by first | rfl | (simp; done) | omega | (simp; omega)) ?_
  refine JO.nil ?_
  refine JQ.then_normal ?_
  refine JC.seq ?_
  refine JC.region ?_
  first | refine JO.v (Yv.loadOwn agg_50 (by repeat (first | exact List.Mem.head _ | refine List.Mem.tail _ ?_)) rfl (by first | rfl | (simp; done) | (simp; omega) | (simp [*]; done))) (by decide) ?_ | refine JO.v (Yv.loadOwnAt agg_50 (by repeat (first | exact List.Mem.head _ | refine List.Mem.tail _ ?_)) rfl (by first | rfl | (simp; done) | (simp; omega) | (simp [*]; done))) (by decide) ?_ | refine JO.v (Yv.loadRow agg_50 (by repeat (first | exact List.Mem.head _ | refine List.Mem.tail _ ?_)) rfl (by first | rfl | (simp; done) | (simp; omega) | (simp [*]; done))) (by decide) ?_ | refine JO.v (Yv.loadRd agg_50 (by repeat (first | exact Lend.same _ _ | exact Lend.row _ _ _ _ _ _ (by decide) | apply Lend.there)) rfl (by first | rfl | (simp; done) | (simp; omega) | (simp [*]; done))) (by decide) ?_ | refine JO.v (Yv.loadRo agg_50 (by repeat (first | exact List.Mem.head _ | refine List.Mem.tail _ ?_)) rfl (by first | rfl | (simp; done) | (simp; omega) | (simp [*]; done))) (by decide) ?_
  refine JO.v (Yv.iface Try.underlying50 (fun _ h => by cases h) rfl) (by decide) ?_
  refine JO.v (Yv.assign rfl) (by decide) ?_
  refine JO.nil ?_
  refine JQ.then_normal ?_
  refine JC.ret ?_
  exact JQ.done (.inr rfl) (Γ' := []) (H' := [Res.cells q [_] 43, Res.row _ ys.length 50 5 (lkC ys)]) (res1 rfl (RV.tmp rfl)) (Subs.sub (by repeat (first | exact Subs.nil _ | apply Subs.cons | exact List.Mem.head _ | refine List.Mem.tail _ ?_))) (Picks.perm (by repeat (first | exact Picks.nil _ | apply Picks.cons | exact Pull.here _ _ | apply Pull.there))) ⟨_, rfl, rfl, rfl⟩


theorem f71_spec (q : Nat) (v : Value) (xs : List Lk) (x : Lk) (hl : xs.length ≤ 1000000) :
    Spec Try.prog 71 #[(ptr q 0), (.iface 50 (.agg (x).cells.toArray))] [] [Res.cells q [v] 43, Res.row v xs.length 50 5 (lkC xs)]
      (fun r Γ' H' => ∃ v', Γ' = [] ∧ H' = [Res.cells q [v'] 43, Res.row v' (xs ++ [x]).length 50 5 (lkC (xs ++ [x]))]) := by
  refine Spec.of_args Try.func71 rfl Try.ntmps71 (by simp) fun w => ?_
  refine JC.draw (.one 0 (.one 1 (.one 2 (.one 3 (.one 4 (.one 5 (.one 6 (.one 7 (.one 8 (.one 9 .nil)))))))))) (fun i => ([7, 9] : List Nat).contains i) (fun i => ([6, 7, 9] : List Nat).contains i) (fun i => ([0, 1, 2, 4, 5, 8] : List Nat).contains i) mixed (by kernel_rfl) (by decide) (by kernel_rfl) ?_
  refine JR.u rfl rfl rfl (Yv.move rfl) (by decide) ?_
  refine JR.u rfl rfl rfl (Yv.move rfl) (by decide) ?_
  refine JR.u rfl rfl rfl (Yv.nilCheck rfl) (by decide) ?_
  refine JR.v rfl rfl rfl (Yv.load1 one_43 rfl (by first | exact Kn.own (by repeat (first | exact List.Mem.head _ | refine List.Mem.tail _ ?_)) (by first  | rfl | exact tab_get (by first | omega | (simp; omega)) | exact gm (d := 0) (by first | omega | (simp; omega))) | exact Kn.ro (by repeat (first | exact List.Mem.head _ | refine List.Mem.tail _ ?_)) (by first  | rfl | exact tab_get (by first | omega | (simp; omega)) | exact gm (d := 0) (by first | omega | (simp; omega))) | exact Kn.row (by repeat (first | exact List.Mem.head _ | refine List.Mem.tail _ ?_)) (by first  | rfl | exact tab_get (by first | omega | (simp; omega)) | exact gm (d := 0) (by first | omega | (simp; omega))) | exact Kn.rd (by repeat (first | exact Lend.same _ _ | exact Lend.row _ _ _ _ _ _ (by decide) | apply Lend.there)) (by first  | rfl | exact tab_get (by first | omega | (simp; omega)) | exact gm (d := 0) (by first | omega | (simp; omega))) | exact Kn.rd2 (by repeat (first | exact Lend.same _ _ | exact Lend.row _ _ _ _ _ _ (by decide) | apply Lend.there)) (by first  | rfl | exact tab_get (by first | omega | (simp; omega)) | exact gm (d := 0) (by first | omega | (simp; omega))))) (by decide) ?_
  refine JR.u rfl rfl rfl (Yv.move rfl) (by decide) ?_
  refine JR.u rfl rfl rfl (Yv.assert Try.underlying50 (fun _ h => by cases h) rfl) (by decide) ?_
  refine JR.m rfl rfl (Mv.lit Try.underlying43 info_50 rfl rfl (by intro v hv; simp at hv; subst hv; rfl) (by decide) (by decide) (by unfold maxLen; omega)) (by decide) ?_
  rintro v10 _ _ ⟨rfl, rfl⟩
  refine ⟨⟨Subs.sub (by repeat (first | exact Subs.nil _ | apply Subs.cons | exact List.Mem.head _ | refine List.Mem.tail _ ?_)), .inr (St.keep (by repeat (first | exact Subs.nil _ | apply Subs.cons | exact List.Mem.head _ | refine List.Mem.tail _ ?_)) (by repeat (first | exact Picks.nil _ | apply Picks.cons | exact Pull.here _ _ | apply Pull.there)))⟩, ?_⟩
  refine JR.m rfl rfl (Mv.append Try.underlying43 info_50 rfl (by decide) rfl rfl (by repeat (first | exact Pull.here _ _ | apply Pull.there)) (by first | exact Src.nil | exact Src.rd (by repeat (first | exact Lend.same _ _ | exact Lend.row _ _ _ _ _ _ (by decide) | apply Lend.there)) (by decide) | exact Src.cells (by repeat (first | exact List.Mem.head _ | refine List.Mem.tail _ ?_)) (by simp)) (by first | exact lk_one1 _ | (intro a ha; simp at ha; exact lk_one1 _ a ha)) (by unfold maxLen; omega) (by omega)) (by decide) ?_
  rintro v11 _ _ ⟨rfl, rfl⟩
  refine ⟨⟨Subs.sub (by repeat (first | exact Subs.nil _ | apply Subs.cons | exact List.Mem.head _ | refine List.Mem.tail _ ?_)), .inl rfl⟩, ?_⟩
  refine JR.u rfl rfl rfl (Yv.nilCheck rfl) (by decide) ?_
  first | refine JR.m0 rfl rfl (Mv.store1 sz_43 rfl rfl rfl (by repeat (first | exact Upd.here _ _ _ | apply Upd.there)) (by first | exact ltb rfl | (simp; done) | (simp; omega) | omega | (simp [*]; omega))) ?_ | refine JR.m0 rfl rfl (Mv.store1s sz_43 rfl rfl (by repeat (first | exact Lend.same _ _ | exact Lend.row _ _ _ _ _ _ (by decide) | apply Lend.there)) (by repeat (first | exact Upd.here _ _ _ | apply Upd.there)) (by first | exact ltb rfl | (simp; done) | (simp; omega) | omega | (simp [*]; omega))) ?_ | refine JR.m0 rfl rfl (Mv.storeRow1 sz_43 rfl rfl rfl (by repeat (first | exact Upd.here _ _ _ | apply Upd.there)) (by first | exact ltb rfl | (simp; done) | (simp; omega) | omega | (simp [*]; omega)) (by first | rfl | (simp; done) | omega | (simp; omega))) ?_
  rintro _ _ _ ⟨rfl, rfl⟩
  refine ⟨⟨Subs.sub (by repeat (first | exact Subs.nil _ | apply Subs.cons | exact List.Mem.head _ | refine List.Mem.tail _ ?_)), .inl rfl⟩, ?_⟩
  refine JR.nil ?_
  exact JQ.done (.inl rfl) (Γ' := []) (H' := [Res.cells q [_] 43, Res.row _ _ 50 5 _]) (res_none rfl) (Subs.sub (by repeat (first | exact Subs.nil _ | apply Subs.cons | exact List.Mem.head _ | refine List.Mem.tail _ ?_))) (Picks.perm (by repeat (first | exact Picks.nil _ | apply Picks.cons | exact Pull.here _ _ | apply Pull.there))) ⟨v11, rfl, by rw [lkC_append, lkC_one, List.length_append]; rfl⟩
end Go.Proofs.Ytfcodaigdigjmaa
