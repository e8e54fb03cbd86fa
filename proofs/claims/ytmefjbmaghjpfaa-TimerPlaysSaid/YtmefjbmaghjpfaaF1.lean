/- Walks: the methods of what a heap holds. -/
import Derived.Test.YtmefjbmaghjpfaaQ14
import Derived.Test.YtmefjbmaghjpfaaB
namespace Go.Proofs.Ytmefjbmaghjpfaa
open Go.RowKit
set_option maxRecDepth 100000
set_option linter.unusedVariables false
set_option linter.unusedSimpArgs false

theorem f46_spec (q : Nat) (v : Value) (xs : List En) :
    Spec Try.prog 46 #[(ptr q 0)] [Res.cells q [v, (.func (.func 25) #[] #[])] 62, Res.rd v xs.length 3 (enC xs)] []
      (fun r Γ' H' => r = (it (xs.length : Int)) ∧ Γ' = [] ∧ H' = []) := by
  refine Spec.of_args Try.func46 rfl Try.ntmps46 (by simp) fun w => ?_
  refine JC.seq ?_
  refine JC.region ?_
  refine JO.v (Yv.assign rfl) (by decide) ?_
  refine JO.nil ?_
  refine JQ.then_normal ?_
  refine JC.seq ?_
  refine JC.region ?_
  refine JO.v (Yv.move rfl) (by decide) ?_
  refine JO.v (Yv.nilCheck rfl) (by decide) ?_
  refine JO.v (Yv.fieldAddr fa_62_0 rfl) (by decide) ?_
  refine JO.v (Yv.load1 one_26 rfl (by first | exact Kn.own (by repeat (first | exact List.Mem.head _ | refine List.Mem.tail _ ?_)) (by first  | rfl | exact tab_get (by first | omega | (simp; omega)) | exact gm (d := 0) (by first | omega | (simp; omega))) | exact Kn.ro (by repeat (first | exact List.Mem.head _ | refine List.Mem.tail _ ?_)) (by first  | rfl | exact tab_get (by first | omega | (simp; omega)) | exact gm (d := 0) (by first | omega | (simp; omega))) | exact Kn.row (by repeat (first | exact List.Mem.head _ | refine List.Mem.tail _ ?_)) (by first  | rfl | exact tab_get (by first | omega | (simp; omega)) | exact gm (d := 0) (by first | omega | (simp; omega))) | exact Kn.rd (by repeat (first | exact Lend.same _ _ | exact Lend.row _ _ _ _ _ _ (by decide) | apply Lend.there)) (by first  | rfl | exact tab_get (by first | omega | (simp; omega)) | exact gm (d := 0) (by first | omega | (simp; omega))) | exact Kn.rd2 (by repeat (first | exact Lend.same _ _ | exact Lend.row _ _ _ _ _ _ (by decide) | apply Lend.there)) (by first  | rfl | exact tab_get (by first | omega | (simp; omega)) | exact gm (d := 0) (by first | omega | (simp; omega))))) (by decide) ?_
  first | refine JO.v (Yv.len_s Try.underlying26 rfl) (by decide) ?_ | refine JO.v (Yv.lenRd Try.underlying26 rfl (by repeat (first | exact Lend.same _ _ | exact Lend.row _ _ _ _ _ _ (by decide) | apply Lend.there))) (by decide) ?_
  refine JO.v (Yv.assign rfl) (by decide) ?_
  refine JO.nil ?_
  refine JQ.then_normal ?_
  refine JC.ret ?_
  exact JQ.done (.inr rfl) (Γ' := []) (H' := []) (res1 rfl (RV.tmp rfl)) (Subs.sub (by repeat (first | exact Subs.nil _ | apply Subs.cons | exact List.Mem.head _ | refine List.Mem.tail _ ?_))) (Picks.perm (by repeat (first | exact Picks.nil _ | apply Picks.cons | exact Pull.here _ _ | apply Pull.there))) ⟨rfl, rfl, rfl⟩


theorem f25_spec (a b : En) :
    Spec Try.prog 25 #[(.agg (a).cells.toArray), (.agg (b).cells.toArray)] [] []
      (fun r Γ' H' => r = (.bool (decide (key a < key b))) ∧ Γ' = [] ∧ H' = []) := by
  refine Spec.of_args Try.func25 rfl Try.ntmps25 (by simp) fun w => ?_
  refine JC.seq ?_
  refine JC.region ?_
  refine JO.box rfl _ rfl (by decide) fun b2 => ?_
  refine JO.box rfl _ rfl (by decide) fun b3 => ?_
  refine JO.v (Yv.assign rfl) (by decide) ?_
  refine JO.nil ?_
  refine JQ.then_normal ?_
  refine JC.seq ?_
  refine JC.region ?_
  refine JO.v (Yv.fieldAddr fa_59_0 rfl) (by decide) ?_
  refine JO.v (Yv.fieldAddr fa_35_0 rfl) (by decide) ?_
  refine JO.v (Yv.load1 one_23 rfl (by first | exact Kn.own (by repeat (first | exact List.Mem.head _ | refine List.Mem.tail _ ?_)) (by first  | rfl | exact tab_get (by first | omega | (simp; omega)) | exact gm (d := 0) (by first | omega | (simp; omega))) | exact Kn.ro (by repeat (first | exact List.Mem.head _ | refine List.Mem.tail _ ?_)) (by first  | rfl | exact tab_get (by first | omega | (simp; omega)) | exact gm (d := 0) (by first | omega | (simp; omega))) | exact Kn.row (by repeat (first | exact List.Mem.head _ | refine List.Mem.tail _ ?_)) (by first  | rfl | exact tab_get (by first | omega | (simp; omega)) | exact gm (d := 0) (by first | omega | (simp; omega))) | exact Kn.rd (by repeat (first | exact Lend.same _ _ | exact Lend.row _ _ _ _ _ _ (by decide) | apply Lend.there)) (by first  | rfl | exact tab_get (by first | omega | (simp; omega)) | exact gm (d := 0) (by first | omega | (simp; omega))) | exact Kn.rd2 (by repeat (first | exact Lend.same _ _ | exact Lend.row _ _ _ _ _ _ (by decide) | apply Lend.there)) (by first  | rfl | exact tab_get (by first | omega | (simp; omega)) | exact gm (d := 0) (by first | omega | (simp; omega))))) (by decide) ?_
  refine JO.v (Yv.fieldAddr fa_59_0 rfl) (by decide) ?_
  refine JO.v (Yv.fieldAddr fa_35_0 rfl) (by decide) ?_
  refine JO.v (Yv.load1 one_23 rfl (by first | exact Kn.own (by repeat (first | exact List.Mem.head _ | refine List.Mem.tail _ ?_)) (by first  | rfl | exact tab_get (by first | omega | (simp; omega)) | exact gm (d := 0) (by first | omega | (simp; omega))) | exact Kn.ro (by repeat (first | exact List.Mem.head _ | refine List.Mem.tail _ ?_)) (by first  | rfl | exact tab_get (by first | omega | (simp; omega)) | exact gm (d := 0) (by first | omega | (simp; omega))) | exact Kn.row (by repeat (first | exact List.Mem.head _ | refine List.Mem.tail _ ?_)) (by first  | rfl | exact tab_get (by first | omega | (simp; omega)) | exact gm (d := 0) (by first | omega | (simp; omega))) | exact Kn.rd (by repeat (first | exact Lend.same _ _ | exact Lend.row _ _ _ _ _ _ (by decide) | apply Lend.there)) (by first  | rfl | exact tab_get (by first | omega | (simp; omega)) | exact gm (d := 0) (by first | omega | (simp; omega))) | exact Kn.rd2 (by repeat (first | exact Lend.same _ _ | exact Lend.row _ _ _ _ _ _ (by decide) | apply Lend.there)) (by first  | rfl | exact tab_get (by first | omega | (simp; omega)) | exact gm (d := 0) (by first | omega | (simp; omega))))) (by decide) ?_
  refine JO.v (Yv.bin rfl rfl (BinR.lss_u64)) (by decide) ?_
  refine JO.v (Yv.move rfl) (by decide) ?_
  refine JO.join 15 27 (.bool (decide (key a < key b))) ?_ ?_
  · skip
    refine JO.gsplit (g := 11) rfl (fun hg12 => ?_) (fun hg12 => ?_)
    · have hg12' := hg12
      try simp only [decide_eq_true_eq, decide_eq_false_iff_not, Bool.not_eq_true', Bool.not_eq_false', ne_eq, Decidable.not_not, Bool.not_eq_true, Bool.and_eq_true, Bool.or_eq_true, BitVec.reduceToNat] at hg12'
      refine JO.gf (g := 12) rfl rfl hg12 (by decide) ?_
      refine JO.gf (g := 12) rfl rfl hg12 (by decide) ?_
      refine JO.gf (g := 12) rfl rfl hg12 (by decide) ?_
      refine JO.gf (g := 12) rfl rfl hg12 (by decide) ?_
      refine JO.gf (g := 12) rfl rfl hg12 (by decide) ?_
      refine JO.gf (g := 12) rfl rfl hg12 (by decide) ?_
      refine JO.gf (g := 12) rfl rfl hg12 (by decide) ?_
      refine JO.gf (g := 12) rfl rfl hg12 (by decide) ?_
      refine JO.gu (g := 20) rfl rfl (by decide) ?_
      refine JO.gu (g := 20) rfl rfl (by decide) ?_
      refine JO.gu (g := 20) rfl rfl (by decide) ?_
      refine JO.gu (g := 20) rfl rfl (by decide) ?_
      refine JO.gu (g := 20) rfl rfl (by decide) ?_
      refine JO.gf (g := 12) rfl rfl hg12 (by decide) ?_
      refine JO.v (Yv.pick1 rfl hg12 rfl) (by decide) ?_
      refine JO.nil ?_
      refine JQ.head () (by first | (refine ⟨by first | rfl | (show some _ = some _; exact congrArg (fun b => some (Value.bool b)) (by first | exact (decide_eq_true ((key_lt a b).2 (.inl hg12'))).symm | exact decide_eq_decide.2 (key_ord hg20') | exact (decide_eq_false (key_no hg12' hg20')).symm)), ?_⟩; repeat (first | exact trivial | refine ⟨rfl, ?_⟩))) (Subs.sub (by repeat (first | exact Subs.nil _ | apply Subs.cons | exact List.Mem.head _ | refine List.Mem.tail _ ?_))) (Picks.perm (by repeat (first | exact Picks.nil _ | apply Picks.cons | exact Pull.here _ _ | apply Pull.there))) ?_
      trivial
    · have hg12' := hg12
      try simp only [decide_eq_true_eq, decide_eq_false_iff_not, Bool.not_eq_true', Bool.not_eq_false', ne_eq, Decidable.not_not, Bool.not_eq_true, Bool.and_eq_true, Bool.or_eq_true, BitVec.reduceToNat] at hg12'
      refine JO.gt (g := 12) rfl rfl hg12 ?_
      refine JO.v (Yv.fieldAddr fa_59_0 rfl) (by decide) ?_
      refine JO.gt (g := 12) rfl rfl hg12 ?_
      refine JO.v (Yv.fieldAddr fa_35_0 rfl) (by decide) ?_
      refine JO.gt (g := 12) rfl rfl hg12 ?_
      refine JO.v (Yv.load1 one_23 rfl (by first | exact Kn.own (by repeat (first | exact List.Mem.head _ | refine List.Mem.tail _ ?_)) (by first  | rfl | exact tab_get (by first | omega | (simp; omega)) | exact gm (d := 0) (by first | omega | (simp; omega))) | exact Kn.ro (by repeat (first | exact List.Mem.head _ | refine List.Mem.tail _ ?_)) (by first  | rfl | exact tab_get (by first | omega | (simp; omega)) | exact gm (d := 0) (by first | omega | (simp; omega))) | exact Kn.row (by repeat (first | exact List.Mem.head _ | refine List.Mem.tail _ ?_)) (by first  | rfl | exact tab_get (by first | omega | (simp; omega)) | exact gm (d := 0) (by first | omega | (simp; omega))) | exact Kn.rd (by repeat (first | exact Lend.same _ _ | exact Lend.row _ _ _ _ _ _ (by decide) | apply Lend.there)) (by first  | rfl | exact tab_get (by first | omega | (simp; omega)) | exact gm (d := 0) (by first | omega | (simp; omega))) | exact Kn.rd2 (by repeat (first | exact Lend.same _ _ | exact Lend.row _ _ _ _ _ _ (by decide) | apply Lend.there)) (by first  | rfl | exact tab_get (by first | omega | (simp; omega)) | exact gm (d := 0) (by first | omega | (simp; omega))))) (by decide) ?_
      refine JO.gt (g := 12) rfl rfl hg12 ?_
      refine JO.v (Yv.fieldAddr fa_59_0 rfl) (by decide) ?_
      refine JO.gt (g := 12) rfl rfl hg12 ?_
      refine JO.v (Yv.fieldAddr fa_35_0 rfl) (by decide) ?_
      refine JO.gt (g := 12) rfl rfl hg12 ?_
      refine JO.v (Yv.load1 one_23 rfl (by first | exact Kn.own (by repeat (first | exact List.Mem.head _ | refine List.Mem.tail _ ?_)) (by first  | rfl | exact tab_get (by first | omega | (simp; omega)) | exact gm (d := 0) (by first | omega | (simp; omega))) | exact Kn.ro (by repeat (first | exact List.Mem.head _ | refine List.Mem.tail _ ?_)) (by first  | rfl | exact tab_get (by first | omega | (simp; omega)) | exact gm (d := 0) (by first | omega | (simp; omega))) | exact Kn.row (by repeat (first | exact List.Mem.head _ | refine List.Mem.tail _ ?_)) (by first  | rfl | exact tab_get (by first | omega | (simp; omega)) | exact gm (d := 0) (by first | omega | (simp; omega))) | exact Kn.rd (by repeat (first | exact Lend.same _ _ | exact Lend.row _ _ _ _ _ _ (by decide) | apply Lend.there)) (by first  | rfl | exact tab_get (by first | omega | (simp; omega)) | exact gm (d := 0) (by first | omega | (simp; omega))) | exact Kn.rd2 (by repeat (first | exact Lend.same _ _ | exact Lend.row _ _ _ _ _ _ (by decide) | apply Lend.there)) (by first  | rfl | exact tab_get (by first | omega | (simp; omega)) | exact gm (d := 0) (by first | omega | (simp; omega))))) (by decide) ?_
      refine JO.gt (g := 12) rfl rfl hg12 ?_
      refine JO.v (Yv.bin rfl rfl (BinR.eql_u64)) (by decide) ?_
      refine JO.gt (g := 12) rfl rfl hg12 ?_
      refine JO.v (Yv.move rfl) (by decide) ?_
      refine JO.gsplit (g := 19) rfl (fun hg20 => ?_) (fun hg20 => ?_)
      · have hg20' := hg20
        try simp only [decide_eq_true_eq, decide_eq_false_iff_not, Bool.not_eq_true', Bool.not_eq_false', ne_eq, Decidable.not_not, Bool.not_eq_true, Bool.and_eq_true, Bool.or_eq_true, BitVec.reduceToNat] at hg20'
        refine JO.gt (g := 20) rfl rfl hg20 ?_
        refine JO.v (Yv.fieldAddr fa_59_1 rfl) (by decide) ?_
        refine JO.gt (g := 20) rfl rfl hg20 ?_
        refine JO.v (Yv.load1 one_23 rfl (by first | exact Kn.own (by repeat (first | exact List.Mem.head _ | refine List.Mem.tail _ ?_)) (by first  | rfl | exact tab_get (by first | omega | (simp; omega)) | exact gm (d := 0) (by first | omega | (simp; omega))) | exact Kn.ro (by repeat (first | exact List.Mem.head _ | refine List.Mem.tail _ ?_)) (by first  | rfl | exact tab_get (by first | omega | (simp; omega)) | exact gm (d := 0) (by first | omega | (simp; omega))) | exact Kn.row (by repeat (first | exact List.Mem.head _ | refine List.Mem.tail _ ?_)) (by first  | rfl | exact tab_get (by first | omega | (simp; omega)) | exact gm (d := 0) (by first | omega | (simp; omega))) | exact Kn.rd (by repeat (first | exact Lend.same _ _ | exact Lend.row _ _ _ _ _ _ (by decide) | apply Lend.there)) (by first  | rfl | exact tab_get (by first | omega | (simp; omega)) | exact gm (d := 0) (by first | omega | (simp; omega))) | exact Kn.rd2 (by repeat (first | exact Lend.same _ _ | exact Lend.row _ _ _ _ _ _ (by decide) | apply Lend.there)) (by first  | rfl | exact tab_get (by first | omega | (simp; omega)) | exact gm (d := 0) (by first | omega | (simp; omega))))) (by decide) ?_
        refine JO.gt (g := 20) rfl rfl hg20 ?_
        refine JO.v (Yv.fieldAddr fa_59_1 rfl) (by decide) ?_
        refine JO.gt (g := 20) rfl rfl hg20 ?_
        refine JO.v (Yv.load1 one_23 rfl (by first | exact Kn.own (by repeat (first | exact List.Mem.head _ | refine List.Mem.tail _ ?_)) (by first  | rfl | exact tab_get (by first | omega | (simp; omega)) | exact gm (d := 0) (by first | omega | (simp; omega))) | exact Kn.ro (by repeat (first | exact List.Mem.head _ | refine List.Mem.tail _ ?_)) (by first  | rfl | exact tab_get (by first | omega | (simp; omega)) | exact gm (d := 0) (by first | omega | (simp; omega))) | exact Kn.row (by repeat (first | exact List.Mem.head _ | refine List.Mem.tail _ ?_)) (by first  | rfl | exact tab_get (by first | omega | (simp; omega)) | exact gm (d := 0) (by first | omega | (simp; omega))) | exact Kn.rd (by repeat (first | exact Lend.same _ _ | exact Lend.row _ _ _ _ _ _ (by decide) | apply Lend.there)) (by first  | rfl | exact tab_get (by first | omega | (simp; omega)) | exact gm (d := 0) (by first | omega | (simp; omega))) | exact Kn.rd2 (by repeat (first | exact Lend.same _ _ | exact Lend.row _ _ _ _ _ _ (by decide) | apply Lend.there)) (by first  | rfl | exact tab_get (by first | omega | (simp; omega)) | exact gm (d := 0) (by first | omega | (simp; omega))))) (by decide) ?_
        refine JO.gt (g := 20) rfl rfl hg20 ?_
        refine JO.v (Yv.bin rfl rfl (BinR.lss_u64)) (by decide) ?_
        refine JO.gt (g := 12) rfl rfl hg12 ?_
        refine JO.v (Yv.pick1 rfl hg20 rfl) (by decide) ?_
        refine JO.v (Yv.pick0 rfl hg12 rfl) (by decide) ?_
        refine JO.nil ?_
        refine JQ.head () (by first | (refine ⟨by first | rfl | (show some _ = some _; exact congrArg (fun b => some (Value.bool b)) (by first | exact (decide_eq_true ((key_lt a b).2 (.inl hg12'))).symm | exact decide_eq_decide.2 (key_ord hg20') | exact (decide_eq_false (key_no hg12' hg20')).symm)), ?_⟩; repeat (first | exact trivial | refine ⟨rfl, ?_⟩))) (Subs.sub (by repeat (first | exact Subs.nil _ | apply Subs.cons | exact List.Mem.head _ | refine List.Mem.tail _ ?_))) (Picks.perm (by repeat (first | exact Picks.nil _ | apply Picks.cons | exact Pull.here _ _ | apply Pull.there))) ?_
        trivial
      · have hg20' := hg20
        try simp only [decide_eq_true_eq, decide_eq_false_iff_not, Bool.not_eq_true', Bool.not_eq_false', ne_eq, Decidable.not_not, Bool.not_eq_true, Bool.and_eq_true, Bool.or_eq_true, BitVec.reduceToNat] at hg20'
        refine JO.gf (g := 20) rfl rfl hg20 (by decide) ?_
        refine JO.gf (g := 20) rfl rfl hg20 (by decide) ?_
        refine JO.gf (g := 20) rfl rfl hg20 (by decide) ?_
        refine JO.gf (g := 20) rfl rfl hg20 (by decide) ?_
        refine JO.gf (g := 20) rfl rfl hg20 (by decide) ?_
        refine JO.gt (g := 12) rfl rfl hg12 ?_
        refine JO.v (Yv.pick0 rfl hg20 rfl) (by decide) ?_
        refine JO.v (Yv.pick0 rfl hg12 rfl) (by decide) ?_
        refine JO.nil ?_
        refine JQ.head () (by first | (refine ⟨by first | rfl | (show some _ = some _; exact congrArg (fun b => some (Value.bool b)) (by first | exact (decide_eq_true ((key_lt a b).2 (.inl hg12'))).symm | exact decide_eq_decide.2 (key_ord hg20') | exact (decide_eq_false (key_no hg12' hg20')).symm)), ?_⟩; repeat (first | exact trivial | refine ⟨rfl, ?_⟩))) (Subs.sub (by repeat (first | exact Subs.nil _ | apply Subs.cons | exact List.Mem.head _ | refine List.Mem.tail _ ?_))) (Picks.perm (by repeat (first | exact Picks.nil _ | apply Picks.cons | exact Pull.here _ _ | apply Pull.there))) ?_
        trivial
  · skip
    refine JO.v (Yv.assign rfl) (by decide) ?_
    refine JO.nil ?_
    refine JQ.then_normal ?_
    refine JC.ret ?_
    exact JQ.done (.inr rfl) (Γ' := []) (H' := []) (res1 rfl (RV.tmp rfl)) (Subs.sub (by repeat (first | exact Subs.nil _ | apply Subs.cons | exact List.Mem.head _ | refine List.Mem.tail _ ?_))) (Picks.perm (by repeat (first | exact Picks.nil _ | apply Picks.cons | exact Pull.here _ _ | apply Pull.there))) ⟨rfl, rfl, rfl⟩


theorem f47_spec (q : Nat) (v : Value) (xs : List En) (i j : Nat) (hi : i < xs.length) (hj : j < xs.length) :
    Spec Try.prog 47 #[(ptr q 0), (it (i : Int)), (it (j : Int))] [Res.cells q [v, (.func (.func 25) #[] #[])] 62, Res.rd v xs.length 3 (enC xs)] []
      (fun r Γ' H' => r = (.bool (decide (key (xs.getD i enD) < key (xs.getD j enD)))) ∧ Γ' = [] ∧ H' = []) := by
  refine Spec.of_args Try.func47 rfl Try.ntmps47 (by simp) fun w => ?_
  refine JC.seq ?_
  refine JC.region ?_
  refine JO.v (Yv.assign rfl) (by decide) ?_
  refine JO.nil ?_
  refine JQ.then_normal ?_
  refine JC.seq ?_
  refine JC.draw (.one 0 (.one 1 (.one 2 (.one 3 (.one 4 (.one 5 (.one 6 (.one 7 (.one 8 (.one 9 (.one 10 (.one 11 (.one 12 (.one 13 (.one 14 (.one 15 (.one 16 (.one 17 (.one 18 (.one 19 .nil)))))))))))))))))))) (fun i => ([] : List Nat).contains i) (fun i => ([18] : List Nat).contains i) (fun i => ([0, 1, 2, 4, 5, 6, 8, 9, 11, 12, 13, 15, 16, 19] : List Nat).contains i) mixed (by kernel_rfl) (by decide) (by kernel_rfl) ?_
  refine JR.u rfl rfl rfl (Yv.move rfl) (by decide) ?_
  refine JR.u rfl rfl rfl (Yv.nilCheck rfl) (by decide) ?_
  refine JR.u rfl rfl rfl (Yv.fieldAddr fa_62_1 rfl) (by decide) ?_
  refine JR.v rfl rfl rfl (Yv.load1 one_60 rfl (by first | exact Kn.own (by repeat (first | exact List.Mem.head _ | refine List.Mem.tail _ ?_)) (by first  | rfl | exact tab_get (by first | omega | (simp; omega)) | exact gm (d := 0) (by first | omega | (simp; omega))) | exact Kn.ro (by repeat (first | exact List.Mem.head _ | refine List.Mem.tail _ ?_)) (by first  | rfl | exact tab_get (by first | omega | (simp; omega)) | exact gm (d := 0) (by first | omega | (simp; omega))) | exact Kn.row (by repeat (first | exact List.Mem.head _ | refine List.Mem.tail _ ?_)) (by first  | rfl | exact tab_get (by first | omega | (simp; omega)) | exact gm (d := 0) (by first | omega | (simp; omega))) | exact Kn.rd (by repeat (first | exact Lend.same _ _ | exact Lend.row _ _ _ _ _ _ (by decide) | apply Lend.there)) (by first  | rfl | exact tab_get (by first | omega | (simp; omega)) | exact gm (d := 0) (by first | omega | (simp; omega))) | exact Kn.rd2 (by repeat (first | exact Lend.same _ _ | exact Lend.row _ _ _ _ _ _ (by decide) | apply Lend.there)) (by first  | rfl | exact tab_get (by first | omega | (simp; omega)) | exact gm (d := 0) (by first | omega | (simp; omega))))) (by decide) ?_
  refine JR.u rfl rfl rfl (Yv.move rfl) (by decide) ?_
  refine JR.u rfl rfl rfl (Yv.nilCheck rfl) (by decide) ?_
  refine JR.u rfl rfl rfl (Yv.fieldAddr fa_62_0 rfl) (by decide) ?_
  refine JR.v rfl rfl rfl (Yv.load1 one_26 rfl (by first | exact Kn.own (by repeat (first | exact List.Mem.head _ | refine List.Mem.tail _ ?_)) (by first  | rfl | exact tab_get (by first | omega | (simp; omega)) | exact gm (d := 0) (by first | omega | (simp; omega))) | exact Kn.ro (by repeat (first | exact List.Mem.head _ | refine List.Mem.tail _ ?_)) (by first  | rfl | exact tab_get (by first | omega | (simp; omega)) | exact gm (d := 0) (by first | omega | (simp; omega))) | exact Kn.row (by repeat (first | exact List.Mem.head _ | refine List.Mem.tail _ ?_)) (by first  | rfl | exact tab_get (by first | omega | (simp; omega)) | exact gm (d := 0) (by first | omega | (simp; omega))) | exact Kn.rd (by repeat (first | exact Lend.same _ _ | exact Lend.row _ _ _ _ _ _ (by decide) | apply Lend.there)) (by first  | rfl | exact tab_get (by first | omega | (simp; omega)) | exact gm (d := 0) (by first | omega | (simp; omega))) | exact Kn.rd2 (by repeat (first | exact Lend.same _ _ | exact Lend.row _ _ _ _ _ _ (by decide) | apply Lend.there)) (by first  | rfl | exact tab_get (by first | omega | (simp; omega)) | exact gm (d := 0) (by first | omega | (simp; omega))))) (by decide) ?_
  refine JR.u rfl rfl rfl (Yv.move rfl) (by decide) ?_
  first | refine JR.u rfl rfl rfl (Yv.indexRow Try.underlying26 sz_59 rfl rfl (by repeat (first | exact List.Mem.head _ | refine List.Mem.tail _ ?_)) (by first | exact ltb rfl | (simp; done) | (simp; omega) | omega | (simp [*]; omega))) (by decide) ?_ | refine JR.u rfl rfl rfl (Yv.indexRd Try.underlying26 sz_59 rfl rfl (by repeat (first | exact Lend.same _ _ | exact Lend.row _ _ _ _ _ _ (by decide) | apply Lend.there)) (by decide) (by first | exact ltb rfl | (simp; done) | (simp; omega) | omega | (simp [*]; omega))) (by decide) ?_
  first | refine JR.v rfl rfl rfl (Yv.as (v' := .agg (xs.getD i enD).cells.toArray) (Yv.loadOwn agg_59 (by repeat (first | exact List.Mem.head _ | refine List.Mem.tail _ ?_)) rfl (by first | rfl | (simp; done) | (simp; omega) | (simp [*]; done))) (congrArg (fun l : List Value => Value.agg l.toArray) (en_piece hi))) (by decide) ?_ | refine JR.v rfl rfl rfl (Yv.as (v' := .agg (xs.getD i enD).cells.toArray) (Yv.loadOwnAt agg_59 (by repeat (first | exact List.Mem.head _ | refine List.Mem.tail _ ?_)) rfl (by first | rfl | (simp; done) | (simp; omega) | (simp [*]; done))) (congrArg (fun l : List Value => Value.agg l.toArray) (en_piece hi))) (by decide) ?_ | refine JR.v rfl rfl rfl (Yv.as (v' := .agg (xs.getD i enD).cells.toArray) (Yv.loadRow agg_59 (by repeat (first | exact List.Mem.head _ | refine List.Mem.tail _ ?_)) rfl (by first | rfl | (simp; done) | (simp; omega) | (simp [*]; done))) (congrArg (fun l : List Value => Value.agg l.toArray) (en_piece hi))) (by decide) ?_ | refine JR.v rfl rfl rfl (Yv.as (v' := .agg (xs.getD i enD).cells.toArray) (Yv.loadRd agg_59 (by repeat (first | exact Lend.same _ _ | exact Lend.row _ _ _ _ _ _ (by decide) | apply Lend.there)) rfl (by first | rfl | (simp; done) | (simp; omega) | (simp [*]; done))) (congrArg (fun l : List Value => Value.agg l.toArray) (en_piece hi))) (by decide) ?_ | refine JR.v rfl rfl rfl (Yv.as (v' := .agg (xs.getD i enD).cells.toArray) (Yv.loadRo agg_59 (by repeat (first | exact List.Mem.head _ | refine List.Mem.tail _ ?_)) rfl (by first | rfl | (simp; done) | (simp; omega) | (simp [*]; done))) (congrArg (fun l : List Value => Value.agg l.toArray) (en_piece hi))) (by decide) ?_
  refine JR.u rfl rfl rfl (Yv.move rfl) (by decide) ?_
  refine JR.u rfl rfl rfl (Yv.nilCheck rfl) (by decide) ?_
  refine JR.u rfl rfl rfl (Yv.fieldAddr fa_62_0 rfl) (by decide) ?_
  refine JR.v rfl rfl rfl (Yv.load1 one_26 rfl (by first | exact Kn.own (by repeat (first | exact List.Mem.head _ | refine List.Mem.tail _ ?_)) (by first  | rfl | exact tab_get (by first | omega | (simp; omega)) | exact gm (d := 0) (by first | omega | (simp; omega))) | exact Kn.ro (by repeat (first | exact List.Mem.head _ | refine List.Mem.tail _ ?_)) (by first  | rfl | exact tab_get (by first | omega | (simp; omega)) | exact gm (d := 0) (by first | omega | (simp; omega))) | exact Kn.row (by repeat (first | exact List.Mem.head _ | refine List.Mem.tail _ ?_)) (by first  | rfl | exact tab_get (by first | omega | (simp; omega)) | exact gm (d := 0) (by first | omega | (simp; omega))) | exact Kn.rd (by repeat (first | exact Lend.same _ _ | exact Lend.row _ _ _ _ _ _ (by decide) | apply Lend.there)) (by first  | rfl | exact tab_get (by first | omega | (simp; omega)) | exact gm (d := 0) (by first | omega | (simp; omega))) | exact Kn.rd2 (by repeat (first | exact Lend.same _ _ | exact Lend.row _ _ _ _ _ _ (by decide) | apply Lend.there)) (by first  | rfl | exact tab_get (by first | omega | (simp; omega)) | exact gm (d := 0) (by first | omega | (simp; omega))))) (by decide) ?_
  refine JR.u rfl rfl rfl (Yv.move rfl) (by decide) ?_
  first | refine JR.u rfl rfl rfl (Yv.indexRow Try.underlying26 sz_59 rfl rfl (by repeat (first | exact List.Mem.head _ | refine List.Mem.tail _ ?_)) (by first | exact ltb rfl | (simp; done) | (simp; omega) | omega | (simp [*]; omega))) (by decide) ?_ | refine JR.u rfl rfl rfl (Yv.indexRd Try.underlying26 sz_59 rfl rfl (by repeat (first | exact Lend.same _ _ | exact Lend.row _ _ _ _ _ _ (by decide) | apply Lend.there)) (by decide) (by first | exact ltb rfl | (simp; done) | (simp; omega) | omega | (simp [*]; omega))) (by decide) ?_
  first | refine JR.v rfl rfl rfl (Yv.as (v' := .agg (xs.getD j enD).cells.toArray) (Yv.loadOwn agg_59 (by repeat (first | exact List.Mem.head _ | refine List.Mem.tail _ ?_)) rfl (by first | rfl | (simp; done) | (simp; omega) | (simp [*]; done))) (congrArg (fun l : List Value => Value.agg l.toArray) (en_piece hj))) (by decide) ?_ | refine JR.v rfl rfl rfl (Yv.as (v' := .agg (xs.getD j enD).cells.toArray) (Yv.loadOwnAt agg_59 (by repeat (first | exact List.Mem.head _ | refine List.Mem.tail _ ?_)) rfl (by first | rfl | (simp; done) | (simp; omega) | (simp [*]; done))) (congrArg (fun l : List Value => Value.agg l.toArray) (en_piece hj))) (by decide) ?_ | refine JR.v rfl rfl rfl (Yv.as (v' := .agg (xs.getD j enD).cells.toArray) (Yv.loadRow agg_59 (by repeat (first | exact List.Mem.head _ | refine List.Mem.tail _ ?_)) rfl (by first | rfl | (simp; done) | (simp; omega) | (simp [*]; done))) (congrArg (fun l : List Value => Value.agg l.toArray) (en_piece hj))) (by decide) ?_ | refine JR.v rfl rfl rfl (Yv.as (v' := .agg (xs.getD j enD).cells.toArray) (Yv.loadRd agg_59 (by repeat (first | exact Lend.same _ _ | exact Lend.row _ _ _ _ _ _ (by decide) | apply Lend.there)) rfl (by first | rfl | (simp; done) | (simp; omega) | (simp [*]; done))) (congrArg (fun l : List Value => Value.agg l.toArray) (en_piece hj))) (by decide) ?_ | refine JR.v rfl rfl rfl (Yv.as (v' := .agg (xs.getD j enD).cells.toArray) (Yv.loadRo agg_59 (by repeat (first | exact List.Mem.head _ | refine List.Mem.tail _ ?_)) rfl (by first | rfl | (simp; done) | (simp; omega) | (simp [*]; done))) (congrArg (fun l : List Value => Value.agg l.toArray) (en_piece hj))) (by decide) ?_
  refine JR.m rfl rfl (Mv.callF body_25 rfl rfl rfl (f25_spec (xs.getD i enD) (xs.getD j enD)) (by repeat (first | exact Picks.nil _ | apply Picks.cons | exact Pull.here _ _ | apply Pull.there)) (by repeat (first | exact Lends.nil _ | apply Lends.cons | exact Lend.same _ _ | exact Lend.row _ _ _ _ _ _ (by decide) | apply Lend.there)) (by rintro _ _ _ ⟨_, h, _⟩; exact h)) (by decide) ?_
  rintro _ _ _ ⟨_, ⟨rfl, _, rfl⟩, hΓ, hH⟩
  simp only [List.cons_append, List.nil_append] at hH; subst hΓ hH
  refine ⟨⟨Subs.sub (by repeat (first | exact Subs.nil _ | apply Subs.cons | exact List.Mem.head _ | refine List.Mem.tail _ ?_)), .inr (St.keep (by repeat (first | exact Subs.nil _ | apply Subs.cons | exact List.Mem.head _ | refine List.Mem.tail _ ?_)) (by repeat (first | exact Picks.nil _ | apply Picks.cons | exact Pull.here _ _ | apply Pull.there)))⟩, ?_⟩
  refine JR.u rfl rfl rfl (Yv.assign rfl) (by decide) ?_
  refine JR.nil ?_
  refine JQ.then_normal ?_
  refine JC.ret ?_
  exact JQ.done (.inr rfl) (Γ' := []) (H' := []) (res1 rfl (RV.tmp rfl)) (Subs.sub (by repeat (first | exact Subs.nil _ | apply Subs.cons | exact List.Mem.head _ | refine List.Mem.tail _ ?_))) (Picks.perm (by repeat (first | exact Picks.nil _ | apply Picks.cons | exact Pull.here _ _ | apply Pull.there))) ⟨rfl, rfl, rfl⟩


theorem f50_spec (q : Nat) (v : Value) (xs : List En) (i j : Nat) (hi : i < xs.length) (hj : j < xs.length) :
    Spec Try.prog 50 #[(ptr q 0), (it (i : Int)), (it (j : Int))] [Res.cells q [v, (.func (.func 25) #[] #[])] 62] [Res.row v xs.length 59 3 (enC xs)]
      (fun r Γ' H' => Γ' = [] ∧ H' = [Res.row v (swp enD xs i j).length 59 3 (enC (swp enD xs i j))]) := by
  refine Spec.of_args Try.func50 rfl Try.ntmps50 (by simp) fun w => ?_
  refine JC.know (φ := ∃ g c, v = .slice (some ⟨g, 0, none⟩) xs.length c) (fun w hs => hs.rowForm (.head _) (by omega)) fun ⟨g, c, hv⟩ => ?_
  subst hv
  refine JC.draw (.one 0 (.one 1 (.one 2 (.one 3 (.one 4 (.one 5 (.one 6 (.one 7 (.one 8 (.one 9 (.one 10 (.one 11 (.one 12 (.one 13 (.one 14 (.one 15 (.one 16 (.one 17 (.one 18 (.one 19 (.one 20 (.one 21 (.one 22 (.one 23 (.one 24 (.one 25 (.one 26 (.one 27 .nil)))))))))))))))))))))))))))) (fun i => ([25, 27] : List Nat).contains i) (fun i => ([25, 27] : List Nat).contains i) (fun i => ([0, 1, 2, 4, 5, 6, 7, 9, 10, 11, 12, 14, 15, 17, 18, 19, 21, 22, 24, 26] : List Nat).contains i) mixed (by kernel_rfl) (by decide) (by kernel_rfl) ?_
  refine JR.u rfl rfl rfl (Yv.move rfl) (by decide) ?_
  refine JR.u rfl rfl rfl (Yv.nilCheck rfl) (by decide) ?_
  refine JR.u rfl rfl rfl (Yv.fieldAddr fa_62_0 rfl) (by decide) ?_
  refine JR.v rfl rfl rfl (Yv.load1 one_26 rfl (by first | exact Kn.own (by repeat (first | exact List.Mem.head _ | refine List.Mem.tail _ ?_)) (by first  | rfl | exact tab_get (by first | omega | (simp; omega)) | exact gm (d := 0) (by first | omega | (simp; omega))) | exact Kn.ro (by repeat (first | exact List.Mem.head _ | refine List.Mem.tail _ ?_)) (by first  | rfl | exact tab_get (by first | omega | (simp; omega)) | exact gm (d := 0) (by first | omega | (simp; omega))) | exact Kn.row (by repeat (first | exact List.Mem.head _ | refine List.Mem.tail _ ?_)) (by first  | rfl | exact tab_get (by first | omega | (simp; omega)) | exact gm (d := 0) (by first | omega | (simp; omega))) | exact Kn.rd (by repeat (first | exact Lend.same _ _ | exact Lend.row _ _ _ _ _ _ (by decide) | apply Lend.there)) (by first  | rfl | exact tab_get (by first | omega | (simp; omega)) | exact gm (d := 0) (by first | omega | (simp; omega))) | exact Kn.rd2 (by repeat (first | exact Lend.same _ _ | exact Lend.row _ _ _ _ _ _ (by decide) | apply Lend.there)) (by first  | rfl | exact tab_get (by first | omega | (simp; omega)) | exact gm (d := 0) (by first | omega | (simp; omega))))) (by decide) ?_
  refine JR.u rfl rfl rfl (Yv.move rfl) (by decide) ?_
  refine JR.u rfl rfl rfl (Yv.move rfl) (by decide) ?_
  refine JR.u rfl rfl rfl (Yv.nilCheck rfl) (by decide) ?_
  refine JR.u rfl rfl rfl (Yv.fieldAddr fa_62_0 rfl) (by decide) ?_
  refine JR.v rfl rfl rfl (Yv.load1 one_26 rfl (by first | exact Kn.own (by repeat (first | exact List.Mem.head _ | refine List.Mem.tail _ ?_)) (by first  | rfl | exact tab_get (by first | omega | (simp; omega)) | exact gm (d := 0) (by first | omega | (simp; omega))) | exact Kn.ro (by repeat (first | exact List.Mem.head _ | refine List.Mem.tail _ ?_)) (by first  | rfl | exact tab_get (by first | omega | (simp; omega)) | exact gm (d := 0) (by first | omega | (simp; omega))) | exact Kn.row (by repeat (first | exact List.Mem.head _ | refine List.Mem.tail _ ?_)) (by first  | rfl | exact tab_get (by first | omega | (simp; omega)) | exact gm (d := 0) (by first | omega | (simp; omega))) | exact Kn.rd (by repeat (first | exact Lend.same _ _ | exact Lend.row _ _ _ _ _ _ (by decide) | apply Lend.there)) (by first  | rfl | exact tab_get (by first | omega | (simp; omega)) | exact gm (d := 0) (by first | omega | (simp; omega))) | exact Kn.rd2 (by repeat (first | exact Lend.same _ _ | exact Lend.row _ _ _ _ _ _ (by decide) | apply Lend.there)) (by first  | rfl | exact tab_get (by first | omega | (simp; omega)) | exact gm (d := 0) (by first | omega | (simp; omega))))) (by decide) ?_
  refine JR.u rfl rfl rfl (Yv.move rfl) (by decide) ?_
  refine JR.u rfl rfl rfl (Yv.move rfl) (by decide) ?_
  refine JR.u rfl rfl rfl (Yv.nilCheck rfl) (by decide) ?_
  refine JR.u rfl rfl rfl (Yv.fieldAddr fa_62_0 rfl) (by decide) ?_
  refine JR.v rfl rfl rfl (Yv.load1 one_26 rfl (by first | exact Kn.own (by repeat (first | exact List.Mem.head _ | refine List.Mem.tail _ ?_)) (by first  | rfl | exact tab_get (by first | omega | (simp; omega)) | exact gm (d := 0) (by first | omega | (simp; omega))) | exact Kn.ro (by repeat (first | exact List.Mem.head _ | refine List.Mem.tail _ ?_)) (by first  | rfl | exact tab_get (by first | omega | (simp; omega)) | exact gm (d := 0) (by first | omega | (simp; omega))) | exact Kn.row (by repeat (first | exact List.Mem.head _ | refine List.Mem.tail _ ?_)) (by first  | rfl | exact tab_get (by first | omega | (simp; omega)) | exact gm (d := 0) (by first | omega | (simp; omega))) | exact Kn.rd (by repeat (first | exact Lend.same _ _ | exact Lend.row _ _ _ _ _ _ (by decide) | apply Lend.there)) (by first  | rfl | exact tab_get (by first | omega | (simp; omega)) | exact gm (d := 0) (by first | omega | (simp; omega))) | exact Kn.rd2 (by repeat (first | exact Lend.same _ _ | exact Lend.row _ _ _ _ _ _ (by decide) | apply Lend.there)) (by first  | rfl | exact tab_get (by first | omega | (simp; omega)) | exact gm (d := 0) (by first | omega | (simp; omega))))) (by decide) ?_
  refine JR.u rfl rfl rfl (Yv.move rfl) (by decide) ?_
  first | refine JR.u rfl rfl rfl (Yv.indexRow Try.underlying26 sz_59 rfl rfl (by repeat (first | exact List.Mem.head _ | refine List.Mem.tail _ ?_)) (by first | exact ltb rfl | (simp; done) | (simp; omega) | omega | (simp [*]; omega))) (by decide) ?_ | refine JR.u rfl rfl rfl (Yv.indexRd Try.underlying26 sz_59 rfl rfl (by repeat (first | exact Lend.same _ _ | exact Lend.row _ _ _ _ _ _ (by decide) | apply Lend.there)) (by decide) (by first | exact ltb rfl | (simp; done) | (simp; omega) | omega | (simp [*]; omega))) (by decide) ?_ | refine JR.u rfl rfl rfl (Yv.indexSl0 Try.underlying26 sz_59 rfl rfl (by first | exact ltb rfl | (simp; done) | (simp; omega) | omega | (simp [*]; omega))) (by decide) ?_
  first | refine JR.v rfl rfl rfl (Yv.as (v' := .agg (xs.getD j enD).cells.toArray) (Yv.loadOwn agg_59 (by repeat (first | exact List.Mem.head _ | refine List.Mem.tail _ ?_)) rfl (by first | rfl | (simp; done) | (simp; omega) | (simp [*]; done))) (congrArg (fun l : List Value => Value.agg l.toArray) (en_piece hj))) (by decide) ?_ | refine JR.v rfl rfl rfl (Yv.as (v' := .agg (xs.getD j enD).cells.toArray) (Yv.loadOwnAt agg_59 (by repeat (first | exact List.Mem.head _ | refine List.Mem.tail _ ?_)) rfl (by first | rfl | (simp; done) | (simp; omega) | (simp [*]; done))) (congrArg (fun l : List Value => Value.agg l.toArray) (en_piece hj))) (by decide) ?_ | refine JR.v rfl rfl rfl (Yv.as (v' := .agg (xs.getD j enD).cells.toArray) (Yv.loadRow agg_59 (by repeat (first | exact List.Mem.head _ | refine List.Mem.tail _ ?_)) rfl (by first | rfl | (simp; done) | (simp; omega) | (simp [*]; done))) (congrArg (fun l : List Value => Value.agg l.toArray) (en_piece hj))) (by decide) ?_ | refine JR.v rfl rfl rfl (Yv.as (v' := .agg (xs.getD j enD).cells.toArray) (Yv.loadRd agg_59 (by repeat (first | exact Lend.same _ _ | exact Lend.row _ _ _ _ _ _ (by decide) | apply Lend.there)) rfl (by first | rfl | (simp; done) | (simp; omega) | (simp [*]; done))) (congrArg (fun l : List Value => Value.agg l.toArray) (en_piece hj))) (by decide) ?_ | refine JR.v rfl rfl rfl (Yv.as (v' := .agg (xs.getD j enD).cells.toArray) (Yv.loadRo agg_59 (by repeat (first | exact List.Mem.head _ | refine List.Mem.tail _ ?_)) rfl (by first | rfl | (simp; done) | (simp; omega) | (simp [*]; done))) (congrArg (fun l : List Value => Value.agg l.toArray) (en_piece hj))) (by decide) ?_
  refine JR.u rfl rfl rfl (Yv.move rfl) (by decide) ?_
  refine JR.u rfl rfl rfl (Yv.nilCheck rfl) (by decide) ?_
  refine JR.u rfl rfl rfl (Yv.fieldAddr fa_62_0 rfl) (by decide) ?_
  refine JR.v rfl rfl rfl (Yv.load1 one_26 rfl (by first | exact Kn.own (by repeat (first | exact List.Mem.head _ | refine List.Mem.tail _ ?_)) (by first  | rfl | exact tab_get (by first | omega | (simp; omega)) | exact gm (d := 0) (by first | omega | (simp; omega))) | exact Kn.ro (by repeat (first | exact List.Mem.head _ | refine List.Mem.tail _ ?_)) (by first  | rfl | exact tab_get (by first | omega | (simp; omega)) | exact gm (d := 0) (by first | omega | (simp; omega))) | exact Kn.row (by repeat (first | exact List.Mem.head _ | refine List.Mem.tail _ ?_)) (by first  | rfl | exact tab_get (by first | omega | (simp; omega)) | exact gm (d := 0) (by first | omega | (simp; omega))) | exact Kn.rd (by repeat (first | exact Lend.same _ _ | exact Lend.row _ _ _ _ _ _ (by decide) | apply Lend.there)) (by first  | rfl | exact tab_get (by first | omega | (simp; omega)) | exact gm (d := 0) (by first | omega | (simp; omega))) | exact Kn.rd2 (by repeat (first | exact Lend.same _ _ | exact Lend.row _ _ _ _ _ _ (by decide) | apply Lend.there)) (by first  | rfl | exact tab_get (by first | omega | (simp; omega)) | exact gm (d := 0) (by first | omega | (simp; omega))))) (by decide) ?_
  refine JR.u rfl rfl rfl (Yv.move rfl) (by decide) ?_
  first | refine JR.u rfl rfl rfl (Yv.indexRow Try.underlying26 sz_59 rfl rfl (by repeat (first | exact List.Mem.head _ | refine List.Mem.tail _ ?_)) (by first | exact ltb rfl | (simp; done) | (simp; omega) | omega | (simp [*]; omega))) (by decide) ?_ | refine JR.u rfl rfl rfl (Yv.indexRd Try.underlying26 sz_59 rfl rfl (by repeat (first | exact Lend.same _ _ | exact Lend.row _ _ _ _ _ _ (by decide) | apply Lend.there)) (by decide) (by first | exact ltb rfl | (simp; done) | (simp; omega) | omega | (simp [*]; omega))) (by decide) ?_ | refine JR.u rfl rfl rfl (Yv.indexSl0 Try.underlying26 sz_59 rfl rfl (by first | exact ltb rfl | (simp; done) | (simp; omega) | omega | (simp [*]; omega))) (by decide) ?_
  first | refine JR.v rfl rfl rfl (Yv.as (v' := .agg (xs.getD i enD).cells.toArray) (Yv.loadOwn agg_59 (by repeat (first | exact List.Mem.head _ | refine List.Mem.tail _ ?_)) rfl (by first | rfl | (simp; done) | (simp; omega) | (simp [*]; done))) (congrArg (fun l : List Value => Value.agg l.toArray) (en_piece hi))) (by decide) ?_ | refine JR.v rfl rfl rfl (Yv.as (v' := .agg (xs.getD i enD).cells.toArray) (Yv.loadOwnAt agg_59 (by repeat (first | exact List.Mem.head _ | refine List.Mem.tail _ ?_)) rfl (by first | rfl | (simp; done) | (simp; omega) | (simp [*]; done))) (congrArg (fun l : List Value => Value.agg l.toArray) (en_piece hi))) (by decide) ?_ | refine JR.v rfl rfl rfl (Yv.as (v' := .agg (xs.getD i enD).cells.toArray) (Yv.loadRow agg_59 (by repeat (first | exact List.Mem.head _ | refine List.Mem.tail _ ?_)) rfl (by first | rfl | (simp; done) | (simp; omega) | (simp [*]; done))) (congrArg (fun l : List Value => Value.agg l.toArray) (en_piece hi))) (by decide) ?_ | refine JR.v rfl rfl rfl (Yv.as (v' := .agg (xs.getD i enD).cells.toArray) (Yv.loadRd agg_59 (by repeat (first | exact Lend.same _ _ | exact Lend.row _ _ _ _ _ _ (by decide) | apply Lend.there)) rfl (by first | rfl | (simp; done) | (simp; omega) | (simp [*]; done))) (congrArg (fun l : List Value => Value.agg l.toArray) (en_piece hi))) (by decide) ?_ | refine JR.v rfl rfl rfl (Yv.as (v' := .agg (xs.getD i enD).cells.toArray) (Yv.loadRo agg_59 (by repeat (first | exact List.Mem.head _ | refine List.Mem.tail _ ?_)) rfl (by first | rfl | (simp; done) | (simp; omega) | (simp [*]; done))) (congrArg (fun l : List Value => Value.agg l.toArray) (en_piece hi))) (by decide) ?_
  first | refine JR.u rfl rfl rfl (Yv.indexRow Try.underlying26 sz_59 rfl rfl (by repeat (first | exact List.Mem.head _ | refine List.Mem.tail _ ?_)) (by first | exact ltb rfl | (simp; done) | (simp; omega) | omega | (simp [*]; omega))) (by decide) ?_ | refine JR.u rfl rfl rfl (Yv.indexRd Try.underlying26 sz_59 rfl rfl (by repeat (first | exact Lend.same _ _ | exact Lend.row _ _ _ _ _ _ (by decide) | apply Lend.there)) (by decide) (by first | exact ltb rfl | (simp; done) | (simp; omega) | omega | (simp [*]; omega))) (by decide) ?_ | refine JR.u rfl rfl rfl (Yv.indexSl0 Try.underlying26 sz_59 rfl rfl (by first | exact ltb rfl | (simp; done) | (simp; omega) | omega | (simp [*]; omega))) (by decide) ?_
  refine JR.m0 rfl rfl (Mv.storeRow (v := .slice (some ⟨g, 0, none⟩) xs.length c) (o := i * 3) sz_59 rfl rfl rfl rfl (en_one1 _) (by repeat (first | exact Upd.here _ _ _ | apply Upd.there)) (by omega) (by omega)) ?_
  rintro _ _ _ ⟨rfl, rfl⟩
  refine ⟨⟨Subs.sub (by repeat (first | exact Subs.nil _ | apply Subs.cons | exact List.Mem.head _ | refine List.Mem.tail _ ?_)), .inl rfl⟩, ?_⟩
  first | refine JR.u rfl rfl rfl (Yv.indexRow Try.underlying26 sz_59 rfl rfl (by repeat (first | exact List.Mem.head _ | refine List.Mem.tail _ ?_)) (by first | exact ltb rfl | (simp; done) | (simp; omega) | omega | (simp [*]; omega))) (by decide) ?_ | refine JR.u rfl rfl rfl (Yv.indexRd Try.underlying26 sz_59 rfl rfl (by repeat (first | exact Lend.same _ _ | exact Lend.row _ _ _ _ _ _ (by decide) | apply Lend.there)) (by decide) (by first | exact ltb rfl | (simp; done) | (simp; omega) | omega | (simp [*]; omega))) (by decide) ?_ | refine JR.u rfl rfl rfl (Yv.indexSl0 Try.underlying26 sz_59 rfl rfl (by first | exact ltb rfl | (simp; done) | (simp; omega) | omega | (simp [*]; omega))) (by decide) ?_
  refine JR.m0 rfl rfl (Mv.storeRow (v := .slice (some ⟨g, 0, none⟩) xs.length c) (o := j * 3) sz_59 rfl rfl rfl rfl (en_one1 _) (by repeat (first | exact Upd.here _ _ _ | apply Upd.there)) (by omega) (by omega)) ?_
  rintro _ _ _ ⟨rfl, rfl⟩
  refine ⟨⟨Subs.sub (by repeat (first | exact Subs.nil _ | apply Subs.cons | exact List.Mem.head _ | refine List.Mem.tail _ ?_)), .inl rfl⟩, ?_⟩
  refine JR.nil ?_
  exact JQ.done (.inl rfl) (Γ' := []) (H' := [Res.row _ _ 59 3 _]) (res_none rfl) (Subs.sub (by repeat (first | exact Subs.nil _ | apply Subs.cons | exact List.Mem.head _ | refine List.Mem.tail _ ?_))) (Picks.perm (by repeat (first | exact Picks.nil _ | apply Picks.cons | exact Pull.here _ _ | apply Pull.there))) ⟨rfl, by rw [en_splice hi, en_splice (by simpa using hj), swp_len]; rfl⟩


theorem f48_spec (q : Nat) (v : Value) (ys : List En) (x : En) (hl : ys.length ≤ 1000000) :
    Spec Try.prog 48 #[(ptr q 0)] [] [Res.cells q [v, (.func (.func 25) #[] #[])] 62, Res.row v (ys ++ [x]).length 59 3 (enC (ys ++ [x]))]
      (fun r Γ' H' => ∃ v', r = .iface 59 (.agg (x).cells.toArray) ∧ Γ' = [] ∧ H' = [Res.cells q [v', (.func (.func 25) #[] #[])] 62, Res.row v' ys.length 59 3 (enC ys)]) := by
  refine Spec.of_args Try.func48 rfl Try.ntmps48 (by simp) fun w => ?_
  refine JC.seq ?_
  refine JC.region ?_
  refine JO.v (Yv.assign rfl) (by decide) ?_
  refine JO.nil ?_
  refine JQ.then_normal ?_
  refine JC.seq ?_
  refine JC.region ?_
  refine JO.v (Yv.move rfl) (by decide) ?_
  refine JO.v (Yv.nilCheck rfl) (by decide) ?_
  refine JO.v (Yv.fieldAddr fa_62_0 rfl) (by decide) ?_
  refine JO.v (Yv.load1 one_26 rfl (by first | exact Kn.own (by repeat (first | exact List.Mem.head _ | refine List.Mem.tail _ ?_)) (by first  | rfl | exact tab_get (by first | omega | (simp; omega)) | exact gm (d := 0) (by first | omega | (simp; omega))) | exact Kn.ro (by repeat (first | exact List.Mem.head _ | refine List.Mem.tail _ ?_)) (by first  | rfl | exact tab_get (by first | omega | (simp; omega)) | exact gm (d := 0) (by first | omega | (simp; omega))) | exact Kn.row (by repeat (first | exact List.Mem.head _ | refine List.Mem.tail _ ?_)) (by first  | rfl | exact tab_get (by first | omega | (simp; omega)) | exact gm (d := 0) (by first | omega | (simp; omega))) | exact Kn.rd (by repeat (first | exact Lend.same _ _ | exact Lend.row _ _ _ _ _ _ (by decide) | apply Lend.there)) (by first  | rfl | exact tab_get (by first | omega | (simp; omega)) | exact gm (d := 0) (by first | omega | (simp; omega))) | exact Kn.rd2 (by repeat (first | exact Lend.same _ _ | exact Lend.row _ _ _ _ _ _ (by decide) | apply Lend.there)) (by first  | rfl | exact tab_get (by first | omega | (simp; omega)) | exact gm (d := 0) (by first | omega | (simp; omega))))) (by decide) ?_
  first | refine JO.v (Yv.len_s Try.underlying26 rfl) (by decide) ?_ | refine JO.v (Yv.lenRd Try.underlying26 rfl (by repeat (first | exact Lend.same _ _ | exact Lend.row _ _ _ _ _ _ (by decide) | apply Lend.there))) (by decide) ?_
  refine JO.v (Yv.as (v' := it (ys.length : Int)) (Yv.bin rfl rfl (BinR.sub_i (by first | (constructor <;> omega) | (constructor <;> simp <;> omega)))) (congrArg it (by simp))) (by decide) ?_
  refine JO.v (Yv.assign rfl) (by decide) ?_
  refine JO.nil ?_
  refine JQ.then_normal ?_
  refine JC.seq ?_
  refine JC.region ?_
  refine JO.v (Yv.move rfl) (by decide) ?_
  refine JO.v (Yv.nilCheck rfl) (by decide) ?_
  refine JO.v (Yv.fieldAddr fa_62_0 rfl) (by decide) ?_
  refine JO.v (Yv.load1 one_26 rfl (by first | exact Kn.own (by repeat (first | exact List.Mem.head _ | refine List.Mem.tail _ ?_)) (by first  | rfl | exact tab_get (by first | omega | (simp; omega)) | exact gm (d := 0) (by first | omega | (simp; omega))) | exact Kn.ro (by repeat (first | exact List.Mem.head _ | refine List.Mem.tail _ ?_)) (by first  | rfl | exact tab_get (by first | omega | (simp; omega)) | exact gm (d := 0) (by first | omega | (simp; omega))) | exact Kn.row (by repeat (first | exact List.Mem.head _ | refine List.Mem.tail _ ?_)) (by first  | rfl | exact tab_get (by first | omega | (simp; omega)) | exact gm (d := 0) (by first | omega | (simp; omega))) | exact Kn.rd (by repeat (first | exact Lend.same _ _ | exact Lend.row _ _ _ _ _ _ (by decide) | apply Lend.there)) (by first  | rfl | exact tab_get (by first | omega | (simp; omega)) | exact gm (d := 0) (by first | omega | (simp; omega))) | exact Kn.rd2 (by repeat (first | exact Lend.same _ _ | exact Lend.row _ _ _ _ _ _ (by decide) | apply Lend.there)) (by first  | rfl | exact tab_get (by first | omega | (simp; omega)) | exact gm (d := 0) (by first | omega | (simp; omega))))) (by decide) ?_
  refine JO.v (Yv.move rfl) (by decide) ?_
  first | refine JO.v (Yv.indexRow Try.underlying26 sz_59 rfl rfl (by repeat (first | exact List.Mem.head _ | refine List.Mem.tail _ ?_)) (by first | exact ltb rfl | (simp; done) | (simp; omega) | omega | (simp [*]; omega))) (by decide) ?_ | refine JO.v (Yv.indexRd Try.underlying26 sz_59 rfl rfl (by repeat (first | exact Lend.same _ _ | exact Lend.row _ _ _ _ _ _ (by decide) | apply Lend.there)) (by decide) (by first | exact ltb rfl | (simp; done) | (simp; omega) | omega | (simp [*]; omega))) (by decide) ?_
  first | refine JO.v (Yv.as (v' := .agg (x).cells.toArray) (Yv.loadOwn agg_59 (by repeat (first | exact List.Mem.head _ | refine List.Mem.tail _ ?_)) rfl (by first | rfl | (simp; done) | (simp; omega) | (simp [*]; done))) (congrArg (fun l : List Value => Value.agg l.toArray) (by rw [en_piece (by simp)]; simp))) (by decide) ?_ | refine JO.v (Yv.as (v' := .agg (x).cells.toArray) (Yv.loadOwnAt agg_59 (by repeat (first | exact List.Mem.head _ | refine List.Mem.tail _ ?_)) rfl (by first | rfl | (simp; done) | (simp; omega) | (simp [*]; done))) (congrArg (fun l : List Value => Value.agg l.toArray) (by rw [en_piece (by simp)]; simp))) (by decide) ?_ | refine JO.v (Yv.as (v' := .agg (x).cells.toArray) (Yv.loadRow agg_59 (by repeat (first | exact List.Mem.head _ | refine List.Mem.tail _ ?_)) rfl (by first | rfl | (simp; done) | (simp; omega) | (simp [*]; done))) (congrArg (fun l : List Value => Value.agg l.toArray) (by rw [en_piece (by simp)]; simp))) (by decide) ?_ | refine JO.v (Yv.as (v' := .agg (x).cells.toArray) (Yv.loadRd agg_59 (by repeat (first | exact Lend.same _ _ | exact Lend.row _ _ _ _ _ _ (by decide) | apply Lend.there)) rfl (by first | rfl | (simp; done) | (simp; omega) | (simp [*]; done))) (congrArg (fun l : List Value => Value.agg l.toArray) (by rw [en_piece (by simp)]; simp))) (by decide) ?_ | refine JO.v (Yv.as (v' := .agg (x).cells.toArray) (Yv.loadRo agg_59 (by repeat (first | exact List.Mem.head _ | refine List.Mem.tail _ ?_)) rfl (by first | rfl | (simp; done) | (simp; omega) | (simp [*]; done))) (congrArg (fun l : List Value => Value.agg l.toArray) (by rw [en_piece (by simp)]; simp))) (by decide) ?_
  refine JO.alloc _ zero_59 rfl (by decide) fun b4 => ?_
  refine JO.storeAll sz_59 rfl rfl rfl rfl (en_one1 x) (by repeat (first | exact Upd.here _ _ _ | apply Upd.there)) rfl ?_
  refine JO.nil ?_
  refine JQ.then_normal ?_
  refine JC.seq ?_
  refine JC.region ?_
  refine JO.v (Yv.move rfl) (by decide) ?_
  refine JO.v (Yv.move rfl) (by decide) ?_
  refine JO.v (Yv.nilCheck rfl) (by decide) ?_
  refine JO.v (Yv.fieldAddr fa_62_0 rfl) (by decide) ?_
  refine JO.v (Yv.load1 one_26 rfl (by first | exact Kn.own (by repeat (first | exact List.Mem.head _ | refine List.Mem.tail _ ?_)) (by first  | rfl | exact tab_get (by first | omega | (simp; omega)) | exact gm (d := 0) (by first | omega | (simp; omega))) | exact Kn.ro (by repeat (first | exact List.Mem.head _ | refine List.Mem.tail _ ?_)) (by first  | rfl | exact tab_get (by first | omega | (simp; omega)) | exact gm (d := 0) (by first | omega | (simp; omega))) | exact Kn.row (by repeat (first | exact List.Mem.head _ | refine List.Mem.tail _ ?_)) (by first  | rfl | exact tab_get (by first | omega | (simp; omega)) | exact gm (d := 0) (by first | omega | (simp; omega))) | exact Kn.rd (by repeat (first | exact Lend.same _ _ | exact Lend.row _ _ _ _ _ _ (by decide) | apply Lend.there)) (by first  | rfl | exact tab_get (by first | omega | (simp; omega)) | exact gm (d := 0) (by first | omega | (simp; omega))) | exact Kn.rd2 (by repeat (first | exact Lend.same _ _ | exact Lend.row _ _ _ _ _ _ (by decide) | apply Lend.there)) (by first  | rfl | exact tab_get (by first | omega | (simp; omega)) | exact gm (d := 0) (by first | omega | (simp; omega))))) (by decide) ?_
  refine JO.v (Yv.move rfl) (by decide) ?_
  refine JO.cutRow ys.length Try.underlying26 sz_59 rfl (by repeat (first | exact Pull.here _ _ | apply Pull.there)) rfl (by first | (simp; done) | omega | (simp; omega)) (by decide) fun v24 => ?_
  rw [show (enC (ys ++ [x])).take (ys.length * 3) = enC ys from by rw [enC_append, List.take_left' (by simp)]]
  refine JO.v (Yv.nilCheck rfl) (by decide) ?_
  refine JO.v (Yv.fieldAddr fa_62_0 rfl) (by decide) ?_
  first | refine JO.store1 sz_26 rfl rfl rfl (by repeat (first | exact Upd.here _ _ _ | apply Upd.there)) (by first | exact ltb rfl | (simp; done) | (simp; omega) | omega | (simp [*]; omega)) ?_ | refine JO.store1s sz_26 rfl rfl (by repeat (first | exact Lend.same _ _ | exact Lend.row _ _ _ _ _ _ (by decide) | apply Lend.there)) (by repeat (first | exact Upd.here _ _ _ | apply Upd.there)) (by first | exact ltb rfl | (simp; done) | (simp; omega) | omega | (simp [*]; omega)) ?_ | refine JO.storeRow1 sz_26 rfl rfl rfl (by repeat (first | exact Upd.here _ _ _ | apply Upd.there)) (by first | exact ltb rfl | (simp; done) | (simp; omega) | omega | (simp [*]; omega)) (by first | rfl | (simp; done) | omega | (simp; omega)) ?_
  refine JO.nil ?_
  refine JQ.then_normal ?_
  refine JC.seq ?_
  refine JC.region ?_
  first | refine JO.v (Yv.loadOwn agg_59 (by repeat (first | exact List.Mem.head _ | refine List.Mem.tail _ ?_)) rfl (by first | rfl | (simp; done) | (simp; omega) | (simp [*]; done))) (by decide) ?_ | refine JO.v (Yv.loadOwnAt agg_59 (by repeat (first | exact List.Mem.head _ | refine List.Mem.tail _ ?_)) rfl (by first | rfl | (simp; done) | (simp; omega) | (simp [*]; done))) (by decide) ?_ | refine JO.v (Yv.loadRow agg_59 (by repeat (first | exact List.Mem.head _ | refine List.Mem.tail _ ?_)) rfl (by first | rfl | (simp; done) | (simp; omega) | (simp [*]; done))) (by decide) ?_ | refine JO.v (Yv.loadRd agg_59 (by repeat (first | exact Lend.same _ _ | exact Lend.row _ _ _ _ _ _ (by decide) | apply Lend.there)) rfl (by first | rfl | (simp; done) | (simp; omega) | (simp [*]; done))) (by decide) ?_ | refine JO.v (Yv.loadRo agg_59 (by repeat (first | exact List.Mem.head _ | refine List.Mem.tail _ ?_)) rfl (by first | rfl | (simp; done) | (simp; omega) | (simp [*]; done))) (by decide) ?_
  refine JO.v (Yv.iface Try.underlying59 (fun _ h => by cases h) rfl) (by decide) ?_
  refine JO.v (Yv.assign rfl) (by decide) ?_
  refine JO.nil ?_
  refine JQ.then_normal ?_
  refine JC.ret ?_
  exact JQ.done (.inr rfl) (Γ' := []) (H' := [Res.cells q [_, (.func (.func 25) #[] #[])] 62, Res.row _ ys.length 59 3 (enC ys)]) (res1 rfl (RV.tmp rfl)) (Subs.sub (by repeat (first | exact Subs.nil _ | apply Subs.cons | exact List.Mem.head _ | refine List.Mem.tail _ ?_))) (Picks.perm (by repeat (first | exact Picks.nil _ | apply Picks.cons | exact Pull.here _ _ | apply Pull.there))) ⟨_, rfl, rfl, rfl⟩


theorem f49_spec (q : Nat) (v : Value) (xs : List En) (x : En) (hl : xs.length ≤ 1000000) :
    Spec Try.prog 49 #[(ptr q 0), (.iface 59 (.agg (x).cells.toArray))] [] [Res.cells q [v, (.func (.func 25) #[] #[])] 62, Res.row v xs.length 59 3 (enC xs)]
      (fun r Γ' H' => ∃ v', Γ' = [] ∧ H' = [Res.cells q [v', (.func (.func 25) #[] #[])] 62, Res.row v' (xs ++ [x]).length 59 3 (enC (xs ++ [x]))]) := by
  refine Spec.of_args Try.func49 rfl Try.ntmps49 (by simp) fun w => ?_
  refine JC.draw (.one 0 (.one 1 (.one 2 (.one 3 (.one 4 (.one 5 (.one 6 (.one 7 (.one 8 (.one 9 (.one 10 (.one 11 .nil)))))))))))) (fun i => ([8, 11] : List Nat).contains i) (fun i => ([7, 8, 11] : List Nat).contains i) (fun i => ([0, 1, 2, 3, 5, 6, 9, 10] : List Nat).contains i) mixed (by kernel_rfl) (by decide) (by kernel_rfl) ?_
  refine JR.u rfl rfl rfl (Yv.move rfl) (by decide) ?_
  refine JR.u rfl rfl rfl (Yv.move rfl) (by decide) ?_
  refine JR.u rfl rfl rfl (Yv.nilCheck rfl) (by decide) ?_
  refine JR.u rfl rfl rfl (Yv.fieldAddr fa_62_0 rfl) (by decide) ?_
  refine JR.v rfl rfl rfl (Yv.load1 one_26 rfl (by first | exact Kn.own (by repeat (first | exact List.Mem.head _ | refine List.Mem.tail _ ?_)) (by first  | rfl | exact tab_get (by first | omega | (simp; omega)) | exact gm (d := 0) (by first | omega | (simp; omega))) | exact Kn.ro (by repeat (first | exact List.Mem.head _ | refine List.Mem.tail _ ?_)) (by first  | rfl | exact tab_get (by first | omega | (simp; omega)) | exact gm (d := 0) (by first | omega | (simp; omega))) | exact Kn.row (by repeat (first | exact List.Mem.head _ | refine List.Mem.tail _ ?_)) (by first  | rfl | exact tab_get (by first | omega | (simp; omega)) | exact gm (d := 0) (by first | omega | (simp; omega))) | exact Kn.rd (by repeat (first | exact Lend.same _ _ | exact Lend.row _ _ _ _ _ _ (by decide) | apply Lend.there)) (by first  | rfl | exact tab_get (by first | omega | (simp; omega)) | exact gm (d := 0) (by first | omega | (simp; omega))) | exact Kn.rd2 (by repeat (first | exact Lend.same _ _ | exact Lend.row _ _ _ _ _ _ (by decide) | apply Lend.there)) (by first  | rfl | exact tab_get (by first | omega | (simp; omega)) | exact gm (d := 0) (by first | omega | (simp; omega))))) (by decide) ?_
  refine JR.u rfl rfl rfl (Yv.move rfl) (by decide) ?_
  refine JR.u rfl rfl rfl (Yv.assert Try.underlying59 (fun _ h => by cases h) rfl) (by decide) ?_
  refine JR.m rfl rfl (Mv.lit Try.underlying26 info_59 rfl rfl (by intro v hv; simp at hv; subst hv; rfl) (by decide) (by decide) (by unfold maxLen; omega)) (by decide) ?_
  rintro v11 _ _ ⟨rfl, rfl⟩
  refine ⟨⟨Subs.sub (by repeat (first | exact Subs.nil _ | apply Subs.cons | exact List.Mem.head _ | refine List.Mem.tail _ ?_)), .inr (St.keep (by repeat (first | exact Subs.nil _ | apply Subs.cons | exact List.Mem.head _ | refine List.Mem.tail _ ?_)) (by repeat (first | exact Picks.nil _ | apply Picks.cons | exact Pull.here _ _ | apply Pull.there)))⟩, ?_⟩
  refine JR.m rfl rfl (Mv.append Try.underlying26 info_59 rfl (by decide) rfl rfl (by repeat (first | exact Pull.here _ _ | apply Pull.there)) (by first | exact Src.nil | exact Src.rd (by repeat (first | exact Lend.same _ _ | exact Lend.row _ _ _ _ _ _ (by decide) | apply Lend.there)) (by decide) | exact Src.cells (by repeat (first | exact List.Mem.head _ | refine List.Mem.tail _ ?_)) (by simp)) (by first | exact en_one1 _ | (intro a ha; simp at ha; exact en_one1 _ a ha)) (by unfold maxLen; omega) (by omega)) (by decide) ?_
  rintro v12 _ _ ⟨rfl, rfl⟩
  refine ⟨⟨Subs.sub (by repeat (first | exact Subs.nil _ | apply Subs.cons | exact List.Mem.head _ | refine List.Mem.tail _ ?_)), .inl rfl⟩, ?_⟩
  refine JR.u rfl rfl rfl (Yv.nilCheck rfl) (by decide) ?_
  refine JR.u rfl rfl rfl (Yv.fieldAddr fa_62_0 rfl) (by decide) ?_
  first | refine JR.m0 rfl rfl (Mv.store1 sz_26 rfl rfl rfl (by repeat (first | exact Upd.here _ _ _ | apply Upd.there)) (by first | exact ltb rfl | (simp; done) | (simp; omega) | omega | (simp [*]; omega))) ?_ | refine JR.m0 rfl rfl (Mv.store1s sz_26 rfl rfl (by repeat (first | exact Lend.same _ _ | exact Lend.row _ _ _ _ _ _ (by decide) | apply Lend.there)) (by repeat (first | exact Upd.here _ _ _ | apply Upd.there)) (by first | exact ltb rfl | (simp; done) | (simp; omega) | omega | (simp [*]; omega))) ?_ | refine JR.m0 rfl rfl (Mv.storeRow1 sz_26 rfl rfl rfl (by repeat (first | exact Upd.here _ _ _ | apply Upd.there)) (by first | exact ltb rfl | (simp; done) | (simp; omega) | omega | (simp [*]; omega)) (by first | rfl | (simp; done) | omega | (simp; omega))) ?_
  rintro _ _ _ ⟨rfl, rfl⟩
  refine ⟨⟨Subs.sub (by repeat (first | exact Subs.nil _ | apply Subs.cons | exact List.Mem.head _ | refine List.Mem.tail _ ?_)), .inl rfl⟩, ?_⟩
  refine JR.nil ?_
  exact JQ.done (.inl rfl) (Γ' := []) (H' := [Res.cells q [_, (.func (.func 25) #[] #[])] 62, Res.row _ _ 59 3 _]) (res_none rfl) (Subs.sub (by repeat (first | exact Subs.nil _ | apply Subs.cons | exact List.Mem.head _ | refine List.Mem.tail _ ?_))) (Picks.perm (by repeat (first | exact Picks.nil _ | apply Picks.cons | exact Pull.here _ _ | apply Pull.there))) ⟨v12, rfl, by rw [enC_append, enC_one, List.length_append]; rfl⟩
end Go.Proofs.Ytmefjbmaghjpfaa
