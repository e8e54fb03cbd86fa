/- Texts of ours, gathered: HA EA. -/
import Derived.Test.YtmhiapebljfebaaGreatDoorR08
set_option linter.unusedVariables false
set_option linter.unusedSimpArgs false
set_option maxRecDepth 100000
/- Walks: a heap; slots shared out, and their owners. -/
namespace Go.Proofs.YtmhiapebljfebaaGreatDoor
open Go.RowKit
theorem zq15 {p : Prop} (h : p := by first | (refine ⟨by first | rfl | (simp [*]; done) | (show some _ = some _; simp [*]; done), ?_⟩; repeat (first | exact trivial | refine ⟨rfl, ?_⟩))) : p := h

theorem f263_spec (v : Value) (n : Nat) (xs : List Value) :
  Spec Tryz.prog 263 #[v] [Res.rd v n 5 xs] []
   (fun r Γ' H' => r = (it (n : Int)) ∧ Γ' = [] ∧ H' = []) := by
 refine Spec.of_args Tryz.func263 rfl Tryz.ntmps263 (by simp) fun w => ?_
 refine JC.seq (JC.region (JO.v (Yv.assign rfl) (by decide) (JO.nil (JQ.then_normal (JC.seq (JC.region ?_))))))
 refine JO.v (Yv.move rfl) (by decide) (JO.v (Yv.lenRd Tryz.underlying182 rfl zq8) (by decide) (JO.v (Yv.assign rfl) (by decide) (JO.nil (JQ.then_normal ?_))))
 refine JC.ret ?_
 exact JQ.done (.inr rfl) (Γ' := []) (H' := []) (res1 rfl (RV.tmp rfl)) (Subs.sub zq0) (Picks.perm zq1) ⟨rfl, rfl, rfl⟩


theorem f264_spec (v : Value) (xs : List Lk) (i j : Nat) (hi : i < xs.length) (hj : j < xs.length) :
  Spec Tryz.prog 264 #[v, (it (i : Int)), (it (j : Int))] [Res.rd v xs.length 5 (lkC xs)] []
   (fun r Γ' H' => r = (.bool (decide (key (xs.getD i lkD) < key (xs.getD j lkD)))) ∧ Γ' = [] ∧ H' = []) := by
 refine Spec.of_args Tryz.func264 rfl Tryz.ntmps264 (by simp) fun w => ?_
 refine JC.seq (JC.region (JO.v (Yv.assign rfl) (by decide) (JO.nil (JQ.then_normal (JC.seq ?_)))))
 refine JC.draw (.one 0 (.one 1 (.one 2 (.one 3 (.one 4 (.one 5 (.one 6 (.one 7 (.one 8 (.one 9 (.one 10 (.one 11 .nil)))))))))))) (fun i => ([10] : List Nat).contains i) (fun i => ([10] : List Nat).contains i) (fun i => ([0, 1, 2, 3, 5, 6, 7, 8, 11] : List Nat).contains i) mixed (by kernel_rfl) (by decide) (by kernel_rfl) ?_
 refine JR.u rfl rfl rfl (Yv.move rfl) (by decide) (JR.u rfl rfl rfl (Yv.move rfl) (by decide) (JR.u rfl rfl rfl (Yv.indexRd Tryz.underlying182 sz_187 rfl rfl zq8 (by decide) zq6) (by decide) (JR.u rfl rfl rfl (Yv.fieldAddr fa_187_1 rfl) (by decide) (JR.v rfl rfl rfl (Yv.as (v' := .agg ((wd (xs.getD i lkD).rest.toNat).map u64).toArray) (Yv.loadRd agg_40 zq8 rfl zq18) (congrArg (fun l : List Value => Value.agg l.toArray) (lk_rest hi))) (by decide) (JR.u rfl rfl rfl (Yv.move rfl) (by decide) (JR.u rfl rfl rfl (Yv.move rfl) (by decide) ?_))))))
 refine JR.u rfl rfl rfl (Yv.indexRd Tryz.underlying182 sz_187 rfl rfl zq8 (by decide) zq6) (by decide) (JR.u rfl rfl rfl (Yv.fieldAddr fa_187_1 rfl) (by decide) (JR.v rfl rfl rfl (Yv.as (v' := .agg ((wd (xs.getD j lkD).rest.toNat).map u64).toArray) (Yv.loadRd agg_40 zq8 rfl zq18) (congrArg (fun l : List Value => Value.agg l.toArray) (lk_rest hj))) (by decide) ?_))
 refine JR.m rfl rfl (Mv.callB body_52 rfl (f52_spec (xs.getD i lkD).rest.toNat (xs.getD j lkD).rest.toNat (rest_lt' _) (rest_lt' _)) zq1 zq4 zq14) (by decide) ?_
 rintro _ _ _ ⟨_, ⟨rfl, _, rfl⟩, hΓ, hH⟩
 simp only [List.cons_append, List.nil_append] at hH; subst hΓ hH
 refine ⟨⟨Subs.sub zq0, .inl rfl⟩, ?_⟩
 refine JR.u rfl rfl rfl (Yv.assign rfl) (by decide) ?_
 refine JR.nil ?_
 refine JQ.then_normal (JC.seq ?_)
 refine JC.draw (.one 0 (.one 1 (.one 2 (.one 3 (.one 4 (.one 5 (.one 6 (.one 7 (.one 8 (.one 9 (.one 10 (.one 11 (.one 12 (.one 13 (.one 14 (.one 15 (.one 16 (.one 17 (.one 18 (.one 19 .nil)))))))))))))))))))) (fun i => ([] : List Nat).contains i) (fun i => ([] : List Nat).contains i) (fun i => ([0, 1, 2, 3, 4, 5, 6, 7, 8, 9, 11, 12, 13, 14, 16, 17, 18, 19] : List Nat).contains i) mixed (by kernel_rfl) (by decide) (by kernel_rfl) ?_
 refine JR.u rfl rfl rfl (Yv.move rfl) (by decide) (JR.u rfl rfl rfl (Yv.bin rfl rfl BinR.gtr_i) (by decide) (JR.u rfl rfl rfl (Yv.move rfl) (by decide) ?_))
 refine JR.gsplit (g := 20) rfl (fun hg17 => ?_) (fun hg17 => ?_)
 ·have hg17' := hg17
  try simp only [decide_eq_true_eq, decide_eq_false_iff_not, Bool.not_eq_true', Bool.not_eq_false', ne_eq, Decidable.not_not, Bool.not_eq_true, Bool.and_eq_true, Bool.or_eq_true, BitVec.reduceToNat] at hg17'
  refine JR.gf (g := 21) rfl rfl rfl rfl hg17 (by decide) ?_
  refine JR.gf (g := 21) rfl rfl rfl rfl hg17 (by decide) ?_
  refine JR.gf (g := 21) rfl rfl rfl rfl hg17 (by decide) ?_
  refine JR.gu (g := 24) rfl rfl rfl rfl (by decide) ?_
  refine JR.gu (g := 24) rfl rfl rfl rfl (by decide) ?_
  refine JR.gu (g := 24) rfl rfl rfl rfl (by decide) ?_
  refine JR.gu (g := 24) rfl rfl rfl rfl (by decide) ?_
  refine JR.gu (g := 24) rfl rfl rfl rfl (by decide) ?_
  refine JR.gu (g := 24) rfl rfl rfl rfl (by decide) ?_
  refine JR.gu (g := 24) rfl rfl rfl rfl (by decide) ?_
  refine JR.gu (g := 24) rfl rfl rfl rfl (by decide) ?_
  refine JR.gu (g := 24) rfl rfl rfl rfl (by decide) ?_
  refine JR.gu (g := 24) rfl rfl rfl rfl (by decide) ?_
  refine JR.gu (g := 24) rfl rfl rfl rfl (by decide) ?_
  refine JR.gf (g := 21) rfl rfl rfl rfl hg17 (by decide) ?_
  refine JR.u rfl rfl rfl (Yv.pick1 rfl hg17 rfl) (by decide) (JR.u rfl rfl rfl (Yv.as (v' := .bool (decide (key (xs.getD i lkD) < key (xs.getD j lkD)))) (Yv.assign rfl) (by exact congrArg Value.bool (decide_eq_true (key_gt hg17')).symm)) (by decide) ?_)
  refine JR.nil ?_
  refine JQ.then_normal ?_
  refine JC.ret ?_
  exact JQ.done (.inr rfl) (Γ' := []) (H' := []) (res1 rfl (RV.tmp rfl)) (Subs.sub zq0) (Picks.perm zq1) ⟨rfl, rfl, rfl⟩
 ·have hg17' := hg17
  try simp only [decide_eq_true_eq, decide_eq_false_iff_not, Bool.not_eq_true', Bool.not_eq_false', ne_eq, Decidable.not_not, Bool.not_eq_true, Bool.and_eq_true, Bool.or_eq_true, BitVec.reduceToNat] at hg17'
  refine JR.ugt (g := 21) rfl rfl rfl rfl rfl hg17 (Yv.move rfl) (by decide) ?_
  refine JR.ugt (g := 21) rfl rfl rfl rfl rfl hg17 (Yv.bin rfl rfl BinR.eql_i) (by decide) ?_
  refine JR.ugt (g := 21) rfl rfl rfl rfl rfl hg17 (Yv.move rfl) (by decide) ?_
  refine JR.gsplit (g := 23) rfl (fun hg20 => ?_) (fun hg20 => ?_)
  ·have hg20' := hg20
   try simp only [decide_eq_true_eq, decide_eq_false_iff_not, Bool.not_eq_true', Bool.not_eq_false', ne_eq, Decidable.not_not, Bool.not_eq_true, Bool.and_eq_true, Bool.or_eq_true, BitVec.reduceToNat] at hg20'
   refine JR.ugt (g := 24) rfl rfl rfl rfl rfl hg20 (Yv.move rfl) (by decide) ?_
   refine JR.ugt (g := 24) rfl rfl rfl rfl rfl hg20 (Yv.move rfl) (by decide) ?_
   refine JR.ugt (g := 24) rfl rfl rfl rfl rfl hg20 (Yv.indexRd Tryz.underlying182 sz_187 rfl rfl zq8 (by decide) zq6) (by decide) ?_
   refine JR.ugt (g := 24) rfl rfl rfl rfl rfl hg20 (Yv.fieldAddr fa_187_0 rfl) (by decide) ?_
   refine JR.vgt (g := 24) rfl rfl rfl rfl rfl hg20 (Yv.load1 one_3 rfl (by exact Kn.rd zq8 (by exact lk_who (by omega)))) (by decide) ?_
   refine JR.ugt (g := 24) rfl rfl rfl rfl rfl hg20 (Yv.move rfl) (by decide) ?_
   refine JR.ugt (g := 24) rfl rfl rfl rfl rfl hg20 (Yv.move rfl) (by decide) ?_
   refine JR.ugt (g := 24) rfl rfl rfl rfl rfl hg20 (Yv.indexRd Tryz.underlying182 sz_187 rfl rfl zq8 (by decide) zq6) (by decide) ?_
   refine JR.ugt (g := 24) rfl rfl rfl rfl rfl hg20 (Yv.fieldAddr fa_187_0 rfl) (by decide) ?_
   refine JR.vgt (g := 24) rfl rfl rfl rfl rfl hg20 (Yv.load1 one_3 rfl (by exact Kn.rd zq8 (by exact lk_who (by omega)))) (by decide) ?_
   refine JR.ugt (g := 24) rfl rfl rfl rfl rfl hg20 (Yv.bin rfl rfl BinR.lss_i) (by decide) ?_
   refine JR.ugt (g := 21) rfl rfl rfl rfl rfl hg17 (Yv.pick1 rfl hg20 rfl) (by decide) ?_
   refine JR.u rfl rfl rfl (Yv.pick0 rfl hg17 rfl) (by decide) (JR.u rfl rfl rfl (Yv.as (v' := .bool (decide (key (xs.getD i lkD) < key (xs.getD j lkD)))) (Yv.assign rfl) (by exact congrArg Value.bool (decide_eq_decide.2 (key_eq hg20')))) (by decide) ?_)
   refine JR.nil ?_
   refine JQ.then_normal ?_
   refine JC.ret ?_
   exact JQ.done (.inr rfl) (Γ' := []) (H' := []) (res1 rfl (RV.tmp rfl)) (Subs.sub zq0) (Picks.perm zq1) ⟨rfl, rfl, rfl⟩
  ·have hg20' := hg20
   try simp only [decide_eq_true_eq, decide_eq_false_iff_not, Bool.not_eq_true', Bool.not_eq_false', ne_eq, Decidable.not_not, Bool.not_eq_true, Bool.and_eq_true, Bool.or_eq_true, BitVec.reduceToNat] at hg20'
   refine JR.gf (g := 24) rfl rfl rfl rfl hg20 (by decide) ?_
   refine JR.gf (g := 24) rfl rfl rfl rfl hg20 (by decide) ?_
   refine JR.gf (g := 24) rfl rfl rfl rfl hg20 (by decide) ?_
   refine JR.gf (g := 24) rfl rfl rfl rfl hg20 (by decide) ?_
   refine JR.gf (g := 24) rfl rfl rfl rfl hg20 (by decide) ?_
   refine JR.gf (g := 24) rfl rfl rfl rfl hg20 (by decide) ?_
   refine JR.gf (g := 24) rfl rfl rfl rfl hg20 (by decide) ?_
   refine JR.gf (g := 24) rfl rfl rfl rfl hg20 (by decide) ?_
   refine JR.gf (g := 24) rfl rfl rfl rfl hg20 (by decide) ?_
   refine JR.gf (g := 24) rfl rfl rfl rfl hg20 (by decide) ?_
   refine JR.gf (g := 24) rfl rfl rfl rfl hg20 (by decide) ?_
   refine JR.ugt (g := 21) rfl rfl rfl rfl rfl hg17 (Yv.pick0 rfl hg20 rfl) (by decide) ?_
   refine JR.u rfl rfl rfl (Yv.pick0 rfl hg17 rfl) (by decide) (JR.u rfl rfl rfl (Yv.as (v' := .bool (decide (key (xs.getD i lkD) < key (xs.getD j lkD)))) (Yv.assign rfl) (by exact congrArg Value.bool (decide_eq_false (key_no hg17' hg20')).symm)) (by decide) ?_)
   refine JR.nil ?_
   refine JQ.then_normal ?_
   refine JC.ret ?_
   exact JQ.done (.inr rfl) (Γ' := []) (H' := []) (res1 rfl (RV.tmp rfl)) (Subs.sub zq0) (Picks.perm zq1) ⟨rfl, rfl, rfl⟩


theorem f265_spec (v : Value) (xs : List Lk) (i j : Nat) (hi : i < xs.length) (hj : j < xs.length) :
  Spec Tryz.prog 265 #[v, (it (i : Int)), (it (j : Int))] [] [Res.row v xs.length 187 5 (lkC xs)]
   (fun r Γ' H' => Γ' = [] ∧ H' = [Res.row v (swp lkD xs i j).length 187 5 (lkC (swp lkD xs i j))]) := by
 refine Spec.of_args Tryz.func265 rfl Tryz.ntmps265 (by simp) fun w => ?_
 refine JC.know (φ := ∃ g c, v = .slice (some ⟨g, 0, none⟩) xs.length c) (fun w hs => hs.rowForm (.head _) (by omega)) fun ⟨g, c, hv⟩ => ?_
 subst hv
 refine JC.draw (.one 0 (.one 1 (.one 2 (.one 3 (.one 4 (.one 5 (.one 6 (.one 7 (.one 8 (.one 9 (.one 10 (.one 11 (.one 12 (.one 13 (.one 14 (.one 15 .nil)))))))))))))))) (fun i => ([13, 15] : List Nat).contains i) (fun i => ([13, 15] : List Nat).contains i) (fun i => ([0, 1, 2, 3, 4, 5, 6, 8, 9, 10, 12, 14] : List Nat).contains i) mixed (by kernel_rfl) (by decide) (by kernel_rfl) ?_
 refine JR.u rfl rfl rfl (Yv.move rfl) (by decide) (JR.u rfl rfl rfl (Yv.move rfl) (by decide) (JR.u rfl rfl rfl (Yv.move rfl) (by decide) (JR.u rfl rfl rfl (Yv.move rfl) (by decide) (JR.u rfl rfl rfl (Yv.move rfl) (by decide) (JR.u rfl rfl rfl (Yv.move rfl) (by decide) (JR.u rfl rfl rfl (Yv.indexSl0 Tryz.underlying182 sz_187 rfl rfl zq6) (by decide) ?_))))))
 refine JR.v rfl rfl rfl (Yv.as (v' := .agg (xs.getD j lkD).cells.toArray) (Yv.loadRow agg_187 zq7 rfl zq18) (congrArg (fun l : List Value => Value.agg l.toArray) (lk_piece hj))) (by decide) (JR.u rfl rfl rfl (Yv.move rfl) (by decide) (JR.u rfl rfl rfl (Yv.move rfl) (by decide) (JR.u rfl rfl rfl (Yv.indexSl0 Tryz.underlying182 sz_187 rfl rfl zq6) (by decide) (JR.v rfl rfl rfl (Yv.as (v' := .agg (xs.getD i lkD).cells.toArray) (Yv.loadRow agg_187 zq7 rfl zq18) (congrArg (fun l : List Value => Value.agg l.toArray) (lk_piece hi))) (by decide) (JR.u rfl rfl rfl (Yv.indexSl0 Tryz.underlying182 sz_187 rfl rfl zq6) (by decide) ?_)))))
 refine JR.m0 rfl rfl (Mv.storeRow (v := .slice (some ⟨g, 0, none⟩) xs.length c) (o := i * 5) sz_187 rfl rfl rfl rfl (lk_one1 _) zq11 (by omega) (by omega)) ?_
 rintro _ _ _ ⟨rfl, rfl⟩
 refine ⟨⟨Subs.sub zq0, .inl rfl⟩, ?_⟩
 refine JR.u rfl rfl rfl (Yv.indexSl0 Tryz.underlying182 sz_187 rfl rfl zq6) (by decide) ?_
 refine JR.m0 rfl rfl (Mv.storeRow (v := .slice (some ⟨g, 0, none⟩) xs.length c) (o := j * 5) sz_187 rfl rfl rfl rfl (lk_one1 _) zq11 (by omega) (by omega)) ?_
 rintro _ _ _ ⟨rfl, rfl⟩
 refine ⟨⟨Subs.sub zq0, .inl rfl⟩, ?_⟩
 refine JR.nil ?_
 exact JQ.done (.inl rfl) (Γ' := []) (H' := [Res.row _ _ 187 5 _]) (res_none rfl) (Subs.sub zq0) (Picks.perm zq1) ⟨rfl, by rw [lk_splice hi, lk_splice (by simpa using hj), swp_len]; rfl⟩


theorem f266_spec (q : Nat) (v : Value) (ys : List Lk) (x : Lk) (hl : ys.length ≤ 1000000) :
  Spec Tryz.prog 266 #[(ptr q 0)] [] [Res.cells q [v] 182, Res.row v (ys ++ [x]).length 187 5 (lkC (ys ++ [x]))]
   (fun r Γ' H' => ∃ v', r = .iface 187 (.agg (x).cells.toArray) ∧ Γ' = [] ∧ H' = [Res.cells q [v'] 182, Res.row v' ys.length 187 5 (lkC ys)]) := by
 refine Spec.of_args Tryz.func266 rfl Tryz.ntmps266 (by simp) fun w => ?_
 refine JC.seq (JC.region (JO.v (Yv.assign rfl) (by decide) (JO.nil (JQ.then_normal (JC.seq (JC.region ?_))))))
 refine JO.v (Yv.move rfl) (by decide) (JO.v (Yv.nilCheck rfl) (by decide) (JO.v (Yv.load1 one_182 rfl (by exact Kn.own zq7 zq21)) (by decide) (JO.v (Yv.lenRd Tryz.underlying182 rfl zq8) (by decide) (JO.v (Yv.as (v' := it (ys.length : Int)) (Yv.bin rfl rfl (BinR.sub_i zq3)) (congrArg it (by simp))) (by decide) (JO.v (Yv.assign rfl) (by decide) (JO.nil ?_))))))
 refine JQ.then_normal (JC.seq (JC.region (JO.v (Yv.move rfl) (by decide) (JO.v (Yv.nilCheck rfl) (by decide) (JO.v (Yv.load1 one_182 rfl (by exact Kn.own zq7 zq21)) (by decide) (JO.v (Yv.move rfl) (by decide) ?_))))))
 refine JO.v (Yv.indexRow Tryz.underlying182 sz_187 rfl rfl zq7 zq6) (by decide) (JO.v (Yv.as (v' := .agg (x).cells.toArray) (Yv.loadRow agg_187 zq7 rfl zq18) (congrArg (fun l : List Value => Value.agg l.toArray) (by rw [lk_piece (by simp)]; simp))) (by decide) ?_)
 refine JO.alloc _ zero_187 rfl (by decide) fun b4 => ?_
 refine JO.storeAll sz_187 rfl rfl rfl rfl (lk_one1 x) zq11 rfl ?_
 refine JO.nil (JQ.then_normal (JC.seq (JC.region (JO.v (Yv.move rfl) (by decide) (JO.v (Yv.move rfl) (by decide) (JO.v (Yv.nilCheck rfl) (by decide) ?_))))))
 refine JO.v (Yv.load1 one_182 rfl (by exact Kn.own zq7 zq21)) (by decide) (JO.v (Yv.move rfl) (by decide) ?_)
 refine JO.cutRow ys.length Tryz.underlying182 sz_187 rfl zq12 rfl (by first | (simp; done) | omega | (simp; omega)) (by decide) fun v21 => ?_
 rw [show (lkC (ys ++ [x])).take (ys.length * 5) = lkC ys from by rw [lkC_append, List.take_left' (by simp)]]
 refine JO.v (Yv.nilCheck rfl) (by decide) ?_
 refine JO.store1s sz_182 rfl rfl zq8 zq11 zq6 ?_
 refine JO.nil (JQ.then_normal (JC.seq (JC.region (JO.v (Yv.loadOwn agg_187 zq7 rfl zq18) (by decide) (JO.v (Yv.iface Tryz.underlying187 (fun _ h => by cases h) rfl) (by decide) (JO.v (Yv.assign rfl) (by decide) ?_))))))
 refine JO.nil (JQ.then_normal ?_)
 refine JC.ret ?_
 exact JQ.done (.inr rfl) (Γ' := []) (H' := [Res.cells q [_] 182, Res.row _ ys.length 187 5 (lkC ys)]) (res1 rfl (RV.tmp rfl)) (Subs.sub zq0) (Picks.perm zq1) ⟨_, rfl, rfl, rfl⟩


theorem f267_spec (q : Nat) (v : Value) (xs : List Lk) (x : Lk) (hl : xs.length ≤ 1000000) :
  Spec Tryz.prog 267 #[(ptr q 0), (.iface 187 (.agg (x).cells.toArray))] [] [Res.cells q [v] 182, Res.row v xs.length 187 5 (lkC xs)]
   (fun r Γ' H' => ∃ v', Γ' = [] ∧ H' = [Res.cells q [v'] 182, Res.row v' (xs ++ [x]).length 187 5 (lkC (xs ++ [x]))]) := by
 refine Spec.of_args Tryz.func267 rfl Tryz.ntmps267 (by simp) fun w => ?_
 refine JC.draw (.one 0 (.one 1 (.one 2 (.one 3 (.one 4 (.one 5 (.one 6 (.one 7 (.one 8 (.one 9 .nil)))))))))) (fun i => ([7, 9] : List Nat).contains i) (fun i => ([6, 7, 9] : List Nat).contains i) (fun i => ([0, 1, 2, 4, 5, 8] : List Nat).contains i) mixed (by kernel_rfl) (by decide) (by kernel_rfl) ?_
 refine JR.u rfl rfl rfl (Yv.move rfl) (by decide) (JR.u rfl rfl rfl (Yv.move rfl) (by decide) (JR.u rfl rfl rfl (Yv.nilCheck rfl) (by decide) (JR.v rfl rfl rfl (Yv.load1 one_182 rfl (by exact Kn.own zq7 zq21)) (by decide) (JR.u rfl rfl rfl (Yv.move rfl) (by decide) (JR.u rfl rfl rfl (Yv.assert Tryz.underlying187 (fun _ h => by cases h) rfl) (by decide) ?_)))))
 refine JR.m rfl rfl (Mv.lit Tryz.underlying182 info_187 rfl rfl (by intro v hv; simp at hv; subst hv; rfl) (by decide) (by decide) (by unfold maxLen; omega)) (by decide) ?_
 rintro v10 _ _ ⟨rfl, rfl⟩
 refine ⟨⟨Subs.sub zq0, .inr (St.keep zq0 zq1)⟩, ?_⟩
 refine JR.m rfl rfl (Mv.append Tryz.underlying182 info_187 rfl (by decide) rfl rfl zq12 (by exact Src.rd zq8 (by decide)) (by first | exact lk_one1 _ | (intro a ha; simp at ha; exact lk_one1 _ a ha)) (by unfold maxLen; omega) (by omega)) (by decide) ?_
 rintro v11 _ _ ⟨rfl, rfl⟩
 refine ⟨⟨Subs.sub zq0, .inl rfl⟩, ?_⟩
 refine JR.u rfl rfl rfl (Yv.nilCheck rfl) (by decide) ?_
 refine JR.m0 rfl rfl (Mv.store1s sz_182 rfl rfl zq8 zq11 zq6) ?_
 rintro _ _ _ ⟨rfl, rfl⟩
 refine ⟨⟨Subs.sub zq0, .inl rfl⟩, ?_⟩
 refine JR.nil ?_
 exact JQ.done (.inl rfl) (Γ' := []) (H' := [Res.cells q [_] 182, Res.row _ _ 187 5 _]) (res_none rfl) (Subs.sub zq0) (Picks.perm zq1) ⟨v11, rfl, by rw [lkC_append, lkC_one, List.length_append]; rfl⟩


theorem f166_spec (q : Nat) (v : Value) (xs : List Lk) (j : Nat) (hj : j < xs.length) (hI : upInv (K xs) xs.length j) (hll : xs.length ≤ 1000001) :
  Spec Tryz.prog 166 #[(.iface 185 (ptr q 0)), (it (j : Int))] [] [Res.cells q [v] 182, Res.row v xs.length 187 5 (lkC xs)]
   (fun r Γ' H' => ∃ ys, ys.Perm xs ∧ heapTo (K ys) ys.length ∧ Γ' = [] ∧ H' = [Res.cells q [v] 182, Res.row v ys.length 187 5 (lkC ys)]) := by
 refine Spec.of_args Tryz.func166 rfl Tryz.ntmps166 (by simp) fun w => ?_
 refine JC.block ?_
 refine JC.loop (ι := List Lk × Nat) (fun x => x.1.Perm xs ∧ x.2 < x.1.length ∧ upInv (K x.1) x.1.length x.2) (fun x => [(0, (.iface 185 (ptr q 0))), (1, it (x.2 : Int))]) (fun x => []) (fun x => [Res.cells q [v] 182, Res.row v x.1.length 187 5 (lkC x.1)]) (fun x => x.2) (xs, j) zq9 (Subs.sub zq0) (Picks.perm zq1) ?_ (fun x hx => ?_)
 ·exact ⟨.refl _, hj, hI⟩
 obtain ⟨ys, j⟩ := x
 obtain ⟨hp, hj, hI⟩ := hx
 dsimp only at hp hj hI ⊢
 have hlen := hp.length_eq
 refine JC.block (JC.seq (JC.region (JO.v (Yv.move rfl) (by decide) (JO.v (Yv.bin rfl rfl (BinR.sub_i zq3)) (by decide) (JO.v (Yv.as (v' := it (((j - 1) / 2 : Nat) : Int)) (Yv.bin rfl rfl (BinR.quo_it (by decide) (by rw [par_div]; constructor <;> omega))) (congrArg it (par_div j))) (by decide) (JO.v (Yv.assign rfl) (by decide) ?_))))))
 refine JO.nil (JQ.then_normal (JC.seq (JC.seq (JC.region (JO.v (Yv.move rfl) (by decide) (JO.v (Yv.move rfl) (by decide) ?_))))))
 refine JO.v (Yv.as (v' := .bool (decide (j = 0))) (Yv.bin rfl rfl BinR.eql_i) (congrArg Value.bool (decide_eq_decide.2 (by omega)))) (by decide) (JO.v (Yv.move rfl) (by decide) ?_)
 refine JO.join 6 17 (.bool (decide (j = 0 ∨ K ys ((j - 1) / 2) ≤ K ys j))) ?_ ?_
 ·skip
  refine JO.gsplit (g := 10) rfl (fun hg9 => ?_) (fun hg9 => ?_)
  ·have hg9' := hg9
   try simp only [decide_eq_true_eq, decide_eq_false_iff_not, Bool.not_eq_true', Bool.not_eq_false', ne_eq, Decidable.not_not, Bool.not_eq_true, Bool.and_eq_true, Bool.or_eq_true, BitVec.reduceToNat] at hg9'
   refine JO.gf (g := 11) rfl rfl hg9 (by decide) ?_
   refine JO.gf (g := 11) rfl rfl hg9 (by decide) ?_
   refine JO.gf (g := 11) rfl rfl hg9 (by decide) ?_
   refine JO.gf (g := 11) rfl rfl hg9 (by decide) ?_
   refine JO.gf (g := 11) rfl rfl hg9 (by decide) ?_
   refine JO.v (Yv.pick1 rfl hg9 rfl) (by decide) (JO.nil ?_)
   refine JQ.head () zq15 (Subs.sub zq0) (Picks.perm zq1) ?_
   trivial
  ·have hg9' := hg9
   try simp only [decide_eq_true_eq, decide_eq_false_iff_not, Bool.not_eq_true', Bool.not_eq_false', ne_eq, Decidable.not_not, Bool.not_eq_true, Bool.and_eq_true, Bool.or_eq_true, BitVec.reduceToNat] at hg9'
   refine JO.gt (g := 11) rfl rfl hg9 ?_
   refine JO.v (Yv.move rfl) (by decide) ?_
   refine JO.gt (g := 11) rfl rfl hg9 ?_
   refine JO.v (Yv.move rfl) (by decide) ?_
   refine JO.gt (g := 11) rfl rfl hg9 ?_
   refine JO.v (Yv.move rfl) (by decide) ?_
   refine JO.gt (g := 11) rfl rfl hg9 ?_
   refine JO.callI (f264_spec v ys j ((j - 1) / 2) hj (by omega)) (Mth.val row_185_Less Tryz.underlying185 one_182 (Kn.own zq7 rfl)) body_264 rfl rfl zq1 zq4 zq14 (by decide) ?_
   rintro _ _ ⟨_, ⟨rfl, _, rfl⟩, hH⟩
   simp only [List.cons_append, List.nil_append] at hH; subst hH
   refine JO.gt (g := 11) rfl rfl hg9 ?_
   refine JO.v (Yv.as (v' := .bool (decide (K ys ((j - 1) / 2) ≤ K ys j))) (Yv.not rfl) (congrArg Value.bool (by rw [← decide_not]; exact decide_eq_decide.2 Nat.not_lt))) (by decide) (JO.v (Yv.pick0 rfl hg9 rfl) (by decide) (JO.nil ?_))
   refine JQ.head () zq15 (Subs.sub zq0) (Picks.perm zq1) ?_
   trivial
 ·skip
  refine JO.nil (JQ.then_normal (JC.cond rfl (fun hc1 => ?_) (fun hc1 => ?_)))
  ·try simp only [decide_eq_true_eq, decide_eq_false_iff_not, Bool.not_eq_true', Bool.not_eq_false', ne_eq, Decidable.not_not, Bool.not_eq_true, Bool.and_eq_true, Bool.or_eq_true, BitVec.reduceToNat] at hc1
   skip
   refine JC.exit ?_
   refine JQ.then_exit ?_
   refine JQ.block_other (by decide) ?_
   refine JQ.then_exit ?_
   refine JQ.block_exit ?_
   exact JQ.done (.inl rfl) (Γ' := []) (H' := [Res.cells q [v] 182, Res.row v _ 187 5 _]) (res_none rfl) (Subs.sub zq0) (Picks.perm zq1) ⟨_, hp, up_done hI hc1, rfl, rfl⟩
  ·try simp only [decide_eq_true_eq, decide_eq_false_iff_not, Bool.not_eq_true', Bool.not_eq_false', ne_eq, Decidable.not_not, Bool.not_eq_true, Bool.and_eq_true, Bool.or_eq_true, BitVec.reduceToNat] at hc1
   have hj0 : 0 < j := by omega
   have hi2 : (j - 1) / 2 < ys.length := by omega
   have hlt : K ys j < K ys ((j - 1) / 2) := by omega
   refine JC.skip (JQ.then_normal (JC.seq (JC.region (JO.v (Yv.move rfl) (by decide) (JO.v (Yv.move rfl) (by decide) (JO.v (Yv.move rfl) (by decide) ?_))))))
   refine JO.callI (f265_spec v ys ((j - 1) / 2) j (by omega) hj) (Mth.val row_185_Swap Tryz.underlying185 one_182 (Kn.own zq7 rfl)) body_265 rfl rfl zq1 zq4 (by rintro _ _ _ ⟨h, _⟩; exact h) (by decide) ?_
   rintro _ _ ⟨_, ⟨_, rfl⟩, hH⟩
   simp only [List.cons_append, List.nil_append] at hH; subst hH
   refine JO.nil (JQ.then_normal (JC.region (JO.v (Yv.move rfl) (by decide) (JO.v (Yv.assign rfl) (by decide) (JO.nil ?_)))))
   refine JQ.block_normal ?_
   refine JQ.head (swp lkD ys ((j - 1) / 2) j, (j - 1) / 2) zq9 (Subs.sub zq0) (Picks.perm zq1) ?_
   refine ⟨⟨(swp_perm hi2 hj).trans hp, by dsimp only; rw [swp_len]; omega, ?_⟩, by dsimp only; omega⟩
   dsimp only
   rw [swp_len, swp_K hi2 hj]
   exact up_step hI hj hj0 rfl hlt


theorem f167_spec (q : Nat) (v : Value) (xs : List Lk) (n : Nat) (hn : n ≤ xs.length) (hI : dnInv (K xs) n 0) (hll : xs.length ≤ 1000001) :
  Spec Tryz.prog 167 #[(.iface 185 (ptr q 0)), (it 0), (it (n : Int))] [] [Res.cells q [v] 182, Res.row v xs.length 187 5 (lkC xs)]
   (fun r Γ' H' => ∃ ys, ys.Perm xs ∧ (∀ k, n ≤ k → ys.getD k lkD = xs.getD k lkD) ∧ heapTo (K ys) n ∧ Γ' = [] ∧ H' = [Res.cells q [v] 182, Res.row v ys.length 187 5 (lkC ys)]) := by
 refine Spec.of_args Tryz.func167 rfl Tryz.ntmps167 (by simp) fun w => ?_
 refine JC.seq (JC.region (JO.v (Yv.assign rfl) (by decide) (JO.nil (JQ.then_normal (JC.seq (JC.region ?_))))))
 refine JO.v (Yv.move rfl) (by decide) (JO.v (Yv.as (v' := it ((0 : Nat) : Int)) (Yv.assign rfl) rfl) (by decide) (JO.nil (JQ.then_normal (JC.seq (JC.block ?_)))))
 refine JC.loop (ι := List Lk × Nat) (fun x => x.1.Perm xs ∧ (∀ k, n ≤ k → x.1.getD k lkD = xs.getD k lkD) ∧ dnInv (K x.1) n x.2 ∧ (x.2 < n ∨ x.2 = 0)) (fun x => [(0, (.iface 185 (ptr q 0))), (1, it 0), (2, it (n : Int)), (7, it (x.2 : Int))]) (fun x => []) (fun x => [Res.cells q [v] 182, Res.row v x.1.length 187 5 (lkC x.1)]) (fun x => n - x.2) (xs, 0) zq9 (Subs.sub zq0) (Picks.perm zq1) ?_ (fun x hx => ?_)
 ·exact ⟨.refl _, fun _ _ => rfl, hI, .inr rfl⟩
 obtain ⟨ys, i⟩ := x
 obtain ⟨hp, hk, hI, hi⟩ := hx
 dsimp only at hp hk hI hi ⊢
 have hlen := hp.length_eq
 refine JC.block (JC.seq (JC.region (JO.v (Yv.move rfl) (by decide) (JO.v (Yv.as (v' := it ((2 * i : Nat) : Int)) (Yv.bin rfl rfl (BinR.mul_i zq3)) (congrArg it (by omega))) (by decide) (JO.v (Yv.as (v' := it ((2 * i + 1 : Nat) : Int)) (Yv.bin rfl rfl (BinR.add_i zq3)) (congrArg it (by omega))) (by decide) (JO.v (Yv.assign rfl) (by decide) ?_))))))
 refine JO.nil (JQ.then_normal (JC.seq (JC.seq (JC.region (JO.v (Yv.move rfl) (by decide) (JO.v (Yv.move rfl) (by decide) ?_))))))
 refine JO.v (Yv.as (v' := .bool (decide (n ≤ 2 * i + 1))) (Yv.bin rfl rfl BinR.geq_i) (congrArg Value.bool (decide_eq_decide.2 (by omega)))) (by decide) (JO.v (Yv.move rfl) (by decide) ?_)
 refine JO.join 3 21 (.bool (decide (n ≤ 2 * i + 1))) ?_ ?_
 ·skip
  refine JO.gsplit (g := 17) rfl (fun hg12 => ?_) (fun hg12 => ?_)
  ·have hg12' := hg12
   try simp only [decide_eq_true_eq, decide_eq_false_iff_not, Bool.not_eq_true', Bool.not_eq_false', ne_eq, Decidable.not_not, Bool.not_eq_true, Bool.and_eq_true, Bool.or_eq_true, BitVec.reduceToNat] at hg12'
   refine JO.gf (g := 18) rfl rfl hg12 (by decide) ?_
   refine JO.gf (g := 18) rfl rfl hg12 (by decide) ?_
   refine JO.v (Yv.pick1 rfl hg12 rfl) (by decide) (JO.nil ?_)
   refine JQ.head () zq15 (Subs.sub zq0) (Picks.perm zq1) ?_
   trivial
  ·have hg12' := hg12
   try simp only [decide_eq_true_eq, decide_eq_false_iff_not, Bool.not_eq_true', Bool.not_eq_false', ne_eq, Decidable.not_not, Bool.not_eq_true, Bool.and_eq_true, Bool.or_eq_true, BitVec.reduceToNat] at hg12'
   refine JO.gt (g := 18) rfl rfl hg12 ?_
   refine JO.v (Yv.move rfl) (by decide) ?_
   refine JO.gt (g := 18) rfl rfl hg12 ?_
   refine JO.v (Yv.as (v' := .bool false) (Yv.bin rfl rfl BinR.lss_i) (congrArg Value.bool (decide_eq_false (by omega)))) (by decide) (JO.v (Yv.pick0 rfl hg12 rfl) (by decide) (JO.nil ?_))
   refine JQ.head () zq15 (Subs.sub zq0) (Picks.perm zq1) ?_
   trivial
 ·skip
  refine JO.nil (JQ.then_normal (JC.cond rfl (fun hc1 => ?_) (fun hc1 => ?_)))
  ·try simp only [decide_eq_true_eq, decide_eq_false_iff_not, Bool.not_eq_true', Bool.not_eq_false', ne_eq, Decidable.not_not, Bool.not_eq_true, Bool.and_eq_true, Bool.or_eq_true, BitVec.reduceToNat] at hc1
   have hdone : heapTo (K ys) n := dn_done hI fun k k0 kn kp => by omega
   refine JC.exit ?_
   refine JQ.then_exit ?_
   refine JQ.block_other (by decide) ?_
   refine JQ.then_exit ?_
   refine JQ.block_exit ?_
   refine JQ.then_normal (JC.seq (JC.region (JO.v (Yv.move rfl) (by decide) (JO.v (Yv.move rfl) (by decide) (JO.v (Yv.bin rfl rfl BinR.gtr_i) (by decide) (JO.v (Yv.assign rfl) (by decide) ?_))))))
   refine JO.nil (JQ.then_normal ?_)
   refine JC.ret ?_
   exact JQ.done (.inr rfl) (Γ' := []) (H' := [Res.cells q [v] 182, Res.row v _ 187 5 _]) (res1 rfl (RV.tmp rfl)) (Subs.sub zq0) (Picks.perm zq1) ⟨_, hp, hk, hdone, rfl, rfl⟩
  ·try simp only [decide_eq_true_eq, decide_eq_false_iff_not, Bool.not_eq_true', Bool.not_eq_false', ne_eq, Decidable.not_not, Bool.not_eq_true, Bool.and_eq_true, Bool.or_eq_true, BitVec.reduceToNat] at hc1
   skip
   refine JC.skip (JQ.then_normal (JC.seq (JC.region (JO.v (Yv.move rfl) (by decide) (JO.v (Yv.assign rfl) (by decide) (JO.nil ?_))))))
   refine JQ.then_normal ?_
   refine JC.cut (ι := Nat) (fun x => x < n ∧ 0 < x ∧ i = (x - 1) / 2 ∧ ∀ k, 0 < k → k < n → (k - 1) / 2 = i → K ys x ≤ K ys k) (fun x => [(0, (.iface 185 (ptr q 0))), (1, it 0), (2, it (n : Int)), (7, it (i : Int)), (9, it (x : Int))]) (fun x => []) (fun x => [Res.cells q [v] 182, Res.row v ys.length 187 5 (lkC ys)]) ?_ (fun x hx => ?_)
   ·skip
    refine JC.seq (JC.region (JO.v (Yv.move rfl) (by decide) (JO.v (Yv.as (v' := it ((2 * i + 2 : Nat) : Int)) (Yv.bin rfl rfl (BinR.add_i zq3)) (congrArg it (by omega))) (by decide) (JO.v (Yv.assign rfl) (by decide) (JO.nil (JQ.then_normal ?_))))))
    refine JC.seq (JC.region (JO.v (Yv.move rfl) (by decide) (JO.v (Yv.move rfl) (by decide) (JO.v (Yv.as (v' := .bool (decide (2 * i + 2 < n))) (Yv.bin rfl rfl BinR.lss_i) (congrArg Value.bool (decide_eq_decide.2 (by omega)))) (by decide) (JO.v (Yv.move rfl) (by decide) ?_)))))
    refine JO.join 5 33 (.bool (decide (2 * i + 2 < n ∧ K ys (2 * i + 2) < K ys (2 * i + 1)))) ?_ ?_
    ·skip
     refine JO.gsplit (g := 27) rfl (fun hg24 => ?_) (fun hg24 => ?_)
     ·have hg24' := hg24
      try simp only [decide_eq_true_eq, decide_eq_false_iff_not, Bool.not_eq_true', Bool.not_eq_false', ne_eq, Decidable.not_not, Bool.not_eq_true, Bool.and_eq_true, Bool.or_eq_true, BitVec.reduceToNat] at hg24'
      refine JO.gt (g := 28) rfl rfl hg24 ?_
      refine JO.v (Yv.move rfl) (by decide) ?_
      refine JO.gt (g := 28) rfl rfl hg24 ?_
      refine JO.v (Yv.move rfl) (by decide) ?_
      refine JO.gt (g := 28) rfl rfl hg24 ?_
      refine JO.v (Yv.move rfl) (by decide) ?_
      refine JO.gt (g := 28) rfl rfl hg24 ?_
      refine JO.callI (f264_spec v ys (2 * i + 2) (2 * i + 1) (by omega) (by omega)) (Mth.val row_185_Less Tryz.underlying185 one_182 (Kn.own zq7 rfl)) body_264 rfl rfl zq1 zq4 zq14 (by decide) ?_
      rintro _ _ ⟨_, ⟨rfl, _, rfl⟩, hH⟩
      simp only [List.cons_append, List.nil_append] at hH; subst hH
      refine JO.v (Yv.pick1 rfl hg24 rfl) (by decide) (JO.nil ?_)
      refine JQ.head () (by first | (refine ⟨by first | rfl | (show some _ = some _; exact congrArg (fun b => some (Value.bool b)) (by first | (simp [K, hg24']; done) | (simp [hg24']; omega))), ?_⟩; repeat (first | exact trivial | refine ⟨rfl, ?_⟩))) (Subs.sub zq0) (Picks.perm zq1) ?_
      trivial
     ·have hg24' := hg24
      try simp only [decide_eq_true_eq, decide_eq_false_iff_not, Bool.not_eq_true', Bool.not_eq_false', ne_eq, Decidable.not_not, Bool.not_eq_true, Bool.and_eq_true, Bool.or_eq_true, BitVec.reduceToNat] at hg24'
      refine JO.gf (g := 28) rfl rfl hg24 (by decide) ?_
      refine JO.gf (g := 28) rfl rfl hg24 (by decide) ?_
      refine JO.gf (g := 28) rfl rfl hg24 (by decide) ?_
      refine JO.gf (g := 28) rfl rfl hg24 (by decide) ?_
      refine JO.v (Yv.pick0 rfl hg24 rfl) (by decide) (JO.nil ?_)
      refine JQ.head () (by first | (refine ⟨by first | rfl | (show some _ = some _; exact congrArg (fun b => some (Value.bool b)) (by first | (simp [K, hg24']; done) | (simp [hg24']; omega))), ?_⟩; repeat (first | exact trivial | refine ⟨rfl, ?_⟩))) (Subs.sub zq0) (Picks.perm zq1) ?_
      trivial
    ·skip
     refine JO.nil (JQ.then_normal (JC.cond rfl (fun hc2 => ?_) (fun hc2 => ?_)))
     ·try simp only [decide_eq_true_eq, decide_eq_false_iff_not, Bool.not_eq_true', Bool.not_eq_false', ne_eq, Decidable.not_not, Bool.not_eq_true, Bool.and_eq_true, Bool.or_eq_true, BitVec.reduceToNat] at hc2
      generalize hjx : 2 * i + 2 = jx at *
      refine JC.region (JO.v (Yv.move rfl) (by decide) (JO.v (Yv.assign rfl) (by decide) (JO.nil ?_)))
      refine JQ.head jx zq9 (Subs.sub zq0) (Picks.perm zq1) ?_
      refine ⟨by omega, by omega, by omega, fun k k0 kn kp => ?_⟩
      obtain rfl | rfl : k = 2 * i + 1 ∨ k = 2 * i + 2 := by omega
      all_goals first | omega | (rw [hjx]; omega) | (rw [hjx]; exact Nat.le_refl _)
     ·try simp only [decide_eq_true_eq, decide_eq_false_iff_not, Bool.not_eq_true', Bool.not_eq_false', ne_eq, Decidable.not_not, Bool.not_eq_true, Bool.and_eq_true, Bool.or_eq_true, BitVec.reduceToNat] at hc2
      generalize hjx : 2 * i + 1 = jx at *
      refine JC.skip ?_
      refine JQ.head jx zq9 (Subs.sub zq0) (Picks.perm zq1) ?_
      refine ⟨by omega, by omega, by omega, fun k k0 kn kp => ?_⟩
      obtain rfl | rfl : k = 2 * i + 1 ∨ k = 2 * i + 2 := by omega
      all_goals first | omega | (rw [hjx]; omega) | (rw [hjx]; exact Nat.le_refl _)
   ·skip
    revert hx
    generalize x = j
    rintro ⟨hjn, hj0, hij, hmin⟩
    refine JC.seq (JC.seq (JC.region (JO.v (Yv.move rfl) (by decide) (JO.v (Yv.move rfl) (by decide) (JO.v (Yv.move rfl) (by decide) ?_)))))
    refine JO.callI (f264_spec v ys j i (by omega) (by omega)) (Mth.val row_185_Less Tryz.underlying185 one_182 (Kn.own zq7 rfl)) body_264 rfl rfl zq1 zq4 zq14 (by decide) ?_
    rintro _ _ ⟨_, ⟨rfl, _, rfl⟩, hH⟩
    simp only [List.cons_append, List.nil_append] at hH; subst hH
    refine JO.v (Yv.as (v' := .bool (decide (K ys i ≤ K ys j))) (Yv.not rfl) (congrArg Value.bool (by rw [← decide_not]; exact decide_eq_decide.2 Nat.not_lt))) (by decide) (JO.nil (JQ.then_normal (JC.cond rfl (fun hc3 => ?_) (fun hc3 => ?_))))
    ·try simp only [decide_eq_true_eq, decide_eq_false_iff_not, Bool.not_eq_true', Bool.not_eq_false', ne_eq, Decidable.not_not, Bool.not_eq_true, Bool.and_eq_true, Bool.or_eq_true, BitVec.reduceToNat] at hc3
     have hdone : heapTo (K ys) n := dn_done hI fun k k0 kn kp => Nat.le_trans hc3 (hmin k k0 kn kp)
     refine JC.exit ?_
     refine JQ.then_exit ?_
     refine JQ.block_other (by decide) ?_
     refine JQ.then_exit ?_
     refine JQ.block_exit ?_
     refine JQ.then_normal (JC.seq (JC.region (JO.v (Yv.move rfl) (by decide) (JO.v (Yv.move rfl) (by decide) (JO.v (Yv.bin rfl rfl BinR.gtr_i) (by decide) (JO.v (Yv.assign rfl) (by decide) ?_))))))
     refine JO.nil (JQ.then_normal ?_)
     refine JC.ret ?_
     exact JQ.done (.inr rfl) (Γ' := []) (H' := [Res.cells q [v] 182, Res.row v _ 187 5 _]) (res1 rfl (RV.tmp rfl)) (Subs.sub zq0) (Picks.perm zq1) ⟨_, hp, hk, hdone, rfl, rfl⟩
    ·try simp only [decide_eq_true_eq, decide_eq_false_iff_not, Bool.not_eq_true', Bool.not_eq_false', ne_eq, Decidable.not_not, Bool.not_eq_true, Bool.and_eq_true, Bool.or_eq_true, BitVec.reduceToNat] at hc3
     have hlt : K ys j < K ys i := by omega
     refine JC.skip (JQ.then_normal (JC.seq (JC.region (JO.v (Yv.move rfl) (by decide) (JO.v (Yv.move rfl) (by decide) (JO.v (Yv.move rfl) (by decide) ?_))))))
     refine JO.callI (f265_spec v ys i j (by omega) (by omega)) (Mth.val row_185_Swap Tryz.underlying185 one_182 (Kn.own zq7 rfl)) body_265 rfl rfl zq1 zq4 (by rintro _ _ _ ⟨h, _⟩; exact h) (by decide) ?_
     rintro _ _ ⟨_, ⟨_, rfl⟩, hH⟩
     simp only [List.cons_append, List.nil_append] at hH; subst hH
     refine JO.nil (JQ.then_normal (JC.region (JO.v (Yv.move rfl) (by decide) (JO.v (Yv.assign rfl) (by decide) (JO.nil ?_)))))
     refine JQ.block_normal ?_
     refine JQ.head (swp lkD ys i j, j) zq9 (Subs.sub zq0) (Picks.perm zq1) ?_
     refine ⟨⟨(swp_perm (by omega) (by omega)).trans hp, fun k hkn => ?_, ?_, .inl hjn⟩, by dsimp only; omega⟩
     ·dsimp only
      by_cases hkl : k < ys.length
      ·rw [swp_get (by omega) (by omega) hkl, if_neg (by omega), if_neg (by omega)]
       exact hk k hkn
      ·rw [← hk k hkn, List.getD_eq_getElem?_getD, List.getElem?_eq_none (by simp; omega), List.getD_eq_getElem?_getD, List.getElem?_eq_none (by omega)]
     ·dsimp only
      rw [swp_K (by omega) (by omega)]
      exact dn_step hI hjn hj0 hij hmin hlt


theorem f115_spec (q : Nat) (v : Value) (xs : List Lk) (x : Lk) (hh : heapTo (K xs) xs.length) (hl : xs.length ≤ 1000000) :
  Spec Tryz.prog 115 #[(.iface 185 (ptr q 0)), (.iface 187 (.agg (x).cells.toArray))] [] [Res.cells q [v] 182, Res.row v xs.length 187 5 (lkC xs)]
   (fun r Γ' H' => ∃ v' ys, ys.Perm (xs ++ [x]) ∧ heapTo (K ys) ys.length ∧ Γ' = [] ∧ H' = [Res.cells q [v'] 182, Res.row v' ys.length 187 5 (lkC ys)]) := by
 refine Spec.of_args Tryz.func115 rfl Tryz.ntmps115 (by simp) fun w => ?_
 refine JC.seq (JC.region (JO.v (Yv.move rfl) (by decide) (JO.v (Yv.move rfl) (by decide) ?_)))
 refine JO.callI (f267_spec q v xs x hl) (Mth.self row_185_Push Tryz.underlying185) body_267 rfl rfl zq1 zq4 zq14 (by decide) ?_
 rintro _ _ ⟨_, ⟨v2, _, rfl⟩, hH⟩
 simp only [List.cons_append, List.nil_append] at hH; subst hH
 refine JO.nil (JQ.then_normal (JC.region (JO.v (Yv.move rfl) (by decide) (JO.v (Yv.move rfl) (by decide) ?_))))
 refine JO.callI (f263_spec v2 (xs ++ [x]).length (lkC (xs ++ [x]))) (Mth.val row_185_Len Tryz.underlying185 one_182 (Kn.own zq7 rfl)) body_263 rfl rfl zq1 zq4 zq14 (by decide) ?_
 rintro _ _ ⟨_, ⟨rfl, _, rfl⟩, hH⟩
 simp only [List.cons_append, List.nil_append] at hH; subst hH
 refine JO.v (Yv.as (v' := it (xs.length : Int)) (Yv.bin rfl rfl (BinR.sub_i zq3)) (congrArg it (by simp))) (by decide) ?_
 refine JO.callB (f166_spec q v2 (xs ++ [x]) xs.length (by simp) (push_inv hh) (by simp; omega)) body_166 rfl zq1 zq4 (by rintro _ _ _ ⟨_, _, _, h, _⟩; exact h) (by decide) ?_
 rintro _ _ ⟨_, ⟨ys, hp, hys, _, rfl⟩, hH⟩
 simp only [List.cons_append, List.nil_append] at hH; subst hH
 refine JO.nil ?_
 exact JQ.done (.inl rfl) (Γ' := []) (H' := [Res.cells q [_] 182, Res.row _ _ 187 5 _]) (res_none rfl) (Subs.sub zq0) (Picks.perm zq1) ⟨_, ys, hp, hys, rfl, rfl⟩


theorem f116_spec (q : Nat) (v : Value) (xs : List Lk) (n : Nat) (hn : xs.length = n + 1) (hh : heapTo (K xs) xs.length) (hl : xs.length ≤ 1000000) :
  Spec Tryz.prog 116 #[(.iface 185 (ptr q 0))] [] [Res.cells q [v] 182, Res.row v xs.length 187 5 (lkC xs)]
   (fun r Γ' H' => ∃ v' ys x, (x :: ys).Perm xs ∧ heapTo (K ys) ys.length ∧ (∀ y ∈ ys, key x ≤ key y) ∧ r = .iface 187 (.agg (x).cells.toArray) ∧ Γ' = [] ∧ H' = [Res.cells q [v'] 182, Res.row v' ys.length 187 5 (lkC ys)]) := by
 refine Spec.of_args Tryz.func116 rfl Tryz.ntmps116 (by simp) fun w => ?_
 refine JC.seq (JC.region (JO.v (Yv.assign rfl) (by decide) (JO.nil (JQ.then_normal (JC.seq (JC.region ?_))))))
 refine JO.v (Yv.move rfl) (by decide) ?_
 refine JO.callI (f263_spec v xs.length (lkC xs)) (Mth.val row_185_Len Tryz.underlying185 one_182 (Kn.own zq7 rfl)) body_263 rfl rfl zq1 zq4 zq14 (by decide) ?_
 rintro _ _ ⟨_, ⟨rfl, _, rfl⟩, hH⟩
 simp only [List.cons_append, List.nil_append] at hH; subst hH
 refine JO.v (Yv.as (v' := it (n : Int)) (Yv.bin rfl rfl (BinR.sub_i zq3)) (congrArg it (by omega))) (by decide) (JO.v (Yv.assign rfl) (by decide) (JO.nil (JQ.then_normal (JC.seq (JC.region (JO.v (Yv.move rfl) (by decide) ?_))))))
 refine JO.v (Yv.move rfl) (by decide) ?_
 refine JO.callI (f265_spec v xs 0 n (by omega) (by omega)) (Mth.val row_185_Swap Tryz.underlying185 one_182 (Kn.own zq7 rfl)) body_265 rfl rfl zq1 zq4 (by rintro _ _ _ ⟨h, _⟩; exact h) (by decide) ?_
 rintro _ _ ⟨_, ⟨_, rfl⟩, hH⟩
 simp only [List.cons_append, List.nil_append] at hH; subst hH
 refine JO.nil (JQ.then_normal (JC.seq (JC.region (JO.v (Yv.move rfl) (by decide) (JO.v (Yv.move rfl) (by decide) ?_)))))
 refine JO.callB (f167_spec q v (swp lkD xs 0 n) n (by rw [swp_len]; omega) (pop_inv hn hh) (by rw [swp_len]; omega)) body_167 rfl zq1 zq4 (by rintro _ _ _ ⟨_, _, _, _, h, _⟩; exact h) (by decide) ?_
 rintro _ _ ⟨_, ⟨zs, hp, hk, hz, _, rfl⟩, hH⟩
 simp only [List.cons_append, List.nil_append] at hH; subst hH
 have hzl : zs.length = n + 1 := by rw [hp.length_eq, swp_len, hn]
 have hmin := pop_min hn hzl hp hh (hk n (Nat.le_refl _))
 have hth := take_heap hzl hz
 have hsp := pop_split hzl
 generalize zs.take n = ys at *
 generalize zs.getD n lkD = y at *
 subst hsp
 refine JO.nil (JQ.then_normal (JC.seq (JC.region (JO.v (Yv.move rfl) (by decide) ?_))))
 refine JO.callI (f266_spec q v ys y (by simp at hzl; omega)) (Mth.self row_185_Pop Tryz.underlying185) body_266 rfl rfl zq1 zq4 (by rintro _ _ _ ⟨_, _, h, _⟩; exact h) (by decide) ?_
 rintro _ _ ⟨_, ⟨v2, rfl, _, rfl⟩, hH⟩
 simp only [List.cons_append, List.nil_append] at hH; subst hH
 refine JO.v (Yv.assign rfl) (by decide) (JO.nil (JQ.then_normal ?_))
 refine JC.ret ?_
 exact JQ.done (.inr rfl) (Γ' := []) (H' := [Res.cells q [_] 182, Res.row _ _ 187 5 _]) (res1 rfl (RV.tmp rfl)) (Subs.sub zq0) (Picks.perm zq1) ⟨_, ys, y, hmin.1, hth, hmin.2, rfl, rfl, rfl⟩


theorem f117_spec (u : Value) (cs : List Int) :
  Spec Tryz.prog 117 #[u] [Res.rd u cs.length 1 (cs.map it)] []
   (fun r Γ' H' => r = (it (rightE cs)) ∧ Γ' = [] ∧ H' = []) := by
 refine Spec.of_args Tryz.func117 rfl Tryz.ntmps117 (by simp) fun w => ?_
 refine JC.know (φ := cs.length ≤ 9223372036854775807) (fun w hs => by obtain ⟨_, _, _, _, _, _, h⟩ := hs.rdForm (.head _); unfold maxLen at h; omega) fun hll => ?_
 refine JC.seq (JC.region (JO.v (Yv.assign rfl) (by decide) (JO.nil (JQ.then_normal (JC.seq (JC.region ?_))))))
 refine JO.v (Yv.assign rfl) (by decide) (JO.nil (JQ.then_normal (JC.seq (JC.seq (JC.region (JO.v (Yv.move rfl) (by decide) ?_))))))
 refine JO.v (Yv.lenRd Tryz.underlying37 rfl zq8) (by decide) (JO.v (Yv.move rfl) (by decide) (JO.nil (JQ.then_normal (JC.block ?_))))
 refine JC.loop (ι := Nat × Int) (fun x => x.1 ≤ cs.length ∧ ¬ badC cs x.1 ∧ (cs.length ≤ 40 → x.2 = sumC cs x.1)) (fun x => [(0, u), (3, it x.2), (6, u), (7, it (cs.length : Int)), (8, it (x.1 : Int))]) (fun x => [Res.rd u cs.length 1 (cs.map it)]) (fun x => []) (fun x => cs.length - x.1) (0, 0) zq9 (Subs.sub zq0) (Picks.perm zq1) ?_ (fun x hx => ?_)
 ·exact ⟨Nat.zero_le _, fun ⟨j, hj, _⟩ => absurd hj (by dsimp only; omega), fun _ => rfl⟩
 obtain ⟨x, s⟩ := x
 obtain ⟨hx, hb, hs⟩ := hx
 dsimp only at hx hb hs ⊢
 refine JC.seq (JC.region (JO.v (Yv.bin rfl rfl BinR.lss_i) (by decide) (JO.nil (JQ.then_normal (JC.seq (JC.cond rfl (fun hc1 => ?_) (fun hc1 => ?_)))))))
 ·try simp only [decide_eq_true_eq, decide_eq_false_iff_not, Bool.not_eq_true', Bool.not_eq_false', ne_eq, Decidable.not_not, Bool.not_eq_true, Bool.and_eq_true, Bool.or_eq_true, BitVec.reduceToNat] at hc1
  skip
  refine JC.skip (JQ.then_normal (JC.seq (JC.block (JC.seq (JC.region (JO.v (Yv.indexRd1 Tryz.underlying37 sz_3 rfl rfl zq8 zq6) (by decide) ?_))))))
  refine JO.v (Yv.load1 one_3 rfl (by exact Kn.rd zq8 zq21)) (by decide) (JO.v (Yv.assign rfl) (by decide) (JO.nil (JQ.then_normal (JC.seq (JC.seq (JC.region ?_))))))
  refine JO.v (Yv.move rfl) (by decide) (JO.v (Yv.bin rfl rfl BinR.lss_i) (by decide) (JO.v (Yv.move rfl) (by decide) ?_))
  refine JO.join 3 17 (.bool (decide (cs.getD x 0 < 0 ∨ cs.getD x 0 > 200))) ?_ ?_
  ·skip
   refine JO.gsplit (g := 13) rfl (fun hg13 => ?_) (fun hg13 => ?_)
   ·have hg13' := hg13
    try simp only [decide_eq_true_eq, decide_eq_false_iff_not, Bool.not_eq_true', Bool.not_eq_false', ne_eq, Decidable.not_not, Bool.not_eq_true, Bool.and_eq_true, Bool.or_eq_true, BitVec.reduceToNat] at hg13'
    refine JO.gf (g := 14) rfl rfl hg13 (by decide) ?_
    refine JO.gf (g := 14) rfl rfl hg13 (by decide) ?_
    refine JO.v (Yv.pick1 rfl hg13 rfl) (by decide) (JO.nil ?_)
    refine JQ.head () (by first | (refine ⟨by first | rfl | (show some _ = some _; exact congrArg (fun b => some (Value.bool b)) (by first | exact (decide_eq_true (.inl hg13')).symm | exact decide_eq_decide.2 ⟨.inr, fun h => h.resolve_left hg13'⟩)), ?_⟩; repeat (first | exact trivial | refine ⟨rfl, ?_⟩))) (Subs.sub zq0) (Picks.perm zq1) ?_
    trivial
   ·have hg13' := hg13
    try simp only [decide_eq_true_eq, decide_eq_false_iff_not, Bool.not_eq_true', Bool.not_eq_false', ne_eq, Decidable.not_not, Bool.not_eq_true, Bool.and_eq_true, Bool.or_eq_true, BitVec.reduceToNat] at hg13'
    refine JO.gt (g := 14) rfl rfl hg13 ?_
    refine JO.v (Yv.move rfl) (by decide) ?_
    refine JO.gt (g := 14) rfl rfl hg13 ?_
    refine JO.v (Yv.bin rfl rfl BinR.gtr_i) (by decide) (JO.v (Yv.pick0 rfl hg13 rfl) (by decide) (JO.nil ?_))
    refine JQ.head () (by first | (refine ⟨by first | rfl | (show some _ = some _; exact congrArg (fun b => some (Value.bool b)) (by first | exact (decide_eq_true (.inl hg13')).symm | exact decide_eq_decide.2 ⟨.inr, fun h => h.resolve_left hg13'⟩)), ?_⟩; repeat (first | exact trivial | refine ⟨rfl, ?_⟩))) (Subs.sub zq0) (Picks.perm zq1) ?_
    trivial
  ·skip
   refine JO.nil (JQ.then_normal (JC.cond rfl (fun hc2 => ?_) (fun hc2 => ?_)))
   ·try simp only [decide_eq_true_eq, decide_eq_false_iff_not, Bool.not_eq_true', Bool.not_eq_false', ne_eq, Decidable.not_not, Bool.not_eq_true, Bool.and_eq_true, Bool.or_eq_true, BitVec.reduceToNat] at hc2
    skip
    refine JC.seq (JC.region (JO.v (Yv.as (v' := it (rightE cs)) (Yv.assign rfl) (congrArg it (right_bad (by omega) hc2).symm)) (by decide) (JO.nil (JQ.then_normal ?_))))
    refine JC.ret ?_
    refine JQ.then_ret ?_
    refine JQ.block_ret ?_
    refine JQ.then_ret ?_
    refine JQ.then_ret ?_
    refine JQ.block_ret ?_
    refine JQ.then_ret ?_
    exact JQ.done (.inr rfl) (Γ' := []) (H' := []) (res1 rfl (RV.tmp rfl)) (Subs.sub zq0) (Picks.perm zq1) ⟨rfl, rfl, rfl⟩
   ·try simp only [decide_eq_true_eq, decide_eq_false_iff_not, Bool.not_eq_true', Bool.not_eq_false', ne_eq, Decidable.not_not, Bool.not_eq_true, Bool.and_eq_true, Bool.or_eq_true, BitVec.reduceToNat] at hc2
    have hnb := hc2
    refine JC.skip (JQ.then_normal (JC.region (JO.v (Yv.move rfl) (by decide) (JO.v (Yv.move rfl) (by decide) (JO.v (Yv.min_i rfl rfl) (by decide) (JO.v (Yv.bin rfl rfl BinR.add_iw) (by decide) ?_))))))
    refine JO.v (Yv.assign rfl) (by decide) (JO.nil ?_)
    refine JQ.block_normal ?_
    refine JQ.then_normal (JC.region (JO.v (Yv.as (v' := it ((x + 1 : Nat) : Int)) (Yv.bin rfl rfl (BinR.add_i zq3)) (congrArg it (by omega))) (by decide) (JO.v (Yv.move rfl) (by decide) (JO.nil ?_))))
    refine JQ.head (x + 1, IntKind.i64.wrap (s + min (cs.getD x 0) 200)) zq9 (Subs.sub zq0) (Picks.perm zq1) ?_
    refine ⟨⟨by dsimp only; omega, bad_succ hb hnb, fun h4 => ?_⟩, by dsimp only; omega⟩
    dsimp only
    have h5 := sumC_bd hb hx
    have h6 := hs h4
    rw [sumC_succ (by omega), Fits.wrap ⟨by omega, by omega⟩]
    omega
 ·try simp only [decide_eq_true_eq, decide_eq_false_iff_not, Bool.not_eq_true', Bool.not_eq_false', ne_eq, Decidable.not_not, Bool.not_eq_true, Bool.and_eq_true, Bool.or_eq_true, BitVec.reduceToNat] at hc1
  obtain rfl : x = cs.length := by omega
  refine JC.exit ?_
  refine JQ.then_exit ?_
  refine JQ.then_exit ?_
  refine JQ.block_exit ?_
  refine JQ.then_normal (JC.seq (JC.seq (JC.region (JO.v (Yv.move rfl) (by decide) (JO.v (Yv.bin rfl rfl BinR.gtr_i) (by decide) (JO.v (Yv.move rfl) (by decide) ?_))))))
  refine JO.join 4 29 (.bool (decide (s > 200 ∨ (cs.length : Int) > 40))) ?_ ?_
  ·skip
   refine JO.gsplit (g := 24) rfl (fun hg27 => ?_) (fun hg27 => ?_)
   ·have hg27' := hg27
    try simp only [decide_eq_true_eq, decide_eq_false_iff_not, Bool.not_eq_true', Bool.not_eq_false', ne_eq, Decidable.not_not, Bool.not_eq_true, Bool.and_eq_true, Bool.or_eq_true, BitVec.reduceToNat] at hg27'
    refine JO.gf (g := 25) rfl rfl hg27 (by decide) ?_
    refine JO.gf (g := 25) rfl rfl hg27 (by decide) ?_
    refine JO.gf (g := 25) rfl rfl hg27 (by decide) ?_
    refine JO.v (Yv.pick1 rfl hg27 rfl) (by decide) (JO.nil ?_)
    refine JQ.head () zq15 (Subs.sub zq0) (Picks.perm zq1) ?_
    trivial
   ·have hg27' := hg27
    try simp only [decide_eq_true_eq, decide_eq_false_iff_not, Bool.not_eq_true', Bool.not_eq_false', ne_eq, Decidable.not_not, Bool.not_eq_true, Bool.and_eq_true, Bool.or_eq_true, BitVec.reduceToNat] at hg27'
    refine JO.gt (g := 25) rfl rfl hg27 ?_
    refine JO.v (Yv.move rfl) (by decide) ?_
    refine JO.gt (g := 25) rfl rfl hg27 ?_
    refine JO.v (Yv.lenRd Tryz.underlying37 rfl zq8) (by decide) ?_
    refine JO.gt (g := 25) rfl rfl hg27 ?_
    refine JO.v (Yv.bin rfl rfl BinR.gtr_i) (by decide) (JO.v (Yv.pick0 rfl hg27 rfl) (by decide) (JO.nil ?_))
    refine JQ.head () zq15 (Subs.sub zq0) (Picks.perm zq1) ?_
    trivial
  ·skip
   refine JO.nil (JQ.then_normal (JC.cond rfl (fun hc3 => ?_) (fun hc3 => ?_)))
   ·try simp only [decide_eq_true_eq, decide_eq_false_iff_not, Bool.not_eq_true', Bool.not_eq_false', ne_eq, Decidable.not_not, Bool.not_eq_true, Bool.and_eq_true, Bool.or_eq_true, BitVec.reduceToNat] at hc3
    have hr : rightE cs = 1 := by
     unfold rightE
     by_cases h4 : cs.length > 40
     ·rw [if_pos h4]
     ·rw [if_neg h4, if_neg hb, if_pos (by have := hs (by omega); omega)]
    refine JC.seq (JC.region (JO.v (Yv.as (v' := it (rightE cs)) (Yv.assign rfl) (congrArg it hr.symm)) (by decide) (JO.nil (JQ.then_normal ?_))))
    refine JC.ret ?_
    refine JQ.then_ret ?_
    exact JQ.done (.inr rfl) (Γ' := []) (H' := []) (res1 rfl (RV.tmp rfl)) (Subs.sub zq0) (Picks.perm zq1) ⟨rfl, rfl, rfl⟩
   ·try simp only [decide_eq_true_eq, decide_eq_false_iff_not, Bool.not_eq_true', Bool.not_eq_false', ne_eq, Decidable.not_not, Bool.not_eq_true, Bool.and_eq_true, Bool.or_eq_true, BitVec.reduceToNat] at hc3
    have hr : rightE cs = 0 := by unfold rightE; rw [if_neg (by omega), if_neg hb, if_neg (by have := hs (by omega); omega)]
    refine JC.skip (JQ.then_normal (JC.seq (JC.region (JO.v (Yv.as (v' := it (rightE cs)) (Yv.assign rfl) (congrArg it hr.symm)) (by decide) (JO.nil (JQ.then_normal ?_))))))
    refine JC.ret ?_
    exact JQ.done (.inr rfl) (Γ' := []) (H' := []) (res1 rfl (RV.tmp rfl)) (Subs.sub zq0) (Picks.perm zq1) ⟨rfl, rfl, rfl⟩


theorem f56a_spec (u : Value) (cs : List Int) (hr : rightE cs = 0) :
  Spec Tryz.prog 56 #[u] [Res.rd u cs.length 1 (cs.map it)] []
   (fun r Γ' H' => ∃ v, r = .tuple #[v, it 0] ∧ Γ' = [] ∧ H' = [Res.row v (ownT cs cs.length).length 3 1 ((ownT cs cs.length).map it)]) := by
 refine Spec.of_args Tryz.func56 rfl Tryz.ntmps56 (by simp) fun w => ?_
 obtain ⟨hr1, hr2, hr3⟩ := right_0 hr
 refine JC.seq (JC.region (JO.v (Yv.assign rfl) (by decide) (JO.v (Yv.assign rfl) (by decide) (JO.nil (JQ.then_normal (JC.seq ?_))))))
 refine JC.seq (JC.region (JO.v (Yv.move rfl) (by decide) ?_))
 refine JO.callB (f117_spec u cs) body_117 rfl zq1 zq4 zq14 (by decide) ?_
 rintro _ _ ⟨_, ⟨rfl, _, rfl⟩, hH⟩
 simp only [List.cons_append, List.nil_append] at hH; subst hH
 rw [hr]
 refine JO.v (Yv.assign rfl) (by decide) (JO.nil (JQ.then_normal (JC.seq (JC.region (JO.v (Yv.move rfl) (by decide) (JO.v (Yv.bin rfl rfl BinR.neq_i) (by decide) ?_))))))
 refine JO.nil (JQ.then_normal (JC.cond rfl (fun hc1 => ?_) (fun hc1 => ?_)))
 ·try simp only [decide_eq_true_eq, decide_eq_false_iff_not, Bool.not_eq_true', Bool.not_eq_false', ne_eq, Decidable.not_not, Bool.not_eq_true, Bool.and_eq_true, Bool.or_eq_true, BitVec.reduceToNat] at hc1
  exact absurd hc1 (by decide)
 ·try simp only [decide_eq_true_eq, decide_eq_false_iff_not, Bool.not_eq_true', Bool.not_eq_false', ne_eq, Decidable.not_not, Bool.not_eq_true, Bool.and_eq_true, Bool.or_eq_true, BitVec.reduceToNat] at hc1
  refine JC.skip (JQ.then_normal (JC.seq (JC.region ?_)))
  refine JO.nilRow 3 1 ?_
  refine JO.v (Yv.as (v' := .slice none 0 0) (Yv.assign rfl) rfl) (by decide) (JO.nil (JQ.then_normal (JC.seq (JC.seq (JC.region (JO.v (Yv.move rfl) (by decide) ?_))))))
  refine JO.v (Yv.lenRd Tryz.underlying37 rfl zq8) (by decide) (JO.v (Yv.move rfl) (by decide) (JO.nil (JQ.then_normal (JC.block ?_))))
  refine JC.loop (ι := Nat × Value) (fun x => x.1 ≤ cs.length) (fun x => [(5, x.2), (13, u), (14, it (cs.length : Int)), (15, it (x.1 : Int))]) (fun x => [Res.rd u cs.length 1 (cs.map it)]) (fun x => [Res.row x.2 (ownT cs x.1).length 3 1 ((ownT cs x.1).map it)]) (fun x => cs.length - x.1) (0, .slice none 0 0) zq9 (Subs.sub zq0) (Picks.perm zq1) ?_ (fun x hx => ?_)
  ·exact Nat.zero_le _
  obtain ⟨x, vo⟩ := x
  have hx' := hx
  dsimp only at hx' ⊢
  refine JC.seq (JC.region (JO.v (Yv.bin rfl rfl BinR.lss_i) (by decide) (JO.nil (JQ.then_normal (JC.seq (JC.cond rfl (fun hc2 => ?_) (fun hc2 => ?_)))))))
  ·try simp only [decide_eq_true_eq, decide_eq_false_iff_not, Bool.not_eq_true', Bool.not_eq_false', ne_eq, Decidable.not_not, Bool.not_eq_true, Bool.and_eq_true, Bool.or_eq_true, BitVec.reduceToNat] at hc2
   have hc := count_at hr (x := x) (by omega)
   obtain ⟨c, hc1', hc2', hc3', hc4', hc5'⟩ := hc
   have hol := own_len hr (x := x) (by omega)
   obtain ⟨x', hx'e⟩ : ∃ x', x' = x := ⟨x, rfl⟩
   subst hx'e
   refine JC.skip (JQ.then_normal (JC.seq (JC.block (JC.seq (JC.region (JO.v (Yv.move rfl) (by decide) ?_))))))
   refine JO.v (Yv.indexRd1 Tryz.underlying37 sz_3 rfl rfl zq8 zq6) (by decide) (JO.v (Yv.as (v' := it (c : Int)) (Yv.load1 one_3 rfl (by exact Kn.rd zq8 zq21)) (congrArg it hc1')) (by decide) (JO.v (Yv.assign rfl) (by decide) (JO.v (Yv.assign rfl) (by decide) (JO.nil (JQ.then_normal (JC.seq ?_))))))
   refine JC.region (JO.v (Yv.move rfl) (by decide) (JO.v (Yv.move rfl) (by decide) (JO.nil (JQ.then_normal (JC.block ?_)))))
   refine JC.loop (ι := Nat × Value) (fun x => x.1 ≤ c) (fun x => [(5, x.2), (6, it (x' : Int)), (13, u), (14, it (cs.length : Int)), (15, it (x' : Int)), (20, it (c : Int)), (21, it (x.1 : Int))]) (fun x => [Res.rd u cs.length 1 (cs.map it)]) (fun x => [Res.row x.2 (ownT cs x' ++ List.replicate x.1 (x' : Int)).length 3 1 ((ownT cs x' ++ List.replicate x.1 (x' : Int)).map it)]) (fun x => c - x.1) (0, vo) zq9 (Subs.sub zq0) (Picks.perm (by rw [List.replicate_zero, List.append_nil]; repeat (first | exact Picks.nil _ | apply Picks.cons | exact Pull.here _ _ | apply Pull.there))) ?_ (fun x hx => ?_)
   ·exact Nat.zero_le _
   obtain ⟨y, vi⟩ := x
   have hy := hx
   dsimp only at hy ⊢
   have hll : (ownT cs x' ++ List.replicate y (x' : Int)).length ≤ 400 := by rw [List.length_append, List.length_replicate]; omega
   refine JC.seq (JC.region (JO.v (Yv.bin rfl rfl BinR.lss_i) (by decide) (JO.nil (JQ.then_normal (JC.seq (JC.cond rfl (fun hc3 => ?_) (fun hc3 => ?_)))))))
   ·try simp only [decide_eq_true_eq, decide_eq_false_iff_not, Bool.not_eq_true', Bool.not_eq_false', ne_eq, Decidable.not_not, Bool.not_eq_true, Bool.and_eq_true, Bool.or_eq_true, BitVec.reduceToNat] at hc3
    skip
    refine JC.skip (JQ.then_normal (JC.seq (JC.block (JC.region (JO.v (Yv.move rfl) (by decide) (JO.v (Yv.move rfl) (by decide) ?_))))))
    refine JO.lit1 Tryz.underlying37 info_3 rfl rfl (by simp) (by decide) (by decide) (by decide) fun v25 => ?_
    refine JO.append Tryz.underlying37 info_3 rfl (by decide) rfl rfl zq12 (by exact Src.rd zq8 (by decide)) (by (simp; done)) (by unfold maxLen; omega) (by omega) (by decide) fun v26 => ?_
    refine JO.v (Yv.assign rfl) (by decide) (JO.nil ?_)
    refine JQ.block_normal ?_
    refine JQ.then_normal (JC.region (JO.v (Yv.as (v' := it ((y + 1 : Nat) : Int)) (Yv.bin rfl rfl (BinR.add_i zq3)) (congrArg it (by omega))) (by decide) (JO.v (Yv.move rfl) (by decide) (JO.nil ?_))))
    rw [rep_succ, show (ownT cs x' ++ List.replicate y (x' : Int)).length + 1 = (ownT cs x' ++ List.replicate (y + 1) (x' : Int)).length from by simp; omega]
    refine JQ.head (y + 1, _) zq9 (Subs.sub zq0) (Picks.perm zq1) ?_
    exact ⟨by dsimp only; omega, by dsimp only; omega⟩
   ·try simp only [decide_eq_true_eq, decide_eq_false_iff_not, Bool.not_eq_true', Bool.not_eq_false', ne_eq, Decidable.not_not, Bool.not_eq_true, Bool.and_eq_true, Bool.or_eq_true, BitVec.reduceToNat] at hc3
    obtain rfl : y = c := by omega
    refine JC.exit ?_
    refine JQ.then_exit ?_
    refine JQ.then_exit ?_
    refine JQ.block_exit ?_
    refine JQ.block_normal ?_
    refine JQ.then_normal (JC.region (JO.v (Yv.as (v' := it ((x' + 1 : Nat) : Int)) (Yv.bin rfl rfl (BinR.add_i zq3)) (congrArg it (by omega))) (by decide) (JO.v (Yv.move rfl) (by decide) (JO.nil ?_))))
    rw [show ownT cs x' ++ List.replicate y (x' : Int) = ownT cs (x' + 1) from by rw [ownT, hc1']; rfl]
    refine JQ.head (x' + 1, vi) zq9 (Subs.sub zq0) (Picks.perm zq1) ?_
    exact ⟨by dsimp only; omega, by dsimp only; omega⟩
  ·try simp only [decide_eq_true_eq, decide_eq_false_iff_not, Bool.not_eq_true', Bool.not_eq_false', ne_eq, Decidable.not_not, Bool.not_eq_true, Bool.and_eq_true, Bool.or_eq_true, BitVec.reduceToNat] at hc2
   obtain rfl : x = cs.length := by omega
   refine JC.exit ?_
   refine JQ.then_exit ?_
   refine JQ.then_exit ?_
   refine JQ.block_exit ?_
   refine JQ.then_normal (JC.seq (JC.region (JO.v (Yv.move rfl) (by decide) (JO.v (Yv.assign rfl) (by decide) (JO.v (Yv.assign rfl) (by decide) (JO.nil ?_))))))
   refine JQ.then_normal ?_
   refine JC.ret ?_
   exact JQ.done (.inr rfl) (Γ' := []) (H' := [Res.row _ _ 3 1 _]) (res2 rfl (RV.tmp rfl) (RV.tmp rfl)) (Subs.sub zq0) (Picks.perm zq1) ⟨_, rfl, rfl, rfl⟩


set_option maxHeartbeats 2000000 in
theorem f55a_spec (u : Value) (ws : List W64) (n0 : Int) (hE : shareE ws n0 = 0) :
  Spec Tryz.prog 55 #[u, (it n0)] [Res.rd u ws.length 1 (ws.map u64)] []
   (fun r Γ' H' => ∃ v, r = .tuple #[v, it 0] ∧ Γ' = [] ∧ H' = [Res.row v (shareL ws n0.toNat).length 3 1 ((shareL ws n0.toNat).map it)]) := by
 refine Spec.of_args Tryz.func55 rfl Tryz.ntmps55 (by simp) fun w => ?_
 obtain ⟨n, rfl, hn, hl, hT⟩ := share_0 hE
 have htl := tot_lt ws
 have hol : ∀ k, (outSl ws n k).length = ws.length := fun k => by simp [outSl]
 refine JC.seq (JC.region (JO.v (Yv.assign rfl) (by decide) (JO.v (Yv.assign rfl) (by decide) (JO.nil (JQ.then_normal (JC.seq ?_))))))
 refine JC.region (JO.v (Yv.move rfl) (by decide) ?_)
 refine JO.callB (f112_spec u ws) body_112 rfl zq1 zq4 zq14 (by decide) ?_
 rintro _ _ ⟨_, ⟨rfl, _, rfl⟩, hH⟩
 simp only [List.cons_append, List.nil_append] at hH; subst hH
 refine JO.alloc _ zero_40 rfl (by decide) fun b6 => ?_
 refine JO.storeAll sz_40 rfl rfl rfl zq13 (by (simp; done)) zq11 zq13 ?_
 refine JO.nil (JQ.then_normal (JC.seq (JC.block (JC.seq (JC.region (JO.v (Yv.move rfl) (by decide) ?_))))))
 refine JO.v (Yv.lenRd Tryz.underlying25 rfl zq8) (by decide) (JO.v (Yv.as (v' := .bool false) (Yv.bin rfl rfl BinR.gtr_i) (congrArg Value.bool (decide_eq_false (by omega)))) (by decide) (JO.v (Yv.move rfl) (by decide) ?_))
 refine JO.join 3 24 (.bool false) ?_ ?_
 ·skip
  refine JO.gsplit (g := 20) rfl (fun hg11 => ?_) (fun hg11 => ?_)
  ·have hg11' := hg11
   try simp only [decide_eq_true_eq, decide_eq_false_iff_not, Bool.not_eq_true', Bool.not_eq_false', ne_eq, Decidable.not_not, Bool.not_eq_true, Bool.and_eq_true, Bool.or_eq_true, BitVec.reduceToNat] at hg11'
   refine JO.gf (g := 21) rfl rfl hg11 (by decide) ?_
   refine JO.gf (g := 21) rfl rfl hg11 (by decide) ?_
   refine JO.v (Yv.pick1 rfl hg11 rfl) (by decide) (JO.nil ?_)
   refine JQ.head () (by first | (refine ⟨by first | rfl | (first | (exfalso; omega) | cases hg11), ?_⟩; repeat (first | exact trivial | refine ⟨rfl, ?_⟩))) (Subs.sub zq0) (Picks.perm zq1) ?_
   trivial
  ·have hg11' := hg11
   try simp only [decide_eq_true_eq, decide_eq_false_iff_not, Bool.not_eq_true', Bool.not_eq_false', ne_eq, Decidable.not_not, Bool.not_eq_true, Bool.and_eq_true, Bool.or_eq_true, BitVec.reduceToNat] at hg11'
   refine JO.gt (g := 21) rfl rfl hg11 ?_
   refine JO.v (Yv.move rfl) (by decide) ?_
   refine JO.gt (g := 21) rfl rfl hg11 ?_
   refine JO.v (Yv.as (v' := .bool false) (Yv.bin rfl rfl BinR.lss_i) (congrArg Value.bool (decide_eq_false (by omega)))) (by decide) (JO.v (Yv.pick0 rfl hg11 rfl) (by decide) (JO.nil ?_))
   refine JQ.head () (by first | (refine ⟨by first | rfl | (first | (exfalso; omega) | cases hg11), ?_⟩; repeat (first | exact trivial | refine ⟨rfl, ?_⟩))) (Subs.sub zq0) (Picks.perm zq1) ?_
   trivial
 ·skip
  refine JO.v (Yv.move rfl) (by decide) ?_
  refine JO.join 3 28 (.bool false) ?_ ?_
  ·skip
   refine JO.gt (g := 25) rfl rfl rfl ?_
   refine JO.v (Yv.move rfl) (by decide) ?_
   refine JO.gt (g := 25) rfl rfl rfl ?_
   refine JO.v (Yv.as (v' := .bool false) (Yv.bin rfl rfl BinR.gtr_i) (congrArg Value.bool (decide_eq_false (by omega)))) (by decide) (JO.v (Yv.pick0 rfl rfl rfl) (by decide) (JO.nil ?_))
   refine JQ.head () (by first | (refine ⟨by first | rfl | (first | (exfalso; omega) | cases hg15), ?_⟩; repeat (first | exact trivial | refine ⟨rfl, ?_⟩))) (Subs.sub zq0) (Picks.perm zq1) ?_
   trivial
  ·skip
   refine JO.v (Yv.assign rfl) (by decide) (JO.nil (JQ.then_normal (JC.cond rfl (fun hc1 => ?_) (fun hc1 => ?_))))
   ·try simp only [decide_eq_true_eq, decide_eq_false_iff_not, Bool.not_eq_true', Bool.not_eq_false', ne_eq, Decidable.not_not, Bool.not_eq_true, Bool.and_eq_true, Bool.or_eq_true, BitVec.reduceToNat] at hc1
    exact absurd hc1 (by decide)
   ·try simp only [decide_eq_true_eq, decide_eq_false_iff_not, Bool.not_eq_true', Bool.not_eq_false', ne_eq, Decidable.not_not, Bool.not_eq_true, Bool.and_eq_true, Bool.or_eq_true, BitVec.reduceToNat] at hc1
    refine JC.seq (JC.region (JO.v (Yv.move rfl) (by decide) (JO.v (Yv.bin rfl rfl BinR.gtr_i) (by decide) (JO.v (Yv.move rfl) (by decide) ?_))))
    refine JO.join 4 36 (.bool false) ?_ ?_
    ·skip
     refine JO.gsplit (g := 31) rfl (fun hg24 => ?_) (fun hg24 => ?_)
     ·have hg24' := hg24
      try simp only [decide_eq_true_eq, decide_eq_false_iff_not, Bool.not_eq_true', Bool.not_eq_false', ne_eq, Decidable.not_not, Bool.not_eq_true, Bool.and_eq_true, Bool.or_eq_true, BitVec.reduceToNat] at hg24'
      refine JO.gt (g := 32) rfl rfl hg24 ?_
      refine JO.v (Yv.loadOwn agg_40 zq7 rfl zq18) (by decide) ?_
      refine JO.gt (g := 32) rfl rfl hg24 ?_
      refine JO.v (Yv.as (v' := .agg ((wd 0).map u64).toArray) (Yv.build bld_40 rfl rfl) rfl) (by decide) ?_
      refine JO.gt (g := 32) rfl rfl hg24 ?_
      refine JO.v (Yv.as (v' := .bool (decide (totN ws = 0))) (Yv.bin rfl rfl (eql_nat wd_len' wd_len')) (congrArg Value.bool (decide_eq_decide.2 (by rw [wd_eq htl (by decide)])))) (by decide) (JO.v (Yv.pick1 rfl hg24 rfl) (by decide) (JO.nil ?_))
      refine JQ.head () (by first | (refine ⟨by first | rfl | (show some _ = some _; exact congrArg (fun b => some (Value.bool b)) (decide_eq_false (by omega))), ?_⟩; repeat (first | exact trivial | refine ⟨rfl, ?_⟩))) (Subs.sub zq0) (Picks.perm zq1) ?_
      trivial
     ·have hg24' := hg24
      try simp only [decide_eq_true_eq, decide_eq_false_iff_not, Bool.not_eq_true', Bool.not_eq_false', ne_eq, Decidable.not_not, Bool.not_eq_true, Bool.and_eq_true, Bool.or_eq_true, BitVec.reduceToNat] at hg24'
      refine JO.gf (g := 32) rfl rfl hg24 (by decide) ?_
      refine JO.gf (g := 32) rfl rfl hg24 (by decide) ?_
      refine JO.gf (g := 32) rfl rfl hg24 (by decide) ?_
      refine JO.v (Yv.pick0 rfl hg24 rfl) (by decide) (JO.nil ?_)
      refine JQ.head () (by first | (refine ⟨by first | rfl | (show some _ = some _; exact congrArg (fun b => some (Value.bool b)) (decide_eq_false (by omega))), ?_⟩; repeat (first | exact trivial | refine ⟨rfl, ?_⟩))) (Subs.sub zq0) (Picks.perm zq1) ?_
      trivial
    ·skip
     refine JO.v (Yv.assign rfl) (by decide) (JO.nil (JQ.then_normal (JC.cond rfl (fun hc2 => ?_) (fun hc2 => ?_))))
     ·try simp only [decide_eq_true_eq, decide_eq_false_iff_not, Bool.not_eq_true', Bool.not_eq_false', ne_eq, Decidable.not_not, Bool.not_eq_true, Bool.and_eq_true, Bool.or_eq_true, BitVec.reduceToNat] at hc2
      exact absurd hc2 (by decide)
     ·try simp only [decide_eq_true_eq, decide_eq_false_iff_not, Bool.not_eq_true', Bool.not_eq_false', ne_eq, Decidable.not_not, Bool.not_eq_true, Bool.and_eq_true, Bool.or_eq_true, BitVec.reduceToNat] at hc2
      refine JC.skip ?_
      refine JQ.block_normal ?_
      refine JQ.then_normal (JC.seq (JC.region ?_))
      refine JO.alloc _ zero_182 rfl (by decide) fun b7 => ?_
      refine JO.nil (JQ.then_normal (JC.seq (JC.region ?_)))
      refine JO.nilRow 187 5 ?_
      refine JO.v (Yv.move rfl) (by decide) (JO.v (Yv.lenRd Tryz.underlying25 rfl zq8) (by decide) ?_)
      refine JO.make (z := _) (bytes := _) ws.length Tryz.underlying37 info_3 rfl rfl rfl (by first | decide | (simp; done) | (simp; omega) | omega | (simp [*]; omega)) (by unfold maxLen; omega) (by decide) fun v39 => ?_
      refine JO.v (Yv.move rfl) (by decide) (JO.v (Yv.assign rfl) (by decide) (JO.v (Yv.as (v' := it ((n : Int) - (sumQ ws n 0 : Int))) (Yv.assign rfl) (congrArg it (by simp [sumQ]))) (by decide) (JO.nil (JQ.then_normal (JC.seq (JC.seq ?_))))))
      refine JC.region (JO.v (Yv.move rfl) (by decide) (JO.v (Yv.lenRd Tryz.underlying25 rfl zq8) (by decide) (JO.v (Yv.move rfl) (by decide) (JO.nil (JQ.then_normal (JC.block ?_))))))
      refine JC.loop (ι := Nat × Value × List Lk) (fun x => x.1 ≤ ws.length ∧ x.2.2.Perm (lks ws n x.1) ∧ heapTo (K x.2.2) x.2.2.length) (fun x => [(1, it (n : Int)), (6, ptr b6 0), (7, ptr b7 0), (8, v39), (9, it ((n : Int) - (sumQ ws n x.1 : Int))), (41, u), (42, it (ws.length : Int)), (43, it (x.1 : Int))]) (fun x => [Res.rd u ws.length 1 (ws.map u64)]) (fun x => [Res.cells b6 ((wd (totN ws)).map u64) 40, Res.row v39 ws.length 3 1 ((outSl ws n x.1).map it), Res.cells b7 [x.2.1] 182, Res.row x.2.1 x.2.2.length 187 5 (lkC x.2.2)]) (fun x => ws.length - x.1) (0, .slice none 0 0, []) zq9 (Subs.sub zq0) (Picks.perm (by rw [out_0]; repeat (first | exact Picks.nil _ | apply Picks.cons | exact Pull.here _ _ | apply Pull.there))) ?_ (fun x hx => ?_)
      ·exact ⟨Nat.zero_le _, .refl _, fun k _ h => absurd h (by simp)⟩
      obtain ⟨i, vh, hs⟩ := x
      obtain ⟨hi, hp, hh⟩ := hx
      dsimp only at hi hp hh ⊢
      refine JC.seq (JC.region (JO.v (Yv.bin rfl rfl BinR.lss_i) (by decide) (JO.nil (JQ.then_normal (JC.seq (JC.cond rfl (fun hc3 => ?_) (fun hc3 => ?_)))))))
      ·try simp only [decide_eq_true_eq, decide_eq_false_iff_not, Bool.not_eq_true', Bool.not_eq_false', ne_eq, Decidable.not_not, Bool.not_eq_true, Bool.and_eq_true, Bool.or_eq_true, BitVec.reduceToNat] at hc3
       have hqb := qN_le (ws := ws) (n := n) (i := i) hl (by omega)
       have hsb := sumQ_bd (n := n) hl hn hi
       refine JC.skip (JQ.then_normal (JC.seq (JC.block (JC.seq (JC.region (JO.v (Yv.move rfl) (by decide) ?_))))))
       refine JO.v (Yv.indexRd1 Tryz.underlying25 sz_22 rfl rfl zq8 zq6) (by decide) (JO.v (Yv.load1 one_22 rfl (Kn.rd zq8 (by exact gm (d := 0) (by omega)))) (by decide) (JO.v (Yv.assign rfl) (by decide) (JO.v (Yv.assign rfl) (by decide) (JO.nil (JQ.then_normal ?_)))))
       refine JC.cut (ι := Nat × Nat) (fun x => True) (fun x => [(1, it (n : Int)), (6, ptr b6 0), (7, ptr b7 0), (8, v39), (9, it ((n : Int) - (sumQ ws n i : Int))), (10, it (i : Int)), (12, ptr x.1 0), (13, ptr x.2 0), (41, u), (42, it (ws.length : Int)), (43, it (i : Int))]) (fun x => [Res.rd u ws.length 1 (ws.map u64)]) (fun x => [Res.cells b6 ((wd (totN ws)).map u64) 40, Res.row v39 ws.length 3 1 ((outSl ws n i).map it), Res.cells b7 [vh] 182, Res.row vh hs.length 187 5 (lkC hs), Res.cells x.1 ((wd (qN ws n i)).map u64) 40, Res.cells x.2 ((wd (rN ws n i)).map u64) 40]) ?_ (fun x hx => ?_)
       ·skip
        refine JC.draw (.one 0 (.one 1 (.one 2 (.one 4 (.alt 3 (.alt 5 (.one 6 (.one 7 (.one 8 (.one 9 (.alt 10 (.one 11 (.one 12 (.one 13 (.one 14 .nil)))) (.alt 11 (.one 10 (.one 12 (.one 13 (.one 14 .nil)))) .nil)))))) (.alt 10 (.alt 5 (.one 6 (.one 7 (.one 8 (.one 9 (.one 11 (.one 12 (.one 13 (.one 14 .nil)))))))) (.alt 11 (.one 5 (.one 6 (.one 7 (.one 8 (.one 9 (.one 12 (.one 13 (.one 14 .nil)))))))) .nil)) (.alt 11 (.alt 5 (.one 6 (.one 7 (.one 8 (.one 9 (.one 10 (.one 12 (.one 13 (.one 14 .nil)))))))) (.alt 10 (.one 5 (.one 6 (.one 7 (.one 8 (.one 9 (.one 12 (.one 13 (.one 14 .nil)))))))) .nil)) .nil))) (.alt 10 (.alt 3 (.alt 5 (.one 6 (.one 7 (.one 8 (.one 9 (.one 11 (.one 12 (.one 13 (.one 14 .nil)))))))) (.alt 11 (.one 5 (.one 6 (.one 7 (.one 8 (.one 9 (.one 12 (.one 13 (.one 14 .nil)))))))) .nil)) (.alt 11 (.one 3 (.one 5 (.one 6 (.one 7 (.one 8 (.one 9 (.one 12 (.one 13 (.one 14 .nil))))))))) .nil)) (.alt 11 (.alt 3 (.alt 5 (.one 6 (.one 7 (.one 8 (.one 9 (.one 10 (.one 12 (.one 13 (.one 14 .nil)))))))) (.alt 10 (.one 5 (.one 6 (.one 7 (.one 8 (.one 9 (.one 12 (.one 13 (.one 14 .nil)))))))) .nil)) (.alt 10 (.one 3 (.one 5 (.one 6 (.one 7 (.one 8 (.one 9 (.one 12 (.one 13 (.one 14 .nil))))))))) .nil)) .nil))))))) (fun i => ([12, 13] : List Nat).contains i) (fun i => ([3, 5, 10, 11, 12, 13] : List Nat).contains i) (fun i => ([0, 1, 2, 6, 7, 8, 9, 14] : List Nat).contains i) mixed (by kernel_rfl) (by decide) (by kernel_rfl) ?_
        refine JR.u rfl rfl rfl (Yv.move rfl) (by decide) (JR.u rfl rfl rfl (Yv.as (v' := u64 (BitVec.ofNat 64 n)) (Yv.conv_i_u64 Tryz.underlying3 Tryz.underlying22 rfl) (congrArg u64 (by simp))) (by decide) (JR.u rfl rfl rfl (Yv.move rfl) (by decide) (JR.v rfl rfl rfl (Yv.loadOwn agg_40 zq7 rfl zq18) (by decide) ?_)))
        refine JR.alt rfl ?_ ?_
        ·skip
         refine JR.m rfl rfl (Mv.callB body_114 rfl (f114_spec (BitVec.ofNat 64 n) (ws.getD i 0)) zq1 zq4 zq14) (by decide) ?_
         rintro _ _ _ ⟨_, ⟨rfl, _, rfl⟩, hΓ, hH⟩
         simp only [List.cons_append, List.nil_append] at hH; subst hΓ hH
         refine ⟨⟨Subs.sub zq0, .inr (St.keep zq0 zq1)⟩, ?_⟩
         refine JR.alt rfl ?_ ?_
         ·skip
          refine JR.m rfl rfl (Mv.callB body_113 rfl (f113_spec ((BitVec.ofNat 64 n).toNat * (ws.getD i 0).toNat) (totN ws) (prod_lt _ _) htl) zq1 zq4 zq14) (by decide) ?_
          rintro _ _ _ ⟨_, ⟨rfl, _, rfl⟩, hΓ, hH⟩
          simp only [List.cons_append, List.nil_append] at hH; subst hΓ hH
          rw [show (BitVec.ofNat 64 n).toNat = n from by rw [BitVec.toNat_ofNat]; omega]
          refine ⟨⟨Subs.sub zq0, .inr (St.keep zq0 zq1)⟩, ?_⟩
          refine JR.u rfl rfl rfl (Yv.move rfl) (by decide) (JR.u rfl rfl rfl (Yv.as (v' := .agg ((wd (qN ws n i)).map u64).toArray) (Yv.extract rfl rfl) rfl) (by decide) (JR.u rfl rfl rfl (Yv.as (v' := .agg ((wd (rN ws n i)).map u64).toArray) (Yv.extract rfl rfl) rfl) (by decide) (JR.u rfl rfl rfl (Yv.as (v' := it (if totN ws = 0 then 11 else 0)) (Yv.extract rfl rfl) rfl) (by decide) ?_)))
          refine JR.alt rfl ?_ ?_
          ·skip
           refine JR.m rfl rfl (Mv.alloc zero_40) (by decide) ?_
           rintro _ _ _ ⟨b12, rfl, rfl, rfl⟩
           refine ⟨⟨Subs.sub zq0, .inr (St.keep zq0 zq1)⟩, ?_⟩
           refine JR.m rfl rfl (Mv.alloc zero_40) (by decide) ?_
           rintro _ _ _ ⟨b13, rfl, rfl, rfl⟩
           refine ⟨⟨Subs.sub zq0, .inr (St.keep zq0 zq1)⟩, ?_⟩
           refine JR.m0 rfl rfl (Mv.storeAll sz_40 rfl rfl rfl zq13 (by (simp; done)) zq11 zq13) ?_
           rintro _ _ _ ⟨rfl, rfl⟩
           refine ⟨⟨Subs.sub zq0, .inl rfl⟩, ?_⟩
           refine JR.m0 rfl rfl (Mv.storeAll sz_40 rfl rfl rfl zq13 (by (simp; done)) zq11 zq13) ?_
           rintro _ _ _ ⟨rfl, rfl⟩
           refine ⟨⟨Subs.sub zq0, .inl rfl⟩, ?_⟩
           refine JR.u rfl rfl rfl (Yv.assign rfl) (by decide) ?_
           refine JR.nil ?_
           refine JQ.head (b12, b13) zq9 (Subs.sub zq0) (Picks.perm zq1) ?_
           trivial
          refine JA.alt rfl ?_ ?_
          ·skip
           refine JR.m rfl rfl (Mv.alloc zero_40) (by decide) ?_
           rintro _ _ _ ⟨b13, rfl, rfl, rfl⟩
           refine ⟨⟨Subs.sub zq0, .inr (St.keep zq0 zq1)⟩, ?_⟩
           refine JR.m rfl rfl (Mv.alloc zero_40) (by decide) ?_
           rintro _ _ _ ⟨b12, rfl, rfl, rfl⟩
           refine ⟨⟨Subs.sub zq0, .inr (St.keep zq0 zq1)⟩, ?_⟩
           refine JR.m0 rfl rfl (Mv.storeAll sz_40 rfl rfl rfl zq13 (by (simp; done)) zq11 zq13) ?_
           rintro _ _ _ ⟨rfl, rfl⟩
           refine ⟨⟨Subs.sub zq0, .inl rfl⟩, ?_⟩
           refine JR.m0 rfl rfl (Mv.storeAll sz_40 rfl rfl rfl zq13 (by (simp; done)) zq11 zq13) ?_
           rintro _ _ _ ⟨rfl, rfl⟩
           refine ⟨⟨Subs.sub zq0, .inl rfl⟩, ?_⟩
           refine JR.u rfl rfl rfl (Yv.assign rfl) (by decide) ?_
           refine JR.nil ?_
           refine JQ.head (b12, b13) zq9 (Subs.sub zq0) (Picks.perm zq1) ?_
           trivial
          exact JA.nil
         refine JA.alt rfl ?_ ?_
         ·skip
          refine JR.m rfl rfl (Mv.alloc zero_40) (by decide) ?_
          rintro _ _ _ ⟨b12, rfl, rfl, rfl⟩
          refine ⟨⟨Subs.sub zq0, .inr (St.keep zq0 zq1)⟩, ?_⟩
          refine JR.alt rfl ?_ ?_
          ·skip
           refine JR.m rfl rfl (Mv.callB body_113 rfl (f113_spec ((BitVec.ofNat 64 n).toNat * (ws.getD i 0).toNat) (totN ws) (prod_lt _ _) htl) zq1 zq4 zq14) (by decide) ?_
           rintro _ _ _ ⟨_, ⟨rfl, _, rfl⟩, hΓ, hH⟩
           simp only [List.cons_append, List.nil_append] at hH; subst hΓ hH
           rw [show (BitVec.ofNat 64 n).toNat = n from by rw [BitVec.toNat_ofNat]; omega]
           refine ⟨⟨Subs.sub zq0, .inr (St.keep zq0 zq1)⟩, ?_⟩
           refine JR.u rfl rfl rfl (Yv.move rfl) (by decide) (JR.u rfl rfl rfl (Yv.as (v' := .agg ((wd (qN ws n i)).map u64).toArray) (Yv.extract rfl rfl) rfl) (by decide) (JR.u rfl rfl rfl (Yv.as (v' := .agg ((wd (rN ws n i)).map u64).toArray) (Yv.extract rfl rfl) rfl) (by decide) (JR.u rfl rfl rfl (Yv.as (v' := it (if totN ws = 0 then 11 else 0)) (Yv.extract rfl rfl) rfl) (by decide) ?_)))
           refine JR.m rfl rfl (Mv.alloc zero_40) (by decide) ?_
           rintro _ _ _ ⟨b13, rfl, rfl, rfl⟩
           refine ⟨⟨Subs.sub zq0, .inr (St.keep zq0 zq1)⟩, ?_⟩
           refine JR.m0 rfl rfl (Mv.storeAll sz_40 rfl rfl rfl zq13 (by (simp; done)) zq11 zq13) ?_
           rintro _ _ _ ⟨rfl, rfl⟩
           refine ⟨⟨Subs.sub zq0, .inl rfl⟩, ?_⟩
           refine JR.m0 rfl rfl (Mv.storeAll sz_40 rfl rfl rfl zq13 (by (simp; done)) zq11 zq13) ?_
           rintro _ _ _ ⟨rfl, rfl⟩
           refine ⟨⟨Subs.sub zq0, .inl rfl⟩, ?_⟩
           refine JR.u rfl rfl rfl (Yv.assign rfl) (by decide) ?_
           refine JR.nil ?_
           refine JQ.head (b12, b13) zq9 (Subs.sub zq0) (Picks.perm zq1) ?_
           trivial
          refine JA.alt rfl ?_ ?_
          ·skip
           refine JR.m rfl rfl (Mv.alloc zero_40) (by decide) ?_
           rintro _ _ _ ⟨b13, rfl, rfl, rfl⟩
           refine ⟨⟨Subs.sub zq0, .inr (St.keep zq0 zq1)⟩, ?_⟩
           refine JR.m rfl rfl (Mv.callB body_113 rfl (f113_spec ((BitVec.ofNat 64 n).toNat * (ws.getD i 0).toNat) (totN ws) (prod_lt _ _) htl) zq1 zq4 zq14) (by decide) ?_
           rintro _ _ _ ⟨_, ⟨rfl, _, rfl⟩, hΓ, hH⟩
           simp only [List.cons_append, List.nil_append] at hH; subst hΓ hH
           rw [show (BitVec.ofNat 64 n).toNat = n from by rw [BitVec.toNat_ofNat]; omega]
           refine ⟨⟨Subs.sub zq0, .inr (St.keep zq0 zq1)⟩, ?_⟩
           refine JR.u rfl rfl rfl (Yv.move rfl) (by decide) (JR.u rfl rfl rfl (Yv.as (v' := .agg ((wd (qN ws n i)).map u64).toArray) (Yv.extract rfl rfl) rfl) (by decide) (JR.u rfl rfl rfl (Yv.as (v' := .agg ((wd (rN ws n i)).map u64).toArray) (Yv.extract rfl rfl) rfl) (by decide) (JR.u rfl rfl rfl (Yv.as (v' := it (if totN ws = 0 then 11 else 0)) (Yv.extract rfl rfl) rfl) (by decide) ?_)))
           refine JR.m0 rfl rfl (Mv.storeAll sz_40 rfl rfl rfl zq13 (by (simp; done)) zq11 zq13) ?_
           rintro _ _ _ ⟨rfl, rfl⟩
           refine ⟨⟨Subs.sub zq0, .inl rfl⟩, ?_⟩
           refine JR.m0 rfl rfl (Mv.storeAll sz_40 rfl rfl rfl zq13 (by (simp; done)) zq11 zq13) ?_
           rintro _ _ _ ⟨rfl, rfl⟩
           refine ⟨⟨Subs.sub zq0, .inl rfl⟩, ?_⟩
           refine JR.u rfl rfl rfl (Yv.assign rfl) (by decide) ?_
           refine JR.nil ?_
           refine JQ.head (b12, b13) zq9 (Subs.sub zq0) (Picks.perm zq1) ?_
           trivial
          exact JA.nil
         refine JA.alt rfl ?_ ?_
         ·skip
          refine JR.m rfl rfl (Mv.alloc zero_40) (by decide) ?_
          rintro _ _ _ ⟨b13, rfl, rfl, rfl⟩
          refine ⟨⟨Subs.sub zq0, .inr (St.keep zq0 zq1)⟩, ?_⟩
          refine JR.alt rfl ?_ ?_
          ·skip
           refine JR.m rfl rfl (Mv.callB body_113 rfl (f113_spec ((BitVec.ofNat 64 n).toNat * (ws.getD i 0).toNat) (totN ws) (prod_lt _ _) htl) zq1 zq4 zq14) (by decide) ?_
           rintro _ _ _ ⟨_, ⟨rfl, _, rfl⟩, hΓ, hH⟩
           simp only [List.cons_append, List.nil_append] at hH; subst hΓ hH
           rw [show (BitVec.ofNat 64 n).toNat = n from by rw [BitVec.toNat_ofNat]; omega]
           refine ⟨⟨Subs.sub zq0, .inr (St.keep zq0 zq1)⟩, ?_⟩
           refine JR.u rfl rfl rfl (Yv.move rfl) (by decide) (JR.u rfl rfl rfl (Yv.as (v' := .agg ((wd (qN ws n i)).map u64).toArray) (Yv.extract rfl rfl) rfl) (by decide) (JR.u rfl rfl rfl (Yv.as (v' := .agg ((wd (rN ws n i)).map u64).toArray) (Yv.extract rfl rfl) rfl) (by decide) (JR.u rfl rfl rfl (Yv.as (v' := it (if totN ws = 0 then 11 else 0)) (Yv.extract rfl rfl) rfl) (by decide) ?_)))
           refine JR.m rfl rfl (Mv.alloc zero_40) (by decide) ?_
           rintro _ _ _ ⟨b12, rfl, rfl, rfl⟩
           refine ⟨⟨Subs.sub zq0, .inr (St.keep zq0 zq1)⟩, ?_⟩
           refine JR.m0 rfl rfl (Mv.storeAll sz_40 rfl rfl rfl zq13 (by (simp; done)) zq11 zq13) ?_
           rintro _ _ _ ⟨rfl, rfl⟩
           refine ⟨⟨Subs.sub zq0, .inl rfl⟩, ?_⟩
           refine JR.m0 rfl rfl (Mv.storeAll sz_40 rfl rfl rfl zq13 (by (simp; done)) zq11 zq13) ?_
           rintro _ _ _ ⟨rfl, rfl⟩
           refine ⟨⟨Subs.sub zq0, .inl rfl⟩, ?_⟩
           refine JR.u rfl rfl rfl (Yv.assign rfl) (by decide) ?_
           refine JR.nil ?_
           refine JQ.head (b12, b13) zq9 (Subs.sub zq0) (Picks.perm zq1) ?_
           trivial
          refine JA.alt rfl ?_ ?_
          ·skip
           refine JR.m rfl rfl (Mv.alloc zero_40) (by decide) ?_
           rintro _ _ _ ⟨b12, rfl, rfl, rfl⟩
           refine ⟨⟨Subs.sub zq0, .inr (St.keep zq0 zq1)⟩, ?_⟩
           refine JR.m rfl rfl (Mv.callB body_113 rfl (f113_spec ((BitVec.ofNat 64 n).toNat * (ws.getD i 0).toNat) (totN ws) (prod_lt _ _) htl) zq1 zq4 zq14) (by decide) ?_
           rintro _ _ _ ⟨_, ⟨rfl, _, rfl⟩, hΓ, hH⟩
           simp only [List.cons_append, List.nil_append] at hH; subst hΓ hH
           rw [show (BitVec.ofNat 64 n).toNat = n from by rw [BitVec.toNat_ofNat]; omega]
           refine ⟨⟨Subs.sub zq0, .inr (St.keep zq0 zq1)⟩, ?_⟩
           refine JR.u rfl rfl rfl (Yv.move rfl) (by decide) (JR.u rfl rfl rfl (Yv.as (v' := .agg ((wd (qN ws n i)).map u64).toArray) (Yv.extract rfl rfl) rfl) (by decide) (JR.u rfl rfl rfl (Yv.as (v' := .agg ((wd (rN ws n i)).map u64).toArray) (Yv.extract rfl rfl) rfl) (by decide) (JR.u rfl rfl rfl (Yv.as (v' := it (if totN ws = 0 then 11 else 0)) (Yv.extract rfl rfl) rfl) (by decide) ?_)))
           refine JR.m0 rfl rfl (Mv.storeAll sz_40 rfl rfl rfl zq13 (by (simp; done)) zq11 zq13) ?_
           rintro _ _ _ ⟨rfl, rfl⟩
           refine ⟨⟨Subs.sub zq0, .inl rfl⟩, ?_⟩
           refine JR.m0 rfl rfl (Mv.storeAll sz_40 rfl rfl rfl zq13 (by (simp; done)) zq11 zq13) ?_
           rintro _ _ _ ⟨rfl, rfl⟩
           refine ⟨⟨Subs.sub zq0, .inl rfl⟩, ?_⟩
           refine JR.u rfl rfl rfl (Yv.assign rfl) (by decide) ?_
           refine JR.nil ?_
           refine JQ.head (b12, b13) zq9 (Subs.sub zq0) (Picks.perm zq1) ?_
           trivial
          exact JA.nil
         exact JA.nil
        refine JA.alt rfl ?_ ?_
        ·skip
         refine JR.m rfl rfl (Mv.alloc zero_40) (by decide) ?_
         rintro _ _ _ ⟨b12, rfl, rfl, rfl⟩
         refine ⟨⟨Subs.sub zq0, .inr (St.keep zq0 zq1)⟩, ?_⟩
         refine JR.alt rfl ?_ ?_
         ·skip
          refine JR.m rfl rfl (Mv.callB body_114 rfl (f114_spec (BitVec.ofNat 64 n) (ws.getD i 0)) zq1 zq4 zq14) (by decide) ?_
          rintro _ _ _ ⟨_, ⟨rfl, _, rfl⟩, hΓ, hH⟩
          simp only [List.cons_append, List.nil_append] at hH; subst hΓ hH
          refine ⟨⟨Subs.sub zq0, .inr (St.keep zq0 zq1)⟩, ?_⟩
          refine JR.alt rfl ?_ ?_
          ·skip
           refine JR.m rfl rfl (Mv.callB body_113 rfl (f113_spec ((BitVec.ofNat 64 n).toNat * (ws.getD i 0).toNat) (totN ws) (prod_lt _ _) htl) zq1 zq4 zq14) (by decide) ?_
           rintro _ _ _ ⟨_, ⟨rfl, _, rfl⟩, hΓ, hH⟩
           simp only [List.cons_append, List.nil_append] at hH; subst hΓ hH
           rw [show (BitVec.ofNat 64 n).toNat = n from by rw [BitVec.toNat_ofNat]; omega]
           refine ⟨⟨Subs.sub zq0, .inr (St.keep zq0 zq1)⟩, ?_⟩
           refine JR.u rfl rfl rfl (Yv.move rfl) (by decide) (JR.u rfl rfl rfl (Yv.as (v' := .agg ((wd (qN ws n i)).map u64).toArray) (Yv.extract rfl rfl) rfl) (by decide) (JR.u rfl rfl rfl (Yv.as (v' := .agg ((wd (rN ws n i)).map u64).toArray) (Yv.extract rfl rfl) rfl) (by decide) (JR.u rfl rfl rfl (Yv.as (v' := it (if totN ws = 0 then 11 else 0)) (Yv.extract rfl rfl) rfl) (by decide) ?_)))
           refine JR.m rfl rfl (Mv.alloc zero_40) (by decide) ?_
           rintro _ _ _ ⟨b13, rfl, rfl, rfl⟩
           refine ⟨⟨Subs.sub zq0, .inr (St.keep zq0 zq1)⟩, ?_⟩
           refine JR.m0 rfl rfl (Mv.storeAll sz_40 rfl rfl rfl zq13 (by (simp; done)) zq11 zq13) ?_
           rintro _ _ _ ⟨rfl, rfl⟩
           refine ⟨⟨Subs.sub zq0, .inl rfl⟩, ?_⟩
           refine JR.m0 rfl rfl (Mv.storeAll sz_40 rfl rfl rfl zq13 (by (simp; done)) zq11 zq13) ?_
           rintro _ _ _ ⟨rfl, rfl⟩
           refine ⟨⟨Subs.sub zq0, .inl rfl⟩, ?_⟩
           refine JR.u rfl rfl rfl (Yv.assign rfl) (by decide) ?_
           refine JR.nil ?_
           refine JQ.head (b12, b13) zq9 (Subs.sub zq0) (Picks.perm zq1) ?_
           trivial
          refine JA.alt rfl ?_ ?_
          ·skip
           refine JR.m rfl rfl (Mv.alloc zero_40) (by decide) ?_
           rintro _ _ _ ⟨b13, rfl, rfl, rfl⟩
           refine ⟨⟨Subs.sub zq0, .inr (St.keep zq0 zq1)⟩, ?_⟩
           refine JR.m rfl rfl (Mv.callB body_113 rfl (f113_spec ((BitVec.ofNat 64 n).toNat * (ws.getD i 0).toNat) (totN ws) (prod_lt _ _) htl) zq1 zq4 zq14) (by decide) ?_
           rintro _ _ _ ⟨_, ⟨rfl, _, rfl⟩, hΓ, hH⟩
           simp only [List.cons_append, List.nil_append] at hH; subst hΓ hH
           rw [show (BitVec.ofNat 64 n).toNat = n from by rw [BitVec.toNat_ofNat]; omega]
           refine ⟨⟨Subs.sub zq0, .inr (St.keep zq0 zq1)⟩, ?_⟩
           refine JR.u rfl rfl rfl (Yv.move rfl) (by decide) (JR.u rfl rfl rfl (Yv.as (v' := .agg ((wd (qN ws n i)).map u64).toArray) (Yv.extract rfl rfl) rfl) (by decide) (JR.u rfl rfl rfl (Yv.as (v' := .agg ((wd (rN ws n i)).map u64).toArray) (Yv.extract rfl rfl) rfl) (by decide) (JR.u rfl rfl rfl (Yv.as (v' := it (if totN ws = 0 then 11 else 0)) (Yv.extract rfl rfl) rfl) (by decide) ?_)))
           refine JR.m0 rfl rfl (Mv.storeAll sz_40 rfl rfl rfl zq13 (by (simp; done)) zq11 zq13) ?_
           rintro _ _ _ ⟨rfl, rfl⟩
           refine ⟨⟨Subs.sub zq0, .inl rfl⟩, ?_⟩
           refine JR.m0 rfl rfl (Mv.storeAll sz_40 rfl rfl rfl zq13 (by (simp; done)) zq11 zq13) ?_
           rintro _ _ _ ⟨rfl, rfl⟩
           refine ⟨⟨Subs.sub zq0, .inl rfl⟩, ?_⟩
           refine JR.u rfl rfl rfl (Yv.assign rfl) (by decide) ?_
           refine JR.nil ?_
           refine JQ.head (b12, b13) zq9 (Subs.sub zq0) (Picks.perm zq1) ?_
           trivial
          exact JA.nil
         refine JA.alt rfl ?_ ?_
         ·skip
          refine JR.m rfl rfl (Mv.alloc zero_40) (by decide) ?_
          rintro _ _ _ ⟨b13, rfl, rfl, rfl⟩
          refine ⟨⟨Subs.sub zq0, .inr (St.keep zq0 zq1)⟩, ?_⟩
          refine JR.m rfl rfl (Mv.callB body_114 rfl (f114_spec (BitVec.ofNat 64 n) (ws.getD i 0)) zq1 zq4 zq14) (by decide) ?_
          rintro _ _ _ ⟨_, ⟨rfl, _, rfl⟩, hΓ, hH⟩
          simp only [List.cons_append, List.nil_append] at hH; subst hΓ hH
          refine ⟨⟨Subs.sub zq0, .inr (St.keep zq0 zq1)⟩, ?_⟩
          refine JR.m rfl rfl (Mv.callB body_113 rfl (f113_spec ((BitVec.ofNat 64 n).toNat * (ws.getD i 0).toNat) (totN ws) (prod_lt _ _) htl) zq1 zq4 zq14) (by decide) ?_
          rintro _ _ _ ⟨_, ⟨rfl, _, rfl⟩, hΓ, hH⟩
          simp only [List.cons_append, List.nil_append] at hH; subst hΓ hH
          rw [show (BitVec.ofNat 64 n).toNat = n from by rw [BitVec.toNat_ofNat]; omega]
          refine ⟨⟨Subs.sub zq0, .inr (St.keep zq0 zq1)⟩, ?_⟩
          refine JR.u rfl rfl rfl (Yv.move rfl) (by decide) (JR.u rfl rfl rfl (Yv.as (v' := .agg ((wd (qN ws n i)).map u64).toArray) (Yv.extract rfl rfl) rfl) (by decide) (JR.u rfl rfl rfl (Yv.as (v' := .agg ((wd (rN ws n i)).map u64).toArray) (Yv.extract rfl rfl) rfl) (by decide) (JR.u rfl rfl rfl (Yv.as (v' := it (if totN ws = 0 then 11 else 0)) (Yv.extract rfl rfl) rfl) (by decide) ?_)))
          refine JR.m0 rfl rfl (Mv.storeAll sz_40 rfl rfl rfl zq13 (by (simp; done)) zq11 zq13) ?_
          rintro _ _ _ ⟨rfl, rfl⟩
          refine ⟨⟨Subs.sub zq0, .inl rfl⟩, ?_⟩
          refine JR.m0 rfl rfl (Mv.storeAll sz_40 rfl rfl rfl zq13 (by (simp; done)) zq11 zq13) ?_
          rintro _ _ _ ⟨rfl, rfl⟩
          refine ⟨⟨Subs.sub zq0, .inl rfl⟩, ?_⟩
          refine JR.u rfl rfl rfl (Yv.assign rfl) (by decide) ?_
          refine JR.nil ?_
          refine JQ.head (b12, b13) zq9 (Subs.sub zq0) (Picks.perm zq1) ?_
          trivial
         exact JA.nil
        refine JA.alt rfl ?_ ?_
        ·skip
         refine JR.m rfl rfl (Mv.alloc zero_40) (by decide) ?_
         rintro _ _ _ ⟨b13, rfl, rfl, rfl⟩
         refine ⟨⟨Subs.sub zq0, .inr (St.keep zq0 zq1)⟩, ?_⟩
         refine JR.alt rfl ?_ ?_
         ·skip
          refine JR.m rfl rfl (Mv.callB body_114 rfl (f114_spec (BitVec.ofNat 64 n) (ws.getD i 0)) zq1 zq4 zq14) (by decide) ?_
          rintro _ _ _ ⟨_, ⟨rfl, _, rfl⟩, hΓ, hH⟩
          simp only [List.cons_append, List.nil_append] at hH; subst hΓ hH
          refine ⟨⟨Subs.sub zq0, .inr (St.keep zq0 zq1)⟩, ?_⟩
          refine JR.alt rfl ?_ ?_
          ·skip
           refine JR.m rfl rfl (Mv.callB body_113 rfl (f113_spec ((BitVec.ofNat 64 n).toNat * (ws.getD i 0).toNat) (totN ws) (prod_lt _ _) htl) zq1 zq4 zq14) (by decide) ?_
           rintro _ _ _ ⟨_, ⟨rfl, _, rfl⟩, hΓ, hH⟩
           simp only [List.cons_append, List.nil_append] at hH; subst hΓ hH
           rw [show (BitVec.ofNat 64 n).toNat = n from by rw [BitVec.toNat_ofNat]; omega]
           refine ⟨⟨Subs.sub zq0, .inr (St.keep zq0 zq1)⟩, ?_⟩
           refine JR.u rfl rfl rfl (Yv.move rfl) (by decide) (JR.u rfl rfl rfl (Yv.as (v' := .agg ((wd (qN ws n i)).map u64).toArray) (Yv.extract rfl rfl) rfl) (by decide) (JR.u rfl rfl rfl (Yv.as (v' := .agg ((wd (rN ws n i)).map u64).toArray) (Yv.extract rfl rfl) rfl) (by decide) (JR.u rfl rfl rfl (Yv.as (v' := it (if totN ws = 0 then 11 else 0)) (Yv.extract rfl rfl) rfl) (by decide) ?_)))
           refine JR.m rfl rfl (Mv.alloc zero_40) (by decide) ?_
           rintro _ _ _ ⟨b12, rfl, rfl, rfl⟩
           refine ⟨⟨Subs.sub zq0, .inr (St.keep zq0 zq1)⟩, ?_⟩
           refine JR.m0 rfl rfl (Mv.storeAll sz_40 rfl rfl rfl zq13 (by (simp; done)) zq11 zq13) ?_
           rintro _ _ _ ⟨rfl, rfl⟩
           refine ⟨⟨Subs.sub zq0, .inl rfl⟩, ?_⟩
           refine JR.m0 rfl rfl (Mv.storeAll sz_40 rfl rfl rfl zq13 (by (simp; done)) zq11 zq13) ?_
           rintro _ _ _ ⟨rfl, rfl⟩
           refine ⟨⟨Subs.sub zq0, .inl rfl⟩, ?_⟩
           refine JR.u rfl rfl rfl (Yv.assign rfl) (by decide) ?_
           refine JR.nil ?_
           refine JQ.head (b12, b13) zq9 (Subs.sub zq0) (Picks.perm zq1) ?_
           trivial
          refine JA.alt rfl ?_ ?_
          ·skip
           refine JR.m rfl rfl (Mv.alloc zero_40) (by decide) ?_
           rintro _ _ _ ⟨b12, rfl, rfl, rfl⟩
           refine ⟨⟨Subs.sub zq0, .inr (St.keep zq0 zq1)⟩, ?_⟩
           refine JR.m rfl rfl (Mv.callB body_113 rfl (f113_spec ((BitVec.ofNat 64 n).toNat * (ws.getD i 0).toNat) (totN ws) (prod_lt _ _) htl) zq1 zq4 zq14) (by decide) ?_
           rintro _ _ _ ⟨_, ⟨rfl, _, rfl⟩, hΓ, hH⟩
           simp only [List.cons_append, List.nil_append] at hH; subst hΓ hH
           rw [show (BitVec.ofNat 64 n).toNat = n from by rw [BitVec.toNat_ofNat]; omega]
           refine ⟨⟨Subs.sub zq0, .inr (St.keep zq0 zq1)⟩, ?_⟩
           refine JR.u rfl rfl rfl (Yv.move rfl) (by decide) (JR.u rfl rfl rfl (Yv.as (v' := .agg ((wd (qN ws n i)).map u64).toArray) (Yv.extract rfl rfl) rfl) (by decide) (JR.u rfl rfl rfl (Yv.as (v' := .agg ((wd (rN ws n i)).map u64).toArray) (Yv.extract rfl rfl) rfl) (by decide) (JR.u rfl rfl rfl (Yv.as (v' := it (if totN ws = 0 then 11 else 0)) (Yv.extract rfl rfl) rfl) (by decide) ?_)))
           refine JR.m0 rfl rfl (Mv.storeAll sz_40 rfl rfl rfl zq13 (by (simp; done)) zq11 zq13) ?_
           rintro _ _ _ ⟨rfl, rfl⟩
           refine ⟨⟨Subs.sub zq0, .inl rfl⟩, ?_⟩
           refine JR.m0 rfl rfl (Mv.storeAll sz_40 rfl rfl rfl zq13 (by (simp; done)) zq11 zq13) ?_
           rintro _ _ _ ⟨rfl, rfl⟩
           refine ⟨⟨Subs.sub zq0, .inl rfl⟩, ?_⟩
           refine JR.u rfl rfl rfl (Yv.assign rfl) (by decide) ?_
           refine JR.nil ?_
           refine JQ.head (b12, b13) zq9 (Subs.sub zq0) (Picks.perm zq1) ?_
           trivial
          exact JA.nil
         refine JA.alt rfl ?_ ?_
         ·skip
          refine JR.m rfl rfl (Mv.alloc zero_40) (by decide) ?_
          rintro _ _ _ ⟨b12, rfl, rfl, rfl⟩
          refine ⟨⟨Subs.sub zq0, .inr (St.keep zq0 zq1)⟩, ?_⟩
          refine JR.m rfl rfl (Mv.callB body_114 rfl (f114_spec (BitVec.ofNat 64 n) (ws.getD i 0)) zq1 zq4 zq14) (by decide) ?_
          rintro _ _ _ ⟨_, ⟨rfl, _, rfl⟩, hΓ, hH⟩
          simp only [List.cons_append, List.nil_append] at hH; subst hΓ hH
          refine ⟨⟨Subs.sub zq0, .inr (St.keep zq0 zq1)⟩, ?_⟩
          refine JR.m rfl rfl (Mv.callB body_113 rfl (f113_spec ((BitVec.ofNat 64 n).toNat * (ws.getD i 0).toNat) (totN ws) (prod_lt _ _) htl) zq1 zq4 zq14) (by decide) ?_
          rintro _ _ _ ⟨_, ⟨rfl, _, rfl⟩, hΓ, hH⟩
          simp only [List.cons_append, List.nil_append] at hH; subst hΓ hH
          rw [show (BitVec.ofNat 64 n).toNat = n from by rw [BitVec.toNat_ofNat]; omega]
          refine ⟨⟨Subs.sub zq0, .inr (St.keep zq0 zq1)⟩, ?_⟩
          refine JR.u rfl rfl rfl (Yv.move rfl) (by decide) (JR.u rfl rfl rfl (Yv.as (v' := .agg ((wd (qN ws n i)).map u64).toArray) (Yv.extract rfl rfl) rfl) (by decide) (JR.u rfl rfl rfl (Yv.as (v' := .agg ((wd (rN ws n i)).map u64).toArray) (Yv.extract rfl rfl) rfl) (by decide) (JR.u rfl rfl rfl (Yv.as (v' := it (if totN ws = 0 then 11 else 0)) (Yv.extract rfl rfl) rfl) (by decide) ?_)))
          refine JR.m0 rfl rfl (Mv.storeAll sz_40 rfl rfl rfl zq13 (by (simp; done)) zq11 zq13) ?_
          rintro _ _ _ ⟨rfl, rfl⟩
          refine ⟨⟨Subs.sub zq0, .inl rfl⟩, ?_⟩
          refine JR.m0 rfl rfl (Mv.storeAll sz_40 rfl rfl rfl zq13 (by (simp; done)) zq11 zq13) ?_
          rintro _ _ _ ⟨rfl, rfl⟩
          refine ⟨⟨Subs.sub zq0, .inl rfl⟩, ?_⟩
          refine JR.u rfl rfl rfl (Yv.assign rfl) (by decide) ?_
          refine JR.nil ?_
          refine JQ.head (b12, b13) zq9 (Subs.sub zq0) (Picks.perm zq1) ?_
          trivial
         exact JA.nil
        exact JA.nil
       ·skip
        obtain ⟨b12, b13⟩ := x
        dsimp only
        refine JC.seq (JC.region (JO.v (Yv.move rfl) (by decide) (JO.v (Yv.move rfl) (by decide) (JO.v (Yv.indexArr1 (j := 0) Tryz.underlying40 sz_22 rfl rfl zq6) (by decide) (JO.v (Yv.load1 one_22 rfl (by exact Kn.own zq7 (by exact wd_get _ (by decide)))) (by decide) (JO.v (Yv.as (v' := it ((qN ws n i : Nat) : Int)) (Yv.conv_u64_i Tryz.underlying22 Tryz.underlying3 rfl (by rw [wat_0, BitVec.toNat_ofNat]; omega)) (congrArg (fun k : Nat => it (k : Int)) (by rw [wat_0, BitVec.toNat_ofNat]; omega))) (by decide) ?_))))))
        refine JO.v (Yv.indexRow1 Tryz.underlying37 sz_3 rfl rfl zq7 zq6) (by decide) ?_
        refine JO.storeRow1 sz_3 rfl rfl rfl zq11 zq6 (by rw [List.length_map, hol]) ?_
        rw [set_it, out_set (by omega)]
        refine JO.nil (JQ.then_normal (JC.seq (JC.region (JO.v (Yv.move rfl) (by decide) (JO.v (Yv.move rfl) (by decide) (JO.v (Yv.move rfl) (by decide) ?_))))))
        refine JO.v (Yv.indexRow1 Tryz.underlying37 sz_3 rfl rfl zq7 zq6) (by decide) (JO.v (Yv.as (v' := it ((qN ws n i : Nat) : Int)) (Yv.load1 one_3 rfl (Kn.row zq7 (by exact gm (d := 0) (by rw [hol]; omega)))) (congrArg it (out_at (by omega)))) (by decide) (JO.v (Yv.as (v' := it ((n : Int) - (sumQ ws n (i + 1) : Int))) (Yv.bin rfl rfl (BinR.sub_i zq3)) (congrArg it (by rw [sumQ_succ]; omega))) (by decide) (JO.v (Yv.assign rfl) (by decide) (JO.nil (JQ.then_normal (JC.region ?_))))))
        refine JO.v (Yv.iface Tryz.underlying185 (fun _ h => by cases h) rfl) (by decide) (JO.v (Yv.move rfl) (by decide) (JO.v (Yv.loadOwn agg_40 zq7 rfl zq18) (by decide) (JO.v (Yv.as (v' := (.agg (lkAt ws n i).cells.toArray)) (Yv.build (cs := [it (i : Int), u64 (wat (rN ws n i) 0), u64 (wat (rN ws n i) 1), u64 (wat (rN ws n i) 2), u64 (wat (rN ws n i) 3)]) bld_187 rfl (by kernel_rfl)) (congrArg (fun l : List Value => Value.agg l.toArray) (lk_make (by omega)))) (by decide) (JO.v (Yv.iface Tryz.underlying187 (fun _ h => by cases h) rfl) (by decide) ?_))))
        refine JO.callB (f115_spec b7 vh hs (lkAt ws n i) hh (by rw [hp.length_eq]; simp [lks]; omega)) body_115 rfl zq1 zq4 (by rintro _ _ _ ⟨_, _, _, _, h, _⟩; exact h) (by decide) ?_
        rintro _ _ ⟨_, ⟨v2, ys, hp2, hh2, _, rfl⟩, hH⟩
        simp only [List.cons_append, List.nil_append] at hH; subst hH
        refine JO.nil ?_
        refine JQ.block_normal ?_
        refine JQ.then_normal (JC.region (JO.v (Yv.as (v' := it ((i + 1 : Nat) : Int)) (Yv.bin rfl rfl (BinR.add_i zq3)) (congrArg it (by omega))) (by decide) (JO.v (Yv.move rfl) (by decide) (JO.nil ?_))))
        refine JQ.head (i + 1, v2, ys) zq9 (Subs.sub zq0) (Picks.perm zq1) ?_
        exact ⟨⟨by dsimp only; omega, by dsimp only; rw [lks_succ]; exact hp2.trans (hp.append_right _), hh2⟩, by dsimp only; omega⟩
      ·try simp only [decide_eq_true_eq, decide_eq_false_iff_not, Bool.not_eq_true', Bool.not_eq_false', ne_eq, Decidable.not_not, Bool.not_eq_true, Bool.and_eq_true, Bool.or_eq_true, BitVec.reduceToNat] at hc3
       obtain rfl : i = ws.length := by omega
       refine JC.exit ?_
       refine JQ.then_exit ?_
       refine JQ.then_exit ?_
       refine JQ.block_exit ?_
       refine JQ.then_normal (JC.seq (JC.seq (JC.region (JO.v (Yv.as (v' := it (leftN ws n : Int)) (Yv.move rfl) (congrArg it (left_eq hl hT))) (by decide) (JO.v (Yv.move rfl) (by decide) (JO.nil ?_))))))
       refine JQ.then_normal (JC.block ?_)
       refine JC.loop (ι := Nat × Value × List Lk) (fun x => x.1 ≤ leftN ws n ∧ x.2.2.Perm ((sortT ws n).drop x.1) ∧ heapTo (K x.2.2) x.2.2.length) (fun x => [(7, ptr b7 0), (8, v39), (77, it (leftN ws n : Int)), (78, it (x.1 : Int))]) (fun x => []) (fun x => [Res.cells b7 [x.2.1] 182, Res.row v39 ws.length 3 1 (((bump (outSl ws n ws.length) ((sortT ws n).take x.1))).map it), Res.row x.2.1 x.2.2.length 187 5 (lkC x.2.2)]) (fun x => leftN ws n - x.1) (0, vh, hs) zq9 (Subs.sub zq0) (Picks.perm zq1) ?_ (fun x hx => ?_)
       ·exact ⟨Nat.zero_le _, hp.trans (srt_perm _).symm, hh⟩
       obtain ⟨k, vh, hs⟩ := x
       obtain ⟨hk, hp, hh⟩ := hx
       dsimp only at hk hp hh ⊢
       refine JC.seq (JC.region (JO.v (Yv.bin rfl rfl BinR.lss_i) (by decide) (JO.nil (JQ.then_normal (JC.seq (JC.cond rfl (fun hc4 => ?_) (fun hc4 => ?_)))))))
       ·try simp only [decide_eq_true_eq, decide_eq_false_iff_not, Bool.not_eq_true', Bool.not_eq_false', ne_eq, Decidable.not_not, Bool.not_eq_true, Bool.and_eq_true, Bool.or_eq_true, BitVec.reduceToNat] at hc4
        have hks : k < (sortT ws n).length := by rw [sort_len]; have := left_le (ws := ws) (n := n) hl hT; omega
        have hpl : hs.length = ws.length - k := by rw [hp.length_eq, List.length_drop, sort_len]
        have hkw : k < ws.length := by rw [sort_len] at hks; exact hks
        refine JC.skip (JQ.then_normal (JC.seq (JC.block (JC.region (JO.v (Yv.move rfl) (by decide) (JO.v (Yv.iface Tryz.underlying185 (fun _ h => by cases h) rfl) (by decide) ?_))))))
        refine JO.callB (f116_spec b7 vh hs (ws.length - k - 1) (by rw [hpl]; omega) hh (by omega)) body_116 rfl zq1 zq4 (by rintro _ _ _ ⟨_, _, _, _, _, _, _, h, _⟩; exact h) (by decide) ?_
        rintro _ _ ⟨_, ⟨v2, ys, y, hpy, hh2, hmin, rfl, _, rfl⟩, hH⟩
        simp only [List.cons_append, List.nil_append] at hH; subst hH
        obtain ⟨hy, hys⟩ := pop_next (S := sortT ws n) (srt_sorted _) hks hp hpy hmin
        have hwl := who_lt hl hks
        rw [← hy] at hwl
        have hbb := share_bd (ws := ws) (n := n) hl hn hT (k := k) (by omega) y.who.toNat
        refine JO.v (Yv.assert Tryz.underlying187 (fun _ h => by cases h) rfl) (by decide) (JO.v (Yv.as (v' := it ((y.who.toNat : Nat) : Int)) (Yv.fieldV Tryz.underlying187 rfl Tryz.underlying3 rfl rfl) rfl) (by decide) (JO.v (Yv.indexRow1 Tryz.underlying37 sz_3 rfl rfl zq7 (by first | exact hwl | (rw [bump_len, hol]; exact hwl))) (by decide) (JO.v (Yv.load1 one_3 rfl (Kn.row zq7 (by exact gm (d := 0) (by first | exact hwl | (rw [bump_len, hol]; exact hwl))))) (by decide) (JO.v (Yv.bin rfl rfl (BinR.add_i zq3)) (by decide) (JO.v (Yv.indexRow1 Tryz.underlying37 sz_3 rfl rfl zq7 (by first | exact hwl | (rw [bump_len, hol]; exact hwl))) (by decide) ?_)))))
        refine JO.storeRow1 sz_3 rfl rfl rfl zq11 zq6 (by rw [List.length_map, bump_len, hol]) ?_
        rw [set_it]
        refine JO.nil ?_
        refine JQ.block_normal ?_
        refine JQ.then_normal (JC.region (JO.v (Yv.as (v' := it ((k + 1 : Nat) : Int)) (Yv.bin rfl rfl (BinR.add_i zq3)) (congrArg it (by omega))) (by decide) (JO.v (Yv.move rfl) (by decide) (JO.nil ?_))))
        rw [hy, bump_next hks]
        refine JQ.head (k + 1, v2, ys) zq9 (Subs.sub zq0) (Picks.perm zq1) ?_
        exact ⟨⟨by dsimp only; omega, hys, hh2⟩, by dsimp only; omega⟩
       ·try simp only [decide_eq_true_eq, decide_eq_false_iff_not, Bool.not_eq_true', Bool.not_eq_false', ne_eq, Decidable.not_not, Bool.not_eq_true, Bool.and_eq_true, Bool.or_eq_true, BitVec.reduceToNat] at hc4
        obtain rfl : k = leftN ws n := by omega
        refine JC.exit ?_
        refine JQ.then_exit ?_
        refine JQ.then_exit ?_
        refine JQ.block_exit ?_
        refine JQ.then_normal (JC.seq (JC.region (JO.v (Yv.move rfl) (by decide) (JO.v (Yv.assign rfl) (by decide) (JO.v (Yv.assign rfl) (by decide) (JO.nil ?_))))))
        refine JQ.then_normal ?_
        refine JC.ret ?_
        exact JQ.done (.inr rfl) (Γ' := []) (H' := [Res.row _ _ 3 1 _]) (res2 rfl (RV.tmp rfl) (RV.tmp rfl)) (Subs.sub zq0) (Picks.perm zq1) ⟨v39, rfl, rfl, by rw [show shareL ws ((n : Int)).toNat = (bump (outSl ws n ws.length) ((sortT ws n).take (leftN ws n))) from rfl, bump_len, hol]⟩


theorem f55b_spec (u : Value) (ws : List W64) (n0 : Int) (hE : shareE ws n0 ≠ 0) :
  Spec Tryz.prog 55 #[u, (it n0)] [Res.rd u ws.length 1 (ws.map u64)] []
   (fun r Γ' H' => r = (.tuple #[.slice none 0 0, it (shareE ws n0)]) ∧ Γ' = [] ∧ H' = []) := by
 refine Spec.of_args Tryz.func55 rfl Tryz.ntmps55 (by simp) fun w => ?_
 have htl := tot_lt ws
 refine JC.seq (JC.region (JO.v (Yv.assign rfl) (by decide) (JO.v (Yv.assign rfl) (by decide) (JO.nil (JQ.then_normal (JC.seq ?_))))))
 refine JC.region (JO.v (Yv.move rfl) (by decide) ?_)
 refine JO.callB (f112_spec u ws) body_112 rfl zq1 zq4 zq14 (by decide) ?_
 rintro _ _ ⟨_, ⟨rfl, _, rfl⟩, hH⟩
 simp only [List.cons_append, List.nil_append] at hH; subst hH
 refine JO.alloc _ zero_40 rfl (by decide) fun b6 => ?_
 refine JO.storeAll sz_40 rfl rfl rfl zq13 (by (simp; done)) zq11 zq13 ?_
 refine JO.nil (JQ.then_normal (JC.seq (JC.block (JC.seq (JC.region (JO.v (Yv.move rfl) (by decide) ?_))))))
 refine JO.v (Yv.lenRd Tryz.underlying25 rfl zq8) (by decide) (JO.v (Yv.as (v' := .bool (decide (ws.length > 40))) (Yv.bin rfl rfl BinR.gtr_i) (congrArg Value.bool (decide_eq_decide.2 (by omega)))) (by decide) (JO.v (Yv.move rfl) (by decide) ?_))
 refine JO.join 3 24 (.bool (decide (ws.length > 40 ∨ n0 < 0))) ?_ ?_
 ·skip
  refine JO.gsplit (g := 20) rfl (fun hg11 => ?_) (fun hg11 => ?_)
  ·have hg11' := hg11
   try simp only [decide_eq_true_eq, decide_eq_false_iff_not, Bool.not_eq_true', Bool.not_eq_false', ne_eq, Decidable.not_not, Bool.not_eq_true, Bool.and_eq_true, Bool.or_eq_true, BitVec.reduceToNat] at hg11'
   refine JO.gf (g := 21) rfl rfl hg11 (by decide) ?_
   refine JO.gf (g := 21) rfl rfl hg11 (by decide) ?_
   refine JO.v (Yv.pick1 rfl hg11 rfl) (by decide) (JO.nil ?_)
   refine JQ.head () zq15 (Subs.sub zq0) (Picks.perm zq1) ?_
   trivial
  ·have hg11' := hg11
   try simp only [decide_eq_true_eq, decide_eq_false_iff_not, Bool.not_eq_true', Bool.not_eq_false', ne_eq, Decidable.not_not, Bool.not_eq_true, Bool.and_eq_true, Bool.or_eq_true, BitVec.reduceToNat] at hg11'
   refine JO.gt (g := 21) rfl rfl hg11 ?_
   refine JO.v (Yv.move rfl) (by decide) ?_
   refine JO.gt (g := 21) rfl rfl hg11 ?_
   refine JO.v (Yv.bin rfl rfl BinR.lss_i) (by decide) (JO.v (Yv.pick0 rfl hg11 rfl) (by decide) (JO.nil ?_))
   refine JQ.head () zq15 (Subs.sub zq0) (Picks.perm zq1) ?_
   trivial
 ·skip
  refine JO.v (Yv.move rfl) (by decide) ?_
  refine JO.join 3 28 (.bool (decide (ws.length > 40 ∨ n0 < 0 ∨ n0 > 200))) ?_ ?_
  ·skip
   refine JO.gsplit (g := 24) rfl (fun hg15 => ?_) (fun hg15 => ?_)
   ·have hg15' := hg15
    try simp only [decide_eq_true_eq, decide_eq_false_iff_not, Bool.not_eq_true', Bool.not_eq_false', ne_eq, Decidable.not_not, Bool.not_eq_true, Bool.and_eq_true, Bool.or_eq_true, BitVec.reduceToNat] at hg15'
    refine JO.gf (g := 25) rfl rfl hg15 (by decide) ?_
    refine JO.gf (g := 25) rfl rfl hg15 (by decide) ?_
    refine JO.v (Yv.pick1 rfl hg15 rfl) (by decide) (JO.nil ?_)
    refine JQ.head () (by first | (refine ⟨by first | rfl | (show some _ = some _; exact congrArg (fun b => some (Value.bool b)) (by first | exact (decide_eq_true (by omega)).symm | exact decide_eq_decide.2 (by omega))), ?_⟩; repeat (first | exact trivial | refine ⟨rfl, ?_⟩))) (Subs.sub zq0) (Picks.perm zq1) ?_
    trivial
   ·have hg15' := hg15
    try simp only [decide_eq_true_eq, decide_eq_false_iff_not, Bool.not_eq_true', Bool.not_eq_false', ne_eq, Decidable.not_not, Bool.not_eq_true, Bool.and_eq_true, Bool.or_eq_true, BitVec.reduceToNat] at hg15'
    refine JO.gt (g := 25) rfl rfl hg15 ?_
    refine JO.v (Yv.move rfl) (by decide) ?_
    refine JO.gt (g := 25) rfl rfl hg15 ?_
    refine JO.v (Yv.bin rfl rfl BinR.gtr_i) (by decide) (JO.v (Yv.pick0 rfl hg15 rfl) (by decide) (JO.nil ?_))
    refine JQ.head () (by first | (refine ⟨by first | rfl | (show some _ = some _; exact congrArg (fun b => some (Value.bool b)) (by first | exact (decide_eq_true (by omega)).symm | exact decide_eq_decide.2 (by omega))), ?_⟩; repeat (first | exact trivial | refine ⟨rfl, ?_⟩))) (Subs.sub zq0) (Picks.perm zq1) ?_
    trivial
  ·skip
   refine JO.v (Yv.assign rfl) (by decide) (JO.nil (JQ.then_normal (JC.cond rfl (fun hc1 => ?_) (fun hc1 => ?_))))
   ·try simp only [decide_eq_true_eq, decide_eq_false_iff_not, Bool.not_eq_true', Bool.not_eq_false', ne_eq, Decidable.not_not, Bool.not_eq_true, Bool.and_eq_true, Bool.or_eq_true, BitVec.reduceToNat] at hc1
    have he : shareE ws n0 = 2 := by rw [shareE, if_pos hc1]
    refine JC.seq (JC.region (JO.v (Yv.assign rfl) (by decide) (JO.v (Yv.assign rfl) (by decide) (JO.nil (JQ.then_normal ?_)))))
    refine JC.ret ?_
    refine JQ.block_ret ?_
    refine JQ.then_ret ?_
    exact JQ.done (.inr rfl) (Γ' := []) (H' := []) (res2 rfl (RV.tmp rfl) (RV.tmp rfl)) (Subs.sub zq0) (Picks.perm zq1) ⟨by rw [he], rfl, rfl⟩
   ·try simp only [decide_eq_true_eq, decide_eq_false_iff_not, Bool.not_eq_true', Bool.not_eq_false', ne_eq, Decidable.not_not, Bool.not_eq_true, Bool.and_eq_true, Bool.or_eq_true, BitVec.reduceToNat] at hc1
    skip
    refine JC.seq (JC.region (JO.v (Yv.move rfl) (by decide) (JO.v (Yv.bin rfl rfl BinR.gtr_i) (by decide) (JO.v (Yv.move rfl) (by decide) ?_))))
    refine JO.join 4 36 (.bool (decide (n0 > 0 ∧ totN ws = 0))) ?_ ?_
    ·skip
     refine JO.gsplit (g := 31) rfl (fun hg24 => ?_) (fun hg24 => ?_)
     ·have hg24' := hg24
      try simp only [decide_eq_true_eq, decide_eq_false_iff_not, Bool.not_eq_true', Bool.not_eq_false', ne_eq, Decidable.not_not, Bool.not_eq_true, Bool.and_eq_true, Bool.or_eq_true, BitVec.reduceToNat] at hg24'
      refine JO.gt (g := 32) rfl rfl hg24 ?_
      refine JO.v (Yv.loadOwn agg_40 zq7 rfl zq18) (by decide) ?_
      refine JO.gt (g := 32) rfl rfl hg24 ?_
      refine JO.v (Yv.as (v' := .agg ((wd 0).map u64).toArray) (Yv.build bld_40 rfl rfl) rfl) (by decide) ?_
      refine JO.gt (g := 32) rfl rfl hg24 ?_
      refine JO.v (Yv.as (v' := .bool (decide (totN ws = 0))) (Yv.bin rfl rfl (eql_nat wd_len' wd_len')) (congrArg Value.bool (decide_eq_decide.2 (by rw [wd_eq htl (by decide)])))) (by decide) (JO.v (Yv.pick1 rfl hg24 rfl) (by decide) (JO.nil ?_))
      refine JQ.head () zq15 (Subs.sub zq0) (Picks.perm zq1) ?_
      trivial
     ·have hg24' := hg24
      try simp only [decide_eq_true_eq, decide_eq_false_iff_not, Bool.not_eq_true', Bool.not_eq_false', ne_eq, Decidable.not_not, Bool.not_eq_true, Bool.and_eq_true, Bool.or_eq_true, BitVec.reduceToNat] at hg24'
      refine JO.gf (g := 32) rfl rfl hg24 (by decide) ?_
      refine JO.gf (g := 32) rfl rfl hg24 (by decide) ?_
      refine JO.gf (g := 32) rfl rfl hg24 (by decide) ?_
      refine JO.v (Yv.pick0 rfl hg24 rfl) (by decide) (JO.nil ?_)
      refine JQ.head () zq15 (Subs.sub zq0) (Picks.perm zq1) ?_
      trivial
    ·skip
     refine JO.v (Yv.assign rfl) (by decide) (JO.nil (JQ.then_normal (JC.cond rfl (fun hc2 => ?_) (fun hc2 => ?_))))
     ·try simp only [decide_eq_true_eq, decide_eq_false_iff_not, Bool.not_eq_true', Bool.not_eq_false', ne_eq, Decidable.not_not, Bool.not_eq_true, Bool.and_eq_true, Bool.or_eq_true, BitVec.reduceToNat] at hc2
      have he : shareE ws n0 = 11 := by rw [shareE, if_neg hc1, if_pos hc2]
      refine JC.seq (JC.region (JO.v (Yv.assign rfl) (by decide) (JO.v (Yv.assign rfl) (by decide) (JO.nil (JQ.then_normal ?_)))))
      refine JC.ret ?_
      refine JQ.block_ret ?_
      refine JQ.then_ret ?_
      exact JQ.done (.inr rfl) (Γ' := []) (H' := []) (res2 rfl (RV.tmp rfl) (RV.tmp rfl)) (Subs.sub zq0) (Picks.perm zq1) ⟨by rw [he], rfl, rfl⟩
     ·try simp only [decide_eq_true_eq, decide_eq_false_iff_not, Bool.not_eq_true', Bool.not_eq_false', ne_eq, Decidable.not_not, Bool.not_eq_true, Bool.and_eq_true, Bool.or_eq_true, BitVec.reduceToNat] at hc2
      exact absurd (by rw [shareE, if_neg hc1, if_neg hc2]) hE
theorem f87_spec (c : Cfg) :
  Spec Tryz.prog 87 #[(.agg (cfgC c).toArray)] [] []
   (fun r Γ' H' => ∃ v, r = v ∧ Γ' = [] ∧ H' = [Res.row v (winL c).length 3 1 ((winL c).map it)]) := by
 refine Spec.of_args Tryz.func87 rfl Tryz.ntmps87 (by simp) fun w => ?_
 refine .seq (.region ?_)
 refine .bx fun b1 => ?_
 refine .w (.assign rfl) ?_
 refine .nil (.tn (.seq (.region ?_)))
 refine .w (.fieldAddr fa_24_2 rfl) (.w (.ld one_3 rfl) (.w (.fieldAddr fa_24_3 rfl) (.w (.ld one_3 rfl) (.w (.fieldAddr fa_24_4 rfl) (.w (.ld one_3 rfl) (.w (.fieldAddr fa_24_5 rfl) ?_))))))
 refine .w (.ld one_3 rfl) ?_
 refine .l1 Tryz.underlying37 info_3 (fun v11 => ?_)
 refine .w (.assign rfl) ?_
 refine .nil (.tn (.ret ?_))
 exact .dn [] [Res.row v11 (winL c).length 3 1 ((winL c).map it)] (res1 rfl (.tmp rfl)) ⟨v11, rfl, rfl, rfl⟩

theorem f48_spec (c : Cfg) :
  Spec Tryz.prog 48 #[(.agg (cfgC c).toArray)] [] []
   (fun r Γ' H' => r = (it (checkE c)) ∧ Γ' = [] ∧ H' = []) := by
 refine Spec.of_args Tryz.func48 rfl Tryz.ntmps48 (by simp) fun w => ?_
 have hwl : (winL c).length = 4 := rfl
 refine .seq (.region ?_)
 refine .bx fun b1 => ?_
 refine .w (.assign rfl) ?_
 refine .nil (.tn (.seq (.seq (.region ?_))))
 refine .w (.fieldAddr fa_24_0 rfl) (.w (.ld one_3 rfl) (.w (.bin rfl rfl BinR.lss_i) (.w (.move rfl) ?_)))
 refine .join 4 12 (.bool (decide (c.T < 0 ∨ c.T > 10))) ?_ ?_
 ·refine .gn (g := 7) rfl (fun hg7 hg7' => ?_) (fun hg7 hg7' => ?_)
  ·refine .gf (g := 8) rfl rfl hg7 (by decide) ?_
   refine .gf (g := 8) rfl rfl hg7 (by decide) ?_
   refine .gf (g := 8) rfl rfl hg7 (by decide) ?_
   refine .w (.pick1 rfl hg7 rfl) (.nil ?_)
   refine .head () zq2 (fun _ h => h) (Picks.perm zq1) ?_
   trivial
  ·refine .gt (g := 8) rfl rfl hg7 ?_
   refine .w (.fieldAddr fa_24_0 rfl) ?_
   refine .gt (g := 8) rfl rfl hg7 ?_
   refine .w (.ld one_3 rfl) ?_
   refine .gt (g := 8) rfl rfl hg7 ?_
   refine .w (.bin rfl rfl BinR.gtr_i) (.w (.pick0 rfl hg7 rfl) (.nil ?_))
   refine .head () zq2 (fun _ h => h) (Picks.perm zq1) ?_
   trivial
 ·refine .w (.move rfl) ?_
  refine .join 6 19 (.bool (decide (c.T < 0 ∨ c.T > 10 ∨ c.Slots ≤ c.T))) ?_ ?_
  ·refine .gn (g := 12) rfl (fun hg12 hg12' => ?_) (fun hg12 hg12' => ?_)
   ·refine .gf (g := 13) rfl rfl hg12 (by decide) ?_
    refine .gf (g := 13) rfl rfl hg12 (by decide) ?_
    refine .gf (g := 13) rfl rfl hg12 (by decide) ?_
    refine .gf (g := 13) rfl rfl hg12 (by decide) ?_
    refine .gf (g := 13) rfl rfl hg12 (by decide) ?_
    refine .w (.pick1 rfl hg12 rfl) (.nil ?_)
    refine .head () zq2 (fun _ h => h) (Picks.perm zq1) ?_
    trivial
   ·refine .gt (g := 13) rfl rfl hg12 ?_
    refine .w (.fieldAddr fa_24_1 rfl) ?_
    refine .gt (g := 13) rfl rfl hg12 ?_
    refine .w (.ld one_3 rfl) ?_
    refine .gt (g := 13) rfl rfl hg12 ?_
    refine .w (.fieldAddr fa_24_0 rfl) ?_
    refine .gt (g := 13) rfl rfl hg12 ?_
    refine .w (.ld one_3 rfl) ?_
    refine .gt (g := 13) rfl rfl hg12 ?_
    refine .w (.bin rfl rfl BinR.leq_i) (.w (.pick0 rfl hg12 rfl) (.nil ?_))
    refine .head () zq2 (fun _ h => h) (Picks.perm zq1) ?_
    trivial
  ·refine .w (.move rfl) ?_
   refine .join 4 24 (.bool (decide (c.T < 0 ∨ c.T > 10 ∨ c.Slots ≤ c.T ∨ c.Slots > 40))) ?_ ?_
   ·refine .gn (g := 19) rfl (fun hg19 hg19' => ?_) (fun hg19 hg19' => ?_)
    ·refine .gf (g := 20) rfl rfl hg19 (by decide) ?_
     refine .gf (g := 20) rfl rfl hg19 (by decide) ?_
     refine .gf (g := 20) rfl rfl hg19 (by decide) ?_
     refine .w (.pick1 rfl hg19 rfl) (.nil ?_)
     refine .head () zq2 (fun _ h => h) (Picks.perm zq1) ?_
     trivial
    ·refine .gt (g := 20) rfl rfl hg19 ?_
     refine .w (.fieldAddr fa_24_1 rfl) ?_
     refine .gt (g := 20) rfl rfl hg19 ?_
     refine .w (.ld one_3 rfl) ?_
     refine .gt (g := 20) rfl rfl hg19 ?_
     refine .w (.bin rfl rfl BinR.gtr_i) (.w (.pick0 rfl hg19 rfl) (.nil ?_))
     refine .head () zq2 (fun _ h => h) (Picks.perm zq1) ?_
     trivial
   ·refine .nil (.tn ?_)
    refine .cn rfl (fun hc1 => ?_) (fun hc1 => ?_)
    ·have hres : checkE c = 1 := if_pos hc1
     refine .seq (.region ?_)
     refine .w (.assign rfl) ?_
     refine .nil (.tn (.ret (.then_ret ?_)))
     exact .dn [] [] (res1 rfl (.tmp rfl)) ⟨by rw [hres]; try rfl, rfl, rfl⟩
    ·skip
     refine .skip (.tn (.seq (.seq (.region ?_))))
     refine .w (.as (v' := .agg (cfgC c).toArray) (.lda agg_24 rfl) (by rfl)) (.cb (f87_spec c) body_87 ?_ (h0 := by rintro _ _ _ ⟨_, _, h, _⟩; exact h))
     rintro v26 _ ⟨_, rfl, _, rfl⟩
     refine .ap ?_
     refine .w (.as (v' := it 4) (.len Tryz.underlying37 rfl) rfl) (.w (.move rfl) ?_)
     refine .nil (.tn (.block ?_))
     refine .lp (ι := Nat) (fun x => x ≤ 4 ∧ ∀ j, j < x → ¬ ((winL c).getD j 0 < 1 ∨ (winL c).getD j 0 > 50)) (fun T x => (28, it (x : Int)) :: T) (fun T _ => T) (fun T _ => T) (fun x => 4 - x) 0 [26, 27] ?_ (fun x hx => ?_)
     ·exact ⟨by decide, fun j hj => absurd hj (Nat.not_lt_zero _)⟩
     obtain ⟨k, hk⟩ : ∃ k, k = x := ⟨_, rfl⟩
     subst hk
     obtain ⟨hk, hall⟩ := hx
     refine .seq (.region ?_)
     refine .w (.bin rfl rfl BinR.lss_i) ?_
     refine .nil (.tn (.seq ?_))
     refine .cn rfl (fun hc2 => ?_) (fun hc2 => ?_)
     ·skip
      refine .skip (.tn (.seq (.block (.seq (.region ?_)))))
      refine .w (.ix1 Tryz.underlying37 sz_3 rfl rfl) (.w (.as (v' := it ((winL c).getD k 0)) (.ld one_3 rfl (hj := by exact gm (d := 0) (by omega))) rfl) (.w (.assign rfl) ?_))
      refine .nil (.tn (.seq (.region ?_)))
      refine .w (.move rfl) (.w (.bin rfl rfl BinR.lss_i) (.w (.move rfl) ?_))
      refine .join 3 37 (.bool (decide ((winL c).getD k 0 < 1 ∨ (winL c).getD k 0 > 50))) ?_ ?_
      ·refine .gn (g := 33) rfl (fun hg35 hg35' => ?_) (fun hg35 hg35' => ?_)
       ·refine .gf (g := 34) rfl rfl hg35 (by decide) ?_
        refine .gf (g := 34) rfl rfl hg35 (by decide) ?_
        refine .w (.pick1 rfl hg35 rfl) (.nil ?_)
        refine .head () zq2 (fun _ h => h) (Picks.perm zq1) ?_
        trivial
       ·refine .gt (g := 34) rfl rfl hg35 ?_
        refine .w (.move rfl) ?_
        refine .gt (g := 34) rfl rfl hg35 ?_
        refine .w (.bin rfl rfl BinR.gtr_i) (.w (.pick0 rfl hg35 rfl) (.nil ?_))
        refine .head () zq2 (fun _ h => h) (Picks.perm zq1) ?_
        trivial
      ·refine .nil (.tn ?_)
       refine .cn rfl (fun hc3 => ?_) (fun hc3 => ?_)
       ·have hres : checkE c = 1 := by rw [checkE, if_neg hc1, if_neg (win_not (j := k) (by omega) hc3)]
        refine .seq (.region ?_)
        refine .w (.assign rfl) ?_
        refine .nil (.tn (.ret (.block_ret (.then_ret (.then_ret (.block_ret (.then_ret ?_)))))))
        exact .dn [] [] (res1 rfl (.tmp rfl)) ⟨by rw [hres]; try rfl, rfl, rfl⟩
       ·skip
        refine .skip (.block_normal (.tn (.region ?_)))
        refine .w (.asI ((k + 1 : Nat) : Int) (.bin rfl rfl (BinR.add_i zq3))) (.w (.move rfl) (.nil ?_))
        refine .hd (k + 1) ?_
        exact ⟨⟨by omega, fun j hj => by rcases Nat.lt_succ_iff_lt_or_eq.1 hj with h | rfl; exact hall j h; exact hc3⟩, by omega⟩
     ·obtain rfl : k = 4 := by omega
      have hres : checkE c = 0 := by rw [checkE, if_neg hc1, if_pos (win_all hall)]
      refine .exit (.then_exit (.then_exit (.block_exit (.tn (.seq (.region ?_))))))
      refine .w (.assign rfl) ?_
      refine .nil (.tn (.ret ?_))
      exact .dn [] [] (res1 rfl (.tmp rfl)) ⟨by rw [hres]; try rfl, rfl, rfl⟩

theorem f29_spec (z : ES) (hw : ∀ n ∈ winL z.cfg, 1 ≤ n ∧ n ≤ 50) (a : Int) (ham : a ≤ 9223372036854775807) :
  Spec Tryz.prog 29 #[(ptr z.s 0), (it a)] [Res.cells z.s (stC z) 100] []
   (fun r Γ' H' => r = (it (phaseF z.cfg a)) ∧ Γ' = [] ∧ H' = []) := by
 refine Spec.of_args Tryz.func29 rfl Tryz.ntmps29 (by simp) fun w => ?_
 have hwl : (winL z.cfg).length = 4 := rfl
 refine .seq (.region ?_)
 refine .w (.assign rfl) ?_
 refine .nil (.tn (.seq (.seq (.region ?_))))
 refine .w (.move rfl) (.w (.bin rfl rfl BinR.lss_i) ?_)
 refine .nil (.tn ?_)
 refine .cn rfl (fun hc1 => ?_) (fun hc1 => ?_)
 ·have hres : phaseF z.cfg a = 0 := if_pos hc1
  refine .seq (.region ?_)
  refine .w (.assign rfl) ?_
  refine .nil (.tn (.ret (.then_ret ?_)))
  exact .dn [] [] (res1 rfl (.tmp rfl)) ⟨by rw [hres]; try rfl, rfl, rfl⟩
 ·have hph : phaseF z.cfg a = phL (winL z.cfg) a 0 := if_neg hc1
  refine .skip (.tn (.seq (.seq (.region ?_))))
  refine .w (.move rfl) (.w (.nilCheck rfl) (.w (.fieldAddr fa_100_1 rfl) (.w (.as (v' := .agg (cfgC z.cfg).toArray) (.lda agg_24 rfl) (by rfl)) (.cb (f87_spec z.cfg) body_87 ?_ (h0 := by rintro _ _ _ ⟨_, _, h, _⟩; exact h)))))
  rintro v13 _ ⟨_, rfl, _, rfl⟩
  refine .ap ?_
  refine .w (.as (v' := it 4) (.len Tryz.underlying37 rfl) rfl) (.w (.move rfl) ?_)
  refine .nil (.tn (.block ?_))
  refine .lp (ι := Nat × Int) (fun x => x.1 ≤ 4 ∧ 0 ≤ x.2 ∧ x.2 ≤ a ∧ phL ((winL z.cfg).drop x.1) x.2 x.1 = phL (winL z.cfg) a 0) (fun T x => (15, it (x.1 : Int)) :: (1, it x.2) :: T) (fun T _ => T) (fun T _ => T) (fun x => 4 - x.1) (0, a) [13, 14] ?_ (fun x hx => ?_)
  ·exact ⟨Nat.zero_le _, by dsimp only; omega, Int.le_refl _, rfl⟩
  obtain ⟨k, a'⟩ := x
  obtain ⟨hk, h0, hle, hR⟩ := hx
  dsimp only at hk h0 hle hR ⊢
  refine .seq (.region ?_)
  refine .w (.bin rfl rfl BinR.lss_i) ?_
  refine .nil (.tn (.seq ?_))
  refine .cn rfl (fun hc2 => ?_) (fun hc2 => ?_)
  ·have hwk := hw ((winL z.cfg).getD k 0) (by rw [List.getD_eq_getElem?_getD, List.getElem?_eq_getElem (show k < (winL z.cfg).length by show k < 4; omega)]; exact List.getElem_mem _)
   obtain ⟨wn, hwn⟩ : ∃ wn, wn = (winL z.cfg).getD k 0 := ⟨_, rfl⟩
   rw [← hwn] at hwk
   refine .skip (.tn (.seq (.block (.seq (.region ?_)))))
   refine .w (.move rfl) (.w (.ix1 Tryz.underlying37 sz_3 rfl rfl) (.w (.as (v' := it wn) (.ld one_3 rfl (hj := by exact gm (d := 0) (by omega))) (congrArg it hwn.symm)) (.w (.assign rfl) (.w (.assign rfl) ?_))))
   refine .nil (.tn (.seq (.seq (.region ?_))))
   refine .w (.move rfl) (.w (.move rfl) (.w (.bin rfl rfl BinR.lss_i) ?_))
   refine .nil (.tn ?_)
   refine .cn rfl (fun hc3 => ?_) (fun hc3 => ?_)
   ·have hres : phaseF z.cfg a = (k : Int) + 1 := by rw [hph, ← hR, phL_lt (by show k < 4; omega) (by rw [← hwn]; exact hc3)]
    refine .seq (.region ?_)
    refine .w (.move rfl) (.w (.asI ((k : Int) + 1) (.bin rfl rfl (BinR.add_i zq3))) (.w (.assign rfl) ?_))
    refine .nil (.tn (.ret (.then_ret (.block_ret (.then_ret (.then_ret (.block_ret (.then_ret ?_))))))))
    exact .dn [] [] (res1 rfl (.tmp rfl)) ⟨by rw [hres]; try rfl, rfl, rfl⟩
   ·skip
    refine .skip (.tn (.region ?_))
    refine .w (.move rfl) (.w (.move rfl) (.w (.asI (a' - wn) (.bin rfl rfl (BinR.sub_i zq3))) (.w (.assign rfl) ?_)))
    refine .nil (.block_normal (.tn (.region ?_)))
    refine .w (.asI ((k + 1 : Nat) : Int) (.bin rfl rfl (BinR.add_i zq3))) (.w (.move rfl) (.nil ?_))
    refine .hd (k + 1, a' - wn) ?_
    refine ⟨⟨by dsimp only; omega, by dsimp only; omega, by dsimp only; omega, ?_⟩, by dsimp only; omega⟩
    dsimp only
    have h9 := phL_ge (l := winL z.cfg) (x := k) (by show k < 4; omega) (a := a') (k := (k : Int)) (by rw [← hwn]; exact hc3)
    rw [← hwn] at h9
    rw [← hR, h9]
    rfl
  ·obtain rfl : k = 4 := by omega
   have hres : phaseF z.cfg a = 5 := by rw [hph, ← hR]; rfl
   refine .exit (.then_exit (.then_exit (.block_exit (.tn (.seq (.region ?_))))))
   refine .w (.assign rfl) ?_
   refine .nil (.tn (.ret ?_))
   exact .dn [] [] (res1 rfl (.tmp rfl)) ⟨by rw [hres]; try rfl, rfl, rfl⟩

theorem f63_spec (z : ES) (n : Int) :
  Spec Tryz.prog 63 #[(ptr z.s 0), (it n)] [Res.cells z.s (stC z) 100, Res.rd z.sv z.S.length 1 (z.S.map u64), Res.rd z.cv z.cnt.length 1 (z.cnt.map it), Res.rd z.ov z.own.length 1 (z.own.map it), Res.rd z.av z.ps.length 1 (z.ps.map fun p => ptr p 0)] []
   (fun r Γ' H' => r = (.bool (decide (0 ≤ n ∧ n < (z.ps.length : Int)))) ∧ Γ' = [] ∧ H' = []) := by
 refine Spec.of_args Tryz.func63 rfl Tryz.ntmps63 (by simp) fun w => ?_
 refine JC.know (φ := z.ps.length ≤ 9223372036854775807) (fun w hs => by obtain ⟨_, _, _, _, _, _, h⟩ := hs.rdForm (.tail _ (.tail _ (.tail _ (.tail _ (.head _))))); unfold maxLen at h; omega) fun hll => ?_
 refine .seq (.region ?_)
 refine .w (.assign rfl) ?_
 refine .nil (.tn (.seq (.region ?_)))
 refine .w (.move rfl) (.w (.asB (0 ≤ n) (.bin rfl rfl BinR.geq_i)) (.w (.move rfl) ?_))
 refine .join 8 15 (.bool (decide (0 ≤ n ∧ n < (z.ps.length : Int)))) ?_ ?_
 ·refine .gn (g := 6) rfl (fun hg5 hg5' => ?_) (fun hg5 hg5' => ?_)
  ·refine .gt (g := 7) rfl rfl hg5 ?_
   refine .w (.move rfl) ?_
   refine .gt (g := 7) rfl rfl hg5 ?_
   refine .w (.move rfl) ?_
   refine .gt (g := 7) rfl rfl hg5 ?_
   refine .w (.nilCheck rfl) ?_
   refine .gt (g := 7) rfl rfl hg5 ?_
   refine .w (.fieldAddr fa_100_7 rfl) ?_
   refine .gt (g := 7) rfl rfl hg5 ?_
   refine .w (.ld one_98 rfl) ?_
   refine .gt (g := 7) rfl rfl hg5 ?_
   refine .w (.len Tryz.underlying98 rfl) ?_
   refine .gt (g := 7) rfl rfl hg5 ?_
   refine .w (.bin rfl rfl BinR.lss_i) (.w (.pick1 rfl hg5 rfl) (.nil ?_))
   refine .head () zq2 (fun _ h => h) (Picks.perm zq1) ?_
   trivial
  ·refine .gf (g := 7) rfl rfl hg5 (by decide) ?_
   refine .gf (g := 7) rfl rfl hg5 (by decide) ?_
   refine .gf (g := 7) rfl rfl hg5 (by decide) ?_
   refine .gf (g := 7) rfl rfl hg5 (by decide) ?_
   refine .gf (g := 7) rfl rfl hg5 (by decide) ?_
   refine .gf (g := 7) rfl rfl hg5 (by decide) ?_
   refine .gf (g := 7) rfl rfl hg5 (by decide) ?_
   refine .w (.pick0 rfl hg5 rfl) (.nil ?_)
   refine .head () zq2 (fun _ h => h) (Picks.perm zq1) ?_
   trivial
 ·refine .w (.assign rfl) ?_
  refine .nil (.tn (.ret ?_))
  exact .dn [] [] (res1 rfl (.tmp rfl)) ⟨rfl, rfl, rfl⟩

theorem f64_spec (z : ES) (n : Int) :
  Spec Tryz.prog 64 #[(ptr z.s 0), (it n)] [Res.cells z.s (stC z) 100, Res.rd z.sv z.S.length 1 (z.S.map u64), Res.rd z.cv z.cnt.length 1 (z.cnt.map it), Res.rd z.ov z.own.length 1 (z.own.map it), Res.rd z.av z.ps.length 1 (z.ps.map fun p => ptr p 0)] []
   (fun r Γ' H' => r = (.bool (decide (0 ≤ n ∧ n < (z.own.length : Int)))) ∧ Γ' = [] ∧ H' = []) := by
 refine Spec.of_args Tryz.func64 rfl Tryz.ntmps64 (by simp) fun w => ?_
 refine JC.know (φ := z.own.length ≤ 9223372036854775807) (fun w hs => by obtain ⟨_, _, _, _, _, _, h⟩ := hs.rdForm (.tail _ (.tail _ (.tail _ (.head _)))); unfold maxLen at h; omega) fun hll => ?_
 refine .seq (.region ?_)
 refine .w (.assign rfl) ?_
 refine .nil (.tn (.seq (.region ?_)))
 refine .w (.move rfl) (.w (.asB (0 ≤ n) (.bin rfl rfl BinR.geq_i)) (.w (.move rfl) ?_))
 refine .join 8 15 (.bool (decide (0 ≤ n ∧ n < (z.own.length : Int)))) ?_ ?_
 ·refine .gn (g := 6) rfl (fun hg5 hg5' => ?_) (fun hg5 hg5' => ?_)
  ·refine .gt (g := 7) rfl rfl hg5 ?_
   refine .w (.move rfl) ?_
   refine .gt (g := 7) rfl rfl hg5 ?_
   refine .w (.move rfl) ?_
   refine .gt (g := 7) rfl rfl hg5 ?_
   refine .w (.nilCheck rfl) ?_
   refine .gt (g := 7) rfl rfl hg5 ?_
   refine .w (.fieldAddr fa_100_6 rfl) ?_
   refine .gt (g := 7) rfl rfl hg5 ?_
   refine .w (.ld one_37 rfl) ?_
   refine .gt (g := 7) rfl rfl hg5 ?_
   refine .w (.len Tryz.underlying37 rfl) ?_
   refine .gt (g := 7) rfl rfl hg5 ?_
   refine .w (.bin rfl rfl BinR.lss_i) (.w (.pick1 rfl hg5 rfl) (.nil ?_))
   refine .head () zq2 (fun _ h => h) (Picks.perm zq1) ?_
   trivial
  ·refine .gf (g := 7) rfl rfl hg5 (by decide) ?_
   refine .gf (g := 7) rfl rfl hg5 (by decide) ?_
   refine .gf (g := 7) rfl rfl hg5 (by decide) ?_
   refine .gf (g := 7) rfl rfl hg5 (by decide) ?_
   refine .gf (g := 7) rfl rfl hg5 (by decide) ?_
   refine .gf (g := 7) rfl rfl hg5 (by decide) ?_
   refine .gf (g := 7) rfl rfl hg5 (by decide) ?_
   refine .w (.pick0 rfl hg5 rfl) (.nil ?_)
   refine .head () zq2 (fun _ h => h) (Picks.perm zq1) ?_
   trivial
 ·refine .w (.assign rfl) ?_
  refine .nil (.tn (.ret ?_))
  exact .dn [] [] (res1 rfl (.tmp rfl)) ⟨rfl, rfl, rfl⟩

theorem f65_spec (z : ES) (d : DL) (k : Nat) (hps : z.ps[k]? = some d.p) :
  Spec Tryz.prog 65 #[(ptr z.s 0), (it (k : Int))] [Res.cells z.s (stC z) 100, Res.rd z.sv z.S.length 1 (z.S.map u64), Res.rd z.cv z.cnt.length 1 (z.cnt.map it), Res.rd z.ov z.own.length 1 (z.own.map it), Res.rd z.av z.ps.length 1 (z.ps.map fun p => ptr p 0), Res.cells d.p (dlC d) 105, Res.rd d.cv d.com.length 4 (bks natC d.com)] []
   (fun r Γ' H' => r = (.bool (decide (0 < d.com.length))) ∧ Γ' = [] ∧ H' = []) := by
 refine Spec.of_args Tryz.func65 rfl Tryz.ntmps65 (by simp) fun w => ?_
 have hkl := ps_lt hps
 refine JC.know (φ := z.ps.length ≤ 9223372036854775807) (fun w hs => by obtain ⟨_, _, _, _, _, _, h⟩ := hs.rdForm (.tail _ (.tail _ (.tail _ (.tail _ (.head _))))); unfold maxLen at h; omega) fun hll => ?_
 refine .seq (.region ?_)
 refine .w (.assign rfl) ?_
 refine .nil (.tn (.seq (.region ?_)))
 refine .w (.move rfl) (.w (.nilCheck rfl) (.w (.fieldAddr fa_100_7 rfl) (.w (.ld one_98 rfl) (.w (.move rfl) (.w (.ix1 Tryz.underlying98 sz_101 rfl rfl) (.w (.ld one_101 rfl (hj := by exact ps_at hps)) ?_))))))
 refine .w (.nilCheck rfl) (.w (.fieldAddr fa_105_0 rfl) (.w (.ld one_38 rfl) (.w (.len Tryz.underlying38 rfl) (.w (.asB (0 < d.com.length) (.bin rfl rfl BinR.gtr_i)) (.w (.assign rfl) ?_)))))
 refine .nil (.tn (.ret ?_))
 exact .dn [] [] (res1 rfl (.tmp rfl)) ⟨rfl, rfl, rfl⟩

theorem f66_spec (z : ES) (d : DL) (k : Nat) (hps : z.ps[k]? = some d.p) :
  Spec Tryz.prog 66 #[(ptr z.s 0), (it (k : Int))] [Res.cells z.s (stC z) 100, Res.rd z.sv z.S.length 1 (z.S.map u64), Res.rd z.cv z.cnt.length 1 (z.cnt.map it), Res.rd z.ov z.own.length 1 (z.own.map it), Res.rd z.av z.ps.length 1 (z.ps.map fun p => ptr p 0), Res.cells d.p (dlC d) 105, Res.rd d.cv d.com.length 4 (bks natC d.com), mpR d.ba itK blV d.acks, mpR d.bo itK blV d.opened] []
   (fun r Γ' H' => r = (.bool (decide (QualP z.own d))) ∧ Γ' = [] ∧ H' = []) := by
 refine Spec.of_args Tryz.func66 rfl Tryz.ntmps66 (by simp) fun w => ?_
 have hkl := ps_lt hps
 refine JC.know (φ := z.ps.length ≤ 9223372036854775807) (fun w hs => by obtain ⟨_, _, _, _, _, _, h⟩ := hs.rdForm (.tail _ (.tail _ (.tail _ (.tail _ (.head _))))); unfold maxLen at h; omega) fun hll => ?_
 refine JC.know (φ := z.own.length ≤ 9223372036854775807) (fun w hs => by obtain ⟨_, _, _, _, _, _, h⟩ := hs.rdForm (.tail _ (.tail _ (.tail _ (.head _)))); unfold maxLen at h; omega) fun hlo => ?_
 refine .seq (.region ?_)
 refine .w (.assign rfl) ?_
 refine .nil (.tn (.seq (.region ?_)))
 refine .w (.move rfl) (.w (.nilCheck rfl) (.w (.fieldAddr fa_100_7 rfl) (.w (.ld one_98 rfl) (.w (.move rfl) (.w (.ix1 Tryz.underlying98 sz_101 rfl rfl) (.w (.ld one_101 rfl (hj := by exact ps_at hps)) ?_))))))
 refine .w (.assign rfl) ?_
 refine .nil (.tn (.seq (.seq (.region ?_))))
 refine .w (.move rfl) (.w (.nilCheck rfl) (.w (.fieldAddr fa_100_6 rfl) (.w (.ld one_37 rfl) (.w (.len Tryz.underlying37 rfl) (.w (.move rfl) ?_)))))
 refine .nil (.tn (.block ?_))
 refine .lp (ι := Nat) (fun x => x ≤ z.own.length ∧ ∀ i, i < x → d.acked (z.own.getD i 0) = true ∨ d.opend i = true) (fun T x => (20, it (x : Int)) :: T) (fun T _ => T) (fun T _ => T) (fun x => z.own.length - x) 0 [0, 1, 5, 18, 19, 42, 43, 44] ?_ (fun x hx => ?_)
 ·exact ⟨Nat.zero_le _, fun j hj => absurd hj (Nat.not_lt_zero _)⟩
 obtain ⟨j, hj⟩ : ∃ j, j = x := ⟨_, rfl⟩
 subst hj
 obtain ⟨hj, hall⟩ := hx
 refine .seq (.region ?_)
 refine .w (.bin rfl rfl BinR.lss_i) ?_
 refine .nil (.tn (.seq ?_))
 refine .cn rfl (fun hc1 => ?_) (fun hc1 => ?_)
 ·skip
  refine .skip (.tn (.seq (.block (.seq (.region ?_)))))
  refine .w (.move rfl) (.w (.ix1 Tryz.underlying37 sz_3 rfl rfl) (.w (.as (v' := it (z.own.getD j 0)) (.ld one_3 rfl (hj := by exact gm (d := 0) (by omega))) rfl) (.w (.assign rfl) (.w (.assign rfl) ?_))))
  refine .nil (.tn (.seq (.region ?_)))
  refine .w (.move rfl) (.w (.nilCheck rfl) (.w (.fieldAddr fa_105_3 rfl) (.w (.ld one_102 rfl) (.w (.move rfl) (.w (.as (v' := .bool (d.acked (z.own.getD j 0))) (.lk (z.own.getD j 0) Tryz.underlying102 mkey_102 zf_4) (bl_get _ _)) (.w (.not rfl) ?_))))))
  refine .w (.move rfl) ?_
  refine .join 8 40 (.bool (!d.acked (z.own.getD j 0) && !d.opend j)) ?_ ?_
  ·refine .gn (g := 31) rfl (fun hg30 hg30' => ?_) (fun hg30 hg30' => ?_)
   ·refine .gt (g := 32) rfl rfl hg30 ?_
    refine .w (.move rfl) ?_
    refine .gt (g := 32) rfl rfl hg30 ?_
    refine .w (.nilCheck rfl) ?_
    refine .gt (g := 32) rfl rfl hg30 ?_
    refine .w (.fieldAddr fa_105_6 rfl) ?_
    refine .gt (g := 32) rfl rfl hg30 ?_
    refine .w (.ld one_102 rfl) ?_
    refine .gt (g := 32) rfl rfl hg30 ?_
    refine .w (.move rfl) ?_
    refine .gt (g := 32) rfl rfl hg30 ?_
    refine .w (.as (v' := .bool (d.opend j)) (.lk (j : Int) Tryz.underlying102 mkey_102 zf_4) (bl_get _ _)) ?_
    refine .gt (g := 32) rfl rfl hg30 ?_
    refine .w (.not rfl) (.w (.pick1 rfl hg30 rfl) (.nil ?_))
    refine .head () (by first | (refine ⟨by first | rfl | exact congrArg (fun b => some (Value.bool b)) (by first | (simp only [hg30', Bool.not_false, Bool.true_and]; done) | (simp only [hg30', Bool.not_true, Bool.false_and]; done) | rfl), ?_⟩; repeat (first | exact trivial | refine ⟨rfl, ?_⟩))) (fun _ h => h) (Picks.perm zq1) ?_
    trivial
   ·refine .gf (g := 32) rfl rfl hg30 (by decide) ?_
    refine .gf (g := 32) rfl rfl hg30 (by decide) ?_
    refine .gf (g := 32) rfl rfl hg30 (by decide) ?_
    refine .gf (g := 32) rfl rfl hg30 (by decide) ?_
    refine .gf (g := 32) rfl rfl hg30 (by decide) ?_
    refine .gf (g := 32) rfl rfl hg30 (by decide) ?_
    refine .gf (g := 32) rfl rfl hg30 (by decide) ?_
    refine .w (.pick0 rfl hg30 rfl) (.nil ?_)
    refine .head () (by first | (refine ⟨by first | rfl | exact congrArg (fun b => some (Value.bool b)) (by first | (simp only [hg30', Bool.not_false, Bool.true_and]; done) | (simp only [hg30', Bool.not_true, Bool.false_and]; done) | rfl), ?_⟩; repeat (first | exact trivial | refine ⟨rfl, ?_⟩))) (fun _ h => h) (Picks.perm zq1) ?_
    trivial
  ·refine .nil (.tn ?_)
   refine .cn rfl (fun hc2 => ?_) (fun hc2 => ?_)
   ·have hnq : ¬ QualP z.own d := fun h => by
     have := h.1 j (by omega)
     simp_all
    refine .seq (.region ?_)
    refine .w (.assign rfl) ?_
    refine .nil (.tn (.ret (.block_ret (.then_ret (.then_ret (.block_ret (.then_ret ?_)))))))
    exact .dn [] [] (res1 rfl (.tmp rfl)) ⟨by rw [decide_eq_false hnq], rfl, rfl⟩
   ·skip
    refine .skip (.block_normal (.tn (.region ?_)))
    refine .w (.asI ((j + 1 : Nat) : Int) (.bin rfl rfl (BinR.add_i zq3))) (.w (.move rfl) (.nil ?_))
    refine .hd (j + 1) ?_
    refine ⟨⟨by omega, fun i hi => ?_⟩, by omega⟩
    rcases Nat.lt_succ_iff_lt_or_eq.1 hi with h | rfl
    ·exact hall i h
    ·cases h1 : d.acked (z.own.getD i 0) <;> cases h2 : d.opend i <;> simp_all
 ·obtain rfl : j = z.own.length := by omega
  refine .exit (.then_exit (.then_exit (.block_exit (.tn (.seq (.region ?_))))))
  refine .w (.move rfl) (.w (.move rfl) (.c (f65_spec z d k hps) body_65 ?_))
  refine .w (.assign rfl) ?_
  refine .nil (.tn (.ret ?_))
  exact .dn [] [] (res1 rfl (.tmp rfl)) ⟨congrArg Value.bool (decide_eq_decide.2 ⟨fun h => ⟨hall, h⟩, fun h => h.2⟩), rfl, rfl⟩
end Go.Proofs.YtmhiapebljfebaaGreatDoor
