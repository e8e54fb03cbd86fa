/- Walks: the document's numbers: division. -/
import Derived.Test.YtfcodaigdigjmaaF12
namespace Go.Proofs.Ytfcodaigdigjmaa
open Go.RowKit
set_option maxRecDepth 100000
set_option linter.unusedVariables false
set_option linter.unusedSimpArgs false
set_option maxHeartbeats 2000000 in
theorem f40_spec (a b : Nat) (ha : a < big) (hb : b < big) :
    Spec Try.prog 40 #[(.agg (dgs a).toArray), (.agg (dgs b).toArray)] [] []
      (fun r Γ' H' => r = (.tuple #[.agg (dgs (big + a - b)).toArray, .bool (decide (a < b))]) ∧ Γ' = [] ∧ H' = []) := by
  refine Spec.of_args Try.func40 rfl Try.ntmps40 (by simp) fun w => ?_
  refine JC.seq ?_
  refine JC.region ?_
  refine JO.box rfl _ rfl (by decide) fun b2 => ?_
  refine JO.box rfl _ rfl (by decide) fun b3 => ?_
  refine JO.alloc _ zero_71 rfl (by decide) fun b4 => ?_
  refine JO.v (Yv.assign rfl) (by decide) ?_
  refine JO.nil ?_
  refine JQ.then_normal ?_
  refine JC.seq ?_
  refine JC.region ?_
  refine JO.alloc _ zero_71 rfl (by decide) fun b6 => ?_
  refine JO.nil ?_
  refine JQ.then_normal ?_
  refine JC.seq ?_
  refine JC.region ?_
  refine JO.v (Yv.as (v' := it ((br8 a b 0 : Nat) : Int)) (Yv.assign rfl) (by rw [br8_0]; rfl)) (by decide) ?_
  refine JO.nil ?_
  refine JQ.then_normal ?_
  refine JC.seq ?_
  refine JC.seq ?_
  refine JC.region ?_
  refine JO.v (Yv.assign rfl) (by decide) ?_
  refine JO.nil ?_
  refine JQ.then_normal ?_
  refine JC.block ?_
  refine JC.loop (ι := Nat) (fun x => x ≤ 64) (fun x => [(2, ptr b2 0), (3, ptr b3 0), (4, ptr b4 0), (6, ptr b6 0), (7, it ((br8 a b x : Nat) : Int)), (8, it (x : Int))]) (fun x => []) (fun x => [Res.cells b2 (dgs a) 71, Res.cells b3 (dgs b) 71, Res.cells b4 (List.replicate 64 (it 0)) 71, Res.cells b6 (dT (dgN (big + a - b)) x) 71]) (fun x => 64 - x) 0 (by repeat (first | exact trivial | refine ⟨by first | rfl | (simp; done), ?_⟩)) (Subs.sub (by repeat (first | exact Subs.nil _ | apply Subs.cons | exact List.Mem.head _ | refine List.Mem.tail _ ?_))) (Picks.perm (by repeat (first | exact Picks.nil _ | apply Picks.cons | exact Pull.here _ _ | apply Pull.there))) ?_ (fun x hx => ?_)
  · exact Nat.zero_le _
  refine JC.seq ?_
  refine JC.seq ?_
  refine JC.region ?_
  refine JO.v (Yv.move rfl) (by decide) ?_
  refine JO.v (Yv.bin rfl rfl BinR.lss_i) (by decide) ?_
  refine JO.nil ?_
  refine JQ.then_normal ?_
  refine JC.cond rfl (fun hc1 => ?_) (fun hc1 => ?_)
  · try simp only [decide_eq_true_eq, decide_eq_false_iff_not, Bool.not_eq_true', Bool.not_eq_false', ne_eq, Decidable.not_not, Bool.not_eq_true, Bool.and_eq_true, Bool.or_eq_true, BitVec.reduceToNat] at hc1
    have hda := dg_lt a x
    have hdb := dg_lt b x
    have hcl := br8_le a b x
    have hx64 : x < 64 := by omega
    have hpd := less_dg (a := a) (b := b) hb hx64
    have hcs : (dgN a x < dgN b x + br8 a b x ∧ br8 a b (x + 1) = 1) ∨ (¬ dgN a x < dgN b x + br8 a b x ∧ br8 a b (x + 1) = 0) := by
      rw [br8_succ]
      split
      · exact .inl ⟨by assumption, rfl⟩
      · exact .inr ⟨by assumption, rfl⟩
    refine JC.skip ?_
    refine JQ.then_normal ?_
    refine JC.seq ?_
    refine JC.block ?_
    refine JC.seq ?_
    refine JC.draw (.one 0 (.one 1 (.one 2 (.one 3 (.one 4 (.one 5 (.one 6 (.one 7 (.one 8 (.one 9 (.one 10 .nil))))))))))) (fun i => ([] : List Nat).contains i) (fun i => ([] : List Nat).contains i) (fun i => ([0, 1, 3, 4, 6, 7, 8, 9, 10] : List Nat).contains i) mixed (by kernel_rfl) (by decide) (by kernel_rfl) ?_
    refine JR.u rfl rfl rfl (Yv.move rfl) (by decide) ?_
    first | refine JR.u rfl rfl rfl (Yv.indexArr1 Try.underlying71 sz_3 rfl rfl (by first | exact ltb rfl | (simp; done) | (simp; omega) | omega | (simp [*]; omega))) (by decide) ?_ | refine JR.u rfl rfl rfl (Yv.indexArr1o Try.underlying71 sz_3 rfl rfl (by first | exact ltb rfl | (simp; done) | (simp; omega) | omega | (simp [*]; omega))) (by decide) ?_
    refine JR.v rfl rfl rfl (Yv.load1 one_3 rfl (by first | exact Kn.own (by repeat (first | exact List.Mem.head _ | refine List.Mem.tail _ ?_)) (by first | exact dgs_get _ (by omega) | rfl | exact tab_get (by first | omega | (simp; omega)) | exact gm (d := 0) (by first | omega | (simp; omega))) | exact Kn.ro (by repeat (first | exact List.Mem.head _ | refine List.Mem.tail _ ?_)) (by first | exact dgs_get _ (by omega) | rfl | exact tab_get (by first | omega | (simp; omega)) | exact gm (d := 0) (by first | omega | (simp; omega))) | exact Kn.row (by repeat (first | exact List.Mem.head _ | refine List.Mem.tail _ ?_)) (by first | exact dgs_get _ (by omega) | rfl | exact tab_get (by first | omega | (simp; omega)) | exact gm (d := 0) (by first | omega | (simp; omega))) | exact Kn.rd (by repeat (first | exact Lend.same _ _ | exact Lend.row _ _ _ _ _ _ (by decide) | apply Lend.there)) (by first | exact dgs_get _ (by omega) | rfl | exact tab_get (by first | omega | (simp; omega)) | exact gm (d := 0) (by first | omega | (simp; omega))) | exact Kn.rd2 (by repeat (first | exact Lend.same _ _ | exact Lend.row _ _ _ _ _ _ (by decide) | apply Lend.there)) (by first | exact dgs_get _ (by omega) | rfl | exact tab_get (by first | omega | (simp; omega)) | exact gm (d := 0) (by first | omega | (simp; omega))))) (by decide) ?_
    refine JR.u rfl rfl rfl (Yv.move rfl) (by decide) ?_
    first | refine JR.u rfl rfl rfl (Yv.indexArr1 Try.underlying71 sz_3 rfl rfl (by first | exact ltb rfl | (simp; done) | (simp; omega) | omega | (simp [*]; omega))) (by decide) ?_ | refine JR.u rfl rfl rfl (Yv.indexArr1o Try.underlying71 sz_3 rfl rfl (by first | exact ltb rfl | (simp; done) | (simp; omega) | omega | (simp [*]; omega))) (by decide) ?_
    refine JR.v rfl rfl rfl (Yv.load1 one_3 rfl (by first | exact Kn.own (by repeat (first | exact List.Mem.head _ | refine List.Mem.tail _ ?_)) (by first | exact dgs_get _ (by omega) | rfl | exact tab_get (by first | omega | (simp; omega)) | exact gm (d := 0) (by first | omega | (simp; omega))) | exact Kn.ro (by repeat (first | exact List.Mem.head _ | refine List.Mem.tail _ ?_)) (by first | exact dgs_get _ (by omega) | rfl | exact tab_get (by first | omega | (simp; omega)) | exact gm (d := 0) (by first | omega | (simp; omega))) | exact Kn.row (by repeat (first | exact List.Mem.head _ | refine List.Mem.tail _ ?_)) (by first | exact dgs_get _ (by omega) | rfl | exact tab_get (by first | omega | (simp; omega)) | exact gm (d := 0) (by first | omega | (simp; omega))) | exact Kn.rd (by repeat (first | exact Lend.same _ _ | exact Lend.row _ _ _ _ _ _ (by decide) | apply Lend.there)) (by first | exact dgs_get _ (by omega) | rfl | exact tab_get (by first | omega | (simp; omega)) | exact gm (d := 0) (by first | omega | (simp; omega))) | exact Kn.rd2 (by repeat (first | exact Lend.same _ _ | exact Lend.row _ _ _ _ _ _ (by decide) | apply Lend.there)) (by first | exact dgs_get _ (by omega) | rfl | exact tab_get (by first | omega | (simp; omega)) | exact gm (d := 0) (by first | omega | (simp; omega))))) (by decide) ?_
    refine JR.u rfl rfl rfl (Yv.bin rfl rfl (BinR.sub_i (by first | (constructor <;> omega) | (constructor <;> simp <;> omega)))) (by decide) ?_
    refine JR.u rfl rfl rfl (Yv.move rfl) (by decide) ?_
    refine JR.u rfl rfl rfl (Yv.bin rfl rfl (BinR.sub_i (by first | (constructor <;> omega) | (constructor <;> simp <;> omega)))) (by decide) ?_
    refine JR.u rfl rfl rfl (Yv.as (v' := it ((256 + dgN a x - dgN b x - br8 a b x : Nat) : Int)) (Yv.bin rfl rfl (BinR.add_i (by first | (constructor <;> omega) | (constructor <;> simp <;> omega)))) (congrArg it (by omega))) (by decide) ?_
    refine JR.u rfl rfl rfl (Yv.assign rfl) (by decide) ?_
    refine JR.nil ?_
    refine JQ.then_normal ?_
    refine JC.seq ?_
    refine JC.region ?_
    refine JO.v (Yv.move rfl) (by decide) ?_
    refine JO.v (Yv.move rfl) (by decide) ?_
    refine JO.v (Yv.as (v' := it ((dgN (big + a - b) x : Nat) : Int)) (Yv.bin rfl rfl (BinR.rem_i (by first | omega | decide | (simp; omega)) (by first | omega | decide | (simp; omega)))) (congrArg it (by omega))) (by decide) ?_
    first | refine JO.v (Yv.indexArr1 Try.underlying71 sz_3 rfl rfl (by first | exact ltb rfl | (simp; done) | (simp; omega) | omega | (simp [*]; omega))) (by decide) ?_ | refine JO.v (Yv.indexArr1o Try.underlying71 sz_3 rfl rfl (by first | exact ltb rfl | (simp; done) | (simp; omega) | omega | (simp [*]; omega))) (by decide) ?_
    first | refine JO.store1 sz_3 rfl rfl rfl (by repeat (first | exact Upd.here _ _ _ | apply Upd.there)) (by first | exact ltb rfl | (simp; done) | (simp; omega) | omega | (simp [*]; omega)) ?_ | refine JO.storeRow1 sz_3 rfl rfl rfl (by repeat (first | exact Upd.here _ _ _ | apply Upd.there)) (by first | exact ltb rfl | (simp; done) | (simp; omega) | omega | (simp [*]; omega)) (by first | rfl | (simp; done) | omega | (simp; omega)) ?_
    refine JO.nil ?_
    refine JQ.then_normal ?_
    refine JC.region ?_
    refine JO.v (Yv.move rfl) (by decide) ?_
    refine JO.v (Yv.bin rfl rfl (BinR.quo_i (by first | omega | decide | (simp; omega)) (by first | omega | decide | (simp; omega)) (by first | (constructor <;> omega) | (constructor <;> simp <;> omega)))) (by decide) ?_
    refine JO.v (Yv.as (v' := it ((br8 a b (x + 1) : Nat) : Int)) (Yv.bin rfl rfl (BinR.sub_i (by first | (constructor <;> omega) | (constructor <;> simp <;> omega)))) (congrArg it (by omega))) (by decide) ?_
    refine JO.v (Yv.assign rfl) (by decide) ?_
    refine JO.nil ?_
    refine JQ.block_normal ?_
    refine JQ.then_normal ?_
    refine JC.region ?_
    refine JO.v (Yv.move rfl) (by decide) ?_
    refine JO.v (Yv.bin rfl rfl (BinR.add_i (by first | (constructor <;> omega) | (constructor <;> simp <;> omega)))) (by decide) ?_
    refine JO.v (Yv.assign rfl) (by decide) ?_
    refine JO.nil ?_
    rw [dT_set]
    refine JQ.head (x + 1) (by repeat (first | exact trivial | refine ⟨by first | rfl | (simp; done), ?_⟩)) (Subs.sub (by repeat (first | exact Subs.nil _ | apply Subs.cons | exact List.Mem.head _ | refine List.Mem.tail _ ?_))) (Picks.perm (by repeat (first | exact Picks.nil _ | apply Picks.cons | exact Pull.here _ _ | apply Pull.there))) ?_
    exact ⟨by omega, by omega⟩
  · try simp only [decide_eq_true_eq, decide_eq_false_iff_not, Bool.not_eq_true', Bool.not_eq_false', ne_eq, Decidable.not_not, Bool.not_eq_true, Bool.and_eq_true, Bool.or_eq_true, BitVec.reduceToNat] at hc1
    obtain rfl : x = 64 := by omega
    rw [dT_all]
    refine JC.exit ?_
    refine JQ.then_exit ?_
    refine JQ.then_exit ?_
    refine JQ.block_exit ?_
    refine JQ.then_normal ?_
    refine JC.seq ?_
    refine JC.region ?_
    first | refine JO.v (Yv.loadOwn agg_71 (by repeat (first | exact List.Mem.head _ | refine List.Mem.tail _ ?_)) rfl (by first | rfl | (simp; done) | (simp; omega) | (simp [*]; done))) (by decide) ?_ | refine JO.v (Yv.loadOwnAt agg_71 (by repeat (first | exact List.Mem.head _ | refine List.Mem.tail _ ?_)) rfl (by first | rfl | (simp; done) | (simp; omega) | (simp [*]; done))) (by decide) ?_ | refine JO.v (Yv.loadRow agg_71 (by repeat (first | exact List.Mem.head _ | refine List.Mem.tail _ ?_)) rfl (by first | rfl | (simp; done) | (simp; omega) | (simp [*]; done))) (by decide) ?_ | refine JO.v (Yv.loadRd agg_71 (by repeat (first | exact Lend.same _ _ | exact Lend.row _ _ _ _ _ _ (by decide) | apply Lend.there)) rfl (by first | rfl | (simp; done) | (simp; omega) | (simp [*]; done))) (by decide) ?_ | refine JO.v (Yv.loadRo agg_71 (by repeat (first | exact List.Mem.head _ | refine List.Mem.tail _ ?_)) rfl (by first | rfl | (simp; done) | (simp; omega) | (simp [*]; done))) (by decide) ?_
    refine JO.v (Yv.move rfl) (by decide) ?_
    refine JO.v (Yv.as (v' := .bool (decide (a < b))) (Yv.bin rfl rfl BinR.eql_i) (congrArg Value.bool (by rw [br8_64 ha hb]; by_cases h : a < b <;> simp [h]))) (by decide) ?_
    first | refine JO.storeAll sz_71 rfl rfl rfl (by first | rfl | (simp; done) | (simp; omega)) (by first | (simp; done) | exact one_map (fun _ => rfl) | exact one_tab (fun _ => rfl) | exact one_tab (fun _ => by split <;> rfl)) (by repeat (first | exact Upd.here _ _ _ | apply Upd.there)) (by first | rfl | (simp; done) | (simp; omega)) ?_ | refine JO.store sz_71 rfl rfl rfl (by first | rfl | (simp; done) | (simp; omega)) (by first | (simp; done) | exact one_sing rfl | exact one_map (fun _ => rfl) | exact one_piece (one_map (fun _ => rfl)) | exact one_tab (fun _ => rfl) | exact one_tab (fun _ => by split <;> rfl)) (by repeat (first | exact Upd.here _ _ _ | apply Upd.there)) (by first | exact ltb rfl | (simp; done) | (simp; omega) | omega | (simp [*]; omega)) ?_ | refine JO.storeRow sz_71 rfl rfl rfl (by first | rfl | simp) (by first | (simp; done) | exact one_map (fun _ => rfl) | exact one_tab (fun _ => rfl) | exact one_tab (fun _ => by split <;> rfl)) (by repeat (first | exact Upd.here _ _ _ | apply Upd.there)) (by first | exact ltb rfl | (simp; done) | (simp; omega) | omega | (simp [*]; omega)) (by first | exact ltb rfl | (simp; done) | (simp; omega) | omega | (simp [*]; omega)) ?_
    refine JO.v (Yv.assign rfl) (by decide) ?_
    refine JO.nil ?_
    refine JQ.then_normal ?_
    refine JC.ret ?_
    exact JQ.done (.inr rfl) (Γ' := []) (H' := []) (res2 rfl (RV.cell agg_71 (by repeat (first | exact List.Mem.head _ | refine List.Mem.tail _ ?_)) rfl (by first | rfl | (simp; done) | (simp; omega))) (RV.tmp rfl)) (Subs.sub (by repeat (first | exact Subs.nil _ | apply Subs.cons | exact List.Mem.head _ | refine List.Mem.tail _ ?_))) (Picks.perm (by repeat (first | exact Picks.nil _ | apply Picks.cons | exact Pull.here _ _ | apply Pull.there))) ⟨rfl, rfl, rfl⟩

set_option maxHeartbeats 2000000 in
theorem f36_spec (W m : Nat) (hW : W < big) (hm : m < 115792089237316195423570985008687907853269984665640564039457584007913129639936) (h0 : 0 < m) :
    Spec Try.prog 36 #[(.agg (dgs W).toArray), (.agg (dgs m).toArray)] [] []
      (fun r Γ' H' => r = (.tuple #[.agg (dgs (W % m)).toArray, .agg (dgs (W / m)).toArray]) ∧ Γ' = [] ∧ H' = []) := by
  refine Spec.of_args Try.func36 rfl Try.ntmps36 (by simp) fun w => ?_
  refine JC.seq ?_
  refine JC.region ?_
  refine JO.box rfl _ rfl (by decide) fun b2 => ?_
  refine JO.box rfl _ rfl (by decide) fun b3 => ?_
  refine JO.alloc _ zero_71 rfl (by decide) fun b4 => ?_
  refine JO.alloc _ zero_71 rfl (by decide) fun b5 => ?_
  refine JO.nil ?_
  refine JQ.then_normal ?_
  refine JC.seq ?_
  refine JC.region ?_
  refine JO.alloc _ zero_71 rfl (by decide) fun b6 => ?_
  refine JO.nil ?_
  refine JQ.then_normal ?_
  refine JC.seq ?_
  refine JC.region ?_
  refine JO.alloc _ zero_71 rfl (by decide) fun b7 => ?_
  refine JO.nil ?_
  refine JQ.then_normal ?_
  refine JC.seq ?_
  refine JC.region ?_
  refine JO.v (Yv.as (v' := .bool (decide (W / 2 ^ 512 ≠ 0))) (Yv.assign rfl) (congrArg Value.bool (by rw [(rest_hi (m := m) hW (rfl : 512 = 8 * 64)).2.2]; rfl))) (by decide) ?_
  refine JO.nil ?_
  refine JQ.then_normal ?_
  refine JC.seq ?_
  refine JC.seq ?_
  refine JC.region ?_
  refine JO.v (Yv.as (v' := it (((512 : Nat) : Int) - 1)) (Yv.assign rfl) rfl) (by decide) ?_
  refine JO.nil ?_
  refine JQ.then_normal ?_
  refine JC.block ?_
  refine JC.loop (ι := Nat) (fun x => x ≤ 512) (fun x => [(2, ptr b2 0), (3, ptr b3 0), (4, ptr b4 0), (5, ptr b5 0), (6, ptr b6 0), (7, ptr b7 0), (8, .bool (decide (W / 2 ^ x ≠ 0))), (9, it ((x : Int) - 1))]) (fun x => []) (fun x => [Res.cells b2 (dgs W) 71, Res.cells b3 (dgs m) 71, Res.cells b4 (List.replicate 64 (it 0)) 71, Res.cells b5 (List.replicate 64 (it 0)) 71, Res.cells b6 (dgs (restK W m x)) 71, Res.cells b7 (dgs (oftK W m x)) 71]) (fun x => x) 512 (by repeat (first | exact trivial | refine ⟨by first | rfl | (simp; done), ?_⟩)) (Subs.sub (by repeat (first | exact Subs.nil _ | apply Subs.cons | exact List.Mem.head _ | refine List.Mem.tail _ ?_))) (Picks.perm (by rw [(rest_hi hW (rfl : 512 = 8 * 64)).1, (rest_hi hW (rfl : 512 = 8 * 64)).2.1, dgs_0]; repeat (first | exact Picks.nil _ | apply Picks.cons | exact Pull.here _ _ | apply Pull.there))) ?_ (fun x hx => ?_)
  · exact Nat.le_refl _
  refine JC.seq ?_
  refine JC.seq ?_
  refine JC.region ?_
  refine JO.v (Yv.move rfl) (by decide) ?_
  refine JO.v (Yv.bin rfl rfl BinR.geq_i) (by decide) ?_
  refine JO.nil ?_
  refine JQ.then_normal ?_
  refine JC.cond rfl (fun hc1 => ?_) (fun hc1 => ?_)
  · try simp only [decide_eq_true_eq, decide_eq_false_iff_not, Bool.not_eq_true', Bool.not_eq_false', ne_eq, Decidable.not_not, Bool.not_eq_true, Bool.and_eq_true, Bool.or_eq_true, BitVec.reduceToNat] at hc1
    obtain ⟨k, rfl⟩ : ∃ k, x = k + 1 := ⟨x - 1, by omega⟩
    have hbt : W / 2 ^ k % 2 < 2 := Nat.mod_lt _ (by decide)
    have hds := div_step W k
    have hrl := rest_lt (a := W) (k := k + 1) h0
    have hd0 := dg_lt W (k / 8)
    have hd1 := dg_lt (restK W m (k + 1) + restK W m (k + 1)) 0
    have hd2 := dg_lt (oftK W m (k + 1) + oftK W m (k + 1)) 0
    refine JC.skip ?_
    refine JQ.then_normal ?_
    refine JC.seq ?_
    refine JC.block ?_
    refine JC.seq ?_
    refine JC.region ?_
    refine JO.v (Yv.as (v' := it (k : Int)) (Yv.move rfl) (congrArg it (by omega))) (by decide) ?_
    refine JO.v (Yv.as (v' := it ((k / 8 : Nat) : Int)) (Yv.bin rfl rfl (BinR.quo_i (by first | omega | decide | (simp; omega)) (by first | omega | decide | (simp; omega)) (by first | (constructor <;> omega) | (constructor <;> simp <;> omega)))) (congrArg it (by omega))) (by decide) ?_
    first | refine JO.v (Yv.indexArr1 Try.underlying71 sz_3 rfl rfl (by first | exact ltb rfl | (simp; done) | (simp; omega) | omega | (simp [*]; omega))) (by decide) ?_ | refine JO.v (Yv.indexArr1o Try.underlying71 sz_3 rfl rfl (by first | exact ltb rfl | (simp; done) | (simp; omega) | omega | (simp [*]; omega))) (by decide) ?_
    refine JO.v (Yv.load1 one_3 rfl (by first | exact Kn.own (by repeat (first | exact List.Mem.head _ | refine List.Mem.tail _ ?_)) (by first | exact dgs_get _ (by omega) | rfl | exact tab_get (by first | omega | (simp; omega)) | exact gm (d := 0) (by first | omega | (simp; omega))) | exact Kn.ro (by repeat (first | exact List.Mem.head _ | refine List.Mem.tail _ ?_)) (by first | exact dgs_get _ (by omega) | rfl | exact tab_get (by first | omega | (simp; omega)) | exact gm (d := 0) (by first | omega | (simp; omega))) | exact Kn.row (by repeat (first | exact List.Mem.head _ | refine List.Mem.tail _ ?_)) (by first | exact dgs_get _ (by omega) | rfl | exact tab_get (by first | omega | (simp; omega)) | exact gm (d := 0) (by first | omega | (simp; omega))) | exact Kn.rd (by repeat (first | exact Lend.same _ _ | exact Lend.row _ _ _ _ _ _ (by decide) | apply Lend.there)) (by first | exact dgs_get _ (by omega) | rfl | exact tab_get (by first | omega | (simp; omega)) | exact gm (d := 0) (by first | omega | (simp; omega))) | exact Kn.rd2 (by repeat (first | exact Lend.same _ _ | exact Lend.row _ _ _ _ _ _ (by decide) | apply Lend.there)) (by first | exact dgs_get _ (by omega) | rfl | exact tab_get (by first | omega | (simp; omega)) | exact gm (d := 0) (by first | omega | (simp; omega))))) (by decide) ?_
    refine JO.v (Yv.as (v' := it (k : Int)) (Yv.move rfl) (congrArg it (by omega))) (by decide) ?_
    refine JO.v (Yv.as (v' := it ((k % 8 : Nat) : Int)) (Yv.bin rfl rfl (BinR.rem_i (by first | omega | decide | (simp; omega)) (by first | omega | decide | (simp; omega)))) (congrArg it (by omega))) (by decide) ?_
    refine JO.v (Yv.as (v' := it ((dgN W (k / 8) / 2 ^ (k % 8) : Nat) : Int)) (Yv.bin rfl rfl (BinR.shr_i (by first | omega | decide | (simp; omega)) (by first | omega | decide | (simp; omega)))) (congrArg it (by rw [show (((k % 8 : Nat) : Int)).toNat = k % 8 from by omega]; simp))) (by decide) ?_
    generalize hgq : dgN W (k / 8) / 2 ^ (k % 8) = gq
    refine JO.v (Yv.as (v' := it ((W / 2 ^ k % 2 : Nat) : Int)) (Yv.bin rfl rfl (BinR.rem_i (by first | omega | decide | (simp; omega)) (by first | omega | decide | (simp; omega)))) (congrArg it (by have hb8 := bit8 W k; rw [hgq] at hb8; omega))) (by decide) ?_
    refine JO.v (Yv.assign rfl) (by decide) ?_
    refine JO.nil ?_
    refine JQ.then_normal ?_
    refine JC.seq ?_
    refine JC.region ?_
    refine JO.v (Yv.move rfl) (by decide) ?_
    refine JO.v (Yv.move rfl) (by decide) ?_
    refine JO.join 3 29 (.bool (decide (W / 2 ^ k ≠ 0))) ?_ ?_
    · skip
      refine JO.gsplit (g := 8) rfl (fun hg22 => ?_) (fun hg22 => ?_)
      · have hg22' := hg22
        try simp only [decide_eq_true_eq, decide_eq_false_iff_not, Bool.not_eq_true', Bool.not_eq_false', ne_eq, Decidable.not_not, Bool.not_eq_true, Bool.and_eq_true, Bool.or_eq_true, BitVec.reduceToNat] at hg22'
        have hne : W / 2 ^ k ≠ 0 := by omega
        refine JO.gf (g := 26) rfl rfl hg22 (by decide) ?_
        refine JO.gf (g := 26) rfl rfl hg22 (by decide) ?_
        refine JO.v (Yv.pick1 rfl hg22 rfl) (by decide) ?_
        refine JO.nil ?_
        refine JQ.head () (by first | (refine ⟨by first | rfl | (show some _ = some _; exact congrArg (fun b => some (Value.bool b)) (decide_eq_true hne).symm), ?_⟩; repeat (first | exact trivial | refine ⟨rfl, ?_⟩))) (Subs.sub (by repeat (first | exact Subs.nil _ | apply Subs.cons | exact List.Mem.head _ | refine List.Mem.tail _ ?_))) (Picks.perm (by repeat (first | exact Picks.nil _ | apply Picks.cons | exact Pull.here _ _ | apply Pull.there))) ?_
        trivial
      · have hg22' := hg22
        try simp only [decide_eq_true_eq, decide_eq_false_iff_not, Bool.not_eq_true', Bool.not_eq_false', ne_eq, Decidable.not_not, Bool.not_eq_true, Bool.and_eq_true, Bool.or_eq_true, BitVec.reduceToNat] at hg22'
        refine JO.gt (g := 26) rfl rfl hg22 ?_
        refine JO.v (Yv.move rfl) (by decide) ?_
        refine JO.gt (g := 26) rfl rfl hg22 ?_
        refine JO.v (Yv.as (v' := .bool (decide (W / 2 ^ k ≠ 0))) (Yv.bin rfl rfl BinR.eql_i) (congrArg Value.bool (decide_eq_decide.2 (by omega)))) (by decide) ?_
        refine JO.v (Yv.pick0 rfl hg22 rfl) (by decide) ?_
        refine JO.nil ?_
        refine JQ.head () (by first | (refine ⟨by first | rfl | (show some _ = some _; exact congrArg (fun b => some (Value.bool b)) (decide_eq_true hne).symm), ?_⟩; repeat (first | exact trivial | refine ⟨rfl, ?_⟩))) (Subs.sub (by repeat (first | exact Subs.nil _ | apply Subs.cons | exact List.Mem.head _ | refine List.Mem.tail _ ?_))) (Picks.perm (by repeat (first | exact Picks.nil _ | apply Picks.cons | exact Pull.here _ _ | apply Pull.there))) ?_
        trivial
    · skip
      refine JO.v (Yv.assign rfl) (by decide) ?_
      refine JO.nil ?_
      refine JQ.then_normal ?_
      refine JC.seq ?_
      refine JC.seq ?_
      refine JC.region ?_
      refine JO.v (Yv.move rfl) (by decide) ?_
      refine JO.v (Yv.not rfl) (by decide) ?_
      refine JO.nil ?_
      refine JQ.then_normal ?_
      refine JC.cond rfl (fun hc2 => ?_) (fun hc2 => ?_)
      · try simp only [decide_eq_true_eq, decide_eq_false_iff_not, Bool.not_eq_true', Bool.not_eq_false', ne_eq, Decidable.not_not, Bool.not_eq_true, Bool.and_eq_true, Bool.or_eq_true, BitVec.reduceToNat] at hc2
        rw [show restK W m (k + 1) = restK W m k from by rw [rest_none (by omega), rest_none (by omega)], show oftK W m (k + 1) = oftK W m k from by rw [oft_none (by omega), oft_none (by omega)]]
        refine JC.exit ?_
        refine JQ.then_exit ?_
        refine JQ.block_exit ?_
        refine JQ.then_normal ?_
        refine JC.region ?_
        refine JO.v (Yv.as (v' := it (k : Int)) (Yv.move rfl) (congrArg it (by omega))) (by decide) ?_
        refine JO.v (Yv.bin rfl rfl (BinR.sub_i (by first | (constructor <;> omega) | (constructor <;> simp <;> omega)))) (by decide) ?_
        refine JO.v (Yv.assign rfl) (by decide) ?_
        refine JO.nil ?_
        first | rw [← hrk, ← hok] | skip
        refine JQ.head k (by repeat (first | exact trivial | refine ⟨by first | rfl | (simp; done), ?_⟩)) (Subs.sub (by repeat (first | exact Subs.nil _ | apply Subs.cons | exact List.Mem.head _ | refine List.Mem.tail _ ?_))) (Picks.perm (by repeat (first | exact Picks.nil _ | apply Picks.cons | exact Pull.here _ _ | apply Pull.there))) ?_
        exact ⟨by omega, by omega⟩
      · try simp only [decide_eq_true_eq, decide_eq_false_iff_not, Bool.not_eq_true', Bool.not_eq_false', ne_eq, Decidable.not_not, Bool.not_eq_true, Bool.and_eq_true, Bool.or_eq_true, BitVec.reduceToNat] at hc2
        skip
        refine JC.skip ?_
        refine JQ.then_normal ?_
        refine JC.seq ?_
        refine JC.region ?_
        first | refine JO.v (Yv.loadOwn agg_71 (by repeat (first | exact List.Mem.head _ | refine List.Mem.tail _ ?_)) rfl (by first | rfl | (simp; done) | (simp; omega) | (simp [*]; done))) (by decide) ?_ | refine JO.v (Yv.loadOwnAt agg_71 (by repeat (first | exact List.Mem.head _ | refine List.Mem.tail _ ?_)) rfl (by first | rfl | (simp; done) | (simp; omega) | (simp [*]; done))) (by decide) ?_ | refine JO.v (Yv.loadRow agg_71 (by repeat (first | exact List.Mem.head _ | refine List.Mem.tail _ ?_)) rfl (by first | rfl | (simp; done) | (simp; omega) | (simp [*]; done))) (by decide) ?_ | refine JO.v (Yv.loadRd agg_71 (by repeat (first | exact Lend.same _ _ | exact Lend.row _ _ _ _ _ _ (by decide) | apply Lend.there)) rfl (by first | rfl | (simp; done) | (simp; omega) | (simp [*]; done))) (by decide) ?_ | refine JO.v (Yv.loadRo agg_71 (by repeat (first | exact List.Mem.head _ | refine List.Mem.tail _ ?_)) rfl (by first | rfl | (simp; done) | (simp; omega) | (simp [*]; done))) (by decide) ?_
        first | refine JO.v (Yv.loadOwn agg_71 (by repeat (first | exact List.Mem.head _ | refine List.Mem.tail _ ?_)) rfl (by first | rfl | (simp; done) | (simp; omega) | (simp [*]; done))) (by decide) ?_ | refine JO.v (Yv.loadOwnAt agg_71 (by repeat (first | exact List.Mem.head _ | refine List.Mem.tail _ ?_)) rfl (by first | rfl | (simp; done) | (simp; omega) | (simp [*]; done))) (by decide) ?_ | refine JO.v (Yv.loadRow agg_71 (by repeat (first | exact List.Mem.head _ | refine List.Mem.tail _ ?_)) rfl (by first | rfl | (simp; done) | (simp; omega) | (simp [*]; done))) (by decide) ?_ | refine JO.v (Yv.loadRd agg_71 (by repeat (first | exact Lend.same _ _ | exact Lend.row _ _ _ _ _ _ (by decide) | apply Lend.there)) rfl (by first | rfl | (simp; done) | (simp; omega) | (simp [*]; done))) (by decide) ?_ | refine JO.v (Yv.loadRo agg_71 (by repeat (first | exact List.Mem.head _ | refine List.Mem.tail _ ?_)) rfl (by first | rfl | (simp; done) | (simp; omega) | (simp [*]; done))) (by decide) ?_
        refine JO.callB (f42_spec (restK W m (k + 1)) (restK W m (k + 1))) body_42 rfl (by repeat (first | exact Picks.nil _ | apply Picks.cons | exact Pull.here _ _ | apply Pull.there)) (by repeat (first | exact Lends.nil _ | apply Lends.cons | exact Lend.same _ _ | exact Lend.row _ _ _ _ _ _ (by decide) | apply Lend.there)) (by rintro _ _ _ ⟨_, h, _⟩; exact h) (by decide) ?_
        rintro _ _ ⟨_, ⟨rfl, _, rfl⟩, hH⟩
        simp only [List.cons_append, List.nil_append] at hH; subst hH
        first | refine JO.storeAll sz_71 rfl rfl rfl (by first | rfl | (simp; done) | (simp; omega)) (by first | (simp; done) | exact one_map (fun _ => rfl) | exact one_tab (fun _ => rfl) | exact one_tab (fun _ => by split <;> rfl)) (by repeat (first | exact Upd.here _ _ _ | apply Upd.there)) (by first | rfl | (simp; done) | (simp; omega)) ?_ | refine JO.store sz_71 rfl rfl rfl (by first | rfl | (simp; done) | (simp; omega)) (by first | (simp; done) | exact one_sing rfl | exact one_map (fun _ => rfl) | exact one_piece (one_map (fun _ => rfl)) | exact one_tab (fun _ => rfl) | exact one_tab (fun _ => by split <;> rfl)) (by repeat (first | exact Upd.here _ _ _ | apply Upd.there)) (by first | exact ltb rfl | (simp; done) | (simp; omega) | omega | (simp [*]; omega)) ?_ | refine JO.storeRow sz_71 rfl rfl rfl (by first | rfl | simp) (by first | (simp; done) | exact one_map (fun _ => rfl) | exact one_tab (fun _ => rfl) | exact one_tab (fun _ => by split <;> rfl)) (by repeat (first | exact Upd.here _ _ _ | apply Upd.there)) (by first | exact ltb rfl | (simp; done) | (simp; omega) | omega | (simp [*]; omega)) (by first | exact ltb rfl | (simp; done) | (simp; omega) | omega | (simp [*]; omega)) ?_
        refine JO.nil ?_
        refine JQ.then_normal ?_
        refine JC.seq ?_
        refine JC.region ?_
        first | refine JO.v (Yv.loadOwn agg_71 (by repeat (first | exact List.Mem.head _ | refine List.Mem.tail _ ?_)) rfl (by first | rfl | (simp; done) | (simp; omega) | (simp [*]; done))) (by decide) ?_ | refine JO.v (Yv.loadOwnAt agg_71 (by repeat (first | exact List.Mem.head _ | refine List.Mem.tail _ ?_)) rfl (by first | rfl | (simp; done) | (simp; omega) | (simp [*]; done))) (by decide) ?_ | refine JO.v (Yv.loadRow agg_71 (by repeat (first | exact List.Mem.head _ | refine List.Mem.tail _ ?_)) rfl (by first | rfl | (simp; done) | (simp; omega) | (simp [*]; done))) (by decide) ?_ | refine JO.v (Yv.loadRd agg_71 (by repeat (first | exact Lend.same _ _ | exact Lend.row _ _ _ _ _ _ (by decide) | apply Lend.there)) rfl (by first | rfl | (simp; done) | (simp; omega) | (simp [*]; done))) (by decide) ?_ | refine JO.v (Yv.loadRo agg_71 (by repeat (first | exact List.Mem.head _ | refine List.Mem.tail _ ?_)) rfl (by first | rfl | (simp; done) | (simp; omega) | (simp [*]; done))) (by decide) ?_
        first | refine JO.v (Yv.loadOwn agg_71 (by repeat (first | exact List.Mem.head _ | refine List.Mem.tail _ ?_)) rfl (by first | rfl | (simp; done) | (simp; omega) | (simp [*]; done))) (by decide) ?_ | refine JO.v (Yv.loadOwnAt agg_71 (by repeat (first | exact List.Mem.head _ | refine List.Mem.tail _ ?_)) rfl (by first | rfl | (simp; done) | (simp; omega) | (simp [*]; done))) (by decide) ?_ | refine JO.v (Yv.loadRow agg_71 (by repeat (first | exact List.Mem.head _ | refine List.Mem.tail _ ?_)) rfl (by first | rfl | (simp; done) | (simp; omega) | (simp [*]; done))) (by decide) ?_ | refine JO.v (Yv.loadRd agg_71 (by repeat (first | exact Lend.same _ _ | exact Lend.row _ _ _ _ _ _ (by decide) | apply Lend.there)) rfl (by first | rfl | (simp; done) | (simp; omega) | (simp [*]; done))) (by decide) ?_ | refine JO.v (Yv.loadRo agg_71 (by repeat (first | exact List.Mem.head _ | refine List.Mem.tail _ ?_)) rfl (by first | rfl | (simp; done) | (simp; omega) | (simp [*]; done))) (by decide) ?_
        refine JO.callB (f42_spec (oftK W m (k + 1)) (oftK W m (k + 1))) body_42 rfl (by repeat (first | exact Picks.nil _ | apply Picks.cons | exact Pull.here _ _ | apply Pull.there)) (by repeat (first | exact Lends.nil _ | apply Lends.cons | exact Lend.same _ _ | exact Lend.row _ _ _ _ _ _ (by decide) | apply Lend.there)) (by rintro _ _ _ ⟨_, h, _⟩; exact h) (by decide) ?_
        rintro _ _ ⟨_, ⟨rfl, _, rfl⟩, hH⟩
        simp only [List.cons_append, List.nil_append] at hH; subst hH
        first | refine JO.storeAll sz_71 rfl rfl rfl (by first | rfl | (simp; done) | (simp; omega)) (by first | (simp; done) | exact one_map (fun _ => rfl) | exact one_tab (fun _ => rfl) | exact one_tab (fun _ => by split <;> rfl)) (by repeat (first | exact Upd.here _ _ _ | apply Upd.there)) (by first | rfl | (simp; done) | (simp; omega)) ?_ | refine JO.store sz_71 rfl rfl rfl (by first | rfl | (simp; done) | (simp; omega)) (by first | (simp; done) | exact one_sing rfl | exact one_map (fun _ => rfl) | exact one_piece (one_map (fun _ => rfl)) | exact one_tab (fun _ => rfl) | exact one_tab (fun _ => by split <;> rfl)) (by repeat (first | exact Upd.here _ _ _ | apply Upd.there)) (by first | exact ltb rfl | (simp; done) | (simp; omega) | omega | (simp [*]; omega)) ?_ | refine JO.storeRow sz_71 rfl rfl rfl (by first | rfl | simp) (by first | (simp; done) | exact one_map (fun _ => rfl) | exact one_tab (fun _ => rfl) | exact one_tab (fun _ => by split <;> rfl)) (by repeat (first | exact Upd.here _ _ _ | apply Upd.there)) (by first | exact ltb rfl | (simp; done) | (simp; omega) | omega | (simp [*]; omega)) (by first | exact ltb rfl | (simp; done) | (simp; omega) | omega | (simp [*]; omega)) ?_
        refine JO.nil ?_
        refine JQ.then_normal ?_
        refine JC.seq ?_
        refine JC.region ?_
        first | refine JO.v (Yv.indexArr1 (j := 0) Try.underlying71 sz_3 rfl rfl (by first | exact ltb rfl | (simp; done) | (simp; omega) | omega | (simp [*]; omega))) (by decide) ?_ | refine JO.v (Yv.indexArr1o (j := 0) Try.underlying71 sz_3 rfl rfl (by first | exact ltb rfl | (simp; done) | (simp; omega) | omega | (simp [*]; omega))) (by decide) ?_
        refine JO.v (Yv.load1 one_3 rfl (by first | exact Kn.own (by repeat (first | exact List.Mem.head _ | refine List.Mem.tail _ ?_)) (by first | exact dgs_get _ (by omega) | rfl | exact tab_get (by first | omega | (simp; omega)) | exact gm (d := 0) (by first | omega | (simp; omega))) | exact Kn.ro (by repeat (first | exact List.Mem.head _ | refine List.Mem.tail _ ?_)) (by first | exact dgs_get _ (by omega) | rfl | exact tab_get (by first | omega | (simp; omega)) | exact gm (d := 0) (by first | omega | (simp; omega))) | exact Kn.row (by repeat (first | exact List.Mem.head _ | refine List.Mem.tail _ ?_)) (by first | exact dgs_get _ (by omega) | rfl | exact tab_get (by first | omega | (simp; omega)) | exact gm (d := 0) (by first | omega | (simp; omega))) | exact Kn.rd (by repeat (first | exact Lend.same _ _ | exact Lend.row _ _ _ _ _ _ (by decide) | apply Lend.there)) (by first | exact dgs_get _ (by omega) | rfl | exact tab_get (by first | omega | (simp; omega)) | exact gm (d := 0) (by first | omega | (simp; omega))) | exact Kn.rd2 (by repeat (first | exact Lend.same _ _ | exact Lend.row _ _ _ _ _ _ (by decide) | apply Lend.there)) (by first | exact dgs_get _ (by omega) | rfl | exact tab_get (by first | omega | (simp; omega)) | exact gm (d := 0) (by first | omega | (simp; omega))))) (by decide) ?_
        refine JO.v (Yv.move rfl) (by decide) ?_
        refine JO.v (Yv.as (v' := it ((dgN (restK W m (k + 1) + restK W m (k + 1)) 0 + W / 2 ^ k % 2 : Nat) : Int)) (Yv.bin rfl rfl (BinR.add_i (by first | (constructor <;> omega) | (constructor <;> simp <;> omega)))) (congrArg it (by omega))) (by decide) ?_
        first | refine JO.v (Yv.indexArr1 (j := 0) Try.underlying71 sz_3 rfl rfl (by first | exact ltb rfl | (simp; done) | (simp; omega) | omega | (simp [*]; omega))) (by decide) ?_ | refine JO.v (Yv.indexArr1o (j := 0) Try.underlying71 sz_3 rfl rfl (by first | exact ltb rfl | (simp; done) | (simp; omega) | omega | (simp [*]; omega))) (by decide) ?_
        first | refine JO.store1 sz_3 rfl rfl rfl (by repeat (first | exact Upd.here _ _ _ | apply Upd.there)) (by first | exact ltb rfl | (simp; done) | (simp; omega) | omega | (simp [*]; omega)) ?_ | refine JO.storeRow1 sz_3 rfl rfl rfl (by repeat (first | exact Upd.here _ _ _ | apply Upd.there)) (by first | exact ltb rfl | (simp; done) | (simp; omega) | omega | (simp [*]; omega)) (by first | rfl | (simp; done) | omega | (simp; omega)) ?_
        rw [dgs_set0 (by omega) hbt]
        refine JO.nil ?_
        refine JQ.then_normal ?_
        refine JC.seq ?_
        refine JC.region ?_
        first | refine JO.v (Yv.loadOwn agg_71 (by repeat (first | exact List.Mem.head _ | refine List.Mem.tail _ ?_)) rfl (by first | rfl | (simp; done) | (simp; omega) | (simp [*]; done))) (by decide) ?_ | refine JO.v (Yv.loadOwnAt agg_71 (by repeat (first | exact List.Mem.head _ | refine List.Mem.tail _ ?_)) rfl (by first | rfl | (simp; done) | (simp; omega) | (simp [*]; done))) (by decide) ?_ | refine JO.v (Yv.loadRow agg_71 (by repeat (first | exact List.Mem.head _ | refine List.Mem.tail _ ?_)) rfl (by first | rfl | (simp; done) | (simp; omega) | (simp [*]; done))) (by decide) ?_ | refine JO.v (Yv.loadRd agg_71 (by repeat (first | exact Lend.same _ _ | exact Lend.row _ _ _ _ _ _ (by decide) | apply Lend.there)) rfl (by first | rfl | (simp; done) | (simp; omega) | (simp [*]; done))) (by decide) ?_ | refine JO.v (Yv.loadRo agg_71 (by repeat (first | exact List.Mem.head _ | refine List.Mem.tail _ ?_)) rfl (by first | rfl | (simp; done) | (simp; omega) | (simp [*]; done))) (by decide) ?_
        first | refine JO.v (Yv.loadOwn agg_71 (by repeat (first | exact List.Mem.head _ | refine List.Mem.tail _ ?_)) rfl (by first | rfl | (simp; done) | (simp; omega) | (simp [*]; done))) (by decide) ?_ | refine JO.v (Yv.loadOwnAt agg_71 (by repeat (first | exact List.Mem.head _ | refine List.Mem.tail _ ?_)) rfl (by first | rfl | (simp; done) | (simp; omega) | (simp [*]; done))) (by decide) ?_ | refine JO.v (Yv.loadRow agg_71 (by repeat (first | exact List.Mem.head _ | refine List.Mem.tail _ ?_)) rfl (by first | rfl | (simp; done) | (simp; omega) | (simp [*]; done))) (by decide) ?_ | refine JO.v (Yv.loadRd agg_71 (by repeat (first | exact Lend.same _ _ | exact Lend.row _ _ _ _ _ _ (by decide) | apply Lend.there)) rfl (by first | rfl | (simp; done) | (simp; omega) | (simp [*]; done))) (by decide) ?_ | refine JO.v (Yv.loadRo agg_71 (by repeat (first | exact List.Mem.head _ | refine List.Mem.tail _ ?_)) rfl (by first | rfl | (simp; done) | (simp; omega) | (simp [*]; done))) (by decide) ?_
        refine JO.callB (f40_spec (restK W m (k + 1) + restK W m (k + 1) + W / 2 ^ k % 2) m (lt_big (by omega)) (small_big hm)) body_40 rfl (by repeat (first | exact Picks.nil _ | apply Picks.cons | exact Pull.here _ _ | apply Pull.there)) (by repeat (first | exact Lends.nil _ | apply Lends.cons | exact Lend.same _ _ | exact Lend.row _ _ _ _ _ _ (by decide) | apply Lend.there)) (by rintro _ _ _ ⟨_, h, _⟩; exact h) (by decide) ?_
        rintro _ _ ⟨_, ⟨rfl, _, rfl⟩, hH⟩
        simp only [List.cons_append, List.nil_append] at hH; subst hH
        refine JO.v (Yv.move rfl) (by decide) ?_
        refine JO.v (Yv.as (v' := .agg (dgs (big + (restK W m (k + 1) + restK W m (k + 1) + W / 2 ^ k % 2) - m)).toArray) (Yv.extract rfl rfl) rfl) (by decide) ?_
        refine JO.v (Yv.as (v' := .bool (decide ((restK W m (k + 1) + restK W m (k + 1) + W / 2 ^ k % 2) < m))) (Yv.extract rfl rfl) rfl) (by decide) ?_
        refine JO.alloc _ zero_71 rfl (by decide) fun b11 => ?_
        first | refine JO.storeAll sz_71 rfl rfl rfl (by first | rfl | (simp; done) | (simp; omega)) (by first | (simp; done) | exact one_map (fun _ => rfl) | exact one_tab (fun _ => rfl) | exact one_tab (fun _ => by split <;> rfl)) (by repeat (first | exact Upd.here _ _ _ | apply Upd.there)) (by first | rfl | (simp; done) | (simp; omega)) ?_ | refine JO.store sz_71 rfl rfl rfl (by first | rfl | (simp; done) | (simp; omega)) (by first | (simp; done) | exact one_sing rfl | exact one_map (fun _ => rfl) | exact one_piece (one_map (fun _ => rfl)) | exact one_tab (fun _ => rfl) | exact one_tab (fun _ => by split <;> rfl)) (by repeat (first | exact Upd.here _ _ _ | apply Upd.there)) (by first | exact ltb rfl | (simp; done) | (simp; omega) | omega | (simp [*]; omega)) ?_ | refine JO.storeRow sz_71 rfl rfl rfl (by first | rfl | simp) (by first | (simp; done) | exact one_map (fun _ => rfl) | exact one_tab (fun _ => rfl) | exact one_tab (fun _ => by split <;> rfl)) (by repeat (first | exact Upd.here _ _ _ | apply Upd.there)) (by first | exact ltb rfl | (simp; done) | (simp; omega) | omega | (simp [*]; omega)) (by first | exact ltb rfl | (simp; done) | (simp; omega) | omega | (simp [*]; omega)) ?_
        refine JO.v (Yv.assign rfl) (by decide) ?_
        refine JO.nil ?_
        refine JQ.then_normal ?_
        refine JC.seq ?_
        refine JC.region ?_
        refine JO.v (Yv.move rfl) (by decide) ?_
        refine JO.v (Yv.not rfl) (by decide) ?_
        refine JO.nil ?_
        refine JQ.then_normal ?_
        refine JC.cond rfl (fun hc3 => ?_) (fun hc3 => ?_)
        · try simp only [decide_eq_true_eq, decide_eq_false_iff_not, Bool.not_eq_true', Bool.not_eq_false', ne_eq, Decidable.not_not, Bool.not_eq_true, Bool.and_eq_true, Bool.or_eq_true, BitVec.reduceToNat] at hc3
          have hle : m ≤ (restK W m (k + 1) + restK W m (k + 1) + W / 2 ^ k % 2) := by omega
          have hrk := rest_step2 (W := W) (k := k) h0
          rw [if_pos hle] at hrk
          have hok := oft_step (W := W) (k := k) h0
          rw [if_pos hle] at hok
          refine JC.seq ?_
          refine JC.region ?_
          first | refine JO.v (Yv.loadOwn agg_71 (by repeat (first | exact List.Mem.head _ | refine List.Mem.tail _ ?_)) rfl (by first | rfl | (simp; done) | (simp; omega) | (simp [*]; done))) (by decide) ?_ | refine JO.v (Yv.loadOwnAt agg_71 (by repeat (first | exact List.Mem.head _ | refine List.Mem.tail _ ?_)) rfl (by first | rfl | (simp; done) | (simp; omega) | (simp [*]; done))) (by decide) ?_ | refine JO.v (Yv.loadRow agg_71 (by repeat (first | exact List.Mem.head _ | refine List.Mem.tail _ ?_)) rfl (by first | rfl | (simp; done) | (simp; omega) | (simp [*]; done))) (by decide) ?_ | refine JO.v (Yv.loadRd agg_71 (by repeat (first | exact Lend.same _ _ | exact Lend.row _ _ _ _ _ _ (by decide) | apply Lend.there)) rfl (by first | rfl | (simp; done) | (simp; omega) | (simp [*]; done))) (by decide) ?_ | refine JO.v (Yv.loadRo agg_71 (by repeat (first | exact List.Mem.head _ | refine List.Mem.tail _ ?_)) rfl (by first | rfl | (simp; done) | (simp; omega) | (simp [*]; done))) (by decide) ?_
          first | refine JO.storeAll sz_71 rfl rfl rfl (by first | rfl | (simp; done) | (simp; omega)) (by first | (simp; done) | exact one_map (fun _ => rfl) | exact one_tab (fun _ => rfl) | exact one_tab (fun _ => by split <;> rfl)) (by repeat (first | exact Upd.here _ _ _ | apply Upd.there)) (by first | rfl | (simp; done) | (simp; omega)) ?_ | refine JO.store sz_71 rfl rfl rfl (by first | rfl | (simp; done) | (simp; omega)) (by first | (simp; done) | exact one_sing rfl | exact one_map (fun _ => rfl) | exact one_piece (one_map (fun _ => rfl)) | exact one_tab (fun _ => rfl) | exact one_tab (fun _ => by split <;> rfl)) (by repeat (first | exact Upd.here _ _ _ | apply Upd.there)) (by first | exact ltb rfl | (simp; done) | (simp; omega) | omega | (simp [*]; omega)) ?_ | refine JO.storeRow sz_71 rfl rfl rfl (by first | rfl | simp) (by first | (simp; done) | exact one_map (fun _ => rfl) | exact one_tab (fun _ => rfl) | exact one_tab (fun _ => by split <;> rfl)) (by repeat (first | exact Upd.here _ _ _ | apply Upd.there)) (by first | exact ltb rfl | (simp; done) | (simp; omega) | omega | (simp [*]; omega)) (by first | exact ltb rfl | (simp; done) | (simp; omega) | omega | (simp [*]; omega)) ?_
          rw [show big + (restK W m (k + 1) + restK W m (k + 1) + W / 2 ^ k % 2) - m = big + ((restK W m (k + 1) + restK W m (k + 1) + W / 2 ^ k % 2) - m) from by omega, dgs_big]
          refine JO.nil ?_
          refine JQ.then_normal ?_
          refine JC.region ?_
          first | refine JO.v (Yv.indexArr1 (j := 0) Try.underlying71 sz_3 rfl rfl (by first | exact ltb rfl | (simp; done) | (simp; omega) | omega | (simp [*]; omega))) (by decide) ?_ | refine JO.v (Yv.indexArr1o (j := 0) Try.underlying71 sz_3 rfl rfl (by first | exact ltb rfl | (simp; done) | (simp; omega) | omega | (simp [*]; omega))) (by decide) ?_
          refine JO.v (Yv.load1 one_3 rfl (by first | exact Kn.own (by repeat (first | exact List.Mem.head _ | refine List.Mem.tail _ ?_)) (by first | exact dgs_get _ (by omega) | rfl | exact tab_get (by first | omega | (simp; omega)) | exact gm (d := 0) (by first | omega | (simp; omega))) | exact Kn.ro (by repeat (first | exact List.Mem.head _ | refine List.Mem.tail _ ?_)) (by first | exact dgs_get _ (by omega) | rfl | exact tab_get (by first | omega | (simp; omega)) | exact gm (d := 0) (by first | omega | (simp; omega))) | exact Kn.row (by repeat (first | exact List.Mem.head _ | refine List.Mem.tail _ ?_)) (by first | exact dgs_get _ (by omega) | rfl | exact tab_get (by first | omega | (simp; omega)) | exact gm (d := 0) (by first | omega | (simp; omega))) | exact Kn.rd (by repeat (first | exact Lend.same _ _ | exact Lend.row _ _ _ _ _ _ (by decide) | apply Lend.there)) (by first | exact dgs_get _ (by omega) | rfl | exact tab_get (by first | omega | (simp; omega)) | exact gm (d := 0) (by first | omega | (simp; omega))) | exact Kn.rd2 (by repeat (first | exact Lend.same _ _ | exact Lend.row _ _ _ _ _ _ (by decide) | apply Lend.there)) (by first | exact dgs_get _ (by omega) | rfl | exact tab_get (by first | omega | (simp; omega)) | exact gm (d := 0) (by first | omega | (simp; omega))))) (by decide) ?_
          refine JO.v (Yv.as (v' := it ((dgN (oftK W m (k + 1) + oftK W m (k + 1)) 0 + 1 : Nat) : Int)) (Yv.bin rfl rfl (BinR.add_i (by first | (constructor <;> omega) | (constructor <;> simp <;> omega)))) (congrArg it (by omega))) (by decide) ?_
          first | refine JO.v (Yv.indexArr1 (j := 0) Try.underlying71 sz_3 rfl rfl (by first | exact ltb rfl | (simp; done) | (simp; omega) | omega | (simp [*]; omega))) (by decide) ?_ | refine JO.v (Yv.indexArr1o (j := 0) Try.underlying71 sz_3 rfl rfl (by first | exact ltb rfl | (simp; done) | (simp; omega) | omega | (simp [*]; omega))) (by decide) ?_
          first | refine JO.store1 sz_3 rfl rfl rfl (by repeat (first | exact Upd.here _ _ _ | apply Upd.there)) (by first | exact ltb rfl | (simp; done) | (simp; omega) | omega | (simp [*]; omega)) ?_ | refine JO.storeRow1 sz_3 rfl rfl rfl (by repeat (first | exact Upd.here _ _ _ | apply Upd.there)) (by first | exact ltb rfl | (simp; done) | (simp; omega) | omega | (simp [*]; omega)) (by first | rfl | (simp; done) | omega | (simp; omega)) ?_
          rw [dgs_set0 (t := 1) (by omega) (by decide)]
          refine JO.nil ?_
          refine JQ.block_normal ?_
          refine JQ.then_normal ?_
          refine JC.region ?_
          refine JO.v (Yv.as (v' := it (k : Int)) (Yv.move rfl) (congrArg it (by omega))) (by decide) ?_
          refine JO.v (Yv.bin rfl rfl (BinR.sub_i (by first | (constructor <;> omega) | (constructor <;> simp <;> omega)))) (by decide) ?_
          refine JO.v (Yv.assign rfl) (by decide) ?_
          refine JO.nil ?_
          first | rw [← hrk, ← hok] | skip
          refine JQ.head k (by repeat (first | exact trivial | refine ⟨by first | rfl | (simp; done), ?_⟩)) (Subs.sub (by repeat (first | exact Subs.nil _ | apply Subs.cons | exact List.Mem.head _ | refine List.Mem.tail _ ?_))) (Picks.perm (by repeat (first | exact Picks.nil _ | apply Picks.cons | exact Pull.here _ _ | apply Pull.there))) ?_
          exact ⟨by omega, by omega⟩
        · try simp only [decide_eq_true_eq, decide_eq_false_iff_not, Bool.not_eq_true', Bool.not_eq_false', ne_eq, Decidable.not_not, Bool.not_eq_true, Bool.and_eq_true, Bool.or_eq_true, BitVec.reduceToNat] at hc3
          have hle : ¬ m ≤ (restK W m (k + 1) + restK W m (k + 1) + W / 2 ^ k % 2) := by omega
          have hrk := rest_step2 (W := W) (k := k) h0
          rw [if_neg hle] at hrk
          have hok := oft_step (W := W) (k := k) h0
          rw [if_neg hle, Nat.add_zero] at hok
          refine JC.skip ?_
          refine JQ.block_normal ?_
          refine JQ.then_normal ?_
          refine JC.region ?_
          refine JO.v (Yv.as (v' := it (k : Int)) (Yv.move rfl) (congrArg it (by omega))) (by decide) ?_
          refine JO.v (Yv.bin rfl rfl (BinR.sub_i (by first | (constructor <;> omega) | (constructor <;> simp <;> omega)))) (by decide) ?_
          refine JO.v (Yv.assign rfl) (by decide) ?_
          refine JO.nil ?_
          first | rw [← hrk, ← hok] | skip
          refine JQ.head k (by repeat (first | exact trivial | refine ⟨by first | rfl | (simp; done), ?_⟩)) (Subs.sub (by repeat (first | exact Subs.nil _ | apply Subs.cons | exact List.Mem.head _ | refine List.Mem.tail _ ?_))) (Picks.perm (by repeat (first | exact Picks.nil _ | apply Picks.cons | exact Pull.here _ _ | apply Pull.there))) ?_
          exact ⟨by omega, by omega⟩
  · try simp only [decide_eq_true_eq, decide_eq_false_iff_not, Bool.not_eq_true', Bool.not_eq_false', ne_eq, Decidable.not_not, Bool.not_eq_true, Bool.and_eq_true, Bool.or_eq_true, BitVec.reduceToNat] at hc1
    obtain rfl : x = 0 := by omega
    rw [rest_0, oft_0]
    refine JC.frz (r := Res.cells b6 (dgs (W % m)) 71) (by repeat (first | exact Pull.here _ _ | apply Pull.there)) ?_
    refine JC.frz (r := Res.cells b7 (dgs (W / m)) 71) (by repeat (first | exact Pull.here _ _ | apply Pull.there)) ?_
    refine JC.exit ?_
    refine JQ.then_exit ?_
    refine JQ.then_exit ?_
    refine JQ.block_exit ?_
    refine JQ.then_normal ?_
    refine JC.seq ?_
    refine JC.draw (.one 0 (.one 1 (.one 2 (.one 3 .nil)))) (fun i => ([2, 3] : List Nat).contains i) (fun i => ([2, 3] : List Nat).contains i) (fun i => ([0, 1] : List Nat).contains i) mixed (by kernel_rfl) (by decide) (by kernel_rfl) ?_
    first | refine JR.u rfl rfl rfl (Yv.loadOwn agg_71 (by repeat (first | exact List.Mem.head _ | refine List.Mem.tail _ ?_)) rfl (by first | rfl | (simp; done) | (simp; omega) | (simp [*]; done))) (by decide) ?_ | refine JR.u rfl rfl rfl (Yv.loadOwnAt agg_71 (by repeat (first | exact List.Mem.head _ | refine List.Mem.tail _ ?_)) rfl (by first | rfl | (simp; done) | (simp; omega) | (simp [*]; done))) (by decide) ?_ | refine JR.u rfl rfl rfl (Yv.loadRow agg_71 (by repeat (first | exact List.Mem.head _ | refine List.Mem.tail _ ?_)) rfl (by first | rfl | (simp; done) | (simp; omega) | (simp [*]; done))) (by decide) ?_ | refine JR.u rfl rfl rfl (Yv.loadRd agg_71 (by repeat (first | exact Lend.same _ _ | exact Lend.row _ _ _ _ _ _ (by decide) | apply Lend.there)) rfl (by first | rfl | (simp; done) | (simp; omega) | (simp [*]; done))) (by decide) ?_ | refine JR.u rfl rfl rfl (Yv.loadRo agg_71 (by repeat (first | exact List.Mem.head _ | refine List.Mem.tail _ ?_)) rfl (by first | rfl | (simp; done) | (simp; omega) | (simp [*]; done))) (by decide) ?_
    first | refine JR.u rfl rfl rfl (Yv.loadOwn agg_71 (by repeat (first | exact List.Mem.head _ | refine List.Mem.tail _ ?_)) rfl (by first | rfl | (simp; done) | (simp; omega) | (simp [*]; done))) (by decide) ?_ | refine JR.u rfl rfl rfl (Yv.loadOwnAt agg_71 (by repeat (first | exact List.Mem.head _ | refine List.Mem.tail _ ?_)) rfl (by first | rfl | (simp; done) | (simp; omega) | (simp [*]; done))) (by decide) ?_ | refine JR.u rfl rfl rfl (Yv.loadRow agg_71 (by repeat (first | exact List.Mem.head _ | refine List.Mem.tail _ ?_)) rfl (by first | rfl | (simp; done) | (simp; omega) | (simp [*]; done))) (by decide) ?_ | refine JR.u rfl rfl rfl (Yv.loadRd agg_71 (by repeat (first | exact Lend.same _ _ | exact Lend.row _ _ _ _ _ _ (by decide) | apply Lend.there)) rfl (by first | rfl | (simp; done) | (simp; omega) | (simp [*]; done))) (by decide) ?_ | refine JR.u rfl rfl rfl (Yv.loadRo agg_71 (by repeat (first | exact List.Mem.head _ | refine List.Mem.tail _ ?_)) rfl (by first | rfl | (simp; done) | (simp; omega) | (simp [*]; done))) (by decide) ?_
    refine JR.m0 rfl rfl (Mv.storeAll sz_71 rfl rfl rfl (by first | rfl | (simp; done) | (simp; omega)) (by first | (simp; done) | exact one_sing rfl | exact one_map (fun _ => rfl) | exact one_piece (one_map (fun _ => rfl)) | exact one_tab (fun _ => rfl) | exact one_tab (fun _ => by split <;> rfl)) (by repeat (first | exact Upd.here _ _ _ | apply Upd.there)) (by first | rfl | (simp; done) | (simp; omega))) ?_
    rintro _ _ _ ⟨rfl, rfl⟩
    refine ⟨⟨Subs.sub (by repeat (first | exact Subs.nil _ | apply Subs.cons | exact List.Mem.head _ | refine List.Mem.tail _ ?_)), .inl rfl⟩, ?_⟩
    refine JR.m0 rfl rfl (Mv.storeAll sz_71 rfl rfl rfl (by first | rfl | (simp; done) | (simp; omega)) (by first | (simp; done) | exact one_sing rfl | exact one_map (fun _ => rfl) | exact one_piece (one_map (fun _ => rfl)) | exact one_tab (fun _ => rfl) | exact one_tab (fun _ => by split <;> rfl)) (by repeat (first | exact Upd.here _ _ _ | apply Upd.there)) (by first | rfl | (simp; done) | (simp; omega))) ?_
    rintro _ _ _ ⟨rfl, rfl⟩
    refine ⟨⟨Subs.sub (by repeat (first | exact Subs.nil _ | apply Subs.cons | exact List.Mem.head _ | refine List.Mem.tail _ ?_)), .inl rfl⟩, ?_⟩
    refine JR.nil ?_
    refine JQ.then_normal ?_
    refine JC.ret ?_
    exact JQ.done (.inr rfl) (Γ' := []) (H' := []) (res2 rfl (RV.cell agg_71 (by repeat (first | exact List.Mem.head _ | refine List.Mem.tail _ ?_)) rfl (by first | rfl | (simp; done) | (simp; omega))) (RV.cell agg_71 (by repeat (first | exact List.Mem.head _ | refine List.Mem.tail _ ?_)) rfl (by first | rfl | (simp; done) | (simp; omega)))) (Subs.sub (by repeat (first | exact Subs.nil _ | apply Subs.cons | exact List.Mem.head _ | refine List.Mem.tail _ ?_))) (Picks.perm (by repeat (first | exact Picks.nil _ | apply Picks.cons | exact Pull.here _ _ | apply Pull.there))) ⟨rfl, rfl, rfl⟩

set_option maxHeartbeats 2000000 in
theorem f24_spec (a m : Nat) (ha : a < 115792089237316195423570985008687907853269984665640564039457584007913129639936) (hm : m < 115792089237316195423570985008687907853269984665640564039457584007913129639936) :
    Spec Try.prog 24 #[(.agg ((wd a).map u64).toArray), (.agg ((wd m).map u64).toArray)] [] []
      (fun r Γ' H' => r = (.tuple #[.agg ((wd (a / m)).map u64).toArray, .agg ((wd (remF a m)).map u64).toArray, it (if m = 0 then 11 else 0)]) ∧ Γ' = [] ∧ H' = []) := by
  refine Spec.of_args Try.func24 rfl Try.ntmps24 (by simp) fun w => ?_
  refine JC.seq ?_
  refine JC.region ?_
  refine JO.box rfl _ rfl (by decide) fun b2 => ?_
  refine JO.box rfl _ rfl (by decide) fun b3 => ?_
  refine JO.alloc _ zero_32 rfl (by decide) fun b4 => ?_
  refine JO.alloc _ zero_32 rfl (by decide) fun b5 => ?_
  refine JO.v (Yv.assign rfl) (by decide) ?_
  refine JO.nil ?_
  refine JQ.then_normal ?_
  refine JC.seq ?_
  refine JC.region ?_
  refine JO.v (Yv.as (v' := .agg ((wd 0).map u64).toArray) (Yv.build bld_32 rfl rfl) rfl) (by decide) ?_
  refine JO.alloc _ zero_32 rfl (by decide) fun b7 => ?_
  first | refine JO.storeAll sz_32 rfl rfl rfl (by first | rfl | (simp; done) | (simp; omega)) (by first | (simp; done) | exact one_map (fun _ => rfl) | exact one_tab (fun _ => rfl) | exact one_tab (fun _ => by split <;> rfl)) (by repeat (first | exact Upd.here _ _ _ | apply Upd.there)) (by first | rfl | (simp; done) | (simp; omega)) ?_ | refine JO.store sz_32 rfl rfl rfl (by first | rfl | (simp; done) | (simp; omega)) (by first | (simp; done) | exact one_sing rfl | exact one_map (fun _ => rfl) | exact one_piece (one_map (fun _ => rfl)) | exact one_tab (fun _ => rfl) | exact one_tab (fun _ => by split <;> rfl)) (by repeat (first | exact Upd.here _ _ _ | apply Upd.there)) (by first | exact ltb rfl | (simp; done) | (simp; omega) | omega | (simp [*]; omega)) ?_ | refine JO.storeRow sz_32 rfl rfl rfl (by first | rfl | simp) (by first | (simp; done) | exact one_map (fun _ => rfl) | exact one_tab (fun _ => rfl) | exact one_tab (fun _ => by split <;> rfl)) (by repeat (first | exact Upd.here _ _ _ | apply Upd.there)) (by first | exact ltb rfl | (simp; done) | (simp; omega) | omega | (simp [*]; omega)) (by first | exact ltb rfl | (simp; done) | (simp; omega) | omega | (simp [*]; omega)) ?_
  refine JO.nil ?_
  refine JQ.then_normal ?_
  refine JC.seq ?_
  refine JC.seq ?_
  refine JC.region ?_
  first | refine JO.v (Yv.loadOwn agg_32 (by repeat (first | exact List.Mem.head _ | refine List.Mem.tail _ ?_)) rfl (by first | rfl | (simp; done) | (simp; omega) | (simp [*]; done))) (by decide) ?_ | refine JO.v (Yv.loadOwnAt agg_32 (by repeat (first | exact List.Mem.head _ | refine List.Mem.tail _ ?_)) rfl (by first | rfl | (simp; done) | (simp; omega) | (simp [*]; done))) (by decide) ?_ | refine JO.v (Yv.loadRow agg_32 (by repeat (first | exact List.Mem.head _ | refine List.Mem.tail _ ?_)) rfl (by first | rfl | (simp; done) | (simp; omega) | (simp [*]; done))) (by decide) ?_ | refine JO.v (Yv.loadRd agg_32 (by repeat (first | exact Lend.same _ _ | exact Lend.row _ _ _ _ _ _ (by decide) | apply Lend.there)) rfl (by first | rfl | (simp; done) | (simp; omega) | (simp [*]; done))) (by decide) ?_ | refine JO.v (Yv.loadRo agg_32 (by repeat (first | exact List.Mem.head _ | refine List.Mem.tail _ ?_)) rfl (by first | rfl | (simp; done) | (simp; omega) | (simp [*]; done))) (by decide) ?_
  first | refine JO.v (Yv.loadOwn agg_32 (by repeat (first | exact List.Mem.head _ | refine List.Mem.tail _ ?_)) rfl (by first | rfl | (simp; done) | (simp; omega) | (simp [*]; done))) (by decide) ?_ | refine JO.v (Yv.loadOwnAt agg_32 (by repeat (first | exact List.Mem.head _ | refine List.Mem.tail _ ?_)) rfl (by first | rfl | (simp; done) | (simp; omega) | (simp [*]; done))) (by decide) ?_ | refine JO.v (Yv.loadRow agg_32 (by repeat (first | exact List.Mem.head _ | refine List.Mem.tail _ ?_)) rfl (by first | rfl | (simp; done) | (simp; omega) | (simp [*]; done))) (by decide) ?_ | refine JO.v (Yv.loadRd agg_32 (by repeat (first | exact Lend.same _ _ | exact Lend.row _ _ _ _ _ _ (by decide) | apply Lend.there)) rfl (by first | rfl | (simp; done) | (simp; omega) | (simp [*]; done))) (by decide) ?_ | refine JO.v (Yv.loadRo agg_32 (by repeat (first | exact List.Mem.head _ | refine List.Mem.tail _ ?_)) rfl (by first | rfl | (simp; done) | (simp; omega) | (simp [*]; done))) (by decide) ?_
  refine JO.v (Yv.as (v' := .bool (decide (m = 0))) (Yv.bin rfl rfl (eql_nat wd_len' wd_len')) (congrArg Value.bool (decide_eq_decide.2 (by rw [wd_eq hm (by decide)])))) (by decide) ?_
  refine JO.nil ?_
  refine JQ.then_normal ?_
  refine JC.cond rfl (fun hc1 => ?_) (fun hc1 => ?_)
  · try simp only [decide_eq_true_eq, decide_eq_false_iff_not, Bool.not_eq_true', Bool.not_eq_false', ne_eq, Decidable.not_not, Bool.not_eq_true, Bool.and_eq_true, Bool.or_eq_true, BitVec.reduceToNat] at hc1
    subst hc1
    refine JC.seq ?_
    refine JC.draw (.one 0 (.one 1 (.one 2 (.one 3 (.one 4 .nil))))) (fun i => ([3] : List Nat).contains i) (fun i => ([2, 3] : List Nat).contains i) (fun i => ([4] : List Nat).contains i) mixed (by kernel_rfl) (by decide) (by kernel_rfl) ?_
    first | refine JR.v rfl rfl rfl (Yv.loadOwn agg_32 (by repeat (first | exact List.Mem.head _ | refine List.Mem.tail _ ?_)) rfl (by first | rfl | (simp; done) | (simp; omega) | (simp [*]; done))) (by decide) ?_ | refine JR.v rfl rfl rfl (Yv.loadOwnAt agg_32 (by repeat (first | exact List.Mem.head _ | refine List.Mem.tail _ ?_)) rfl (by first | rfl | (simp; done) | (simp; omega) | (simp [*]; done))) (by decide) ?_ | refine JR.v rfl rfl rfl (Yv.loadRow agg_32 (by repeat (first | exact List.Mem.head _ | refine List.Mem.tail _ ?_)) rfl (by first | rfl | (simp; done) | (simp; omega) | (simp [*]; done))) (by decide) ?_ | refine JR.v rfl rfl rfl (Yv.loadRd agg_32 (by repeat (first | exact Lend.same _ _ | exact Lend.row _ _ _ _ _ _ (by decide) | apply Lend.there)) rfl (by first | rfl | (simp; done) | (simp; omega) | (simp [*]; done))) (by decide) ?_ | refine JR.v rfl rfl rfl (Yv.loadRo agg_32 (by repeat (first | exact List.Mem.head _ | refine List.Mem.tail _ ?_)) rfl (by first | rfl | (simp; done) | (simp; omega) | (simp [*]; done))) (by decide) ?_
    first | refine JR.v rfl rfl rfl (Yv.loadOwn agg_32 (by repeat (first | exact List.Mem.head _ | refine List.Mem.tail _ ?_)) rfl (by first | rfl | (simp; done) | (simp; omega) | (simp [*]; done))) (by decide) ?_ | refine JR.v rfl rfl rfl (Yv.loadOwnAt agg_32 (by repeat (first | exact List.Mem.head _ | refine List.Mem.tail _ ?_)) rfl (by first | rfl | (simp; done) | (simp; omega) | (simp [*]; done))) (by decide) ?_ | refine JR.v rfl rfl rfl (Yv.loadRow agg_32 (by repeat (first | exact List.Mem.head _ | refine List.Mem.tail _ ?_)) rfl (by first | rfl | (simp; done) | (simp; omega) | (simp [*]; done))) (by decide) ?_ | refine JR.v rfl rfl rfl (Yv.loadRd agg_32 (by repeat (first | exact Lend.same _ _ | exact Lend.row _ _ _ _ _ _ (by decide) | apply Lend.there)) rfl (by first | rfl | (simp; done) | (simp; omega) | (simp [*]; done))) (by decide) ?_ | refine JR.v rfl rfl rfl (Yv.loadRo agg_32 (by repeat (first | exact List.Mem.head _ | refine List.Mem.tail _ ?_)) rfl (by first | rfl | (simp; done) | (simp; omega) | (simp [*]; done))) (by decide) ?_
    refine JR.m0 rfl rfl (Mv.storeAll sz_32 rfl rfl rfl (by first | rfl | (simp; done) | (simp; omega)) (by first | (simp; done) | exact one_sing rfl | exact one_map (fun _ => rfl) | exact one_piece (one_map (fun _ => rfl)) | exact one_tab (fun _ => rfl) | exact one_tab (fun _ => by split <;> rfl)) (by repeat (first | exact Upd.here _ _ _ | apply Upd.there)) (by first | rfl | (simp; done) | (simp; omega))) ?_
    rintro _ _ _ ⟨rfl, rfl⟩
    refine ⟨⟨Subs.sub (by repeat (first | exact Subs.nil _ | apply Subs.cons | exact List.Mem.head _ | refine List.Mem.tail _ ?_)), .inr (St.keep (by repeat (first | exact Subs.nil _ | apply Subs.cons | exact List.Mem.head _ | refine List.Mem.tail _ ?_)) (by repeat (first | exact Picks.nil _ | apply Picks.cons | exact Pull.here _ _ | apply Pull.there)))⟩, ?_⟩
    refine JR.m0 rfl rfl (Mv.storeAll sz_32 rfl rfl rfl (by first | rfl | (simp; done) | (simp; omega)) (by first | (simp; done) | exact one_sing rfl | exact one_map (fun _ => rfl) | exact one_piece (one_map (fun _ => rfl)) | exact one_tab (fun _ => rfl) | exact one_tab (fun _ => by split <;> rfl)) (by repeat (first | exact Upd.here _ _ _ | apply Upd.there)) (by first | rfl | (simp; done) | (simp; omega))) ?_
    rintro _ _ _ ⟨rfl, rfl⟩
    refine ⟨⟨Subs.sub (by repeat (first | exact Subs.nil _ | apply Subs.cons | exact List.Mem.head _ | refine List.Mem.tail _ ?_)), .inl rfl⟩, ?_⟩
    refine JR.u rfl rfl rfl (Yv.assign rfl) (by decide) ?_
    refine JR.nil ?_
    refine JQ.then_normal ?_
    refine JC.ret ?_
    refine JQ.then_ret ?_
    exact JQ.done (.inr rfl) (Γ' := []) (H' := []) (res3 rfl (RV.cell agg_32 (by repeat (first | exact List.Mem.head _ | refine List.Mem.tail _ ?_)) rfl (by first | rfl | (simp; done) | (simp; omega))) (RV.cell agg_32 (by repeat (first | exact List.Mem.head _ | refine List.Mem.tail _ ?_)) rfl (by first | rfl | (simp; done) | (simp; omega))) (RV.tmp rfl)) (Subs.sub (by repeat (first | exact Subs.nil _ | apply Subs.cons | exact List.Mem.head _ | refine List.Mem.tail _ ?_))) (Picks.perm (by repeat (first | exact Picks.nil _ | apply Picks.cons | exact Pull.here _ _ | apply Pull.there))) ⟨by rw [Nat.div_zero, remF, if_pos rfl, if_pos rfl], rfl, rfl⟩
  · try simp only [decide_eq_true_eq, decide_eq_false_iff_not, Bool.not_eq_true', Bool.not_eq_false', ne_eq, Decidable.not_not, Bool.not_eq_true, Bool.and_eq_true, Bool.or_eq_true, BitVec.reduceToNat] at hc1
    have hm0 : 0 < m := Nat.pos_of_ne_zero hc1
    refine JC.skip ?_
    refine JQ.then_normal ?_
    refine JC.cut (ι := Nat × Nat) (fun x => True) (fun x => [(4, ptr b4 0), (5, ptr b5 0), (8, ptr x.1 0), (9, ptr x.2 0)]) (fun x => []) (fun x => [Res.cells b4 ((wd 0).map u64) 32, Res.cells b5 ((wd 0).map u64) 32, Res.cells x.1 (dgs (a % m)) 71, Res.cells x.2 (dgs (a / m)) 71]) ?_ (fun x hx => ?_)
    · skip
      refine JC.draw (.one 0 (.one 2 (.alt 1 (.alt 3 (.alt 4 (.one 5 (.one 6 (.one 7 (.alt 8 (.one 9 (.one 10 (.one 11 .nil))) (.alt 9 (.one 8 (.one 10 (.one 11 .nil))) .nil))))) (.alt 8 (.alt 4 (.one 5 (.one 6 (.one 7 (.one 9 (.one 10 (.one 11 .nil)))))) (.alt 9 (.one 4 (.one 5 (.one 6 (.one 7 (.one 10 (.one 11 .nil)))))) .nil)) (.alt 9 (.alt 4 (.one 5 (.one 6 (.one 7 (.one 8 (.one 10 (.one 11 .nil)))))) (.alt 8 (.one 4 (.one 5 (.one 6 (.one 7 (.one 10 (.one 11 .nil)))))) .nil)) .nil))) (.alt 8 (.alt 3 (.alt 4 (.one 5 (.one 6 (.one 7 (.one 9 (.one 10 (.one 11 .nil)))))) (.alt 9 (.one 4 (.one 5 (.one 6 (.one 7 (.one 10 (.one 11 .nil)))))) .nil)) (.alt 9 (.one 3 (.one 4 (.one 5 (.one 6 (.one 7 (.one 10 (.one 11 .nil))))))) .nil)) (.alt 9 (.alt 3 (.alt 4 (.one 5 (.one 6 (.one 7 (.one 8 (.one 10 (.one 11 .nil)))))) (.alt 8 (.one 4 (.one 5 (.one 6 (.one 7 (.one 10 (.one 11 .nil)))))) .nil)) (.alt 8 (.one 3 (.one 4 (.one 5 (.one 6 (.one 7 (.one 10 (.one 11 .nil))))))) .nil)) .nil))) (.alt 8 (.alt 1 (.alt 3 (.alt 4 (.one 5 (.one 6 (.one 7 (.one 9 (.one 10 (.one 11 .nil)))))) (.alt 9 (.one 4 (.one 5 (.one 6 (.one 7 (.one 10 (.one 11 .nil)))))) .nil)) (.alt 9 (.one 3 (.one 4 (.one 5 (.one 6 (.one 7 (.one 10 (.one 11 .nil))))))) .nil)) (.alt 9 (.one 1 (.one 3 (.one 4 (.one 5 (.one 6 (.one 7 (.one 10 (.one 11 .nil)))))))) .nil)) (.alt 9 (.alt 1 (.alt 3 (.alt 4 (.one 5 (.one 6 (.one 7 (.one 8 (.one 10 (.one 11 .nil)))))) (.alt 8 (.one 4 (.one 5 (.one 6 (.one 7 (.one 10 (.one 11 .nil)))))) .nil)) (.alt 8 (.one 3 (.one 4 (.one 5 (.one 6 (.one 7 (.one 10 (.one 11 .nil))))))) .nil)) (.alt 8 (.one 1 (.one 3 (.one 4 (.one 5 (.one 6 (.one 7 (.one 10 (.one 11 .nil)))))))) .nil)) .nil))))) (fun i => ([10, 11] : List Nat).contains i) (fun i => ([1, 3, 4, 8, 9, 10, 11] : List Nat).contains i) (fun i => ([5, 6, 7] : List Nat).contains i) mixed (by kernel_rfl) (by decide) (by kernel_rfl) ?_
      first | refine JR.v rfl rfl rfl (Yv.loadOwn agg_32 (by repeat (first | exact List.Mem.head _ | refine List.Mem.tail _ ?_)) rfl (by first | rfl | (simp; done) | (simp; omega) | (simp [*]; done))) (by decide) ?_ | refine JR.v rfl rfl rfl (Yv.loadOwnAt agg_32 (by repeat (first | exact List.Mem.head _ | refine List.Mem.tail _ ?_)) rfl (by first | rfl | (simp; done) | (simp; omega) | (simp [*]; done))) (by decide) ?_ | refine JR.v rfl rfl rfl (Yv.loadRow agg_32 (by repeat (first | exact List.Mem.head _ | refine List.Mem.tail _ ?_)) rfl (by first | rfl | (simp; done) | (simp; omega) | (simp [*]; done))) (by decide) ?_ | refine JR.v rfl rfl rfl (Yv.loadRd agg_32 (by repeat (first | exact Lend.same _ _ | exact Lend.row _ _ _ _ _ _ (by decide) | apply Lend.there)) rfl (by first | rfl | (simp; done) | (simp; omega) | (simp [*]; done))) (by decide) ?_ | refine JR.v rfl rfl rfl (Yv.loadRo agg_32 (by repeat (first | exact List.Mem.head _ | refine List.Mem.tail _ ?_)) rfl (by first | rfl | (simp; done) | (simp; omega) | (simp [*]; done))) (by decide) ?_
      first | refine JR.v rfl rfl rfl (Yv.loadOwn agg_32 (by repeat (first | exact List.Mem.head _ | refine List.Mem.tail _ ?_)) rfl (by first | rfl | (simp; done) | (simp; omega) | (simp [*]; done))) (by decide) ?_ | refine JR.v rfl rfl rfl (Yv.loadOwnAt agg_32 (by repeat (first | exact List.Mem.head _ | refine List.Mem.tail _ ?_)) rfl (by first | rfl | (simp; done) | (simp; omega) | (simp [*]; done))) (by decide) ?_ | refine JR.v rfl rfl rfl (Yv.loadRow agg_32 (by repeat (first | exact List.Mem.head _ | refine List.Mem.tail _ ?_)) rfl (by first | rfl | (simp; done) | (simp; omega) | (simp [*]; done))) (by decide) ?_ | refine JR.v rfl rfl rfl (Yv.loadRd agg_32 (by repeat (first | exact Lend.same _ _ | exact Lend.row _ _ _ _ _ _ (by decide) | apply Lend.there)) rfl (by first | rfl | (simp; done) | (simp; omega) | (simp [*]; done))) (by decide) ?_ | refine JR.v rfl rfl rfl (Yv.loadRo agg_32 (by repeat (first | exact List.Mem.head _ | refine List.Mem.tail _ ?_)) rfl (by first | rfl | (simp; done) | (simp; omega) | (simp [*]; done))) (by decide) ?_
      refine JR.alt rfl ?_ ?_
      · skip
        refine JR.m rfl rfl (Mv.callB body_37 rfl (f37_spec a ha) (by repeat (first | exact Picks.nil _ | apply Picks.cons | exact Pull.here _ _ | apply Pull.there)) (by repeat (first | exact Lends.nil _ | apply Lends.cons | exact Lend.same _ _ | exact Lend.row _ _ _ _ _ _ (by decide) | apply Lend.there)) (by rintro _ _ _ ⟨_, h, _⟩; exact h)) (by decide) ?_
        rintro _ _ _ ⟨_, ⟨rfl, _, rfl⟩, hΓ, hH⟩
        simp only [List.cons_append, List.nil_append] at hH; subst hΓ hH
        refine ⟨⟨Subs.sub (by repeat (first | exact Subs.nil _ | apply Subs.cons | exact List.Mem.head _ | refine List.Mem.tail _ ?_)), .inr (St.keep (by repeat (first | exact Subs.nil _ | apply Subs.cons | exact List.Mem.head _ | refine List.Mem.tail _ ?_)) (by repeat (first | exact Picks.nil _ | apply Picks.cons | exact Pull.here _ _ | apply Pull.there)))⟩, ?_⟩
        refine JR.alt rfl ?_ ?_
        · skip
          refine JR.m rfl rfl (Mv.callB body_37 rfl (f37_spec m hm) (by repeat (first | exact Picks.nil _ | apply Picks.cons | exact Pull.here _ _ | apply Pull.there)) (by repeat (first | exact Lends.nil _ | apply Lends.cons | exact Lend.same _ _ | exact Lend.row _ _ _ _ _ _ (by decide) | apply Lend.there)) (by rintro _ _ _ ⟨_, h, _⟩; exact h)) (by decide) ?_
          rintro _ _ _ ⟨_, ⟨rfl, _, rfl⟩, hΓ, hH⟩
          simp only [List.cons_append, List.nil_append] at hH; subst hΓ hH
          refine ⟨⟨Subs.sub (by repeat (first | exact Subs.nil _ | apply Subs.cons | exact List.Mem.head _ | refine List.Mem.tail _ ?_)), .inr (St.keep (by repeat (first | exact Subs.nil _ | apply Subs.cons | exact List.Mem.head _ | refine List.Mem.tail _ ?_)) (by repeat (first | exact Picks.nil _ | apply Picks.cons | exact Pull.here _ _ | apply Pull.there)))⟩, ?_⟩
          refine JR.alt rfl ?_ ?_
          · skip
            refine JR.m rfl rfl (Mv.callB body_36 rfl (f36_spec a m (small_big ha) hm hm0) (by repeat (first | exact Picks.nil _ | apply Picks.cons | exact Pull.here _ _ | apply Pull.there)) (by repeat (first | exact Lends.nil _ | apply Lends.cons | exact Lend.same _ _ | exact Lend.row _ _ _ _ _ _ (by decide) | apply Lend.there)) (by rintro _ _ _ ⟨_, h, _⟩; exact h)) (by decide) ?_
            rintro _ _ _ ⟨_, ⟨rfl, _, rfl⟩, hΓ, hH⟩
            simp only [List.cons_append, List.nil_append] at hH; subst hΓ hH
            refine ⟨⟨Subs.sub (by repeat (first | exact Subs.nil _ | apply Subs.cons | exact List.Mem.head _ | refine List.Mem.tail _ ?_)), .inr (St.keep (by repeat (first | exact Subs.nil _ | apply Subs.cons | exact List.Mem.head _ | refine List.Mem.tail _ ?_)) (by repeat (first | exact Picks.nil _ | apply Picks.cons | exact Pull.here _ _ | apply Pull.there)))⟩, ?_⟩
            refine JR.u rfl rfl rfl (Yv.move rfl) (by decide) ?_
            refine JR.u rfl rfl rfl (Yv.as (v' := .agg (dgs (a % m)).toArray) (Yv.extract rfl rfl) rfl) (by decide) ?_
            refine JR.u rfl rfl rfl (Yv.as (v' := .agg (dgs (a / m)).toArray) (Yv.extract rfl rfl) rfl) (by decide) ?_
            refine JR.alt rfl ?_ ?_
            · skip
              refine JR.m rfl rfl (Mv.alloc zero_71) (by decide) ?_
              rintro _ _ _ ⟨b8, rfl, rfl, rfl⟩
              refine ⟨⟨Subs.sub (by repeat (first | exact Subs.nil _ | apply Subs.cons | exact List.Mem.head _ | refine List.Mem.tail _ ?_)), .inr (St.keep (by repeat (first | exact Subs.nil _ | apply Subs.cons | exact List.Mem.head _ | refine List.Mem.tail _ ?_)) (by repeat (first | exact Picks.nil _ | apply Picks.cons | exact Pull.here _ _ | apply Pull.there)))⟩, ?_⟩
              refine JR.m rfl rfl (Mv.alloc zero_71) (by decide) ?_
              rintro _ _ _ ⟨b9, rfl, rfl, rfl⟩
              refine ⟨⟨Subs.sub (by repeat (first | exact Subs.nil _ | apply Subs.cons | exact List.Mem.head _ | refine List.Mem.tail _ ?_)), .inr (St.keep (by repeat (first | exact Subs.nil _ | apply Subs.cons | exact List.Mem.head _ | refine List.Mem.tail _ ?_)) (by repeat (first | exact Picks.nil _ | apply Picks.cons | exact Pull.here _ _ | apply Pull.there)))⟩, ?_⟩
              refine JR.m0 rfl rfl (Mv.storeAll sz_71 rfl rfl rfl (by first | rfl | (simp; done) | (simp; omega)) (by first | (simp; done) | exact one_sing rfl | exact one_map (fun _ => rfl) | exact one_piece (one_map (fun _ => rfl)) | exact one_tab (fun _ => rfl) | exact one_tab (fun _ => by split <;> rfl)) (by repeat (first | exact Upd.here _ _ _ | apply Upd.there)) (by first | rfl | (simp; done) | (simp; omega))) ?_
              rintro _ _ _ ⟨rfl, rfl⟩
              refine ⟨⟨Subs.sub (by repeat (first | exact Subs.nil _ | apply Subs.cons | exact List.Mem.head _ | refine List.Mem.tail _ ?_)), .inl rfl⟩, ?_⟩
              refine JR.m0 rfl rfl (Mv.storeAll sz_71 rfl rfl rfl (by first | rfl | (simp; done) | (simp; omega)) (by first | (simp; done) | exact one_sing rfl | exact one_map (fun _ => rfl) | exact one_piece (one_map (fun _ => rfl)) | exact one_tab (fun _ => rfl) | exact one_tab (fun _ => by split <;> rfl)) (by repeat (first | exact Upd.here _ _ _ | apply Upd.there)) (by first | rfl | (simp; done) | (simp; omega))) ?_
              rintro _ _ _ ⟨rfl, rfl⟩
              refine ⟨⟨Subs.sub (by repeat (first | exact Subs.nil _ | apply Subs.cons | exact List.Mem.head _ | refine List.Mem.tail _ ?_)), .inl rfl⟩, ?_⟩
              refine JR.nil ?_
              refine JQ.head (b8, b9) (by repeat (first | exact trivial | refine ⟨by first | rfl | (simp; done), ?_⟩)) (Subs.sub (by repeat (first | exact Subs.nil _ | apply Subs.cons | exact List.Mem.head _ | refine List.Mem.tail _ ?_))) (Picks.perm (by repeat (first | exact Picks.nil _ | apply Picks.cons | exact Pull.here _ _ | apply Pull.there))) ?_
              trivial
            refine JA.alt rfl ?_ ?_
            · skip
              refine JR.m rfl rfl (Mv.alloc zero_71) (by decide) ?_
              rintro _ _ _ ⟨b9, rfl, rfl, rfl⟩
              refine ⟨⟨Subs.sub (by repeat (first | exact Subs.nil _ | apply Subs.cons | exact List.Mem.head _ | refine List.Mem.tail _ ?_)), .inr (St.keep (by repeat (first | exact Subs.nil _ | apply Subs.cons | exact List.Mem.head _ | refine List.Mem.tail _ ?_)) (by repeat (first | exact Picks.nil _ | apply Picks.cons | exact Pull.here _ _ | apply Pull.there)))⟩, ?_⟩
              refine JR.m rfl rfl (Mv.alloc zero_71) (by decide) ?_
              rintro _ _ _ ⟨b8, rfl, rfl, rfl⟩
              refine ⟨⟨Subs.sub (by repeat (first | exact Subs.nil _ | apply Subs.cons | exact List.Mem.head _ | refine List.Mem.tail _ ?_)), .inr (St.keep (by repeat (first | exact Subs.nil _ | apply Subs.cons | exact List.Mem.head _ | refine List.Mem.tail _ ?_)) (by repeat (first | exact Picks.nil _ | apply Picks.cons | exact Pull.here _ _ | apply Pull.there)))⟩, ?_⟩
              refine JR.m0 rfl rfl (Mv.storeAll sz_71 rfl rfl rfl (by first | rfl | (simp; done) | (simp; omega)) (by first | (simp; done) | exact one_sing rfl | exact one_map (fun _ => rfl) | exact one_piece (one_map (fun _ => rfl)) | exact one_tab (fun _ => rfl) | exact one_tab (fun _ => by split <;> rfl)) (by repeat (first | exact Upd.here _ _ _ | apply Upd.there)) (by first | rfl | (simp; done) | (simp; omega))) ?_
              rintro _ _ _ ⟨rfl, rfl⟩
              refine ⟨⟨Subs.sub (by repeat (first | exact Subs.nil _ | apply Subs.cons | exact List.Mem.head _ | refine List.Mem.tail _ ?_)), .inl rfl⟩, ?_⟩
              refine JR.m0 rfl rfl (Mv.storeAll sz_71 rfl rfl rfl (by first | rfl | (simp; done) | (simp; omega)) (by first | (simp; done) | exact one_sing rfl | exact one_map (fun _ => rfl) | exact one_piece (one_map (fun _ => rfl)) | exact one_tab (fun _ => rfl) | exact one_tab (fun _ => by split <;> rfl)) (by repeat (first | exact Upd.here _ _ _ | apply Upd.there)) (by first | rfl | (simp; done) | (simp; omega))) ?_
              rintro _ _ _ ⟨rfl, rfl⟩
              refine ⟨⟨Subs.sub (by repeat (first | exact Subs.nil _ | apply Subs.cons | exact List.Mem.head _ | refine List.Mem.tail _ ?_)), .inl rfl⟩, ?_⟩
              refine JR.nil ?_
              refine JQ.head (b8, b9) (by repeat (first | exact trivial | refine ⟨by first | rfl | (simp; done), ?_⟩)) (Subs.sub (by repeat (first | exact Subs.nil _ | apply Subs.cons | exact List.Mem.head _ | refine List.Mem.tail _ ?_))) (Picks.perm (by repeat (first | exact Picks.nil _ | apply Picks.cons | exact Pull.here _ _ | apply Pull.there))) ?_
              trivial
            exact JA.nil
          refine JA.alt rfl ?_ ?_
          · skip
            refine JR.m rfl rfl (Mv.alloc zero_71) (by decide) ?_
            rintro _ _ _ ⟨b8, rfl, rfl, rfl⟩
            refine ⟨⟨Subs.sub (by repeat (first | exact Subs.nil _ | apply Subs.cons | exact List.Mem.head _ | refine List.Mem.tail _ ?_)), .inr (St.keep (by repeat (first | exact Subs.nil _ | apply Subs.cons | exact List.Mem.head _ | refine List.Mem.tail _ ?_)) (by repeat (first | exact Picks.nil _ | apply Picks.cons | exact Pull.here _ _ | apply Pull.there)))⟩, ?_⟩
            refine JR.alt rfl ?_ ?_
            · skip
              refine JR.m rfl rfl (Mv.callB body_36 rfl (f36_spec a m (small_big ha) hm hm0) (by repeat (first | exact Picks.nil _ | apply Picks.cons | exact Pull.here _ _ | apply Pull.there)) (by repeat (first | exact Lends.nil _ | apply Lends.cons | exact Lend.same _ _ | exact Lend.row _ _ _ _ _ _ (by decide) | apply Lend.there)) (by rintro _ _ _ ⟨_, h, _⟩; exact h)) (by decide) ?_
              rintro _ _ _ ⟨_, ⟨rfl, _, rfl⟩, hΓ, hH⟩
              simp only [List.cons_append, List.nil_append] at hH; subst hΓ hH
              refine ⟨⟨Subs.sub (by repeat (first | exact Subs.nil _ | apply Subs.cons | exact List.Mem.head _ | refine List.Mem.tail _ ?_)), .inr (St.keep (by repeat (first | exact Subs.nil _ | apply Subs.cons | exact List.Mem.head _ | refine List.Mem.tail _ ?_)) (by repeat (first | exact Picks.nil _ | apply Picks.cons | exact Pull.here _ _ | apply Pull.there)))⟩, ?_⟩
              refine JR.u rfl rfl rfl (Yv.move rfl) (by decide) ?_
              refine JR.u rfl rfl rfl (Yv.as (v' := .agg (dgs (a % m)).toArray) (Yv.extract rfl rfl) rfl) (by decide) ?_
              refine JR.u rfl rfl rfl (Yv.as (v' := .agg (dgs (a / m)).toArray) (Yv.extract rfl rfl) rfl) (by decide) ?_
              refine JR.m rfl rfl (Mv.alloc zero_71) (by decide) ?_
              rintro _ _ _ ⟨b9, rfl, rfl, rfl⟩
              refine ⟨⟨Subs.sub (by repeat (first | exact Subs.nil _ | apply Subs.cons | exact List.Mem.head _ | refine List.Mem.tail _ ?_)), .inr (St.keep (by repeat (first | exact Subs.nil _ | apply Subs.cons | exact List.Mem.head _ | refine List.Mem.tail _ ?_)) (by repeat (first | exact Picks.nil _ | apply Picks.cons | exact Pull.here _ _ | apply Pull.there)))⟩, ?_⟩
              refine JR.m0 rfl rfl (Mv.storeAll sz_71 rfl rfl rfl (by first | rfl | (simp; done) | (simp; omega)) (by first | (simp; done) | exact one_sing rfl | exact one_map (fun _ => rfl) | exact one_piece (one_map (fun _ => rfl)) | exact one_tab (fun _ => rfl) | exact one_tab (fun _ => by split <;> rfl)) (by repeat (first | exact Upd.here _ _ _ | apply Upd.there)) (by first | rfl | (simp; done) | (simp; omega))) ?_
              rintro _ _ _ ⟨rfl, rfl⟩
              refine ⟨⟨Subs.sub (by repeat (first | exact Subs.nil _ | apply Subs.cons | exact List.Mem.head _ | refine List.Mem.tail _ ?_)), .inl rfl⟩, ?_⟩
              refine JR.m0 rfl rfl (Mv.storeAll sz_71 rfl rfl rfl (by first | rfl | (simp; done) | (simp; omega)) (by first | (simp; done) | exact one_sing rfl | exact one_map (fun _ => rfl) | exact one_piece (one_map (fun _ => rfl)) | exact one_tab (fun _ => rfl) | exact one_tab (fun _ => by split <;> rfl)) (by repeat (first | exact Upd.here _ _ _ | apply Upd.there)) (by first | rfl | (simp; done) | (simp; omega))) ?_
              rintro _ _ _ ⟨rfl, rfl⟩
              refine ⟨⟨Subs.sub (by repeat (first | exact Subs.nil _ | apply Subs.cons | exact List.Mem.head _ | refine List.Mem.tail _ ?_)), .inl rfl⟩, ?_⟩
              refine JR.nil ?_
              refine JQ.head (b8, b9) (by repeat (first | exact trivial | refine ⟨by first | rfl | (simp; done), ?_⟩)) (Subs.sub (by repeat (first | exact Subs.nil _ | apply Subs.cons | exact List.Mem.head _ | refine List.Mem.tail _ ?_))) (Picks.perm (by repeat (first | exact Picks.nil _ | apply Picks.cons | exact Pull.here _ _ | apply Pull.there))) ?_
              trivial
            refine JA.alt rfl ?_ ?_
            · skip
              refine JR.m rfl rfl (Mv.alloc zero_71) (by decide) ?_
              rintro _ _ _ ⟨b9, rfl, rfl, rfl⟩
              refine ⟨⟨Subs.sub (by repeat (first | exact Subs.nil _ | apply Subs.cons | exact List.Mem.head _ | refine List.Mem.tail _ ?_)), .inr (St.keep (by repeat (first | exact Subs.nil _ | apply Subs.cons | exact List.Mem.head _ | refine List.Mem.tail _ ?_)) (by repeat (first | exact Picks.nil _ | apply Picks.cons | exact Pull.here _ _ | apply Pull.there)))⟩, ?_⟩
              refine JR.m rfl rfl (Mv.callB body_36 rfl (f36_spec a m (small_big ha) hm hm0) (by repeat (first | exact Picks.nil _ | apply Picks.cons | exact Pull.here _ _ | apply Pull.there)) (by repeat (first | exact Lends.nil _ | apply Lends.cons | exact Lend.same _ _ | exact Lend.row _ _ _ _ _ _ (by decide) | apply Lend.there)) (by rintro _ _ _ ⟨_, h, _⟩; exact h)) (by decide) ?_
              rintro _ _ _ ⟨_, ⟨rfl, _, rfl⟩, hΓ, hH⟩
              simp only [List.cons_append, List.nil_append] at hH; subst hΓ hH
              refine ⟨⟨Subs.sub (by repeat (first | exact Subs.nil _ | apply Subs.cons | exact List.Mem.head _ | refine List.Mem.tail _ ?_)), .inr (St.keep (by repeat (first | exact Subs.nil _ | apply Subs.cons | exact List.Mem.head _ | refine List.Mem.tail _ ?_)) (by repeat (first | exact Picks.nil _ | apply Picks.cons | exact Pull.here _ _ | apply Pull.there)))⟩, ?_⟩
              refine JR.u rfl rfl rfl (Yv.move rfl) (by decide) ?_
              refine JR.u rfl rfl rfl (Yv.as (v' := .agg (dgs (a % m)).toArray) (Yv.extract rfl rfl) rfl) (by decide) ?_
              refine JR.u rfl rfl rfl (Yv.as (v' := .agg (dgs (a / m)).toArray) (Yv.extract rfl rfl) rfl) (by decide) ?_
              refine JR.m0 rfl rfl (Mv.storeAll sz_71 rfl rfl rfl (by first | rfl | (simp; done) | (simp; omega)) (by first | (simp; done) | exact one_sing rfl | exact one_map (fun _ => rfl) | exact one_piece (one_map (fun _ => rfl)) | exact one_tab (fun _ => rfl) | exact one_tab (fun _ => by split <;> rfl)) (by repeat (first | exact Upd.here _ _ _ | apply Upd.there)) (by first | rfl | (simp; done) | (simp; omega))) ?_
              rintro _ _ _ ⟨rfl, rfl⟩
              refine ⟨⟨Subs.sub (by repeat (first | exact Subs.nil _ | apply Subs.cons | exact List.Mem.head _ | refine List.Mem.tail _ ?_)), .inl rfl⟩, ?_⟩
              refine JR.m0 rfl rfl (Mv.storeAll sz_71 rfl rfl rfl (by first | rfl | (simp; done) | (simp; omega)) (by first | (simp; done) | exact one_sing rfl | exact one_map (fun _ => rfl) | exact one_piece (one_map (fun _ => rfl)) | exact one_tab (fun _ => rfl) | exact one_tab (fun _ => by split <;> rfl)) (by repeat (first | exact Upd.here _ _ _ | apply Upd.there)) (by first | rfl | (simp; done) | (simp; omega))) ?_
              rintro _ _ _ ⟨rfl, rfl⟩
              refine ⟨⟨Subs.sub (by repeat (first | exact Subs.nil _ | apply Subs.cons | exact List.Mem.head _ | refine List.Mem.tail _ ?_)), .inl rfl⟩, ?_⟩
              refine JR.nil ?_
              refine JQ.head (b8, b9) (by repeat (first | exact trivial | refine ⟨by first | rfl | (simp; done), ?_⟩)) (Subs.sub (by repeat (first | exact Subs.nil _ | apply Subs.cons | exact List.Mem.head _ | refine List.Mem.tail _ ?_))) (Picks.perm (by repeat (first | exact Picks.nil _ | apply Picks.cons | exact Pull.here _ _ | apply Pull.there))) ?_
              trivial
            exact JA.nil
          refine JA.alt rfl ?_ ?_
          · skip
            refine JR.m rfl rfl (Mv.alloc zero_71) (by decide) ?_
            rintro _ _ _ ⟨b9, rfl, rfl, rfl⟩
            refine ⟨⟨Subs.sub (by repeat (first | exact Subs.nil _ | apply Subs.cons | exact List.Mem.head _ | refine List.Mem.tail _ ?_)), .inr (St.keep (by repeat (first | exact Subs.nil _ | apply Subs.cons | exact List.Mem.head _ | refine List.Mem.tail _ ?_)) (by repeat (first | exact Picks.nil _ | apply Picks.cons | exact Pull.here _ _ | apply Pull.there)))⟩, ?_⟩
            refine JR.alt rfl ?_ ?_
            · skip
              refine JR.m rfl rfl (Mv.callB body_36 rfl (f36_spec a m (small_big ha) hm hm0) (by repeat (first | exact Picks.nil _ | apply Picks.cons | exact Pull.here _ _ | apply Pull.there)) (by repeat (first | exact Lends.nil _ | apply Lends.cons | exact Lend.same _ _ | exact Lend.row _ _ _ _ _ _ (by decide) | apply Lend.there)) (by rintro _ _ _ ⟨_, h, _⟩; exact h)) (by decide) ?_
              rintro _ _ _ ⟨_, ⟨rfl, _, rfl⟩, hΓ, hH⟩
              simp only [List.cons_append, List.nil_append] at hH; subst hΓ hH
              refine ⟨⟨Subs.sub (by repeat (first | exact Subs.nil _ | apply Subs.cons | exact List.Mem.head _ | refine List.Mem.tail _ ?_)), .inr (St.keep (by repeat (first | exact Subs.nil _ | apply Subs.cons | exact List.Mem.head _ | refine List.Mem.tail _ ?_)) (by repeat (first | exact Picks.nil _ | apply Picks.cons | exact Pull.here _ _ | apply Pull.there)))⟩, ?_⟩
              refine JR.u rfl rfl rfl (Yv.move rfl) (by decide) ?_
              refine JR.u rfl rfl rfl (Yv.as (v' := .agg (dgs (a % m)).toArray) (Yv.extract rfl rfl) rfl) (by decide) ?_
              refine JR.u rfl rfl rfl (Yv.as (v' := .agg (dgs (a / m)).toArray) (Yv.extract rfl rfl) rfl) (by decide) ?_
              refine JR.m rfl rfl (Mv.alloc zero_71) (by decide) ?_
              rintro _ _ _ ⟨b8, rfl, rfl, rfl⟩
              refine ⟨⟨Subs.sub (by repeat (first | exact Subs.nil _ | apply Subs.cons | exact List.Mem.head _ | refine List.Mem.tail _ ?_)), .inr (St.keep (by repeat (first | exact Subs.nil _ | apply Subs.cons | exact List.Mem.head _ | refine List.Mem.tail _ ?_)) (by repeat (first | exact Picks.nil _ | apply Picks.cons | exact Pull.here _ _ | apply Pull.there)))⟩, ?_⟩
              refine JR.m0 rfl rfl (Mv.storeAll sz_71 rfl rfl rfl (by first | rfl | (simp; done) | (simp; omega)) (by first | (simp; done) | exact one_sing rfl | exact one_map (fun _ => rfl) | exact one_piece (one_map (fun _ => rfl)) | exact one_tab (fun _ => rfl) | exact one_tab (fun _ => by split <;> rfl)) (by repeat (first | exact Upd.here _ _ _ | apply Upd.there)) (by first | rfl | (simp; done) | (simp; omega))) ?_
              rintro _ _ _ ⟨rfl, rfl⟩
              refine ⟨⟨Subs.sub (by repeat (first | exact Subs.nil _ | apply Subs.cons | exact List.Mem.head _ | refine List.Mem.tail _ ?_)), .inl rfl⟩, ?_⟩
              refine JR.m0 rfl rfl (Mv.storeAll sz_71 rfl rfl rfl (by first | rfl | (simp; done) | (simp; omega)) (by first | (simp; done) | exact one_sing rfl | exact one_map (fun _ => rfl) | exact one_piece (one_map (fun _ => rfl)) | exact one_tab (fun _ => rfl) | exact one_tab (fun _ => by split <;> rfl)) (by repeat (first | exact Upd.here _ _ _ | apply Upd.there)) (by first | rfl | (simp; done) | (simp; omega))) ?_
              rintro _ _ _ ⟨rfl, rfl⟩
              refine ⟨⟨Subs.sub (by repeat (first | exact Subs.nil _ | apply Subs.cons | exact List.Mem.head _ | refine List.Mem.tail _ ?_)), .inl rfl⟩, ?_⟩
              refine JR.nil ?_
              refine JQ.head (b8, b9) (by repeat (first | exact trivial | refine ⟨by first | rfl | (simp; done), ?_⟩)) (Subs.sub (by repeat (first | exact Subs.nil _ | apply Subs.cons | exact List.Mem.head _ | refine List.Mem.tail _ ?_))) (Picks.perm (by repeat (first | exact Picks.nil _ | apply Picks.cons | exact Pull.here _ _ | apply Pull.there))) ?_
              trivial
            refine JA.alt rfl ?_ ?_
            · skip
              refine JR.m rfl rfl (Mv.alloc zero_71) (by decide) ?_
              rintro _ _ _ ⟨b8, rfl, rfl, rfl⟩
              refine ⟨⟨Subs.sub (by repeat (first | exact Subs.nil _ | apply Subs.cons | exact List.Mem.head _ | refine List.Mem.tail _ ?_)), .inr (St.keep (by repeat (first | exact Subs.nil _ | apply Subs.cons | exact List.Mem.head _ | refine List.Mem.tail _ ?_)) (by repeat (first | exact Picks.nil _ | apply Picks.cons | exact Pull.here _ _ | apply Pull.there)))⟩, ?_⟩
              refine JR.m rfl rfl (Mv.callB body_36 rfl (f36_spec a m (small_big ha) hm hm0) (by repeat (first | exact Picks.nil _ | apply Picks.cons | exact Pull.here _ _ | apply Pull.there)) (by repeat (first | exact Lends.nil _ | apply Lends.cons | exact Lend.same _ _ | exact Lend.row _ _ _ _ _ _ (by decide) | apply Lend.there)) (by rintro _ _ _ ⟨_, h, _⟩; exact h)) (by decide) ?_
              rintro _ _ _ ⟨_, ⟨rfl, _, rfl⟩, hΓ, hH⟩
              simp only [List.cons_append, List.nil_append] at hH; subst hΓ hH
              refine ⟨⟨Subs.sub (by repeat (first | exact Subs.nil _ | apply Subs.cons | exact List.Mem.head _ | refine List.Mem.tail _ ?_)), .inr (St.keep (by repeat (first | exact Subs.nil _ | apply Subs.cons | exact List.Mem.head _ | refine List.Mem.tail _ ?_)) (by repeat (first | exact Picks.nil _ | apply Picks.cons | exact Pull.here _ _ | apply Pull.there)))⟩, ?_⟩
              refine JR.u rfl rfl rfl (Yv.move rfl) (by decide) ?_
              refine JR.u rfl rfl rfl (Yv.as (v' := .agg (dgs (a % m)).toArray) (Yv.extract rfl rfl) rfl) (by decide) ?_
              refine JR.u rfl rfl rfl (Yv.as (v' := .agg (dgs (a / m)).toArray) (Yv.extract rfl rfl) rfl) (by decide) ?_
              refine JR.m0 rfl rfl (Mv.storeAll sz_71 rfl rfl rfl (by first | rfl | (simp; done) | (simp; omega)) (by first | (simp; done) | exact one_sing rfl | exact one_map (fun _ => rfl) | exact one_piece (one_map (fun _ => rfl)) | exact one_tab (fun _ => rfl) | exact one_tab (fun _ => by split <;> rfl)) (by repeat (first | exact Upd.here _ _ _ | apply Upd.there)) (by first | rfl | (simp; done) | (simp; omega))) ?_
              rintro _ _ _ ⟨rfl, rfl⟩
              refine ⟨⟨Subs.sub (by repeat (first | exact Subs.nil _ | apply Subs.cons | exact List.Mem.head _ | refine List.Mem.tail _ ?_)), .inl rfl⟩, ?_⟩
              refine JR.m0 rfl rfl (Mv.storeAll sz_71 rfl rfl rfl (by first | rfl | (simp; done) | (simp; omega)) (by first | (simp; done) | exact one_sing rfl | exact one_map (fun _ => rfl) | exact one_piece (one_map (fun _ => rfl)) | exact one_tab (fun _ => rfl) | exact one_tab (fun _ => by split <;> rfl)) (by repeat (first | exact Upd.here _ _ _ | apply Upd.there)) (by first | rfl | (simp; done) | (simp; omega))) ?_
              rintro _ _ _ ⟨rfl, rfl⟩
              refine ⟨⟨Subs.sub (by repeat (first | exact Subs.nil _ | apply Subs.cons | exact List.Mem.head _ | refine List.Mem.tail _ ?_)), .inl rfl⟩, ?_⟩
              refine JR.nil ?_
              refine JQ.head (b8, b9) (by repeat (first | exact trivial | refine ⟨by first | rfl | (simp; done), ?_⟩)) (Subs.sub (by repeat (first | exact Subs.nil _ | apply Subs.cons | exact List.Mem.head _ | refine List.Mem.tail _ ?_))) (Picks.perm (by repeat (first | exact Picks.nil _ | apply Picks.cons | exact Pull.here _ _ | apply Pull.there))) ?_
              trivial
            exact JA.nil
          exact JA.nil
        refine JA.alt rfl ?_ ?_
        · skip
          refine JR.m rfl rfl (Mv.alloc zero_71) (by decide) ?_
          rintro _ _ _ ⟨b8, rfl, rfl, rfl⟩
          refine ⟨⟨Subs.sub (by repeat (first | exact Subs.nil _ | apply Subs.cons | exact List.Mem.head _ | refine List.Mem.tail _ ?_)), .inr (St.keep (by repeat (first | exact Subs.nil _ | apply Subs.cons | exact List.Mem.head _ | refine List.Mem.tail _ ?_)) (by repeat (first | exact Picks.nil _ | apply Picks.cons | exact Pull.here _ _ | apply Pull.there)))⟩, ?_⟩
          refine JR.alt rfl ?_ ?_
          · skip
            refine JR.m rfl rfl (Mv.callB body_37 rfl (f37_spec m hm) (by repeat (first | exact Picks.nil _ | apply Picks.cons | exact Pull.here _ _ | apply Pull.there)) (by repeat (first | exact Lends.nil _ | apply Lends.cons | exact Lend.same _ _ | exact Lend.row _ _ _ _ _ _ (by decide) | apply Lend.there)) (by rintro _ _ _ ⟨_, h, _⟩; exact h)) (by decide) ?_
            rintro _ _ _ ⟨_, ⟨rfl, _, rfl⟩, hΓ, hH⟩
            simp only [List.cons_append, List.nil_append] at hH; subst hΓ hH
            refine ⟨⟨Subs.sub (by repeat (first | exact Subs.nil _ | apply Subs.cons | exact List.Mem.head _ | refine List.Mem.tail _ ?_)), .inr (St.keep (by repeat (first | exact Subs.nil _ | apply Subs.cons | exact List.Mem.head _ | refine List.Mem.tail _ ?_)) (by repeat (first | exact Picks.nil _ | apply Picks.cons | exact Pull.here _ _ | apply Pull.there)))⟩, ?_⟩
            refine JR.alt rfl ?_ ?_
            · skip
              refine JR.m rfl rfl (Mv.callB body_36 rfl (f36_spec a m (small_big ha) hm hm0) (by repeat (first | exact Picks.nil _ | apply Picks.cons | exact Pull.here _ _ | apply Pull.there)) (by repeat (first | exact Lends.nil _ | apply Lends.cons | exact Lend.same _ _ | exact Lend.row _ _ _ _ _ _ (by decide) | apply Lend.there)) (by rintro _ _ _ ⟨_, h, _⟩; exact h)) (by decide) ?_
              rintro _ _ _ ⟨_, ⟨rfl, _, rfl⟩, hΓ, hH⟩
              simp only [List.cons_append, List.nil_append] at hH; subst hΓ hH
              refine ⟨⟨Subs.sub (by repeat (first | exact Subs.nil _ | apply Subs.cons | exact List.Mem.head _ | refine List.Mem.tail _ ?_)), .inr (St.keep (by repeat (first | exact Subs.nil _ | apply Subs.cons | exact List.Mem.head _ | refine List.Mem.tail _ ?_)) (by repeat (first | exact Picks.nil _ | apply Picks.cons | exact Pull.here _ _ | apply Pull.there)))⟩, ?_⟩
              refine JR.u rfl rfl rfl (Yv.move rfl) (by decide) ?_
              refine JR.u rfl rfl rfl (Yv.as (v' := .agg (dgs (a % m)).toArray) (Yv.extract rfl rfl) rfl) (by decide) ?_
              refine JR.u rfl rfl rfl (Yv.as (v' := .agg (dgs (a / m)).toArray) (Yv.extract rfl rfl) rfl) (by decide) ?_
              refine JR.m rfl rfl (Mv.alloc zero_71) (by decide) ?_
              rintro _ _ _ ⟨b9, rfl, rfl, rfl⟩
              refine ⟨⟨Subs.sub (by repeat (first | exact Subs.nil _ | apply Subs.cons | exact List.Mem.head _ | refine List.Mem.tail _ ?_)), .inr (St.keep (by repeat (first | exact Subs.nil _ | apply Subs.cons | exact List.Mem.head _ | refine List.Mem.tail _ ?_)) (by repeat (first | exact Picks.nil _ | apply Picks.cons | exact Pull.here _ _ | apply Pull.there)))⟩, ?_⟩
              refine JR.m0 rfl rfl (Mv.storeAll sz_71 rfl rfl rfl (by first | rfl | (simp; done) | (simp; omega)) (by first | (simp; done) | exact one_sing rfl | exact one_map (fun _ => rfl) | exact one_piece (one_map (fun _ => rfl)) | exact one_tab (fun _ => rfl) | exact one_tab (fun _ => by split <;> rfl)) (by repeat (first | exact Upd.here _ _ _ | apply Upd.there)) (by first | rfl | (simp; done) | (simp; omega))) ?_
              rintro _ _ _ ⟨rfl, rfl⟩
              refine ⟨⟨Subs.sub (by repeat (first | exact Subs.nil _ | apply Subs.cons | exact List.Mem.head _ | refine List.Mem.tail _ ?_)), .inl rfl⟩, ?_⟩
              refine JR.m0 rfl rfl (Mv.storeAll sz_71 rfl rfl rfl (by first | rfl | (simp; done) | (simp; omega)) (by first | (simp; done) | exact one_sing rfl | exact one_map (fun _ => rfl) | exact one_piece (one_map (fun _ => rfl)) | exact one_tab (fun _ => rfl) | exact one_tab (fun _ => by split <;> rfl)) (by repeat (first | exact Upd.here _ _ _ | apply Upd.there)) (by first | rfl | (simp; done) | (simp; omega))) ?_
              rintro _ _ _ ⟨rfl, rfl⟩
              refine ⟨⟨Subs.sub (by repeat (first | exact Subs.nil _ | apply Subs.cons | exact List.Mem.head _ | refine List.Mem.tail _ ?_)), .inl rfl⟩, ?_⟩
              refine JR.nil ?_
              refine JQ.head (b8, b9) (by repeat (first | exact trivial | refine ⟨by first | rfl | (simp; done), ?_⟩)) (Subs.sub (by repeat (first | exact Subs.nil _ | apply Subs.cons | exact List.Mem.head _ | refine List.Mem.tail _ ?_))) (Picks.perm (by repeat (first | exact Picks.nil _ | apply Picks.cons | exact Pull.here _ _ | apply Pull.there))) ?_
              trivial
            refine JA.alt rfl ?_ ?_
            · skip
              refine JR.m rfl rfl (Mv.alloc zero_71) (by decide) ?_
              rintro _ _ _ ⟨b9, rfl, rfl, rfl⟩
              refine ⟨⟨Subs.sub (by repeat (first | exact Subs.nil _ | apply Subs.cons | exact List.Mem.head _ | refine List.Mem.tail _ ?_)), .inr (St.keep (by repeat (first | exact Subs.nil _ | apply Subs.cons | exact List.Mem.head _ | refine List.Mem.tail _ ?_)) (by repeat (first | exact Picks.nil _ | apply Picks.cons | exact Pull.here _ _ | apply Pull.there)))⟩, ?_⟩
              refine JR.m rfl rfl (Mv.callB body_36 rfl (f36_spec a m (small_big ha) hm hm0) (by repeat (first | exact Picks.nil _ | apply Picks.cons | exact Pull.here _ _ | apply Pull.there)) (by repeat (first | exact Lends.nil _ | apply Lends.cons | exact Lend.same _ _ | exact Lend.row _ _ _ _ _ _ (by decide) | apply Lend.there)) (by rintro _ _ _ ⟨_, h, _⟩; exact h)) (by decide) ?_
              rintro _ _ _ ⟨_, ⟨rfl, _, rfl⟩, hΓ, hH⟩
              simp only [List.cons_append, List.nil_append] at hH; subst hΓ hH
              refine ⟨⟨Subs.sub (by repeat (first | exact Subs.nil _ | apply Subs.cons | exact List.Mem.head _ | refine List.Mem.tail _ ?_)), .inr (St.keep (by repeat (first | exact Subs.nil _ | apply Subs.cons | exact List.Mem.head _ | refine List.Mem.tail _ ?_)) (by repeat (first | exact Picks.nil _ | apply Picks.cons | exact Pull.here _ _ | apply Pull.there)))⟩, ?_⟩
              refine JR.u rfl rfl rfl (Yv.move rfl) (by decide) ?_
              refine JR.u rfl rfl rfl (Yv.as (v' := .agg (dgs (a % m)).toArray) (Yv.extract rfl rfl) rfl) (by decide) ?_
              refine JR.u rfl rfl rfl (Yv.as (v' := .agg (dgs (a / m)).toArray) (Yv.extract rfl rfl) rfl) (by decide) ?_
              refine JR.m0 rfl rfl (Mv.storeAll sz_71 rfl rfl rfl (by first | rfl | (simp; done) | (simp; omega)) (by first | (simp; done) | exact one_sing rfl | exact one_map (fun _ => rfl) | exact one_piece (one_map (fun _ => rfl)) | exact one_tab (fun _ => rfl) | exact one_tab (fun _ => by split <;> rfl)) (by repeat (first | exact Upd.here _ _ _ | apply Upd.there)) (by first | rfl | (simp; done) | (simp; omega))) ?_
              rintro _ _ _ ⟨rfl, rfl⟩
              refine ⟨⟨Subs.sub (by repeat (first | exact Subs.nil _ | apply Subs.cons | exact List.Mem.head _ | refine List.Mem.tail _ ?_)), .inl rfl⟩, ?_⟩
              refine JR.m0 rfl rfl (Mv.storeAll sz_71 rfl rfl rfl (by first | rfl | (simp; done) | (simp; omega)) (by first | (simp; done) | exact one_sing rfl | exact one_map (fun _ => rfl) | exact one_piece (one_map (fun _ => rfl)) | exact one_tab (fun _ => rfl) | exact one_tab (fun _ => by split <;> rfl)) (by repeat (first | exact Upd.here _ _ _ | apply Upd.there)) (by first | rfl | (simp; done) | (simp; omega))) ?_
              rintro _ _ _ ⟨rfl, rfl⟩
              refine ⟨⟨Subs.sub (by repeat (first | exact Subs.nil _ | apply Subs.cons | exact List.Mem.head _ | refine List.Mem.tail _ ?_)), .inl rfl⟩, ?_⟩
              refine JR.nil ?_
              refine JQ.head (b8, b9) (by repeat (first | exact trivial | refine ⟨by first | rfl | (simp; done), ?_⟩)) (Subs.sub (by repeat (first | exact Subs.nil _ | apply Subs.cons | exact List.Mem.head _ | refine List.Mem.tail _ ?_))) (Picks.perm (by repeat (first | exact Picks.nil _ | apply Picks.cons | exact Pull.here _ _ | apply Pull.there))) ?_
              trivial
            exact JA.nil
          refine JA.alt rfl ?_ ?_
          · skip
            refine JR.m rfl rfl (Mv.alloc zero_71) (by decide) ?_
            rintro _ _ _ ⟨b9, rfl, rfl, rfl⟩
            refine ⟨⟨Subs.sub (by repeat (first | exact Subs.nil _ | apply Subs.cons | exact List.Mem.head _ | refine List.Mem.tail _ ?_)), .inr (St.keep (by repeat (first | exact Subs.nil _ | apply Subs.cons | exact List.Mem.head _ | refine List.Mem.tail _ ?_)) (by repeat (first | exact Picks.nil _ | apply Picks.cons | exact Pull.here _ _ | apply Pull.there)))⟩, ?_⟩
            refine JR.m rfl rfl (Mv.callB body_37 rfl (f37_spec m hm) (by repeat (first | exact Picks.nil _ | apply Picks.cons | exact Pull.here _ _ | apply Pull.there)) (by repeat (first | exact Lends.nil _ | apply Lends.cons | exact Lend.same _ _ | exact Lend.row _ _ _ _ _ _ (by decide) | apply Lend.there)) (by rintro _ _ _ ⟨_, h, _⟩; exact h)) (by decide) ?_
            rintro _ _ _ ⟨_, ⟨rfl, _, rfl⟩, hΓ, hH⟩
            simp only [List.cons_append, List.nil_append] at hH; subst hΓ hH
            refine ⟨⟨Subs.sub (by repeat (first | exact Subs.nil _ | apply Subs.cons | exact List.Mem.head _ | refine List.Mem.tail _ ?_)), .inr (St.keep (by repeat (first | exact Subs.nil _ | apply Subs.cons | exact List.Mem.head _ | refine List.Mem.tail _ ?_)) (by repeat (first | exact Picks.nil _ | apply Picks.cons | exact Pull.here _ _ | apply Pull.there)))⟩, ?_⟩
            refine JR.m rfl rfl (Mv.callB body_36 rfl (f36_spec a m (small_big ha) hm hm0) (by repeat (first | exact Picks.nil _ | apply Picks.cons | exact Pull.here _ _ | apply Pull.there)) (by repeat (first | exact Lends.nil _ | apply Lends.cons | exact Lend.same _ _ | exact Lend.row _ _ _ _ _ _ (by decide) | apply Lend.there)) (by rintro _ _ _ ⟨_, h, _⟩; exact h)) (by decide) ?_
            rintro _ _ _ ⟨_, ⟨rfl, _, rfl⟩, hΓ, hH⟩
            simp only [List.cons_append, List.nil_append] at hH; subst hΓ hH
            refine ⟨⟨Subs.sub (by repeat (first | exact Subs.nil _ | apply Subs.cons | exact List.Mem.head _ | refine List.Mem.tail _ ?_)), .inr (St.keep (by repeat (first | exact Subs.nil _ | apply Subs.cons | exact List.Mem.head _ | refine List.Mem.tail _ ?_)) (by repeat (first | exact Picks.nil _ | apply Picks.cons | exact Pull.here _ _ | apply Pull.there)))⟩, ?_⟩
            refine JR.u rfl rfl rfl (Yv.move rfl) (by decide) ?_
            refine JR.u rfl rfl rfl (Yv.as (v' := .agg (dgs (a % m)).toArray) (Yv.extract rfl rfl) rfl) (by decide) ?_
            refine JR.u rfl rfl rfl (Yv.as (v' := .agg (dgs (a / m)).toArray) (Yv.extract rfl rfl) rfl) (by decide) ?_
            refine JR.m0 rfl rfl (Mv.storeAll sz_71 rfl rfl rfl (by first | rfl | (simp; done) | (simp; omega)) (by first | (simp; done) | exact one_sing rfl | exact one_map (fun _ => rfl) | exact one_piece (one_map (fun _ => rfl)) | exact one_tab (fun _ => rfl) | exact one_tab (fun _ => by split <;> rfl)) (by repeat (first | exact Upd.here _ _ _ | apply Upd.there)) (by first | rfl | (simp; done) | (simp; omega))) ?_
            rintro _ _ _ ⟨rfl, rfl⟩
            refine ⟨⟨Subs.sub (by repeat (first | exact Subs.nil _ | apply Subs.cons | exact List.Mem.head _ | refine List.Mem.tail _ ?_)), .inl rfl⟩, ?_⟩
            refine JR.m0 rfl rfl (Mv.storeAll sz_71 rfl rfl rfl (by first | rfl | (simp; done) | (simp; omega)) (by first | (simp; done) | exact one_sing rfl | exact one_map (fun _ => rfl) | exact one_piece (one_map (fun _ => rfl)) | exact one_tab (fun _ => rfl) | exact one_tab (fun _ => by split <;> rfl)) (by repeat (first | exact Upd.here _ _ _ | apply Upd.there)) (by first | rfl | (simp; done) | (simp; omega))) ?_
            rintro _ _ _ ⟨rfl, rfl⟩
            refine ⟨⟨Subs.sub (by repeat (first | exact Subs.nil _ | apply Subs.cons | exact List.Mem.head _ | refine List.Mem.tail _ ?_)), .inl rfl⟩, ?_⟩
            refine JR.nil ?_
            refine JQ.head (b8, b9) (by repeat (first | exact trivial | refine ⟨by first | rfl | (simp; done), ?_⟩)) (Subs.sub (by repeat (first | exact Subs.nil _ | apply Subs.cons | exact List.Mem.head _ | refine List.Mem.tail _ ?_))) (Picks.perm (by repeat (first | exact Picks.nil _ | apply Picks.cons | exact Pull.here _ _ | apply Pull.there))) ?_
            trivial
          exact JA.nil
        refine JA.alt rfl ?_ ?_
        · skip
          refine JR.m rfl rfl (Mv.alloc zero_71) (by decide) ?_
          rintro _ _ _ ⟨b9, rfl, rfl, rfl⟩
          refine ⟨⟨Subs.sub (by repeat (first | exact Subs.nil _ | apply Subs.cons | exact List.Mem.head _ | refine List.Mem.tail _ ?_)), .inr (St.keep (by repeat (first | exact Subs.nil _ | apply Subs.cons | exact List.Mem.head _ | refine List.Mem.tail _ ?_)) (by repeat (first | exact Picks.nil _ | apply Picks.cons | exact Pull.here _ _ | apply Pull.there)))⟩, ?_⟩
          refine JR.alt rfl ?_ ?_
          · skip
            refine JR.m rfl rfl (Mv.callB body_37 rfl (f37_spec m hm) (by repeat (first | exact Picks.nil _ | apply Picks.cons | exact Pull.here _ _ | apply Pull.there)) (by repeat (first | exact Lends.nil _ | apply Lends.cons | exact Lend.same _ _ | exact Lend.row _ _ _ _ _ _ (by decide) | apply Lend.there)) (by rintro _ _ _ ⟨_, h, _⟩; exact h)) (by decide) ?_
            rintro _ _ _ ⟨_, ⟨rfl, _, rfl⟩, hΓ, hH⟩
            simp only [List.cons_append, List.nil_append] at hH; subst hΓ hH
            refine ⟨⟨Subs.sub (by repeat (first | exact Subs.nil _ | apply Subs.cons | exact List.Mem.head _ | refine List.Mem.tail _ ?_)), .inr (St.keep (by repeat (first | exact Subs.nil _ | apply Subs.cons | exact List.Mem.head _ | refine List.Mem.tail _ ?_)) (by repeat (first | exact Picks.nil _ | apply Picks.cons | exact Pull.here _ _ | apply Pull.there)))⟩, ?_⟩
            refine JR.alt rfl ?_ ?_
            · skip
              refine JR.m rfl rfl (Mv.callB body_36 rfl (f36_spec a m (small_big ha) hm hm0) (by repeat (first | exact Picks.nil _ | apply Picks.cons | exact Pull.here _ _ | apply Pull.there)) (by repeat (first | exact Lends.nil _ | apply Lends.cons | exact Lend.same _ _ | exact Lend.row _ _ _ _ _ _ (by decide) | apply Lend.there)) (by rintro _ _ _ ⟨_, h, _⟩; exact h)) (by decide) ?_
              rintro _ _ _ ⟨_, ⟨rfl, _, rfl⟩, hΓ, hH⟩
              simp only [List.cons_append, List.nil_append] at hH; subst hΓ hH
              refine ⟨⟨Subs.sub (by repeat (first | exact Subs.nil _ | apply Subs.cons | exact List.Mem.head _ | refine List.Mem.tail _ ?_)), .inr (St.keep (by repeat (first | exact Subs.nil _ | apply Subs.cons | exact List.Mem.head _ | refine List.Mem.tail _ ?_)) (by repeat (first | exact Picks.nil _ | apply Picks.cons | exact Pull.here _ _ | apply Pull.there)))⟩, ?_⟩
              refine JR.u rfl rfl rfl (Yv.move rfl) (by decide) ?_
              refine JR.u rfl rfl rfl (Yv.as (v' := .agg (dgs (a % m)).toArray) (Yv.extract rfl rfl) rfl) (by decide) ?_
              refine JR.u rfl rfl rfl (Yv.as (v' := .agg (dgs (a / m)).toArray) (Yv.extract rfl rfl) rfl) (by decide) ?_
              refine JR.m rfl rfl (Mv.alloc zero_71) (by decide) ?_
              rintro _ _ _ ⟨b8, rfl, rfl, rfl⟩
              refine ⟨⟨Subs.sub (by repeat (first | exact Subs.nil _ | apply Subs.cons | exact List.Mem.head _ | refine List.Mem.tail _ ?_)), .inr (St.keep (by repeat (first | exact Subs.nil _ | apply Subs.cons | exact List.Mem.head _ | refine List.Mem.tail _ ?_)) (by repeat (first | exact Picks.nil _ | apply Picks.cons | exact Pull.here _ _ | apply Pull.there)))⟩, ?_⟩
              refine JR.m0 rfl rfl (Mv.storeAll sz_71 rfl rfl rfl (by first | rfl | (simp; done) | (simp; omega)) (by first | (simp; done) | exact one_sing rfl | exact one_map (fun _ => rfl) | exact one_piece (one_map (fun _ => rfl)) | exact one_tab (fun _ => rfl) | exact one_tab (fun _ => by split <;> rfl)) (by repeat (first | exact Upd.here _ _ _ | apply Upd.there)) (by first | rfl | (simp; done) | (simp; omega))) ?_
              rintro _ _ _ ⟨rfl, rfl⟩
              refine ⟨⟨Subs.sub (by repeat (first | exact Subs.nil _ | apply Subs.cons | exact List.Mem.head _ | refine List.Mem.tail _ ?_)), .inl rfl⟩, ?_⟩
              refine JR.m0 rfl rfl (Mv.storeAll sz_71 rfl rfl rfl (by first | rfl | (simp; done) | (simp; omega)) (by first | (simp; done) | exact one_sing rfl | exact one_map (fun _ => rfl) | exact one_piece (one_map (fun _ => rfl)) | exact one_tab (fun _ => rfl) | exact one_tab (fun _ => by split <;> rfl)) (by repeat (first | exact Upd.here _ _ _ | apply Upd.there)) (by first | rfl | (simp; done) | (simp; omega))) ?_
              rintro _ _ _ ⟨rfl, rfl⟩
              refine ⟨⟨Subs.sub (by repeat (first | exact Subs.nil _ | apply Subs.cons | exact List.Mem.head _ | refine List.Mem.tail _ ?_)), .inl rfl⟩, ?_⟩
              refine JR.nil ?_
              refine JQ.head (b8, b9) (by repeat (first | exact trivial | refine ⟨by first | rfl | (simp; done), ?_⟩)) (Subs.sub (by repeat (first | exact Subs.nil _ | apply Subs.cons | exact List.Mem.head _ | refine List.Mem.tail _ ?_))) (Picks.perm (by repeat (first | exact Picks.nil _ | apply Picks.cons | exact Pull.here _ _ | apply Pull.there))) ?_
              trivial
            refine JA.alt rfl ?_ ?_
            · skip
              refine JR.m rfl rfl (Mv.alloc zero_71) (by decide) ?_
              rintro _ _ _ ⟨b8, rfl, rfl, rfl⟩
              refine ⟨⟨Subs.sub (by repeat (first | exact Subs.nil _ | apply Subs.cons | exact List.Mem.head _ | refine List.Mem.tail _ ?_)), .inr (St.keep (by repeat (first | exact Subs.nil _ | apply Subs.cons | exact List.Mem.head _ | refine List.Mem.tail _ ?_)) (by repeat (first | exact Picks.nil _ | apply Picks.cons | exact Pull.here _ _ | apply Pull.there)))⟩, ?_⟩
              refine JR.m rfl rfl (Mv.callB body_36 rfl (f36_spec a m (small_big ha) hm hm0) (by repeat (first | exact Picks.nil _ | apply Picks.cons | exact Pull.here _ _ | apply Pull.there)) (by repeat (first | exact Lends.nil _ | apply Lends.cons | exact Lend.same _ _ | exact Lend.row _ _ _ _ _ _ (by decide) | apply Lend.there)) (by rintro _ _ _ ⟨_, h, _⟩; exact h)) (by decide) ?_
              rintro _ _ _ ⟨_, ⟨rfl, _, rfl⟩, hΓ, hH⟩
              simp only [List.cons_append, List.nil_append] at hH; subst hΓ hH
              refine ⟨⟨Subs.sub (by repeat (first | exact Subs.nil _ | apply Subs.cons | exact List.Mem.head _ | refine List.Mem.tail _ ?_)), .inr (St.keep (by repeat (first | exact Subs.nil _ | apply Subs.cons | exact List.Mem.head _ | refine List.Mem.tail _ ?_)) (by repeat (first | exact Picks.nil _ | apply Picks.cons | exact Pull.here _ _ | apply Pull.there)))⟩, ?_⟩
              refine JR.u rfl rfl rfl (Yv.move rfl) (by decide) ?_
              refine JR.u rfl rfl rfl (Yv.as (v' := .agg (dgs (a % m)).toArray) (Yv.extract rfl rfl) rfl) (by decide) ?_
              refine JR.u rfl rfl rfl (Yv.as (v' := .agg (dgs (a / m)).toArray) (Yv.extract rfl rfl) rfl) (by decide) ?_
              refine JR.m0 rfl rfl (Mv.storeAll sz_71 rfl rfl rfl (by first | rfl | (simp; done) | (simp; omega)) (by first | (simp; done) | exact one_sing rfl | exact one_map (fun _ => rfl) | exact one_piece (one_map (fun _ => rfl)) | exact one_tab (fun _ => rfl) | exact one_tab (fun _ => by split <;> rfl)) (by repeat (first | exact Upd.here _ _ _ | apply Upd.there)) (by first | rfl | (simp; done) | (simp; omega))) ?_
              rintro _ _ _ ⟨rfl, rfl⟩
              refine ⟨⟨Subs.sub (by repeat (first | exact Subs.nil _ | apply Subs.cons | exact List.Mem.head _ | refine List.Mem.tail _ ?_)), .inl rfl⟩, ?_⟩
              refine JR.m0 rfl rfl (Mv.storeAll sz_71 rfl rfl rfl (by first | rfl | (simp; done) | (simp; omega)) (by first | (simp; done) | exact one_sing rfl | exact one_map (fun _ => rfl) | exact one_piece (one_map (fun _ => rfl)) | exact one_tab (fun _ => rfl) | exact one_tab (fun _ => by split <;> rfl)) (by repeat (first | exact Upd.here _ _ _ | apply Upd.there)) (by first | rfl | (simp; done) | (simp; omega))) ?_
              rintro _ _ _ ⟨rfl, rfl⟩
              refine ⟨⟨Subs.sub (by repeat (first | exact Subs.nil _ | apply Subs.cons | exact List.Mem.head _ | refine List.Mem.tail _ ?_)), .inl rfl⟩, ?_⟩
              refine JR.nil ?_
              refine JQ.head (b8, b9) (by repeat (first | exact trivial | refine ⟨by first | rfl | (simp; done), ?_⟩)) (Subs.sub (by repeat (first | exact Subs.nil _ | apply Subs.cons | exact List.Mem.head _ | refine List.Mem.tail _ ?_))) (Picks.perm (by repeat (first | exact Picks.nil _ | apply Picks.cons | exact Pull.here _ _ | apply Pull.there))) ?_
              trivial
            exact JA.nil
          refine JA.alt rfl ?_ ?_
          · skip
            refine JR.m rfl rfl (Mv.alloc zero_71) (by decide) ?_
            rintro _ _ _ ⟨b8, rfl, rfl, rfl⟩
            refine ⟨⟨Subs.sub (by repeat (first | exact Subs.nil _ | apply Subs.cons | exact List.Mem.head _ | refine List.Mem.tail _ ?_)), .inr (St.keep (by repeat (first | exact Subs.nil _ | apply Subs.cons | exact List.Mem.head _ | refine List.Mem.tail _ ?_)) (by repeat (first | exact Picks.nil _ | apply Picks.cons | exact Pull.here _ _ | apply Pull.there)))⟩, ?_⟩
            refine JR.m rfl rfl (Mv.callB body_37 rfl (f37_spec m hm) (by repeat (first | exact Picks.nil _ | apply Picks.cons | exact Pull.here _ _ | apply Pull.there)) (by repeat (first | exact Lends.nil _ | apply Lends.cons | exact Lend.same _ _ | exact Lend.row _ _ _ _ _ _ (by decide) | apply Lend.there)) (by rintro _ _ _ ⟨_, h, _⟩; exact h)) (by decide) ?_
            rintro _ _ _ ⟨_, ⟨rfl, _, rfl⟩, hΓ, hH⟩
            simp only [List.cons_append, List.nil_append] at hH; subst hΓ hH
            refine ⟨⟨Subs.sub (by repeat (first | exact Subs.nil _ | apply Subs.cons | exact List.Mem.head _ | refine List.Mem.tail _ ?_)), .inr (St.keep (by repeat (first | exact Subs.nil _ | apply Subs.cons | exact List.Mem.head _ | refine List.Mem.tail _ ?_)) (by repeat (first | exact Picks.nil _ | apply Picks.cons | exact Pull.here _ _ | apply Pull.there)))⟩, ?_⟩
            refine JR.m rfl rfl (Mv.callB body_36 rfl (f36_spec a m (small_big ha) hm hm0) (by repeat (first | exact Picks.nil _ | apply Picks.cons | exact Pull.here _ _ | apply Pull.there)) (by repeat (first | exact Lends.nil _ | apply Lends.cons | exact Lend.same _ _ | exact Lend.row _ _ _ _ _ _ (by decide) | apply Lend.there)) (by rintro _ _ _ ⟨_, h, _⟩; exact h)) (by decide) ?_
            rintro _ _ _ ⟨_, ⟨rfl, _, rfl⟩, hΓ, hH⟩
            simp only [List.cons_append, List.nil_append] at hH; subst hΓ hH
            refine ⟨⟨Subs.sub (by repeat (first | exact Subs.nil _ | apply Subs.cons | exact List.Mem.head _ | refine List.Mem.tail _ ?_)), .inr (St.keep (by repeat (first | exact Subs.nil _ | apply Subs.cons | exact List.Mem.head _ | refine List.Mem.tail _ ?_)) (by repeat (first | exact Picks.nil _ | apply Picks.cons | exact Pull.here _ _ | apply Pull.there)))⟩, ?_⟩
            refine JR.u rfl rfl rfl (Yv.move rfl) (by decide) ?_
            refine JR.u rfl rfl rfl (Yv.as (v' := .agg (dgs (a % m)).toArray) (Yv.extract rfl rfl) rfl) (by decide) ?_
            refine JR.u rfl rfl rfl (Yv.as (v' := .agg (dgs (a / m)).toArray) (Yv.extract rfl rfl) rfl) (by decide) ?_
            refine JR.m0 rfl rfl (Mv.storeAll sz_71 rfl rfl rfl (by first | rfl | (simp; done) | (simp; omega)) (by first | (simp; done) | exact one_sing rfl | exact one_map (fun _ => rfl) | exact one_piece (one_map (fun _ => rfl)) | exact one_tab (fun _ => rfl) | exact one_tab (fun _ => by split <;> rfl)) (by repeat (first | exact Upd.here _ _ _ | apply Upd.there)) (by first | rfl | (simp; done) | (simp; omega))) ?_
            rintro _ _ _ ⟨rfl, rfl⟩
            refine ⟨⟨Subs.sub (by repeat (first | exact Subs.nil _ | apply Subs.cons | exact List.Mem.head _ | refine List.Mem.tail _ ?_)), .inl rfl⟩, ?_⟩
            refine JR.m0 rfl rfl (Mv.storeAll sz_71 rfl rfl rfl (by first | rfl | (simp; done) | (simp; omega)) (by first | (simp; done) | exact one_sing rfl | exact one_map (fun _ => rfl) | exact one_piece (one_map (fun _ => rfl)) | exact one_tab (fun _ => rfl) | exact one_tab (fun _ => by split <;> rfl)) (by repeat (first | exact Upd.here _ _ _ | apply Upd.there)) (by first | rfl | (simp; done) | (simp; omega))) ?_
            rintro _ _ _ ⟨rfl, rfl⟩
            refine ⟨⟨Subs.sub (by repeat (first | exact Subs.nil _ | apply Subs.cons | exact List.Mem.head _ | refine List.Mem.tail _ ?_)), .inl rfl⟩, ?_⟩
            refine JR.nil ?_
            refine JQ.head (b8, b9) (by repeat (first | exact trivial | refine ⟨by first | rfl | (simp; done), ?_⟩)) (Subs.sub (by repeat (first | exact Subs.nil _ | apply Subs.cons | exact List.Mem.head _ | refine List.Mem.tail _ ?_))) (Picks.perm (by repeat (first | exact Picks.nil _ | apply Picks.cons | exact Pull.here _ _ | apply Pull.there))) ?_
            trivial
          exact JA.nil
        exact JA.nil
      refine JA.alt rfl ?_ ?_
      · skip
        refine JR.m rfl rfl (Mv.alloc zero_71) (by decide) ?_
        rintro _ _ _ ⟨b8, rfl, rfl, rfl⟩
        refine ⟨⟨Subs.sub (by repeat (first | exact Subs.nil _ | apply Subs.cons | exact List.Mem.head _ | refine List.Mem.tail _ ?_)), .inr (St.keep (by repeat (first | exact Subs.nil _ | apply Subs.cons | exact List.Mem.head _ | refine List.Mem.tail _ ?_)) (by repeat (first | exact Picks.nil _ | apply Picks.cons | exact Pull.here _ _ | apply Pull.there)))⟩, ?_⟩
        refine JR.alt rfl ?_ ?_
        · skip
          refine JR.m rfl rfl (Mv.callB body_37 rfl (f37_spec a ha) (by repeat (first | exact Picks.nil _ | apply Picks.cons | exact Pull.here _ _ | apply Pull.there)) (by repeat (first | exact Lends.nil _ | apply Lends.cons | exact Lend.same _ _ | exact Lend.row _ _ _ _ _ _ (by decide) | apply Lend.there)) (by rintro _ _ _ ⟨_, h, _⟩; exact h)) (by decide) ?_
          rintro _ _ _ ⟨_, ⟨rfl, _, rfl⟩, hΓ, hH⟩
          simp only [List.cons_append, List.nil_append] at hH; subst hΓ hH
          refine ⟨⟨Subs.sub (by repeat (first | exact Subs.nil _ | apply Subs.cons | exact List.Mem.head _ | refine List.Mem.tail _ ?_)), .inr (St.keep (by repeat (first | exact Subs.nil _ | apply Subs.cons | exact List.Mem.head _ | refine List.Mem.tail _ ?_)) (by repeat (first | exact Picks.nil _ | apply Picks.cons | exact Pull.here _ _ | apply Pull.there)))⟩, ?_⟩
          refine JR.alt rfl ?_ ?_
          · skip
            refine JR.m rfl rfl (Mv.callB body_37 rfl (f37_spec m hm) (by repeat (first | exact Picks.nil _ | apply Picks.cons | exact Pull.here _ _ | apply Pull.there)) (by repeat (first | exact Lends.nil _ | apply Lends.cons | exact Lend.same _ _ | exact Lend.row _ _ _ _ _ _ (by decide) | apply Lend.there)) (by rintro _ _ _ ⟨_, h, _⟩; exact h)) (by decide) ?_
            rintro _ _ _ ⟨_, ⟨rfl, _, rfl⟩, hΓ, hH⟩
            simp only [List.cons_append, List.nil_append] at hH; subst hΓ hH
            refine ⟨⟨Subs.sub (by repeat (first | exact Subs.nil _ | apply Subs.cons | exact List.Mem.head _ | refine List.Mem.tail _ ?_)), .inr (St.keep (by repeat (first | exact Subs.nil _ | apply Subs.cons | exact List.Mem.head _ | refine List.Mem.tail _ ?_)) (by repeat (first | exact Picks.nil _ | apply Picks.cons | exact Pull.here _ _ | apply Pull.there)))⟩, ?_⟩
            refine JR.alt rfl ?_ ?_
            · skip
              refine JR.m rfl rfl (Mv.callB body_36 rfl (f36_spec a m (small_big ha) hm hm0) (by repeat (first | exact Picks.nil _ | apply Picks.cons | exact Pull.here _ _ | apply Pull.there)) (by repeat (first | exact Lends.nil _ | apply Lends.cons | exact Lend.same _ _ | exact Lend.row _ _ _ _ _ _ (by decide) | apply Lend.there)) (by rintro _ _ _ ⟨_, h, _⟩; exact h)) (by decide) ?_
              rintro _ _ _ ⟨_, ⟨rfl, _, rfl⟩, hΓ, hH⟩
              simp only [List.cons_append, List.nil_append] at hH; subst hΓ hH
              refine ⟨⟨Subs.sub (by repeat (first | exact Subs.nil _ | apply Subs.cons | exact List.Mem.head _ | refine List.Mem.tail _ ?_)), .inr (St.keep (by repeat (first | exact Subs.nil _ | apply Subs.cons | exact List.Mem.head _ | refine List.Mem.tail _ ?_)) (by repeat (first | exact Picks.nil _ | apply Picks.cons | exact Pull.here _ _ | apply Pull.there)))⟩, ?_⟩
              refine JR.u rfl rfl rfl (Yv.move rfl) (by decide) ?_
              refine JR.u rfl rfl rfl (Yv.as (v' := .agg (dgs (a % m)).toArray) (Yv.extract rfl rfl) rfl) (by decide) ?_
              refine JR.u rfl rfl rfl (Yv.as (v' := .agg (dgs (a / m)).toArray) (Yv.extract rfl rfl) rfl) (by decide) ?_
              refine JR.m rfl rfl (Mv.alloc zero_71) (by decide) ?_
              rintro _ _ _ ⟨b9, rfl, rfl, rfl⟩
              refine ⟨⟨Subs.sub (by repeat (first | exact Subs.nil _ | apply Subs.cons | exact List.Mem.head _ | refine List.Mem.tail _ ?_)), .inr (St.keep (by repeat (first | exact Subs.nil _ | apply Subs.cons | exact List.Mem.head _ | refine List.Mem.tail _ ?_)) (by repeat (first | exact Picks.nil _ | apply Picks.cons | exact Pull.here _ _ | apply Pull.there)))⟩, ?_⟩
              refine JR.m0 rfl rfl (Mv.storeAll sz_71 rfl rfl rfl (by first | rfl | (simp; done) | (simp; omega)) (by first | (simp; done) | exact one_sing rfl | exact one_map (fun _ => rfl) | exact one_piece (one_map (fun _ => rfl)) | exact one_tab (fun _ => rfl) | exact one_tab (fun _ => by split <;> rfl)) (by repeat (first | exact Upd.here _ _ _ | apply Upd.there)) (by first | rfl | (simp; done) | (simp; omega))) ?_
              rintro _ _ _ ⟨rfl, rfl⟩
              refine ⟨⟨Subs.sub (by repeat (first | exact Subs.nil _ | apply Subs.cons | exact List.Mem.head _ | refine List.Mem.tail _ ?_)), .inl rfl⟩, ?_⟩
              refine JR.m0 rfl rfl (Mv.storeAll sz_71 rfl rfl rfl (by first | rfl | (simp; done) | (simp; omega)) (by first | (simp; done) | exact one_sing rfl | exact one_map (fun _ => rfl) | exact one_piece (one_map (fun _ => rfl)) | exact one_tab (fun _ => rfl) | exact one_tab (fun _ => by split <;> rfl)) (by repeat (first | exact Upd.here _ _ _ | apply Upd.there)) (by first | rfl | (simp; done) | (simp; omega))) ?_
              rintro _ _ _ ⟨rfl, rfl⟩
              refine ⟨⟨Subs.sub (by repeat (first | exact Subs.nil _ | apply Subs.cons | exact List.Mem.head _ | refine List.Mem.tail _ ?_)), .inl rfl⟩, ?_⟩
              refine JR.nil ?_
              refine JQ.head (b8, b9) (by repeat (first | exact trivial | refine ⟨by first | rfl | (simp; done), ?_⟩)) (Subs.sub (by repeat (first | exact Subs.nil _ | apply Subs.cons | exact List.Mem.head _ | refine List.Mem.tail _ ?_))) (Picks.perm (by repeat (first | exact Picks.nil _ | apply Picks.cons | exact Pull.here _ _ | apply Pull.there))) ?_
              trivial
            refine JA.alt rfl ?_ ?_
            · skip
              refine JR.m rfl rfl (Mv.alloc zero_71) (by decide) ?_
              rintro _ _ _ ⟨b9, rfl, rfl, rfl⟩
              refine ⟨⟨Subs.sub (by repeat (first | exact Subs.nil _ | apply Subs.cons | exact List.Mem.head _ | refine List.Mem.tail _ ?_)), .inr (St.keep (by repeat (first | exact Subs.nil _ | apply Subs.cons | exact List.Mem.head _ | refine List.Mem.tail _ ?_)) (by repeat (first | exact Picks.nil _ | apply Picks.cons | exact Pull.here _ _ | apply Pull.there)))⟩, ?_⟩
              refine JR.m rfl rfl (Mv.callB body_36 rfl (f36_spec a m (small_big ha) hm hm0) (by repeat (first | exact Picks.nil _ | apply Picks.cons | exact Pull.here _ _ | apply Pull.there)) (by repeat (first | exact Lends.nil _ | apply Lends.cons | exact Lend.same _ _ | exact Lend.row _ _ _ _ _ _ (by decide) | apply Lend.there)) (by rintro _ _ _ ⟨_, h, _⟩; exact h)) (by decide) ?_
              rintro _ _ _ ⟨_, ⟨rfl, _, rfl⟩, hΓ, hH⟩
              simp only [List.cons_append, List.nil_append] at hH; subst hΓ hH
              refine ⟨⟨Subs.sub (by repeat (first | exact Subs.nil _ | apply Subs.cons | exact List.Mem.head _ | refine List.Mem.tail _ ?_)), .inr (St.keep (by repeat (first | exact Subs.nil _ | apply Subs.cons | exact List.Mem.head _ | refine List.Mem.tail _ ?_)) (by repeat (first | exact Picks.nil _ | apply Picks.cons | exact Pull.here _ _ | apply Pull.there)))⟩, ?_⟩
              refine JR.u rfl rfl rfl (Yv.move rfl) (by decide) ?_
              refine JR.u rfl rfl rfl (Yv.as (v' := .agg (dgs (a % m)).toArray) (Yv.extract rfl rfl) rfl) (by decide) ?_
              refine JR.u rfl rfl rfl (Yv.as (v' := .agg (dgs (a / m)).toArray) (Yv.extract rfl rfl) rfl) (by decide) ?_
              refine JR.m0 rfl rfl (Mv.storeAll sz_71 rfl rfl rfl (by first | rfl | (simp; done) | (simp; omega)) (by first | (simp; done) | exact one_sing rfl | exact one_map (fun _ => rfl) | exact one_piece (one_map (fun _ => rfl)) | exact one_tab (fun _ => rfl) | exact one_tab (fun _ => by split <;> rfl)) (by repeat (first | exact Upd.here _ _ _ | apply Upd.there)) (by first | rfl | (simp; done) | (simp; omega))) ?_
              rintro _ _ _ ⟨rfl, rfl⟩
              refine ⟨⟨Subs.sub (by repeat (first | exact Subs.nil _ | apply Subs.cons | exact List.Mem.head _ | refine List.Mem.tail _ ?_)), .inl rfl⟩, ?_⟩
              refine JR.m0 rfl rfl (Mv.storeAll sz_71 rfl rfl rfl (by first | rfl | (simp; done) | (simp; omega)) (by first | (simp; done) | exact one_sing rfl | exact one_map (fun _ => rfl) | exact one_piece (one_map (fun _ => rfl)) | exact one_tab (fun _ => rfl) | exact one_tab (fun _ => by split <;> rfl)) (by repeat (first | exact Upd.here _ _ _ | apply Upd.there)) (by first | rfl | (simp; done) | (simp; omega))) ?_
              rintro _ _ _ ⟨rfl, rfl⟩
              refine ⟨⟨Subs.sub (by repeat (first | exact Subs.nil _ | apply Subs.cons | exact List.Mem.head _ | refine List.Mem.tail _ ?_)), .inl rfl⟩, ?_⟩
              refine JR.nil ?_
              refine JQ.head (b8, b9) (by repeat (first | exact trivial | refine ⟨by first | rfl | (simp; done), ?_⟩)) (Subs.sub (by repeat (first | exact Subs.nil _ | apply Subs.cons | exact List.Mem.head _ | refine List.Mem.tail _ ?_))) (Picks.perm (by repeat (first | exact Picks.nil _ | apply Picks.cons | exact Pull.here _ _ | apply Pull.there))) ?_
              trivial
            exact JA.nil
          refine JA.alt rfl ?_ ?_
          · skip
            refine JR.m rfl rfl (Mv.alloc zero_71) (by decide) ?_
            rintro _ _ _ ⟨b9, rfl, rfl, rfl⟩
            refine ⟨⟨Subs.sub (by repeat (first | exact Subs.nil _ | apply Subs.cons | exact List.Mem.head _ | refine List.Mem.tail _ ?_)), .inr (St.keep (by repeat (first | exact Subs.nil _ | apply Subs.cons | exact List.Mem.head _ | refine List.Mem.tail _ ?_)) (by repeat (first | exact Picks.nil _ | apply Picks.cons | exact Pull.here _ _ | apply Pull.there)))⟩, ?_⟩
            refine JR.m rfl rfl (Mv.callB body_37 rfl (f37_spec m hm) (by repeat (first | exact Picks.nil _ | apply Picks.cons | exact Pull.here _ _ | apply Pull.there)) (by repeat (first | exact Lends.nil _ | apply Lends.cons | exact Lend.same _ _ | exact Lend.row _ _ _ _ _ _ (by decide) | apply Lend.there)) (by rintro _ _ _ ⟨_, h, _⟩; exact h)) (by decide) ?_
            rintro _ _ _ ⟨_, ⟨rfl, _, rfl⟩, hΓ, hH⟩
            simp only [List.cons_append, List.nil_append] at hH; subst hΓ hH
            refine ⟨⟨Subs.sub (by repeat (first | exact Subs.nil _ | apply Subs.cons | exact List.Mem.head _ | refine List.Mem.tail _ ?_)), .inr (St.keep (by repeat (first | exact Subs.nil _ | apply Subs.cons | exact List.Mem.head _ | refine List.Mem.tail _ ?_)) (by repeat (first | exact Picks.nil _ | apply Picks.cons | exact Pull.here _ _ | apply Pull.there)))⟩, ?_⟩
            refine JR.m rfl rfl (Mv.callB body_36 rfl (f36_spec a m (small_big ha) hm hm0) (by repeat (first | exact Picks.nil _ | apply Picks.cons | exact Pull.here _ _ | apply Pull.there)) (by repeat (first | exact Lends.nil _ | apply Lends.cons | exact Lend.same _ _ | exact Lend.row _ _ _ _ _ _ (by decide) | apply Lend.there)) (by rintro _ _ _ ⟨_, h, _⟩; exact h)) (by decide) ?_
            rintro _ _ _ ⟨_, ⟨rfl, _, rfl⟩, hΓ, hH⟩
            simp only [List.cons_append, List.nil_append] at hH; subst hΓ hH
            refine ⟨⟨Subs.sub (by repeat (first | exact Subs.nil _ | apply Subs.cons | exact List.Mem.head _ | refine List.Mem.tail _ ?_)), .inr (St.keep (by repeat (first | exact Subs.nil _ | apply Subs.cons | exact List.Mem.head _ | refine List.Mem.tail _ ?_)) (by repeat (first | exact Picks.nil _ | apply Picks.cons | exact Pull.here _ _ | apply Pull.there)))⟩, ?_⟩
            refine JR.u rfl rfl rfl (Yv.move rfl) (by decide) ?_
            refine JR.u rfl rfl rfl (Yv.as (v' := .agg (dgs (a % m)).toArray) (Yv.extract rfl rfl) rfl) (by decide) ?_
            refine JR.u rfl rfl rfl (Yv.as (v' := .agg (dgs (a / m)).toArray) (Yv.extract rfl rfl) rfl) (by decide) ?_
            refine JR.m0 rfl rfl (Mv.storeAll sz_71 rfl rfl rfl (by first | rfl | (simp; done) | (simp; omega)) (by first | (simp; done) | exact one_sing rfl | exact one_map (fun _ => rfl) | exact one_piece (one_map (fun _ => rfl)) | exact one_tab (fun _ => rfl) | exact one_tab (fun _ => by split <;> rfl)) (by repeat (first | exact Upd.here _ _ _ | apply Upd.there)) (by first | rfl | (simp; done) | (simp; omega))) ?_
            rintro _ _ _ ⟨rfl, rfl⟩
            refine ⟨⟨Subs.sub (by repeat (first | exact Subs.nil _ | apply Subs.cons | exact List.Mem.head _ | refine List.Mem.tail _ ?_)), .inl rfl⟩, ?_⟩
            refine JR.m0 rfl rfl (Mv.storeAll sz_71 rfl rfl rfl (by first | rfl | (simp; done) | (simp; omega)) (by first | (simp; done) | exact one_sing rfl | exact one_map (fun _ => rfl) | exact one_piece (one_map (fun _ => rfl)) | exact one_tab (fun _ => rfl) | exact one_tab (fun _ => by split <;> rfl)) (by repeat (first | exact Upd.here _ _ _ | apply Upd.there)) (by first | rfl | (simp; done) | (simp; omega))) ?_
            rintro _ _ _ ⟨rfl, rfl⟩
            refine ⟨⟨Subs.sub (by repeat (first | exact Subs.nil _ | apply Subs.cons | exact List.Mem.head _ | refine List.Mem.tail _ ?_)), .inl rfl⟩, ?_⟩
            refine JR.nil ?_
            refine JQ.head (b8, b9) (by repeat (first | exact trivial | refine ⟨by first | rfl | (simp; done), ?_⟩)) (Subs.sub (by repeat (first | exact Subs.nil _ | apply Subs.cons | exact List.Mem.head _ | refine List.Mem.tail _ ?_))) (Picks.perm (by repeat (first | exact Picks.nil _ | apply Picks.cons | exact Pull.here _ _ | apply Pull.there))) ?_
            trivial
          exact JA.nil
        refine JA.alt rfl ?_ ?_
        · skip
          refine JR.m rfl rfl (Mv.alloc zero_71) (by decide) ?_
          rintro _ _ _ ⟨b9, rfl, rfl, rfl⟩
          refine ⟨⟨Subs.sub (by repeat (first | exact Subs.nil _ | apply Subs.cons | exact List.Mem.head _ | refine List.Mem.tail _ ?_)), .inr (St.keep (by repeat (first | exact Subs.nil _ | apply Subs.cons | exact List.Mem.head _ | refine List.Mem.tail _ ?_)) (by repeat (first | exact Picks.nil _ | apply Picks.cons | exact Pull.here _ _ | apply Pull.there)))⟩, ?_⟩
          refine JR.m rfl rfl (Mv.callB body_37 rfl (f37_spec a ha) (by repeat (first | exact Picks.nil _ | apply Picks.cons | exact Pull.here _ _ | apply Pull.there)) (by repeat (first | exact Lends.nil _ | apply Lends.cons | exact Lend.same _ _ | exact Lend.row _ _ _ _ _ _ (by decide) | apply Lend.there)) (by rintro _ _ _ ⟨_, h, _⟩; exact h)) (by decide) ?_
          rintro _ _ _ ⟨_, ⟨rfl, _, rfl⟩, hΓ, hH⟩
          simp only [List.cons_append, List.nil_append] at hH; subst hΓ hH
          refine ⟨⟨Subs.sub (by repeat (first | exact Subs.nil _ | apply Subs.cons | exact List.Mem.head _ | refine List.Mem.tail _ ?_)), .inr (St.keep (by repeat (first | exact Subs.nil _ | apply Subs.cons | exact List.Mem.head _ | refine List.Mem.tail _ ?_)) (by repeat (first | exact Picks.nil _ | apply Picks.cons | exact Pull.here _ _ | apply Pull.there)))⟩, ?_⟩
          refine JR.m rfl rfl (Mv.callB body_37 rfl (f37_spec m hm) (by repeat (first | exact Picks.nil _ | apply Picks.cons | exact Pull.here _ _ | apply Pull.there)) (by repeat (first | exact Lends.nil _ | apply Lends.cons | exact Lend.same _ _ | exact Lend.row _ _ _ _ _ _ (by decide) | apply Lend.there)) (by rintro _ _ _ ⟨_, h, _⟩; exact h)) (by decide) ?_
          rintro _ _ _ ⟨_, ⟨rfl, _, rfl⟩, hΓ, hH⟩
          simp only [List.cons_append, List.nil_append] at hH; subst hΓ hH
          refine ⟨⟨Subs.sub (by repeat (first | exact Subs.nil _ | apply Subs.cons | exact List.Mem.head _ | refine List.Mem.tail _ ?_)), .inr (St.keep (by repeat (first | exact Subs.nil _ | apply Subs.cons | exact List.Mem.head _ | refine List.Mem.tail _ ?_)) (by repeat (first | exact Picks.nil _ | apply Picks.cons | exact Pull.here _ _ | apply Pull.there)))⟩, ?_⟩
          refine JR.m rfl rfl (Mv.callB body_36 rfl (f36_spec a m (small_big ha) hm hm0) (by repeat (first | exact Picks.nil _ | apply Picks.cons | exact Pull.here _ _ | apply Pull.there)) (by repeat (first | exact Lends.nil _ | apply Lends.cons | exact Lend.same _ _ | exact Lend.row _ _ _ _ _ _ (by decide) | apply Lend.there)) (by rintro _ _ _ ⟨_, h, _⟩; exact h)) (by decide) ?_
          rintro _ _ _ ⟨_, ⟨rfl, _, rfl⟩, hΓ, hH⟩
          simp only [List.cons_append, List.nil_append] at hH; subst hΓ hH
          refine ⟨⟨Subs.sub (by repeat (first | exact Subs.nil _ | apply Subs.cons | exact List.Mem.head _ | refine List.Mem.tail _ ?_)), .inr (St.keep (by repeat (first | exact Subs.nil _ | apply Subs.cons | exact List.Mem.head _ | refine List.Mem.tail _ ?_)) (by repeat (first | exact Picks.nil _ | apply Picks.cons | exact Pull.here _ _ | apply Pull.there)))⟩, ?_⟩
          refine JR.u rfl rfl rfl (Yv.move rfl) (by decide) ?_
          refine JR.u rfl rfl rfl (Yv.as (v' := .agg (dgs (a % m)).toArray) (Yv.extract rfl rfl) rfl) (by decide) ?_
          refine JR.u rfl rfl rfl (Yv.as (v' := .agg (dgs (a / m)).toArray) (Yv.extract rfl rfl) rfl) (by decide) ?_
          refine JR.m0 rfl rfl (Mv.storeAll sz_71 rfl rfl rfl (by first | rfl | (simp; done) | (simp; omega)) (by first | (simp; done) | exact one_sing rfl | exact one_map (fun _ => rfl) | exact one_piece (one_map (fun _ => rfl)) | exact one_tab (fun _ => rfl) | exact one_tab (fun _ => by split <;> rfl)) (by repeat (first | exact Upd.here _ _ _ | apply Upd.there)) (by first | rfl | (simp; done) | (simp; omega))) ?_
          rintro _ _ _ ⟨rfl, rfl⟩
          refine ⟨⟨Subs.sub (by repeat (first | exact Subs.nil _ | apply Subs.cons | exact List.Mem.head _ | refine List.Mem.tail _ ?_)), .inl rfl⟩, ?_⟩
          refine JR.m0 rfl rfl (Mv.storeAll sz_71 rfl rfl rfl (by first | rfl | (simp; done) | (simp; omega)) (by first | (simp; done) | exact one_sing rfl | exact one_map (fun _ => rfl) | exact one_piece (one_map (fun _ => rfl)) | exact one_tab (fun _ => rfl) | exact one_tab (fun _ => by split <;> rfl)) (by repeat (first | exact Upd.here _ _ _ | apply Upd.there)) (by first | rfl | (simp; done) | (simp; omega))) ?_
          rintro _ _ _ ⟨rfl, rfl⟩
          refine ⟨⟨Subs.sub (by repeat (first | exact Subs.nil _ | apply Subs.cons | exact List.Mem.head _ | refine List.Mem.tail _ ?_)), .inl rfl⟩, ?_⟩
          refine JR.nil ?_
          refine JQ.head (b8, b9) (by repeat (first | exact trivial | refine ⟨by first | rfl | (simp; done), ?_⟩)) (Subs.sub (by repeat (first | exact Subs.nil _ | apply Subs.cons | exact List.Mem.head _ | refine List.Mem.tail _ ?_))) (Picks.perm (by repeat (first | exact Picks.nil _ | apply Picks.cons | exact Pull.here _ _ | apply Pull.there))) ?_
          trivial
        exact JA.nil
      refine JA.alt rfl ?_ ?_
      · skip
        refine JR.m rfl rfl (Mv.alloc zero_71) (by decide) ?_
        rintro _ _ _ ⟨b9, rfl, rfl, rfl⟩
        refine ⟨⟨Subs.sub (by repeat (first | exact Subs.nil _ | apply Subs.cons | exact List.Mem.head _ | refine List.Mem.tail _ ?_)), .inr (St.keep (by repeat (first | exact Subs.nil _ | apply Subs.cons | exact List.Mem.head _ | refine List.Mem.tail _ ?_)) (by repeat (first | exact Picks.nil _ | apply Picks.cons | exact Pull.here _ _ | apply Pull.there)))⟩, ?_⟩
        refine JR.alt rfl ?_ ?_
        · skip
          refine JR.m rfl rfl (Mv.callB body_37 rfl (f37_spec a ha) (by repeat (first | exact Picks.nil _ | apply Picks.cons | exact Pull.here _ _ | apply Pull.there)) (by repeat (first | exact Lends.nil _ | apply Lends.cons | exact Lend.same _ _ | exact Lend.row _ _ _ _ _ _ (by decide) | apply Lend.there)) (by rintro _ _ _ ⟨_, h, _⟩; exact h)) (by decide) ?_
          rintro _ _ _ ⟨_, ⟨rfl, _, rfl⟩, hΓ, hH⟩
          simp only [List.cons_append, List.nil_append] at hH; subst hΓ hH
          refine ⟨⟨Subs.sub (by repeat (first | exact Subs.nil _ | apply Subs.cons | exact List.Mem.head _ | refine List.Mem.tail _ ?_)), .inr (St.keep (by repeat (first | exact Subs.nil _ | apply Subs.cons | exact List.Mem.head _ | refine List.Mem.tail _ ?_)) (by repeat (first | exact Picks.nil _ | apply Picks.cons | exact Pull.here _ _ | apply Pull.there)))⟩, ?_⟩
          refine JR.alt rfl ?_ ?_
          · skip
            refine JR.m rfl rfl (Mv.callB body_37 rfl (f37_spec m hm) (by repeat (first | exact Picks.nil _ | apply Picks.cons | exact Pull.here _ _ | apply Pull.there)) (by repeat (first | exact Lends.nil _ | apply Lends.cons | exact Lend.same _ _ | exact Lend.row _ _ _ _ _ _ (by decide) | apply Lend.there)) (by rintro _ _ _ ⟨_, h, _⟩; exact h)) (by decide) ?_
            rintro _ _ _ ⟨_, ⟨rfl, _, rfl⟩, hΓ, hH⟩
            simp only [List.cons_append, List.nil_append] at hH; subst hΓ hH
            refine ⟨⟨Subs.sub (by repeat (first | exact Subs.nil _ | apply Subs.cons | exact List.Mem.head _ | refine List.Mem.tail _ ?_)), .inr (St.keep (by repeat (first | exact Subs.nil _ | apply Subs.cons | exact List.Mem.head _ | refine List.Mem.tail _ ?_)) (by repeat (first | exact Picks.nil _ | apply Picks.cons | exact Pull.here _ _ | apply Pull.there)))⟩, ?_⟩
            refine JR.alt rfl ?_ ?_
            · skip
              refine JR.m rfl rfl (Mv.callB body_36 rfl (f36_spec a m (small_big ha) hm hm0) (by repeat (first | exact Picks.nil _ | apply Picks.cons | exact Pull.here _ _ | apply Pull.there)) (by repeat (first | exact Lends.nil _ | apply Lends.cons | exact Lend.same _ _ | exact Lend.row _ _ _ _ _ _ (by decide) | apply Lend.there)) (by rintro _ _ _ ⟨_, h, _⟩; exact h)) (by decide) ?_
              rintro _ _ _ ⟨_, ⟨rfl, _, rfl⟩, hΓ, hH⟩
              simp only [List.cons_append, List.nil_append] at hH; subst hΓ hH
              refine ⟨⟨Subs.sub (by repeat (first | exact Subs.nil _ | apply Subs.cons | exact List.Mem.head _ | refine List.Mem.tail _ ?_)), .inr (St.keep (by repeat (first | exact Subs.nil _ | apply Subs.cons | exact List.Mem.head _ | refine List.Mem.tail _ ?_)) (by repeat (first | exact Picks.nil _ | apply Picks.cons | exact Pull.here _ _ | apply Pull.there)))⟩, ?_⟩
              refine JR.u rfl rfl rfl (Yv.move rfl) (by decide) ?_
              refine JR.u rfl rfl rfl (Yv.as (v' := .agg (dgs (a % m)).toArray) (Yv.extract rfl rfl) rfl) (by decide) ?_
              refine JR.u rfl rfl rfl (Yv.as (v' := .agg (dgs (a / m)).toArray) (Yv.extract rfl rfl) rfl) (by decide) ?_
              refine JR.m rfl rfl (Mv.alloc zero_71) (by decide) ?_
              rintro _ _ _ ⟨b8, rfl, rfl, rfl⟩
              refine ⟨⟨Subs.sub (by repeat (first | exact Subs.nil _ | apply Subs.cons | exact List.Mem.head _ | refine List.Mem.tail _ ?_)), .inr (St.keep (by repeat (first | exact Subs.nil _ | apply Subs.cons | exact List.Mem.head _ | refine List.Mem.tail _ ?_)) (by repeat (first | exact Picks.nil _ | apply Picks.cons | exact Pull.here _ _ | apply Pull.there)))⟩, ?_⟩
              refine JR.m0 rfl rfl (Mv.storeAll sz_71 rfl rfl rfl (by first | rfl | (simp; done) | (simp; omega)) (by first | (simp; done) | exact one_sing rfl | exact one_map (fun _ => rfl) | exact one_piece (one_map (fun _ => rfl)) | exact one_tab (fun _ => rfl) | exact one_tab (fun _ => by split <;> rfl)) (by repeat (first | exact Upd.here _ _ _ | apply Upd.there)) (by first | rfl | (simp; done) | (simp; omega))) ?_
              rintro _ _ _ ⟨rfl, rfl⟩
              refine ⟨⟨Subs.sub (by repeat (first | exact Subs.nil _ | apply Subs.cons | exact List.Mem.head _ | refine List.Mem.tail _ ?_)), .inl rfl⟩, ?_⟩
              refine JR.m0 rfl rfl (Mv.storeAll sz_71 rfl rfl rfl (by first | rfl | (simp; done) | (simp; omega)) (by first | (simp; done) | exact one_sing rfl | exact one_map (fun _ => rfl) | exact one_piece (one_map (fun _ => rfl)) | exact one_tab (fun _ => rfl) | exact one_tab (fun _ => by split <;> rfl)) (by repeat (first | exact Upd.here _ _ _ | apply Upd.there)) (by first | rfl | (simp; done) | (simp; omega))) ?_
              rintro _ _ _ ⟨rfl, rfl⟩
              refine ⟨⟨Subs.sub (by repeat (first | exact Subs.nil _ | apply Subs.cons | exact List.Mem.head _ | refine List.Mem.tail _ ?_)), .inl rfl⟩, ?_⟩
              refine JR.nil ?_
              refine JQ.head (b8, b9) (by repeat (first | exact trivial | refine ⟨by first | rfl | (simp; done), ?_⟩)) (Subs.sub (by repeat (first | exact Subs.nil _ | apply Subs.cons | exact List.Mem.head _ | refine List.Mem.tail _ ?_))) (Picks.perm (by repeat (first | exact Picks.nil _ | apply Picks.cons | exact Pull.here _ _ | apply Pull.there))) ?_
              trivial
            refine JA.alt rfl ?_ ?_
            · skip
              refine JR.m rfl rfl (Mv.alloc zero_71) (by decide) ?_
              rintro _ _ _ ⟨b8, rfl, rfl, rfl⟩
              refine ⟨⟨Subs.sub (by repeat (first | exact Subs.nil _ | apply Subs.cons | exact List.Mem.head _ | refine List.Mem.tail _ ?_)), .inr (St.keep (by repeat (first | exact Subs.nil _ | apply Subs.cons | exact List.Mem.head _ | refine List.Mem.tail _ ?_)) (by repeat (first | exact Picks.nil _ | apply Picks.cons | exact Pull.here _ _ | apply Pull.there)))⟩, ?_⟩
              refine JR.m rfl rfl (Mv.callB body_36 rfl (f36_spec a m (small_big ha) hm hm0) (by repeat (first | exact Picks.nil _ | apply Picks.cons | exact Pull.here _ _ | apply Pull.there)) (by repeat (first | exact Lends.nil _ | apply Lends.cons | exact Lend.same _ _ | exact Lend.row _ _ _ _ _ _ (by decide) | apply Lend.there)) (by rintro _ _ _ ⟨_, h, _⟩; exact h)) (by decide) ?_
              rintro _ _ _ ⟨_, ⟨rfl, _, rfl⟩, hΓ, hH⟩
              simp only [List.cons_append, List.nil_append] at hH; subst hΓ hH
              refine ⟨⟨Subs.sub (by repeat (first | exact Subs.nil _ | apply Subs.cons | exact List.Mem.head _ | refine List.Mem.tail _ ?_)), .inr (St.keep (by repeat (first | exact Subs.nil _ | apply Subs.cons | exact List.Mem.head _ | refine List.Mem.tail _ ?_)) (by repeat (first | exact Picks.nil _ | apply Picks.cons | exact Pull.here _ _ | apply Pull.there)))⟩, ?_⟩
              refine JR.u rfl rfl rfl (Yv.move rfl) (by decide) ?_
              refine JR.u rfl rfl rfl (Yv.as (v' := .agg (dgs (a % m)).toArray) (Yv.extract rfl rfl) rfl) (by decide) ?_
              refine JR.u rfl rfl rfl (Yv.as (v' := .agg (dgs (a / m)).toArray) (Yv.extract rfl rfl) rfl) (by decide) ?_
              refine JR.m0 rfl rfl (Mv.storeAll sz_71 rfl rfl rfl (by first | rfl | (simp; done) | (simp; omega)) (by first | (simp; done) | exact one_sing rfl | exact one_map (fun _ => rfl) | exact one_piece (one_map (fun _ => rfl)) | exact one_tab (fun _ => rfl) | exact one_tab (fun _ => by split <;> rfl)) (by repeat (first | exact Upd.here _ _ _ | apply Upd.there)) (by first | rfl | (simp; done) | (simp; omega))) ?_
              rintro _ _ _ ⟨rfl, rfl⟩
              refine ⟨⟨Subs.sub (by repeat (first | exact Subs.nil _ | apply Subs.cons | exact List.Mem.head _ | refine List.Mem.tail _ ?_)), .inl rfl⟩, ?_⟩
              refine JR.m0 rfl rfl (Mv.storeAll sz_71 rfl rfl rfl (by first | rfl | (simp; done) | (simp; omega)) (by first | (simp; done) | exact one_sing rfl | exact one_map (fun _ => rfl) | exact one_piece (one_map (fun _ => rfl)) | exact one_tab (fun _ => rfl) | exact one_tab (fun _ => by split <;> rfl)) (by repeat (first | exact Upd.here _ _ _ | apply Upd.there)) (by first | rfl | (simp; done) | (simp; omega))) ?_
              rintro _ _ _ ⟨rfl, rfl⟩
              refine ⟨⟨Subs.sub (by repeat (first | exact Subs.nil _ | apply Subs.cons | exact List.Mem.head _ | refine List.Mem.tail _ ?_)), .inl rfl⟩, ?_⟩
              refine JR.nil ?_
              refine JQ.head (b8, b9) (by repeat (first | exact trivial | refine ⟨by first | rfl | (simp; done), ?_⟩)) (Subs.sub (by repeat (first | exact Subs.nil _ | apply Subs.cons | exact List.Mem.head _ | refine List.Mem.tail _ ?_))) (Picks.perm (by repeat (first | exact Picks.nil _ | apply Picks.cons | exact Pull.here _ _ | apply Pull.there))) ?_
              trivial
            exact JA.nil
          refine JA.alt rfl ?_ ?_
          · skip
            refine JR.m rfl rfl (Mv.alloc zero_71) (by decide) ?_
            rintro _ _ _ ⟨b8, rfl, rfl, rfl⟩
            refine ⟨⟨Subs.sub (by repeat (first | exact Subs.nil _ | apply Subs.cons | exact List.Mem.head _ | refine List.Mem.tail _ ?_)), .inr (St.keep (by repeat (first | exact Subs.nil _ | apply Subs.cons | exact List.Mem.head _ | refine List.Mem.tail _ ?_)) (by repeat (first | exact Picks.nil _ | apply Picks.cons | exact Pull.here _ _ | apply Pull.there)))⟩, ?_⟩
            refine JR.m rfl rfl (Mv.callB body_37 rfl (f37_spec m hm) (by repeat (first | exact Picks.nil _ | apply Picks.cons | exact Pull.here _ _ | apply Pull.there)) (by repeat (first | exact Lends.nil _ | apply Lends.cons | exact Lend.same _ _ | exact Lend.row _ _ _ _ _ _ (by decide) | apply Lend.there)) (by rintro _ _ _ ⟨_, h, _⟩; exact h)) (by decide) ?_
            rintro _ _ _ ⟨_, ⟨rfl, _, rfl⟩, hΓ, hH⟩
            simp only [List.cons_append, List.nil_append] at hH; subst hΓ hH
            refine ⟨⟨Subs.sub (by repeat (first | exact Subs.nil _ | apply Subs.cons | exact List.Mem.head _ | refine List.Mem.tail _ ?_)), .inr (St.keep (by repeat (first | exact Subs.nil _ | apply Subs.cons | exact List.Mem.head _ | refine List.Mem.tail _ ?_)) (by repeat (first | exact Picks.nil _ | apply Picks.cons | exact Pull.here _ _ | apply Pull.there)))⟩, ?_⟩
            refine JR.m rfl rfl (Mv.callB body_36 rfl (f36_spec a m (small_big ha) hm hm0) (by repeat (first | exact Picks.nil _ | apply Picks.cons | exact Pull.here _ _ | apply Pull.there)) (by repeat (first | exact Lends.nil _ | apply Lends.cons | exact Lend.same _ _ | exact Lend.row _ _ _ _ _ _ (by decide) | apply Lend.there)) (by rintro _ _ _ ⟨_, h, _⟩; exact h)) (by decide) ?_
            rintro _ _ _ ⟨_, ⟨rfl, _, rfl⟩, hΓ, hH⟩
            simp only [List.cons_append, List.nil_append] at hH; subst hΓ hH
            refine ⟨⟨Subs.sub (by repeat (first | exact Subs.nil _ | apply Subs.cons | exact List.Mem.head _ | refine List.Mem.tail _ ?_)), .inr (St.keep (by repeat (first | exact Subs.nil _ | apply Subs.cons | exact List.Mem.head _ | refine List.Mem.tail _ ?_)) (by repeat (first | exact Picks.nil _ | apply Picks.cons | exact Pull.here _ _ | apply Pull.there)))⟩, ?_⟩
            refine JR.u rfl rfl rfl (Yv.move rfl) (by decide) ?_
            refine JR.u rfl rfl rfl (Yv.as (v' := .agg (dgs (a % m)).toArray) (Yv.extract rfl rfl) rfl) (by decide) ?_
            refine JR.u rfl rfl rfl (Yv.as (v' := .agg (dgs (a / m)).toArray) (Yv.extract rfl rfl) rfl) (by decide) ?_
            refine JR.m0 rfl rfl (Mv.storeAll sz_71 rfl rfl rfl (by first | rfl | (simp; done) | (simp; omega)) (by first | (simp; done) | exact one_sing rfl | exact one_map (fun _ => rfl) | exact one_piece (one_map (fun _ => rfl)) | exact one_tab (fun _ => rfl) | exact one_tab (fun _ => by split <;> rfl)) (by repeat (first | exact Upd.here _ _ _ | apply Upd.there)) (by first | rfl | (simp; done) | (simp; omega))) ?_
            rintro _ _ _ ⟨rfl, rfl⟩
            refine ⟨⟨Subs.sub (by repeat (first | exact Subs.nil _ | apply Subs.cons | exact List.Mem.head _ | refine List.Mem.tail _ ?_)), .inl rfl⟩, ?_⟩
            refine JR.m0 rfl rfl (Mv.storeAll sz_71 rfl rfl rfl (by first | rfl | (simp; done) | (simp; omega)) (by first | (simp; done) | exact one_sing rfl | exact one_map (fun _ => rfl) | exact one_piece (one_map (fun _ => rfl)) | exact one_tab (fun _ => rfl) | exact one_tab (fun _ => by split <;> rfl)) (by repeat (first | exact Upd.here _ _ _ | apply Upd.there)) (by first | rfl | (simp; done) | (simp; omega))) ?_
            rintro _ _ _ ⟨rfl, rfl⟩
            refine ⟨⟨Subs.sub (by repeat (first | exact Subs.nil _ | apply Subs.cons | exact List.Mem.head _ | refine List.Mem.tail _ ?_)), .inl rfl⟩, ?_⟩
            refine JR.nil ?_
            refine JQ.head (b8, b9) (by repeat (first | exact trivial | refine ⟨by first | rfl | (simp; done), ?_⟩)) (Subs.sub (by repeat (first | exact Subs.nil _ | apply Subs.cons | exact List.Mem.head _ | refine List.Mem.tail _ ?_))) (Picks.perm (by repeat (first | exact Picks.nil _ | apply Picks.cons | exact Pull.here _ _ | apply Pull.there))) ?_
            trivial
          exact JA.nil
        refine JA.alt rfl ?_ ?_
        · skip
          refine JR.m rfl rfl (Mv.alloc zero_71) (by decide) ?_
          rintro _ _ _ ⟨b8, rfl, rfl, rfl⟩
          refine ⟨⟨Subs.sub (by repeat (first | exact Subs.nil _ | apply Subs.cons | exact List.Mem.head _ | refine List.Mem.tail _ ?_)), .inr (St.keep (by repeat (first | exact Subs.nil _ | apply Subs.cons | exact List.Mem.head _ | refine List.Mem.tail _ ?_)) (by repeat (first | exact Picks.nil _ | apply Picks.cons | exact Pull.here _ _ | apply Pull.there)))⟩, ?_⟩
          refine JR.m rfl rfl (Mv.callB body_37 rfl (f37_spec a ha) (by repeat (first | exact Picks.nil _ | apply Picks.cons | exact Pull.here _ _ | apply Pull.there)) (by repeat (first | exact Lends.nil _ | apply Lends.cons | exact Lend.same _ _ | exact Lend.row _ _ _ _ _ _ (by decide) | apply Lend.there)) (by rintro _ _ _ ⟨_, h, _⟩; exact h)) (by decide) ?_
          rintro _ _ _ ⟨_, ⟨rfl, _, rfl⟩, hΓ, hH⟩
          simp only [List.cons_append, List.nil_append] at hH; subst hΓ hH
          refine ⟨⟨Subs.sub (by repeat (first | exact Subs.nil _ | apply Subs.cons | exact List.Mem.head _ | refine List.Mem.tail _ ?_)), .inr (St.keep (by repeat (first | exact Subs.nil _ | apply Subs.cons | exact List.Mem.head _ | refine List.Mem.tail _ ?_)) (by repeat (first | exact Picks.nil _ | apply Picks.cons | exact Pull.here _ _ | apply Pull.there)))⟩, ?_⟩
          refine JR.m rfl rfl (Mv.callB body_37 rfl (f37_spec m hm) (by repeat (first | exact Picks.nil _ | apply Picks.cons | exact Pull.here _ _ | apply Pull.there)) (by repeat (first | exact Lends.nil _ | apply Lends.cons | exact Lend.same _ _ | exact Lend.row _ _ _ _ _ _ (by decide) | apply Lend.there)) (by rintro _ _ _ ⟨_, h, _⟩; exact h)) (by decide) ?_
          rintro _ _ _ ⟨_, ⟨rfl, _, rfl⟩, hΓ, hH⟩
          simp only [List.cons_append, List.nil_append] at hH; subst hΓ hH
          refine ⟨⟨Subs.sub (by repeat (first | exact Subs.nil _ | apply Subs.cons | exact List.Mem.head _ | refine List.Mem.tail _ ?_)), .inr (St.keep (by repeat (first | exact Subs.nil _ | apply Subs.cons | exact List.Mem.head _ | refine List.Mem.tail _ ?_)) (by repeat (first | exact Picks.nil _ | apply Picks.cons | exact Pull.here _ _ | apply Pull.there)))⟩, ?_⟩
          refine JR.m rfl rfl (Mv.callB body_36 rfl (f36_spec a m (small_big ha) hm hm0) (by repeat (first | exact Picks.nil _ | apply Picks.cons | exact Pull.here _ _ | apply Pull.there)) (by repeat (first | exact Lends.nil _ | apply Lends.cons | exact Lend.same _ _ | exact Lend.row _ _ _ _ _ _ (by decide) | apply Lend.there)) (by rintro _ _ _ ⟨_, h, _⟩; exact h)) (by decide) ?_
          rintro _ _ _ ⟨_, ⟨rfl, _, rfl⟩, hΓ, hH⟩
          simp only [List.cons_append, List.nil_append] at hH; subst hΓ hH
          refine ⟨⟨Subs.sub (by repeat (first | exact Subs.nil _ | apply Subs.cons | exact List.Mem.head _ | refine List.Mem.tail _ ?_)), .inr (St.keep (by repeat (first | exact Subs.nil _ | apply Subs.cons | exact List.Mem.head _ | refine List.Mem.tail _ ?_)) (by repeat (first | exact Picks.nil _ | apply Picks.cons | exact Pull.here _ _ | apply Pull.there)))⟩, ?_⟩
          refine JR.u rfl rfl rfl (Yv.move rfl) (by decide) ?_
          refine JR.u rfl rfl rfl (Yv.as (v' := .agg (dgs (a % m)).toArray) (Yv.extract rfl rfl) rfl) (by decide) ?_
          refine JR.u rfl rfl rfl (Yv.as (v' := .agg (dgs (a / m)).toArray) (Yv.extract rfl rfl) rfl) (by decide) ?_
          refine JR.m0 rfl rfl (Mv.storeAll sz_71 rfl rfl rfl (by first | rfl | (simp; done) | (simp; omega)) (by first | (simp; done) | exact one_sing rfl | exact one_map (fun _ => rfl) | exact one_piece (one_map (fun _ => rfl)) | exact one_tab (fun _ => rfl) | exact one_tab (fun _ => by split <;> rfl)) (by repeat (first | exact Upd.here _ _ _ | apply Upd.there)) (by first | rfl | (simp; done) | (simp; omega))) ?_
          rintro _ _ _ ⟨rfl, rfl⟩
          refine ⟨⟨Subs.sub (by repeat (first | exact Subs.nil _ | apply Subs.cons | exact List.Mem.head _ | refine List.Mem.tail _ ?_)), .inl rfl⟩, ?_⟩
          refine JR.m0 rfl rfl (Mv.storeAll sz_71 rfl rfl rfl (by first | rfl | (simp; done) | (simp; omega)) (by first | (simp; done) | exact one_sing rfl | exact one_map (fun _ => rfl) | exact one_piece (one_map (fun _ => rfl)) | exact one_tab (fun _ => rfl) | exact one_tab (fun _ => by split <;> rfl)) (by repeat (first | exact Upd.here _ _ _ | apply Upd.there)) (by first | rfl | (simp; done) | (simp; omega))) ?_
          rintro _ _ _ ⟨rfl, rfl⟩
          refine ⟨⟨Subs.sub (by repeat (first | exact Subs.nil _ | apply Subs.cons | exact List.Mem.head _ | refine List.Mem.tail _ ?_)), .inl rfl⟩, ?_⟩
          refine JR.nil ?_
          refine JQ.head (b8, b9) (by repeat (first | exact trivial | refine ⟨by first | rfl | (simp; done), ?_⟩)) (Subs.sub (by repeat (first | exact Subs.nil _ | apply Subs.cons | exact List.Mem.head _ | refine List.Mem.tail _ ?_))) (Picks.perm (by repeat (first | exact Picks.nil _ | apply Picks.cons | exact Pull.here _ _ | apply Pull.there))) ?_
          trivial
        exact JA.nil
      exact JA.nil
    · skip
      obtain ⟨b8, b9⟩ := x
      dsimp only
      refine JC.frz (r := Res.cells b8 (dgs (a % m)) 71) (by repeat (first | exact Pull.here _ _ | apply Pull.there)) ?_
      refine JC.frz (r := Res.cells b9 (dgs (a / m)) 71) (by repeat (first | exact Pull.here _ _ | apply Pull.there)) ?_
      refine JC.seq ?_
      refine JC.draw (.one 0 (.one 2 (.one 1 (.one 3 (.one 4 (.one 5 (.one 6 .nil))))))) (fun i => ([1, 3, 4, 5] : List Nat).contains i) (fun i => ([1, 3, 4, 5] : List Nat).contains i) (fun i => ([0, 2, 6] : List Nat).contains i) mixed (by kernel_rfl) (by decide) (by kernel_rfl) ?_
      first | refine JR.u rfl rfl rfl (Yv.loadOwn agg_71 (by repeat (first | exact List.Mem.head _ | refine List.Mem.tail _ ?_)) rfl (by first | rfl | (simp; done) | (simp; omega) | (simp [*]; done))) (by decide) ?_ | refine JR.u rfl rfl rfl (Yv.loadOwnAt agg_71 (by repeat (first | exact List.Mem.head _ | refine List.Mem.tail _ ?_)) rfl (by first | rfl | (simp; done) | (simp; omega) | (simp [*]; done))) (by decide) ?_ | refine JR.u rfl rfl rfl (Yv.loadRow agg_71 (by repeat (first | exact List.Mem.head _ | refine List.Mem.tail _ ?_)) rfl (by first | rfl | (simp; done) | (simp; omega) | (simp [*]; done))) (by decide) ?_ | refine JR.u rfl rfl rfl (Yv.loadRd agg_71 (by repeat (first | exact Lend.same _ _ | exact Lend.row _ _ _ _ _ _ (by decide) | apply Lend.there)) rfl (by first | rfl | (simp; done) | (simp; omega) | (simp [*]; done))) (by decide) ?_ | refine JR.u rfl rfl rfl (Yv.loadRo agg_71 (by repeat (first | exact List.Mem.head _ | refine List.Mem.tail _ ?_)) rfl (by first | rfl | (simp; done) | (simp; omega) | (simp [*]; done))) (by decide) ?_
      first | refine JR.u rfl rfl rfl (Yv.loadOwn agg_71 (by repeat (first | exact List.Mem.head _ | refine List.Mem.tail _ ?_)) rfl (by first | rfl | (simp; done) | (simp; omega) | (simp [*]; done))) (by decide) ?_ | refine JR.u rfl rfl rfl (Yv.loadOwnAt agg_71 (by repeat (first | exact List.Mem.head _ | refine List.Mem.tail _ ?_)) rfl (by first | rfl | (simp; done) | (simp; omega) | (simp [*]; done))) (by decide) ?_ | refine JR.u rfl rfl rfl (Yv.loadRow agg_71 (by repeat (first | exact List.Mem.head _ | refine List.Mem.tail _ ?_)) rfl (by first | rfl | (simp; done) | (simp; omega) | (simp [*]; done))) (by decide) ?_ | refine JR.u rfl rfl rfl (Yv.loadRd agg_71 (by repeat (first | exact Lend.same _ _ | exact Lend.row _ _ _ _ _ _ (by decide) | apply Lend.there)) rfl (by first | rfl | (simp; done) | (simp; omega) | (simp [*]; done))) (by decide) ?_ | refine JR.u rfl rfl rfl (Yv.loadRo agg_71 (by repeat (first | exact List.Mem.head _ | refine List.Mem.tail _ ?_)) rfl (by first | rfl | (simp; done) | (simp; omega) | (simp [*]; done))) (by decide) ?_
      refine JR.m rfl rfl (Mv.callB body_38 rfl (f38_spec (a / m)) (by repeat (first | exact Picks.nil _ | apply Picks.cons | exact Pull.here _ _ | apply Pull.there)) (by repeat (first | exact Lends.nil _ | apply Lends.cons | exact Lend.same _ _ | exact Lend.row _ _ _ _ _ _ (by decide) | apply Lend.there)) (by rintro _ _ _ ⟨_, h, _⟩; exact h)) (by decide) ?_
      rintro _ _ _ ⟨_, ⟨rfl, _, rfl⟩, hΓ, hH⟩
      simp only [List.cons_append, List.nil_append] at hH; subst hΓ hH
      refine ⟨⟨Subs.sub (by repeat (first | exact Subs.nil _ | apply Subs.cons | exact List.Mem.head _ | refine List.Mem.tail _ ?_)), .inl rfl⟩, ?_⟩
      refine JR.m rfl rfl (Mv.callB body_38 rfl (f38_spec (a % m)) (by repeat (first | exact Picks.nil _ | apply Picks.cons | exact Pull.here _ _ | apply Pull.there)) (by repeat (first | exact Lends.nil _ | apply Lends.cons | exact Lend.same _ _ | exact Lend.row _ _ _ _ _ _ (by decide) | apply Lend.there)) (by rintro _ _ _ ⟨_, h, _⟩; exact h)) (by decide) ?_
      rintro _ _ _ ⟨_, ⟨rfl, _, rfl⟩, hΓ, hH⟩
      simp only [List.cons_append, List.nil_append] at hH; subst hΓ hH
      refine ⟨⟨Subs.sub (by repeat (first | exact Subs.nil _ | apply Subs.cons | exact List.Mem.head _ | refine List.Mem.tail _ ?_)), .inl rfl⟩, ?_⟩
      refine JR.m0 rfl rfl (Mv.storeAll sz_32 rfl rfl rfl (by first | rfl | (simp; done) | (simp; omega)) (by first | (simp; done) | exact one_sing rfl | exact one_map (fun _ => rfl) | exact one_piece (one_map (fun _ => rfl)) | exact one_tab (fun _ => rfl) | exact one_tab (fun _ => by split <;> rfl)) (by repeat (first | exact Upd.here _ _ _ | apply Upd.there)) (by first | rfl | (simp; done) | (simp; omega))) ?_
      rintro _ _ _ ⟨rfl, rfl⟩
      refine ⟨⟨Subs.sub (by repeat (first | exact Subs.nil _ | apply Subs.cons | exact List.Mem.head _ | refine List.Mem.tail _ ?_)), .inl rfl⟩, ?_⟩
      refine JR.m0 rfl rfl (Mv.storeAll sz_32 rfl rfl rfl (by first | rfl | (simp; done) | (simp; omega)) (by first | (simp; done) | exact one_sing rfl | exact one_map (fun _ => rfl) | exact one_piece (one_map (fun _ => rfl)) | exact one_tab (fun _ => rfl) | exact one_tab (fun _ => by split <;> rfl)) (by repeat (first | exact Upd.here _ _ _ | apply Upd.there)) (by first | rfl | (simp; done) | (simp; omega))) ?_
      rintro _ _ _ ⟨rfl, rfl⟩
      refine ⟨⟨Subs.sub (by repeat (first | exact Subs.nil _ | apply Subs.cons | exact List.Mem.head _ | refine List.Mem.tail _ ?_)), .inl rfl⟩, ?_⟩
      refine JR.u rfl rfl rfl (Yv.assign rfl) (by decide) ?_
      refine JR.nil ?_
      refine JQ.then_normal ?_
      refine JC.ret ?_
      exact JQ.done (.inr rfl) (Γ' := []) (H' := []) (res3 rfl (RV.cell agg_32 (by repeat (first | exact List.Mem.head _ | refine List.Mem.tail _ ?_)) rfl (by first | rfl | (simp; done) | (simp; omega))) (RV.cell agg_32 (by repeat (first | exact List.Mem.head _ | refine List.Mem.tail _ ?_)) rfl (by first | rfl | (simp; done) | (simp; omega))) (RV.tmp rfl)) (Subs.sub (by repeat (first | exact Subs.nil _ | apply Subs.cons | exact List.Mem.head _ | refine List.Mem.tail _ ?_))) (Picks.perm (by repeat (first | exact Picks.nil _ | apply Picks.cons | exact Pull.here _ _ | apply Pull.there))) ⟨by rw [remF, if_neg hc1, if_neg hc1], rfl, rfl⟩
end Go.Proofs.Ytfcodaigdigjmaa
