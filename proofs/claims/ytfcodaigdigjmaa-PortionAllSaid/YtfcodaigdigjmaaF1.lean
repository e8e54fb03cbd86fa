/- Walks: numbers of four words: sums, differences, which is greater. -/
import Derived.Test.YtfcodaigdigjmaaS9
import Derived.Test.YtfcodaigdigjmaaB
namespace Go.Proofs.Ytfcodaigdigjmaa
open Go.RowKit
set_option maxRecDepth 100000
set_option linter.unusedVariables false
set_option linter.unusedSimpArgs false
theorem eql_nat {x y : Operand} {us vs : List W64} (ha : us.length = 4) (hb : vs.length = 4) : BinR Try.prog .eql 32 x y (.agg (us.map u64).toArray) (.agg (vs.map u64).toArray) (.bool (decide (us = vs))) :=
  BinR.eql_arr (f := u64) (g := fun x => (x.toNat : Int)) (k := .u64) Try.underlying32 Try.underlying24 sz_24 (by kernel_rfl) (fun _ => rfl) (fun x y h => BitVec.eq_of_toNat_eq (by exact Int.ofNat.inj h)) us vs ha hb
theorem neq_nat {x y : Operand} {us vs : List W64} (ha : us.length = 4) (hb : vs.length = 4) : BinR Try.prog .neq 32 x y (.agg (us.map u64).toArray) (.agg (vs.map u64).toArray) (.bool (!decide (us = vs))) :=
  BinR.neq_arr (f := u64) (g := fun x => (x.toNat : Int)) (k := .u64) Try.underlying32 Try.underlying24 sz_24 (by kernel_rfl) (fun _ => rfl) (fun x y h => BitVec.eq_of_toNat_eq (by exact Int.ofNat.inj h)) us vs ha hb


theorem f27_spec (a b : Nat) (ha : a < 115792089237316195423570985008687907853269984665640564039457584007913129639936) (hb : b < 115792089237316195423570985008687907853269984665640564039457584007913129639936) :
    Spec Try.prog 27 #[(.agg ((wd a).map u64).toArray), (.agg ((wd b).map u64).toArray)] [] []
      (fun r Γ' H' => r = (.tuple #[.agg ((wd (a + b)).map u64).toArray, u64 (BitVec.ofNat 64 ((a + b) / 115792089237316195423570985008687907853269984665640564039457584007913129639936))]) ∧ Γ' = [] ∧ H' = []) := by
  refine Spec.of_args Try.func27 rfl Try.ntmps27 (by simp) fun w => ?_
  refine JC.seq ?_
  refine JC.region ?_
  refine JO.box rfl _ rfl (by decide) fun b2 => ?_
  refine JO.box rfl _ rfl (by decide) fun b3 => ?_
  refine JO.alloc _ zero_32 rfl (by decide) fun b4 => ?_
  refine JO.v (Yv.as (v' := u64 (cry a b 0)) (Yv.assign rfl) (by rw [cry_0]; rfl)) (by decide) ?_
  refine JO.nil ?_
  refine JQ.then_normal ?_
  refine JC.seq ?_
  refine JC.seq ?_
  refine JC.region ?_
  refine JO.v (Yv.move rfl) (by decide) ?_
  refine JO.nil ?_
  refine JQ.then_normal ?_
  refine JC.block ?_
  refine JC.loop (ι := Nat) (fun x => x ≤ 4) (fun x => [(2, ptr b2 0), (3, ptr b3 0), (4, ptr b4 0), (5, u64 (cry a b x)), (7, it (x : Int))]) (fun x => []) (fun x => [Res.cells b2 ((wd a).map u64) 32, Res.cells b3 ((wd b).map u64) 32, Res.cells b4 (tw (wat (a + b)) x) 32]) (fun x => 4 - x) 0 (by repeat (first | exact trivial | refine ⟨by first | rfl | (simp; done), ?_⟩)) (Subs.sub (by repeat (first | exact Subs.nil _ | apply Subs.cons | exact List.Mem.head _ | refine List.Mem.tail _ ?_))) (Picks.perm (by repeat (first | exact Picks.nil _ | apply Picks.cons | exact Pull.here _ _ | apply Pull.there))) ?_ (fun x hx => ?_)
  · exact Nat.zero_le _
  refine JC.seq ?_
  refine JC.region ?_
  refine JO.v (Yv.bin rfl rfl BinR.lss_i) (by decide) ?_
  refine JO.nil ?_
  refine JQ.then_normal ?_
  refine JC.seq ?_
  refine JC.cond rfl (fun hc1 => ?_) (fun hc1 => ?_)
  · try simp only [decide_eq_true_eq, decide_eq_false_iff_not, Bool.not_eq_true', Bool.not_eq_false', ne_eq, Decidable.not_not, Bool.not_eq_true, Bool.and_eq_true, Bool.or_eq_true, BitVec.reduceToNat] at hc1
    refine JC.skip ?_
    refine JQ.then_normal ?_
    refine JC.seq ?_
    refine JC.block ?_
    refine JC.seq ?_
    refine JC.region ?_
    refine JO.v (Yv.move rfl) (by decide) ?_
    refine JO.v (Yv.assign rfl) (by decide) ?_
    refine JO.nil ?_
    refine JQ.then_normal ?_
    refine JC.draw (.one 0 (.one 1 (.one 2 (.one 3 (.one 4 (.one 5 (.one 6 (.one 7 (.one 8 (.one 9 (.one 10 (.one 11 (.one 12 (.one 13 (.one 14 .nil))))))))))))))) (fun i => ([13] : List Nat).contains i) (fun i => ([13] : List Nat).contains i) (fun i => ([0, 1, 2, 4, 5, 7, 8, 9, 10, 11, 12, 14] : List Nat).contains i) mixed (by kernel_rfl) (by decide) (by kernel_rfl) ?_
    refine JR.u rfl rfl rfl (Yv.move rfl) (by decide) ?_
    refine JR.u rfl rfl rfl (Yv.move rfl) (by decide) ?_
    first | refine JR.u rfl rfl rfl (Yv.indexArr1 Try.underlying32 sz_24 rfl rfl (by first | exact ltb rfl | (simp; done) | (simp; omega) | omega | (simp [*]; omega))) (by decide) ?_ | refine JR.u rfl rfl rfl (Yv.indexArr1o Try.underlying32 sz_24 rfl rfl (by first | exact ltb rfl | (simp; done) | (simp; omega) | omega | (simp [*]; omega))) (by decide) ?_
    refine JR.v rfl rfl rfl (Yv.load1 one_24 rfl (by first | exact Kn.own (by repeat (first | exact List.Mem.head _ | refine List.Mem.tail _ ?_)) (by first | exact wd_get _ (by omega) | rfl | exact tab_get (by first | omega | (simp; omega)) | exact gm (d := 0) (by first | omega | (simp; omega))) | exact Kn.ro (by repeat (first | exact List.Mem.head _ | refine List.Mem.tail _ ?_)) (by first | exact wd_get _ (by omega) | rfl | exact tab_get (by first | omega | (simp; omega)) | exact gm (d := 0) (by first | omega | (simp; omega))) | exact Kn.row (by repeat (first | exact List.Mem.head _ | refine List.Mem.tail _ ?_)) (by first | exact wd_get _ (by omega) | rfl | exact tab_get (by first | omega | (simp; omega)) | exact gm (d := 0) (by first | omega | (simp; omega))) | exact Kn.rd (by repeat (first | exact Lend.same _ _ | exact Lend.row _ _ _ _ _ _ (by decide) | apply Lend.there)) (by first | exact wd_get _ (by omega) | rfl | exact tab_get (by first | omega | (simp; omega)) | exact gm (d := 0) (by first | omega | (simp; omega))) | exact Kn.rd2 (by repeat (first | exact Lend.same _ _ | exact Lend.row _ _ _ _ _ _ (by decide) | apply Lend.there)) (by first | exact wd_get _ (by omega) | rfl | exact tab_get (by first | omega | (simp; omega)) | exact gm (d := 0) (by first | omega | (simp; omega))))) (by decide) ?_
    refine JR.u rfl rfl rfl (Yv.move rfl) (by decide) ?_
    first | refine JR.u rfl rfl rfl (Yv.indexArr1 Try.underlying32 sz_24 rfl rfl (by first | exact ltb rfl | (simp; done) | (simp; omega) | omega | (simp [*]; omega))) (by decide) ?_ | refine JR.u rfl rfl rfl (Yv.indexArr1o Try.underlying32 sz_24 rfl rfl (by first | exact ltb rfl | (simp; done) | (simp; omega) | omega | (simp [*]; omega))) (by decide) ?_
    refine JR.v rfl rfl rfl (Yv.load1 one_24 rfl (by first | exact Kn.own (by repeat (first | exact List.Mem.head _ | refine List.Mem.tail _ ?_)) (by first | exact wd_get _ (by omega) | rfl | exact tab_get (by first | omega | (simp; omega)) | exact gm (d := 0) (by first | omega | (simp; omega))) | exact Kn.ro (by repeat (first | exact List.Mem.head _ | refine List.Mem.tail _ ?_)) (by first | exact wd_get _ (by omega) | rfl | exact tab_get (by first | omega | (simp; omega)) | exact gm (d := 0) (by first | omega | (simp; omega))) | exact Kn.row (by repeat (first | exact List.Mem.head _ | refine List.Mem.tail _ ?_)) (by first | exact wd_get _ (by omega) | rfl | exact tab_get (by first | omega | (simp; omega)) | exact gm (d := 0) (by first | omega | (simp; omega))) | exact Kn.rd (by repeat (first | exact Lend.same _ _ | exact Lend.row _ _ _ _ _ _ (by decide) | apply Lend.there)) (by first | exact wd_get _ (by omega) | rfl | exact tab_get (by first | omega | (simp; omega)) | exact gm (d := 0) (by first | omega | (simp; omega))) | exact Kn.rd2 (by repeat (first | exact Lend.same _ _ | exact Lend.row _ _ _ _ _ _ (by decide) | apply Lend.there)) (by first | exact wd_get _ (by omega) | rfl | exact tab_get (by first | omega | (simp; omega)) | exact gm (d := 0) (by first | omega | (simp; omega))))) (by decide) ?_
    refine JR.u rfl rfl rfl (Yv.move rfl) (by decide) ?_
    refine JR.u rfl rfl rfl (Yv.as (v' := .tuple #[u64 (wat (a + b) x), u64 (cry a b (x + 1))]) (Yv.ext rfl (ext_41 _ _ _ (cry_le _ _ _))) (by rw [add_word a b (by omega), add_cry a b (by omega)])) (by decide) ?_
    refine JR.u rfl rfl rfl (Yv.move rfl) (by decide) ?_
    refine JR.u rfl rfl rfl (Yv.as (v' := u64 (wat (a + b) x)) (Yv.extract rfl rfl) rfl) (by decide) ?_
    refine JR.u rfl rfl rfl (Yv.as (v' := u64 (cry a b (x + 1))) (Yv.extract rfl rfl) rfl) (by decide) ?_
    first | refine JR.u rfl rfl rfl (Yv.indexArr1 Try.underlying32 sz_24 rfl rfl (by first | exact ltb rfl | (simp; done) | (simp; omega) | omega | (simp [*]; omega))) (by decide) ?_ | refine JR.u rfl rfl rfl (Yv.indexArr1o Try.underlying32 sz_24 rfl rfl (by first | exact ltb rfl | (simp; done) | (simp; omega) | omega | (simp [*]; omega))) (by decide) ?_
    first | refine JR.m0 rfl rfl (Mv.store1 sz_24 rfl rfl rfl (by repeat (first | exact Upd.here _ _ _ | apply Upd.there)) (by first | exact ltb rfl | (simp; done) | (simp; omega) | omega | (simp [*]; omega))) ?_ | refine JR.m0 rfl rfl (Mv.storeRow1 sz_24 rfl rfl rfl (by repeat (first | exact Upd.here _ _ _ | apply Upd.there)) (by first | exact ltb rfl | (simp; done) | (simp; omega) | omega | (simp [*]; omega)) (by first | rfl | (simp; done) | omega | (simp; omega))) ?_
    rintro _ _ _ ⟨rfl, rfl⟩
    refine ⟨⟨Subs.sub (by repeat (first | exact Subs.nil _ | apply Subs.cons | exact List.Mem.head _ | refine List.Mem.tail _ ?_)), .inl rfl⟩, ?_⟩
    refine JR.u rfl rfl rfl (Yv.assign rfl) (by decide) ?_
    refine JR.nil ?_
    refine JQ.block_normal ?_
    refine JQ.then_normal ?_
    refine JC.region ?_
    refine JO.v (Yv.bin rfl rfl (BinR.add_i (by first | (constructor <;> omega) | (constructor <;> simp <;> omega)))) (by decide) ?_
    refine JO.v (Yv.move rfl) (by decide) ?_
    refine JO.nil ?_
    rw [tw_set]
    refine JQ.head (x + 1) (by repeat (first | exact trivial | refine ⟨by first | rfl | (simp; done), ?_⟩)) (Subs.sub (by repeat (first | exact Subs.nil _ | apply Subs.cons | exact List.Mem.head _ | refine List.Mem.tail _ ?_))) (Picks.perm (by repeat (first | exact Picks.nil _ | apply Picks.cons | exact Pull.here _ _ | apply Pull.there))) ?_
    exact ⟨by omega, by omega⟩
  · try simp only [decide_eq_true_eq, decide_eq_false_iff_not, Bool.not_eq_true', Bool.not_eq_false', ne_eq, Decidable.not_not, Bool.not_eq_true, Bool.and_eq_true, Bool.or_eq_true, BitVec.reduceToNat] at hc1
    obtain rfl : x = 4 := by omega
    rw [tw_4]
    refine JC.exit ?_
    refine JQ.then_exit ?_
    refine JQ.then_exit ?_
    refine JQ.block_exit ?_
    refine JQ.then_normal ?_
    refine JC.seq ?_
    refine JC.region ?_
    first | refine JO.v (Yv.loadOwn agg_32 (by repeat (first | exact List.Mem.head _ | refine List.Mem.tail _ ?_)) rfl (by first | rfl | (simp; done) | (simp; omega) | (simp [*]; done))) (by decide) ?_ | refine JO.v (Yv.loadOwnAt agg_32 (by repeat (first | exact List.Mem.head _ | refine List.Mem.tail _ ?_)) rfl (by first | rfl | (simp; done) | (simp; omega) | (simp [*]; done))) (by decide) ?_ | refine JO.v (Yv.loadRow agg_32 (by repeat (first | exact List.Mem.head _ | refine List.Mem.tail _ ?_)) rfl (by first | rfl | (simp; done) | (simp; omega) | (simp [*]; done))) (by decide) ?_ | refine JO.v (Yv.loadRd agg_32 (by repeat (first | exact Lend.same _ _ | exact Lend.row _ _ _ _ _ _ (by decide) | apply Lend.there)) rfl (by first | rfl | (simp; done) | (simp; omega) | (simp [*]; done))) (by decide) ?_ | refine JO.v (Yv.loadRo agg_32 (by repeat (first | exact List.Mem.head _ | refine List.Mem.tail _ ?_)) rfl (by first | rfl | (simp; done) | (simp; omega) | (simp [*]; done))) (by decide) ?_
    refine JO.v (Yv.as (v' := u64 (BitVec.ofNat 64 ((a + b) / 115792089237316195423570985008687907853269984665640564039457584007913129639936))) (Yv.move rfl) (congrArg u64 (cry_4 ha hb))) (by decide) ?_
    first | refine JO.storeAll sz_32 rfl rfl rfl (by first | rfl | (simp; done) | (simp; omega)) (by first | (simp; done) | exact one_map (fun _ => rfl) | exact one_tab (fun _ => rfl) | exact one_tab (fun _ => by split <;> rfl)) (by repeat (first | exact Upd.here _ _ _ | apply Upd.there)) (by first | rfl | (simp; done) | (simp; omega)) ?_ | refine JO.store sz_32 rfl rfl rfl (by first | rfl | (simp; done) | (simp; omega)) (by first | (simp; done) | exact one_sing rfl | exact one_map (fun _ => rfl) | exact one_piece (one_map (fun _ => rfl)) | exact one_tab (fun _ => rfl) | exact one_tab (fun _ => by split <;> rfl)) (by repeat (first | exact Upd.here _ _ _ | apply Upd.there)) (by first | exact ltb rfl | (simp; done) | (simp; omega) | omega | (simp [*]; omega)) ?_ | refine JO.storeRow sz_32 rfl rfl rfl (by first | rfl | simp) (by first | (simp; done) | exact one_map (fun _ => rfl) | exact one_tab (fun _ => rfl) | exact one_tab (fun _ => by split <;> rfl)) (by repeat (first | exact Upd.here _ _ _ | apply Upd.there)) (by first | exact ltb rfl | (simp; done) | (simp; omega) | omega | (simp [*]; omega)) (by first | exact ltb rfl | (simp; done) | (simp; omega) | omega | (simp [*]; omega)) ?_
    refine JO.v (Yv.assign rfl) (by decide) ?_
    refine JO.nil ?_
    refine JQ.then_normal ?_
    refine JC.ret ?_
    exact JQ.done (.inr rfl) (Γ' := []) (H' := []) (res2 rfl (RV.cell agg_32 (by repeat (first | exact List.Mem.head _ | refine List.Mem.tail _ ?_)) rfl (by first | rfl | (simp; done) | (simp; omega))) (RV.tmp rfl)) (Subs.sub (by repeat (first | exact Subs.nil _ | apply Subs.cons | exact List.Mem.head _ | refine List.Mem.tail _ ?_))) (Picks.perm (by repeat (first | exact Picks.nil _ | apply Picks.cons | exact Pull.here _ _ | apply Pull.there))) ⟨rfl, rfl, rfl⟩


theorem f45_spec (a b : Nat) (ha : a < 115792089237316195423570985008687907853269984665640564039457584007913129639936) (hb : b < 115792089237316195423570985008687907853269984665640564039457584007913129639936) :
    Spec Try.prog 45 #[(.agg ((wd a).map u64).toArray), (.agg ((wd b).map u64).toArray)] [] []
      (fun r Γ' H' => r = (.tuple #[.agg ((wd (115792089237316195423570985008687907853269984665640564039457584007913129639936 + a - b)).map u64).toArray, u64 (if a < b then 1 else 0)]) ∧ Γ' = [] ∧ H' = []) := by
  refine Spec.of_args Try.func45 rfl Try.ntmps45 (by simp) fun w => ?_
  refine JC.seq ?_
  refine JC.region ?_
  refine JO.box rfl _ rfl (by decide) fun b2 => ?_
  refine JO.box rfl _ rfl (by decide) fun b3 => ?_
  refine JO.alloc _ zero_32 rfl (by decide) fun b4 => ?_
  refine JO.v (Yv.as (v' := u64 (brw a b 0)) (Yv.assign rfl) (by rw [brw_0]; rfl)) (by decide) ?_
  refine JO.nil ?_
  refine JQ.then_normal ?_
  refine JC.seq ?_
  refine JC.seq ?_
  refine JC.region ?_
  refine JO.v (Yv.move rfl) (by decide) ?_
  refine JO.nil ?_
  refine JQ.then_normal ?_
  refine JC.block ?_
  refine JC.loop (ι := Nat) (fun x => x ≤ 4) (fun x => [(2, ptr b2 0), (3, ptr b3 0), (4, ptr b4 0), (5, u64 (brw a b x)), (7, it (x : Int))]) (fun x => []) (fun x => [Res.cells b2 ((wd a).map u64) 32, Res.cells b3 ((wd b).map u64) 32, Res.cells b4 (tw (wat (115792089237316195423570985008687907853269984665640564039457584007913129639936 + a - b)) x) 32]) (fun x => 4 - x) 0 (by repeat (first | exact trivial | refine ⟨by first | rfl | (simp; done), ?_⟩)) (Subs.sub (by repeat (first | exact Subs.nil _ | apply Subs.cons | exact List.Mem.head _ | refine List.Mem.tail _ ?_))) (Picks.perm (by repeat (first | exact Picks.nil _ | apply Picks.cons | exact Pull.here _ _ | apply Pull.there))) ?_ (fun x hx => ?_)
  · exact Nat.zero_le _
  refine JC.seq ?_
  refine JC.region ?_
  refine JO.v (Yv.bin rfl rfl BinR.lss_i) (by decide) ?_
  refine JO.nil ?_
  refine JQ.then_normal ?_
  refine JC.seq ?_
  refine JC.cond rfl (fun hc1 => ?_) (fun hc1 => ?_)
  · try simp only [decide_eq_true_eq, decide_eq_false_iff_not, Bool.not_eq_true', Bool.not_eq_false', ne_eq, Decidable.not_not, Bool.not_eq_true, Bool.and_eq_true, Bool.or_eq_true, BitVec.reduceToNat] at hc1
    refine JC.skip ?_
    refine JQ.then_normal ?_
    refine JC.seq ?_
    refine JC.block ?_
    refine JC.seq ?_
    refine JC.region ?_
    refine JO.v (Yv.move rfl) (by decide) ?_
    refine JO.v (Yv.assign rfl) (by decide) ?_
    refine JO.nil ?_
    refine JQ.then_normal ?_
    refine JC.draw (.one 0 (.one 1 (.one 2 (.one 3 (.one 4 (.one 5 (.one 6 (.one 7 (.one 8 (.one 9 (.one 10 (.one 11 (.one 12 (.one 13 (.one 14 .nil))))))))))))))) (fun i => ([13] : List Nat).contains i) (fun i => ([13] : List Nat).contains i) (fun i => ([0, 1, 2, 4, 5, 7, 8, 9, 10, 11, 12, 14] : List Nat).contains i) mixed (by kernel_rfl) (by decide) (by kernel_rfl) ?_
    refine JR.u rfl rfl rfl (Yv.move rfl) (by decide) ?_
    refine JR.u rfl rfl rfl (Yv.move rfl) (by decide) ?_
    first | refine JR.u rfl rfl rfl (Yv.indexArr1 Try.underlying32 sz_24 rfl rfl (by first | exact ltb rfl | (simp; done) | (simp; omega) | omega | (simp [*]; omega))) (by decide) ?_ | refine JR.u rfl rfl rfl (Yv.indexArr1o Try.underlying32 sz_24 rfl rfl (by first | exact ltb rfl | (simp; done) | (simp; omega) | omega | (simp [*]; omega))) (by decide) ?_
    refine JR.v rfl rfl rfl (Yv.load1 one_24 rfl (by first | exact Kn.own (by repeat (first | exact List.Mem.head _ | refine List.Mem.tail _ ?_)) (by first | exact wd_get _ (by omega) | rfl | exact tab_get (by first | omega | (simp; omega)) | exact gm (d := 0) (by first | omega | (simp; omega))) | exact Kn.ro (by repeat (first | exact List.Mem.head _ | refine List.Mem.tail _ ?_)) (by first | exact wd_get _ (by omega) | rfl | exact tab_get (by first | omega | (simp; omega)) | exact gm (d := 0) (by first | omega | (simp; omega))) | exact Kn.row (by repeat (first | exact List.Mem.head _ | refine List.Mem.tail _ ?_)) (by first | exact wd_get _ (by omega) | rfl | exact tab_get (by first | omega | (simp; omega)) | exact gm (d := 0) (by first | omega | (simp; omega))) | exact Kn.rd (by repeat (first | exact Lend.same _ _ | exact Lend.row _ _ _ _ _ _ (by decide) | apply Lend.there)) (by first | exact wd_get _ (by omega) | rfl | exact tab_get (by first | omega | (simp; omega)) | exact gm (d := 0) (by first | omega | (simp; omega))) | exact Kn.rd2 (by repeat (first | exact Lend.same _ _ | exact Lend.row _ _ _ _ _ _ (by decide) | apply Lend.there)) (by first | exact wd_get _ (by omega) | rfl | exact tab_get (by first | omega | (simp; omega)) | exact gm (d := 0) (by first | omega | (simp; omega))))) (by decide) ?_
    refine JR.u rfl rfl rfl (Yv.move rfl) (by decide) ?_
    first | refine JR.u rfl rfl rfl (Yv.indexArr1 Try.underlying32 sz_24 rfl rfl (by first | exact ltb rfl | (simp; done) | (simp; omega) | omega | (simp [*]; omega))) (by decide) ?_ | refine JR.u rfl rfl rfl (Yv.indexArr1o Try.underlying32 sz_24 rfl rfl (by first | exact ltb rfl | (simp; done) | (simp; omega) | omega | (simp [*]; omega))) (by decide) ?_
    refine JR.v rfl rfl rfl (Yv.load1 one_24 rfl (by first | exact Kn.own (by repeat (first | exact List.Mem.head _ | refine List.Mem.tail _ ?_)) (by first | exact wd_get _ (by omega) | rfl | exact tab_get (by first | omega | (simp; omega)) | exact gm (d := 0) (by first | omega | (simp; omega))) | exact Kn.ro (by repeat (first | exact List.Mem.head _ | refine List.Mem.tail _ ?_)) (by first | exact wd_get _ (by omega) | rfl | exact tab_get (by first | omega | (simp; omega)) | exact gm (d := 0) (by first | omega | (simp; omega))) | exact Kn.row (by repeat (first | exact List.Mem.head _ | refine List.Mem.tail _ ?_)) (by first | exact wd_get _ (by omega) | rfl | exact tab_get (by first | omega | (simp; omega)) | exact gm (d := 0) (by first | omega | (simp; omega))) | exact Kn.rd (by repeat (first | exact Lend.same _ _ | exact Lend.row _ _ _ _ _ _ (by decide) | apply Lend.there)) (by first | exact wd_get _ (by omega) | rfl | exact tab_get (by first | omega | (simp; omega)) | exact gm (d := 0) (by first | omega | (simp; omega))) | exact Kn.rd2 (by repeat (first | exact Lend.same _ _ | exact Lend.row _ _ _ _ _ _ (by decide) | apply Lend.there)) (by first | exact wd_get _ (by omega) | rfl | exact tab_get (by first | omega | (simp; omega)) | exact gm (d := 0) (by first | omega | (simp; omega))))) (by decide) ?_
    refine JR.u rfl rfl rfl (Yv.move rfl) (by decide) ?_
    refine JR.u rfl rfl rfl (Yv.as (v' := .tuple #[u64 (wat (115792089237316195423570985008687907853269984665640564039457584007913129639936 + a - b) x), u64 (brw a b (x + 1))]) (Yv.ext rfl (ext_49 _ _ _ (brw_le _ _ _))) (by rw [sub_word hb (by omega), sub_brw a b (by omega)])) (by decide) ?_
    refine JR.u rfl rfl rfl (Yv.move rfl) (by decide) ?_
    refine JR.u rfl rfl rfl (Yv.as (v' := u64 (wat (115792089237316195423570985008687907853269984665640564039457584007913129639936 + a - b) x)) (Yv.extract rfl rfl) rfl) (by decide) ?_
    refine JR.u rfl rfl rfl (Yv.as (v' := u64 (brw a b (x + 1))) (Yv.extract rfl rfl) rfl) (by decide) ?_
    first | refine JR.u rfl rfl rfl (Yv.indexArr1 Try.underlying32 sz_24 rfl rfl (by first | exact ltb rfl | (simp; done) | (simp; omega) | omega | (simp [*]; omega))) (by decide) ?_ | refine JR.u rfl rfl rfl (Yv.indexArr1o Try.underlying32 sz_24 rfl rfl (by first | exact ltb rfl | (simp; done) | (simp; omega) | omega | (simp [*]; omega))) (by decide) ?_
    first | refine JR.m0 rfl rfl (Mv.store1 sz_24 rfl rfl rfl (by repeat (first | exact Upd.here _ _ _ | apply Upd.there)) (by first | exact ltb rfl | (simp; done) | (simp; omega) | omega | (simp [*]; omega))) ?_ | refine JR.m0 rfl rfl (Mv.storeRow1 sz_24 rfl rfl rfl (by repeat (first | exact Upd.here _ _ _ | apply Upd.there)) (by first | exact ltb rfl | (simp; done) | (simp; omega) | omega | (simp [*]; omega)) (by first | rfl | (simp; done) | omega | (simp; omega))) ?_
    rintro _ _ _ ⟨rfl, rfl⟩
    refine ⟨⟨Subs.sub (by repeat (first | exact Subs.nil _ | apply Subs.cons | exact List.Mem.head _ | refine List.Mem.tail _ ?_)), .inl rfl⟩, ?_⟩
    refine JR.u rfl rfl rfl (Yv.assign rfl) (by decide) ?_
    refine JR.nil ?_
    refine JQ.block_normal ?_
    refine JQ.then_normal ?_
    refine JC.region ?_
    refine JO.v (Yv.bin rfl rfl (BinR.add_i (by first | (constructor <;> omega) | (constructor <;> simp <;> omega)))) (by decide) ?_
    refine JO.v (Yv.move rfl) (by decide) ?_
    refine JO.nil ?_
    rw [tw_set]
    refine JQ.head (x + 1) (by repeat (first | exact trivial | refine ⟨by first | rfl | (simp; done), ?_⟩)) (Subs.sub (by repeat (first | exact Subs.nil _ | apply Subs.cons | exact List.Mem.head _ | refine List.Mem.tail _ ?_))) (Picks.perm (by repeat (first | exact Picks.nil _ | apply Picks.cons | exact Pull.here _ _ | apply Pull.there))) ?_
    exact ⟨by omega, by omega⟩
  · try simp only [decide_eq_true_eq, decide_eq_false_iff_not, Bool.not_eq_true', Bool.not_eq_false', ne_eq, Decidable.not_not, Bool.not_eq_true, Bool.and_eq_true, Bool.or_eq_true, BitVec.reduceToNat] at hc1
    obtain rfl : x = 4 := by omega
    rw [tw_4]
    refine JC.exit ?_
    refine JQ.then_exit ?_
    refine JQ.then_exit ?_
    refine JQ.block_exit ?_
    refine JQ.then_normal ?_
    refine JC.seq ?_
    refine JC.region ?_
    first | refine JO.v (Yv.loadOwn agg_32 (by repeat (first | exact List.Mem.head _ | refine List.Mem.tail _ ?_)) rfl (by first | rfl | (simp; done) | (simp; omega) | (simp [*]; done))) (by decide) ?_ | refine JO.v (Yv.loadOwnAt agg_32 (by repeat (first | exact List.Mem.head _ | refine List.Mem.tail _ ?_)) rfl (by first | rfl | (simp; done) | (simp; omega) | (simp [*]; done))) (by decide) ?_ | refine JO.v (Yv.loadRow agg_32 (by repeat (first | exact List.Mem.head _ | refine List.Mem.tail _ ?_)) rfl (by first | rfl | (simp; done) | (simp; omega) | (simp [*]; done))) (by decide) ?_ | refine JO.v (Yv.loadRd agg_32 (by repeat (first | exact Lend.same _ _ | exact Lend.row _ _ _ _ _ _ (by decide) | apply Lend.there)) rfl (by first | rfl | (simp; done) | (simp; omega) | (simp [*]; done))) (by decide) ?_ | refine JO.v (Yv.loadRo agg_32 (by repeat (first | exact List.Mem.head _ | refine List.Mem.tail _ ?_)) rfl (by first | rfl | (simp; done) | (simp; omega) | (simp [*]; done))) (by decide) ?_
    refine JO.v (Yv.as (v' := u64 (if a < b then 1 else 0)) (Yv.move rfl) (congrArg u64 (brw_4 ha hb))) (by decide) ?_
    first | refine JO.storeAll sz_32 rfl rfl rfl (by first | rfl | (simp; done) | (simp; omega)) (by first | (simp; done) | exact one_map (fun _ => rfl) | exact one_tab (fun _ => rfl) | exact one_tab (fun _ => by split <;> rfl)) (by repeat (first | exact Upd.here _ _ _ | apply Upd.there)) (by first | rfl | (simp; done) | (simp; omega)) ?_ | refine JO.store sz_32 rfl rfl rfl (by first | rfl | (simp; done) | (simp; omega)) (by first | (simp; done) | exact one_sing rfl | exact one_map (fun _ => rfl) | exact one_piece (one_map (fun _ => rfl)) | exact one_tab (fun _ => rfl) | exact one_tab (fun _ => by split <;> rfl)) (by repeat (first | exact Upd.here _ _ _ | apply Upd.there)) (by first | exact ltb rfl | (simp; done) | (simp; omega) | omega | (simp [*]; omega)) ?_ | refine JO.storeRow sz_32 rfl rfl rfl (by first | rfl | simp) (by first | (simp; done) | exact one_map (fun _ => rfl) | exact one_tab (fun _ => rfl) | exact one_tab (fun _ => by split <;> rfl)) (by repeat (first | exact Upd.here _ _ _ | apply Upd.there)) (by first | exact ltb rfl | (simp; done) | (simp; omega) | omega | (simp [*]; omega)) (by first | exact ltb rfl | (simp; done) | (simp; omega) | omega | (simp [*]; omega)) ?_
    refine JO.v (Yv.assign rfl) (by decide) ?_
    refine JO.nil ?_
    refine JQ.then_normal ?_
    refine JC.ret ?_
    exact JQ.done (.inr rfl) (Γ' := []) (H' := []) (res2 rfl (RV.cell agg_32 (by repeat (first | exact List.Mem.head _ | refine List.Mem.tail _ ?_)) rfl (by first | rfl | (simp; done) | (simp; omega))) (RV.tmp rfl)) (Subs.sub (by repeat (first | exact Subs.nil _ | apply Subs.cons | exact List.Mem.head _ | refine List.Mem.tail _ ?_))) (Picks.perm (by repeat (first | exact Picks.nil _ | apply Picks.cons | exact Pull.here _ _ | apply Pull.there))) ⟨rfl, rfl, rfl⟩


theorem f44_spec (a b : Nat) (ha : a < 115792089237316195423570985008687907853269984665640564039457584007913129639936) (hb : b < 115792089237316195423570985008687907853269984665640564039457584007913129639936) :
    Spec Try.prog 44 #[(.agg ((wd a).map u64).toArray), (.agg ((wd b).map u64).toArray)] [] []
      (fun r Γ' H' => r = (it (cmpN a b)) ∧ Γ' = [] ∧ H' = []) := by
  refine Spec.of_args Try.func44 rfl Try.ntmps44 (by simp) fun w => ?_
  refine JC.seq ?_
  refine JC.region ?_
  refine JO.box rfl _ rfl (by decide) fun b2 => ?_
  refine JO.box rfl _ rfl (by decide) fun b3 => ?_
  refine JO.v (Yv.assign rfl) (by decide) ?_
  refine JO.nil ?_
  refine JQ.then_normal ?_
  refine JC.scope ?_
  refine JC.seq ?_
  refine JC.region ?_
  refine JO.v (Yv.assign rfl) (by decide) ?_
  refine JO.nil ?_
  refine JQ.then_normal ?_
  refine JC.seq ?_
  refine JC.label ?_
  refine JQ.then_normal ?_
  refine JC.seq ?_
  refine JC.seq ?_
  refine JC.region ?_
  refine JO.v (Yv.move rfl) (by decide) ?_
  refine JO.nil ?_
  refine JQ.then_normal ?_
  refine JC.block ?_
  refine JC.loop (ι := Nat) (fun x => x ≤ 4 ∧ a / pw (4 - x) = b / pw (4 - x)) (fun x => [(2, ptr b2 0), (3, ptr b3 0), (5, it 0), (8, it (x : Int))]) (fun x => []) (fun x => [Res.cells b2 ((wd a).map u64) 32, Res.cells b3 ((wd b).map u64) 32]) (fun x => 4 - x) 0 (by repeat (first | exact trivial | refine ⟨by first | rfl | (simp; done), ?_⟩)) (Subs.sub (by repeat (first | exact Subs.nil _ | apply Subs.cons | exact List.Mem.head _ | refine List.Mem.tail _ ?_))) (Picks.perm (by repeat (first | exact Picks.nil _ | apply Picks.cons | exact Pull.here _ _ | apply Pull.there))) ?_ (fun x hx => ?_)
  · exact ⟨Nat.zero_le _, by show a / pw 4 = b / pw 4; rw [pw_4, Nat.div_eq_of_lt ha, Nat.div_eq_of_lt hb]⟩
  refine JC.seq ?_
  refine JC.region ?_
  refine JO.v (Yv.bin rfl rfl BinR.lss_i) (by decide) ?_
  refine JO.nil ?_
  refine JQ.then_normal ?_
  refine JC.seq ?_
  refine JC.cond rfl (fun hc1 => ?_) (fun hc1 => ?_)
  · try simp only [decide_eq_true_eq, decide_eq_false_iff_not, Bool.not_eq_true', Bool.not_eq_false', ne_eq, Decidable.not_not, Bool.not_eq_true, Bool.and_eq_true, Bool.or_eq_true, BitVec.reduceToNat] at hc1
    refine JC.skip ?_
    refine JQ.then_normal ?_
    refine JC.seq ?_
    refine JC.block ?_
    refine JC.seq ?_
    refine JC.region ?_
    refine JO.v (Yv.move rfl) (by decide) ?_
    refine JO.v (Yv.assign rfl) (by decide) ?_
    refine JO.nil ?_
    refine JQ.then_normal ?_
    refine JC.seq ?_
    refine JC.region ?_
    refine JO.v (Yv.move rfl) (by decide) ?_
    refine JO.v (Yv.as (v' := it ((3 - x : Nat) : Int)) (Yv.bin rfl rfl (BinR.sub_i (by first | (constructor <;> omega) | (constructor <;> simp <;> omega)))) (congrArg it (by omega))) (by decide) ?_
    refine JO.v (Yv.assign rfl) (by decide) ?_
    refine JO.nil ?_
    refine JQ.then_normal ?_
    refine JC.block ?_
    refine JC.seq ?_
    refine JC.draw (.one 0 (.one 1 (.one 2 (.one 3 (.one 4 (.one 5 (.one 6 (.one 7 .nil)))))))) (fun i => ([] : List Nat).contains i) (fun i => ([] : List Nat).contains i) (fun i => ([0, 1, 3, 4, 6, 7] : List Nat).contains i) mixed (by kernel_rfl) (by decide) (by kernel_rfl) ?_
    refine JR.u rfl rfl rfl (Yv.move rfl) (by decide) ?_
    first | refine JR.u rfl rfl rfl (Yv.indexArr1 Try.underlying32 sz_24 rfl rfl (by first | exact ltb rfl | (simp; done) | (simp; omega) | omega | (simp [*]; omega))) (by decide) ?_ | refine JR.u rfl rfl rfl (Yv.indexArr1o Try.underlying32 sz_24 rfl rfl (by first | exact ltb rfl | (simp; done) | (simp; omega) | omega | (simp [*]; omega))) (by decide) ?_
    refine JR.v rfl rfl rfl (Yv.load1 one_24 rfl (by first | exact Kn.own (by repeat (first | exact List.Mem.head _ | refine List.Mem.tail _ ?_)) (by first | exact wd_get _ (by omega) | rfl | exact tab_get (by first | omega | (simp; omega)) | exact gm (d := 0) (by first | omega | (simp; omega))) | exact Kn.ro (by repeat (first | exact List.Mem.head _ | refine List.Mem.tail _ ?_)) (by first | exact wd_get _ (by omega) | rfl | exact tab_get (by first | omega | (simp; omega)) | exact gm (d := 0) (by first | omega | (simp; omega))) | exact Kn.row (by repeat (first | exact List.Mem.head _ | refine List.Mem.tail _ ?_)) (by first | exact wd_get _ (by omega) | rfl | exact tab_get (by first | omega | (simp; omega)) | exact gm (d := 0) (by first | omega | (simp; omega))) | exact Kn.rd (by repeat (first | exact Lend.same _ _ | exact Lend.row _ _ _ _ _ _ (by decide) | apply Lend.there)) (by first | exact wd_get _ (by omega) | rfl | exact tab_get (by first | omega | (simp; omega)) | exact gm (d := 0) (by first | omega | (simp; omega))) | exact Kn.rd2 (by repeat (first | exact Lend.same _ _ | exact Lend.row _ _ _ _ _ _ (by decide) | apply Lend.there)) (by first | exact wd_get _ (by omega) | rfl | exact tab_get (by first | omega | (simp; omega)) | exact gm (d := 0) (by first | omega | (simp; omega))))) (by decide) ?_
    refine JR.u rfl rfl rfl (Yv.move rfl) (by decide) ?_
    first | refine JR.u rfl rfl rfl (Yv.indexArr1 Try.underlying32 sz_24 rfl rfl (by first | exact ltb rfl | (simp; done) | (simp; omega) | omega | (simp [*]; omega))) (by decide) ?_ | refine JR.u rfl rfl rfl (Yv.indexArr1o Try.underlying32 sz_24 rfl rfl (by first | exact ltb rfl | (simp; done) | (simp; omega) | omega | (simp [*]; omega))) (by decide) ?_
    refine JR.v rfl rfl rfl (Yv.load1 one_24 rfl (by first | exact Kn.own (by repeat (first | exact List.Mem.head _ | refine List.Mem.tail _ ?_)) (by first | exact wd_get _ (by omega) | rfl | exact tab_get (by first | omega | (simp; omega)) | exact gm (d := 0) (by first | omega | (simp; omega))) | exact Kn.ro (by repeat (first | exact List.Mem.head _ | refine List.Mem.tail _ ?_)) (by first | exact wd_get _ (by omega) | rfl | exact tab_get (by first | omega | (simp; omega)) | exact gm (d := 0) (by first | omega | (simp; omega))) | exact Kn.row (by repeat (first | exact List.Mem.head _ | refine List.Mem.tail _ ?_)) (by first | exact wd_get _ (by omega) | rfl | exact tab_get (by first | omega | (simp; omega)) | exact gm (d := 0) (by first | omega | (simp; omega))) | exact Kn.rd (by repeat (first | exact Lend.same _ _ | exact Lend.row _ _ _ _ _ _ (by decide) | apply Lend.there)) (by first | exact wd_get _ (by omega) | rfl | exact tab_get (by first | omega | (simp; omega)) | exact gm (d := 0) (by first | omega | (simp; omega))) | exact Kn.rd2 (by repeat (first | exact Lend.same _ _ | exact Lend.row _ _ _ _ _ _ (by decide) | apply Lend.there)) (by first | exact wd_get _ (by omega) | rfl | exact tab_get (by first | omega | (simp; omega)) | exact gm (d := 0) (by first | omega | (simp; omega))))) (by decide) ?_
    refine JR.u rfl rfl rfl (Yv.bin rfl rfl (BinR.lss_u64)) (by decide) ?_
    refine JR.u rfl rfl rfl (Yv.assign rfl) (by decide) ?_
    refine JR.nil ?_
    refine JQ.then_normal ?_
    refine JC.cond rfl (fun hc2 => ?_) (fun hc2 => ?_)
    · try simp only [decide_eq_true_eq, decide_eq_false_iff_not, Bool.not_eq_true', Bool.not_eq_false', ne_eq, Decidable.not_not, Bool.not_eq_true, Bool.and_eq_true, Bool.or_eq_true, BitVec.reduceToNat] at hc2
      have hres : cmpN a b = -1 := by simp [cmpN, cmp_step (by omega) hx.2 hc2]
      refine JC.seq ?_
      refine JC.region ?_
      refine JO.v (Yv.assign rfl) (by decide) ?_
      refine JO.nil ?_
      refine JQ.then_normal ?_
      refine JC.exit ?_
      refine JQ.block_other (by decide) ?_
      refine JQ.block_other (by decide) ?_
      refine JQ.then_exit ?_
      refine JQ.then_exit ?_
      refine JQ.block_exit ?_
      refine JQ.then_normal ?_
      refine JC.seq ?_
      refine JC.region ?_
      refine JO.v (Yv.as (v' := it (cmpN a b)) (Yv.move rfl) (congrArg it hres.symm)) (by decide) ?_
      refine JO.v (Yv.assign rfl) (by decide) ?_
      refine JO.nil ?_
      refine JQ.then_normal ?_
      refine JC.ret ?_
      refine JQ.scope_ret ?_
      exact JQ.done (.inr rfl) (Γ' := []) (H' := []) (res1 rfl (RV.tmp rfl)) (Subs.sub (by repeat (first | exact Subs.nil _ | apply Subs.cons | exact List.Mem.head _ | refine List.Mem.tail _ ?_))) (Picks.perm (by repeat (first | exact Picks.nil _ | apply Picks.cons | exact Pull.here _ _ | apply Pull.there))) ⟨rfl, rfl, rfl⟩
    · try simp only [decide_eq_true_eq, decide_eq_false_iff_not, Bool.not_eq_true', Bool.not_eq_false', ne_eq, Decidable.not_not, Bool.not_eq_true, Bool.and_eq_true, Bool.or_eq_true, BitVec.reduceToNat] at hc2
      refine JC.seq ?_
      refine JC.draw (.one 0 (.one 1 (.one 2 (.one 3 (.one 4 (.one 5 (.one 6 (.one 7 .nil)))))))) (fun i => ([] : List Nat).contains i) (fun i => ([] : List Nat).contains i) (fun i => ([0, 1, 3, 4, 6, 7] : List Nat).contains i) mixed (by kernel_rfl) (by decide) (by kernel_rfl) ?_
      refine JR.u rfl rfl rfl (Yv.move rfl) (by decide) ?_
      first | refine JR.u rfl rfl rfl (Yv.indexArr1 Try.underlying32 sz_24 rfl rfl (by first | exact ltb rfl | (simp; done) | (simp; omega) | omega | (simp [*]; omega))) (by decide) ?_ | refine JR.u rfl rfl rfl (Yv.indexArr1o Try.underlying32 sz_24 rfl rfl (by first | exact ltb rfl | (simp; done) | (simp; omega) | omega | (simp [*]; omega))) (by decide) ?_
      refine JR.v rfl rfl rfl (Yv.load1 one_24 rfl (by first | exact Kn.own (by repeat (first | exact List.Mem.head _ | refine List.Mem.tail _ ?_)) (by first | exact wd_get _ (by omega) | rfl | exact tab_get (by first | omega | (simp; omega)) | exact gm (d := 0) (by first | omega | (simp; omega))) | exact Kn.ro (by repeat (first | exact List.Mem.head _ | refine List.Mem.tail _ ?_)) (by first | exact wd_get _ (by omega) | rfl | exact tab_get (by first | omega | (simp; omega)) | exact gm (d := 0) (by first | omega | (simp; omega))) | exact Kn.row (by repeat (first | exact List.Mem.head _ | refine List.Mem.tail _ ?_)) (by first | exact wd_get _ (by omega) | rfl | exact tab_get (by first | omega | (simp; omega)) | exact gm (d := 0) (by first | omega | (simp; omega))) | exact Kn.rd (by repeat (first | exact Lend.same _ _ | exact Lend.row _ _ _ _ _ _ (by decide) | apply Lend.there)) (by first | exact wd_get _ (by omega) | rfl | exact tab_get (by first | omega | (simp; omega)) | exact gm (d := 0) (by first | omega | (simp; omega))) | exact Kn.rd2 (by repeat (first | exact Lend.same _ _ | exact Lend.row _ _ _ _ _ _ (by decide) | apply Lend.there)) (by first | exact wd_get _ (by omega) | rfl | exact tab_get (by first | omega | (simp; omega)) | exact gm (d := 0) (by first | omega | (simp; omega))))) (by decide) ?_
      refine JR.u rfl rfl rfl (Yv.move rfl) (by decide) ?_
      first | refine JR.u rfl rfl rfl (Yv.indexArr1 Try.underlying32 sz_24 rfl rfl (by first | exact ltb rfl | (simp; done) | (simp; omega) | omega | (simp [*]; omega))) (by decide) ?_ | refine JR.u rfl rfl rfl (Yv.indexArr1o Try.underlying32 sz_24 rfl rfl (by first | exact ltb rfl | (simp; done) | (simp; omega) | omega | (simp [*]; omega))) (by decide) ?_
      refine JR.v rfl rfl rfl (Yv.load1 one_24 rfl (by first | exact Kn.own (by repeat (first | exact List.Mem.head _ | refine List.Mem.tail _ ?_)) (by first | exact wd_get _ (by omega) | rfl | exact tab_get (by first | omega | (simp; omega)) | exact gm (d := 0) (by first | omega | (simp; omega))) | exact Kn.ro (by repeat (first | exact List.Mem.head _ | refine List.Mem.tail _ ?_)) (by first | exact wd_get _ (by omega) | rfl | exact tab_get (by first | omega | (simp; omega)) | exact gm (d := 0) (by first | omega | (simp; omega))) | exact Kn.row (by repeat (first | exact List.Mem.head _ | refine List.Mem.tail _ ?_)) (by first | exact wd_get _ (by omega) | rfl | exact tab_get (by first | omega | (simp; omega)) | exact gm (d := 0) (by first | omega | (simp; omega))) | exact Kn.rd (by repeat (first | exact Lend.same _ _ | exact Lend.row _ _ _ _ _ _ (by decide) | apply Lend.there)) (by first | exact wd_get _ (by omega) | rfl | exact tab_get (by first | omega | (simp; omega)) | exact gm (d := 0) (by first | omega | (simp; omega))) | exact Kn.rd2 (by repeat (first | exact Lend.same _ _ | exact Lend.row _ _ _ _ _ _ (by decide) | apply Lend.there)) (by first | exact wd_get _ (by omega) | rfl | exact tab_get (by first | omega | (simp; omega)) | exact gm (d := 0) (by first | omega | (simp; omega))))) (by decide) ?_
      refine JR.u rfl rfl rfl (Yv.bin rfl rfl (BinR.gtr_u64)) (by decide) ?_
      refine JR.u rfl rfl rfl (Yv.assign rfl) (by decide) ?_
      refine JR.nil ?_
      refine JQ.then_normal ?_
      refine JC.cond rfl (fun hc3 => ?_) (fun hc3 => ?_)
      · try simp only [decide_eq_true_eq, decide_eq_false_iff_not, Bool.not_eq_true', Bool.not_eq_false', ne_eq, Decidable.not_not, Bool.not_eq_true, Bool.and_eq_true, Bool.or_eq_true, BitVec.reduceToNat] at hc3
        have hres : cmpN a b = 1 := by have h := cmp_step (by omega) hx.2.symm hc3; rw [cmpN, if_neg (by omega), if_pos h]
        refine JC.seq ?_
        refine JC.region ?_
        refine JO.v (Yv.assign rfl) (by decide) ?_
        refine JO.nil ?_
        refine JQ.then_normal ?_
        refine JC.exit ?_
        refine JQ.block_other (by decide) ?_
        refine JQ.block_other (by decide) ?_
        refine JQ.then_exit ?_
        refine JQ.then_exit ?_
        refine JQ.block_exit ?_
        refine JQ.then_normal ?_
        refine JC.seq ?_
        refine JC.region ?_
        refine JO.v (Yv.as (v' := it (cmpN a b)) (Yv.move rfl) (congrArg it hres.symm)) (by decide) ?_
        refine JO.v (Yv.assign rfl) (by decide) ?_
        refine JO.nil ?_
        refine JQ.then_normal ?_
        refine JC.ret ?_
        refine JQ.scope_ret ?_
        exact JQ.done (.inr rfl) (Γ' := []) (H' := []) (res1 rfl (RV.tmp rfl)) (Subs.sub (by repeat (first | exact Subs.nil _ | apply Subs.cons | exact List.Mem.head _ | refine List.Mem.tail _ ?_))) (Picks.perm (by repeat (first | exact Picks.nil _ | apply Picks.cons | exact Pull.here _ _ | apply Pull.there))) ⟨rfl, rfl, rfl⟩
      · try simp only [decide_eq_true_eq, decide_eq_false_iff_not, Bool.not_eq_true', Bool.not_eq_false', ne_eq, Decidable.not_not, Bool.not_eq_true, Bool.and_eq_true, Bool.or_eq_true, BitVec.reduceToNat] at hc3
        refine JC.skip ?_
        refine JQ.block_normal ?_
        refine JQ.block_normal ?_
        refine JQ.then_normal ?_
        refine JC.region ?_
        refine JO.v (Yv.bin rfl rfl (BinR.add_i (by first | (constructor <;> omega) | (constructor <;> simp <;> omega)))) (by decide) ?_
        refine JO.v (Yv.move rfl) (by decide) ?_
        refine JO.nil ?_
        refine JQ.head (x + 1) (by repeat (first | exact trivial | refine ⟨by first | rfl | (simp; done), ?_⟩)) (Subs.sub (by repeat (first | exact Subs.nil _ | apply Subs.cons | exact List.Mem.head _ | refine List.Mem.tail _ ?_))) (Picks.perm (by repeat (first | exact Picks.nil _ | apply Picks.cons | exact Pull.here _ _ | apply Pull.there))) ?_
        exact ⟨⟨by omega, cmp_next (by omega) hx.2 hc2 (by omega)⟩, by omega⟩
  · try simp only [decide_eq_true_eq, decide_eq_false_iff_not, Bool.not_eq_true', Bool.not_eq_false', ne_eq, Decidable.not_not, Bool.not_eq_true, Bool.and_eq_true, Bool.or_eq_true, BitVec.reduceToNat] at hc1
    obtain rfl : x = 4 := by omega
    have hres : cmpN a b = 0 := by have h := hx.2; simp only [Nat.sub_self, pw_0, Nat.div_one] at h; simp [cmpN, h]
    refine JC.exit ?_
    refine JQ.then_exit ?_
    refine JQ.then_exit ?_
    refine JQ.block_exit ?_
    refine JQ.then_normal ?_
    refine JC.seq ?_
    refine JC.region ?_
    refine JO.v (Yv.as (v' := it (cmpN a b)) (Yv.move rfl) (congrArg it hres.symm)) (by decide) ?_
    refine JO.v (Yv.assign rfl) (by decide) ?_
    refine JO.nil ?_
    refine JQ.then_normal ?_
    refine JC.ret ?_
    refine JQ.scope_ret ?_
    exact JQ.done (.inr rfl) (Γ' := []) (H' := []) (res1 rfl (RV.tmp rfl)) (Subs.sub (by repeat (first | exact Subs.nil _ | apply Subs.cons | exact List.Mem.head _ | refine List.Mem.tail _ ?_))) (Picks.perm (by repeat (first | exact Picks.nil _ | apply Picks.cons | exact Pull.here _ _ | apply Pull.there))) ⟨rfl, rfl, rfl⟩


theorem f32_spec (a i : Nat) (hi : i < 256) :
    Spec Try.prog 32 #[(.agg ((wd a).map u64).toArray), (it (i : Int))] [] []
      (fun r Γ' H' => r = (u64 (bitN a i)) ∧ Γ' = [] ∧ H' = []) := by
  refine Spec.of_args Try.func32 rfl Try.ntmps32 (by simp) fun w => ?_
  refine JC.seq ?_
  refine JC.region ?_
  refine JO.box rfl _ rfl (by decide) fun b2 => ?_
  refine JO.v (Yv.assign rfl) (by decide) ?_
  refine JO.nil ?_
  refine JQ.then_normal ?_
  refine JC.seq ?_
  refine JC.seq ?_
  refine JC.region ?_
  refine JO.v (Yv.move rfl) (by decide) ?_
  refine JO.v (Yv.as (v' := .bool false) (Yv.bin rfl rfl BinR.lss_i) (congrArg Value.bool (decide_eq_false (by omega)))) (by decide) ?_
  refine JO.v (Yv.move rfl) (by decide) ?_
  refine JO.gt (g := 7) rfl rfl rfl ?_
  refine JO.v (Yv.move rfl) (by decide) ?_
  refine JO.gt (g := 7) rfl rfl rfl ?_
  refine JO.v (Yv.as (v' := .bool false) (Yv.bin rfl rfl BinR.geq_i) (congrArg Value.bool (decide_eq_false (by omega)))) (by decide) ?_
  refine JO.v (Yv.pick0 rfl rfl rfl) (by decide) ?_
  refine JO.nil ?_
  refine JQ.then_normal ?_
  refine JC.cond rfl (fun hc1 => ?_) (fun hc1 => ?_)
  · try simp only [decide_eq_true_eq, decide_eq_false_iff_not, Bool.not_eq_true', Bool.not_eq_false', ne_eq, Decidable.not_not, Bool.not_eq_true, Bool.and_eq_true, Bool.or_eq_true, BitVec.reduceToNat] at hc1
    exact absurd hc1 (by decide)
  · try simp only [decide_eq_true_eq, decide_eq_false_iff_not, Bool.not_eq_true', Bool.not_eq_false', ne_eq, Decidable.not_not, Bool.not_eq_true, Bool.and_eq_true, Bool.or_eq_true, BitVec.reduceToNat] at hc1
    refine JC.skip ?_
    refine JQ.then_normal ?_
    refine JC.seq ?_
    refine JC.region ?_
    refine JO.v (Yv.move rfl) (by decide) ?_
    refine JO.v (Yv.as (v' := it ((i / 64 : Nat) : Int)) (Yv.bin rfl rfl (BinR.quo_i (by first | omega | decide | (simp; omega)) (by first | omega | decide | (simp; omega)) (by first | (constructor <;> omega) | (constructor <;> simp <;> omega)))) (congrArg it (by omega))) (by decide) ?_
    first | refine JO.v (Yv.indexArr1 Try.underlying32 sz_24 rfl rfl (by first | exact ltb rfl | (simp; done) | (simp; omega) | omega | (simp [*]; omega))) (by decide) ?_ | refine JO.v (Yv.indexArr1o Try.underlying32 sz_24 rfl rfl (by first | exact ltb rfl | (simp; done) | (simp; omega) | omega | (simp [*]; omega))) (by decide) ?_
    refine JO.v (Yv.load1 one_24 rfl (by first | exact Kn.own (by repeat (first | exact List.Mem.head _ | refine List.Mem.tail _ ?_)) (by first | exact wd_get _ (by omega) | rfl | exact tab_get (by first | omega | (simp; omega)) | exact gm (d := 0) (by first | omega | (simp; omega))) | exact Kn.ro (by repeat (first | exact List.Mem.head _ | refine List.Mem.tail _ ?_)) (by first | exact wd_get _ (by omega) | rfl | exact tab_get (by first | omega | (simp; omega)) | exact gm (d := 0) (by first | omega | (simp; omega))) | exact Kn.row (by repeat (first | exact List.Mem.head _ | refine List.Mem.tail _ ?_)) (by first | exact wd_get _ (by omega) | rfl | exact tab_get (by first | omega | (simp; omega)) | exact gm (d := 0) (by first | omega | (simp; omega))) | exact Kn.rd (by repeat (first | exact Lend.same _ _ | exact Lend.row _ _ _ _ _ _ (by decide) | apply Lend.there)) (by first | exact wd_get _ (by omega) | rfl | exact tab_get (by first | omega | (simp; omega)) | exact gm (d := 0) (by first | omega | (simp; omega))) | exact Kn.rd2 (by repeat (first | exact Lend.same _ _ | exact Lend.row _ _ _ _ _ _ (by decide) | apply Lend.there)) (by first | exact wd_get _ (by omega) | rfl | exact tab_get (by first | omega | (simp; omega)) | exact gm (d := 0) (by first | omega | (simp; omega))))) (by decide) ?_
    refine JO.v (Yv.move rfl) (by decide) ?_
    refine JO.v (Yv.as (v' := it ((i % 64 : Nat) : Int)) (Yv.bin rfl rfl (BinR.rem_i (by first | omega | decide | (simp; omega)) (by first | omega | decide | (simp; omega)))) (congrArg it (by omega))) (by decide) ?_
    refine JO.v (Yv.as (v' := u64 (wat a (i / 64) >>> (i % 64))) (Yv.bin rfl rfl (BinR.shr_u64_i (by first | omega | decide | (simp; omega)))) (congrArg (fun n => u64 (wat a (i / 64) >>> n)) (by omega))) (by decide) ?_
    refine JO.v (Yv.as (v' := u64 (bitN a i)) (Yv.bin rfl rfl (BinR.and_u64 (b := 1#64))) (congrArg u64 (bit_at a hi))) (by decide) ?_
    refine JO.v (Yv.assign rfl) (by decide) ?_
    refine JO.nil ?_
    refine JQ.then_normal ?_
    refine JC.ret ?_
    exact JQ.done (.inr rfl) (Γ' := []) (H' := []) (res1 rfl (RV.tmp rfl)) (Subs.sub (by repeat (first | exact Subs.nil _ | apply Subs.cons | exact List.Mem.head _ | refine List.Mem.tail _ ?_))) (Picks.perm (by repeat (first | exact Picks.nil _ | apply Picks.cons | exact Pull.here _ _ | apply Pull.there))) ⟨rfl, rfl, rfl⟩


theorem f48_spec (a : Nat) (i : Int) :
    Spec Try.prog 48 #[(.agg ((wd a).map u64).toArray), (it i)] [] []
      (fun r Γ' H' => r = (u64 (wordN a i)) ∧ Γ' = [] ∧ H' = []) := by
  refine Spec.of_args Try.func48 rfl Try.ntmps48 (by simp) fun w => ?_
  refine JC.seq ?_
  refine JC.region ?_
  refine JO.box rfl _ rfl (by decide) fun b2 => ?_
  refine JO.v (Yv.assign rfl) (by decide) ?_
  refine JO.nil ?_
  refine JQ.then_normal ?_
  refine JC.seq ?_
  refine JC.seq ?_
  refine JC.region ?_
  refine JO.v (Yv.move rfl) (by decide) ?_
  refine JO.v (Yv.bin rfl rfl BinR.lss_i) (by decide) ?_
  refine JO.v (Yv.move rfl) (by decide) ?_
  refine JO.join 3 10 (.bool (decide (i < 0 ∨ i ≥ 4))) ?_ ?_
  · skip
    refine JO.gsplit (g := 6) rfl (fun hg6 => ?_) (fun hg6 => ?_)
    · have hg6' := hg6
      try simp only [decide_eq_true_eq, decide_eq_false_iff_not, Bool.not_eq_true', Bool.not_eq_false', ne_eq, Decidable.not_not, Bool.not_eq_true, Bool.and_eq_true, Bool.or_eq_true, BitVec.reduceToNat] at hg6'
      refine JO.gf (g := 7) rfl rfl hg6 (by decide) ?_
      refine JO.gf (g := 7) rfl rfl hg6 (by decide) ?_
      refine JO.v (Yv.pick1 rfl hg6 rfl) (by decide) ?_
      refine JO.nil ?_
      refine JQ.head () (by first | (refine ⟨by first | rfl | (simp [*]; done) | (show some _ = some _; simp [*]; done), ?_⟩; repeat (first | exact trivial | refine ⟨rfl, ?_⟩))) (Subs.sub (by repeat (first | exact Subs.nil _ | apply Subs.cons | exact List.Mem.head _ | refine List.Mem.tail _ ?_))) (Picks.perm (by repeat (first | exact Picks.nil _ | apply Picks.cons | exact Pull.here _ _ | apply Pull.there))) ?_
      trivial
    · have hg6' := hg6
      try simp only [decide_eq_true_eq, decide_eq_false_iff_not, Bool.not_eq_true', Bool.not_eq_false', ne_eq, Decidable.not_not, Bool.not_eq_true, Bool.and_eq_true, Bool.or_eq_true, BitVec.reduceToNat] at hg6'
      refine JO.gt (g := 7) rfl rfl hg6 ?_
      refine JO.v (Yv.move rfl) (by decide) ?_
      refine JO.gt (g := 7) rfl rfl hg6 ?_
      refine JO.v (Yv.bin rfl rfl BinR.geq_i) (by decide) ?_
      refine JO.v (Yv.pick0 rfl hg6 rfl) (by decide) ?_
      refine JO.nil ?_
      refine JQ.head () (by first | (refine ⟨by first | rfl | (simp [*]; done) | (show some _ = some _; simp [*]; done), ?_⟩; repeat (first | exact trivial | refine ⟨rfl, ?_⟩))) (Subs.sub (by repeat (first | exact Subs.nil _ | apply Subs.cons | exact List.Mem.head _ | refine List.Mem.tail _ ?_))) (Picks.perm (by repeat (first | exact Picks.nil _ | apply Picks.cons | exact Pull.here _ _ | apply Pull.there))) ?_
      trivial
  · skip
    refine JO.nil ?_
    refine JQ.then_normal ?_
    refine JC.cond rfl (fun hc1 => ?_) (fun hc1 => ?_)
    · try simp only [decide_eq_true_eq, decide_eq_false_iff_not, Bool.not_eq_true', Bool.not_eq_false', ne_eq, Decidable.not_not, Bool.not_eq_true, Bool.and_eq_true, Bool.or_eq_true, BitVec.reduceToNat] at hc1
      skip
      refine JC.seq ?_
      refine JC.region ?_
      refine JO.v (Yv.as (v' := u64 (wordN a i)) (Yv.assign rfl) (by rw [wordN, if_neg (by omega)]; rfl)) (by decide) ?_
      refine JO.nil ?_
      refine JQ.then_normal ?_
      refine JC.ret ?_
      refine JQ.then_ret ?_
      exact JQ.done (.inr rfl) (Γ' := []) (H' := []) (res1 rfl (RV.tmp rfl)) (Subs.sub (by repeat (first | exact Subs.nil _ | apply Subs.cons | exact List.Mem.head _ | refine List.Mem.tail _ ?_))) (Picks.perm (by repeat (first | exact Picks.nil _ | apply Picks.cons | exact Pull.here _ _ | apply Pull.there))) ⟨rfl, rfl, rfl⟩
    · try simp only [decide_eq_true_eq, decide_eq_false_iff_not, Bool.not_eq_true', Bool.not_eq_false', ne_eq, Decidable.not_not, Bool.not_eq_true, Bool.and_eq_true, Bool.or_eq_true, BitVec.reduceToNat] at hc1
      obtain ⟨n, rfl⟩ : ∃ n : Nat, i = n := ⟨i.toNat, by omega⟩
      refine JC.skip ?_
      refine JQ.then_normal ?_
      refine JC.seq ?_
      refine JC.region ?_
      refine JO.v (Yv.move rfl) (by decide) ?_
      first | refine JO.v (Yv.indexArr1 Try.underlying32 sz_24 rfl rfl (by first | exact ltb rfl | (simp; done) | (simp; omega) | omega | (simp [*]; omega))) (by decide) ?_ | refine JO.v (Yv.indexArr1o Try.underlying32 sz_24 rfl rfl (by first | exact ltb rfl | (simp; done) | (simp; omega) | omega | (simp [*]; omega))) (by decide) ?_
      refine JO.v (Yv.load1 one_24 rfl (by first | exact Kn.own (by repeat (first | exact List.Mem.head _ | refine List.Mem.tail _ ?_)) (by first | exact wd_get _ (by omega) | rfl | exact tab_get (by first | omega | (simp; omega)) | exact gm (d := 0) (by first | omega | (simp; omega))) | exact Kn.ro (by repeat (first | exact List.Mem.head _ | refine List.Mem.tail _ ?_)) (by first | exact wd_get _ (by omega) | rfl | exact tab_get (by first | omega | (simp; omega)) | exact gm (d := 0) (by first | omega | (simp; omega))) | exact Kn.row (by repeat (first | exact List.Mem.head _ | refine List.Mem.tail _ ?_)) (by first | exact wd_get _ (by omega) | rfl | exact tab_get (by first | omega | (simp; omega)) | exact gm (d := 0) (by first | omega | (simp; omega))) | exact Kn.rd (by repeat (first | exact Lend.same _ _ | exact Lend.row _ _ _ _ _ _ (by decide) | apply Lend.there)) (by first | exact wd_get _ (by omega) | rfl | exact tab_get (by first | omega | (simp; omega)) | exact gm (d := 0) (by first | omega | (simp; omega))) | exact Kn.rd2 (by repeat (first | exact Lend.same _ _ | exact Lend.row _ _ _ _ _ _ (by decide) | apply Lend.there)) (by first | exact wd_get _ (by omega) | rfl | exact tab_get (by first | omega | (simp; omega)) | exact gm (d := 0) (by first | omega | (simp; omega))))) (by decide) ?_
      refine JO.v (Yv.as (v' := u64 (wordN a n)) (Yv.assign rfl) (by rw [wordN, if_pos (by omega)]; rfl)) (by decide) ?_
      refine JO.nil ?_
      refine JQ.then_normal ?_
      refine JC.ret ?_
      exact JQ.done (.inr rfl) (Γ' := []) (H' := []) (res1 rfl (RV.tmp rfl)) (Subs.sub (by repeat (first | exact Subs.nil _ | apply Subs.cons | exact List.Mem.head _ | refine List.Mem.tail _ ?_))) (Picks.perm (by repeat (first | exact Picks.nil _ | apply Picks.cons | exact Pull.here _ _ | apply Pull.there))) ⟨rfl, rfl, rfl⟩
end Go.Proofs.Ytfcodaigdigjmaa
