/- Texts of ours, gathered: F1. -/
import Derived.Test.YthfipbjmpeegbaaGreatDoorX05
/- Walks: the codec. -/
namespace Go.Proofs.YthfipbjmpeegbaaGreatDoor
open Go.RowKit
set_option maxRecDepth 100000
set_option linter.unusedVariables false
set_option linter.unusedSimpArgs false

theorem f85_spec (ws : W4) (h4 : ws.length = 4) :
    Spec Tryz.prog 85 #[natV ws] [] []
      (fun v Γ' H' => True ∧ Γ' = [] ∧ H' = [Res.row v (natBytes ws).length 5 1 ((natBytes ws).map u8)]) := by
  refine Spec.of_args Tryz.func85 rfl Tryz.ntmps85 (by simp) fun w => ?_
  refine JC.seq ?_
  refine JC.region ?_
  refine JO.box rfl _ rfl (by decide) fun b1 => ?_
  refine JO.v (Yv.assign rfl) (by decide) ?_
  refine JO.nil ?_
  refine JQ.then_normal ?_
  refine JC.seq ?_
  refine JC.region ?_
  refine JO.make (z := _) (bytes := _) 32 Tryz.underlying23 info_5 rfl rfl rfl (by first | decide | (simp; done) | (simp; omega) | omega | (simp [*]; omega)) (by unfold maxLen; omega) (by decide) fun v6 => ?_
  refine JO.v (Yv.assign rfl) (by decide) ?_
  refine JO.nil ?_
  refine JQ.then_normal ?_
  refine JC.seq ?_
  refine JC.seq ?_
  refine JC.region ?_
  refine JO.v (Yv.move rfl) (by decide) ?_
  first | refine JO.v (Yv.len_s Tryz.underlying23 rfl) (by decide) ?_ | refine JO.v (Yv.lenRd Tryz.underlying23 rfl zqc) (by decide) ?_
  refine JO.v (Yv.move rfl) (by decide) ?_
  refine JO.nil ?_
  refine JQ.then_normal ?_
  refine JC.block ?_
  refine JC.loop (ι := Nat × List Value) (fun x => x.1 ≤ 32 ∧ x.2 = tab 32 (fun j => if 32 - x.1 ≤ j then u8 (byteOf ws (31 - j)) else u8 0)) (fun x => [(3, v6), (9, it (x.1 : Int)), (8, it 32), (1, ptr b1 0)]) (fun x => []) (fun x => [Res.row v6 32 5 1 x.2, Res.cells b1 (ws.map u64) 87]) (fun x => 32 - x.1) (0, _) (by repeat (first | exact trivial | refine ⟨by first | rfl | (simp; done), ?_⟩)) (Subs.sub zqe) (Picks.perm zqd) ?_ (fun x hx => ?_)
  · exact ⟨by decide, by rfl⟩
  obtain ⟨k, xs⟩ := x
  obtain ⟨hk, hxs⟩ := hx
  dsimp only at hk hxs ⊢
  refine JC.seq ?_
  refine JC.region ?_
  refine JO.v (Yv.bin rfl rfl BinR.lss_i) (by decide) ?_
  refine JO.nil ?_
  refine JQ.then_normal ?_
  refine JC.seq ?_
  refine JC.cond rfl (fun hc1 => ?_) (fun hc1 => ?_)
  · try simp only [decide_eq_true_eq, decide_eq_false_iff_not, Bool.not_eq_true', Bool.not_eq_false', ne_eq, Decidable.not_not, Bool.not_eq_true, Bool.and_eq_true, Bool.or_eq_true, BitVec.reduceToNat] at hc1
    refine JC.skip ?_
    refine JQ.then_normal ?_
    refine JC.seq ?_
    refine JC.block ?_
    refine JC.seq ?_
    refine JC.region ?_
    refine JO.v (Yv.move rfl) (by decide) ?_
    refine JO.v (Yv.assign rfl) (by decide) ?_
    refine JO.nil ?_
    refine JQ.then_normal ?_
    refine JC.seq ?_
    refine JC.region ?_
    refine JO.v (Yv.move rfl) (by decide) ?_
    first | refine JO.v (Yv.len_s Tryz.underlying23 rfl) (by decide) ?_ | refine JO.v (Yv.lenRd Tryz.underlying23 rfl zqc) (by decide) ?_
    refine JO.v (Yv.bin rfl rfl (BinR.sub_i zqf)) (by decide) ?_
    refine JO.v (Yv.move rfl) (by decide) ?_
    refine JO.v (Yv.bin rfl rfl (BinR.sub_i zqf)) (by decide) ?_
    refine JO.v (Yv.as (v' := it ((31 - k : Nat) : Int)) (Yv.assign rfl) (congrArg it (by omega))) (by decide) ?_
    refine JO.nil ?_
    refine JQ.then_normal ?_
    refine JC.region ?_
    refine JO.v (Yv.move rfl) (by decide) ?_
    refine JO.v (Yv.move rfl) (by decide) ?_
    refine JO.v (Yv.move rfl) (by decide) ?_
    refine JO.v (Yv.as (v' := it ((k / 8 : Nat) : Int)) (Yv.bin rfl rfl (BinR.quo_i (by first | omega | decide | (simp; omega)) (by first | omega | decide | (simp; omega)) zqf)) (congrArg it (by omega))) (by decide) ?_
    first | refine JO.v (Yv.indexArr1 Tryz.underlying87 sz_30 rfl rfl zqb) (by decide) ?_ | refine JO.v (Yv.indexArr1o Tryz.underlying87 sz_30 rfl rfl zqb) (by decide) ?_
    refine JO.v (Yv.load1 one_30 rfl (by first | exact Kn.own zqa (by first  | rfl | exact tab_get zqg | exact gm (d := 0) zqg) | exact Kn.ro zqa (by first  | rfl | exact tab_get zqg | exact gm (d := 0) zqg) | exact Kn.row zqa (by first  | rfl | exact tab_get zqg | exact gm (d := 0) zqg) | exact Kn.rd zqc (by first  | rfl | exact tab_get zqg | exact gm (d := 0) zqg) | exact Kn.rd2 zqc (by first  | rfl | exact tab_get zqg | exact gm (d := 0) zqg))) (by decide) ?_
    refine JO.v (Yv.move rfl) (by decide) ?_
    refine JO.v (Yv.bin rfl rfl (BinR.rem_i (by first | omega | decide | (simp; omega)) (by first | omega | decide | (simp; omega)))) (by decide) ?_
    refine JO.v (Yv.as (v' := it ((8 * (k % 8) : Nat) : Int)) (Yv.bin rfl rfl (BinR.mul_i zqf)) (congrArg it (by omega))) (by decide) ?_
    refine JO.v (Yv.bin rfl rfl (BinR.shr_u64_i (by first | omega | decide | (simp; omega)))) (by decide) ?_
    refine JO.v (Yv.conv_u64_u8 Tryz.underlying30 Tryz.underlying5 rfl) (by decide) ?_
    first | refine JO.v (Yv.indexRow1 Tryz.underlying23 sz_5 rfl rfl zqa zqb) (by decide) ?_ | refine JO.v (Yv.indexRd1 Tryz.underlying23 sz_5 rfl rfl zqc zqb) (by decide) ?_
    first | refine JO.store1 sz_5 rfl rfl rfl (by repeat (first | exact Upd.here _ _ _ | apply Upd.there)) zqb ?_ | refine JO.storeRow1 sz_5 rfl rfl rfl (by repeat (first | exact Upd.here _ _ _ | apply Upd.there)) zqb (by rw [hxs, tab_len]) ?_
    refine JO.nil ?_
    refine JQ.block_normal ?_
    refine JQ.then_normal ?_
    refine JC.region ?_
    refine JO.v (Yv.bin rfl rfl (BinR.add_i zqf)) (by decide) ?_
    refine JO.v (Yv.move rfl) (by decide) ?_
    refine JO.nil ?_
    refine JQ.head (k + 1, _) (by repeat (first | exact trivial | refine ⟨by first | rfl | (simp; done), ?_⟩)) (Subs.sub zqe) (Picks.perm zqd) ?_
    refine ⟨⟨by dsimp only; omega, ?_⟩, by dsimp only; omega⟩
    dsimp only
    rw [hxs, tab_set]
    refine tab_congr fun j hj => ?_
    by_cases h1 : j = 31 - k
    · subst h1; rw [if_pos rfl, if_pos (by omega), show 31 - (31 - k) = k by omega]; rfl
    · rw [if_neg h1]
      by_cases h2 : 32 - k ≤ j
      · rw [if_pos h2, if_pos (by omega)]
      · rw [if_neg h2, if_neg (by omega)]
  · try simp only [decide_eq_true_eq, decide_eq_false_iff_not, Bool.not_eq_true', Bool.not_eq_false', ne_eq, Decidable.not_not, Bool.not_eq_true, Bool.and_eq_true, Bool.or_eq_true, BitVec.reduceToNat] at hc1
    refine JC.exit ?_
    refine JQ.then_exit ?_
    refine JQ.then_exit ?_
    refine JQ.block_exit ?_
    refine JQ.then_normal ?_
    refine JC.seq ?_
    refine JC.region ?_
    refine JO.v (Yv.move rfl) (by decide) ?_
    refine JO.v (Yv.assign rfl) (by decide) ?_
    refine JO.nil ?_
    refine JQ.then_normal ?_
    refine JC.ret ?_
    refine JQ.done (.inr rfl) (Γ' := []) (H' := [Res.row v6 32 5 1 xs]) (res1 rfl (RV.tmp rfl)) (Subs.sub zqe) (Picks.perm zqd) ⟨trivial, rfl, ?_⟩
    rw [hxs, natBytes_length, natBytes_map]
    rw [show tab 32 (fun j => if 32 - k ≤ j then u8 (byteOf ws (31 - j)) else u8 0) = tab 32 (fun j => u8 (byteOf ws (31 - j))) from tab_congr fun j hj => if_pos (by omega)]


theorem f63_spec (v : Value) (b : B8) (hb : b.length ≤ 32) :
    Spec Tryz.prog 63 #[v] [Res.rd v b.length 1 (b.map u8)] []
      (fun r Γ' H' => r = .tuple #[natV (ofBytes b), it 0] ∧ Γ' = [] ∧ H' = []) := by
  refine Spec.of_args Tryz.func63 rfl Tryz.ntmps63 (by simp) fun w => ?_
  refine JC.seq ?_
  refine JC.region ?_
  refine JO.alloc _ zero_87 rfl (by decide) fun b2 => ?_
  refine JO.v (Yv.assign rfl) (by decide) ?_
  refine JO.nil ?_
  refine JQ.then_normal ?_
  refine JC.seq ?_
  refine JC.region ?_
  refine JO.alloc _ zero_87 rfl (by decide) fun b4 => ?_
  refine JO.nil ?_
  refine JQ.then_normal ?_
  refine JC.seq ?_
  refine JC.seq ?_
  refine JC.region ?_
  refine JO.v (Yv.move rfl) (by decide) ?_
  first | refine JO.v (Yv.len_s Tryz.underlying23 rfl) (by decide) ?_ | refine JO.v (Yv.lenRd Tryz.underlying23 rfl zqc) (by decide) ?_
  refine JO.v (Yv.bin rfl rfl BinR.gtr_i) (by decide) ?_
  refine JO.nil ?_
  refine JQ.then_normal ?_
  refine JC.cond rfl (fun hc1 => ?_) (fun hc1 => ?_)
  · try simp only [decide_eq_true_eq, decide_eq_false_iff_not, Bool.not_eq_true', Bool.not_eq_false', ne_eq, Decidable.not_not, Bool.not_eq_true, Bool.and_eq_true, Bool.or_eq_true, BitVec.reduceToNat] at hc1
    exfalso; omega
  · try simp only [decide_eq_true_eq, decide_eq_false_iff_not, Bool.not_eq_true', Bool.not_eq_false', ne_eq, Decidable.not_not, Bool.not_eq_true, Bool.and_eq_true, Bool.or_eq_true, BitVec.reduceToNat] at hc1
    refine JC.skip ?_
    refine JQ.then_normal ?_
    refine JC.seq ?_
    refine JC.seq ?_
    refine JC.region ?_
    refine JO.v (Yv.move rfl) (by decide) ?_
    first | refine JO.v (Yv.len_s Tryz.underlying23 rfl) (by decide) ?_ | refine JO.v (Yv.lenRd Tryz.underlying23 rfl zqc) (by decide) ?_
    refine JO.v (Yv.move rfl) (by decide) ?_
    refine JO.nil ?_
    refine JQ.then_normal ?_
    refine JC.block ?_
    refine JC.loop (ι := Nat × W4) (fun x => x.1 ≤ b.length ∧ x.2 = ofUpto b x.1) (fun x => [(0, v), (2, ptr b2 0), (4, ptr b4 0), (12, v), (13, it (b.length : Int)), (14, it (x.1 : Int))]) (fun x => [Res.rd v b.length 1 (b.map u8)]) (fun x => [Res.cells b4 (x.2.map u64) 87, Res.cells b2 [u64 0, u64 0, u64 0, u64 0] 87]) (fun x => b.length - x.1) (0, [0, 0, 0, 0]) (by repeat (first | exact trivial | refine ⟨by first | rfl | (simp; done), ?_⟩)) (Subs.sub zqe) (Picks.perm zqd) ?_ (fun x hx => ?_)
    · exact ⟨Nat.zero_le _, rfl⟩
    obtain ⟨k, ws⟩ := x
    obtain ⟨hk, hws⟩ := hx
    dsimp only at hk hws ⊢
    have hl : ws.length = 4 := by rw [hws, ofUpto_length]
    refine JC.seq ?_
    refine JC.region ?_
    refine JO.v (Yv.bin rfl rfl BinR.lss_i) (by decide) ?_
    refine JO.nil ?_
    refine JQ.then_normal ?_
    refine JC.seq ?_
    refine JC.cond rfl (fun hc2 => ?_) (fun hc2 => ?_)
    · try simp only [decide_eq_true_eq, decide_eq_false_iff_not, Bool.not_eq_true', Bool.not_eq_false', ne_eq, Decidable.not_not, Bool.not_eq_true, Bool.and_eq_true, Bool.or_eq_true, BitVec.reduceToNat] at hc2
      refine JC.skip ?_
      refine JQ.then_normal ?_
      refine JC.seq ?_
      refine JC.block ?_
      refine JC.seq ?_
      refine JC.region ?_
      refine JO.v (Yv.move rfl) (by decide) ?_
      first | refine JO.v (Yv.indexRow1 Tryz.underlying23 sz_5 rfl rfl zqa zqb) (by decide) ?_ | refine JO.v (Yv.indexRd1 Tryz.underlying23 sz_5 rfl rfl zqc zqb) (by decide) ?_
      refine JO.v (Yv.load1 one_5 rfl (by first | exact Kn.own zqa (by first  | rfl | exact tab_get zqg | exact gm (d := 0) zqg) | exact Kn.ro zqa (by first  | rfl | exact tab_get zqg | exact gm (d := 0) zqg) | exact Kn.row zqa (by first  | rfl | exact tab_get zqg | exact gm (d := 0) zqg) | exact Kn.rd zqc (by first  | rfl | exact tab_get zqg | exact gm (d := 0) zqg) | exact Kn.rd2 zqc (by first  | rfl | exact tab_get zqg | exact gm (d := 0) zqg))) (by decide) ?_
      refine JO.v (Yv.assign rfl) (by decide) ?_
      refine JO.v (Yv.assign rfl) (by decide) ?_
      refine JO.nil ?_
      refine JQ.then_normal ?_
      refine JC.seq ?_
      refine JC.region ?_
      refine JO.v (Yv.move rfl) (by decide) ?_
      first | refine JO.v (Yv.len_s Tryz.underlying23 rfl) (by decide) ?_ | refine JO.v (Yv.lenRd Tryz.underlying23 rfl zqc) (by decide) ?_
      refine JO.v (Yv.bin rfl rfl (BinR.sub_i zqf)) (by decide) ?_
      refine JO.v (Yv.move rfl) (by decide) ?_
      refine JO.v (Yv.as (v' := it ((b.length - 1 - k : Nat) : Int)) (Yv.bin rfl rfl (BinR.sub_i zqf)) (congrArg it (by omega))) (by decide) ?_
      refine JO.v (Yv.assign rfl) (by decide) ?_
      refine JO.nil ?_
      refine JQ.then_normal ?_
      refine JC.draw (.one 0 (.one 1 (.one 2 (.one 3 (.one 4 (.one 5 (.one 6 (.one 7 (.one 8 (.one 9 (.one 10 (.one 11 (.one 12 .nil))))))))))))) (fun i => ([12] : List Nat).contains i) (fun i => ([12] : List Nat).contains i) (fun i => ([0, 1, 2, 4, 5, 6, 7, 8, 9, 10, 11] : List Nat).contains i) mixed (by kernel_rfl) (by decide) (by kernel_rfl) ?_
      refine JR.u rfl rfl rfl (Yv.move rfl) (by decide) ?_
      refine JR.u rfl rfl rfl (Yv.as (v' := it (((b.length - 1 - k) / 8 : Nat) : Int)) (Yv.bin rfl rfl (BinR.quo_i (by first | omega | decide | (simp; omega)) (by first | omega | decide | (simp; omega)) zqf)) (congrArg it (by omega))) (by decide) ?_
      first | refine JR.u rfl rfl rfl (Yv.indexArr1 Tryz.underlying87 sz_30 rfl rfl zqb) (by decide) ?_ | refine JR.u rfl rfl rfl (Yv.indexArr1o Tryz.underlying87 sz_30 rfl rfl zqb) (by decide) ?_
      refine JR.v rfl rfl rfl (Yv.load1 one_30 rfl (by first | exact Kn.own zqa (by first  | rfl | exact tab_get zqg | exact gm (d := 0) zqg) | exact Kn.ro zqa (by first  | rfl | exact tab_get zqg | exact gm (d := 0) zqg) | exact Kn.row zqa (by first  | rfl | exact tab_get zqg | exact gm (d := 0) zqg) | exact Kn.rd zqc (by first  | rfl | exact tab_get zqg | exact gm (d := 0) zqg) | exact Kn.rd2 zqc (by first  | rfl | exact tab_get zqg | exact gm (d := 0) zqg))) (by decide) ?_
      refine JR.u rfl rfl rfl (Yv.move rfl) (by decide) ?_
      refine JR.u rfl rfl rfl (Yv.conv_u8_u64 Tryz.underlying5 Tryz.underlying30 rfl) (by decide) ?_
      refine JR.u rfl rfl rfl (Yv.move rfl) (by decide) ?_
      refine JR.u rfl rfl rfl (Yv.bin rfl rfl (BinR.rem_i (by first | omega | decide | (simp; omega)) (by first | omega | decide | (simp; omega)))) (by decide) ?_
      refine JR.u rfl rfl rfl (Yv.as (v' := it ((8 * ((b.length - 1 - k) % 8) : Nat) : Int)) (Yv.bin rfl rfl (BinR.mul_i zqf)) (congrArg it (by omega))) (by decide) ?_
      refine JR.u rfl rfl rfl (Yv.bin rfl rfl (BinR.shl_u64_i (by first | omega | decide | (simp; omega)))) (by decide) ?_
      refine JR.u rfl rfl rfl (Yv.bin rfl rfl (BinR.or_u64)) (by decide) ?_
      first | refine JR.u rfl rfl rfl (Yv.indexArr1 Tryz.underlying87 sz_30 rfl rfl zqb) (by decide) ?_ | refine JR.u rfl rfl rfl (Yv.indexArr1o Tryz.underlying87 sz_30 rfl rfl zqb) (by decide) ?_
      first | refine JR.m0 rfl rfl (Mv.store1 sz_30 rfl rfl rfl (by repeat (first | exact Upd.here _ _ _ | apply Upd.there)) zqb) ?_ | refine JR.m0 rfl rfl (Mv.storeRow1 sz_30 rfl rfl rfl (by repeat (first | exact Upd.here _ _ _ | apply Upd.there)) zqb (by first | rfl | (simp; done) | omega | (simp; omega))) ?_
      rintro _ _ _ ⟨rfl, rfl⟩
      refine ⟨⟨Subs.sub zqe, .inl rfl⟩, ?_⟩
      refine JR.nil ?_
      refine JQ.block_normal ?_
      refine JQ.then_normal ?_
      refine JC.region ?_
      refine JO.v (Yv.bin rfl rfl (BinR.add_i zqf)) (by decide) ?_
      refine JO.v (Yv.move rfl) (by decide) ?_
      refine JO.nil ?_
      rw [← List.map_set]
      refine JQ.head (k + 1, putByte ws (b.length - 1 - k) (b.getD k 0)) (by repeat (first | exact trivial | refine ⟨by first | rfl | (simp; done), ?_⟩)) (Subs.sub zqe) (Picks.perm zqd) ?_
      exact ⟨⟨by dsimp only; omega, by dsimp only; rw [ofUpto_succ, ← hws]⟩, by dsimp only; omega⟩
    · try simp only [decide_eq_true_eq, decide_eq_false_iff_not, Bool.not_eq_true', Bool.not_eq_false', ne_eq, Decidable.not_not, Bool.not_eq_true, Bool.and_eq_true, Bool.or_eq_true, BitVec.reduceToNat] at hc2
      obtain rfl : k = b.length := by omega
      subst hws
      refine JC.exit ?_
      refine JQ.then_exit ?_
      refine JQ.then_exit ?_
      refine JQ.block_exit ?_
      refine JQ.then_normal ?_
      refine JC.seq ?_
      refine JC.region ?_
      first | refine JO.v (Yv.loadOwn agg_87 zqa rfl (by first | rfl | (simp; done) | (simp; omega) | (simp [*]; done))) (by decide) ?_ | refine JO.v (Yv.loadOwnAt agg_87 zqa rfl (by first | rfl | (simp; done) | (simp; omega) | (simp [*]; done))) (by decide) ?_ | refine JO.v (Yv.loadRow agg_87 zqa rfl (by first | rfl | (simp; done) | (simp; omega) | (simp [*]; done))) (by decide) ?_ | refine JO.v (Yv.loadRd agg_87 zqc rfl (by first | rfl | (simp; done) | (simp; omega) | (simp [*]; done))) (by decide) ?_ | refine JO.v (Yv.loadRo agg_87 zqa rfl (by first | rfl | (simp; done) | (simp; omega) | (simp [*]; done))) (by decide) ?_
      first | refine JO.storeAll sz_87 rfl rfl rfl (by first | rfl | (simp; done) | (simp; omega)) (by first | (simp; done) | exact one_map (fun _ => rfl) | exact one_tab (fun _ => rfl) | exact one_tab (fun _ => by split <;> rfl)) (by repeat (first | exact Upd.here _ _ _ | apply Upd.there)) (by first | rfl | (simp; done) | (simp; omega)) ?_ | refine JO.store sz_87 rfl rfl rfl (by first | rfl | (simp; done) | (simp; omega)) (by first | (simp; done) | exact one_sing rfl | exact one_map (fun _ => rfl) | exact one_piece (one_map (fun _ => rfl)) | exact one_tab (fun _ => rfl) | exact one_tab (fun _ => by split <;> rfl)) (by repeat (first | exact Upd.here _ _ _ | apply Upd.there)) zqb ?_ | refine JO.storeRow sz_87 rfl rfl rfl (by first | rfl | simp) (by first | (simp; done) | exact one_map (fun _ => rfl) | exact one_tab (fun _ => rfl) | exact one_tab (fun _ => by split <;> rfl)) (by repeat (first | exact Upd.here _ _ _ | apply Upd.there)) zqb zqb ?_
      refine JO.v (Yv.assign rfl) (by decide) ?_
      refine JO.nil ?_
      refine JQ.then_normal ?_
      refine JC.ret ?_
      exact JQ.done (.inr rfl) (Γ' := []) (H' := []) (res2 rfl (RV.cell agg_87 zqa rfl (by first | rfl | (simp; done) | (simp; omega))) (RV.tmp rfl)) (Subs.sub zqe) (Picks.perm zqd) ⟨rfl, rfl, rfl⟩


theorem f14_spec (u v : Value) (a b : B8) :
    Spec Tryz.prog 14 #[u, v] [Res.rd u a.length 1 (a.map u8), Res.rd v b.length 1 (b.map u8)] []
      (fun r Γ' H' => r = .bool (decide (a = b)) ∧ Γ' = [] ∧ H' = []) := by
  refine Spec.of_args Tryz.func14 rfl Tryz.ntmps14 (by simp) fun w => ?_
  refine JC.know (φ := a.length ≤ 9223372036854775807 ∧ b.length ≤ 9223372036854775807) ?_ ?_
  · intro w hs; have h1 := hs.rdForm (.head _); have h2 := hs.rdForm (.tail _ (.head _)); obtain ⟨_, _, _, _, _, _, h1⟩ := h1; obtain ⟨_, _, _, _, _, _, h2⟩ := h2; unfold maxLen at h1 h2; omega
  rintro ⟨ha, hb⟩
  refine JC.seq ?_
  refine JC.region ?_
  refine JO.v (Yv.assign rfl) (by decide) ?_
  refine JO.nil ?_
  refine JQ.then_normal ?_
  refine JC.seq ?_
  refine JC.seq ?_
  refine JC.region ?_
  refine JO.v (Yv.move rfl) (by decide) ?_
  first | refine JO.v (Yv.len_s Tryz.underlying23 rfl) (by decide) ?_ | refine JO.v (Yv.lenRd Tryz.underlying23 rfl zqc) (by decide) ?_
  refine JO.v (Yv.move rfl) (by decide) ?_
  first | refine JO.v (Yv.len_s Tryz.underlying23 rfl) (by decide) ?_ | refine JO.v (Yv.lenRd Tryz.underlying23 rfl zqc) (by decide) ?_
  refine JO.v (Yv.bin rfl rfl BinR.neq_i) (by decide) ?_
  refine JO.nil ?_
  refine JQ.then_normal ?_
  refine JC.cond rfl (fun hc1 => ?_) (fun hc1 => ?_)
  · try simp only [decide_eq_true_eq, decide_eq_false_iff_not, Bool.not_eq_true', Bool.not_eq_false', ne_eq, Decidable.not_not, Bool.not_eq_true, Bool.and_eq_true, Bool.or_eq_true, BitVec.reduceToNat] at hc1
    have hne : a ≠ b := by rintro rfl; omega
    refine JC.seq ?_
    refine JC.region ?_
    refine JO.v (Yv.assign rfl) (by decide) ?_
    refine JO.nil ?_
    refine JQ.then_normal ?_
    refine JC.ret ?_
    refine JQ.then_ret ?_
    exact JQ.done (.inr rfl) (Γ' := []) (H' := []) (res1 rfl (RV.tmp rfl)) (Subs.sub zqe) (Picks.perm zqd) ⟨by rw [decide_eq_false hne], rfl, rfl⟩
  · try simp only [decide_eq_true_eq, decide_eq_false_iff_not, Bool.not_eq_true', Bool.not_eq_false', ne_eq, Decidable.not_not, Bool.not_eq_true, Bool.and_eq_true, Bool.or_eq_true, BitVec.reduceToNat] at hc1
    refine JC.skip ?_
    refine JQ.then_normal ?_
    refine JC.seq ?_
    refine JC.seq ?_
    refine JC.region ?_
    refine JO.v (Yv.assign rfl) (by decide) ?_
    refine JO.nil ?_
    refine JQ.then_normal ?_
    refine JC.block ?_
    refine JC.loop (ι := Nat) (fun x => x ≤ a.length ∧ ∀ j, j < x → a.getD j 0 = b.getD j 0) (fun x => [(0, u), (1, v), (5, it (x : Int))]) (fun x => [Res.rd u a.length 1 (a.map u8), Res.rd v b.length 1 (b.map u8)]) (fun x => []) (fun x => a.length - x) 0 (by repeat (first | exact trivial | refine ⟨by first | rfl | (simp; done), ?_⟩)) (Subs.sub zqe) (Picks.perm zqd) ?_ (fun x hx => ?_)
    · exact ⟨Nat.zero_le _, fun j hj => absurd hj (by omega)⟩
    obtain ⟨hk, hall⟩ := hx
    refine JC.seq ?_
    refine JC.seq ?_
    refine JC.region ?_
    refine JO.v (Yv.move rfl) (by decide) ?_
    refine JO.v (Yv.move rfl) (by decide) ?_
    first | refine JO.v (Yv.len_s Tryz.underlying23 rfl) (by decide) ?_ | refine JO.v (Yv.lenRd Tryz.underlying23 rfl zqc) (by decide) ?_
    refine JO.v (Yv.bin rfl rfl BinR.lss_i) (by decide) ?_
    refine JO.nil ?_
    refine JQ.then_normal ?_
    refine JC.cond rfl (fun hc2 => ?_) (fun hc2 => ?_)
    · try simp only [decide_eq_true_eq, decide_eq_false_iff_not, Bool.not_eq_true', Bool.not_eq_false', ne_eq, Decidable.not_not, Bool.not_eq_true, Bool.and_eq_true, Bool.or_eq_true, BitVec.reduceToNat] at hc2
      refine JC.skip ?_
      refine JQ.then_normal ?_
      refine JC.seq ?_
      refine JC.block ?_
      refine JC.seq ?_
      refine JC.draw (.one 0 (.one 1 (.one 2 (.one 3 (.one 4 (.one 5 (.one 6 (.one 7 (.one 8 .nil))))))))) (fun i => ([] : List Nat).contains i) (fun i => ([] : List Nat).contains i) (fun i => ([0, 1, 2, 4, 5, 6, 8] : List Nat).contains i) mixed (by kernel_rfl) (by decide) (by kernel_rfl) ?_
      refine JR.u rfl rfl rfl (Yv.move rfl) (by decide) ?_
      refine JR.u rfl rfl rfl (Yv.move rfl) (by decide) ?_
      first | refine JR.u rfl rfl rfl (Yv.indexRow1 Tryz.underlying23 sz_5 rfl rfl zqa zqb) (by decide) ?_ | refine JR.u rfl rfl rfl (Yv.indexRd1 Tryz.underlying23 sz_5 rfl rfl zqc zqb) (by decide) ?_
      refine JR.v rfl rfl rfl (Yv.load1 one_5 rfl (by first | exact Kn.own zqa (by first  | rfl | exact tab_get zqg | exact gm (d := 0) zqg) | exact Kn.ro zqa (by first  | rfl | exact tab_get zqg | exact gm (d := 0) zqg) | exact Kn.row zqa (by first  | rfl | exact tab_get zqg | exact gm (d := 0) zqg) | exact Kn.rd zqc (by first  | rfl | exact tab_get zqg | exact gm (d := 0) zqg) | exact Kn.rd2 zqc (by first  | rfl | exact tab_get zqg | exact gm (d := 0) zqg))) (by decide) ?_
      refine JR.u rfl rfl rfl (Yv.move rfl) (by decide) ?_
      refine JR.u rfl rfl rfl (Yv.move rfl) (by decide) ?_
      first | refine JR.u rfl rfl rfl (Yv.indexRow1 Tryz.underlying23 sz_5 rfl rfl zqa zqb) (by decide) ?_ | refine JR.u rfl rfl rfl (Yv.indexRd1 Tryz.underlying23 sz_5 rfl rfl zqc zqb) (by decide) ?_
      refine JR.v rfl rfl rfl (Yv.load1 one_5 rfl (by first | exact Kn.own zqa (by first  | rfl | exact tab_get zqg | exact gm (d := 0) zqg) | exact Kn.ro zqa (by first  | rfl | exact tab_get zqg | exact gm (d := 0) zqg) | exact Kn.row zqa (by first  | rfl | exact tab_get zqg | exact gm (d := 0) zqg) | exact Kn.rd zqc (by first  | rfl | exact tab_get zqg | exact gm (d := 0) zqg) | exact Kn.rd2 zqc (by first  | rfl | exact tab_get zqg | exact gm (d := 0) zqg))) (by decide) ?_
      refine JR.u rfl rfl rfl (Yv.bin rfl rfl (BinR.neq_u8)) (by decide) ?_
      refine JR.nil ?_
      refine JQ.then_normal ?_
      refine JC.cond rfl (fun hc3 => ?_) (fun hc3 => ?_)
      · try simp only [decide_eq_true_eq, decide_eq_false_iff_not, Bool.not_eq_true', Bool.not_eq_false', ne_eq, Decidable.not_not, Bool.not_eq_true, Bool.and_eq_true, Bool.or_eq_true, BitVec.reduceToNat] at hc3
        have hne : a ≠ b := by rintro rfl; exact hc3 rfl
        refine JC.seq ?_
        refine JC.region ?_
        refine JO.v (Yv.assign rfl) (by decide) ?_
        refine JO.nil ?_
        refine JQ.then_normal ?_
        refine JC.ret ?_
        refine JQ.block_ret ?_
        refine JQ.then_ret ?_
        refine JQ.then_ret ?_
        refine JQ.block_ret ?_
        refine JQ.then_ret ?_
        exact JQ.done (.inr rfl) (Γ' := []) (H' := []) (res1 rfl (RV.tmp rfl)) (Subs.sub zqe) (Picks.perm zqd) ⟨by rw [decide_eq_false hne], rfl, rfl⟩
      · try simp only [decide_eq_true_eq, decide_eq_false_iff_not, Bool.not_eq_true', Bool.not_eq_false', ne_eq, Decidable.not_not, Bool.not_eq_true, Bool.and_eq_true, Bool.or_eq_true, BitVec.reduceToNat] at hc3
        refine JC.skip ?_
        refine JQ.block_normal ?_
        refine JQ.then_normal ?_
        refine JC.region ?_
        refine JO.v (Yv.move rfl) (by decide) ?_
        refine JO.v (Yv.bin rfl rfl (BinR.add_i zqf)) (by decide) ?_
        refine JO.v (Yv.assign rfl) (by decide) ?_
        refine JO.nil ?_
        refine JQ.head (x + 1) (by repeat (first | exact trivial | refine ⟨by first | rfl | (simp; done), ?_⟩)) (Subs.sub zqe) (Picks.perm zqd) ?_
        exact ⟨⟨by omega, fun j hj => if h : j < x then hall j h else (show j = x by omega) ▸ hc3⟩, by omega⟩
    · try simp only [decide_eq_true_eq, decide_eq_false_iff_not, Bool.not_eq_true', Bool.not_eq_false', ne_eq, Decidable.not_not, Bool.not_eq_true, Bool.and_eq_true, Bool.or_eq_true, BitVec.reduceToNat] at hc2
      have heq : a = b := eq_of_getD (d := 0) (by omega) (fun j hj => hall j (by omega))
      refine JC.exit ?_
      refine JQ.then_exit ?_
      refine JQ.then_exit ?_
      refine JQ.block_exit ?_
      refine JQ.then_normal ?_
      refine JC.seq ?_
      refine JC.region ?_
      refine JO.v (Yv.assign rfl) (by decide) ?_
      refine JO.nil ?_
      refine JQ.then_normal ?_
      refine JC.ret ?_
      exact JQ.done (.inr rfl) (Γ' := []) (H' := []) (res1 rfl (RV.tmp rfl)) (Subs.sub zqe) (Picks.perm zqd) ⟨by rw [decide_eq_true heq], rfl, rfl⟩


theorem f27_spec (v : Value) (n : Nat) (xs : List Value) (hn : n ≤ 70368744177664) (h1 : ∀ a ∈ xs, a.oneCell' = true) :
    Spec Tryz.prog 27 #[v] [Res.rd v n 1 xs] []
      (fun r Γ' H' => True ∧ Γ' = [] ∧ H' = [Res.row r n 5 1 xs]) := by
  refine Spec.know (φ := ∃ A c, v = .slice A n c ∧ (A = none → xs = []) ∧ xs.length = n * 1 ∧ n ≤ c ∧ n ≤ maxLen) (fun w hs => hs.rdForm (.head _)) ?_
  rintro ⟨A, c, rfl, hA, hl, hc, hm⟩
  refine Spec.of_args Tryz.func27 rfl Tryz.ntmps27 (by simp) fun w => ?_
  refine JC.seq ?_
  refine JC.region ?_
  refine JO.v (Yv.assign rfl) (by decide) ?_
  refine JO.nil ?_
  refine JQ.then_normal ?_
  refine JC.seq ?_
  refine JC.seq ?_
  refine JC.region ?_
  refine JO.v (Yv.move rfl) (by decide) ?_
  refine JO.v (Yv.bin rfl rfl (BinR.eql_s Tryz.underlying23)) (by decide) ?_
  refine JO.nil ?_
  refine JQ.then_normal ?_
  refine JC.cond rfl (fun hc1 => ?_) (fun hc1 => ?_)
  · try simp only [decide_eq_true_eq, decide_eq_false_iff_not, Bool.not_eq_true', Bool.not_eq_false', ne_eq, Decidable.not_not, Bool.not_eq_true, Bool.and_eq_true, Bool.or_eq_true, BitVec.reduceToNat] at hc1
    have hA0 : A = none := by cases A <;> simp_all
    have hx := hA hA0
    have hn0 : n = 0 := by rw [hx] at hl; simpa using hl.symm
    subst hx hn0
    refine JC.seq ?_
    refine JC.region ?_
    refine JO.nilRow 5 1 ?_
    refine JO.v (Yv.assign rfl) (by decide) ?_
    refine JO.nil ?_
    refine JQ.then_normal ?_
    refine JC.ret ?_
    refine JQ.then_ret ?_
    exact JQ.done (.inr rfl) (Γ' := []) (H' := [Res.row (.slice none 0 0) 0 5 1 []]) (res1 rfl (RV.tmp rfl)) (Subs.sub zqe) (Picks.perm zqd) ⟨trivial, rfl, rfl⟩
  · try simp only [decide_eq_true_eq, decide_eq_false_iff_not, Bool.not_eq_true', Bool.not_eq_false', ne_eq, Decidable.not_not, Bool.not_eq_true, Bool.and_eq_true, Bool.or_eq_true, BitVec.reduceToNat] at hc1
    refine JC.skip ?_
    refine JQ.then_normal ?_
    refine JC.seq ?_
    refine JC.region ?_
    refine JO.buildEmpty Tryz.underlying23 sz_5 (by decide) fun v5 => ?_
    refine JO.v (Yv.move rfl) (by decide) ?_
    refine JO.append Tryz.underlying23 info_5 rfl (by decide) rfl rfl (by repeat (first | exact Pull.here _ _ | apply Pull.there)) (by first | exact Src.nil | exact Src.rd zqc (by decide) | exact Src.cells zqa (by simp)) h1 (by unfold maxLen; omega) (by omega) (by decide) fun v7 => ?_
    refine JO.v (Yv.assign rfl) (by decide) ?_
    refine JO.nil ?_
    refine JQ.then_normal ?_
    refine JC.ret ?_
    exact JQ.done (.inr rfl) (Γ' := []) (H' := [Res.row _ (0 + n) 5 1 ([] ++ xs)]) (res1 rfl (RV.tmp rfl)) (Subs.sub zqe) (Picks.perm zqd) ⟨trivial, rfl, by rw [Nat.zero_add, List.nil_append]⟩


theorem f97_spec (x : BitVec 64) :
    Spec Tryz.prog 97 #[u64 x] [] []
      (fun r Γ' H' => r = it (len64 x : Int) ∧ Γ' = [] ∧ H' = []) := by
  refine Spec.of_args Tryz.func97 rfl Tryz.ntmps97 (by simp) fun w => ?_
  refine JC.seq ?_
  refine JC.region ?_
  refine JO.v (Yv.assign rfl) (by decide) ?_
  refine JO.nil ?_
  refine JQ.then_normal ?_
  refine JC.seq ?_
  refine JC.seq ?_
  refine JC.region ?_
  refine JO.v (Yv.move rfl) (by decide) ?_
  refine JO.v (Yv.bin rfl rfl (BinR.geq_u64 (b := 4294967296#64))) (by decide) ?_
  refine JO.nil ?_
  refine JQ.then_normal ?_
  refine JC.cond rfl (fun hc1 => ?_) (fun hc1 => ?_)
  · try simp only [decide_eq_true_eq, decide_eq_false_iff_not, Bool.not_eq_true', Bool.not_eq_false', ne_eq, Decidable.not_not, Bool.not_eq_true, Bool.and_eq_true, Bool.or_eq_true, BitVec.reduceToNat] at hc1
    have e1 := len64_s32 hc1
    refine JC.seq ?_
    refine JC.region ?_
    refine JO.v (Yv.move rfl) (by decide) ?_
    refine JO.v (Yv.as (v' := u64 (x >>> 32)) (Yv.bin rfl rfl (BinR.shr_u64_u64 (n := 32#64))) rfl) (by decide) ?_
    refine JO.v (Yv.assign rfl) (by decide) ?_
    refine JO.nil ?_
    refine JQ.then_normal ?_
    refine JC.region ?_
    refine JO.v (Yv.assign rfl) (by decide) ?_
    refine JO.nil ?_
    refine JQ.then_normal ?_
    refine JC.seq ?_
    refine JC.seq ?_
    refine JC.region ?_
    refine JO.v (Yv.move rfl) (by decide) ?_
    refine JO.v (Yv.bin rfl rfl (BinR.geq_u64 (b := 65536#64))) (by decide) ?_
    refine JO.nil ?_
    refine JQ.then_normal ?_
    refine JC.cond rfl (fun hc2 => ?_) (fun hc2 => ?_)
    · try simp only [decide_eq_true_eq, decide_eq_false_iff_not, Bool.not_eq_true', Bool.not_eq_false', ne_eq, Decidable.not_not, Bool.not_eq_true, Bool.and_eq_true, Bool.or_eq_true, BitVec.reduceToNat] at hc2
      have e2 := len64_s16 hc2
      refine JC.seq ?_
      refine JC.region ?_
      refine JO.v (Yv.move rfl) (by decide) ?_
      refine JO.v (Yv.as (v' := u64 ((_ : BitVec 64) >>> (16 : Nat))) (Yv.bin rfl rfl (BinR.shr_u64_u64 (n := 16#64))) rfl) (by decide) ?_
      refine JO.v (Yv.assign rfl) (by decide) ?_
      refine JO.nil ?_
      refine JQ.then_normal ?_
      refine JC.region ?_
      refine JO.v (Yv.move rfl) (by decide) ?_
      refine JO.v (Yv.bin rfl rfl (BinR.add_i zqf)) (by decide) ?_
      refine JO.v (Yv.assign rfl) (by decide) ?_
      refine JO.nil ?_
      refine JQ.then_normal ?_
      refine JC.seq ?_
      refine JC.seq ?_
      refine JC.region ?_
      refine JO.v (Yv.move rfl) (by decide) ?_
      refine JO.v (Yv.bin rfl rfl (BinR.geq_u64 (b := 256#64))) (by decide) ?_
      refine JO.nil ?_
      refine JQ.then_normal ?_
      refine JC.cond rfl (fun hc3 => ?_) (fun hc3 => ?_)
      · try simp only [decide_eq_true_eq, decide_eq_false_iff_not, Bool.not_eq_true', Bool.not_eq_false', ne_eq, Decidable.not_not, Bool.not_eq_true, Bool.and_eq_true, Bool.or_eq_true, BitVec.reduceToNat] at hc3
        have e3 := len64_s8 hc3
        refine JC.seq ?_
        refine JC.region ?_
        refine JO.v (Yv.move rfl) (by decide) ?_
        refine JO.v (Yv.as (v' := u64 ((_ : BitVec 64) >>> (8 : Nat))) (Yv.bin rfl rfl (BinR.shr_u64_u64 (n := 8#64))) rfl) (by decide) ?_
        refine JO.v (Yv.assign rfl) (by decide) ?_
        refine JO.nil ?_
        refine JQ.then_normal ?_
        refine JC.region ?_
        refine JO.v (Yv.move rfl) (by decide) ?_
        refine JO.v (Yv.bin rfl rfl (BinR.add_i zqf)) (by decide) ?_
        refine JO.v (Yv.assign rfl) (by decide) ?_
        refine JO.nil ?_
        refine JQ.then_normal ?_
        refine JC.seq ?_
        refine JC.region ?_
        refine JO.v (Yv.move rfl) (by decide) ?_
        refine JO.v (Yv.move rfl) (by decide) ?_
        refine JO.v (Yv.conv_u64_u8 Tryz.underlying30 Tryz.underlying5 rfl) (by decide) ?_
        refine JO.v (Yv.as (v' := u8 (BitVec.ofNat 8 (bitlen _))) (Yv.indexStr Tryz.underlying9 rfl rfl (by exact (BitVec.isLt _))) (congrArg u8 (lenTab_get _ _))) (by decide) ?_
        refine JO.v (Yv.conv_u8_i Tryz.underlying5 Tryz.underlying3 rfl) (by decide) ?_
        refine JO.v (Yv.bin rfl rfl (BinR.add_i (fits8 _ (by omega)))) (by decide) ?_
        refine JO.v (Yv.assign rfl) (by decide) ?_
        refine JO.nil ?_
        refine JQ.then_normal ?_
        refine JC.ret ?_
        have hx := x.isLt
        have s32 := shr32 (x)
        have s16 := shr16 (x >>> 32)
        have s8 := shr8 (x >>> 32 >>> 16)
        have e4 := len8v (x >>> 32 >>> 16 >>> 8) (by omega)
        have e5 := len64_le x
        exact JQ.done (.inr rfl) (Γ' := []) (H' := []) (res1 rfl (RV.tmp rfl)) (Subs.sub zqe) (Picks.perm zqd) ⟨congrArg it (by omega), rfl, rfl⟩
      · try simp only [decide_eq_true_eq, decide_eq_false_iff_not, Bool.not_eq_true', Bool.not_eq_false', ne_eq, Decidable.not_not, Bool.not_eq_true, Bool.and_eq_true, Bool.or_eq_true, BitVec.reduceToNat] at hc3
        refine JC.skip ?_
        refine JQ.then_normal ?_
        refine JC.seq ?_
        refine JC.region ?_
        refine JO.v (Yv.move rfl) (by decide) ?_
        refine JO.v (Yv.move rfl) (by decide) ?_
        refine JO.v (Yv.conv_u64_u8 Tryz.underlying30 Tryz.underlying5 rfl) (by decide) ?_
        refine JO.v (Yv.as (v' := u8 (BitVec.ofNat 8 (bitlen _))) (Yv.indexStr Tryz.underlying9 rfl rfl (by exact (BitVec.isLt _))) (congrArg u8 (lenTab_get _ _))) (by decide) ?_
        refine JO.v (Yv.conv_u8_i Tryz.underlying5 Tryz.underlying3 rfl) (by decide) ?_
        refine JO.v (Yv.bin rfl rfl (BinR.add_i (fits8 _ (by omega)))) (by decide) ?_
        refine JO.v (Yv.assign rfl) (by decide) ?_
        refine JO.nil ?_
        refine JQ.then_normal ?_
        refine JC.ret ?_
        have hx := x.isLt
        have s32 := shr32 (x)
        have s16 := shr16 (x >>> 32)
        have e4 := len8v (x >>> 32 >>> 16) (by omega)
        have e5 := len64_le x
        exact JQ.done (.inr rfl) (Γ' := []) (H' := []) (res1 rfl (RV.tmp rfl)) (Subs.sub zqe) (Picks.perm zqd) ⟨congrArg it (by omega), rfl, rfl⟩
    · try simp only [decide_eq_true_eq, decide_eq_false_iff_not, Bool.not_eq_true', Bool.not_eq_false', ne_eq, Decidable.not_not, Bool.not_eq_true, Bool.and_eq_true, Bool.or_eq_true, BitVec.reduceToNat] at hc2
      refine JC.skip ?_
      refine JQ.then_normal ?_
      refine JC.seq ?_
      refine JC.seq ?_
      refine JC.region ?_
      refine JO.v (Yv.move rfl) (by decide) ?_
      refine JO.v (Yv.bin rfl rfl (BinR.geq_u64 (b := 256#64))) (by decide) ?_
      refine JO.nil ?_
      refine JQ.then_normal ?_
      refine JC.cond rfl (fun hc3 => ?_) (fun hc3 => ?_)
      · try simp only [decide_eq_true_eq, decide_eq_false_iff_not, Bool.not_eq_true', Bool.not_eq_false', ne_eq, Decidable.not_not, Bool.not_eq_true, Bool.and_eq_true, Bool.or_eq_true, BitVec.reduceToNat] at hc3
        have e3 := len64_s8 hc3
        refine JC.seq ?_
        refine JC.region ?_
        refine JO.v (Yv.move rfl) (by decide) ?_
        refine JO.v (Yv.as (v' := u64 ((_ : BitVec 64) >>> (8 : Nat))) (Yv.bin rfl rfl (BinR.shr_u64_u64 (n := 8#64))) rfl) (by decide) ?_
        refine JO.v (Yv.assign rfl) (by decide) ?_
        refine JO.nil ?_
        refine JQ.then_normal ?_
        refine JC.region ?_
        refine JO.v (Yv.move rfl) (by decide) ?_
        refine JO.v (Yv.bin rfl rfl (BinR.add_i zqf)) (by decide) ?_
        refine JO.v (Yv.assign rfl) (by decide) ?_
        refine JO.nil ?_
        refine JQ.then_normal ?_
        refine JC.seq ?_
        refine JC.region ?_
        refine JO.v (Yv.move rfl) (by decide) ?_
        refine JO.v (Yv.move rfl) (by decide) ?_
        refine JO.v (Yv.conv_u64_u8 Tryz.underlying30 Tryz.underlying5 rfl) (by decide) ?_
        refine JO.v (Yv.as (v' := u8 (BitVec.ofNat 8 (bitlen _))) (Yv.indexStr Tryz.underlying9 rfl rfl (by exact (BitVec.isLt _))) (congrArg u8 (lenTab_get _ _))) (by decide) ?_
        refine JO.v (Yv.conv_u8_i Tryz.underlying5 Tryz.underlying3 rfl) (by decide) ?_
        refine JO.v (Yv.bin rfl rfl (BinR.add_i (fits8 _ (by omega)))) (by decide) ?_
        refine JO.v (Yv.assign rfl) (by decide) ?_
        refine JO.nil ?_
        refine JQ.then_normal ?_
        refine JC.ret ?_
        have hx := x.isLt
        have s32 := shr32 (x)
        have s8 := shr8 (x >>> 32)
        have e4 := len8v (x >>> 32 >>> 8) (by omega)
        have e5 := len64_le x
        exact JQ.done (.inr rfl) (Γ' := []) (H' := []) (res1 rfl (RV.tmp rfl)) (Subs.sub zqe) (Picks.perm zqd) ⟨congrArg it (by omega), rfl, rfl⟩
      · try simp only [decide_eq_true_eq, decide_eq_false_iff_not, Bool.not_eq_true', Bool.not_eq_false', ne_eq, Decidable.not_not, Bool.not_eq_true, Bool.and_eq_true, Bool.or_eq_true, BitVec.reduceToNat] at hc3
        refine JC.skip ?_
        refine JQ.then_normal ?_
        refine JC.seq ?_
        refine JC.region ?_
        refine JO.v (Yv.move rfl) (by decide) ?_
        refine JO.v (Yv.move rfl) (by decide) ?_
        refine JO.v (Yv.conv_u64_u8 Tryz.underlying30 Tryz.underlying5 rfl) (by decide) ?_
        refine JO.v (Yv.as (v' := u8 (BitVec.ofNat 8 (bitlen _))) (Yv.indexStr Tryz.underlying9 rfl rfl (by exact (BitVec.isLt _))) (congrArg u8 (lenTab_get _ _))) (by decide) ?_
        refine JO.v (Yv.conv_u8_i Tryz.underlying5 Tryz.underlying3 rfl) (by decide) ?_
        refine JO.v (Yv.bin rfl rfl (BinR.add_i (fits8 _ (by omega)))) (by decide) ?_
        refine JO.v (Yv.assign rfl) (by decide) ?_
        refine JO.nil ?_
        refine JQ.then_normal ?_
        refine JC.ret ?_
        have hx := x.isLt
        have s32 := shr32 (x)
        have e4 := len8v (x >>> 32) (by omega)
        have e5 := len64_le x
        exact JQ.done (.inr rfl) (Γ' := []) (H' := []) (res1 rfl (RV.tmp rfl)) (Subs.sub zqe) (Picks.perm zqd) ⟨congrArg it (by omega), rfl, rfl⟩
  · try simp only [decide_eq_true_eq, decide_eq_false_iff_not, Bool.not_eq_true', Bool.not_eq_false', ne_eq, Decidable.not_not, Bool.not_eq_true, Bool.and_eq_true, Bool.or_eq_true, BitVec.reduceToNat] at hc1
    refine JC.skip ?_
    refine JQ.then_normal ?_
    refine JC.seq ?_
    refine JC.seq ?_
    refine JC.region ?_
    refine JO.v (Yv.move rfl) (by decide) ?_
    refine JO.v (Yv.bin rfl rfl (BinR.geq_u64 (b := 65536#64))) (by decide) ?_
    refine JO.nil ?_
    refine JQ.then_normal ?_
    refine JC.cond rfl (fun hc2 => ?_) (fun hc2 => ?_)
    · try simp only [decide_eq_true_eq, decide_eq_false_iff_not, Bool.not_eq_true', Bool.not_eq_false', ne_eq, Decidable.not_not, Bool.not_eq_true, Bool.and_eq_true, Bool.or_eq_true, BitVec.reduceToNat] at hc2
      have e2 := len64_s16 hc2
      refine JC.seq ?_
      refine JC.region ?_
      refine JO.v (Yv.move rfl) (by decide) ?_
      refine JO.v (Yv.as (v' := u64 ((_ : BitVec 64) >>> (16 : Nat))) (Yv.bin rfl rfl (BinR.shr_u64_u64 (n := 16#64))) rfl) (by decide) ?_
      refine JO.v (Yv.assign rfl) (by decide) ?_
      refine JO.nil ?_
      refine JQ.then_normal ?_
      refine JC.region ?_
      refine JO.v (Yv.move rfl) (by decide) ?_
      refine JO.v (Yv.bin rfl rfl (BinR.add_i zqf)) (by decide) ?_
      refine JO.v (Yv.assign rfl) (by decide) ?_
      refine JO.nil ?_
      refine JQ.then_normal ?_
      refine JC.seq ?_
      refine JC.seq ?_
      refine JC.region ?_
      refine JO.v (Yv.move rfl) (by decide) ?_
      refine JO.v (Yv.bin rfl rfl (BinR.geq_u64 (b := 256#64))) (by decide) ?_
      refine JO.nil ?_
      refine JQ.then_normal ?_
      refine JC.cond rfl (fun hc3 => ?_) (fun hc3 => ?_)
      · try simp only [decide_eq_true_eq, decide_eq_false_iff_not, Bool.not_eq_true', Bool.not_eq_false', ne_eq, Decidable.not_not, Bool.not_eq_true, Bool.and_eq_true, Bool.or_eq_true, BitVec.reduceToNat] at hc3
        have e3 := len64_s8 hc3
        refine JC.seq ?_
        refine JC.region ?_
        refine JO.v (Yv.move rfl) (by decide) ?_
        refine JO.v (Yv.as (v' := u64 ((_ : BitVec 64) >>> (8 : Nat))) (Yv.bin rfl rfl (BinR.shr_u64_u64 (n := 8#64))) rfl) (by decide) ?_
        refine JO.v (Yv.assign rfl) (by decide) ?_
        refine JO.nil ?_
        refine JQ.then_normal ?_
        refine JC.region ?_
        refine JO.v (Yv.move rfl) (by decide) ?_
        refine JO.v (Yv.bin rfl rfl (BinR.add_i zqf)) (by decide) ?_
        refine JO.v (Yv.assign rfl) (by decide) ?_
        refine JO.nil ?_
        refine JQ.then_normal ?_
        refine JC.seq ?_
        refine JC.region ?_
        refine JO.v (Yv.move rfl) (by decide) ?_
        refine JO.v (Yv.move rfl) (by decide) ?_
        refine JO.v (Yv.conv_u64_u8 Tryz.underlying30 Tryz.underlying5 rfl) (by decide) ?_
        refine JO.v (Yv.as (v' := u8 (BitVec.ofNat 8 (bitlen _))) (Yv.indexStr Tryz.underlying9 rfl rfl (by exact (BitVec.isLt _))) (congrArg u8 (lenTab_get _ _))) (by decide) ?_
        refine JO.v (Yv.conv_u8_i Tryz.underlying5 Tryz.underlying3 rfl) (by decide) ?_
        refine JO.v (Yv.bin rfl rfl (BinR.add_i (fits8 _ (by omega)))) (by decide) ?_
        refine JO.v (Yv.assign rfl) (by decide) ?_
        refine JO.nil ?_
        refine JQ.then_normal ?_
        refine JC.ret ?_
        have hx := x.isLt
        have s16 := shr16 (x)
        have s8 := shr8 (x >>> 16)
        have e4 := len8v (x >>> 16 >>> 8) (by omega)
        have e5 := len64_le x
        exact JQ.done (.inr rfl) (Γ' := []) (H' := []) (res1 rfl (RV.tmp rfl)) (Subs.sub zqe) (Picks.perm zqd) ⟨congrArg it (by omega), rfl, rfl⟩
      · try simp only [decide_eq_true_eq, decide_eq_false_iff_not, Bool.not_eq_true', Bool.not_eq_false', ne_eq, Decidable.not_not, Bool.not_eq_true, Bool.and_eq_true, Bool.or_eq_true, BitVec.reduceToNat] at hc3
        refine JC.skip ?_
        refine JQ.then_normal ?_
        refine JC.seq ?_
        refine JC.region ?_
        refine JO.v (Yv.move rfl) (by decide) ?_
        refine JO.v (Yv.move rfl) (by decide) ?_
        refine JO.v (Yv.conv_u64_u8 Tryz.underlying30 Tryz.underlying5 rfl) (by decide) ?_
        refine JO.v (Yv.as (v' := u8 (BitVec.ofNat 8 (bitlen _))) (Yv.indexStr Tryz.underlying9 rfl rfl (by exact (BitVec.isLt _))) (congrArg u8 (lenTab_get _ _))) (by decide) ?_
        refine JO.v (Yv.conv_u8_i Tryz.underlying5 Tryz.underlying3 rfl) (by decide) ?_
        refine JO.v (Yv.bin rfl rfl (BinR.add_i (fits8 _ (by omega)))) (by decide) ?_
        refine JO.v (Yv.assign rfl) (by decide) ?_
        refine JO.nil ?_
        refine JQ.then_normal ?_
        refine JC.ret ?_
        have hx := x.isLt
        have s16 := shr16 (x)
        have e4 := len8v (x >>> 16) (by omega)
        have e5 := len64_le x
        exact JQ.done (.inr rfl) (Γ' := []) (H' := []) (res1 rfl (RV.tmp rfl)) (Subs.sub zqe) (Picks.perm zqd) ⟨congrArg it (by omega), rfl, rfl⟩
    · try simp only [decide_eq_true_eq, decide_eq_false_iff_not, Bool.not_eq_true', Bool.not_eq_false', ne_eq, Decidable.not_not, Bool.not_eq_true, Bool.and_eq_true, Bool.or_eq_true, BitVec.reduceToNat] at hc2
      refine JC.skip ?_
      refine JQ.then_normal ?_
      refine JC.seq ?_
      refine JC.seq ?_
      refine JC.region ?_
      refine JO.v (Yv.move rfl) (by decide) ?_
      refine JO.v (Yv.bin rfl rfl (BinR.geq_u64 (b := 256#64))) (by decide) ?_
      refine JO.nil ?_
      refine JQ.then_normal ?_
      refine JC.cond rfl (fun hc3 => ?_) (fun hc3 => ?_)
      · try simp only [decide_eq_true_eq, decide_eq_false_iff_not, Bool.not_eq_true', Bool.not_eq_false', ne_eq, Decidable.not_not, Bool.not_eq_true, Bool.and_eq_true, Bool.or_eq_true, BitVec.reduceToNat] at hc3
        have e3 := len64_s8 hc3
        refine JC.seq ?_
        refine JC.region ?_
        refine JO.v (Yv.move rfl) (by decide) ?_
        refine JO.v (Yv.as (v' := u64 ((_ : BitVec 64) >>> (8 : Nat))) (Yv.bin rfl rfl (BinR.shr_u64_u64 (n := 8#64))) rfl) (by decide) ?_
        refine JO.v (Yv.assign rfl) (by decide) ?_
        refine JO.nil ?_
        refine JQ.then_normal ?_
        refine JC.region ?_
        refine JO.v (Yv.move rfl) (by decide) ?_
        refine JO.v (Yv.bin rfl rfl (BinR.add_i zqf)) (by decide) ?_
        refine JO.v (Yv.assign rfl) (by decide) ?_
        refine JO.nil ?_
        refine JQ.then_normal ?_
        refine JC.seq ?_
        refine JC.region ?_
        refine JO.v (Yv.move rfl) (by decide) ?_
        refine JO.v (Yv.move rfl) (by decide) ?_
        refine JO.v (Yv.conv_u64_u8 Tryz.underlying30 Tryz.underlying5 rfl) (by decide) ?_
        refine JO.v (Yv.as (v' := u8 (BitVec.ofNat 8 (bitlen _))) (Yv.indexStr Tryz.underlying9 rfl rfl (by exact (BitVec.isLt _))) (congrArg u8 (lenTab_get _ _))) (by decide) ?_
        refine JO.v (Yv.conv_u8_i Tryz.underlying5 Tryz.underlying3 rfl) (by decide) ?_
        refine JO.v (Yv.bin rfl rfl (BinR.add_i (fits8 _ (by omega)))) (by decide) ?_
        refine JO.v (Yv.assign rfl) (by decide) ?_
        refine JO.nil ?_
        refine JQ.then_normal ?_
        refine JC.ret ?_
        have hx := x.isLt
        have s8 := shr8 (x)
        have e4 := len8v (x >>> 8) (by omega)
        have e5 := len64_le x
        exact JQ.done (.inr rfl) (Γ' := []) (H' := []) (res1 rfl (RV.tmp rfl)) (Subs.sub zqe) (Picks.perm zqd) ⟨congrArg it (by omega), rfl, rfl⟩
      · try simp only [decide_eq_true_eq, decide_eq_false_iff_not, Bool.not_eq_true', Bool.not_eq_false', ne_eq, Decidable.not_not, Bool.not_eq_true, Bool.and_eq_true, Bool.or_eq_true, BitVec.reduceToNat] at hc3
        refine JC.skip ?_
        refine JQ.then_normal ?_
        refine JC.seq ?_
        refine JC.region ?_
        refine JO.v (Yv.move rfl) (by decide) ?_
        refine JO.v (Yv.move rfl) (by decide) ?_
        refine JO.v (Yv.conv_u64_u8 Tryz.underlying30 Tryz.underlying5 rfl) (by decide) ?_
        refine JO.v (Yv.as (v' := u8 (BitVec.ofNat 8 (bitlen _))) (Yv.indexStr Tryz.underlying9 rfl rfl (by exact (BitVec.isLt _))) (congrArg u8 (lenTab_get _ _))) (by decide) ?_
        refine JO.v (Yv.conv_u8_i Tryz.underlying5 Tryz.underlying3 rfl) (by decide) ?_
        refine JO.v (Yv.bin rfl rfl (BinR.add_i (fits8 _ (by omega)))) (by decide) ?_
        refine JO.v (Yv.assign rfl) (by decide) ?_
        refine JO.nil ?_
        refine JQ.then_normal ?_
        refine JC.ret ?_
        have hx := x.isLt
        have e4 := len8v (x) (by omega)
        have e5 := len64_le x
        exact JQ.done (.inr rfl) (Γ' := []) (H' := []) (res1 rfl (RV.tmp rfl)) (Subs.sub zqe) (Picks.perm zqd) ⟨congrArg it (by omega), rfl, rfl⟩


theorem f39_spec (n : BitVec 64) :
    Spec Tryz.prog 39 #[u64 n] [] []
      (fun v Γ' H' => True ∧ Γ' = [] ∧ H' = [Res.row v (smallB n).length 5 1 ((smallB n).map u8)]) := by
  refine Spec.of_args Tryz.func39 rfl Tryz.ntmps39 (by simp) fun w => ?_
  refine JC.seq ?_
  refine JC.region ?_
  refine JO.v (Yv.assign rfl) (by decide) ?_
  refine JO.nil ?_
  refine JQ.then_normal ?_
  refine JC.seq ?_
  refine JC.region ?_
  refine JO.nilRow 5 1 ?_
  refine JO.v (Yv.assign rfl) (by decide) ?_
  refine JO.nil ?_
  refine JQ.then_normal ?_
  refine JC.seq ?_
  refine JC.block ?_
  refine JC.loop (ι := Nat × Value) (fun x => x.1 ≤ 8 ∧ (x.1 = 0 ∨ n >>> (8 * (x.1 - 1)) ≠ 0)) (fun x => [(0, u64 (n >>> (8 * x.1))), (3, x.2)]) (fun x => []) (fun x => [Res.row x.2 x.1 5 1 ((digs n x.1).map u8)]) (fun x => 8 - x.1) (0, _) (by repeat (first | exact trivial | refine ⟨by first | rfl | (simp; done), ?_⟩)) (Subs.sub zqe) (Picks.perm zqd) ?_ (fun x hx => ?_)
  · exact ⟨by decide, .inl rfl⟩
  obtain ⟨k, v⟩ := x
  obtain ⟨hk8, hk⟩ := hx
  dsimp only at hk8 hk ⊢
  refine JC.seq ?_
  refine JC.seq ?_
  refine JC.region ?_
  refine JO.v (Yv.move rfl) (by decide) ?_
  refine JO.v (Yv.bin rfl rfl (BinR.gtr_u64 (b := 0#64))) (by decide) ?_
  refine JO.nil ?_
  refine JQ.then_normal ?_
  refine JC.cond rfl (fun hc1 => ?_) (fun hc1 => ?_)
  · try simp only [decide_eq_true_eq, decide_eq_false_iff_not, Bool.not_eq_true', Bool.not_eq_false', ne_eq, Decidable.not_not, Bool.not_eq_true, Bool.and_eq_true, Bool.or_eq_true, BitVec.reduceToNat] at hc1
    have hne : n >>> (8 * k) ≠ 0 := fun h => by rw [h] at hc1; exact absurd hc1 (by decide)
    have hlt := shr_big n k hne
    refine JC.skip ?_
    refine JQ.then_normal ?_
    refine JC.block ?_
    refine JC.seq ?_
    refine JC.region ?_
    refine JO.v (Yv.move rfl) (by decide) ?_
    refine JO.v (Yv.bin rfl rfl (BinR.rem_u64 (b := 256#64) (by decide))) (by decide) ?_
    refine JO.v (Yv.as (v' := u8 ((n >>> (8 * k)).setWidth 8)) (Yv.conv_u64_u8 Tryz.underlying30 Tryz.underlying5 rfl) (putD n k)) (by decide) ?_
    refine JO.lit1 Tryz.underlying23 info_5 rfl rfl (by simp) (by decide) (by decide) (by decide) fun v9 => ?_
    refine JO.v (Yv.move rfl) (by decide) ?_
    refine JO.append Tryz.underlying23 info_5 rfl (by decide) rfl rfl (by repeat (first | exact Pull.here _ _ | apply Pull.there)) (by first | exact Src.nil | exact Src.rd zqc (by decide) | exact Src.cells zqa (by simp)) (by first | (simp; done) | exact one_sing rfl | exact one_map (fun _ => rfl) | exact one_piece (one_map (fun _ => rfl)) | exact one_tab (fun _ => rfl) | exact one_tab (fun _ => by split <;> rfl)) (by unfold maxLen; omega) (by omega) (by decide) fun v11 => ?_
    refine JO.v (Yv.assign rfl) (by decide) ?_
    refine JO.nil ?_
    refine JQ.then_normal ?_
    refine JC.region ?_
    refine JO.v (Yv.move rfl) (by decide) ?_
    refine JO.v (Yv.bin rfl rfl (BinR.quo_u64 (b := 256#64) (by decide))) (by decide) ?_
    refine JO.v (Yv.assign rfl) (by decide) ?_
    refine JO.nil ?_
    refine JQ.block_normal ?_
    rw [digs_cons, shr_quo, Nat.add_comm 1 k]
    refine JQ.head (k + 1, _) (by repeat (first | exact trivial | refine ⟨by first | rfl | (simp; done), ?_⟩)) (Subs.sub zqe) (Picks.perm zqd) ?_
    exact ⟨⟨by dsimp only; omega, .inr hne⟩, by dsimp only; omega⟩
  · try simp only [decide_eq_true_eq, decide_eq_false_iff_not, Bool.not_eq_true', Bool.not_eq_false', ne_eq, Decidable.not_not, Bool.not_eq_true, Bool.and_eq_true, Bool.or_eq_true, BitVec.reduceToNat] at hc1
    obtain rfl : nsz n = k := nsz_of (BitVec.eq_of_toNat_eq (by simpa using hc1)) hk
    refine JC.exit ?_
    refine JQ.then_exit ?_
    refine JQ.then_exit ?_
    refine JQ.block_exit ?_
    refine JQ.then_normal ?_
    refine JC.seq ?_
    refine JC.region ?_
    refine JO.v (Yv.move rfl) (by decide) ?_
    first | refine JO.v (Yv.len_s Tryz.underlying23 rfl) (by decide) ?_ | refine JO.v (Yv.lenRd Tryz.underlying23 rfl zqc) (by decide) ?_
    refine JO.v (Yv.as (v' := u8 (BitVec.ofNat 8 (nsz n))) (Yv.conv_i_u8 Tryz.underlying3 Tryz.underlying5 rfl) (congrArg u8 (by simp))) (by decide) ?_
    refine JO.lit1 Tryz.underlying23 info_5 rfl rfl (by simp) (by decide) (by decide) (by decide) fun v17 => ?_
    refine JO.v (Yv.move rfl) (by decide) ?_
    refine JO.append Tryz.underlying23 info_5 rfl (by decide) rfl rfl (by repeat (first | exact Pull.here _ _ | apply Pull.there)) (by first | exact Src.nil | exact Src.rd zqc (by decide) | exact Src.cells zqa (by simp)) (by first | (simp; done) | exact one_sing rfl | exact one_map (fun _ => rfl) | exact one_piece (one_map (fun _ => rfl)) | exact one_tab (fun _ => rfl) | exact one_tab (fun _ => by split <;> rfl)) (by unfold maxLen; omega) (by omega) (by decide) fun v19 => ?_
    refine JO.v (Yv.assign rfl) (by decide) ?_
    refine JO.nil ?_
    refine JQ.then_normal ?_
    refine JC.ret ?_
    exact JQ.done (.inr rfl) (Γ' := []) (H' := [Res.row _ (1 + nsz n) 5 1 ([_] ++ _)]) (res1 rfl (RV.tmp rfl)) (Subs.sub zqe) (Picks.perm zqd) ⟨trivial, rfl, by rw [smallB_length, Nat.add_comm]; rfl⟩


theorem f40_spec (v : Value) (b : B8) (hn : b.length ≤ 1000000000) :
    Spec Tryz.prog 40 #[v] [Res.rd v b.length 1 (b.map u8)] []
      (fun r Γ' H' => True ∧ Γ' = [] ∧ H' = [Res.row r (bytesB b).length 5 1 ((bytesB b).map u8)]) := by
  refine Spec.of_args Tryz.func40 rfl Tryz.ntmps40 (by simp) fun w => ?_
  refine JC.seq ?_
  refine JC.region ?_
  refine JO.v (Yv.assign rfl) (by decide) ?_
  refine JO.nil ?_
  refine JQ.then_normal ?_
  refine JC.seq ?_
  refine JC.region ?_
  refine JO.v (Yv.move rfl) (by decide) ?_
  first | refine JO.v (Yv.len_s Tryz.underlying23 rfl) (by decide) ?_ | refine JO.v (Yv.lenRd Tryz.underlying23 rfl zqc) (by decide) ?_
  refine JO.v (Yv.as (v' := u64 (BitVec.ofNat 64 b.length)) (Yv.conv_i_u64 Tryz.underlying3 Tryz.underlying30 rfl) (congrArg u64 (by simp))) (by decide) ?_
  refine JO.callB (f39_spec (BitVec.ofNat 64 b.length)) body_39 rfl zqd (by repeat (first | exact Lends.nil _ | apply Lends.cons | exact Lend.same _ _ | exact Lend.row _ _ _ _ _ _ (by decide) | apply Lend.there)) (by rintro _ _ _ ⟨_, h, _⟩; exact h) (by decide) ?_
  rintro v6 _ ⟨_, ⟨_, _, rfl⟩, hH⟩
  simp only [List.cons_append, List.nil_append] at hH; subst hH
  have hs := smallB_le (BitVec.ofNat 64 b.length)
  refine JO.v (Yv.move rfl) (by decide) ?_
  refine JO.append Tryz.underlying23 info_5 rfl (by decide) rfl rfl (by repeat (first | exact Pull.here _ _ | apply Pull.there)) (by first | exact Src.nil | exact Src.rd zqc (by decide) | exact Src.cells zqa (by simp)) (by first | (simp; done) | exact one_sing rfl | exact one_map (fun _ => rfl) | exact one_piece (one_map (fun _ => rfl)) | exact one_tab (fun _ => rfl) | exact one_tab (fun _ => by split <;> rfl)) (by unfold maxLen; omega) (by omega) (by decide) fun v8 => ?_
  refine JO.v (Yv.assign rfl) (by decide) ?_
  refine JO.nil ?_
  refine JQ.then_normal ?_
  refine JC.ret ?_
  exact JQ.done (.inr rfl) (Γ' := []) (H' := [Res.row _ ((smallB (BitVec.ofNat 64 b.length)).length + b.length) 5 1 (_ ++ _)]) (res1 rfl (RV.tmp rfl)) (Subs.sub zqe) (Picks.perm zqd) ⟨trivial, rfl, by rw [bytesB, List.length_append, List.map_append]⟩


theorem f41_spec (v : Value) (b : B8) :
    Spec Tryz.prog 41 #[v] [Res.rd v b.length 1 (b.map u8)] []
      (fun o Γ' H' => ∃ p, o = ptr p 0 ∧ Γ' = [] ∧ H' = [Res.cells p [v, it 0] 117]) := by
  refine Spec.know (φ := ∃ A c, v = .slice A b.length c) (fun w hs => by obtain ⟨A, c, h, _⟩ := hs.rdForm (.head _); exact ⟨A, c, h⟩) ?_
  rintro ⟨A, c, rfl⟩
  refine Spec.of_args Tryz.func41 rfl Tryz.ntmps41 (by simp) fun w => ?_
  refine JC.seq ?_
  refine JC.region ?_
  refine JO.v (Yv.assign rfl) (by decide) ?_
  refine JO.nil ?_
  refine JQ.then_normal ?_
  refine JC.seq ?_
  refine JC.region ?_
  refine JO.v (Yv.move rfl) (by decide) ?_
  refine JO.v (Yv.build bld_117 rfl rfl) (by decide) ?_
  refine JO.box rfl _ rfl (by decide) fun b5 => ?_
  refine JO.v (Yv.assign rfl) (by decide) ?_
  refine JO.nil ?_
  refine JQ.then_normal ?_
  refine JC.ret ?_
  exact JQ.done (.inr rfl) (Γ' := []) (H' := [Res.cells _ _ 117]) (res1 rfl (RV.tmp rfl)) (Subs.sub zqe) (Picks.perm zqd) ⟨_, rfl, rfl, rfl⟩


theorem f64_spec (p : Nat) (v : Value) (r : Rdr) (e : Int) :
    Spec Tryz.prog 64 #[(ptr p 0), it e] [Res.rd v r.b.length 1 (r.b.map u8)] [Res.cells p [v, it r.e] 117]
      (fun o Γ' H' => ∃ v', o = .tuple #[] ∧ Γ' = [Res.rd v' (r.wrong e).b.length 1 ((r.wrong e).b.map u8)] ∧ H' = [Res.cells p [v', it (r.wrong e).e] 117]) := by
  refine Spec.of_args Tryz.func64 rfl Tryz.ntmps64 (by simp) fun w => ?_
  refine JC.seq ?_
  refine JC.region ?_
  refine JO.v (Yv.move rfl) (by decide) ?_
  refine JO.v (Yv.nilCheck rfl) (by decide) ?_
  refine JO.v (Yv.fieldAddr fa_117_1 rfl) (by decide) ?_
  refine JO.v (Yv.load1 one_26 rfl (by first | exact Kn.own zqa (by first  | rfl | exact tab_get zqg | exact gm (d := 0) zqg) | exact Kn.ro zqa (by first  | rfl | exact tab_get zqg | exact gm (d := 0) zqg) | exact Kn.row zqa (by first  | rfl | exact tab_get zqg | exact gm (d := 0) zqg) | exact Kn.rd zqc (by first  | rfl | exact tab_get zqg | exact gm (d := 0) zqg) | exact Kn.rd2 zqc (by first  | rfl | exact tab_get zqg | exact gm (d := 0) zqg))) (by decide) ?_
  refine JO.v (Yv.bin rfl rfl BinR.eql_i) (by decide) ?_
  refine JO.nil ?_
  refine JQ.then_normal ?_
  refine JC.cond rfl (fun hc1 => ?_) (fun hc1 => ?_)
  · try simp only [decide_eq_true_eq, decide_eq_false_iff_not, Bool.not_eq_true', Bool.not_eq_false', ne_eq, Decidable.not_not, Bool.not_eq_true, Bool.and_eq_true, Bool.or_eq_true, BitVec.reduceToNat] at hc1
    have hw : r.wrong e = ⟨[], e⟩ := if_pos hc1
    refine JC.nilRd 1 ?_
    refine JC.region ?_
    refine JO.v (Yv.move rfl) (by decide) ?_
    refine JO.v (Yv.move rfl) (by decide) ?_
    refine JO.v (Yv.move rfl) (by decide) ?_
    refine JO.v (Yv.nilCheck rfl) (by decide) ?_
    refine JO.v (Yv.fieldAddr fa_117_0 rfl) (by decide) ?_
    first | refine JO.store1 sz_23 rfl rfl rfl (by repeat (first | exact Upd.here _ _ _ | apply Upd.there)) zqb ?_ | refine JO.store1s sz_23 rfl rfl zqc (by repeat (first | exact Upd.here _ _ _ | apply Upd.there)) zqb ?_ | refine JO.storeRow1 sz_23 rfl rfl rfl (by repeat (first | exact Upd.here _ _ _ | apply Upd.there)) zqb (by first | rfl | (simp; done) | omega | (simp; omega)) ?_
    refine JO.v (Yv.nilCheck rfl) (by decide) ?_
    refine JO.v (Yv.fieldAddr fa_117_1 rfl) (by decide) ?_
    first | refine JO.store1 sz_26 rfl rfl rfl (by repeat (first | exact Upd.here _ _ _ | apply Upd.there)) zqb ?_ | refine JO.storeRow1 sz_26 rfl rfl rfl (by repeat (first | exact Upd.here _ _ _ | apply Upd.there)) zqb (by first | rfl | (simp; done) | omega | (simp; omega)) ?_
    refine JO.nil ?_
    exact JQ.done (.inl rfl) (Γ' := [Res.rd (.slice none 0 0) 0 1 []]) (H' := [Res.cells p [.slice none 0 0, it e] 117]) (res_none rfl) (Subs.sub zqe) (Picks.perm zqd) ⟨_, rfl, by rw [hw] <;> rfl, by rw [hw] <;> rfl⟩
  · try simp only [decide_eq_true_eq, decide_eq_false_iff_not, Bool.not_eq_true', Bool.not_eq_false', ne_eq, Decidable.not_not, Bool.not_eq_true, Bool.and_eq_true, Bool.or_eq_true, BitVec.reduceToNat] at hc1
    have hw : r.wrong e = r := if_neg hc1
    refine JC.skip ?_
    exact JQ.done (.inl rfl) (Γ' := [Res.rd v r.b.length 1 (r.b.map u8)]) (H' := [Res.cells p [v, it r.e] 117]) (res_none rfl) (Subs.sub zqe) (Picks.perm zqd) ⟨_, rfl, by rw [hw] <;> rfl, by rw [hw] <;> rfl⟩


theorem f62_spec (p : Nat) (v : Value) (r : Rdr) (n : BitVec 64) :
    Spec Tryz.prog 62 #[(ptr p 0), u64 n] [Res.rd v r.b.length 1 (r.b.map u8)] [Res.cells p [v, it r.e] 117]
      (fun o Γ' H' => ∃ v', True ∧ Γ' = [Res.rd o (r.out n.toNat).length 1 ((r.out n.toNat).map u8), Res.rd v' (r.aft n.toNat).b.length 1 ((r.aft n.toNat).b.map u8)] ∧ H' = [Res.cells p [v', it (r.aft n.toNat).e] 117]) := by
  refine Spec.of_args Tryz.func62 rfl Tryz.ntmps62 (by simp) fun w => ?_
  refine JC.know (φ := r.b.length < 18446744073709551616) (fun w hs => by obtain ⟨_, _, _, _, _, _, h⟩ := hs.rdForm (.head _); unfold maxLen at h; omega) fun hb => ?_
  refine JC.seq ?_
  refine JC.region ?_
  refine JO.v (Yv.assign rfl) (by decide) ?_
  refine JO.nil ?_
  refine JQ.then_normal ?_
  refine JC.seq ?_
  refine JC.seq ?_
  refine JC.region ?_
  refine JO.v (Yv.move rfl) (by decide) ?_
  refine JO.v (Yv.move rfl) (by decide) ?_
  refine JO.v (Yv.nilCheck rfl) (by decide) ?_
  refine JO.v (Yv.fieldAddr fa_117_0 rfl) (by decide) ?_
  refine JO.v (Yv.load1 one_23 rfl (by first | exact Kn.own zqa (by first  | rfl | exact tab_get zqg | exact gm (d := 0) zqg) | exact Kn.ro zqa (by first  | rfl | exact tab_get zqg | exact gm (d := 0) zqg) | exact Kn.row zqa (by first  | rfl | exact tab_get zqg | exact gm (d := 0) zqg) | exact Kn.rd zqc (by first  | rfl | exact tab_get zqg | exact gm (d := 0) zqg) | exact Kn.rd2 zqc (by first  | rfl | exact tab_get zqg | exact gm (d := 0) zqg))) (by decide) ?_
  first | refine JO.v (Yv.len_s Tryz.underlying23 rfl) (by decide) ?_ | refine JO.v (Yv.lenRd Tryz.underlying23 rfl zqc) (by decide) ?_
  refine JO.v (Yv.as (v' := u64 (BitVec.ofNat 64 r.b.length)) (Yv.conv_i_u64 Tryz.underlying3 Tryz.underlying30 rfl) (congrArg u64 (by simp))) (by decide) ?_
  refine JO.v (Yv.bin rfl rfl (BinR.gtr_u64)) (by decide) ?_
  refine JO.nil ?_
  refine JQ.then_normal ?_
  refine JC.cond rfl (fun hc1 => ?_) (fun hc1 => ?_)
  · try simp only [decide_eq_true_eq, decide_eq_false_iff_not, Bool.not_eq_true', Bool.not_eq_false', ne_eq, Decidable.not_not, Bool.not_eq_true, Bool.and_eq_true, Bool.or_eq_true, BitVec.reduceToNat] at hc1
    rw [BitVec.toNat_ofNat, Nat.mod_eq_of_lt hb] at hc1
    have hk := Rdr.chk_lt hc1
    refine JC.region ?_
    refine JO.v (Yv.move rfl) (by decide) ?_
    refine JO.call (f64_spec p v r 3) body_64 rfl zqd zqe (by decide) ?_
    rintro _ _ _ ⟨_, _, ⟨v1, rfl, rfl, rfl⟩, hΓ, hH⟩
    simp only [List.cons_append, List.nil_append] at hΓ hH; subst hΓ hH
    rw [← hk]
    refine JO.nil ?_
    refine JQ.then_normal ?_
    refine JC.seq ?_
    refine JC.seq ?_
    refine JC.region ?_
    refine JO.v (Yv.move rfl) (by decide) ?_
    refine JO.v (Yv.nilCheck rfl) (by decide) ?_
    refine JO.v (Yv.fieldAddr fa_117_1 rfl) (by decide) ?_
    refine JO.v (Yv.load1 one_26 rfl (by first | exact Kn.own zqa (by first  | rfl | exact tab_get zqg | exact gm (d := 0) zqg) | exact Kn.ro zqa (by first  | rfl | exact tab_get zqg | exact gm (d := 0) zqg) | exact Kn.row zqa (by first  | rfl | exact tab_get zqg | exact gm (d := 0) zqg) | exact Kn.rd zqc (by first  | rfl | exact tab_get zqg | exact gm (d := 0) zqg) | exact Kn.rd2 zqc (by first  | rfl | exact tab_get zqg | exact gm (d := 0) zqg))) (by decide) ?_
    refine JO.v (Yv.bin rfl rfl BinR.neq_i) (by decide) ?_
    refine JO.nil ?_
    refine JQ.then_normal ?_
    refine JC.cond rfl (fun hc2 => ?_) (fun hc2 => ?_)
    · try simp only [decide_eq_true_eq, decide_eq_false_iff_not, Bool.not_eq_true', Bool.not_eq_false', ne_eq, Decidable.not_not, Bool.not_eq_true, Bool.and_eq_true, Bool.or_eq_true, BitVec.reduceToNat] at hc2
      have h1 : (r.chk n.toNat).e ≠ 0 := by first | exact hc2 | (rw [hk]; exact hc2)
      refine JC.nilRd 1 ?_
      refine JC.seq ?_
      refine JC.region ?_
      refine JO.v (Yv.assign rfl) (by decide) ?_
      refine JO.nil ?_
      refine JQ.then_normal ?_
      refine JC.ret ?_
      refine JQ.then_ret ?_
      exact JQ.done (.inr rfl) (Γ' := [Res.rd (.slice none 0 0) 0 1 [], Res.rd _ (r.chk n.toNat).b.length 1 ((r.chk n.toNat).b.map u8)]) (H' := [Res.cells p [_, it (r.chk n.toNat).e] 117]) (res1 rfl (RV.tmp rfl)) (Subs.sub zqe) (Picks.perm zqd) ⟨_, trivial, by rw [Rdr.out_bad h1, Rdr.aft_bad h1] <;> rfl, by rw [Rdr.aft_bad h1]⟩
    · try simp only [decide_eq_true_eq, decide_eq_false_iff_not, Bool.not_eq_true', Bool.not_eq_false', ne_eq, Decidable.not_not, Bool.not_eq_true, Bool.and_eq_true, Bool.or_eq_true, BitVec.reduceToNat] at hc2
      have h0 : (r.chk n.toNat).e = 0 := by first | exact hc2 | (rw [hk]; exact hc2)
      obtain ⟨hge, hre⟩ := Rdr.chk_ok h0
      have hk2 := Rdr.chk_ge (r := r) hge
      try rw [hk2]
      refine JC.skip ?_
      refine JQ.then_normal ?_
      refine JC.seq ?_
      refine JC.region ?_
      refine JO.v (Yv.move rfl) (by decide) ?_
      refine JO.v (Yv.nilCheck rfl) (by decide) ?_
      refine JO.v (Yv.fieldAddr fa_117_0 rfl) (by decide) ?_
      refine JO.v (Yv.load1 one_23 rfl (by first | exact Kn.own zqa (by first  | rfl | exact tab_get zqg | exact gm (d := 0) zqg) | exact Kn.ro zqa (by first  | rfl | exact tab_get zqg | exact gm (d := 0) zqg) | exact Kn.row zqa (by first  | rfl | exact tab_get zqg | exact gm (d := 0) zqg) | exact Kn.rd zqc (by first  | rfl | exact tab_get zqg | exact gm (d := 0) zqg) | exact Kn.rd2 zqc (by first  | rfl | exact tab_get zqg | exact gm (d := 0) zqg))) (by decide) ?_
      refine JO.v (Yv.move rfl) (by decide) ?_
      refine JO.cut (0) (n.toNat) Tryz.underlying23 sz_5 rfl zqa rfl ⟨_, rfl⟩ (by first | (simp; done) | omega | (simp; omega)) (by first | (simp; done) | omega | (simp; omega)) (by decide) fun v26 => ?_
      refine JO.v (Yv.assign rfl) (by decide) ?_
      refine JO.nil ?_
      refine JQ.then_normal ?_
      refine JC.seq ?_
      refine JC.region ?_
      refine JO.v (Yv.move rfl) (by decide) ?_
      refine JO.v (Yv.move rfl) (by decide) ?_
      refine JO.v (Yv.nilCheck rfl) (by decide) ?_
      refine JO.v (Yv.fieldAddr fa_117_0 rfl) (by decide) ?_
      refine JO.v (Yv.load1 one_23 rfl (by first | exact Kn.own zqa (by first  | rfl | exact tab_get zqg | exact gm (d := 0) zqg) | exact Kn.ro zqa (by first  | rfl | exact tab_get zqg | exact gm (d := 0) zqg) | exact Kn.row zqa (by first  | rfl | exact tab_get zqg | exact gm (d := 0) zqg) | exact Kn.rd zqc (by first  | rfl | exact tab_get zqg | exact gm (d := 0) zqg) | exact Kn.rd2 zqc (by first  | rfl | exact tab_get zqg | exact gm (d := 0) zqg))) (by decide) ?_
      refine JO.v (Yv.move rfl) (by decide) ?_
      refine JO.cut (n.toNat) (r.b.length) Tryz.underlying23 sz_5 rfl zqa ⟨_, rfl⟩ rfl (by first | (simp; done) | omega | (simp; omega)) (by first | (simp; done) | omega | (simp; omega)) (by decide) fun v33 => ?_
      refine JO.v (Yv.nilCheck rfl) (by decide) ?_
      refine JO.v (Yv.fieldAddr fa_117_0 rfl) (by decide) ?_
      first | refine JO.store1 sz_23 rfl rfl rfl (by repeat (first | exact Upd.here _ _ _ | apply Upd.there)) zqb ?_ | refine JO.store1s sz_23 rfl rfl zqc (by repeat (first | exact Upd.here _ _ _ | apply Upd.there)) zqb ?_ | refine JO.storeRow1 sz_23 rfl rfl rfl (by repeat (first | exact Upd.here _ _ _ | apply Upd.there)) zqb (by first | rfl | (simp; done) | omega | (simp; omega)) ?_
      refine JO.nil ?_
      refine JQ.then_normal ?_
      refine JC.seq ?_
      refine JC.region ?_
      refine JO.v (Yv.move rfl) (by decide) ?_
      refine JO.v (Yv.assign rfl) (by decide) ?_
      refine JO.nil ?_
      refine JQ.then_normal ?_
      refine JC.ret ?_
      rw [rd_take hge, rd_drop]
      exact JQ.done (.inr rfl) (Γ' := [Res.rd _ (r.b.take n.toNat).length 1 ((r.b.take n.toNat).map u8), Res.rd _ (r.b.drop n.toNat).length 1 ((r.b.drop n.toNat).map u8)]) (H' := [Res.cells p [_, it r.e] 117]) (res1 rfl (RV.tmp rfl)) (Subs.sub zqe) (Picks.perm zqd) ⟨_, trivial, by rw [Rdr.out_ok hge hre, Rdr.aft_ok hge hre], by rw [Rdr.aft_ok hge hre, hre]⟩
  · try simp only [decide_eq_true_eq, decide_eq_false_iff_not, Bool.not_eq_true', Bool.not_eq_false', ne_eq, Decidable.not_not, Bool.not_eq_true, Bool.and_eq_true, Bool.or_eq_true, BitVec.reduceToNat] at hc1
    rw [BitVec.toNat_ofNat, Nat.mod_eq_of_lt hb] at hc1
    have hk := Rdr.chk_ge (r := r) hc1
    refine JC.skip ?_
    refine JQ.then_normal ?_
    refine JC.seq ?_
    refine JC.seq ?_
    refine JC.region ?_
    refine JO.v (Yv.move rfl) (by decide) ?_
    refine JO.v (Yv.nilCheck rfl) (by decide) ?_
    refine JO.v (Yv.fieldAddr fa_117_1 rfl) (by decide) ?_
    refine JO.v (Yv.load1 one_26 rfl (by first | exact Kn.own zqa (by first  | rfl | exact tab_get zqg | exact gm (d := 0) zqg) | exact Kn.ro zqa (by first  | rfl | exact tab_get zqg | exact gm (d := 0) zqg) | exact Kn.row zqa (by first  | rfl | exact tab_get zqg | exact gm (d := 0) zqg) | exact Kn.rd zqc (by first  | rfl | exact tab_get zqg | exact gm (d := 0) zqg) | exact Kn.rd2 zqc (by first  | rfl | exact tab_get zqg | exact gm (d := 0) zqg))) (by decide) ?_
    refine JO.v (Yv.bin rfl rfl BinR.neq_i) (by decide) ?_
    refine JO.nil ?_
    refine JQ.then_normal ?_
    refine JC.cond rfl (fun hc2 => ?_) (fun hc2 => ?_)
    · try simp only [decide_eq_true_eq, decide_eq_false_iff_not, Bool.not_eq_true', Bool.not_eq_false', ne_eq, Decidable.not_not, Bool.not_eq_true, Bool.and_eq_true, Bool.or_eq_true, BitVec.reduceToNat] at hc2
      have h1 : (r.chk n.toNat).e ≠ 0 := by first | exact hc2 | (rw [hk]; exact hc2)
      refine JC.nilRd 1 ?_
      refine JC.seq ?_
      refine JC.region ?_
      refine JO.v (Yv.assign rfl) (by decide) ?_
      refine JO.nil ?_
      refine JQ.then_normal ?_
      refine JC.ret ?_
      refine JQ.then_ret ?_
      exact JQ.done (.inr rfl) (Γ' := [Res.rd (.slice none 0 0) 0 1 [], Res.rd _ r.b.length 1 (r.b.map u8)]) (H' := [Res.cells p [_, it r.e] 117]) (res1 rfl (RV.tmp rfl)) (Subs.sub zqe) (Picks.perm zqd) ⟨_, trivial, by rw [Rdr.out_bad h1, Rdr.aft_bad h1, hk] <;> rfl, by rw [Rdr.aft_bad h1, hk]⟩
    · try simp only [decide_eq_true_eq, decide_eq_false_iff_not, Bool.not_eq_true', Bool.not_eq_false', ne_eq, Decidable.not_not, Bool.not_eq_true, Bool.and_eq_true, Bool.or_eq_true, BitVec.reduceToNat] at hc2
      have h0 : (r.chk n.toNat).e = 0 := by first | exact hc2 | (rw [hk]; exact hc2)
      obtain ⟨hge, hre⟩ := Rdr.chk_ok h0
      have hk2 := Rdr.chk_ge (r := r) hge
      try rw [hk2]
      refine JC.skip ?_
      refine JQ.then_normal ?_
      refine JC.seq ?_
      refine JC.region ?_
      refine JO.v (Yv.move rfl) (by decide) ?_
      refine JO.v (Yv.nilCheck rfl) (by decide) ?_
      refine JO.v (Yv.fieldAddr fa_117_0 rfl) (by decide) ?_
      refine JO.v (Yv.load1 one_23 rfl (by first | exact Kn.own zqa (by first  | rfl | exact tab_get zqg | exact gm (d := 0) zqg) | exact Kn.ro zqa (by first  | rfl | exact tab_get zqg | exact gm (d := 0) zqg) | exact Kn.row zqa (by first  | rfl | exact tab_get zqg | exact gm (d := 0) zqg) | exact Kn.rd zqc (by first  | rfl | exact tab_get zqg | exact gm (d := 0) zqg) | exact Kn.rd2 zqc (by first  | rfl | exact tab_get zqg | exact gm (d := 0) zqg))) (by decide) ?_
      refine JO.v (Yv.move rfl) (by decide) ?_
      refine JO.cut (0) (n.toNat) Tryz.underlying23 sz_5 rfl zqa rfl ⟨_, rfl⟩ (by first | (simp; done) | omega | (simp; omega)) (by first | (simp; done) | omega | (simp; omega)) (by decide) fun v26 => ?_
      refine JO.v (Yv.assign rfl) (by decide) ?_
      refine JO.nil ?_
      refine JQ.then_normal ?_
      refine JC.seq ?_
      refine JC.region ?_
      refine JO.v (Yv.move rfl) (by decide) ?_
      refine JO.v (Yv.move rfl) (by decide) ?_
      refine JO.v (Yv.nilCheck rfl) (by decide) ?_
      refine JO.v (Yv.fieldAddr fa_117_0 rfl) (by decide) ?_
      refine JO.v (Yv.load1 one_23 rfl (by first | exact Kn.own zqa (by first  | rfl | exact tab_get zqg | exact gm (d := 0) zqg) | exact Kn.ro zqa (by first  | rfl | exact tab_get zqg | exact gm (d := 0) zqg) | exact Kn.row zqa (by first  | rfl | exact tab_get zqg | exact gm (d := 0) zqg) | exact Kn.rd zqc (by first  | rfl | exact tab_get zqg | exact gm (d := 0) zqg) | exact Kn.rd2 zqc (by first  | rfl | exact tab_get zqg | exact gm (d := 0) zqg))) (by decide) ?_
      refine JO.v (Yv.move rfl) (by decide) ?_
      refine JO.cut (n.toNat) (r.b.length) Tryz.underlying23 sz_5 rfl zqa ⟨_, rfl⟩ rfl (by first | (simp; done) | omega | (simp; omega)) (by first | (simp; done) | omega | (simp; omega)) (by decide) fun v33 => ?_
      refine JO.v (Yv.nilCheck rfl) (by decide) ?_
      refine JO.v (Yv.fieldAddr fa_117_0 rfl) (by decide) ?_
      first | refine JO.store1 sz_23 rfl rfl rfl (by repeat (first | exact Upd.here _ _ _ | apply Upd.there)) zqb ?_ | refine JO.store1s sz_23 rfl rfl zqc (by repeat (first | exact Upd.here _ _ _ | apply Upd.there)) zqb ?_ | refine JO.storeRow1 sz_23 rfl rfl rfl (by repeat (first | exact Upd.here _ _ _ | apply Upd.there)) zqb (by first | rfl | (simp; done) | omega | (simp; omega)) ?_
      refine JO.nil ?_
      refine JQ.then_normal ?_
      refine JC.seq ?_
      refine JC.region ?_
      refine JO.v (Yv.move rfl) (by decide) ?_
      refine JO.v (Yv.assign rfl) (by decide) ?_
      refine JO.nil ?_
      refine JQ.then_normal ?_
      refine JC.ret ?_
      rw [rd_take hge, rd_drop]
      exact JQ.done (.inr rfl) (Γ' := [Res.rd _ (r.b.take n.toNat).length 1 ((r.b.take n.toNat).map u8), Res.rd _ (r.b.drop n.toNat).length 1 ((r.b.drop n.toNat).map u8)]) (H' := [Res.cells p [_, it r.e] 117]) (res1 rfl (RV.tmp rfl)) (Subs.sub zqe) (Picks.perm zqd) ⟨_, trivial, by rw [Rdr.out_ok hge hre, Rdr.aft_ok hge hre], by rw [Rdr.aft_ok hge hre, hre]⟩


theorem f42_spec (p : Nat) (v : Value) (r : Rdr) (lim : BitVec 64) :
    Spec Tryz.prog 42 #[(ptr p 0), u64 lim] [Res.rd v r.b.length 1 (r.b.map u8)] [Res.cells p [v, it r.e] 117]
      (fun o Γ' H' => ∃ v', o = u64 (r.sm lim) ∧ Γ' = [Res.rd v' (r.smA lim).b.length 1 ((r.smA lim).b.map u8)] ∧ H' = [Res.cells p [v', it (r.smA lim).e] 117]) := by
  refine Spec.of_args Tryz.func42 rfl Tryz.ntmps42 (by simp) fun w => ?_
  refine JC.seq ?_
  refine JC.region ?_
  refine JO.v (Yv.assign rfl) (by decide) ?_
  refine JO.nil ?_
  refine JQ.then_normal ?_
  refine JC.seq ?_
  refine JC.region ?_
  refine JO.v (Yv.move rfl) (by decide) ?_
  refine JO.call (f62_spec p v r 1#64) body_62 rfl zqd zqe (by decide) ?_
  rintro v10 _ _ ⟨_, _, ⟨v1, _, rfl, rfl⟩, hΓ, hH⟩
  simp only [List.cons_append, List.nil_append] at hΓ hH; subst hΓ hH
  rw [show (1#64 : BitVec 64).toNat = 1 from rfl]
  have hle := Rdr.out_le r 1
  refine JO.v (Yv.assign rfl) (by decide) ?_
  refine JO.nil ?_
  refine JQ.then_normal ?_
  refine JC.seq ?_
  refine JC.seq ?_
  refine JC.region ?_
  refine JO.v (Yv.move rfl) (by decide) ?_
  first | refine JO.v (Yv.len_s Tryz.underlying23 rfl) (by decide) ?_ | refine JO.v (Yv.lenRd Tryz.underlying23 rfl zqc) (by decide) ?_
  refine JO.v (Yv.bin rfl rfl BinR.eql_i) (by decide) ?_
  refine JO.nil ?_
  refine JQ.then_normal ?_
  refine JC.cond rfl (fun hc1 => ?_) (fun hc1 => ?_)
  · try simp only [decide_eq_true_eq, decide_eq_false_iff_not, Bool.not_eq_true', Bool.not_eq_false', ne_eq, Decidable.not_not, Bool.not_eq_true, Bool.and_eq_true, Bool.or_eq_true, BitVec.reduceToNat] at hc1
    have h0 : (r.out 1).length = 0 := by omega
    refine JC.seq ?_
    refine JC.region ?_
    refine JO.v (Yv.assign rfl) (by decide) ?_
    refine JO.nil ?_
    refine JQ.then_normal ?_
    refine JC.ret ?_
    refine JQ.then_ret ?_
    have hA : r.smA lim = r.aft 1 := if_pos h0
    exact JQ.done (.inr rfl) (Γ' := [Res.rd _ (r.aft 1).b.length 1 ((r.aft 1).b.map u8)]) (H' := [Res.cells p [_, it (r.aft 1).e] 117]) (res1 rfl (RV.tmp rfl)) (Subs.sub zqe) (Picks.perm zqd) ⟨_, by rw [show r.sm lim = 0 from if_pos h0] <;> rfl, by rw [hA], by rw [hA]⟩
  · try simp only [decide_eq_true_eq, decide_eq_false_iff_not, Bool.not_eq_true', Bool.not_eq_false', ne_eq, Decidable.not_not, Bool.not_eq_true, Bool.and_eq_true, Bool.or_eq_true, BitVec.reduceToNat] at hc1
    have h1 : (r.out 1).length = 1 := by omega
    refine JC.skip ?_
    refine JQ.then_normal ?_
    refine JC.seq ?_
    refine JC.region ?_
    refine JO.v (Yv.assign rfl) (by decide) ?_
    refine JO.nil ?_
    refine JQ.then_normal ?_
    refine JC.cut (ι := Value × Value) (fun x => True) (fun x => [(0, ptr p 0), (1, u64 lim), (5, v10), (6, x.1)]) (fun x => [Res.rd x.1 r.smO.length 1 (r.smO.map u8), Res.rd x.2 r.smR.b.length 1 (r.smR.b.map u8), Res.rd v10 (r.out 1).length 1 ((r.out 1).map u8)]) (fun x => [Res.cells p [x.2, it r.smR.e] 117]) ?_ (fun x hx => ?_)
    · skip
      refine JC.seq ?_
      refine JC.region ?_
      refine JO.v (Yv.move rfl) (by decide) ?_
      first | refine JO.v (Yv.indexRow1 (j := 0) Tryz.underlying23 sz_5 rfl rfl zqa zqb) (by decide) ?_ | refine JO.v (Yv.indexRd1 (j := 0) Tryz.underlying23 sz_5 rfl rfl zqc zqb) (by decide) ?_
      refine JO.v (Yv.as (v' := u8 r.k8) (Yv.load1 one_5 rfl (by first | exact Kn.own zqa (by first | exact gm (d := 0) (by rw [ofBytes_length]; decide) | rfl | exact tab_get zqg | exact gm (d := 0) zqg) | exact Kn.ro zqa (by first | exact gm (d := 0) (by rw [ofBytes_length]; decide) | rfl | exact tab_get zqg | exact gm (d := 0) zqg) | exact Kn.row zqa (by first | exact gm (d := 0) (by rw [ofBytes_length]; decide) | rfl | exact tab_get zqg | exact gm (d := 0) zqg) | exact Kn.rd zqc (by first | exact gm (d := 0) (by rw [ofBytes_length]; decide) | rfl | exact tab_get zqg | exact gm (d := 0) zqg) | exact Kn.rd2 zqc (by first | exact gm (d := 0) (by rw [ofBytes_length]; decide) | rfl | exact tab_get zqg | exact gm (d := 0) zqg))) rfl) (by decide) ?_
      refine JO.v (Yv.bin rfl rfl (BinR.leq_u8 (b := 8#8))) (by decide) ?_
      refine JO.nil ?_
      refine JQ.then_normal ?_
      refine JC.cond rfl (fun hc2 => ?_) (fun hc2 => ?_)
      · try simp only [decide_eq_true_eq, decide_eq_false_iff_not, Bool.not_eq_true', Bool.not_eq_false', ne_eq, Decidable.not_not, Bool.not_eq_true, Bool.and_eq_true, Bool.or_eq_true, BitVec.reduceToNat] at hc2
        have hsO : r.smO = (r.aft 1).out r.k8.toNat := if_pos hc2
        have hsR : r.smR = (r.aft 1).aft r.k8.toNat := if_pos hc2
        refine JC.region ?_
        refine JO.v (Yv.move rfl) (by decide) ?_
        refine JO.v (Yv.move rfl) (by decide) ?_
        first | refine JO.v (Yv.indexRow1 (j := 0) Tryz.underlying23 sz_5 rfl rfl zqa zqb) (by decide) ?_ | refine JO.v (Yv.indexRd1 (j := 0) Tryz.underlying23 sz_5 rfl rfl zqc zqb) (by decide) ?_
        refine JO.v (Yv.as (v' := u8 r.k8) (Yv.load1 one_5 rfl (by first | exact Kn.own zqa (by first | exact gm (d := 0) (by rw [ofBytes_length]; decide) | rfl | exact tab_get zqg | exact gm (d := 0) zqg) | exact Kn.ro zqa (by first | exact gm (d := 0) (by rw [ofBytes_length]; decide) | rfl | exact tab_get zqg | exact gm (d := 0) zqg) | exact Kn.row zqa (by first | exact gm (d := 0) (by rw [ofBytes_length]; decide) | rfl | exact tab_get zqg | exact gm (d := 0) zqg) | exact Kn.rd zqc (by first | exact gm (d := 0) (by rw [ofBytes_length]; decide) | rfl | exact tab_get zqg | exact gm (d := 0) zqg) | exact Kn.rd2 zqc (by first | exact gm (d := 0) (by rw [ofBytes_length]; decide) | rfl | exact tab_get zqg | exact gm (d := 0) zqg))) rfl) (by decide) ?_
        refine JO.v (Yv.conv_u8_u64 Tryz.underlying5 Tryz.underlying30 rfl) (by decide) ?_
        refine JO.call (f62_spec p v1 (r.aft 1) (r.k8.setWidth 64)) body_62 rfl zqd zqe (by decide) ?_
        rintro v23 _ _ ⟨_, _, ⟨v2, _, rfl, rfl⟩, hΓ, hH⟩
        simp only [List.cons_append, List.nil_append] at hΓ hH; subst hΓ hH
        rw [show (r.k8.setWidth 64).toNat = r.k8.toNat from by rw [BitVec.toNat_setWidth]; have := r.k8.isLt; omega, ← hsO, ← hsR]
        refine JO.v (Yv.assign rfl) (by decide) ?_
        refine JO.nil ?_
        refine JQ.head (_, _) (by repeat (first | exact trivial | refine ⟨by first | rfl | (simp; done), ?_⟩)) (by rw [hsO]; exact Subs.sub zqe) (Picks.perm zqd) ?_
        trivial
      · try simp only [decide_eq_true_eq, decide_eq_false_iff_not, Bool.not_eq_true', Bool.not_eq_false', ne_eq, Decidable.not_not, Bool.not_eq_true, Bool.and_eq_true, Bool.or_eq_true, BitVec.reduceToNat] at hc2
        have hsO : r.smO = [] := if_neg hc2
        have hsR : r.smR = r.aft 1 := if_neg hc2
        refine JC.nilRd 1 ?_
        rw [← hsR]
        refine JC.skip ?_
        refine JQ.head (_, _) (by repeat (first | exact trivial | refine ⟨by first | rfl | (simp; done), ?_⟩)) (by rw [hsO]; exact Subs.sub zqe) (Picks.perm zqd) ?_
        trivial
    · skip
      refine JC.seq ?_
      refine JC.region ?_
      refine JO.v (Yv.move rfl) (by decide) ?_
      refine JO.callB (f63_spec x.1 r.smO (by have := Rdr.smO_le r; omega)) body_63 rfl zqd (by repeat (first | exact Lends.nil _ | apply Lends.cons | exact Lend.same _ _ | exact Lend.row _ _ _ _ _ _ (by decide) | apply Lend.there)) (by rintro _ _ _ ⟨_, h, _⟩; exact h) (by decide) ?_
      rintro _ _ ⟨_, ⟨rfl, _, rfl⟩, hH⟩
      simp only [List.cons_append, List.nil_append] at hH; subst hH
      refine JO.v (Yv.move rfl) (by decide) ?_
      refine JO.v (Yv.extract rfl rfl) (by decide) ?_
      refine JO.v (Yv.extract rfl rfl) (by decide) ?_
      refine JO.alloc _ zero_87 rfl (by decide) fun b7 => ?_
      first | refine JO.storeAll sz_87 rfl rfl rfl (by first | rfl | (simp; done) | (simp; omega)) (by first | (simp; done) | exact one_map (fun _ => rfl) | exact one_tab (fun _ => rfl) | exact one_tab (fun _ => by split <;> rfl)) (by repeat (first | exact Upd.here _ _ _ | apply Upd.there)) (by first | rfl | (simp; done) | (simp; omega)) ?_ | refine JO.store sz_87 rfl rfl rfl (by first | rfl | (simp; done) | (simp; omega)) (by first | (simp; done) | exact one_sing rfl | exact one_map (fun _ => rfl) | exact one_piece (one_map (fun _ => rfl)) | exact one_tab (fun _ => rfl) | exact one_tab (fun _ => by split <;> rfl)) (by repeat (first | exact Upd.here _ _ _ | apply Upd.there)) zqb ?_ | refine JO.storeRow sz_87 rfl rfl rfl (by first | rfl | simp) (by first | (simp; done) | exact one_map (fun _ => rfl) | exact one_tab (fun _ => rfl) | exact one_tab (fun _ => by split <;> rfl)) (by repeat (first | exact Upd.here _ _ _ | apply Upd.there)) zqb zqb ?_
      refine JO.v (Yv.assign rfl) (by decide) ?_
      refine JO.nil ?_
      refine JQ.then_normal ?_
      refine JC.seq ?_
      refine JC.block ?_
      refine JC.seq ?_
      refine JC.block ?_
      refine JC.seq ?_
      refine JC.block ?_
      refine JC.block ?_
      refine JC.seq ?_
      refine JC.block ?_
      refine JC.seq ?_
      refine JC.seq ?_
      refine JC.seq ?_
      refine JC.region ?_
      refine JO.v (Yv.move rfl) (by decide) ?_
      refine JO.v (Yv.nilCheck rfl) (by decide) ?_
      refine JO.v (Yv.fieldAddr fa_117_1 rfl) (by decide) ?_
      refine JO.v (Yv.load1 one_26 rfl (by first | exact Kn.own zqa (by first | exact gm (d := 0) (by rw [ofBytes_length]; decide) | rfl | exact tab_get zqg | exact gm (d := 0) zqg) | exact Kn.ro zqa (by first | exact gm (d := 0) (by rw [ofBytes_length]; decide) | rfl | exact tab_get zqg | exact gm (d := 0) zqg) | exact Kn.row zqa (by first | exact gm (d := 0) (by rw [ofBytes_length]; decide) | rfl | exact tab_get zqg | exact gm (d := 0) zqg) | exact Kn.rd zqc (by first | exact gm (d := 0) (by rw [ofBytes_length]; decide) | rfl | exact tab_get zqg | exact gm (d := 0) zqg) | exact Kn.rd2 zqc (by first | exact gm (d := 0) (by rw [ofBytes_length]; decide) | rfl | exact tab_get zqg | exact gm (d := 0) zqg))) (by decide) ?_
      refine JO.v (Yv.bin rfl rfl BinR.neq_i) (by decide) ?_
      refine JO.v (Yv.assign rfl) (by decide) ?_
      refine JO.nil ?_
      refine JQ.then_normal ?_
      refine JC.cond rfl (fun hc3 => ?_) (fun hc3 => ?_)
      · try simp only [decide_eq_true_eq, decide_eq_false_iff_not, Bool.not_eq_true', Bool.not_eq_false', ne_eq, Decidable.not_not, Bool.not_eq_true, Bool.and_eq_true, Bool.or_eq_true, BitVec.reduceToNat] at hc3
        have hF : r.smF lim = r.smR := if_pos hc3
        have hF' := hF
        rw [← hF]
        refine JC.exit ?_
        refine JQ.then_exit ?_
        refine JQ.then_exit ?_
        refine JQ.block_exit ?_
        refine JQ.then_normal ?_
        refine JC.exit ?_
        refine JQ.block_other (by decide) ?_
        refine JQ.block_other (by decide) ?_
        refine JQ.then_exit ?_
        refine JQ.block_other (by decide) ?_
        refine JQ.then_exit ?_
        refine JQ.block_exit ?_
        refine JQ.then_normal ?_
        refine JC.seq ?_
        refine JC.seq ?_
        refine JC.region ?_
        refine JO.v (Yv.move rfl) (by decide) ?_
        refine JO.v (Yv.nilCheck rfl) (by decide) ?_
        refine JO.v (Yv.fieldAddr fa_117_1 rfl) (by decide) ?_
        refine JO.v (Yv.load1 one_26 rfl (by first | exact Kn.own zqa (by first | exact gm (d := 0) (by rw [ofBytes_length]; decide) | rfl | exact tab_get zqg | exact gm (d := 0) zqg) | exact Kn.ro zqa (by first | exact gm (d := 0) (by rw [ofBytes_length]; decide) | rfl | exact tab_get zqg | exact gm (d := 0) zqg) | exact Kn.row zqa (by first | exact gm (d := 0) (by rw [ofBytes_length]; decide) | rfl | exact tab_get zqg | exact gm (d := 0) zqg) | exact Kn.rd zqc (by first | exact gm (d := 0) (by rw [ofBytes_length]; decide) | rfl | exact tab_get zqg | exact gm (d := 0) zqg) | exact Kn.rd2 zqc (by first | exact gm (d := 0) (by rw [ofBytes_length]; decide) | rfl | exact tab_get zqg | exact gm (d := 0) zqg))) (by decide) ?_
        refine JO.v (Yv.bin rfl rfl BinR.neq_i) (by decide) ?_
        refine JO.nil ?_
        refine JQ.then_normal ?_
        refine JC.cond rfl (fun hc7 => ?_) (fun hc7 => ?_)
        · try simp only [decide_eq_true_eq, decide_eq_false_iff_not, Bool.not_eq_true', Bool.not_eq_false', ne_eq, Decidable.not_not, Bool.not_eq_true, Bool.and_eq_true, Bool.or_eq_true, BitVec.reduceToNat] at hc7
          have hS : r.sm lim = 0 := by rw [Rdr.sm, if_neg (by omega), if_pos hc7]
          refine JC.seq ?_
          refine JC.region ?_
          refine JO.v (Yv.assign rfl) (by decide) ?_
          refine JO.nil ?_
          refine JQ.then_normal ?_
          refine JC.ret ?_
          refine JQ.then_ret ?_
          have hA : r.smA lim = r.smF lim := if_neg (by omega)
          exact JQ.done (.inr rfl) (Γ' := [Res.rd _ (r.smF lim).b.length 1 ((r.smF lim).b.map u8)]) (H' := [Res.cells p [_, it (r.smF lim).e] 117]) (res1 rfl (RV.tmp rfl)) (Subs.sub zqe) (Picks.perm zqd) ⟨_, by rw [hS] <;> rfl, by rw [hA], by rw [hA]⟩
        · try simp only [decide_eq_true_eq, decide_eq_false_iff_not, Bool.not_eq_true', Bool.not_eq_false', ne_eq, Decidable.not_not, Bool.not_eq_true, Bool.and_eq_true, Bool.or_eq_true, BitVec.reduceToNat] at hc7
          have hS : r.sm lim = (ofBytes r.smO).getD 0 0 := by rw [Rdr.sm, if_neg (by omega), if_neg (not_not_intro hc7)]
          refine JC.skip ?_
          refine JQ.then_normal ?_
          refine JC.seq ?_
          refine JC.region ?_
          first | refine JO.v (Yv.indexArr1 (j := 0) Tryz.underlying87 sz_30 rfl rfl zqb) (by decide) ?_ | refine JO.v (Yv.indexArr1o (j := 0) Tryz.underlying87 sz_30 rfl rfl zqb) (by decide) ?_
          refine JO.v (Yv.as (v' := u64 ((ofBytes r.smO).getD 0 0)) (Yv.load1 one_30 rfl (by first | exact Kn.own zqa (by first | exact gm (d := 0) (by rw [ofBytes_length]; decide) | rfl | exact tab_get zqg | exact gm (d := 0) zqg) | exact Kn.ro zqa (by first | exact gm (d := 0) (by rw [ofBytes_length]; decide) | rfl | exact tab_get zqg | exact gm (d := 0) zqg) | exact Kn.row zqa (by first | exact gm (d := 0) (by rw [ofBytes_length]; decide) | rfl | exact tab_get zqg | exact gm (d := 0) zqg) | exact Kn.rd zqc (by first | exact gm (d := 0) (by rw [ofBytes_length]; decide) | rfl | exact tab_get zqg | exact gm (d := 0) zqg) | exact Kn.rd2 zqc (by first | exact gm (d := 0) (by rw [ofBytes_length]; decide) | rfl | exact tab_get zqg | exact gm (d := 0) zqg))) rfl) (by decide) ?_
          refine JO.v (Yv.assign rfl) (by decide) ?_
          refine JO.nil ?_
          refine JQ.then_normal ?_
          refine JC.ret ?_
          have hA : r.smA lim = r.smF lim := if_neg (by omega)
          exact JQ.done (.inr rfl) (Γ' := [Res.rd _ (r.smF lim).b.length 1 ((r.smF lim).b.map u8)]) (H' := [Res.cells p [_, it (r.smF lim).e] 117]) (res1 rfl (RV.tmp rfl)) (Subs.sub zqe) (Picks.perm zqd) ⟨_, by rw [hS] <;> rfl, by rw [hA], by rw [hA]⟩
      · try simp only [decide_eq_true_eq, decide_eq_false_iff_not, Bool.not_eq_true', Bool.not_eq_false', ne_eq, Decidable.not_not, Bool.not_eq_true, Bool.and_eq_true, Bool.or_eq_true, BitVec.reduceToNat] at hc3
        refine JC.skip ?_
        refine JQ.then_normal ?_
        refine JC.seq ?_
        refine JC.seq ?_
        refine JC.region ?_
        refine JO.v (Yv.move rfl) (by decide) ?_
        first | refine JO.v (Yv.indexRow1 (j := 0) Tryz.underlying23 sz_5 rfl rfl zqa zqb) (by decide) ?_ | refine JO.v (Yv.indexRd1 (j := 0) Tryz.underlying23 sz_5 rfl rfl zqc zqb) (by decide) ?_
        refine JO.v (Yv.as (v' := u8 r.k8) (Yv.load1 one_5 rfl (by first | exact Kn.own zqa (by first | exact gm (d := 0) (by rw [ofBytes_length]; decide) | rfl | exact tab_get zqg | exact gm (d := 0) zqg) | exact Kn.ro zqa (by first | exact gm (d := 0) (by rw [ofBytes_length]; decide) | rfl | exact tab_get zqg | exact gm (d := 0) zqg) | exact Kn.row zqa (by first | exact gm (d := 0) (by rw [ofBytes_length]; decide) | rfl | exact tab_get zqg | exact gm (d := 0) zqg) | exact Kn.rd zqc (by first | exact gm (d := 0) (by rw [ofBytes_length]; decide) | rfl | exact tab_get zqg | exact gm (d := 0) zqg) | exact Kn.rd2 zqc (by first | exact gm (d := 0) (by rw [ofBytes_length]; decide) | rfl | exact tab_get zqg | exact gm (d := 0) zqg))) rfl) (by decide) ?_
        refine JO.v (Yv.bin rfl rfl (BinR.gtr_u8 (b := 8#8))) (by decide) ?_
        refine JO.v (Yv.assign rfl) (by decide) ?_
        refine JO.nil ?_
        refine JQ.then_normal ?_
        refine JC.cond rfl (fun hc4 => ?_) (fun hc4 => ?_)
        · try simp only [decide_eq_true_eq, decide_eq_false_iff_not, Bool.not_eq_true', Bool.not_eq_false', ne_eq, Decidable.not_not, Bool.not_eq_true, Bool.and_eq_true, Bool.or_eq_true, BitVec.reduceToNat] at hc4
          have hF : r.smF lim = r.smR.wrong 31 := by rw [Rdr.smF, if_neg (not_not_intro hc3), if_pos hc4]
          refine JC.exit ?_
          refine JQ.then_exit ?_
          refine JQ.then_exit ?_
          refine JQ.block_other (by decide) ?_
          refine JQ.then_exit ?_
          refine JQ.block_exit ?_
          refine JQ.block_normal ?_
          refine JQ.then_normal ?_
          refine JC.seq ?_
          refine JC.region ?_
          refine JO.v (Yv.move rfl) (by decide) ?_
          refine JO.call (f64_spec p x.2 r.smR 31) body_64 rfl zqd zqe (by decide) ?_
          rintro _ _ _ ⟨_, _, ⟨v3, rfl, rfl, rfl⟩, hΓ, hH⟩
          simp only [List.cons_append, List.nil_append] at hΓ hH; subst hΓ hH
          rw [← hF]
          refine JO.nil ?_
          refine JQ.then_normal ?_
          refine JC.exit ?_
          refine JQ.block_other (by decide) ?_
          refine JQ.then_exit ?_
          refine JQ.block_exit ?_
          refine JQ.then_normal ?_
          refine JC.seq ?_
          refine JC.seq ?_
          refine JC.region ?_
          refine JO.v (Yv.move rfl) (by decide) ?_
          refine JO.v (Yv.nilCheck rfl) (by decide) ?_
          refine JO.v (Yv.fieldAddr fa_117_1 rfl) (by decide) ?_
          refine JO.v (Yv.load1 one_26 rfl (by first | exact Kn.own zqa (by first | exact gm (d := 0) (by rw [ofBytes_length]; decide) | rfl | exact tab_get zqg | exact gm (d := 0) zqg) | exact Kn.ro zqa (by first | exact gm (d := 0) (by rw [ofBytes_length]; decide) | rfl | exact tab_get zqg | exact gm (d := 0) zqg) | exact Kn.row zqa (by first | exact gm (d := 0) (by rw [ofBytes_length]; decide) | rfl | exact tab_get zqg | exact gm (d := 0) zqg) | exact Kn.rd zqc (by first | exact gm (d := 0) (by rw [ofBytes_length]; decide) | rfl | exact tab_get zqg | exact gm (d := 0) zqg) | exact Kn.rd2 zqc (by first | exact gm (d := 0) (by rw [ofBytes_length]; decide) | rfl | exact tab_get zqg | exact gm (d := 0) zqg))) (by decide) ?_
          refine JO.v (Yv.bin rfl rfl BinR.neq_i) (by decide) ?_
          refine JO.nil ?_
          refine JQ.then_normal ?_
          refine JC.cond rfl (fun hc7 => ?_) (fun hc7 => ?_)
          · try simp only [decide_eq_true_eq, decide_eq_false_iff_not, Bool.not_eq_true', Bool.not_eq_false', ne_eq, Decidable.not_not, Bool.not_eq_true, Bool.and_eq_true, Bool.or_eq_true, BitVec.reduceToNat] at hc7
            have hS : r.sm lim = 0 := by rw [Rdr.sm, if_neg (by omega), if_pos hc7]
            refine JC.seq ?_
            refine JC.region ?_
            refine JO.v (Yv.assign rfl) (by decide) ?_
            refine JO.nil ?_
            refine JQ.then_normal ?_
            refine JC.ret ?_
            refine JQ.then_ret ?_
            have hA : r.smA lim = r.smF lim := if_neg (by omega)
            exact JQ.done (.inr rfl) (Γ' := [Res.rd _ (r.smF lim).b.length 1 ((r.smF lim).b.map u8)]) (H' := [Res.cells p [_, it (r.smF lim).e] 117]) (res1 rfl (RV.tmp rfl)) (Subs.sub zqe) (Picks.perm zqd) ⟨_, by rw [hS] <;> rfl, by rw [hA], by rw [hA]⟩
          · try simp only [decide_eq_true_eq, decide_eq_false_iff_not, Bool.not_eq_true', Bool.not_eq_false', ne_eq, Decidable.not_not, Bool.not_eq_true, Bool.and_eq_true, Bool.or_eq_true, BitVec.reduceToNat] at hc7
            have hS : r.sm lim = (ofBytes r.smO).getD 0 0 := by rw [Rdr.sm, if_neg (by omega), if_neg (not_not_intro hc7)]
            refine JC.skip ?_
            refine JQ.then_normal ?_
            refine JC.seq ?_
            refine JC.region ?_
            first | refine JO.v (Yv.indexArr1 (j := 0) Tryz.underlying87 sz_30 rfl rfl zqb) (by decide) ?_ | refine JO.v (Yv.indexArr1o (j := 0) Tryz.underlying87 sz_30 rfl rfl zqb) (by decide) ?_
            refine JO.v (Yv.as (v' := u64 ((ofBytes r.smO).getD 0 0)) (Yv.load1 one_30 rfl (by first | exact Kn.own zqa (by first | exact gm (d := 0) (by rw [ofBytes_length]; decide) | rfl | exact tab_get zqg | exact gm (d := 0) zqg) | exact Kn.ro zqa (by first | exact gm (d := 0) (by rw [ofBytes_length]; decide) | rfl | exact tab_get zqg | exact gm (d := 0) zqg) | exact Kn.row zqa (by first | exact gm (d := 0) (by rw [ofBytes_length]; decide) | rfl | exact tab_get zqg | exact gm (d := 0) zqg) | exact Kn.rd zqc (by first | exact gm (d := 0) (by rw [ofBytes_length]; decide) | rfl | exact tab_get zqg | exact gm (d := 0) zqg) | exact Kn.rd2 zqc (by first | exact gm (d := 0) (by rw [ofBytes_length]; decide) | rfl | exact tab_get zqg | exact gm (d := 0) zqg))) rfl) (by decide) ?_
            refine JO.v (Yv.assign rfl) (by decide) ?_
            refine JO.nil ?_
            refine JQ.then_normal ?_
            refine JC.ret ?_
            have hA : r.smA lim = r.smF lim := if_neg (by omega)
            exact JQ.done (.inr rfl) (Γ' := [Res.rd _ (r.smF lim).b.length 1 ((r.smF lim).b.map u8)]) (H' := [Res.cells p [_, it (r.smF lim).e] 117]) (res1 rfl (RV.tmp rfl)) (Subs.sub zqe) (Picks.perm zqd) ⟨_, by rw [hS] <;> rfl, by rw [hA], by rw [hA]⟩
        · try simp only [decide_eq_true_eq, decide_eq_false_iff_not, Bool.not_eq_true', Bool.not_eq_false', ne_eq, Decidable.not_not, Bool.not_eq_true, Bool.and_eq_true, Bool.or_eq_true, BitVec.reduceToNat] at hc4
          have hl := Rdr.smO_len hc3 hc4
          refine JC.skip ?_
          refine JQ.then_normal ?_
          refine JC.seq ?_
          refine JC.seq ?_
          refine JC.region ?_
          refine JO.v (Yv.move rfl) (by decide) ?_
          first | refine JO.v (Yv.indexRow1 (j := 0) Tryz.underlying23 sz_5 rfl rfl zqa zqb) (by decide) ?_ | refine JO.v (Yv.indexRd1 (j := 0) Tryz.underlying23 sz_5 rfl rfl zqc zqb) (by decide) ?_
          refine JO.v (Yv.as (v' := u8 r.k8) (Yv.load1 one_5 rfl (by first | exact Kn.own zqa (by first | exact gm (d := 0) (by rw [ofBytes_length]; decide) | rfl | exact tab_get zqg | exact gm (d := 0) zqg) | exact Kn.ro zqa (by first | exact gm (d := 0) (by rw [ofBytes_length]; decide) | rfl | exact tab_get zqg | exact gm (d := 0) zqg) | exact Kn.row zqa (by first | exact gm (d := 0) (by rw [ofBytes_length]; decide) | rfl | exact tab_get zqg | exact gm (d := 0) zqg) | exact Kn.rd zqc (by first | exact gm (d := 0) (by rw [ofBytes_length]; decide) | rfl | exact tab_get zqg | exact gm (d := 0) zqg) | exact Kn.rd2 zqc (by first | exact gm (d := 0) (by rw [ofBytes_length]; decide) | rfl | exact tab_get zqg | exact gm (d := 0) zqg))) rfl) (by decide) ?_
          refine JO.v (Yv.bin rfl rfl (BinR.gtr_u8 (b := 0#8))) (by decide) ?_
          refine JO.v (Yv.move rfl) (by decide) ?_
          refine JO.join 5 50 (.bool (decide (0 < r.k8.toNat ∧ r.smO.getD 0 0 = 0))) ?_ ?_
          · skip
            refine JO.gsplit (g := 44) rfl (fun hg45 => ?_) (fun hg45 => ?_)
            · have hg45' := hg45
              try simp only [decide_eq_true_eq, decide_eq_false_iff_not, Bool.not_eq_true', Bool.not_eq_false', ne_eq, Decidable.not_not, Bool.not_eq_true, Bool.and_eq_true, Bool.or_eq_true, BitVec.reduceToNat] at hg45'
              refine JO.gt (g := 45) rfl rfl hg45 ?_
              refine JO.v (Yv.move rfl) (by decide) ?_
              refine JO.gt (g := 45) rfl rfl hg45 ?_
              first | refine JO.v (Yv.indexRow1 (j := 0) Tryz.underlying23 sz_5 rfl rfl zqa zqb) (by decide) ?_ | refine JO.v (Yv.indexRd1 (j := 0) Tryz.underlying23 sz_5 rfl rfl zqc zqb) (by decide) ?_
              refine JO.gt (g := 45) rfl rfl hg45 ?_
              refine JO.v (Yv.as (v' := u8 (r.smO.getD 0 0)) (Yv.load1 one_5 rfl (by first | exact Kn.own zqa (by first | exact gm (d := 0) (by rw [ofBytes_length]; decide) | rfl | exact tab_get zqg | exact gm (d := 0) zqg) | exact Kn.ro zqa (by first | exact gm (d := 0) (by rw [ofBytes_length]; decide) | rfl | exact tab_get zqg | exact gm (d := 0) zqg) | exact Kn.row zqa (by first | exact gm (d := 0) (by rw [ofBytes_length]; decide) | rfl | exact tab_get zqg | exact gm (d := 0) zqg) | exact Kn.rd zqc (by first | exact gm (d := 0) (by rw [ofBytes_length]; decide) | rfl | exact tab_get zqg | exact gm (d := 0) zqg) | exact Kn.rd2 zqc (by first | exact gm (d := 0) (by rw [ofBytes_length]; decide) | rfl | exact tab_get zqg | exact gm (d := 0) zqg))) rfl) (by decide) ?_
              refine JO.gt (g := 45) rfl rfl hg45 ?_
              refine JO.v (Yv.bin rfl rfl (BinR.eql_u8 (b := 0#8))) (by decide) ?_
              refine JO.v (Yv.pick1 rfl hg45 rfl) (by decide) ?_
              refine JO.nil ?_
              refine JQ.head () (by first | (refine ⟨by first | rfl | (simp [*]; done) | (show some _ = some _; simp [*]; done), ?_⟩; repeat (first | exact trivial | refine ⟨rfl, ?_⟩))) (Subs.sub zqe) (Picks.perm zqd) ?_
              trivial
            · have hg45' := hg45
              try simp only [decide_eq_true_eq, decide_eq_false_iff_not, Bool.not_eq_true', Bool.not_eq_false', ne_eq, Decidable.not_not, Bool.not_eq_true, Bool.and_eq_true, Bool.or_eq_true, BitVec.reduceToNat] at hg45'
              refine JO.gf (g := 45) rfl rfl hg45 (by decide) ?_
              refine JO.gf (g := 45) rfl rfl hg45 (by decide) ?_
              refine JO.gf (g := 45) rfl rfl hg45 (by decide) ?_
              refine JO.gf (g := 45) rfl rfl hg45 (by decide) ?_
              refine JO.v (Yv.pick0 rfl hg45 rfl) (by decide) ?_
              refine JO.nil ?_
              refine JQ.head () (by first | (refine ⟨by first | rfl | (simp [*]; done) | (show some _ = some _; simp [*]; done), ?_⟩; repeat (first | exact trivial | refine ⟨rfl, ?_⟩))) (Subs.sub zqe) (Picks.perm zqd) ?_
              trivial
          · skip
            refine JO.v (Yv.assign rfl) (by decide) ?_
            refine JO.nil ?_
            refine JQ.then_normal ?_
            refine JC.cond rfl (fun hc5 => ?_) (fun hc5 => ?_)
            · try simp only [decide_eq_true_eq, decide_eq_false_iff_not, Bool.not_eq_true', Bool.not_eq_false', ne_eq, Decidable.not_not, Bool.not_eq_true, Bool.and_eq_true, Bool.or_eq_true, BitVec.reduceToNat] at hc5
              have hF : r.smF lim = r.smR.wrong 31 := by rw [Rdr.smF, if_neg (not_not_intro hc3), if_neg hc4, if_pos hc5]
              refine JC.exit ?_
              refine JQ.then_exit ?_
              refine JQ.then_exit ?_
              refine JQ.block_other (by decide) ?_
              refine JQ.then_exit ?_
              refine JQ.block_other (by decide) ?_
              refine JQ.block_exit ?_
              refine JQ.then_normal ?_
              refine JC.seq ?_
              refine JC.region ?_
              refine JO.v (Yv.move rfl) (by decide) ?_
              refine JO.call (f64_spec p x.2 r.smR 31) body_64 rfl zqd zqe (by decide) ?_
              rintro _ _ _ ⟨_, _, ⟨v3, rfl, rfl, rfl⟩, hΓ, hH⟩
              simp only [List.cons_append, List.nil_append] at hΓ hH; subst hΓ hH
              rw [← hF]
              refine JO.nil ?_
              refine JQ.then_normal ?_
              refine JC.exit ?_
              refine JQ.block_other (by decide) ?_
              refine JQ.then_exit ?_
              refine JQ.block_exit ?_
              refine JQ.then_normal ?_
              refine JC.seq ?_
              refine JC.seq ?_
              refine JC.region ?_
              refine JO.v (Yv.move rfl) (by decide) ?_
              refine JO.v (Yv.nilCheck rfl) (by decide) ?_
              refine JO.v (Yv.fieldAddr fa_117_1 rfl) (by decide) ?_
              refine JO.v (Yv.load1 one_26 rfl (by first | exact Kn.own zqa (by first | exact gm (d := 0) (by rw [ofBytes_length]; decide) | rfl | exact tab_get zqg | exact gm (d := 0) zqg) | exact Kn.ro zqa (by first | exact gm (d := 0) (by rw [ofBytes_length]; decide) | rfl | exact tab_get zqg | exact gm (d := 0) zqg) | exact Kn.row zqa (by first | exact gm (d := 0) (by rw [ofBytes_length]; decide) | rfl | exact tab_get zqg | exact gm (d := 0) zqg) | exact Kn.rd zqc (by first | exact gm (d := 0) (by rw [ofBytes_length]; decide) | rfl | exact tab_get zqg | exact gm (d := 0) zqg) | exact Kn.rd2 zqc (by first | exact gm (d := 0) (by rw [ofBytes_length]; decide) | rfl | exact tab_get zqg | exact gm (d := 0) zqg))) (by decide) ?_
              refine JO.v (Yv.bin rfl rfl BinR.neq_i) (by decide) ?_
              refine JO.nil ?_
              refine JQ.then_normal ?_
              refine JC.cond rfl (fun hc7 => ?_) (fun hc7 => ?_)
              · try simp only [decide_eq_true_eq, decide_eq_false_iff_not, Bool.not_eq_true', Bool.not_eq_false', ne_eq, Decidable.not_not, Bool.not_eq_true, Bool.and_eq_true, Bool.or_eq_true, BitVec.reduceToNat] at hc7
                have hS : r.sm lim = 0 := by rw [Rdr.sm, if_neg (by omega), if_pos hc7]
                refine JC.seq ?_
                refine JC.region ?_
                refine JO.v (Yv.assign rfl) (by decide) ?_
                refine JO.nil ?_
                refine JQ.then_normal ?_
                refine JC.ret ?_
                refine JQ.then_ret ?_
                have hA : r.smA lim = r.smF lim := if_neg (by omega)
                exact JQ.done (.inr rfl) (Γ' := [Res.rd _ (r.smF lim).b.length 1 ((r.smF lim).b.map u8)]) (H' := [Res.cells p [_, it (r.smF lim).e] 117]) (res1 rfl (RV.tmp rfl)) (Subs.sub zqe) (Picks.perm zqd) ⟨_, by rw [hS] <;> rfl, by rw [hA], by rw [hA]⟩
              · try simp only [decide_eq_true_eq, decide_eq_false_iff_not, Bool.not_eq_true', Bool.not_eq_false', ne_eq, Decidable.not_not, Bool.not_eq_true, Bool.and_eq_true, Bool.or_eq_true, BitVec.reduceToNat] at hc7
                have hS : r.sm lim = (ofBytes r.smO).getD 0 0 := by rw [Rdr.sm, if_neg (by omega), if_neg (not_not_intro hc7)]
                refine JC.skip ?_
                refine JQ.then_normal ?_
                refine JC.seq ?_
                refine JC.region ?_
                first | refine JO.v (Yv.indexArr1 (j := 0) Tryz.underlying87 sz_30 rfl rfl zqb) (by decide) ?_ | refine JO.v (Yv.indexArr1o (j := 0) Tryz.underlying87 sz_30 rfl rfl zqb) (by decide) ?_
                refine JO.v (Yv.as (v' := u64 ((ofBytes r.smO).getD 0 0)) (Yv.load1 one_30 rfl (by first | exact Kn.own zqa (by first | exact gm (d := 0) (by rw [ofBytes_length]; decide) | rfl | exact tab_get zqg | exact gm (d := 0) zqg) | exact Kn.ro zqa (by first | exact gm (d := 0) (by rw [ofBytes_length]; decide) | rfl | exact tab_get zqg | exact gm (d := 0) zqg) | exact Kn.row zqa (by first | exact gm (d := 0) (by rw [ofBytes_length]; decide) | rfl | exact tab_get zqg | exact gm (d := 0) zqg) | exact Kn.rd zqc (by first | exact gm (d := 0) (by rw [ofBytes_length]; decide) | rfl | exact tab_get zqg | exact gm (d := 0) zqg) | exact Kn.rd2 zqc (by first | exact gm (d := 0) (by rw [ofBytes_length]; decide) | rfl | exact tab_get zqg | exact gm (d := 0) zqg))) rfl) (by decide) ?_
                refine JO.v (Yv.assign rfl) (by decide) ?_
                refine JO.nil ?_
                refine JQ.then_normal ?_
                refine JC.ret ?_
                have hA : r.smA lim = r.smF lim := if_neg (by omega)
                exact JQ.done (.inr rfl) (Γ' := [Res.rd _ (r.smF lim).b.length 1 ((r.smF lim).b.map u8)]) (H' := [Res.cells p [_, it (r.smF lim).e] 117]) (res1 rfl (RV.tmp rfl)) (Subs.sub zqe) (Picks.perm zqd) ⟨_, by rw [hS] <;> rfl, by rw [hA], by rw [hA]⟩
            · try simp only [decide_eq_true_eq, decide_eq_false_iff_not, Bool.not_eq_true', Bool.not_eq_false', ne_eq, Decidable.not_not, Bool.not_eq_true, Bool.and_eq_true, Bool.or_eq_true, BitVec.reduceToNat] at hc5
              refine JC.skip ?_
              refine JQ.then_normal ?_
              refine JC.seq ?_
              refine JC.region ?_
              first | refine JO.v (Yv.indexArr1 (j := 0) Tryz.underlying87 sz_30 rfl rfl zqb) (by decide) ?_ | refine JO.v (Yv.indexArr1o (j := 0) Tryz.underlying87 sz_30 rfl rfl zqb) (by decide) ?_
              refine JO.v (Yv.as (v' := u64 ((ofBytes r.smO).getD 0 0)) (Yv.load1 one_30 rfl (by first | exact Kn.own zqa (by first | exact gm (d := 0) (by rw [ofBytes_length]; decide) | rfl | exact tab_get zqg | exact gm (d := 0) zqg) | exact Kn.ro zqa (by first | exact gm (d := 0) (by rw [ofBytes_length]; decide) | rfl | exact tab_get zqg | exact gm (d := 0) zqg) | exact Kn.row zqa (by first | exact gm (d := 0) (by rw [ofBytes_length]; decide) | rfl | exact tab_get zqg | exact gm (d := 0) zqg) | exact Kn.rd zqc (by first | exact gm (d := 0) (by rw [ofBytes_length]; decide) | rfl | exact tab_get zqg | exact gm (d := 0) zqg) | exact Kn.rd2 zqc (by first | exact gm (d := 0) (by rw [ofBytes_length]; decide) | rfl | exact tab_get zqg | exact gm (d := 0) zqg))) rfl) (by decide) ?_
              refine JO.v (Yv.move rfl) (by decide) ?_
              refine JO.v (Yv.bin rfl rfl (BinR.gtr_u64)) (by decide) ?_
              refine JO.v (Yv.assign rfl) (by decide) ?_
              refine JO.nil ?_
              refine JQ.then_normal ?_
              refine JC.cond rfl (fun hc6 => ?_) (fun hc6 => ?_)
              · try simp only [decide_eq_true_eq, decide_eq_false_iff_not, Bool.not_eq_true', Bool.not_eq_false', ne_eq, Decidable.not_not, Bool.not_eq_true, Bool.and_eq_true, Bool.or_eq_true, BitVec.reduceToNat] at hc6
                have hF : r.smF lim = r.smR.wrong 2 := by rw [Rdr.smF, if_neg (not_not_intro hc3), if_neg hc4, if_neg hc5, if_pos hc6]
                refine JC.exit ?_
                refine JQ.then_exit ?_
                refine JQ.block_other (by decide) ?_
                refine JQ.then_exit ?_
                refine JQ.block_other (by decide) ?_
                refine JQ.block_other (by decide) ?_
                refine JQ.then_exit ?_
                refine JQ.block_exit ?_
                refine JQ.then_normal ?_
                refine JC.seq ?_
                refine JC.region ?_
                refine JO.v (Yv.move rfl) (by decide) ?_
                refine JO.call (f64_spec p x.2 r.smR 2) body_64 rfl zqd zqe (by decide) ?_
                rintro _ _ _ ⟨_, _, ⟨v3, rfl, rfl, rfl⟩, hΓ, hH⟩
                simp only [List.cons_append, List.nil_append] at hΓ hH; subst hΓ hH
                rw [← hF]
                refine JO.nil ?_
                refine JQ.then_normal ?_
                refine JC.exit ?_
                refine JQ.block_exit ?_
                refine JQ.then_normal ?_
                refine JC.seq ?_
                refine JC.seq ?_
                refine JC.region ?_
                refine JO.v (Yv.move rfl) (by decide) ?_
                refine JO.v (Yv.nilCheck rfl) (by decide) ?_
                refine JO.v (Yv.fieldAddr fa_117_1 rfl) (by decide) ?_
                refine JO.v (Yv.load1 one_26 rfl (by first | exact Kn.own zqa (by first | exact gm (d := 0) (by rw [ofBytes_length]; decide) | rfl | exact tab_get zqg | exact gm (d := 0) zqg) | exact Kn.ro zqa (by first | exact gm (d := 0) (by rw [ofBytes_length]; decide) | rfl | exact tab_get zqg | exact gm (d := 0) zqg) | exact Kn.row zqa (by first | exact gm (d := 0) (by rw [ofBytes_length]; decide) | rfl | exact tab_get zqg | exact gm (d := 0) zqg) | exact Kn.rd zqc (by first | exact gm (d := 0) (by rw [ofBytes_length]; decide) | rfl | exact tab_get zqg | exact gm (d := 0) zqg) | exact Kn.rd2 zqc (by first | exact gm (d := 0) (by rw [ofBytes_length]; decide) | rfl | exact tab_get zqg | exact gm (d := 0) zqg))) (by decide) ?_
                refine JO.v (Yv.bin rfl rfl BinR.neq_i) (by decide) ?_
                refine JO.nil ?_
                refine JQ.then_normal ?_
                refine JC.cond rfl (fun hc7 => ?_) (fun hc7 => ?_)
                · try simp only [decide_eq_true_eq, decide_eq_false_iff_not, Bool.not_eq_true', Bool.not_eq_false', ne_eq, Decidable.not_not, Bool.not_eq_true, Bool.and_eq_true, Bool.or_eq_true, BitVec.reduceToNat] at hc7
                  have hS : r.sm lim = 0 := by rw [Rdr.sm, if_neg (by omega), if_pos hc7]
                  refine JC.seq ?_
                  refine JC.region ?_
                  refine JO.v (Yv.assign rfl) (by decide) ?_
                  refine JO.nil ?_
                  refine JQ.then_normal ?_
                  refine JC.ret ?_
                  refine JQ.then_ret ?_
                  have hA : r.smA lim = r.smF lim := if_neg (by omega)
                  exact JQ.done (.inr rfl) (Γ' := [Res.rd _ (r.smF lim).b.length 1 ((r.smF lim).b.map u8)]) (H' := [Res.cells p [_, it (r.smF lim).e] 117]) (res1 rfl (RV.tmp rfl)) (Subs.sub zqe) (Picks.perm zqd) ⟨_, by rw [hS] <;> rfl, by rw [hA], by rw [hA]⟩
                · try simp only [decide_eq_true_eq, decide_eq_false_iff_not, Bool.not_eq_true', Bool.not_eq_false', ne_eq, Decidable.not_not, Bool.not_eq_true, Bool.and_eq_true, Bool.or_eq_true, BitVec.reduceToNat] at hc7
                  have hS : r.sm lim = (ofBytes r.smO).getD 0 0 := by rw [Rdr.sm, if_neg (by omega), if_neg (not_not_intro hc7)]
                  refine JC.skip ?_
                  refine JQ.then_normal ?_
                  refine JC.seq ?_
                  refine JC.region ?_
                  first | refine JO.v (Yv.indexArr1 (j := 0) Tryz.underlying87 sz_30 rfl rfl zqb) (by decide) ?_ | refine JO.v (Yv.indexArr1o (j := 0) Tryz.underlying87 sz_30 rfl rfl zqb) (by decide) ?_
                  refine JO.v (Yv.as (v' := u64 ((ofBytes r.smO).getD 0 0)) (Yv.load1 one_30 rfl (by first | exact Kn.own zqa (by first | exact gm (d := 0) (by rw [ofBytes_length]; decide) | rfl | exact tab_get zqg | exact gm (d := 0) zqg) | exact Kn.ro zqa (by first | exact gm (d := 0) (by rw [ofBytes_length]; decide) | rfl | exact tab_get zqg | exact gm (d := 0) zqg) | exact Kn.row zqa (by first | exact gm (d := 0) (by rw [ofBytes_length]; decide) | rfl | exact tab_get zqg | exact gm (d := 0) zqg) | exact Kn.rd zqc (by first | exact gm (d := 0) (by rw [ofBytes_length]; decide) | rfl | exact tab_get zqg | exact gm (d := 0) zqg) | exact Kn.rd2 zqc (by first | exact gm (d := 0) (by rw [ofBytes_length]; decide) | rfl | exact tab_get zqg | exact gm (d := 0) zqg))) rfl) (by decide) ?_
                  refine JO.v (Yv.assign rfl) (by decide) ?_
                  refine JO.nil ?_
                  refine JQ.then_normal ?_
                  refine JC.ret ?_
                  have hA : r.smA lim = r.smF lim := if_neg (by omega)
                  exact JQ.done (.inr rfl) (Γ' := [Res.rd _ (r.smF lim).b.length 1 ((r.smF lim).b.map u8)]) (H' := [Res.cells p [_, it (r.smF lim).e] 117]) (res1 rfl (RV.tmp rfl)) (Subs.sub zqe) (Picks.perm zqd) ⟨_, by rw [hS] <;> rfl, by rw [hA], by rw [hA]⟩
              · try simp only [decide_eq_true_eq, decide_eq_false_iff_not, Bool.not_eq_true', Bool.not_eq_false', ne_eq, Decidable.not_not, Bool.not_eq_true, Bool.and_eq_true, Bool.or_eq_true, BitVec.reduceToNat] at hc6
                have hF : r.smF lim = r.smR := by rw [Rdr.smF, if_neg (not_not_intro hc3), if_neg hc4, if_neg hc5, if_neg hc6]
                rw [← hF]
                refine JC.skip ?_
                refine JQ.then_normal ?_
                refine JC.exit ?_
                refine JQ.block_other (by decide) ?_
                refine JQ.then_exit ?_
                refine JQ.block_other (by decide) ?_
                refine JQ.block_other (by decide) ?_
                refine JQ.then_exit ?_
                refine JQ.block_other (by decide) ?_
                refine JQ.then_exit ?_
                refine JQ.block_exit ?_
                refine JQ.then_normal ?_
                refine JC.seq ?_
                refine JC.seq ?_
                refine JC.region ?_
                refine JO.v (Yv.move rfl) (by decide) ?_
                refine JO.v (Yv.nilCheck rfl) (by decide) ?_
                refine JO.v (Yv.fieldAddr fa_117_1 rfl) (by decide) ?_
                refine JO.v (Yv.load1 one_26 rfl (by first | exact Kn.own zqa (by first | exact gm (d := 0) (by rw [ofBytes_length]; decide) | rfl | exact tab_get zqg | exact gm (d := 0) zqg) | exact Kn.ro zqa (by first | exact gm (d := 0) (by rw [ofBytes_length]; decide) | rfl | exact tab_get zqg | exact gm (d := 0) zqg) | exact Kn.row zqa (by first | exact gm (d := 0) (by rw [ofBytes_length]; decide) | rfl | exact tab_get zqg | exact gm (d := 0) zqg) | exact Kn.rd zqc (by first | exact gm (d := 0) (by rw [ofBytes_length]; decide) | rfl | exact tab_get zqg | exact gm (d := 0) zqg) | exact Kn.rd2 zqc (by first | exact gm (d := 0) (by rw [ofBytes_length]; decide) | rfl | exact tab_get zqg | exact gm (d := 0) zqg))) (by decide) ?_
                refine JO.v (Yv.bin rfl rfl BinR.neq_i) (by decide) ?_
                refine JO.nil ?_
                refine JQ.then_normal ?_
                refine JC.cond rfl (fun hc7 => ?_) (fun hc7 => ?_)
                · try simp only [decide_eq_true_eq, decide_eq_false_iff_not, Bool.not_eq_true', Bool.not_eq_false', ne_eq, Decidable.not_not, Bool.not_eq_true, Bool.and_eq_true, Bool.or_eq_true, BitVec.reduceToNat] at hc7
                  have hS : r.sm lim = 0 := by rw [Rdr.sm, if_neg (by omega), if_pos hc7]
                  refine JC.seq ?_
                  refine JC.region ?_
                  refine JO.v (Yv.assign rfl) (by decide) ?_
                  refine JO.nil ?_
                  refine JQ.then_normal ?_
                  refine JC.ret ?_
                  refine JQ.then_ret ?_
                  have hA : r.smA lim = r.smF lim := if_neg (by omega)
                  exact JQ.done (.inr rfl) (Γ' := [Res.rd _ (r.smF lim).b.length 1 ((r.smF lim).b.map u8)]) (H' := [Res.cells p [_, it (r.smF lim).e] 117]) (res1 rfl (RV.tmp rfl)) (Subs.sub zqe) (Picks.perm zqd) ⟨_, by rw [hS] <;> rfl, by rw [hA], by rw [hA]⟩
                · try simp only [decide_eq_true_eq, decide_eq_false_iff_not, Bool.not_eq_true', Bool.not_eq_false', ne_eq, Decidable.not_not, Bool.not_eq_true, Bool.and_eq_true, Bool.or_eq_true, BitVec.reduceToNat] at hc7
                  have hS : r.sm lim = (ofBytes r.smO).getD 0 0 := by rw [Rdr.sm, if_neg (by omega), if_neg (not_not_intro hc7)]
                  refine JC.skip ?_
                  refine JQ.then_normal ?_
                  refine JC.seq ?_
                  refine JC.region ?_
                  first | refine JO.v (Yv.indexArr1 (j := 0) Tryz.underlying87 sz_30 rfl rfl zqb) (by decide) ?_ | refine JO.v (Yv.indexArr1o (j := 0) Tryz.underlying87 sz_30 rfl rfl zqb) (by decide) ?_
                  refine JO.v (Yv.as (v' := u64 ((ofBytes r.smO).getD 0 0)) (Yv.load1 one_30 rfl (by first | exact Kn.own zqa (by first | exact gm (d := 0) (by rw [ofBytes_length]; decide) | rfl | exact tab_get zqg | exact gm (d := 0) zqg) | exact Kn.ro zqa (by first | exact gm (d := 0) (by rw [ofBytes_length]; decide) | rfl | exact tab_get zqg | exact gm (d := 0) zqg) | exact Kn.row zqa (by first | exact gm (d := 0) (by rw [ofBytes_length]; decide) | rfl | exact tab_get zqg | exact gm (d := 0) zqg) | exact Kn.rd zqc (by first | exact gm (d := 0) (by rw [ofBytes_length]; decide) | rfl | exact tab_get zqg | exact gm (d := 0) zqg) | exact Kn.rd2 zqc (by first | exact gm (d := 0) (by rw [ofBytes_length]; decide) | rfl | exact tab_get zqg | exact gm (d := 0) zqg))) rfl) (by decide) ?_
                  refine JO.v (Yv.assign rfl) (by decide) ?_
                  refine JO.nil ?_
                  refine JQ.then_normal ?_
                  refine JC.ret ?_
                  have hA : r.smA lim = r.smF lim := if_neg (by omega)
                  exact JQ.done (.inr rfl) (Γ' := [Res.rd _ (r.smF lim).b.length 1 ((r.smF lim).b.map u8)]) (H' := [Res.cells p [_, it (r.smF lim).e] 117]) (res1 rfl (RV.tmp rfl)) (Subs.sub zqe) (Picks.perm zqd) ⟨_, by rw [hS] <;> rfl, by rw [hA], by rw [hA]⟩


theorem f65_spec (p : Nat) (v : Value) (r : Rdr) (m : Int) :
    Spec Tryz.prog 65 #[(ptr p 0), it m] [Res.rd v r.b.length 1 (r.b.map u8)] [Res.cells p [v, it r.e] 117]
      (fun o Γ' H' => ∃ v', o = u64 (r.cnt m) ∧ Γ' = [Res.rd v' (r.cntA m).b.length 1 ((r.cntA m).b.map u8)] ∧ H' = [Res.cells p [v', it (r.cntA m).e] 117]) := by
  refine Spec.of_args Tryz.func65 rfl Tryz.ntmps65 (by simp) fun w => ?_
  refine JC.seq ?_
  refine JC.region ?_
  refine JO.v (Yv.assign rfl) (by decide) ?_
  refine JO.nil ?_
  refine JQ.then_normal ?_
  refine JC.seq ?_
  refine JC.seq ?_
  refine JC.region ?_
  refine JO.v (Yv.move rfl) (by decide) ?_
  refine JO.v (Yv.bin rfl rfl BinR.lss_i) (by decide) ?_
  refine JO.nil ?_
  refine JQ.then_normal ?_
  refine JC.cond rfl (fun hc1 => ?_) (fun hc1 => ?_)
  · try simp only [decide_eq_true_eq, decide_eq_false_iff_not, Bool.not_eq_true', Bool.not_eq_false', ne_eq, Decidable.not_not, Bool.not_eq_true, Bool.and_eq_true, Bool.or_eq_true, BitVec.reduceToNat] at hc1
    have hw : r.cntR m = r.wrong 2 := if_pos hc1
    refine JC.region ?_
    refine JO.v (Yv.move rfl) (by decide) ?_
    refine JO.call (f64_spec p v r 2) body_64 rfl zqd zqe (by decide) ?_
    rintro _ _ _ ⟨_, _, ⟨v1, rfl, rfl, rfl⟩, hΓ, hH⟩
    simp only [List.cons_append, List.nil_append] at hΓ hH; subst hΓ hH
    refine JO.nil ?_
    refine JQ.then_normal ?_
    refine JC.seq ?_
    refine JC.region ?_
    refine JO.v (Yv.move rfl) (by decide) ?_
    refine JO.v (Yv.move rfl) (by decide) ?_
    refine JO.v (Yv.conv_i_u64 Tryz.underlying3 Tryz.underlying30 rfl) (by decide) ?_
    refine JO.call (f42_spec p _ _ (BitVec.ofInt 64 m)) body_42 rfl zqd zqe (by decide) ?_
    rintro _ _ _ ⟨_, _, ⟨v2, rfl, rfl, rfl⟩, hΓ, hH⟩
    simp only [List.cons_append, List.nil_append] at hΓ hH; subst hΓ hH
    refine JO.v (Yv.assign rfl) (by decide) ?_
    refine JO.nil ?_
    refine JQ.then_normal ?_
    refine JC.ret ?_
    exact JQ.done (.inr rfl) (Γ' := [Res.rd _ ((r.wrong 2).smA (BitVec.ofInt 64 m)).b.length 1 (((r.wrong 2).smA (BitVec.ofInt 64 m)).b.map u8)]) (H' := [Res.cells p [_, it ((r.wrong 2).smA (BitVec.ofInt 64 m)).e] 117]) (res1 rfl (RV.tmp rfl)) (Subs.sub zqe) (Picks.perm zqd) ⟨_, by rw [Rdr.cnt, hw], by rw [Rdr.cntA, hw], by rw [Rdr.cntA, hw]⟩
  · try simp only [decide_eq_true_eq, decide_eq_false_iff_not, Bool.not_eq_true', Bool.not_eq_false', ne_eq, Decidable.not_not, Bool.not_eq_true, Bool.and_eq_true, Bool.or_eq_true, BitVec.reduceToNat] at hc1
    have hw : r.cntR m = r := if_neg hc1
    refine JC.skip ?_
    refine JQ.then_normal ?_
    refine JC.seq ?_
    refine JC.region ?_
    refine JO.v (Yv.move rfl) (by decide) ?_
    refine JO.v (Yv.move rfl) (by decide) ?_
    refine JO.v (Yv.conv_i_u64 Tryz.underlying3 Tryz.underlying30 rfl) (by decide) ?_
    refine JO.call (f42_spec p _ _ (BitVec.ofInt 64 m)) body_42 rfl zqd zqe (by decide) ?_
    rintro _ _ _ ⟨_, _, ⟨v2, rfl, rfl, rfl⟩, hΓ, hH⟩
    simp only [List.cons_append, List.nil_append] at hΓ hH; subst hΓ hH
    refine JO.v (Yv.assign rfl) (by decide) ?_
    refine JO.nil ?_
    refine JQ.then_normal ?_
    refine JC.ret ?_
    exact JQ.done (.inr rfl) (Γ' := [Res.rd _ (r.smA (BitVec.ofInt 64 m)).b.length 1 ((r.smA (BitVec.ofInt 64 m)).b.map u8)]) (H' := [Res.cells p [_, it (r.smA (BitVec.ofInt 64 m)).e] 117]) (res1 rfl (RV.tmp rfl)) (Subs.sub zqe) (Picks.perm zqd) ⟨_, by rw [Rdr.cnt, hw], by rw [Rdr.cntA, hw], by rw [Rdr.cntA, hw]⟩


theorem f43_spec (p : Nat) (v : Value) (r : Rdr) (m : Int) (hb : r.b.length ≤ 1000000000) :
    Spec Tryz.prog 43 #[(ptr p 0), it m] [Res.rd v r.b.length 1 (r.b.map u8)] [Res.cells p [v, it r.e] 117]
      (fun o Γ' H' => ∃ v', True ∧ Γ' = [Res.rd v' (r.byA m).b.length 1 ((r.byA m).b.map u8)] ∧ H' = [Res.row o (r.byO m).length 5 1 ((r.byO m).map u8), Res.cells p [v', it (r.byA m).e] 117]) := by
  refine Spec.of_args Tryz.func43 rfl Tryz.ntmps43 (by simp) fun w => ?_
  have hbo := Rdr.byO_b r m
  refine JC.seq ?_
  refine JC.region ?_
  refine JO.v (Yv.assign rfl) (by decide) ?_
  refine JO.nil ?_
  refine JQ.then_normal ?_
  refine JC.seq ?_
  refine JC.region ?_
  refine JO.v (Yv.move rfl) (by decide) ?_
  refine JO.v (Yv.move rfl) (by decide) ?_
  refine JO.v (Yv.move rfl) (by decide) ?_
  refine JO.call (f65_spec p v r m) body_65 rfl zqd zqe (by decide) ?_
  rintro _ _ _ ⟨_, _, ⟨v1, rfl, rfl, rfl⟩, hΓ, hH⟩
  simp only [List.cons_append, List.nil_append] at hΓ hH; subst hΓ hH
  refine JO.call (f62_spec p v1 (r.cntA m) (r.cnt m)) body_62 rfl zqd zqe (by decide) ?_
  rintro v9 _ _ ⟨_, _, ⟨v2, _, rfl, rfl⟩, hΓ, hH⟩
  simp only [List.cons_append, List.nil_append] at hΓ hH; subst hΓ hH
  rw [← show r.byA m = (r.cntA m).aft (r.cnt m).toNat from rfl, ← show r.byO m = (r.cntA m).out (r.cnt m).toNat from rfl]
  refine JO.callB (f27_spec v9 (r.byO m).length ((r.byO m).map u8) (by omega) (one_map fun _ => rfl)) body_27 rfl zqd (by repeat (first | exact Lends.nil _ | apply Lends.cons | exact Lend.same _ _ | exact Lend.row _ _ _ _ _ _ (by decide) | apply Lend.there)) (by rintro _ _ _ ⟨_, h, _⟩; exact h) (by decide) ?_
  rintro v10 _ ⟨_, ⟨_, _, rfl⟩, hH⟩
  simp only [List.cons_append, List.nil_append] at hH; subst hH
  refine JO.v (Yv.assign rfl) (by decide) ?_
  refine JO.nil ?_
  refine JQ.then_normal ?_
  refine JC.ret ?_
  exact JQ.done (.inr rfl) (Γ' := [Res.rd _ (r.byA m).b.length 1 ((r.byA m).b.map u8)]) (H' := [Res.row _ (r.byO m).length 5 1 ((r.byO m).map u8), Res.cells p [_, it (r.byA m).e] 117]) (res1 rfl (RV.tmp rfl)) (Subs.sub zqe) (Picks.perm zqd) ⟨_, trivial, rfl, rfl⟩


theorem f44_spec (p : Nat) (v : Value) (r : Rdr) :
    Spec Tryz.prog 44 #[(ptr p 0)] [Res.rd v r.b.length 1 (r.b.map u8)] [Res.cells p [v, it r.e] 117]
      (fun o Γ' H' => o = it r.fin ∧ Γ' = [] ∧ H' = [Res.cells p [v, it r.e] 117]) := by
  refine Spec.of_args Tryz.func44 rfl Tryz.ntmps44 (by simp) fun w => ?_
  refine JC.seq ?_
  refine JC.region ?_
  refine JO.v (Yv.assign rfl) (by decide) ?_
  refine JO.nil ?_
  refine JQ.then_normal ?_
  refine JC.seq ?_
  refine JC.seq ?_
  refine JC.region ?_
  refine JO.v (Yv.move rfl) (by decide) ?_
  refine JO.v (Yv.nilCheck rfl) (by decide) ?_
  refine JO.v (Yv.fieldAddr fa_117_1 rfl) (by decide) ?_
  refine JO.v (Yv.load1 one_26 rfl (by first | exact Kn.own zqa (by first  | rfl | exact tab_get zqg | exact gm (d := 0) zqg) | exact Kn.ro zqa (by first  | rfl | exact tab_get zqg | exact gm (d := 0) zqg) | exact Kn.row zqa (by first  | rfl | exact tab_get zqg | exact gm (d := 0) zqg) | exact Kn.rd zqc (by first  | rfl | exact tab_get zqg | exact gm (d := 0) zqg) | exact Kn.rd2 zqc (by first  | rfl | exact tab_get zqg | exact gm (d := 0) zqg))) (by decide) ?_
  refine JO.v (Yv.bin rfl rfl BinR.eql_i) (by decide) ?_
  refine JO.v (Yv.move rfl) (by decide) ?_
  refine JO.join 7 15 (.bool (decide (r.e = 0 ∧ 0 < r.b.length))) ?_ ?_
  · skip
    refine JO.gsplit (g := 7) rfl (fun hg8 => ?_) (fun hg8 => ?_)
    · have hg8' := hg8
      try simp only [decide_eq_true_eq, decide_eq_false_iff_not, Bool.not_eq_true', Bool.not_eq_false', ne_eq, Decidable.not_not, Bool.not_eq_true, Bool.and_eq_true, Bool.or_eq_true, BitVec.reduceToNat] at hg8'
      refine JO.gt (g := 8) rfl rfl hg8 ?_
      refine JO.v (Yv.move rfl) (by decide) ?_
      refine JO.gt (g := 8) rfl rfl hg8 ?_
      refine JO.v (Yv.nilCheck rfl) (by decide) ?_
      refine JO.gt (g := 8) rfl rfl hg8 ?_
      refine JO.v (Yv.fieldAddr fa_117_0 rfl) (by decide) ?_
      refine JO.gt (g := 8) rfl rfl hg8 ?_
      refine JO.v (Yv.load1 one_23 rfl (by first | exact Kn.own zqa (by first  | rfl | exact tab_get zqg | exact gm (d := 0) zqg) | exact Kn.ro zqa (by first  | rfl | exact tab_get zqg | exact gm (d := 0) zqg) | exact Kn.row zqa (by first  | rfl | exact tab_get zqg | exact gm (d := 0) zqg) | exact Kn.rd zqc (by first  | rfl | exact tab_get zqg | exact gm (d := 0) zqg) | exact Kn.rd2 zqc (by first  | rfl | exact tab_get zqg | exact gm (d := 0) zqg))) (by decide) ?_
      refine JO.gt (g := 8) rfl rfl hg8 ?_
      first | refine JO.v (Yv.len_s Tryz.underlying23 rfl) (by decide) ?_ | refine JO.v (Yv.lenRd Tryz.underlying23 rfl zqc) (by decide) ?_
      refine JO.gt (g := 8) rfl rfl hg8 ?_
      refine JO.v (Yv.bin rfl rfl BinR.gtr_i) (by decide) ?_
      refine JO.v (Yv.pick1 rfl hg8 rfl) (by decide) ?_
      refine JO.nil ?_
      refine JQ.head () (by first | (refine ⟨by first | rfl | (simp [*]; done) | (show some _ = some _; simp [*]; done), ?_⟩; repeat (first | exact trivial | refine ⟨rfl, ?_⟩))) (Subs.sub zqe) (Picks.perm zqd) ?_
      trivial
    · have hg8' := hg8
      try simp only [decide_eq_true_eq, decide_eq_false_iff_not, Bool.not_eq_true', Bool.not_eq_false', ne_eq, Decidable.not_not, Bool.not_eq_true, Bool.and_eq_true, Bool.or_eq_true, BitVec.reduceToNat] at hg8'
      refine JO.gf (g := 8) rfl rfl hg8 (by decide) ?_
      refine JO.gf (g := 8) rfl rfl hg8 (by decide) ?_
      refine JO.gf (g := 8) rfl rfl hg8 (by decide) ?_
      refine JO.gf (g := 8) rfl rfl hg8 (by decide) ?_
      refine JO.gf (g := 8) rfl rfl hg8 (by decide) ?_
      refine JO.gf (g := 8) rfl rfl hg8 (by decide) ?_
      refine JO.v (Yv.pick0 rfl hg8 rfl) (by decide) ?_
      refine JO.nil ?_
      refine JQ.head () (by first | (refine ⟨by first | rfl | (simp [*]; done) | (show some _ = some _; simp [*]; done), ?_⟩; repeat (first | exact trivial | refine ⟨rfl, ?_⟩))) (Subs.sub zqe) (Picks.perm zqd) ?_
      trivial
  · skip
    refine JO.nil ?_
    refine JQ.then_normal ?_
    refine JC.cond rfl (fun hc1 => ?_) (fun hc1 => ?_)
    · try simp only [decide_eq_true_eq, decide_eq_false_iff_not, Bool.not_eq_true', Bool.not_eq_false', ne_eq, Decidable.not_not, Bool.not_eq_true, Bool.and_eq_true, Bool.or_eq_true, BitVec.reduceToNat] at hc1
      have hf : r.fin = 30 := if_pos hc1
      refine JC.seq ?_
      refine JC.region ?_
      refine JO.v (Yv.assign rfl) (by decide) ?_
      refine JO.nil ?_
      refine JQ.then_normal ?_
      refine JC.ret ?_
      refine JQ.then_ret ?_
      exact JQ.done (.inr rfl) (Γ' := []) (H' := [Res.cells p [v, it r.e] 117]) (res1 rfl (RV.tmp rfl)) (Subs.sub zqe) (Picks.perm zqd) ⟨by rw [hf] <;> rfl, rfl, rfl⟩
    · try simp only [decide_eq_true_eq, decide_eq_false_iff_not, Bool.not_eq_true', Bool.not_eq_false', ne_eq, Decidable.not_not, Bool.not_eq_true, Bool.and_eq_true, Bool.or_eq_true, BitVec.reduceToNat] at hc1
      have hf : r.fin = r.e := if_neg hc1
      refine JC.skip ?_
      refine JQ.then_normal ?_
      refine JC.seq ?_
      refine JC.region ?_
      refine JO.v (Yv.move rfl) (by decide) ?_
      refine JO.v (Yv.nilCheck rfl) (by decide) ?_
      refine JO.v (Yv.fieldAddr fa_117_1 rfl) (by decide) ?_
      refine JO.v (Yv.load1 one_26 rfl (by first | exact Kn.own zqa (by first  | rfl | exact tab_get zqg | exact gm (d := 0) zqg) | exact Kn.ro zqa (by first  | rfl | exact tab_get zqg | exact gm (d := 0) zqg) | exact Kn.row zqa (by first  | rfl | exact tab_get zqg | exact gm (d := 0) zqg) | exact Kn.rd zqc (by first  | rfl | exact tab_get zqg | exact gm (d := 0) zqg) | exact Kn.rd2 zqc (by first  | rfl | exact tab_get zqg | exact gm (d := 0) zqg))) (by decide) ?_
      refine JO.v (Yv.assign rfl) (by decide) ?_
      refine JO.nil ?_
      refine JQ.then_normal ?_
      refine JC.ret ?_
      exact JQ.done (.inr rfl) (Γ' := []) (H' := [Res.cells p [v, it r.e] 117]) (res1 rfl (RV.tmp rfl)) (Subs.sub zqe) (Picks.perm zqd) ⟨by rw [hf] <;> rfl, rfl, rfl⟩
end Go.Proofs.YthfipbjmpeegbaaGreatDoor
