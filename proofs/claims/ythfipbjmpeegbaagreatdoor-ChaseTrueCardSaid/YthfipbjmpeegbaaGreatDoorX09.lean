/- Texts of ours, gathered: S5 A14 I7 T1 C1 C4 K9 K12. -/
import Derived.Lib.AppendStr
import Derived.Lib.ConvBytes
import Derived.Laws.Externs
import Derived.Test.YthfipbjmpeegbaaGreatDoorX08
/- Walks: the document's digest. -/
namespace Go.Proofs.YthfipbjmpeegbaaGreatDoor
open Go.RowKit
set_option maxRecDepth 100000
set_option linter.unusedVariables false
set_option linter.unusedSimpArgs false
set_option maxHeartbeats 400000 in
theorem f81_spec (s : List W32) (hs : s.length = 8) (v : Value) (b : B8) (hb : b.length = 64) :
    Spec Tryz.prog 81 #[(.agg (s.map u32).toArray), v] [Res.rd v b.length 1 (b.map u8)] []
      (fun r Γ' H' => r = (.agg ((comp s b).map u32).toArray) ∧ Γ' = [] ∧ H' = []) := by
  refine Spec.of_args Tryz.func81 rfl Tryz.ntmps81 (by simp) fun w => ?_
  refine JC.seq ?_
  refine JC.region ?_
  refine JO.box rfl _ rfl (by decide) fun b2 => ?_
  refine JO.alloc _ zero_139 rfl (by decide) fun b4 => ?_
  refine JO.nil ?_
  refine JQ.then_normal ?_
  refine JC.seq ?_
  refine JC.region ?_
  refine JO.v (Yv.build (cs := cub.map u32) bld_164 rfl (by kernel_rfl)) (by decide) ?_
  refine JO.alloc _ zero_164 rfl (by decide) fun b5 => ?_
  first | refine JO.storeAll sz_164 rfl rfl rfl (by first | rfl | (simp; done) | (simp; omega)) (by first | (simp; done) | exact one_map (fun _ => rfl) | exact one_tab (fun _ => rfl) | exact one_tab (fun _ => by split <;> rfl)) (by repeat (first | exact Upd.here _ _ _ | apply Upd.there)) (by first | rfl | (simp; done) | (simp; omega)) ?_ | refine JO.store sz_164 rfl rfl rfl (by first | rfl | (simp; done) | (simp; omega)) (by first | (simp; done) | exact one_sing rfl | exact one_map (fun _ => rfl) | exact one_piece (one_map (fun _ => rfl)) | exact one_tab (fun _ => rfl) | exact one_tab (fun _ => by split <;> rfl)) (by repeat (first | exact Upd.here _ _ _ | apply Upd.there)) zqb ?_ | refine JO.storeRow sz_164 rfl rfl rfl (by first | rfl | simp) (by first | (simp; done) | exact one_map (fun _ => rfl) | exact one_tab (fun _ => rfl) | exact one_tab (fun _ => by split <;> rfl)) (by repeat (first | exact Upd.here _ _ _ | apply Upd.there)) zqb zqb ?_
  refine JO.nil ?_
  refine JQ.then_normal ?_
  refine JC.seq ?_
  refine JC.region ?_
  refine JO.alloc _ zero_164 rfl (by decide) fun b6 => ?_
  refine JO.nil ?_
  refine JQ.then_normal ?_
  refine JC.seq ?_
  refine JC.seq ?_
  refine JC.region ?_
  refine JO.v (Yv.assign rfl) (by decide) ?_
  refine JO.nil ?_
  refine JQ.then_normal ?_
  refine JC.block ?_
  refine JC.loop (ι := Nat) (fun x => x ≤ 16) (fun x => [(1, v), (2, ptr b2 0), (4, ptr b4 0), (5, ptr b5 0), (6, ptr b6 0), (7, it (x : Int))]) (fun x => [Res.rd v b.length 1 (b.map u8)]) (fun x => [Res.cells b2 (s.map u32) 139, Res.cells b4 (List.replicate 8 (u32 0)) 139, Res.cells b5 (cub.map u32) 164, Res.cells b6 (schT b x) 164]) (fun x => 16 - x) 0 (by repeat (first | exact trivial | refine ⟨by first | rfl | (simp; done), ?_⟩)) (Subs.sub zqe) (Picks.perm zqd) ?_ (fun x hx => ?_)
  · exact Nat.zero_le _
  refine JC.seq ?_
  refine JC.seq ?_
  refine JC.region ?_
  refine JO.v (Yv.move rfl) (by decide) ?_
  refine JO.v (Yv.bin rfl rfl BinR.lss_i) (by decide) ?_
  refine JO.nil ?_
  refine JQ.then_normal ?_
  refine JC.cond rfl (fun hc1 => ?_) (fun hc1 => ?_)
  · try simp only [decide_eq_true_eq, decide_eq_false_iff_not, Bool.not_eq_true', Bool.not_eq_false', ne_eq, Decidable.not_not, Bool.not_eq_true, Bool.and_eq_true, Bool.or_eq_true, BitVec.reduceToNat] at hc1
    refine JC.skip ?_
    refine JQ.then_normal ?_
    refine JC.seq ?_
    refine JC.block ?_
    refine JC.draw (.one 0 (.one 1 (.one 2 (.one 3 (.one 4 (.one 5 (.one 6 (.one 7 (.one 8 (.one 9 (.one 10 (.one 11 (.one 12 (.one 13 (.one 14 (.one 15 (.one 16 (.one 17 (.one 18 (.one 19 (.one 20 (.one 21 (.one 22 (.one 23 (.one 24 (.one 25 (.one 26 (.one 27 (.one 28 (.one 29 (.one 30 (.one 31 (.one 32 (.one 33 (.one 34 (.one 35 .nil)))))))))))))))))))))))))))))))))))) (fun i => ([35] : List Nat).contains i) (fun i => ([35] : List Nat).contains i) (fun i => ([0, 1, 2, 3, 4, 6, 7, 8, 9, 10, 11, 12, 14, 15, 16, 17, 18, 19, 20, 21, 23, 24, 25, 26, 27, 28, 29, 30, 32, 33, 34] : List Nat).contains i) mixed (by kernel_rfl) (by decide) (by kernel_rfl) ?_
    refine JR.u rfl rfl rfl (Yv.move rfl) (by decide) ?_
    refine JR.u rfl rfl rfl (Yv.move rfl) (by decide) ?_
    refine JR.u rfl rfl rfl (Yv.move rfl) (by decide) ?_
    refine JR.u rfl rfl rfl (Yv.as (v' := it ((4 * x : Nat) : Int)) (Yv.bin rfl rfl (BinR.mul_i zqf)) (congrArg it (by omega))) (by decide) ?_
    first | refine JR.u rfl rfl rfl (Yv.indexRow1 Tryz.underlying23 sz_5 rfl rfl zqa zqb) (by decide) ?_ | refine JR.u rfl rfl rfl (Yv.indexRd1 Tryz.underlying23 sz_5 rfl rfl zqc zqb) (by decide) ?_
    refine JR.v rfl rfl rfl (Yv.load1 one_5 rfl (by first | exact Kn.own zqa (by first | first | exact schT_get b (by omega) (by omega) | exact adT_get s v8 (by omega) | rfl | exact tab_get zqg | exact gm (d := 0) zqg) | exact Kn.ro zqa (by first | first | exact schT_get b (by omega) (by omega) | exact adT_get s v8 (by omega) | rfl | exact tab_get zqg | exact gm (d := 0) zqg) | exact Kn.row zqa (by first | first | exact schT_get b (by omega) (by omega) | exact adT_get s v8 (by omega) | rfl | exact tab_get zqg | exact gm (d := 0) zqg) | exact Kn.rd zqc (by first | first | exact schT_get b (by omega) (by omega) | exact adT_get s v8 (by omega) | rfl | exact tab_get zqg | exact gm (d := 0) zqg) | exact Kn.rd2 zqc (by first | first | exact schT_get b (by omega) (by omega) | exact adT_get s v8 (by omega) | rfl | exact tab_get zqg | exact gm (d := 0) zqg) | exact Kn.var zqa (by first | first | exact schT_get b (by omega) (by omega) | exact adT_get s v8 (by omega) | rfl | exact tab_get zqg | exact gm (d := 0) zqg))) (by decide) ?_
    refine JR.u rfl rfl rfl (Yv.conv_u8_u32 Tryz.underlying5 Tryz.underlying138 rfl) (by decide) ?_
    refine JR.u rfl rfl rfl (Yv.bin rfl rfl (BinR.mul_u32 (b := 16777216#32))) (by decide) ?_
    refine JR.u rfl rfl rfl (Yv.move rfl) (by decide) ?_
    refine JR.u rfl rfl rfl (Yv.move rfl) (by decide) ?_
    refine JR.u rfl rfl rfl (Yv.bin rfl rfl (BinR.mul_i zqf)) (by decide) ?_
    refine JR.u rfl rfl rfl (Yv.as (v' := it ((4 * x + 1 : Nat) : Int)) (Yv.bin rfl rfl (BinR.add_i zqf)) (congrArg it (by omega))) (by decide) ?_
    first | refine JR.u rfl rfl rfl (Yv.indexRow1 Tryz.underlying23 sz_5 rfl rfl zqa zqb) (by decide) ?_ | refine JR.u rfl rfl rfl (Yv.indexRd1 Tryz.underlying23 sz_5 rfl rfl zqc zqb) (by decide) ?_
    refine JR.v rfl rfl rfl (Yv.load1 one_5 rfl (by first | exact Kn.own zqa (by first | first | exact schT_get b (by omega) (by omega) | exact adT_get s v8 (by omega) | rfl | exact tab_get zqg | exact gm (d := 0) zqg) | exact Kn.ro zqa (by first | first | exact schT_get b (by omega) (by omega) | exact adT_get s v8 (by omega) | rfl | exact tab_get zqg | exact gm (d := 0) zqg) | exact Kn.row zqa (by first | first | exact schT_get b (by omega) (by omega) | exact adT_get s v8 (by omega) | rfl | exact tab_get zqg | exact gm (d := 0) zqg) | exact Kn.rd zqc (by first | first | exact schT_get b (by omega) (by omega) | exact adT_get s v8 (by omega) | rfl | exact tab_get zqg | exact gm (d := 0) zqg) | exact Kn.rd2 zqc (by first | first | exact schT_get b (by omega) (by omega) | exact adT_get s v8 (by omega) | rfl | exact tab_get zqg | exact gm (d := 0) zqg) | exact Kn.var zqa (by first | first | exact schT_get b (by omega) (by omega) | exact adT_get s v8 (by omega) | rfl | exact tab_get zqg | exact gm (d := 0) zqg))) (by decide) ?_
    refine JR.u rfl rfl rfl (Yv.conv_u8_u32 Tryz.underlying5 Tryz.underlying138 rfl) (by decide) ?_
    refine JR.u rfl rfl rfl (Yv.bin rfl rfl (BinR.mul_u32 (b := 65536#32))) (by decide) ?_
    refine JR.u rfl rfl rfl (Yv.bin rfl rfl (BinR.add_u32)) (by decide) ?_
    refine JR.u rfl rfl rfl (Yv.move rfl) (by decide) ?_
    refine JR.u rfl rfl rfl (Yv.move rfl) (by decide) ?_
    refine JR.u rfl rfl rfl (Yv.bin rfl rfl (BinR.mul_i zqf)) (by decide) ?_
    refine JR.u rfl rfl rfl (Yv.as (v' := it ((4 * x + 2 : Nat) : Int)) (Yv.bin rfl rfl (BinR.add_i zqf)) (congrArg it (by omega))) (by decide) ?_
    first | refine JR.u rfl rfl rfl (Yv.indexRow1 Tryz.underlying23 sz_5 rfl rfl zqa zqb) (by decide) ?_ | refine JR.u rfl rfl rfl (Yv.indexRd1 Tryz.underlying23 sz_5 rfl rfl zqc zqb) (by decide) ?_
    refine JR.v rfl rfl rfl (Yv.load1 one_5 rfl (by first | exact Kn.own zqa (by first | first | exact schT_get b (by omega) (by omega) | exact adT_get s v8 (by omega) | rfl | exact tab_get zqg | exact gm (d := 0) zqg) | exact Kn.ro zqa (by first | first | exact schT_get b (by omega) (by omega) | exact adT_get s v8 (by omega) | rfl | exact tab_get zqg | exact gm (d := 0) zqg) | exact Kn.row zqa (by first | first | exact schT_get b (by omega) (by omega) | exact adT_get s v8 (by omega) | rfl | exact tab_get zqg | exact gm (d := 0) zqg) | exact Kn.rd zqc (by first | first | exact schT_get b (by omega) (by omega) | exact adT_get s v8 (by omega) | rfl | exact tab_get zqg | exact gm (d := 0) zqg) | exact Kn.rd2 zqc (by first | first | exact schT_get b (by omega) (by omega) | exact adT_get s v8 (by omega) | rfl | exact tab_get zqg | exact gm (d := 0) zqg) | exact Kn.var zqa (by first | first | exact schT_get b (by omega) (by omega) | exact adT_get s v8 (by omega) | rfl | exact tab_get zqg | exact gm (d := 0) zqg))) (by decide) ?_
    refine JR.u rfl rfl rfl (Yv.conv_u8_u32 Tryz.underlying5 Tryz.underlying138 rfl) (by decide) ?_
    refine JR.u rfl rfl rfl (Yv.bin rfl rfl (BinR.mul_u32 (b := 256#32))) (by decide) ?_
    refine JR.u rfl rfl rfl (Yv.bin rfl rfl (BinR.add_u32)) (by decide) ?_
    refine JR.u rfl rfl rfl (Yv.move rfl) (by decide) ?_
    refine JR.u rfl rfl rfl (Yv.move rfl) (by decide) ?_
    refine JR.u rfl rfl rfl (Yv.bin rfl rfl (BinR.mul_i zqf)) (by decide) ?_
    refine JR.u rfl rfl rfl (Yv.as (v' := it ((4 * x + 3 : Nat) : Int)) (Yv.bin rfl rfl (BinR.add_i zqf)) (congrArg it (by omega))) (by decide) ?_
    first | refine JR.u rfl rfl rfl (Yv.indexRow1 Tryz.underlying23 sz_5 rfl rfl zqa zqb) (by decide) ?_ | refine JR.u rfl rfl rfl (Yv.indexRd1 Tryz.underlying23 sz_5 rfl rfl zqc zqb) (by decide) ?_
    refine JR.v rfl rfl rfl (Yv.load1 one_5 rfl (by first | exact Kn.own zqa (by first | first | exact schT_get b (by omega) (by omega) | exact adT_get s v8 (by omega) | rfl | exact tab_get zqg | exact gm (d := 0) zqg) | exact Kn.ro zqa (by first | first | exact schT_get b (by omega) (by omega) | exact adT_get s v8 (by omega) | rfl | exact tab_get zqg | exact gm (d := 0) zqg) | exact Kn.row zqa (by first | first | exact schT_get b (by omega) (by omega) | exact adT_get s v8 (by omega) | rfl | exact tab_get zqg | exact gm (d := 0) zqg) | exact Kn.rd zqc (by first | first | exact schT_get b (by omega) (by omega) | exact adT_get s v8 (by omega) | rfl | exact tab_get zqg | exact gm (d := 0) zqg) | exact Kn.rd2 zqc (by first | first | exact schT_get b (by omega) (by omega) | exact adT_get s v8 (by omega) | rfl | exact tab_get zqg | exact gm (d := 0) zqg) | exact Kn.var zqa (by first | first | exact schT_get b (by omega) (by omega) | exact adT_get s v8 (by omega) | rfl | exact tab_get zqg | exact gm (d := 0) zqg))) (by decide) ?_
    refine JR.u rfl rfl rfl (Yv.conv_u8_u32 Tryz.underlying5 Tryz.underlying138 rfl) (by decide) ?_
    refine JR.u rfl rfl rfl (Yv.as (v' := u32 (W b x)) (Yv.bin rfl rfl (BinR.add_u32)) (congrArg u32 (by rw [W_lo b (by omega)]; exact wd_sum _ _ _ _))) (by decide) ?_
    first | refine JR.u rfl rfl rfl (Yv.indexArr1 Tryz.underlying164 sz_138 rfl rfl zqb) (by decide) ?_ | refine JR.u rfl rfl rfl (Yv.indexArr1o Tryz.underlying164 sz_138 rfl rfl zqb) (by decide) ?_
    first | refine JR.m0 rfl rfl (Mv.store1 sz_138 rfl rfl rfl (by repeat (first | exact Upd.here _ _ _ | apply Upd.there)) zqb) ?_ | refine JR.m0 rfl rfl (Mv.storeRow1 sz_138 rfl rfl rfl (by repeat (first | exact Upd.here _ _ _ | apply Upd.there)) zqb (by first | rfl | (simp; done) | omega | (simp; omega))) ?_
    rintro _ _ _ ⟨rfl, rfl⟩
    refine ⟨⟨Subs.sub zqe, .inl rfl⟩, ?_⟩
    refine JR.nil ?_
    refine JQ.block_normal ?_
    refine JQ.then_normal ?_
    refine JC.region ?_
    refine JO.v (Yv.move rfl) (by decide) ?_
    refine JO.v (Yv.bin rfl rfl (BinR.add_i zqf)) (by decide) ?_
    refine JO.v (Yv.assign rfl) (by decide) ?_
    refine JO.nil ?_
    rw [schT_set]
    refine JQ.head (x + 1) (by repeat (first | exact trivial | refine ⟨by first | rfl | (simp; done), ?_⟩)) (Subs.sub zqe) (Picks.perm zqd) ?_
    exact ⟨by omega, by omega⟩
  · try simp only [decide_eq_true_eq, decide_eq_false_iff_not, Bool.not_eq_true', Bool.not_eq_false', ne_eq, Decidable.not_not, Bool.not_eq_true, Bool.and_eq_true, Bool.or_eq_true, BitVec.reduceToNat] at hc1
    obtain rfl : x = 16 := by omega
    refine JC.exit ?_
    refine JQ.then_exit ?_
    refine JQ.then_exit ?_
    refine JQ.block_exit ?_
    refine JQ.then_normal ?_
    refine JC.seq ?_
    refine JC.seq ?_
    refine JC.region ?_
    refine JO.v (Yv.assign rfl) (by decide) ?_
    refine JO.nil ?_
    refine JQ.then_normal ?_
    refine JC.block ?_
    refine JC.loop (ι := Nat) (fun x => 16 ≤ x ∧ x ≤ 64) (fun x => [(1, v), (2, ptr b2 0), (4, ptr b4 0), (5, ptr b5 0), (6, ptr b6 0), (8, it (x : Int))]) (fun x => [Res.rd v b.length 1 (b.map u8)]) (fun x => [Res.cells b2 (s.map u32) 139, Res.cells b4 (List.replicate 8 (u32 0)) 139, Res.cells b5 (cub.map u32) 164, Res.cells b6 (schT b x) 164]) (fun x => 64 - x) 16 (by repeat (first | exact trivial | refine ⟨by first | rfl | (simp; done), ?_⟩)) (Subs.sub zqe) (Picks.perm zqd) ?_ (fun x hx => ?_)
    · exact ⟨Nat.le_refl _, by decide⟩
    refine JC.seq ?_
    refine JC.seq ?_
    refine JC.region ?_
    refine JO.v (Yv.move rfl) (by decide) ?_
    refine JO.v (Yv.bin rfl rfl BinR.lss_i) (by decide) ?_
    refine JO.nil ?_
    refine JQ.then_normal ?_
    refine JC.cond rfl (fun hc2 => ?_) (fun hc2 => ?_)
    · try simp only [decide_eq_true_eq, decide_eq_false_iff_not, Bool.not_eq_true', Bool.not_eq_false', ne_eq, Decidable.not_not, Bool.not_eq_true, Bool.and_eq_true, Bool.or_eq_true, BitVec.reduceToNat] at hc2
      refine JC.skip ?_
      refine JQ.then_normal ?_
      refine JC.seq ?_
      refine JC.block ?_
      refine JC.seq ?_
      refine JC.region ?_
      refine JO.v (Yv.move rfl) (by decide) ?_
      refine JO.v (Yv.as (v' := it ((x - 15 : Nat) : Int)) (Yv.bin rfl rfl (BinR.sub_i zqf)) (congrArg it (by omega))) (by decide) ?_
      first | refine JO.v (Yv.indexArr1 Tryz.underlying164 sz_138 rfl rfl zqb) (by decide) ?_ | refine JO.v (Yv.indexArr1o Tryz.underlying164 sz_138 rfl rfl zqb) (by decide) ?_
      refine JO.v (Yv.load1 one_138 rfl (by first | exact Kn.own zqa (by first | first | exact schT_get b (by omega) (by omega) | exact adT_get s v8 (by omega) | rfl | exact tab_get zqg | exact gm (d := 0) zqg) | exact Kn.ro zqa (by first | first | exact schT_get b (by omega) (by omega) | exact adT_get s v8 (by omega) | rfl | exact tab_get zqg | exact gm (d := 0) zqg) | exact Kn.row zqa (by first | first | exact schT_get b (by omega) (by omega) | exact adT_get s v8 (by omega) | rfl | exact tab_get zqg | exact gm (d := 0) zqg) | exact Kn.rd zqc (by first | first | exact schT_get b (by omega) (by omega) | exact adT_get s v8 (by omega) | rfl | exact tab_get zqg | exact gm (d := 0) zqg) | exact Kn.rd2 zqc (by first | first | exact schT_get b (by omega) (by omega) | exact adT_get s v8 (by omega) | rfl | exact tab_get zqg | exact gm (d := 0) zqg) | exact Kn.var zqa (by first | first | exact schT_get b (by omega) (by omega) | exact adT_get s v8 (by omega) | rfl | exact tab_get zqg | exact gm (d := 0) zqg))) (by decide) ?_
      refine JO.v (Yv.assign rfl) (by decide) ?_
      refine JO.nil ?_
      refine JQ.then_normal ?_
      refine JC.seq ?_
      refine JC.region ?_
      refine JO.v (Yv.move rfl) (by decide) ?_
      refine JO.v (Yv.as (v' := it ((x - 2 : Nat) : Int)) (Yv.bin rfl rfl (BinR.sub_i zqf)) (congrArg it (by omega))) (by decide) ?_
      first | refine JO.v (Yv.indexArr1 Tryz.underlying164 sz_138 rfl rfl zqb) (by decide) ?_ | refine JO.v (Yv.indexArr1o Tryz.underlying164 sz_138 rfl rfl zqb) (by decide) ?_
      refine JO.v (Yv.load1 one_138 rfl (by first | exact Kn.own zqa (by first | first | exact schT_get b (by omega) (by omega) | exact adT_get s v8 (by omega) | rfl | exact tab_get zqg | exact gm (d := 0) zqg) | exact Kn.ro zqa (by first | first | exact schT_get b (by omega) (by omega) | exact adT_get s v8 (by omega) | rfl | exact tab_get zqg | exact gm (d := 0) zqg) | exact Kn.row zqa (by first | first | exact schT_get b (by omega) (by omega) | exact adT_get s v8 (by omega) | rfl | exact tab_get zqg | exact gm (d := 0) zqg) | exact Kn.rd zqc (by first | first | exact schT_get b (by omega) (by omega) | exact adT_get s v8 (by omega) | rfl | exact tab_get zqg | exact gm (d := 0) zqg) | exact Kn.rd2 zqc (by first | first | exact schT_get b (by omega) (by omega) | exact adT_get s v8 (by omega) | rfl | exact tab_get zqg | exact gm (d := 0) zqg) | exact Kn.var zqa (by first | first | exact schT_get b (by omega) (by omega) | exact adT_get s v8 (by omega) | rfl | exact tab_get zqg | exact gm (d := 0) zqg))) (by decide) ?_
      refine JO.v (Yv.assign rfl) (by decide) ?_
      refine JO.nil ?_
      refine JQ.then_normal ?_
      refine JC.draw (.one 0 (.one 1 (.one 2 (.one 3 (.one 4 (.one 5 (.one 7 (.one 10 (.one 11 (.one 14 (.one 15 (.one 16 (.one 17 (.one 19 (.one 21 (.one 24 (.one 25 (.one 6 (.one 8 (.one 9 (.one 12 (.one 13 (.one 18 (.one 20 (.one 22 (.one 23 (.one 26 (.one 27 (.one 28 (.one 29 .nil)))))))))))))))))))))))))))))) (fun i => ([29] : List Nat).contains i) (fun i => ([6, 8, 20, 22, 29] : List Nat).contains i) (fun i => ([0, 1, 2, 3, 5, 7, 9, 10, 11, 12, 13, 14, 15, 16, 18, 19, 21, 23, 24, 25, 26, 27, 28] : List Nat).contains i) mixed (by kernel_rfl) (by decide) (by kernel_rfl) ?_
      refine JR.u rfl rfl rfl (Yv.move rfl) (by decide) ?_
      refine JR.u rfl rfl rfl (Yv.move rfl) (by decide) ?_
      refine JR.u rfl rfl rfl (Yv.as (v' := it ((x - 16 : Nat) : Int)) (Yv.bin rfl rfl (BinR.sub_i zqf)) (congrArg it (by omega))) (by decide) ?_
      first | refine JR.u rfl rfl rfl (Yv.indexArr1 Tryz.underlying164 sz_138 rfl rfl zqb) (by decide) ?_ | refine JR.u rfl rfl rfl (Yv.indexArr1o Tryz.underlying164 sz_138 rfl rfl zqb) (by decide) ?_
      refine JR.v rfl rfl rfl (Yv.load1 one_138 rfl (by first | exact Kn.own zqa (by first | first | exact schT_get b (by omega) (by omega) | exact adT_get s v8 (by omega) | rfl | exact tab_get zqg | exact gm (d := 0) zqg) | exact Kn.ro zqa (by first | first | exact schT_get b (by omega) (by omega) | exact adT_get s v8 (by omega) | rfl | exact tab_get zqg | exact gm (d := 0) zqg) | exact Kn.row zqa (by first | first | exact schT_get b (by omega) (by omega) | exact adT_get s v8 (by omega) | rfl | exact tab_get zqg | exact gm (d := 0) zqg) | exact Kn.rd zqc (by first | first | exact schT_get b (by omega) (by omega) | exact adT_get s v8 (by omega) | rfl | exact tab_get zqg | exact gm (d := 0) zqg) | exact Kn.rd2 zqc (by first | first | exact schT_get b (by omega) (by omega) | exact adT_get s v8 (by omega) | rfl | exact tab_get zqg | exact gm (d := 0) zqg) | exact Kn.var zqa (by first | first | exact schT_get b (by omega) (by omega) | exact adT_get s v8 (by omega) | rfl | exact tab_get zqg | exact gm (d := 0) zqg))) (by decide) ?_
      refine JR.u rfl rfl rfl (Yv.move rfl) (by decide) ?_
      refine JR.u rfl rfl rfl (Yv.move rfl) (by decide) ?_
      refine JR.u rfl rfl rfl (Yv.move rfl) (by decide) ?_
      refine JR.u rfl rfl rfl (Yv.as (v' := u32 (W b (x - 15) >>> 3)) (Yv.bin rfl rfl (BinR.quo_u32 (b := 8#32) (by decide))) (congrArg u32 (shr_div _ 3 8 (by decide) (by decide)))) (by decide) ?_
      refine JR.u rfl rfl rfl (Yv.move rfl) (by decide) ?_
      refine JR.u rfl rfl rfl (Yv.as (v' := it ((x - 7 : Nat) : Int)) (Yv.bin rfl rfl (BinR.sub_i zqf)) (congrArg it (by omega))) (by decide) ?_
      first | refine JR.u rfl rfl rfl (Yv.indexArr1 Tryz.underlying164 sz_138 rfl rfl zqb) (by decide) ?_ | refine JR.u rfl rfl rfl (Yv.indexArr1o Tryz.underlying164 sz_138 rfl rfl zqb) (by decide) ?_
      refine JR.v rfl rfl rfl (Yv.load1 one_138 rfl (by first | exact Kn.own zqa (by first | first | exact schT_get b (by omega) (by omega) | exact adT_get s v8 (by omega) | rfl | exact tab_get zqg | exact gm (d := 0) zqg) | exact Kn.ro zqa (by first | first | exact schT_get b (by omega) (by omega) | exact adT_get s v8 (by omega) | rfl | exact tab_get zqg | exact gm (d := 0) zqg) | exact Kn.row zqa (by first | first | exact schT_get b (by omega) (by omega) | exact adT_get s v8 (by omega) | rfl | exact tab_get zqg | exact gm (d := 0) zqg) | exact Kn.rd zqc (by first | first | exact schT_get b (by omega) (by omega) | exact adT_get s v8 (by omega) | rfl | exact tab_get zqg | exact gm (d := 0) zqg) | exact Kn.rd2 zqc (by first | first | exact schT_get b (by omega) (by omega) | exact adT_get s v8 (by omega) | rfl | exact tab_get zqg | exact gm (d := 0) zqg) | exact Kn.var zqa (by first | first | exact schT_get b (by omega) (by omega) | exact adT_get s v8 (by omega) | rfl | exact tab_get zqg | exact gm (d := 0) zqg))) (by decide) ?_
      refine JR.u rfl rfl rfl (Yv.move rfl) (by decide) ?_
      refine JR.u rfl rfl rfl (Yv.move rfl) (by decide) ?_
      refine JR.u rfl rfl rfl (Yv.move rfl) (by decide) ?_
      refine JR.u rfl rfl rfl (Yv.as (v' := u32 (W b (x - 2) >>> 10)) (Yv.bin rfl rfl (BinR.quo_u32 (b := 1024#32) (by decide))) (congrArg u32 (shr_div _ 10 1024 (by decide) (by decide)))) (by decide) ?_
      refine JR.m rfl rfl (Mv.callB body_108 rfl (f108_spec (W b (x - 15)) 7 (by decide) (by decide)) zqd (by repeat (first | exact Lends.nil _ | apply Lends.cons | exact Lend.same _ _ | exact Lend.row _ _ _ _ _ _ (by decide) | apply Lend.there)) (by rintro _ _ _ ⟨_, h, _⟩; exact h)) (by decide) ?_
      rintro _ _ _ ⟨_, ⟨rfl, _, rfl⟩, hΓ, hH⟩
      simp only [List.cons_append, List.nil_append] at hH; subst hΓ hH
      refine ⟨⟨Subs.sub zqe, .inr (St.keep zqe zqd)⟩, ?_⟩
      refine JR.m rfl rfl (Mv.callB body_108 rfl (f108_spec (W b (x - 15)) 18 (by decide) (by decide)) zqd (by repeat (first | exact Lends.nil _ | apply Lends.cons | exact Lend.same _ _ | exact Lend.row _ _ _ _ _ _ (by decide) | apply Lend.there)) (by rintro _ _ _ ⟨_, h, _⟩; exact h)) (by decide) ?_
      rintro _ _ _ ⟨_, ⟨rfl, _, rfl⟩, hΓ, hH⟩
      simp only [List.cons_append, List.nil_append] at hH; subst hΓ hH
      refine ⟨⟨Subs.sub zqe, .inr (St.keep zqe zqd)⟩, ?_⟩
      refine JR.u rfl rfl rfl (Yv.bin rfl rfl (BinR.xor_u32)) (by decide) ?_
      refine JR.u rfl rfl rfl (Yv.bin rfl rfl (BinR.xor_u32)) (by decide) ?_
      refine JR.u rfl rfl rfl (Yv.bin rfl rfl (BinR.add_u32)) (by decide) ?_
      refine JR.u rfl rfl rfl (Yv.bin rfl rfl (BinR.add_u32)) (by decide) ?_
      refine JR.m rfl rfl (Mv.callB body_108 rfl (f108_spec (W b (x - 2)) 17 (by decide) (by decide)) zqd (by repeat (first | exact Lends.nil _ | apply Lends.cons | exact Lend.same _ _ | exact Lend.row _ _ _ _ _ _ (by decide) | apply Lend.there)) (by rintro _ _ _ ⟨_, h, _⟩; exact h)) (by decide) ?_
      rintro _ _ _ ⟨_, ⟨rfl, _, rfl⟩, hΓ, hH⟩
      simp only [List.cons_append, List.nil_append] at hH; subst hΓ hH
      refine ⟨⟨Subs.sub zqe, .inr (St.keep zqe zqd)⟩, ?_⟩
      refine JR.m rfl rfl (Mv.callB body_108 rfl (f108_spec (W b (x - 2)) 19 (by decide) (by decide)) zqd (by repeat (first | exact Lends.nil _ | apply Lends.cons | exact Lend.same _ _ | exact Lend.row _ _ _ _ _ _ (by decide) | apply Lend.there)) (by rintro _ _ _ ⟨_, h, _⟩; exact h)) (by decide) ?_
      rintro _ _ _ ⟨_, ⟨rfl, _, rfl⟩, hΓ, hH⟩
      simp only [List.cons_append, List.nil_append] at hH; subst hΓ hH
      refine ⟨⟨Subs.sub zqe, .inr (St.keep zqe zqd)⟩, ?_⟩
      refine JR.u rfl rfl rfl (Yv.bin rfl rfl (BinR.xor_u32)) (by decide) ?_
      refine JR.u rfl rfl rfl (Yv.bin rfl rfl (BinR.xor_u32)) (by decide) ?_
      refine JR.u rfl rfl rfl (Yv.as (v' := u32 (W b x)) (Yv.bin rfl rfl (BinR.add_u32)) (congrArg u32 (W_ref b (by omega)))) (by decide) ?_
      first | refine JR.u rfl rfl rfl (Yv.indexArr1 Tryz.underlying164 sz_138 rfl rfl zqb) (by decide) ?_ | refine JR.u rfl rfl rfl (Yv.indexArr1o Tryz.underlying164 sz_138 rfl rfl zqb) (by decide) ?_
      first | refine JR.m0 rfl rfl (Mv.store1 sz_138 rfl rfl rfl (by repeat (first | exact Upd.here _ _ _ | apply Upd.there)) zqb) ?_ | refine JR.m0 rfl rfl (Mv.storeRow1 sz_138 rfl rfl rfl (by repeat (first | exact Upd.here _ _ _ | apply Upd.there)) zqb (by first | rfl | (simp; done) | omega | (simp; omega))) ?_
      rintro _ _ _ ⟨rfl, rfl⟩
      refine ⟨⟨Subs.sub zqe, .inl rfl⟩, ?_⟩
      refine JR.nil ?_
      refine JQ.block_normal ?_
      refine JQ.then_normal ?_
      refine JC.region ?_
      refine JO.v (Yv.move rfl) (by decide) ?_
      refine JO.v (Yv.bin rfl rfl (BinR.add_i zqf)) (by decide) ?_
      refine JO.v (Yv.assign rfl) (by decide) ?_
      refine JO.nil ?_
      rw [schT_set]
      refine JQ.head (x + 1) (by repeat (first | exact trivial | refine ⟨by first | rfl | (simp; done), ?_⟩)) (Subs.sub zqe) (Picks.perm zqd) ?_
      exact ⟨⟨by omega, by omega⟩, by omega⟩
    · try simp only [decide_eq_true_eq, decide_eq_false_iff_not, Bool.not_eq_true', Bool.not_eq_false', ne_eq, Decidable.not_not, Bool.not_eq_true, Bool.and_eq_true, Bool.or_eq_true, BitVec.reduceToNat] at hc2
      obtain rfl : x = 64 := by omega
      refine JC.exit ?_
      refine JQ.then_exit ?_
      refine JQ.then_exit ?_
      refine JQ.block_exit ?_
      refine JQ.then_normal ?_
      refine JC.seq ?_
      refine JC.region ?_
      first | refine JO.v (Yv.as (v' := .agg (s.map u32).toArray) (Yv.loadOwn agg_139 zqa rfl (by first | rfl | (simp; done) | (simp; omega) | (simp [*]; done))) (congrArg (fun l : List Value => Value.agg l.toArray) (by simp [hs, Value.cells]))) (by decide) ?_ | refine JO.v (Yv.as (v' := .agg (s.map u32).toArray) (Yv.loadOwnAt agg_139 zqa rfl (by first | rfl | (simp; done) | (simp; omega) | (simp [*]; done))) (congrArg (fun l : List Value => Value.agg l.toArray) (by simp [hs, Value.cells]))) (by decide) ?_ | refine JO.v (Yv.as (v' := .agg (s.map u32).toArray) (Yv.loadRow agg_139 zqa rfl (by first | rfl | (simp; done) | (simp; omega) | (simp [*]; done))) (congrArg (fun l : List Value => Value.agg l.toArray) (by simp [hs, Value.cells]))) (by decide) ?_ | refine JO.v (Yv.as (v' := .agg (s.map u32).toArray) (Yv.loadRd agg_139 zqc rfl (by first | rfl | (simp; done) | (simp; omega) | (simp [*]; done))) (congrArg (fun l : List Value => Value.agg l.toArray) (by simp [hs, Value.cells]))) (by decide) ?_ | refine JO.v (Yv.as (v' := .agg (s.map u32).toArray) (Yv.loadRo agg_139 zqa rfl (by first | rfl | (simp; done) | (simp; omega) | (simp [*]; done))) (congrArg (fun l : List Value => Value.agg l.toArray) (by simp [hs, Value.cells]))) (by decide) ?_
      refine JO.alloc _ zero_139 rfl (by decide) fun b11 => ?_
      first | refine JO.storeAll sz_139 rfl rfl rfl (by first | rfl | (simp; done) | (simp; omega)) (by first | (simp; done) | exact one_map (fun _ => rfl) | exact one_tab (fun _ => rfl) | exact one_tab (fun _ => by split <;> rfl)) (by repeat (first | exact Upd.here _ _ _ | apply Upd.there)) (by first | rfl | (simp; done) | (simp; omega)) ?_ | refine JO.store sz_139 rfl rfl rfl (by first | rfl | (simp; done) | (simp; omega)) (by first | (simp; done) | exact one_sing rfl | exact one_map (fun _ => rfl) | exact one_piece (one_map (fun _ => rfl)) | exact one_tab (fun _ => rfl) | exact one_tab (fun _ => by split <;> rfl)) (by repeat (first | exact Upd.here _ _ _ | apply Upd.there)) zqb ?_ | refine JO.storeRow sz_139 rfl rfl rfl (by first | rfl | simp) (by first | (simp; done) | exact one_map (fun _ => rfl) | exact one_tab (fun _ => rfl) | exact one_tab (fun _ => by split <;> rfl)) (by repeat (first | exact Upd.here _ _ _ | apply Upd.there)) zqb zqb ?_
      refine JO.nil ?_
      refine JQ.then_normal ?_
      refine JC.seq ?_
      refine JC.seq ?_
      refine JC.region ?_
      refine JO.v (Yv.assign rfl) (by decide) ?_
      refine JO.nil ?_
      refine JQ.then_normal ?_
      refine JC.block ?_
      refine JC.loop (ι := Nat) (fun x => x ≤ 64) (fun x => [(1, v), (2, ptr b2 0), (4, ptr b4 0), (5, ptr b5 0), (6, ptr b6 0), (11, ptr b11 0), (12, it (x : Int))]) (fun x => [Res.rd v b.length 1 (b.map u8)]) (fun x => [Res.cells b2 (s.map u32) 139, Res.cells b4 (List.replicate 8 (u32 0)) 139, Res.cells b5 (cub.map u32) 164, Res.cells b6 (schT b 64) 164, Res.cells b11 ((rnds (sch b 64) s x).map u32) 139]) (fun x => 64 - x) 0 (by repeat (first | exact trivial | refine ⟨by first | rfl | (simp; done), ?_⟩)) (Subs.sub zqe) (Picks.perm zqd) ?_ (fun x hx => ?_)
      · exact Nat.zero_le _
      refine JC.seq ?_
      refine JC.seq ?_
      refine JC.region ?_
      refine JO.v (Yv.move rfl) (by decide) ?_
      refine JO.v (Yv.bin rfl rfl BinR.lss_i) (by decide) ?_
      refine JO.nil ?_
      refine JQ.then_normal ?_
      refine JC.cond rfl (fun hc3 => ?_) (fun hc3 => ?_)
      · try simp only [decide_eq_true_eq, decide_eq_false_iff_not, Bool.not_eq_true', Bool.not_eq_false', ne_eq, Decidable.not_not, Bool.not_eq_true, Bool.and_eq_true, Bool.or_eq_true, BitVec.reduceToNat] at hc3
        have hv0 := rnds_len (sch b 64) s hs x
        generalize hv : rnds (sch b 64) s x = v8 at hv0 ⊢
        refine JC.skip ?_
        refine JQ.then_normal ?_
        refine JC.seq ?_
        refine JC.block ?_
        refine JC.seq ?_
        refine JC.region ?_
        first | refine JO.v (Yv.indexArr1 (j := 4) Tryz.underlying139 sz_138 rfl rfl zqb) (by decide) ?_ | refine JO.v (Yv.indexArr1o (j := 4) Tryz.underlying139 sz_138 rfl rfl zqb) (by decide) ?_
        refine JO.v (Yv.load1 one_138 rfl (by first | exact Kn.own zqa (by first | first | exact schT_get b (by omega) (by omega) | exact adT_get s v8 (by omega) | rfl | exact tab_get zqg | exact gm (d := 0) zqg) | exact Kn.ro zqa (by first | first | exact schT_get b (by omega) (by omega) | exact adT_get s v8 (by omega) | rfl | exact tab_get zqg | exact gm (d := 0) zqg) | exact Kn.row zqa (by first | first | exact schT_get b (by omega) (by omega) | exact adT_get s v8 (by omega) | rfl | exact tab_get zqg | exact gm (d := 0) zqg) | exact Kn.rd zqc (by first | first | exact schT_get b (by omega) (by omega) | exact adT_get s v8 (by omega) | rfl | exact tab_get zqg | exact gm (d := 0) zqg) | exact Kn.rd2 zqc (by first | first | exact schT_get b (by omega) (by omega) | exact adT_get s v8 (by omega) | rfl | exact tab_get zqg | exact gm (d := 0) zqg) | exact Kn.var zqa (by first | first | exact schT_get b (by omega) (by omega) | exact adT_get s v8 (by omega) | rfl | exact tab_get zqg | exact gm (d := 0) zqg))) (by decide) ?_
        refine JO.v (Yv.assign rfl) (by decide) ?_
        refine JO.nil ?_
        refine JQ.then_normal ?_
        refine JC.seq ?_
        refine JC.region ?_
        first | refine JO.v (Yv.indexArr1 (j := 0) Tryz.underlying139 sz_138 rfl rfl zqb) (by decide) ?_ | refine JO.v (Yv.indexArr1o (j := 0) Tryz.underlying139 sz_138 rfl rfl zqb) (by decide) ?_
        refine JO.v (Yv.load1 one_138 rfl (by first | exact Kn.own zqa (by first | first | exact schT_get b (by omega) (by omega) | exact adT_get s v8 (by omega) | rfl | exact tab_get zqg | exact gm (d := 0) zqg) | exact Kn.ro zqa (by first | first | exact schT_get b (by omega) (by omega) | exact adT_get s v8 (by omega) | rfl | exact tab_get zqg | exact gm (d := 0) zqg) | exact Kn.row zqa (by first | first | exact schT_get b (by omega) (by omega) | exact adT_get s v8 (by omega) | rfl | exact tab_get zqg | exact gm (d := 0) zqg) | exact Kn.rd zqc (by first | first | exact schT_get b (by omega) (by omega) | exact adT_get s v8 (by omega) | rfl | exact tab_get zqg | exact gm (d := 0) zqg) | exact Kn.rd2 zqc (by first | first | exact schT_get b (by omega) (by omega) | exact adT_get s v8 (by omega) | rfl | exact tab_get zqg | exact gm (d := 0) zqg) | exact Kn.var zqa (by first | first | exact schT_get b (by omega) (by omega) | exact adT_get s v8 (by omega) | rfl | exact tab_get zqg | exact gm (d := 0) zqg))) (by decide) ?_
        refine JO.v (Yv.assign rfl) (by decide) ?_
        refine JO.nil ?_
        refine JQ.then_normal ?_
        refine JC.seq ?_
        refine JC.region ?_
        refine JO.v (Yv.move rfl) (by decide) ?_
        first | refine JO.v (Yv.indexArr1 (j := 5) Tryz.underlying139 sz_138 rfl rfl zqb) (by decide) ?_ | refine JO.v (Yv.indexArr1o (j := 5) Tryz.underlying139 sz_138 rfl rfl zqb) (by decide) ?_
        refine JO.v (Yv.load1 one_138 rfl (by first | exact Kn.own zqa (by first | first | exact schT_get b (by omega) (by omega) | exact adT_get s v8 (by omega) | rfl | exact tab_get zqg | exact gm (d := 0) zqg) | exact Kn.ro zqa (by first | first | exact schT_get b (by omega) (by omega) | exact adT_get s v8 (by omega) | rfl | exact tab_get zqg | exact gm (d := 0) zqg) | exact Kn.row zqa (by first | first | exact schT_get b (by omega) (by omega) | exact adT_get s v8 (by omega) | rfl | exact tab_get zqg | exact gm (d := 0) zqg) | exact Kn.rd zqc (by first | first | exact schT_get b (by omega) (by omega) | exact adT_get s v8 (by omega) | rfl | exact tab_get zqg | exact gm (d := 0) zqg) | exact Kn.rd2 zqc (by first | first | exact schT_get b (by omega) (by omega) | exact adT_get s v8 (by omega) | rfl | exact tab_get zqg | exact gm (d := 0) zqg) | exact Kn.var zqa (by first | first | exact schT_get b (by omega) (by omega) | exact adT_get s v8 (by omega) | rfl | exact tab_get zqg | exact gm (d := 0) zqg))) (by decide) ?_
        refine JO.v (Yv.bin rfl rfl (BinR.and_u32)) (by decide) ?_
        refine JO.v (Yv.move rfl) (by decide) ?_
        refine JO.v (Yv.bin rfl rfl (BinR.sub_u32 (a := 4294967295#32))) (by decide) ?_
        first | refine JO.v (Yv.indexArr1 (j := 6) Tryz.underlying139 sz_138 rfl rfl zqb) (by decide) ?_ | refine JO.v (Yv.indexArr1o (j := 6) Tryz.underlying139 sz_138 rfl rfl zqb) (by decide) ?_
        refine JO.v (Yv.load1 one_138 rfl (by first | exact Kn.own zqa (by first | first | exact schT_get b (by omega) (by omega) | exact adT_get s v8 (by omega) | rfl | exact tab_get zqg | exact gm (d := 0) zqg) | exact Kn.ro zqa (by first | first | exact schT_get b (by omega) (by omega) | exact adT_get s v8 (by omega) | rfl | exact tab_get zqg | exact gm (d := 0) zqg) | exact Kn.row zqa (by first | first | exact schT_get b (by omega) (by omega) | exact adT_get s v8 (by omega) | rfl | exact tab_get zqg | exact gm (d := 0) zqg) | exact Kn.rd zqc (by first | first | exact schT_get b (by omega) (by omega) | exact adT_get s v8 (by omega) | rfl | exact tab_get zqg | exact gm (d := 0) zqg) | exact Kn.rd2 zqc (by first | first | exact schT_get b (by omega) (by omega) | exact adT_get s v8 (by omega) | rfl | exact tab_get zqg | exact gm (d := 0) zqg) | exact Kn.var zqa (by first | first | exact schT_get b (by omega) (by omega) | exact adT_get s v8 (by omega) | rfl | exact tab_get zqg | exact gm (d := 0) zqg))) (by decide) ?_
        refine JO.v (Yv.bin rfl rfl (BinR.and_u32)) (by decide) ?_
        refine JO.v (Yv.as (v' := u32 (v8.getD 6 0 ^^^ (v8.getD 4 0 &&& (v8.getD 5 0 ^^^ v8.getD 6 0)))) (Yv.bin rfl rfl (BinR.or_u32)) (congrArg u32 (ch_eq _ _ _))) (by decide) ?_
        refine JO.v (Yv.assign rfl) (by decide) ?_
        refine JO.nil ?_
        refine JQ.then_normal ?_
        refine JC.seq ?_
        refine JC.region ?_
        refine JO.v (Yv.move rfl) (by decide) ?_
        first | refine JO.v (Yv.indexArr1 (j := 1) Tryz.underlying139 sz_138 rfl rfl zqb) (by decide) ?_ | refine JO.v (Yv.indexArr1o (j := 1) Tryz.underlying139 sz_138 rfl rfl zqb) (by decide) ?_
        refine JO.v (Yv.load1 one_138 rfl (by first | exact Kn.own zqa (by first | first | exact schT_get b (by omega) (by omega) | exact adT_get s v8 (by omega) | rfl | exact tab_get zqg | exact gm (d := 0) zqg) | exact Kn.ro zqa (by first | first | exact schT_get b (by omega) (by omega) | exact adT_get s v8 (by omega) | rfl | exact tab_get zqg | exact gm (d := 0) zqg) | exact Kn.row zqa (by first | first | exact schT_get b (by omega) (by omega) | exact adT_get s v8 (by omega) | rfl | exact tab_get zqg | exact gm (d := 0) zqg) | exact Kn.rd zqc (by first | first | exact schT_get b (by omega) (by omega) | exact adT_get s v8 (by omega) | rfl | exact tab_get zqg | exact gm (d := 0) zqg) | exact Kn.rd2 zqc (by first | first | exact schT_get b (by omega) (by omega) | exact adT_get s v8 (by omega) | rfl | exact tab_get zqg | exact gm (d := 0) zqg) | exact Kn.var zqa (by first | first | exact schT_get b (by omega) (by omega) | exact adT_get s v8 (by omega) | rfl | exact tab_get zqg | exact gm (d := 0) zqg))) (by decide) ?_
        refine JO.v (Yv.bin rfl rfl (BinR.and_u32)) (by decide) ?_
        refine JO.v (Yv.move rfl) (by decide) ?_
        first | refine JO.v (Yv.indexArr1 (j := 2) Tryz.underlying139 sz_138 rfl rfl zqb) (by decide) ?_ | refine JO.v (Yv.indexArr1o (j := 2) Tryz.underlying139 sz_138 rfl rfl zqb) (by decide) ?_
        refine JO.v (Yv.load1 one_138 rfl (by first | exact Kn.own zqa (by first | first | exact schT_get b (by omega) (by omega) | exact adT_get s v8 (by omega) | rfl | exact tab_get zqg | exact gm (d := 0) zqg) | exact Kn.ro zqa (by first | first | exact schT_get b (by omega) (by omega) | exact adT_get s v8 (by omega) | rfl | exact tab_get zqg | exact gm (d := 0) zqg) | exact Kn.row zqa (by first | first | exact schT_get b (by omega) (by omega) | exact adT_get s v8 (by omega) | rfl | exact tab_get zqg | exact gm (d := 0) zqg) | exact Kn.rd zqc (by first | first | exact schT_get b (by omega) (by omega) | exact adT_get s v8 (by omega) | rfl | exact tab_get zqg | exact gm (d := 0) zqg) | exact Kn.rd2 zqc (by first | first | exact schT_get b (by omega) (by omega) | exact adT_get s v8 (by omega) | rfl | exact tab_get zqg | exact gm (d := 0) zqg) | exact Kn.var zqa (by first | first | exact schT_get b (by omega) (by omega) | exact adT_get s v8 (by omega) | rfl | exact tab_get zqg | exact gm (d := 0) zqg))) (by decide) ?_
        refine JO.v (Yv.bin rfl rfl (BinR.and_u32)) (by decide) ?_
        refine JO.v (Yv.bin rfl rfl (BinR.or_u32)) (by decide) ?_
        first | refine JO.v (Yv.indexArr1 (j := 1) Tryz.underlying139 sz_138 rfl rfl zqb) (by decide) ?_ | refine JO.v (Yv.indexArr1o (j := 1) Tryz.underlying139 sz_138 rfl rfl zqb) (by decide) ?_
        refine JO.v (Yv.load1 one_138 rfl (by first | exact Kn.own zqa (by first | first | exact schT_get b (by omega) (by omega) | exact adT_get s v8 (by omega) | rfl | exact tab_get zqg | exact gm (d := 0) zqg) | exact Kn.ro zqa (by first | first | exact schT_get b (by omega) (by omega) | exact adT_get s v8 (by omega) | rfl | exact tab_get zqg | exact gm (d := 0) zqg) | exact Kn.row zqa (by first | first | exact schT_get b (by omega) (by omega) | exact adT_get s v8 (by omega) | rfl | exact tab_get zqg | exact gm (d := 0) zqg) | exact Kn.rd zqc (by first | first | exact schT_get b (by omega) (by omega) | exact adT_get s v8 (by omega) | rfl | exact tab_get zqg | exact gm (d := 0) zqg) | exact Kn.rd2 zqc (by first | first | exact schT_get b (by omega) (by omega) | exact adT_get s v8 (by omega) | rfl | exact tab_get zqg | exact gm (d := 0) zqg) | exact Kn.var zqa (by first | first | exact schT_get b (by omega) (by omega) | exact adT_get s v8 (by omega) | rfl | exact tab_get zqg | exact gm (d := 0) zqg))) (by decide) ?_
        first | refine JO.v (Yv.indexArr1 (j := 2) Tryz.underlying139 sz_138 rfl rfl zqb) (by decide) ?_ | refine JO.v (Yv.indexArr1o (j := 2) Tryz.underlying139 sz_138 rfl rfl zqb) (by decide) ?_
        refine JO.v (Yv.load1 one_138 rfl (by first | exact Kn.own zqa (by first | first | exact schT_get b (by omega) (by omega) | exact adT_get s v8 (by omega) | rfl | exact tab_get zqg | exact gm (d := 0) zqg) | exact Kn.ro zqa (by first | first | exact schT_get b (by omega) (by omega) | exact adT_get s v8 (by omega) | rfl | exact tab_get zqg | exact gm (d := 0) zqg) | exact Kn.row zqa (by first | first | exact schT_get b (by omega) (by omega) | exact adT_get s v8 (by omega) | rfl | exact tab_get zqg | exact gm (d := 0) zqg) | exact Kn.rd zqc (by first | first | exact schT_get b (by omega) (by omega) | exact adT_get s v8 (by omega) | rfl | exact tab_get zqg | exact gm (d := 0) zqg) | exact Kn.rd2 zqc (by first | first | exact schT_get b (by omega) (by omega) | exact adT_get s v8 (by omega) | rfl | exact tab_get zqg | exact gm (d := 0) zqg) | exact Kn.var zqa (by first | first | exact schT_get b (by omega) (by omega) | exact adT_get s v8 (by omega) | rfl | exact tab_get zqg | exact gm (d := 0) zqg))) (by decide) ?_
        refine JO.v (Yv.bin rfl rfl (BinR.and_u32)) (by decide) ?_
        refine JO.v (Yv.as (v' := u32 ((v8.getD 0 0 &&& v8.getD 1 0) ||| (v8.getD 2 0 &&& (v8.getD 0 0 ||| v8.getD 1 0)))) (Yv.bin rfl rfl (BinR.or_u32)) (congrArg u32 (maj_eq _ _ _))) (by decide) ?_
        refine JO.v (Yv.assign rfl) (by decide) ?_
        refine JO.nil ?_
        refine JQ.then_normal ?_
        refine JC.seq ?_
        refine JC.draw (.one 0 (.one 1 (.one 2 (.one 4 (.one 7 (.one 11 (.one 13 (.one 14 (.one 15 (.one 17 (.one 18 (.one 19 (.one 3 (.one 5 (.one 6 (.one 8 (.one 9 (.one 10 (.one 12 (.one 16 (.one 20 (.one 21 .nil)))))))))))))))))))))) (fun i => ([] : List Nat).contains i) (fun i => ([3, 5, 8] : List Nat).contains i) (fun i => ([0, 2, 4, 6, 7, 9, 10, 11, 12, 13, 14, 16, 17, 18, 20, 21] : List Nat).contains i) mixed (by kernel_rfl) (by decide) (by kernel_rfl) ?_
        first | refine JR.u rfl rfl rfl (Yv.indexArr1 (j := 7) Tryz.underlying139 sz_138 rfl rfl zqb) (by decide) ?_ | refine JR.u rfl rfl rfl (Yv.indexArr1o (j := 7) Tryz.underlying139 sz_138 rfl rfl zqb) (by decide) ?_
        refine JR.v rfl rfl rfl (Yv.load1 one_138 rfl (by first | exact Kn.own zqa (by first | first | exact schT_get b (by omega) (by omega) | exact adT_get s v8 (by omega) | rfl | exact tab_get zqg | exact gm (d := 0) zqg) | exact Kn.ro zqa (by first | first | exact schT_get b (by omega) (by omega) | exact adT_get s v8 (by omega) | rfl | exact tab_get zqg | exact gm (d := 0) zqg) | exact Kn.row zqa (by first | first | exact schT_get b (by omega) (by omega) | exact adT_get s v8 (by omega) | rfl | exact tab_get zqg | exact gm (d := 0) zqg) | exact Kn.rd zqc (by first | first | exact schT_get b (by omega) (by omega) | exact adT_get s v8 (by omega) | rfl | exact tab_get zqg | exact gm (d := 0) zqg) | exact Kn.rd2 zqc (by first | first | exact schT_get b (by omega) (by omega) | exact adT_get s v8 (by omega) | rfl | exact tab_get zqg | exact gm (d := 0) zqg) | exact Kn.var zqa (by first | first | exact schT_get b (by omega) (by omega) | exact adT_get s v8 (by omega) | rfl | exact tab_get zqg | exact gm (d := 0) zqg))) (by decide) ?_
        refine JR.u rfl rfl rfl (Yv.move rfl) (by decide) ?_
        refine JR.u rfl rfl rfl (Yv.move rfl) (by decide) ?_
        refine JR.u rfl rfl rfl (Yv.move rfl) (by decide) ?_
        refine JR.u rfl rfl rfl (Yv.move rfl) (by decide) ?_
        refine JR.u rfl rfl rfl (Yv.move rfl) (by decide) ?_
        first | refine JR.u rfl rfl rfl (Yv.indexArr1 Tryz.underlying164 sz_138 rfl rfl zqb) (by decide) ?_ | refine JR.u rfl rfl rfl (Yv.indexArr1o Tryz.underlying164 sz_138 rfl rfl zqb) (by decide) ?_
        refine JR.v rfl rfl rfl (Yv.load1 one_138 rfl (by first | exact Kn.own zqa (by first | first | exact schT_get b (by omega) (by omega) | exact adT_get s v8 (by omega) | rfl | exact tab_get zqg | exact gm (d := 0) zqg) | exact Kn.ro zqa (by first | first | exact schT_get b (by omega) (by omega) | exact adT_get s v8 (by omega) | rfl | exact tab_get zqg | exact gm (d := 0) zqg) | exact Kn.row zqa (by first | first | exact schT_get b (by omega) (by omega) | exact adT_get s v8 (by omega) | rfl | exact tab_get zqg | exact gm (d := 0) zqg) | exact Kn.rd zqc (by first | first | exact schT_get b (by omega) (by omega) | exact adT_get s v8 (by omega) | rfl | exact tab_get zqg | exact gm (d := 0) zqg) | exact Kn.rd2 zqc (by first | first | exact schT_get b (by omega) (by omega) | exact adT_get s v8 (by omega) | rfl | exact tab_get zqg | exact gm (d := 0) zqg) | exact Kn.var zqa (by first | first | exact schT_get b (by omega) (by omega) | exact adT_get s v8 (by omega) | rfl | exact tab_get zqg | exact gm (d := 0) zqg))) (by decide) ?_
        refine JR.u rfl rfl rfl (Yv.move rfl) (by decide) ?_
        first | refine JR.u rfl rfl rfl (Yv.indexArr1 Tryz.underlying164 sz_138 rfl rfl zqb) (by decide) ?_ | refine JR.u rfl rfl rfl (Yv.indexArr1o Tryz.underlying164 sz_138 rfl rfl zqb) (by decide) ?_
        refine JR.v rfl rfl rfl (Yv.as (v' := u32 ((sch b 64).getD x 0)) (Yv.load1 one_138 rfl (by first | exact Kn.own zqa (by first | first | exact schT_get b (by omega) (by omega) | exact adT_get s v8 (by omega) | rfl | exact tab_get zqg | exact gm (d := 0) zqg) | exact Kn.ro zqa (by first | first | exact schT_get b (by omega) (by omega) | exact adT_get s v8 (by omega) | rfl | exact tab_get zqg | exact gm (d := 0) zqg) | exact Kn.row zqa (by first | first | exact schT_get b (by omega) (by omega) | exact adT_get s v8 (by omega) | rfl | exact tab_get zqg | exact gm (d := 0) zqg) | exact Kn.rd zqc (by first | first | exact schT_get b (by omega) (by omega) | exact adT_get s v8 (by omega) | rfl | exact tab_get zqg | exact gm (d := 0) zqg) | exact Kn.rd2 zqc (by first | first | exact schT_get b (by omega) (by omega) | exact adT_get s v8 (by omega) | rfl | exact tab_get zqg | exact gm (d := 0) zqg) | exact Kn.var zqa (by first | first | exact schT_get b (by omega) (by omega) | exact adT_get s v8 (by omega) | rfl | exact tab_get zqg | exact gm (d := 0) zqg))) (congrArg u32 (sch_W b (by omega)).symm)) (by decide) ?_
        refine JR.m rfl rfl (Mv.callB body_108 rfl (f108_spec (v8.getD 4 0) 6 (by decide) (by decide)) zqd (by repeat (first | exact Lends.nil _ | apply Lends.cons | exact Lend.same _ _ | exact Lend.row _ _ _ _ _ _ (by decide) | apply Lend.there)) (by rintro _ _ _ ⟨_, h, _⟩; exact h)) (by decide) ?_
        rintro _ _ _ ⟨_, ⟨rfl, _, rfl⟩, hΓ, hH⟩
        simp only [List.cons_append, List.nil_append] at hH; subst hΓ hH
        refine ⟨⟨Subs.sub zqe, .inr (St.keep zqe zqd)⟩, ?_⟩
        refine JR.m rfl rfl (Mv.callB body_108 rfl (f108_spec (v8.getD 4 0) 11 (by decide) (by decide)) zqd (by repeat (first | exact Lends.nil _ | apply Lends.cons | exact Lend.same _ _ | exact Lend.row _ _ _ _ _ _ (by decide) | apply Lend.there)) (by rintro _ _ _ ⟨_, h, _⟩; exact h)) (by decide) ?_
        rintro _ _ _ ⟨_, ⟨rfl, _, rfl⟩, hΓ, hH⟩
        simp only [List.cons_append, List.nil_append] at hH; subst hΓ hH
        refine ⟨⟨Subs.sub zqe, .inr (St.keep zqe zqd)⟩, ?_⟩
        refine JR.u rfl rfl rfl (Yv.bin rfl rfl (BinR.xor_u32)) (by decide) ?_
        refine JR.m rfl rfl (Mv.callB body_108 rfl (f108_spec (v8.getD 4 0) 25 (by decide) (by decide)) zqd (by repeat (first | exact Lends.nil _ | apply Lends.cons | exact Lend.same _ _ | exact Lend.row _ _ _ _ _ _ (by decide) | apply Lend.there)) (by rintro _ _ _ ⟨_, h, _⟩; exact h)) (by decide) ?_
        rintro _ _ _ ⟨_, ⟨rfl, _, rfl⟩, hΓ, hH⟩
        simp only [List.cons_append, List.nil_append] at hH; subst hΓ hH
        refine ⟨⟨Subs.sub zqe, .inr (St.keep zqe zqd)⟩, ?_⟩
        refine JR.u rfl rfl rfl (Yv.bin rfl rfl (BinR.xor_u32)) (by decide) ?_
        refine JR.u rfl rfl rfl (Yv.bin rfl rfl (BinR.add_u32)) (by decide) ?_
        refine JR.u rfl rfl rfl (Yv.bin rfl rfl (BinR.add_u32)) (by decide) ?_
        refine JR.u rfl rfl rfl (Yv.bin rfl rfl (BinR.add_u32)) (by decide) ?_
        refine JR.u rfl rfl rfl (Yv.as (v' := u32 (rx (sch b 64) v8 x)) (Yv.bin rfl rfl (BinR.add_u32)) rfl) (by decide) ?_
        refine JR.u rfl rfl rfl (Yv.assign rfl) (by decide) ?_
        refine JR.nil ?_
        refine JQ.then_normal ?_
        refine JC.seq ?_
        refine JC.region ?_
        refine JO.v (Yv.move rfl) (by decide) ?_
        refine JO.callB (f108_spec (v8.getD 0 0) 2 (by decide) (by decide)) body_108 rfl zqd (by repeat (first | exact Lends.nil _ | apply Lends.cons | exact Lend.same _ _ | exact Lend.row _ _ _ _ _ _ (by decide) | apply Lend.there)) (by rintro _ _ _ ⟨_, h, _⟩; exact h) (by decide) ?_
        rintro _ _ ⟨_, ⟨rfl, _, rfl⟩, hH⟩
        simp only [List.cons_append, List.nil_append] at hH; subst hH
        refine JO.v (Yv.move rfl) (by decide) ?_
        refine JO.callB (f108_spec (v8.getD 0 0) 13 (by decide) (by decide)) body_108 rfl zqd (by repeat (first | exact Lends.nil _ | apply Lends.cons | exact Lend.same _ _ | exact Lend.row _ _ _ _ _ _ (by decide) | apply Lend.there)) (by rintro _ _ _ ⟨_, h, _⟩; exact h) (by decide) ?_
        rintro _ _ ⟨_, ⟨rfl, _, rfl⟩, hH⟩
        simp only [List.cons_append, List.nil_append] at hH; subst hH
        refine JO.v (Yv.bin rfl rfl (BinR.xor_u32)) (by decide) ?_
        refine JO.v (Yv.move rfl) (by decide) ?_
        refine JO.callB (f108_spec (v8.getD 0 0) 22 (by decide) (by decide)) body_108 rfl zqd (by repeat (first | exact Lends.nil _ | apply Lends.cons | exact Lend.same _ _ | exact Lend.row _ _ _ _ _ _ (by decide) | apply Lend.there)) (by rintro _ _ _ ⟨_, h, _⟩; exact h) (by decide) ?_
        rintro _ _ ⟨_, ⟨rfl, _, rfl⟩, hH⟩
        simp only [List.cons_append, List.nil_append] at hH; subst hH
        refine JO.v (Yv.bin rfl rfl (BinR.xor_u32)) (by decide) ?_
        refine JO.v (Yv.move rfl) (by decide) ?_
        refine JO.v (Yv.as (v' := u32 (ry v8)) (Yv.bin rfl rfl (BinR.add_u32)) rfl) (by decide) ?_
        refine JO.v (Yv.assign rfl) (by decide) ?_
        refine JO.nil ?_
        refine JQ.then_normal ?_
        refine JC.region ?_
        refine JO.v (Yv.move rfl) (by decide) ?_
        refine JO.v (Yv.move rfl) (by decide) ?_
        refine JO.v (Yv.bin rfl rfl (BinR.add_u32)) (by decide) ?_
        first | refine JO.v (Yv.indexArr1 (j := 0) Tryz.underlying139 sz_138 rfl rfl zqb) (by decide) ?_ | refine JO.v (Yv.indexArr1o (j := 0) Tryz.underlying139 sz_138 rfl rfl zqb) (by decide) ?_
        refine JO.v (Yv.load1 one_138 rfl (by first | exact Kn.own zqa (by first | first | exact schT_get b (by omega) (by omega) | exact adT_get s v8 (by omega) | rfl | exact tab_get zqg | exact gm (d := 0) zqg) | exact Kn.ro zqa (by first | first | exact schT_get b (by omega) (by omega) | exact adT_get s v8 (by omega) | rfl | exact tab_get zqg | exact gm (d := 0) zqg) | exact Kn.row zqa (by first | first | exact schT_get b (by omega) (by omega) | exact adT_get s v8 (by omega) | rfl | exact tab_get zqg | exact gm (d := 0) zqg) | exact Kn.rd zqc (by first | first | exact schT_get b (by omega) (by omega) | exact adT_get s v8 (by omega) | rfl | exact tab_get zqg | exact gm (d := 0) zqg) | exact Kn.rd2 zqc (by first | first | exact schT_get b (by omega) (by omega) | exact adT_get s v8 (by omega) | rfl | exact tab_get zqg | exact gm (d := 0) zqg) | exact Kn.var zqa (by first | first | exact schT_get b (by omega) (by omega) | exact adT_get s v8 (by omega) | rfl | exact tab_get zqg | exact gm (d := 0) zqg))) (by decide) ?_
        first | refine JO.v (Yv.indexArr1 (j := 1) Tryz.underlying139 sz_138 rfl rfl zqb) (by decide) ?_ | refine JO.v (Yv.indexArr1o (j := 1) Tryz.underlying139 sz_138 rfl rfl zqb) (by decide) ?_
        refine JO.v (Yv.load1 one_138 rfl (by first | exact Kn.own zqa (by first | first | exact schT_get b (by omega) (by omega) | exact adT_get s v8 (by omega) | rfl | exact tab_get zqg | exact gm (d := 0) zqg) | exact Kn.ro zqa (by first | first | exact schT_get b (by omega) (by omega) | exact adT_get s v8 (by omega) | rfl | exact tab_get zqg | exact gm (d := 0) zqg) | exact Kn.row zqa (by first | first | exact schT_get b (by omega) (by omega) | exact adT_get s v8 (by omega) | rfl | exact tab_get zqg | exact gm (d := 0) zqg) | exact Kn.rd zqc (by first | first | exact schT_get b (by omega) (by omega) | exact adT_get s v8 (by omega) | rfl | exact tab_get zqg | exact gm (d := 0) zqg) | exact Kn.rd2 zqc (by first | first | exact schT_get b (by omega) (by omega) | exact adT_get s v8 (by omega) | rfl | exact tab_get zqg | exact gm (d := 0) zqg) | exact Kn.var zqa (by first | first | exact schT_get b (by omega) (by omega) | exact adT_get s v8 (by omega) | rfl | exact tab_get zqg | exact gm (d := 0) zqg))) (by decide) ?_
        first | refine JO.v (Yv.indexArr1 (j := 2) Tryz.underlying139 sz_138 rfl rfl zqb) (by decide) ?_ | refine JO.v (Yv.indexArr1o (j := 2) Tryz.underlying139 sz_138 rfl rfl zqb) (by decide) ?_
        refine JO.v (Yv.load1 one_138 rfl (by first | exact Kn.own zqa (by first | first | exact schT_get b (by omega) (by omega) | exact adT_get s v8 (by omega) | rfl | exact tab_get zqg | exact gm (d := 0) zqg) | exact Kn.ro zqa (by first | first | exact schT_get b (by omega) (by omega) | exact adT_get s v8 (by omega) | rfl | exact tab_get zqg | exact gm (d := 0) zqg) | exact Kn.row zqa (by first | first | exact schT_get b (by omega) (by omega) | exact adT_get s v8 (by omega) | rfl | exact tab_get zqg | exact gm (d := 0) zqg) | exact Kn.rd zqc (by first | first | exact schT_get b (by omega) (by omega) | exact adT_get s v8 (by omega) | rfl | exact tab_get zqg | exact gm (d := 0) zqg) | exact Kn.rd2 zqc (by first | first | exact schT_get b (by omega) (by omega) | exact adT_get s v8 (by omega) | rfl | exact tab_get zqg | exact gm (d := 0) zqg) | exact Kn.var zqa (by first | first | exact schT_get b (by omega) (by omega) | exact adT_get s v8 (by omega) | rfl | exact tab_get zqg | exact gm (d := 0) zqg))) (by decide) ?_
        first | refine JO.v (Yv.indexArr1 (j := 3) Tryz.underlying139 sz_138 rfl rfl zqb) (by decide) ?_ | refine JO.v (Yv.indexArr1o (j := 3) Tryz.underlying139 sz_138 rfl rfl zqb) (by decide) ?_
        refine JO.v (Yv.load1 one_138 rfl (by first | exact Kn.own zqa (by first | first | exact schT_get b (by omega) (by omega) | exact adT_get s v8 (by omega) | rfl | exact tab_get zqg | exact gm (d := 0) zqg) | exact Kn.ro zqa (by first | first | exact schT_get b (by omega) (by omega) | exact adT_get s v8 (by omega) | rfl | exact tab_get zqg | exact gm (d := 0) zqg) | exact Kn.row zqa (by first | first | exact schT_get b (by omega) (by omega) | exact adT_get s v8 (by omega) | rfl | exact tab_get zqg | exact gm (d := 0) zqg) | exact Kn.rd zqc (by first | first | exact schT_get b (by omega) (by omega) | exact adT_get s v8 (by omega) | rfl | exact tab_get zqg | exact gm (d := 0) zqg) | exact Kn.rd2 zqc (by first | first | exact schT_get b (by omega) (by omega) | exact adT_get s v8 (by omega) | rfl | exact tab_get zqg | exact gm (d := 0) zqg) | exact Kn.var zqa (by first | first | exact schT_get b (by omega) (by omega) | exact adT_get s v8 (by omega) | rfl | exact tab_get zqg | exact gm (d := 0) zqg))) (by decide) ?_
        refine JO.v (Yv.move rfl) (by decide) ?_
        refine JO.v (Yv.bin rfl rfl (BinR.add_u32)) (by decide) ?_
        first | refine JO.v (Yv.indexArr1 (j := 4) Tryz.underlying139 sz_138 rfl rfl zqb) (by decide) ?_ | refine JO.v (Yv.indexArr1o (j := 4) Tryz.underlying139 sz_138 rfl rfl zqb) (by decide) ?_
        refine JO.v (Yv.load1 one_138 rfl (by first | exact Kn.own zqa (by first | first | exact schT_get b (by omega) (by omega) | exact adT_get s v8 (by omega) | rfl | exact tab_get zqg | exact gm (d := 0) zqg) | exact Kn.ro zqa (by first | first | exact schT_get b (by omega) (by omega) | exact adT_get s v8 (by omega) | rfl | exact tab_get zqg | exact gm (d := 0) zqg) | exact Kn.row zqa (by first | first | exact schT_get b (by omega) (by omega) | exact adT_get s v8 (by omega) | rfl | exact tab_get zqg | exact gm (d := 0) zqg) | exact Kn.rd zqc (by first | first | exact schT_get b (by omega) (by omega) | exact adT_get s v8 (by omega) | rfl | exact tab_get zqg | exact gm (d := 0) zqg) | exact Kn.rd2 zqc (by first | first | exact schT_get b (by omega) (by omega) | exact adT_get s v8 (by omega) | rfl | exact tab_get zqg | exact gm (d := 0) zqg) | exact Kn.var zqa (by first | first | exact schT_get b (by omega) (by omega) | exact adT_get s v8 (by omega) | rfl | exact tab_get zqg | exact gm (d := 0) zqg))) (by decide) ?_
        first | refine JO.v (Yv.indexArr1 (j := 5) Tryz.underlying139 sz_138 rfl rfl zqb) (by decide) ?_ | refine JO.v (Yv.indexArr1o (j := 5) Tryz.underlying139 sz_138 rfl rfl zqb) (by decide) ?_
        refine JO.v (Yv.load1 one_138 rfl (by first | exact Kn.own zqa (by first | first | exact schT_get b (by omega) (by omega) | exact adT_get s v8 (by omega) | rfl | exact tab_get zqg | exact gm (d := 0) zqg) | exact Kn.ro zqa (by first | first | exact schT_get b (by omega) (by omega) | exact adT_get s v8 (by omega) | rfl | exact tab_get zqg | exact gm (d := 0) zqg) | exact Kn.row zqa (by first | first | exact schT_get b (by omega) (by omega) | exact adT_get s v8 (by omega) | rfl | exact tab_get zqg | exact gm (d := 0) zqg) | exact Kn.rd zqc (by first | first | exact schT_get b (by omega) (by omega) | exact adT_get s v8 (by omega) | rfl | exact tab_get zqg | exact gm (d := 0) zqg) | exact Kn.rd2 zqc (by first | first | exact schT_get b (by omega) (by omega) | exact adT_get s v8 (by omega) | rfl | exact tab_get zqg | exact gm (d := 0) zqg) | exact Kn.var zqa (by first | first | exact schT_get b (by omega) (by omega) | exact adT_get s v8 (by omega) | rfl | exact tab_get zqg | exact gm (d := 0) zqg))) (by decide) ?_
        first | refine JO.v (Yv.indexArr1 (j := 6) Tryz.underlying139 sz_138 rfl rfl zqb) (by decide) ?_ | refine JO.v (Yv.indexArr1o (j := 6) Tryz.underlying139 sz_138 rfl rfl zqb) (by decide) ?_
        refine JO.v (Yv.load1 one_138 rfl (by first | exact Kn.own zqa (by first | first | exact schT_get b (by omega) (by omega) | exact adT_get s v8 (by omega) | rfl | exact tab_get zqg | exact gm (d := 0) zqg) | exact Kn.ro zqa (by first | first | exact schT_get b (by omega) (by omega) | exact adT_get s v8 (by omega) | rfl | exact tab_get zqg | exact gm (d := 0) zqg) | exact Kn.row zqa (by first | first | exact schT_get b (by omega) (by omega) | exact adT_get s v8 (by omega) | rfl | exact tab_get zqg | exact gm (d := 0) zqg) | exact Kn.rd zqc (by first | first | exact schT_get b (by omega) (by omega) | exact adT_get s v8 (by omega) | rfl | exact tab_get zqg | exact gm (d := 0) zqg) | exact Kn.rd2 zqc (by first | first | exact schT_get b (by omega) (by omega) | exact adT_get s v8 (by omega) | rfl | exact tab_get zqg | exact gm (d := 0) zqg) | exact Kn.var zqa (by first | first | exact schT_get b (by omega) (by omega) | exact adT_get s v8 (by omega) | rfl | exact tab_get zqg | exact gm (d := 0) zqg))) (by decide) ?_
        refine JO.v (Yv.as (v' := .agg ((rnds (sch b 64) s (x + 1)).map u32).toArray) (Yv.build (cs := [u32 (rx (sch b 64) v8 x + ry v8), u32 (v8.getD 0 0), u32 (v8.getD 1 0), u32 (v8.getD 2 0), u32 (v8.getD 3 0 + rx (sch b 64) v8 x), u32 (v8.getD 4 0), u32 (v8.getD 5 0), u32 (v8.getD 6 0)]) bld_139 rfl (by kernel_rfl)) (congrArg (fun l : List Value => Value.agg l.toArray) (rnd8 hv))) (by decide) ?_
        first | refine JO.storeAll sz_139 rfl rfl rfl (by first | rfl | (simp; done) | (simp; omega)) (by first | (simp; done) | exact one_map (fun _ => rfl) | exact one_tab (fun _ => rfl) | exact one_tab (fun _ => by split <;> rfl)) (by repeat (first | exact Upd.here _ _ _ | apply Upd.there)) (by first | rfl | (simp; done) | (simp; omega)) ?_ | refine JO.store sz_139 rfl rfl rfl (by first | rfl | (simp; done) | (simp; omega)) (by first | (simp; done) | exact one_sing rfl | exact one_map (fun _ => rfl) | exact one_piece (one_map (fun _ => rfl)) | exact one_tab (fun _ => rfl) | exact one_tab (fun _ => by split <;> rfl)) (by repeat (first | exact Upd.here _ _ _ | apply Upd.there)) zqb ?_ | refine JO.storeRow sz_139 rfl rfl rfl (by first | rfl | simp) (by first | (simp; done) | exact one_map (fun _ => rfl) | exact one_tab (fun _ => rfl) | exact one_tab (fun _ => by split <;> rfl)) (by repeat (first | exact Upd.here _ _ _ | apply Upd.there)) zqb zqb ?_
        refine JO.nil ?_
        refine JQ.block_normal ?_
        refine JQ.then_normal ?_
        refine JC.region ?_
        refine JO.v (Yv.move rfl) (by decide) ?_
        refine JO.v (Yv.bin rfl rfl (BinR.add_i zqf)) (by decide) ?_
        refine JO.v (Yv.assign rfl) (by decide) ?_
        refine JO.nil ?_
        refine JQ.head (x + 1) (by repeat (first | exact trivial | refine ⟨by first | rfl | (simp; done), ?_⟩)) (Subs.sub zqe) (Picks.perm zqd) ?_
        exact ⟨by omega, by omega⟩
      · try simp only [decide_eq_true_eq, decide_eq_false_iff_not, Bool.not_eq_true', Bool.not_eq_false', ne_eq, Decidable.not_not, Bool.not_eq_true, Bool.and_eq_true, Bool.or_eq_true, BitVec.reduceToNat] at hc3
        obtain rfl : x = 64 := by omega
        have hvl := rnds_len (sch b 64) s hs 64
        generalize hv : rnds (sch b 64) s 64 = v8 at hvl ⊢
        refine JC.exit ?_
        refine JQ.then_exit ?_
        refine JQ.then_exit ?_
        refine JQ.block_exit ?_
        refine JQ.then_normal ?_
        refine JC.seq ?_
        refine JC.seq ?_
        refine JC.region ?_
        refine JO.v (Yv.assign rfl) (by decide) ?_
        refine JO.nil ?_
        refine JQ.then_normal ?_
        refine JC.block ?_
        refine JC.loop (ι := Nat) (fun x => x ≤ 8) (fun x => [(2, ptr b2 0), (4, ptr b4 0), (11, ptr b11 0), (19, it (x : Int))]) (fun x => []) (fun x => [Res.cells b2 (s.map u32) 139, Res.cells b4 (List.replicate 8 (u32 0)) 139, Res.cells b11 ((adT s v8 x).map u32) 139]) (fun x => 8 - x) 0 (by repeat (first | exact trivial | refine ⟨by first | rfl | (simp; done), ?_⟩)) (Subs.sub zqe) (Picks.perm (by rw [adT_0 s hvl]; repeat (first | exact Picks.nil _ | apply Picks.cons | exact Pull.here _ _ | apply Pull.there))) ?_ (fun x hx => ?_)
        · exact Nat.zero_le _
        refine JC.seq ?_
        refine JC.seq ?_
        refine JC.region ?_
        refine JO.v (Yv.move rfl) (by decide) ?_
        refine JO.v (Yv.bin rfl rfl BinR.lss_i) (by decide) ?_
        refine JO.nil ?_
        refine JQ.then_normal ?_
        refine JC.cond rfl (fun hc4 => ?_) (fun hc4 => ?_)
        · try simp only [decide_eq_true_eq, decide_eq_false_iff_not, Bool.not_eq_true', Bool.not_eq_false', ne_eq, Decidable.not_not, Bool.not_eq_true, Bool.and_eq_true, Bool.or_eq_true, BitVec.reduceToNat] at hc4
          refine JC.skip ?_
          refine JQ.then_normal ?_
          refine JC.seq ?_
          refine JC.block ?_
          refine JC.draw (.one 0 (.one 1 (.one 2 (.one 3 (.one 4 (.one 5 (.one 6 (.one 7 (.one 8 (.one 9 .nil)))))))))) (fun i => ([9] : List Nat).contains i) (fun i => ([9] : List Nat).contains i) (fun i => ([0, 1, 2, 4, 5, 7, 8] : List Nat).contains i) mixed (by kernel_rfl) (by decide) (by kernel_rfl) ?_
          refine JR.u rfl rfl rfl (Yv.move rfl) (by decide) ?_
          refine JR.u rfl rfl rfl (Yv.move rfl) (by decide) ?_
          first | refine JR.u rfl rfl rfl (Yv.indexArr1 Tryz.underlying139 sz_138 rfl rfl zqb) (by decide) ?_ | refine JR.u rfl rfl rfl (Yv.indexArr1o Tryz.underlying139 sz_138 rfl rfl zqb) (by decide) ?_
          refine JR.v rfl rfl rfl (Yv.load1 one_138 rfl (by first | exact Kn.own zqa (by first | first | exact schT_get b (by omega) (by omega) | exact adT_get s v8 (by omega) | rfl | exact tab_get zqg | exact gm (d := 0) zqg) | exact Kn.ro zqa (by first | first | exact schT_get b (by omega) (by omega) | exact adT_get s v8 (by omega) | rfl | exact tab_get zqg | exact gm (d := 0) zqg) | exact Kn.row zqa (by first | first | exact schT_get b (by omega) (by omega) | exact adT_get s v8 (by omega) | rfl | exact tab_get zqg | exact gm (d := 0) zqg) | exact Kn.rd zqc (by first | first | exact schT_get b (by omega) (by omega) | exact adT_get s v8 (by omega) | rfl | exact tab_get zqg | exact gm (d := 0) zqg) | exact Kn.rd2 zqc (by first | first | exact schT_get b (by omega) (by omega) | exact adT_get s v8 (by omega) | rfl | exact tab_get zqg | exact gm (d := 0) zqg) | exact Kn.var zqa (by first | first | exact schT_get b (by omega) (by omega) | exact adT_get s v8 (by omega) | rfl | exact tab_get zqg | exact gm (d := 0) zqg))) (by decide) ?_
          refine JR.u rfl rfl rfl (Yv.move rfl) (by decide) ?_
          first | refine JR.u rfl rfl rfl (Yv.indexArr1 Tryz.underlying139 sz_138 rfl rfl zqb) (by decide) ?_ | refine JR.u rfl rfl rfl (Yv.indexArr1o Tryz.underlying139 sz_138 rfl rfl zqb) (by decide) ?_
          refine JR.v rfl rfl rfl (Yv.load1 one_138 rfl (by first | exact Kn.own zqa (by first | first | exact schT_get b (by omega) (by omega) | exact adT_get s v8 (by omega) | rfl | exact tab_get zqg | exact gm (d := 0) zqg) | exact Kn.ro zqa (by first | first | exact schT_get b (by omega) (by omega) | exact adT_get s v8 (by omega) | rfl | exact tab_get zqg | exact gm (d := 0) zqg) | exact Kn.row zqa (by first | first | exact schT_get b (by omega) (by omega) | exact adT_get s v8 (by omega) | rfl | exact tab_get zqg | exact gm (d := 0) zqg) | exact Kn.rd zqc (by first | first | exact schT_get b (by omega) (by omega) | exact adT_get s v8 (by omega) | rfl | exact tab_get zqg | exact gm (d := 0) zqg) | exact Kn.rd2 zqc (by first | first | exact schT_get b (by omega) (by omega) | exact adT_get s v8 (by omega) | rfl | exact tab_get zqg | exact gm (d := 0) zqg) | exact Kn.var zqa (by first | first | exact schT_get b (by omega) (by omega) | exact adT_get s v8 (by omega) | rfl | exact tab_get zqg | exact gm (d := 0) zqg))) (by decide) ?_
          refine JR.u rfl rfl rfl (Yv.as (v' := u32 (s.getD x 0 + v8.getD x 0)) (Yv.bin rfl rfl (BinR.add_u32)) (congrArg u32 (BitVec.add_comm _ _))) (by decide) ?_
          first | refine JR.u rfl rfl rfl (Yv.indexArr1 Tryz.underlying139 sz_138 rfl rfl zqb) (by decide) ?_ | refine JR.u rfl rfl rfl (Yv.indexArr1o Tryz.underlying139 sz_138 rfl rfl zqb) (by decide) ?_
          first | refine JR.m0 rfl rfl (Mv.store1 sz_138 rfl rfl rfl (by repeat (first | exact Upd.here _ _ _ | apply Upd.there)) zqb) ?_ | refine JR.m0 rfl rfl (Mv.storeRow1 sz_138 rfl rfl rfl (by repeat (first | exact Upd.here _ _ _ | apply Upd.there)) zqb (by first | rfl | (simp; done) | omega | (simp; omega))) ?_
          rintro _ _ _ ⟨rfl, rfl⟩
          refine ⟨⟨Subs.sub zqe, .inl rfl⟩, ?_⟩
          refine JR.nil ?_
          refine JQ.block_normal ?_
          refine JQ.then_normal ?_
          refine JC.region ?_
          refine JO.v (Yv.move rfl) (by decide) ?_
          refine JO.v (Yv.bin rfl rfl (BinR.add_i zqf)) (by decide) ?_
          refine JO.v (Yv.assign rfl) (by decide) ?_
          refine JO.nil ?_
          rw [adT_set s v8 (by omega)]
          refine JQ.head (x + 1) (by repeat (first | exact trivial | refine ⟨by first | rfl | (simp; done), ?_⟩)) (Subs.sub zqe) (Picks.perm zqd) ?_
          exact ⟨by omega, by omega⟩
        · try simp only [decide_eq_true_eq, decide_eq_false_iff_not, Bool.not_eq_true', Bool.not_eq_false', ne_eq, Decidable.not_not, Bool.not_eq_true, Bool.and_eq_true, Bool.or_eq_true, BitVec.reduceToNat] at hc4
          obtain rfl : x = 8 := by omega
          rw [adT_8, ← hv, show add8 s (rnds (sch b 64) s 64) = comp s b from rfl]
          refine JC.exit ?_
          refine JQ.then_exit ?_
          refine JQ.then_exit ?_
          refine JQ.block_exit ?_
          refine JQ.then_normal ?_
          refine JC.seq ?_
          refine JC.region ?_
          first | refine JO.v (Yv.as (v' := .agg ((comp s b).map u32).toArray) (Yv.loadOwn agg_139 zqa rfl (by first | rfl | (simp; done) | (simp; omega) | (simp [*]; done))) (congrArg (fun l : List Value => Value.agg l.toArray) (by simp))) (by decide) ?_ | refine JO.v (Yv.as (v' := .agg ((comp s b).map u32).toArray) (Yv.loadOwnAt agg_139 zqa rfl (by first | rfl | (simp; done) | (simp; omega) | (simp [*]; done))) (congrArg (fun l : List Value => Value.agg l.toArray) (by simp))) (by decide) ?_ | refine JO.v (Yv.as (v' := .agg ((comp s b).map u32).toArray) (Yv.loadRow agg_139 zqa rfl (by first | rfl | (simp; done) | (simp; omega) | (simp [*]; done))) (congrArg (fun l : List Value => Value.agg l.toArray) (by simp))) (by decide) ?_ | refine JO.v (Yv.as (v' := .agg ((comp s b).map u32).toArray) (Yv.loadRd agg_139 zqc rfl (by first | rfl | (simp; done) | (simp; omega) | (simp [*]; done))) (congrArg (fun l : List Value => Value.agg l.toArray) (by simp))) (by decide) ?_ | refine JO.v (Yv.as (v' := .agg ((comp s b).map u32).toArray) (Yv.loadRo agg_139 zqa rfl (by first | rfl | (simp; done) | (simp; omega) | (simp [*]; done))) (congrArg (fun l : List Value => Value.agg l.toArray) (by simp))) (by decide) ?_
          first | refine JO.storeAll sz_139 rfl rfl rfl (by first | rfl | (simp; done) | (simp; omega)) (by first | (simp; done) | exact one_map (fun _ => rfl) | exact one_tab (fun _ => rfl) | exact one_tab (fun _ => by split <;> rfl)) (by repeat (first | exact Upd.here _ _ _ | apply Upd.there)) (by first | rfl | (simp; done) | (simp; omega)) ?_ | refine JO.store sz_139 rfl rfl rfl (by first | rfl | (simp; done) | (simp; omega)) (by first | (simp; done) | exact one_sing rfl | exact one_map (fun _ => rfl) | exact one_piece (one_map (fun _ => rfl)) | exact one_tab (fun _ => rfl) | exact one_tab (fun _ => by split <;> rfl)) (by repeat (first | exact Upd.here _ _ _ | apply Upd.there)) zqb ?_ | refine JO.storeRow sz_139 rfl rfl rfl (by first | rfl | simp) (by first | (simp; done) | exact one_map (fun _ => rfl) | exact one_tab (fun _ => rfl) | exact one_tab (fun _ => by split <;> rfl)) (by repeat (first | exact Upd.here _ _ _ | apply Upd.there)) zqb zqb ?_
          refine JO.nil ?_
          refine JQ.then_normal ?_
          refine JC.ret ?_
          exact JQ.done (.inr rfl) (Γ' := []) (H' := []) (res1 rfl (RV.cell agg_139 zqa rfl (by simp))) (Subs.sub zqe) (Picks.perm zqd) ⟨rfl, rfl, rfl⟩


theorem f58_spec (v : Value) (b : B8) (hb : b.length ≤ 1000000) :
    Spec Tryz.prog 58 #[v] [Res.rd v b.length 1 (b.map u8)] []
      (fun r Γ' H' => r = (.agg ((sha b).map u8).toArray) ∧ Γ' = [] ∧ H' = []) := by
  refine Spec.of_args Tryz.func58 rfl Tryz.ntmps58 (by simp) fun w => ?_
  have hzl := zeros_lt b.length
  have hpl := padded_len b
  have hpm := padded_mod b
  refine JC.seq ?_
  refine JC.region ?_
  refine JO.alloc _ zero_53 rfl (by decide) fun b2 => ?_
  refine JO.nil ?_
  refine JQ.then_normal ?_
  refine JC.seq ?_
  refine JC.region ?_
  refine JO.buildEmpty Tryz.underlying23 sz_5 (by decide) fun v10 => ?_
  refine JO.v (Yv.move rfl) (by decide) ?_
  refine JO.append Tryz.underlying23 info_5 rfl (by decide) rfl rfl (by repeat (first | exact Pull.here _ _ | apply Pull.there)) (by first | exact Src.nil | exact Src.rd zqc (by decide) | exact Src.cells zqa (by simp)) (by first | (simp; done) | exact one_sing rfl | exact one_map (fun _ => rfl) | exact one_piece (one_map (fun _ => rfl)) | exact one_tab (fun _ => rfl) | exact one_tab (fun _ => by split <;> rfl)) (by unfold maxLen; omega) (by omega) (by decide) fun v12 => ?_
  refine JO.lit1 Tryz.underlying23 info_5 rfl rfl (by simp) (by decide) (by decide) (by decide) fun v13 => ?_
  refine JO.append Tryz.underlying23 info_5 rfl (by decide) rfl rfl (by repeat (first | exact Pull.here _ _ | apply Pull.there)) (by first | exact Src.nil | exact Src.rd zqc (by decide) | exact Src.cells zqa (by simp)) (by first | (simp; done) | exact one_sing rfl | exact one_map (fun _ => rfl) | exact one_piece (one_map (fun _ => rfl)) | exact one_tab (fun _ => rfl) | exact one_tab (fun _ => by split <;> rfl)) (by unfold maxLen; omega) (by omega) (by decide) fun v14 => ?_
  rw [List.nil_append, Nat.zero_add, show (b.map u8 ++ [Value.int .u8 128]) = (padZ b 0).map u8 from by simp [padZ], show b.length + 1 = (padZ b 0).length from by simp]
  refine JO.v (Yv.assign rfl) (by decide) ?_
  refine JO.nil ?_
  refine JQ.then_normal ?_
  refine JC.seq ?_
  refine JC.block ?_
  refine JC.loop (ι := Nat × Value) (fun x => x.1 ≤ zeros b.length) (fun x => [(0, v), (2, ptr b2 0), (3, x.2)]) (fun x => [Res.rd v b.length 1 (b.map u8)]) (fun x => [Res.cells b2 (List.replicate 32 (u8 0)) 53, Res.row x.2 (padZ b x.1).length 5 1 ((padZ b x.1).map u8)]) (fun x => zeros b.length - x.1) (0, _) (by repeat (first | exact trivial | refine ⟨by first | rfl | (simp; done), ?_⟩)) (Subs.sub zqe) (Picks.perm zqd) ?_ (fun x hx => ?_)
  · exact Nat.zero_le _
  obtain ⟨z, v3⟩ := x
  have hz := hx
  dsimp only at hz ⊢
  have hpz := padZ_len b z
  refine JC.seq ?_
  refine JC.seq ?_
  refine JC.region ?_
  refine JO.v (Yv.move rfl) (by decide) ?_
  first | refine JO.v (Yv.len_s Tryz.underlying23 rfl) (by decide) ?_ | refine JO.v (Yv.lenRd Tryz.underlying23 rfl zqc) (by decide) ?_
  refine JO.v (Yv.bin rfl rfl (BinR.rem_i (by first | omega | decide | (simp; omega)) (by first | omega | decide | (simp; omega)))) (by decide) ?_
  refine JO.v (Yv.bin rfl rfl BinR.neq_i) (by decide) ?_
  refine JO.nil ?_
  refine JQ.then_normal ?_
  refine JC.cond rfl (fun hc1 => ?_) (fun hc1 => ?_)
  · try simp only [decide_eq_true_eq, decide_eq_false_iff_not, Bool.not_eq_true', Bool.not_eq_false', ne_eq, Decidable.not_not, Bool.not_eq_true, Bool.and_eq_true, Bool.or_eq_true, BitVec.reduceToNat] at hc1
    have hlt : z < zeros b.length := by unfold zeros at hz ⊢; omega
    refine JC.skip ?_
    refine JQ.then_normal ?_
    refine JC.block ?_
    refine JC.region ?_
    refine JO.v (Yv.move rfl) (by decide) ?_
    refine JO.lit1 Tryz.underlying23 info_5 rfl rfl (by simp) (by decide) (by decide) (by decide) fun v20 => ?_
    refine JO.append Tryz.underlying23 info_5 rfl (by decide) rfl rfl (by repeat (first | exact Pull.here _ _ | apply Pull.there)) (by first | exact Src.nil | exact Src.rd zqc (by decide) | exact Src.cells zqa (by simp)) (by first | (simp; done) | exact one_sing rfl | exact one_map (fun _ => rfl) | exact one_piece (one_map (fun _ => rfl)) | exact one_tab (fun _ => rfl) | exact one_tab (fun _ => by split <;> rfl)) (by unfold maxLen; omega) (by omega) (by decide) fun v21 => ?_
    refine JO.v (Yv.assign rfl) (by decide) ?_
    refine JO.nil ?_
    refine JQ.block_normal ?_
    rw [show (padZ b z).map u8 ++ [Value.int .u8 0] = (padZ b (z + 1)).map u8 from by rw [← padZ_succ, List.map_append]; rfl, show (padZ b z).length + 1 = (padZ b (z + 1)).length from by simp; omega]
    refine JQ.head (z + 1, _) (by repeat (first | exact trivial | refine ⟨by first | rfl | (simp; done), ?_⟩)) (Subs.sub zqe) (Picks.perm zqd) ?_
    exact ⟨by dsimp only; omega, by dsimp only; omega⟩
  · try simp only [decide_eq_true_eq, decide_eq_false_iff_not, Bool.not_eq_true', Bool.not_eq_false', ne_eq, Decidable.not_not, Bool.not_eq_true, Bool.and_eq_true, Bool.or_eq_true, BitVec.reduceToNat] at hc1
    obtain rfl : z = zeros b.length := by unfold zeros at hz ⊢; omega
    refine JC.exit ?_
    refine JQ.then_exit ?_
    refine JQ.then_exit ?_
    refine JQ.block_exit ?_
    refine JQ.then_normal ?_
    refine JC.seq ?_
    refine JC.region ?_
    refine JO.v (Yv.move rfl) (by decide) ?_
    first | refine JO.v (Yv.len_s Tryz.underlying23 rfl) (by decide) ?_ | refine JO.v (Yv.lenRd Tryz.underlying23 rfl zqc) (by decide) ?_
    refine JO.v (Yv.as (v' := u64 (BitVec.ofNat 64 b.length)) (Yv.conv_i_u64 Tryz.underlying3 Tryz.underlying30 rfl) (congrArg u64 (by simp))) (by decide) ?_
    refine JO.v (Yv.bin rfl rfl (BinR.mul_u64 (b := 8#64))) (by decide) ?_
    refine JO.v (Yv.assign rfl) (by decide) ?_
    refine JO.nil ?_
    refine JQ.then_normal ?_
    refine JC.seq ?_
    refine JC.seq ?_
    refine JC.region ?_
    refine JO.v (Yv.assign rfl) (by decide) ?_
    refine JO.nil ?_
    refine JQ.then_normal ?_
    refine JC.block ?_
    refine JC.loop (ι := Nat × Value) (fun x => x.1 ≤ 8) (fun x => [(2, ptr b2 0), (3, x.2), (4, u64 (BitVec.ofNat 64 b.length * 8#64)), (5, it (x.1 : Int))]) (fun x => []) (fun x => [Res.cells b2 (List.replicate 32 (u8 0)) 53, Res.row x.2 (padZ b (zeros b.length) ++ (size8 b.length).take x.1).length 5 1 ((padZ b (zeros b.length) ++ (size8 b.length).take x.1).map u8)]) (fun x => 8 - x.1) (0, v3) (by repeat (first | exact trivial | refine ⟨by first | rfl | (simp; done), ?_⟩)) (Subs.sub zqe) (Picks.perm (by rw [List.take_zero, List.append_nil]; repeat (first | exact Picks.nil _ | apply Picks.cons | exact Pull.here _ _ | apply Pull.there))) ?_ (fun x hx => ?_)
    · exact Nat.zero_le _
    obtain ⟨i, v3'⟩ := x
    have hi := hx
    dsimp only at hi ⊢
    have hpz2 : (padZ b (zeros b.length) ++ (size8 b.length).take i).length ≤ 2000000 := by simp; omega
    refine JC.seq ?_
    refine JC.seq ?_
    refine JC.region ?_
    refine JO.v (Yv.move rfl) (by decide) ?_
    refine JO.v (Yv.bin rfl rfl BinR.lss_i) (by decide) ?_
    refine JO.nil ?_
    refine JQ.then_normal ?_
    refine JC.cond rfl (fun hc2 => ?_) (fun hc2 => ?_)
    · try simp only [decide_eq_true_eq, decide_eq_false_iff_not, Bool.not_eq_true', Bool.not_eq_false', ne_eq, Decidable.not_not, Bool.not_eq_true, Bool.and_eq_true, Bool.or_eq_true, BitVec.reduceToNat] at hc2
      refine JC.skip ?_
      refine JQ.then_normal ?_
      refine JC.seq ?_
      refine JC.block ?_
      refine JC.region ?_
      refine JO.v (Yv.move rfl) (by decide) ?_
      refine JO.v (Yv.move rfl) (by decide) ?_
      refine JO.v (Yv.move rfl) (by decide) ?_
      refine JO.v (Yv.bin rfl rfl (BinR.mul_i zqf)) (by decide) ?_
      refine JO.v (Yv.as (v' := it ((56 - 8 * i : Nat) : Int)) (Yv.bin rfl rfl (BinR.sub_i zqf)) (congrArg it (by omega))) (by decide) ?_
      refine JO.v (Yv.as (v' := u64 ((BitVec.ofNat 64 b.length * 8#64) >>> (56 - 8 * i))) (Yv.bin rfl rfl (BinR.shr_u64_i (by first | omega | decide | (simp; omega)))) (congrArg (fun n => u64 ((BitVec.ofNat 64 b.length * 8#64) >>> n)) (by simp))) (by decide) ?_
      refine JO.v (Yv.conv_u64_u8 Tryz.underlying30 Tryz.underlying5 rfl) (by decide) ?_
      refine JO.lit1 Tryz.underlying23 info_5 rfl rfl (by simp) (by decide) (by decide) (by decide) fun v37 => ?_
      refine JO.append Tryz.underlying23 info_5 rfl (by decide) rfl rfl (by repeat (first | exact Pull.here _ _ | apply Pull.there)) (by first | exact Src.nil | exact Src.rd zqc (by decide) | exact Src.cells zqa (by simp)) (by first | (simp; done) | exact one_sing rfl | exact one_map (fun _ => rfl) | exact one_piece (one_map (fun _ => rfl)) | exact one_tab (fun _ => rfl) | exact one_tab (fun _ => by split <;> rfl)) (by unfold maxLen; omega) (by omega) (by decide) fun v38 => ?_
      refine JO.v (Yv.assign rfl) (by decide) ?_
      refine JO.nil ?_
      refine JQ.block_normal ?_
      refine JQ.then_normal ?_
      refine JC.region ?_
      refine JO.v (Yv.move rfl) (by decide) ?_
      refine JO.v (Yv.bin rfl rfl (BinR.add_i zqf)) (by decide) ?_
      refine JO.v (Yv.assign rfl) (by decide) ?_
      refine JO.nil ?_
      rw [show ∀ y : BitVec 8, (padZ b (zeros b.length) ++ (size8 b.length).take i).map u8 ++ [u8 y] = (padZ b (zeros b.length) ++ ((size8 b.length).take i ++ [y])).map u8 from fun y => by simp, size8_take _ (by omega), show (padZ b (zeros b.length) ++ (size8 b.length).take i).length + 1 = (padZ b (zeros b.length) ++ (size8 b.length).take (i + 1)).length from by simp; omega]
      refine JQ.head (i + 1, _) (by repeat (first | exact trivial | refine ⟨by first | rfl | (simp; done), ?_⟩)) (Subs.sub zqe) (Picks.perm zqd) ?_
      exact ⟨by dsimp only; omega, by dsimp only; omega⟩
    · try simp only [decide_eq_true_eq, decide_eq_false_iff_not, Bool.not_eq_true', Bool.not_eq_false', ne_eq, Decidable.not_not, Bool.not_eq_true, Bool.and_eq_true, Bool.or_eq_true, BitVec.reduceToNat] at hc2
      obtain rfl : i = 8 := by omega
      rw [List.take_of_length_le (by simp), ← padded_eq]
      refine JC.freeze (by repeat (first | exact Pull.here _ _ | apply Pull.there)) (by decide) ?_
      refine JC.exit ?_
      refine JQ.then_exit ?_
      refine JQ.then_exit ?_
      refine JQ.block_exit ?_
      refine JQ.then_normal ?_
      refine JC.seq ?_
      refine JC.region ?_
      refine JO.v (Yv.build (cs := sqr.map u32) bld_139 rfl (by kernel_rfl)) (by decide) ?_
      refine JO.alloc _ zero_139 rfl (by decide) fun b6 => ?_
      first | refine JO.storeAll sz_139 rfl rfl rfl (by first | rfl | (simp; done) | (simp; omega)) (by first | (simp; done) | exact one_map (fun _ => rfl) | exact one_tab (fun _ => rfl) | exact one_tab (fun _ => by split <;> rfl)) (by repeat (first | exact Upd.here _ _ _ | apply Upd.there)) (by first | rfl | (simp; done) | (simp; omega)) ?_ | refine JO.store sz_139 rfl rfl rfl (by first | rfl | (simp; done) | (simp; omega)) (by first | (simp; done) | exact one_sing rfl | exact one_map (fun _ => rfl) | exact one_piece (one_map (fun _ => rfl)) | exact one_tab (fun _ => rfl) | exact one_tab (fun _ => by split <;> rfl)) (by repeat (first | exact Upd.here _ _ _ | apply Upd.there)) zqb ?_ | refine JO.storeRow sz_139 rfl rfl rfl (by first | rfl | simp) (by first | (simp; done) | exact one_map (fun _ => rfl) | exact one_tab (fun _ => rfl) | exact one_tab (fun _ => by split <;> rfl)) (by repeat (first | exact Upd.here _ _ _ | apply Upd.there)) zqb zqb ?_
      refine JO.nil ?_
      refine JQ.then_normal ?_
      refine JC.seq ?_
      refine JC.seq ?_
      refine JC.region ?_
      refine JO.v (Yv.assign rfl) (by decide) ?_
      refine JO.nil ?_
      refine JQ.then_normal ?_
      refine JC.block ?_
      refine JC.loop (ι := Nat) (fun x => 64 * x ≤ (padded b).length) (fun x => [(2, ptr b2 0), (3, v3'), (6, ptr b6 0), (7, it ((64 * x : Nat) : Int))]) (fun x => [Res.rd v3' (padded b).length 1 ((padded b).map u8)]) (fun x => [Res.cells b2 (List.replicate 32 (u8 0)) 53, Res.cells b6 ((hashN (padded b) x).map u32) 139]) (fun x => (padded b).length - 64 * x) 0 (by repeat (first | exact trivial | refine ⟨by first | rfl | (simp; done), ?_⟩)) (Subs.sub zqe) (Picks.perm zqd) ?_ (fun x hx => ?_)
      · exact Nat.zero_le _
      refine JC.seq ?_
      refine JC.seq ?_
      refine JC.region ?_
      refine JO.v (Yv.move rfl) (by decide) ?_
      refine JO.v (Yv.move rfl) (by decide) ?_
      first | refine JO.v (Yv.len_s Tryz.underlying23 rfl) (by decide) ?_ | refine JO.v (Yv.lenRd Tryz.underlying23 rfl zqc) (by decide) ?_
      refine JO.v (Yv.bin rfl rfl BinR.lss_i) (by decide) ?_
      refine JO.nil ?_
      refine JQ.then_normal ?_
      refine JC.cond rfl (fun hc3 => ?_) (fun hc3 => ?_)
      · try simp only [decide_eq_true_eq, decide_eq_false_iff_not, Bool.not_eq_true', Bool.not_eq_false', ne_eq, Decidable.not_not, Bool.not_eq_true, Bool.and_eq_true, Bool.or_eq_true, BitVec.reduceToNat] at hc3
        have h64 : 64 * x + 64 ≤ (padded b).length := by omega
        refine JC.skip ?_
        refine JQ.then_normal ?_
        refine JC.seq ?_
        refine JC.block ?_
        refine JC.draw (.one 0 (.one 1 (.one 2 (.one 3 (.one 4 (.one 5 (.one 6 (.one 7 .nil)))))))) (fun i => ([6, 7] : List Nat).contains i) (fun i => ([6, 7] : List Nat).contains i) (fun i => ([1, 2, 3, 4, 5] : List Nat).contains i) mixed (by kernel_rfl) (by decide) (by kernel_rfl) ?_
        first | refine JR.v rfl rfl rfl (Yv.as (v' := .agg ((hashN (padded b) x).map u32).toArray) (Yv.loadOwn agg_139 zqa rfl (by first | rfl | (simp; done) | (simp; omega) | (simp [*]; done))) rfl) (by decide) ?_ | refine JR.v rfl rfl rfl (Yv.as (v' := .agg ((hashN (padded b) x).map u32).toArray) (Yv.loadOwnAt agg_139 zqa rfl (by first | rfl | (simp; done) | (simp; omega) | (simp [*]; done))) rfl) (by decide) ?_ | refine JR.v rfl rfl rfl (Yv.as (v' := .agg ((hashN (padded b) x).map u32).toArray) (Yv.loadRow agg_139 zqa rfl (by first | rfl | (simp; done) | (simp; omega) | (simp [*]; done))) rfl) (by decide) ?_ | refine JR.v rfl rfl rfl (Yv.as (v' := .agg ((hashN (padded b) x).map u32).toArray) (Yv.loadRd agg_139 zqc rfl (by first | rfl | (simp; done) | (simp; omega) | (simp [*]; done))) rfl) (by decide) ?_ | refine JR.v rfl rfl rfl (Yv.as (v' := .agg ((hashN (padded b) x).map u32).toArray) (Yv.loadRo agg_139 zqa rfl (by first | rfl | (simp; done) | (simp; omega) | (simp [*]; done))) rfl) (by decide) ?_
        refine JR.u rfl rfl rfl (Yv.move rfl) (by decide) ?_
        refine JR.u rfl rfl rfl (Yv.move rfl) (by decide) ?_
        refine JR.u rfl rfl rfl (Yv.move rfl) (by decide) ?_
        refine JR.u rfl rfl rfl (Yv.as (v' := it ((64 * x + 64 : Nat) : Int)) (Yv.bin rfl rfl (BinR.add_i zqf)) (congrArg it (by omega))) (by decide) ?_
        refine JR.u rfl rfl rfl (Yv.cutRd (l := 64 * x) (h := 64 * x + 64) Tryz.underlying23 sz_5 rfl zqa ⟨_, rfl⟩ ⟨_, rfl⟩ (by first | (simp; done) | omega | (simp; omega)) (by first | (simp; done) | omega | (simp; omega))) (by decide) ?_
        refine JR.cutRd (v := v3') (64 * x) (64 * x + 64) zqa (by omega) (by omega) ?_
        rw [rd_blk h64]
        refine JR.m rfl rfl (Mv.callB body_81 rfl (f81_spec (hashN (padded b) x) (hashN_len _ _) (cutV 1 v3' (64 * x) (64 * x + 64)) (blkAt (padded b) x) (blk_len (by omega))) zqd (by repeat (first | exact Lends.nil _ | apply Lends.cons | exact Lend.same _ _ | exact Lend.row _ _ _ _ _ _ (by decide) | apply Lend.there)) (by rintro _ _ _ ⟨_, h, _⟩; exact h)) (by decide) ?_
        rintro _ _ _ ⟨_, ⟨rfl, _, rfl⟩, hΓ, hH⟩
        simp only [List.cons_append, List.nil_append] at hH; subst hΓ hH
        refine ⟨⟨Subs.sub zqe, .inl rfl⟩, ?_⟩
        first | refine JR.m0 rfl rfl (Mv.storeAll sz_139 rfl rfl rfl (by first | rfl | (simp; done) | (simp; omega)) (by first | (simp; done) | exact one_sing rfl | exact one_map (fun _ => rfl) | exact one_piece (one_map (fun _ => rfl)) | exact one_tab (fun _ => rfl) | exact one_tab (fun _ => by split <;> rfl)) (by repeat (first | exact Upd.here _ _ _ | apply Upd.there)) (by first | rfl | (simp; done) | (simp; omega))) ?_ | refine JR.m0 rfl rfl (Mv.store (vs := _) sz_139 rfl rfl rfl rfl (by first | (simp; done) | exact one_sing rfl | exact one_map (fun _ => rfl) | exact one_piece (one_map (fun _ => rfl)) | exact one_tab (fun _ => rfl) | exact one_tab (fun _ => by split <;> rfl)) (by repeat (first | exact Upd.here _ _ _ | apply Upd.there)) zqb) ?_ | refine JR.m0 rfl rfl (Mv.storeRow (us := _) sz_139 rfl rfl rfl rfl (by first | (simp; done) | exact one_sing rfl | exact one_map (fun _ => rfl) | exact one_piece (one_map (fun _ => rfl)) | exact one_tab (fun _ => rfl) | exact one_tab (fun _ => by split <;> rfl)) (by repeat (first | exact Upd.here _ _ _ | apply Upd.there)) zqb zqb) ?_
        rintro _ _ _ ⟨rfl, rfl⟩
        refine ⟨⟨Subs.sub zqe, .inl rfl⟩, ?_⟩
        refine JR.nil ?_
        refine JQ.block_normal ?_
        refine JQ.then_normal ?_
        refine JC.region ?_
        refine JO.v (Yv.move rfl) (by decide) ?_
        refine JO.v (Yv.as (v' := it ((64 * (x + 1) : Nat) : Int)) (Yv.bin rfl rfl (BinR.add_i zqf)) (congrArg it (by omega))) (by decide) ?_
        refine JO.v (Yv.assign rfl) (by decide) ?_
        refine JO.nil ?_
        refine JQ.head (x + 1) (by repeat (first | exact trivial | refine ⟨by first | rfl | (simp; done), ?_⟩)) (Subs.sub zqe) (Picks.perm zqd) ?_
        exact ⟨by omega, by omega⟩
      · try simp only [decide_eq_true_eq, decide_eq_false_iff_not, Bool.not_eq_true', Bool.not_eq_false', ne_eq, Decidable.not_not, Bool.not_eq_true, Bool.and_eq_true, Bool.or_eq_true, BitVec.reduceToNat] at hc3
        have hxe : x = (padded b).length / 64 := by omega
        have hvl := hashN_len (padded b) x
        generalize hvd : hashN (padded b) x = hv at hvl ⊢
        refine JC.exit ?_
        refine JQ.then_exit ?_
        refine JQ.then_exit ?_
        refine JQ.block_exit ?_
        refine JQ.then_normal ?_
        refine JC.seq ?_
        refine JC.region ?_
        refine JO.v (Yv.build bld_53 rfl rfl) (by decide) ?_
        refine JO.alloc _ zero_53 rfl (by decide) fun b8 => ?_
        first | refine JO.storeAll sz_53 rfl rfl rfl (by first | rfl | (simp; done) | (simp; omega)) (by first | (simp; done) | exact one_map (fun _ => rfl) | exact one_tab (fun _ => rfl) | exact one_tab (fun _ => by split <;> rfl)) (by repeat (first | exact Upd.here _ _ _ | apply Upd.there)) (by first | rfl | (simp; done) | (simp; omega)) ?_ | refine JO.store sz_53 rfl rfl rfl (by first | rfl | (simp; done) | (simp; omega)) (by first | (simp; done) | exact one_sing rfl | exact one_map (fun _ => rfl) | exact one_piece (one_map (fun _ => rfl)) | exact one_tab (fun _ => rfl) | exact one_tab (fun _ => by split <;> rfl)) (by repeat (first | exact Upd.here _ _ _ | apply Upd.there)) zqb ?_ | refine JO.storeRow sz_53 rfl rfl rfl (by first | rfl | simp) (by first | (simp; done) | exact one_map (fun _ => rfl) | exact one_tab (fun _ => rfl) | exact one_tab (fun _ => by split <;> rfl)) (by repeat (first | exact Upd.here _ _ _ | apply Upd.there)) zqb zqb ?_
        refine JO.nil ?_
        refine JQ.then_normal ?_
        refine JC.seq ?_
        refine JC.seq ?_
        refine JC.region ?_
        refine JO.v (Yv.assign rfl) (by decide) ?_
        refine JO.nil ?_
        refine JQ.then_normal ?_
        refine JC.block ?_
        refine JC.loop (ι := Nat) (fun x => x ≤ 32) (fun x => [(2, ptr b2 0), (6, ptr b6 0), (8, ptr b8 0), (9, it (x : Int))]) (fun x => []) (fun x => [Res.cells b2 (List.replicate 32 (u8 0)) 53, Res.cells b6 (hv.map u32) 139, Res.cells b8 (outT hv x) 53]) (fun x => 32 - x) 0 (by repeat (first | exact trivial | refine ⟨by first | rfl | (simp; done), ?_⟩)) (Subs.sub zqe) (Picks.perm zqd) ?_ (fun x hx => ?_)
        · exact Nat.zero_le _
        refine JC.seq ?_
        refine JC.seq ?_
        refine JC.region ?_
        refine JO.v (Yv.move rfl) (by decide) ?_
        refine JO.v (Yv.bin rfl rfl BinR.lss_i) (by decide) ?_
        refine JO.nil ?_
        refine JQ.then_normal ?_
        refine JC.cond rfl (fun hc4 => ?_) (fun hc4 => ?_)
        · try simp only [decide_eq_true_eq, decide_eq_false_iff_not, Bool.not_eq_true', Bool.not_eq_false', ne_eq, Decidable.not_not, Bool.not_eq_true, Bool.and_eq_true, Bool.or_eq_true, BitVec.reduceToNat] at hc4
          refine JC.skip ?_
          refine JQ.then_normal ?_
          refine JC.seq ?_
          refine JC.block ?_
          refine JC.region ?_
          refine JO.v (Yv.move rfl) (by decide) ?_
          refine JO.v (Yv.move rfl) (by decide) ?_
          refine JO.v (Yv.as (v' := it ((x / 4 : Nat) : Int)) (Yv.bin rfl rfl (BinR.quo_i (by first | omega | decide | (simp; omega)) (by first | omega | decide | (simp; omega)) zqf)) (congrArg it (by omega))) (by decide) ?_
          first | refine JO.v (Yv.indexArr1 Tryz.underlying139 sz_138 rfl rfl zqb) (by decide) ?_ | refine JO.v (Yv.indexArr1o Tryz.underlying139 sz_138 rfl rfl zqb) (by decide) ?_
          refine JO.v (Yv.load1 one_138 rfl (by first | exact Kn.own zqa (by first  | rfl | exact tab_get zqg | exact gm (d := 0) zqg) | exact Kn.ro zqa (by first  | rfl | exact tab_get zqg | exact gm (d := 0) zqg) | exact Kn.row zqa (by first  | rfl | exact tab_get zqg | exact gm (d := 0) zqg) | exact Kn.rd zqc (by first  | rfl | exact tab_get zqg | exact gm (d := 0) zqg) | exact Kn.rd2 zqc (by first  | rfl | exact tab_get zqg | exact gm (d := 0) zqg) | exact Kn.var zqa (by first  | rfl | exact tab_get zqg | exact gm (d := 0) zqg))) (by decide) ?_
          refine JO.v (Yv.move rfl) (by decide) ?_
          refine JO.v (Yv.bin rfl rfl (BinR.rem_i (by first | omega | decide | (simp; omega)) (by first | omega | decide | (simp; omega)))) (by decide) ?_
          refine JO.v (Yv.bin rfl rfl (BinR.mul_i zqf)) (by decide) ?_
          refine JO.v (Yv.as (v' := it ((24 - 8 * (x % 4) : Nat) : Int)) (Yv.bin rfl rfl (BinR.sub_i zqf)) (congrArg it (by omega))) (by decide) ?_
          refine JO.v (Yv.as (v' := u32 (hv.getD (x / 4) 0 >>> (24 - 8 * (x % 4)))) (Yv.bin rfl rfl (BinR.shr_u32_i (by first | omega | decide | (simp; omega)))) (congrArg (fun n => u32 (hv.getD (x / 4) 0 >>> n)) (by simp))) (by decide) ?_
          refine JO.v (Yv.as (v' := u8 (ob hv x)) (Yv.conv_u32_u8 Tryz.underlying138 Tryz.underlying5 rfl) rfl) (by decide) ?_
          first | refine JO.v (Yv.indexArr1 Tryz.underlying53 sz_5 rfl rfl zqb) (by decide) ?_ | refine JO.v (Yv.indexArr1o Tryz.underlying53 sz_5 rfl rfl zqb) (by decide) ?_
          first | refine JO.store1 sz_5 rfl rfl rfl (by repeat (first | exact Upd.here _ _ _ | apply Upd.there)) zqb ?_ | refine JO.storeRow1 sz_5 rfl rfl rfl (by repeat (first | exact Upd.here _ _ _ | apply Upd.there)) zqb (by first | rfl | (simp; done) | omega | (simp; omega)) ?_
          refine JO.nil ?_
          refine JQ.block_normal ?_
          refine JQ.then_normal ?_
          refine JC.region ?_
          refine JO.v (Yv.move rfl) (by decide) ?_
          refine JO.v (Yv.bin rfl rfl (BinR.add_i zqf)) (by decide) ?_
          refine JO.v (Yv.assign rfl) (by decide) ?_
          refine JO.nil ?_
          rw [outT_set]
          refine JQ.head (x + 1) (by repeat (first | exact trivial | refine ⟨by first | rfl | (simp; done), ?_⟩)) (Subs.sub zqe) (Picks.perm zqd) ?_
          exact ⟨by omega, by omega⟩
        · try simp only [decide_eq_true_eq, decide_eq_false_iff_not, Bool.not_eq_true', Bool.not_eq_false', ne_eq, Decidable.not_not, Bool.not_eq_true, Bool.and_eq_true, Bool.or_eq_true, BitVec.reduceToNat] at hc4
          obtain rfl : x = 32 := by omega
          rw [outT_32]
          refine JC.exit ?_
          refine JQ.then_exit ?_
          refine JQ.then_exit ?_
          refine JQ.block_exit ?_
          refine JQ.then_normal ?_
          refine JC.seq ?_
          refine JC.region ?_
          first | refine JO.v (Yv.as (v' := .agg ((outB hv).map u8).toArray) (Yv.loadOwn agg_53 zqa rfl (by first | rfl | (simp; done) | (simp; omega) | (simp [*]; done))) (congrArg (fun l : List Value => Value.agg l.toArray) (by simp))) (by decide) ?_ | refine JO.v (Yv.as (v' := .agg ((outB hv).map u8).toArray) (Yv.loadOwnAt agg_53 zqa rfl (by first | rfl | (simp; done) | (simp; omega) | (simp [*]; done))) (congrArg (fun l : List Value => Value.agg l.toArray) (by simp))) (by decide) ?_ | refine JO.v (Yv.as (v' := .agg ((outB hv).map u8).toArray) (Yv.loadRow agg_53 zqa rfl (by first | rfl | (simp; done) | (simp; omega) | (simp [*]; done))) (congrArg (fun l : List Value => Value.agg l.toArray) (by simp))) (by decide) ?_ | refine JO.v (Yv.as (v' := .agg ((outB hv).map u8).toArray) (Yv.loadRd agg_53 zqc rfl (by first | rfl | (simp; done) | (simp; omega) | (simp [*]; done))) (congrArg (fun l : List Value => Value.agg l.toArray) (by simp))) (by decide) ?_ | refine JO.v (Yv.as (v' := .agg ((outB hv).map u8).toArray) (Yv.loadRo agg_53 zqa rfl (by first | rfl | (simp; done) | (simp; omega) | (simp [*]; done))) (congrArg (fun l : List Value => Value.agg l.toArray) (by simp))) (by decide) ?_
          first | refine JO.storeAll sz_53 rfl rfl rfl (by first | rfl | (simp; done) | (simp; omega)) (by first | (simp; done) | exact one_map (fun _ => rfl) | exact one_tab (fun _ => rfl) | exact one_tab (fun _ => by split <;> rfl)) (by repeat (first | exact Upd.here _ _ _ | apply Upd.there)) (by first | rfl | (simp; done) | (simp; omega)) ?_ | refine JO.store sz_53 rfl rfl rfl (by first | rfl | (simp; done) | (simp; omega)) (by first | (simp; done) | exact one_sing rfl | exact one_map (fun _ => rfl) | exact one_piece (one_map (fun _ => rfl)) | exact one_tab (fun _ => rfl) | exact one_tab (fun _ => by split <;> rfl)) (by repeat (first | exact Upd.here _ _ _ | apply Upd.there)) zqb ?_ | refine JO.storeRow sz_53 rfl rfl rfl (by first | rfl | simp) (by first | (simp; done) | exact one_map (fun _ => rfl) | exact one_tab (fun _ => rfl) | exact one_tab (fun _ => by split <;> rfl)) (by repeat (first | exact Upd.here _ _ _ | apply Upd.there)) zqb zqb ?_
          refine JO.nil ?_
          refine JQ.then_normal ?_
          refine JC.ret ?_
          exact JQ.done (.inr rfl) (Γ' := []) (H' := []) (res1 rfl (RV.cell agg_53 zqa rfl (by simp))) (Subs.sub zqe) (Picks.perm zqd) ⟨by rw [sha, ← hxe, hvd], rfl, rfl⟩
end Go.Proofs.YthfipbjmpeegbaaGreatDoor

/- A string behind a row of bytes; a string's bytes as_ a slice. No program in sight. -/
namespace Go.Proofs.YthfipbjmpeegbaaGreatDoor
open Go.RowKit Go.Lib
set_option linter.unusedVariables false
theorem strCells_of (b : List (BitVec 8)) : strCells (strOf b) = b.map u8 := by
  simp [strCells, strOf, u8]
theorem strOf_size (b : List (BitVec 8)) : (strOf b).size = b.length := by simp [strOf, ByteArray.size]
theorem run_append_string_at {P : Program} {w : World} (t u ty e : TypeId) (i : TypeInfo) (ht : P.underlying t = some (.slice e)) (hu : P.underlying u = some .string) (hi : P.info? e = some i) (hz : i.zero = some (.int .u8 0)) (hsize : i.size = 1) (hby : i.bytes = 1)
    (v : Value) (n : Nat) (xs : List Value) (hown : w.ownsRow 0 e 1 v n xs) (s : ByteArray) (h63 : n + s.size ≤ maxLen) (hbytes : n + s.size ≤ 140737488355328) :
    ∃ v' w', (Builtin.append_ #[t, u] ty #[v, .string s]).run P w = .ok v' w' ∧ w'.ownsRow 0 e 1 v' (n + s.size) (xs ++ strCells s) ∧ w.grownBy w' v.ownBlock ∧ (∀ k, v'.ownBlock = some k → v.ownBlock = some k ∨ w.heap.size ≤ k) := by
  have hxl : xs.length = n := by simpa using hown.1
  obtain ⟨v', w', hr, h1, h2, h3⟩ := run_append_own_string (P := P) (w := w) 0 t u ty e i ht hu hi hz hsize hby v n xs hown s h63 hbytes (Nat.zero_le _)
  refine ⟨v', w', hr, h1, h2, ?_⟩
  rcases hown.2 with ⟨rfl, rfl⟩ | ⟨g, cap, cur, rfl, hbg, hg, hnc, hcm, hcs, htake⟩
  · have hx : xs = [] := List.eq_nil_of_length_eq_zero hxl
    subst hx
    obtain ⟨v2, w2, hr2, h12, _⟩ := run_append_own_string (P := P) (w := w) w.heap.size t u ty e i ht hu hi hz hsize hby (.slice none 0 0) 0 [] ⟨rfl, .inl ⟨rfl, rfl⟩⟩ s h63 hbytes (Nat.le_refl _)
    rw [hr] at hr2
    obtain ⟨rfl, rfl⟩ : v' = v2 ∧ w' = w2 := by cases hr2; exact ⟨rfl, rfl⟩
    intro k hk
    rcases h12.2 with ⟨rfl, _⟩ | ⟨g, cap, cur, rfl, hb, _⟩
    · cases hk
    · obtain rfl := Option.some.inj hk
      exact .inr hb
  · by_cases hroom : n + s.size ≤ cap
    · have hcs' : cur.size = cap := by simpa using hcs
      have hr2 := run_append_room_string (P := P) w t u ty e i ht hu hi hsize g n cap cur hg s hroom (by omega)
      rw [hr] at hr2
      obtain rfl : v' = _ := by cases hr2; rfl
      exact fun k hk => .inl hk
    · have holds : ∀ j u, xs[j]? = some u → w.cell? ((⟨g, 0, none⟩ : Addr).add j) = some u := hown.cells (g := g) rfl
      have hsmall : n + s.size ≤ 9223372036854775807 := by simp only [maxLen] at h63; omega
      have hr2 := run_append_grow_string (P := P) w t u ty e i (.int .u8 0) ht hu hi hz ⟨g, 0, none⟩ n cap xs (by rw [hsize]; simpa using hxl) holds s (by omega) (by omega) (by rw [hby]; exact growslice_fits (by omega) (by omega))
      rw [hr] at hr2
      obtain rfl : v' = _ := by cases hr2; rfl
      exact fun k hk => .inr (by obtain rfl := Option.some.inj hk; exact Nat.le_refl _)
section
variable {P : Program} {N : Nat} {C : Beg} {Q : Exit → Act → World → Prop} {E : Env} {Γ H : RL} {ty : TypeId} {ops : Array Oper} {rest : List Oper}
theorem Mv.aps {t u e : TypeId} {x y : Operand} {v : Value} {b : List (BitVec 8)} {n : Nat} {xs : List Value} {G : RL} (ht : P.underlying t = some (.slice e)) (hu : P.underlying u = some .string)
    (hinfo : (P.info? e).map (fun i => (i.zero, i.size, i.bytes)) = some (some (.int .u8 0), 1, 1)) (hx : ev E x = some v) (hy : ev E y = some (.string (strOf b)))
    (hp : Pull (Res.row v n e 1 xs) H G) (hnm : n + b.length ≤ maxLen) (hb : n + b.length ≤ 140737488355328) :
    Mv P N C E Γ H (.call { callee := .builtin .append, args := #[x, y], argTypes := #[t, u] }) ty (fun v' Γ' H' => Γ' = Γ ∧ H' = Res.row v' (n + b.length) e 1 (xs ++ b.map u8) :: G) := by
  intro dst pos aft gd a w he hs K Q hK
  obtain ⟨i, hi, hzz⟩ := Option.map_eq_some_iff.1 hinfo
  simp only [Prod.mk.injEq] at hzz
  obtain ⟨hz0, hz1, hz2⟩ := hzz
  have hst := hs.perm hp.perm
  have hrow := Res.row_ok.1 (hst.sat.hok _ (.head _))
  obtain ⟨v', w', hr, hown, hg, hnew⟩ := run_append_string_at (P := P) t u ty e i ht hu hi hz0 hz1 hz2 v n xs hrow (strOf b) (by rw [strOf_size]; exact hnm) (by rw [strOf_size]; exact hb)
  rw [strOf_size, strCells_of] at hown
  have hr' : (execOp a.eval ⟨dst, .call { callee := .builtin .append, args := #[x, y], argTypes := #[t, u] }, ty, pos, aft, gd⟩).run P w = .ok (.value v') w' := by
    simp [execOp, resolve, invoke, builtin, he.ev hx, he.ev hy, hr]
  simp only [Oper.wp, hr', Oper.upon]
  have h1 : St ⟨w, [], [Res.row v n e 1 xs]⟩ [] [Res.row v' (n + b.length) e 1 (xs ++ b.map u8)] w' := by
    refine ⟨⟨by simp, by simp, ?_, ?_, by simp, by simp⟩, ⟨hg.os, hg.tape, hg.output, hg.size, fun k hk hn => hg.block k hk fun e => hn ⟨_, .head _, Res.row_fp.2 e.symm⟩⟩, ?_, fun k ⟨_, h, _⟩ => by simp at h⟩
    · intro r hr
      obtain rfl := List.mem_singleton.1 hr
      exact Res.row_ok.2 hown
    · intro r hr k hk
      obtain rfl := List.mem_singleton.1 hr
      exact (hown.lt k (Res.row_fp.1 hk)).2
    · rintro k ⟨r, hr, hk⟩
      obtain rfl := List.mem_singleton.1 hr
      rcases hnew k (Res.row_fp.1 hk) with h | h
      · exact .inl ⟨_, .head _, Res.row_fp.2 h⟩
      · exact .inr h
  have h2 := St.frame (Hc := [Res.row v n e 1 xs]) (G := G) (Γc := []) (by simpa using hst) (by simp) h1
  exact hK _ _ _ _ ⟨rfl, rfl⟩ (by simpa using h2)
theorem JO.aps {d : Nat} {pos : String} {aft : Array Edge} {t u e : TypeId} {x y : Operand} {v : Value} {b : List (BitVec 8)} {n : Nat} {xs : List Value} {G : RL} (ht : P.underlying t = some (.slice e)) (hu : P.underlying u = some .string)
    (hinfo : (P.info? e).map (fun i => (i.zero, i.size, i.bytes)) = some (some (.int .u8 0), 1, 1)) (hx : ev E x = some v) (hy : ev E y = some (.string (strOf b)))
    (hp : Pull (Res.row v n e 1 xs) H G) (hnm : n + b.length ≤ maxLen) (hb : n + b.length ≤ 140737488355328) (hd : d < N)
    (h : ∀ v', JO P N C ops rest Q ((d, v') :: E) Γ (Res.row v' (n + b.length) e 1 (xs ++ b.map u8) :: G)) :
    JO P N C ops (⟨some d, .call { callee := .builtin .append, args := #[x, y], argTypes := #[t, u] }, ty, pos, aft, none⟩ :: rest) Q E Γ H :=
  .m (Mv.aps ht hu hinfo hx hy hp hnm hb) hd fun v' Γ' H' ⟨hΓ, hH⟩ => by subst hΓ hH; exact h v'
/-- A string's bytes: for all to read. -/
theorem Mv.cvb {T S e : TypeId} {x : Operand} {b : List (BitVec 8)} (hS : P.underlying S = some .string) (hT : P.underlying T = some (.slice e)) (he8 : P.underlying e = some (.int .u8)) (hx : ev E x = some (.string (strOf b))) (hb : b.length ≤ 1000000) :
    Mv P N C E Γ H (.convert S T x) ty (fun v' Γ' H' => Γ' = Res.rd v' b.length 1 (b.map u8) :: Γ ∧ H' = H) := by
  intro dst pos aft gd a w he hs K Q hK
  have hr := Lib.run_convert_string_bytes (P := P) w S T e (strOf b) hS hT he8
  have hr' : (execOp a.eval ⟨dst, .convert S T x, ty, pos, aft, gd⟩).run P w = .ok (.value (.slice (some ⟨w.heap.size, 0, none⟩) (strOf b).size (grownCap w (strOf b).size 0 e))) (Lib.bytesWorld w e (strOf b)) := by
    simp [execOp, he.ev hx, hr]
  simp only [Oper.wp, hr', Oper.upon]
  have hsz := strOf_size b
  have h1 : St ⟨w, [], []⟩ [Res.rd (.slice (some ⟨w.heap.size, 0, none⟩) (strOf b).size (grownCap w (strOf b).size 0 e)) b.length 1 (b.map u8)] [] (Lib.bytesWorld w e (strOf b)) := by
    refine ⟨⟨?_, ?_, by simp, by simp, by simp, by simp⟩, ⟨rfl, rfl, rfl, by rw [Lib.bytesWorld_size]; exact Nat.le_succ _, fun k hk _ => Lib.bytesWorld_at_old w e _ k hk⟩, fun k ⟨_, h, _⟩ => by simp at h, ?_⟩
    · intro r hr
      obtain rfl := List.mem_singleton.1 hr
      refine Res.rd_ok.2 ⟨_, _, by rw [hsz], by simp, by unfold maxLen; omega, by rw [← hsz]; exact grownCap_ge w _ 0 e, fun j u hj => ⟨_, _, rfl, ?_⟩⟩
      have hjl : j < b.length := by have := (List.getElem?_eq_some_iff.1 hj).1; simpa using this
      rw [Nat.zero_add, Lib.bytesWorld_cell w e _ j (by rw [hsz]; exact hjl)]
      rw [List.getElem?_map, List.getElem?_eq_getElem hjl] at hj
      obtain rfl := Option.some.inj hj
      simp [strOf, u8, List.getD_eq_getElem?_getD, List.getElem?_eq_getElem hjl]
    · intro r hr k hk
      obtain rfl := List.mem_singleton.1 hr
      have := (Res.rd_fp.1 hk).2
      simp only [Value.ownBlock, Option.some.injEq] at this
      rw [Lib.bytesWorld_size]; omega
    · rintro k ⟨r, hr, hk⟩
      obtain rfl := List.mem_singleton.1 hr
      have := (Res.rd_fp.1 hk).2
      simp only [Value.ownBlock, Option.some.injEq] at this
      exact .inr (.inr (by show w.heap.size ≤ k; omega))
  have h2 := St.frame (Hc := []) (G := H) (Γc := []) (by simpa using hs) (by simp) h1
  exact hK _ _ _ _ ⟨rfl, rfl⟩ (by simpa using h2)
theorem JO.cvb {d : Nat} {pos : String} {aft : Array Edge} {T S e : TypeId} {x : Operand} {b : List (BitVec 8)} (hS : P.underlying S = some .string) (hT : P.underlying T = some (.slice e)) (he8 : P.underlying e = some (.int .u8)) (hx : ev E x = some (.string (strOf b))) (hb : b.length ≤ 1000000) (hd : d < N)
    (h : ∀ v', JO P N C ops rest Q ((d, v') :: E) (Res.rd v' b.length 1 (b.map u8) :: Γ) H) : JO P N C ops (⟨some d, .convert S T x, ty, pos, aft, none⟩ :: rest) Q E Γ H :=
  .m (Mv.cvb hS hT he8 hx hb) hd fun v' Γ' H' ⟨hΓ, hH⟩ => by subst hΓ hH; exact h v'
theorem Yv.len_st {T : TypeId} {x : Operand} {b : List (BitVec 8)} (hT : P.underlying T = some .string) (hx : ev E x = some (.string (strOf b))) : Yv P N C E Γ H (.call { callee := .builtin .len, args := #[x], argTypes := #[T] }) ty (it (b.length : Int)) := by
  have h := Yv.len_str (P := P) (N := N) (C := C) (Γ := Γ) (H := H) (ty := ty) hT hx
  rw [strOf_size] at h
  exact h
end
end Go.Proofs.YthfipbjmpeegbaaGreatDoor

/- What a tagged digest is of: the plain side. No program in sight. -/
namespace Go.Proofs.YthfipbjmpeegbaaGreatDoor
open Go.RowKit
set_option linter.unusedVariables false
def n8 (n : Nat) : B8 := digs (BitVec.ofNat 64 n) 8
@[simp] theorem digs_len (n : BitVec 64) (k : Nat) : (digs n k).length = k := by simp [digs]
@[simp] theorem n8_len (n : Nat) : (n8 n).length = 8 := digs_len _ _
def itB (b : B8) : B8 := n8 b.length ++ b
def inB (tg : B8) (l : List B8) : B8 := n8 tg.length ++ tg ++ l.flatMap itB
theorem in_snoc {tg : B8} {L : Pcs} {k : Nat} (h : k < L.length) : n8 tg.length ++ tg ++ ((bytesP L).take k).flatMap itB ++ n8 (pcAt L k).2.length ++ (pcAt L k).2 = n8 tg.length ++ tg ++ ((bytesP L).take (k + 1)).flatMap itB := by
  rw [bytesP_get h, List.flatMap_append]
  simp [itB, List.append_assoc]
theorem in_le (tg : B8) (l : List B8) (k : Nat) : (n8 tg.length ++ tg ++ (l.take k).flatMap itB).length ≤ (inB tg l).length := by
  have e : l.flatMap itB = (l.take k).flatMap itB ++ (l.drop k).flatMap itB := by rw [← List.flatMap_append, List.take_append_drop]
  rw [inB, e]
  simp only [List.length_append]
  omega
theorem rd_num {v : Value} {n : BitVec 64} : Res.rd v (32 - 24) 1 (((((natBytes [n, 0, 0, 0]).map u8).drop (24 * 1))).take ((32 - 24) * 1)) = Res.rd v (digs n 8).length 1 ((digs n 8).map u8) := by
  have h := natBytes_drop n 8 (by decide)
  rw [digs_len, ← h, List.map_drop]
  rw [List.take_of_length_le (by simp)]
theorem digs_snoc (n : BitVec 64) {k : Nat} (h : k < 8) : ((digs n 8).take k).map u8 ++ [u8 ((n >>> (8 * (7 - k))).setWidth 8)] = ((digs n 8).take (k + 1)).map u8 := by
  have hg : (digs n 8)[k]? = some ((n >>> (8 * (7 - k))).setWidth 8) := by
    rw [digs, List.getElem?_map, List.getElem?_range h]
    rfl
  rw [List.take_add_one, hg, List.map_append]
  rfl
end Go.Proofs.YthfipbjmpeegbaaGreatDoor

/- Walks: tagged digests. -/
namespace Go.Proofs.YthfipbjmpeegbaaGreatDoor
open Go.RowKit
set_option maxRecDepth 100000
set_option linter.unusedVariables false
set_option linter.unusedSimpArgs false
theorem f71_spec (n : BitVec 64) :
    Spec Tryz.prog 71 #[(u64 n)] [] []
      (fun r Γ' H' => True ∧ Γ' = [Res.rd r (digs n 8).length 1 ((digs n 8).map u8)] ∧ H' = []) := by
  refine Spec.of_args Tryz.func71 rfl Tryz.ntmps71 (by simp) fun w => ?_
  refine .seq (.region ?_)
  refine .w (.assign rfl) ?_
  refine .nil (.tn (.seq (.region ?_)))
  refine .w (.move rfl) ?_
  refine .w (.as (v' := natV [n, 0, 0, 0]) (.build bld_87 rfl rfl) rfl) ?_
  refine .cb (f85_spec [n, 0, 0, 0] rfl) body_85 ?_
  rintro v5 _ ⟨_, _, rfl⟩
  refine .ap ?_
  refine .cf 24 32 Tryz.underlying23 sz_5 (fun v6 => ?_) (hn := (by rw [natBytes_length]; decide))
  rw [rd_num]
  refine .w (.assign rfl) ?_
  refine .nil (.tn (.ret ?_))
  exact .dn [Res.rd v6 (digs n 8).length 1 ((digs n 8).map u8)] [] (res1 rfl (.tmp rfl)) ⟨trivial, rfl, rfl⟩

theorem f82_spec (n : BitVec 64) :
    Spec Tryz.prog 82 #[(u64 n)] [] []
      (fun r Γ' H' => True ∧ Γ' = [] ∧ H' = [Res.row r (digs n 8).length 5 1 ((digs n 8).map u8)]) := by
  refine Spec.of_args Tryz.func82 rfl Tryz.ntmps82 (by simp) fun w => ?_
  refine .seq (.region ?_)
  refine .w (.assign rfl) ?_
  refine .nil (.tn (.seq (.region ?_)))
  refine JO.nilRow 5 1 ?_
  refine .w (.assign rfl) ?_
  refine .nil (.tn (.seq (.seq (.region ?_))))
  refine .w (.assign rfl) ?_
  refine .nil (.tn (.block ?_))
  refine .lp (ι := Nat × Value) (fun x => x.1 ≤ 8) (fun T x => (4, it (x.1 : Int)) :: (3, x.2) :: T) (fun T _ => T) (fun T x => Res.row x.2 x.1 5 1 (((digs n 8).take x.1).map u8) :: T) (fun x => 8 - x.1) (0, .slice none 0 0) [0, 2, 18] ?_ (fun x hx => ?_)
  · exact (by decide)
  obtain ⟨k, v⟩ := x
  have hk : k ≤ 8 := hx
  dsimp only
  refine .seq (.seq (.region ?_))
  refine .w (.move rfl) ?_
  refine .w (.bin rfl rfl BinR.lss_i) ?_
  refine .nil (.tn ?_)
  refine .cn rfl (fun hc1 => ?_) (fun hc1 => ?_)
  · refine .skip (.tn (.seq (.block (.region ?_))))
    refine .w (.move rfl) ?_
    refine .w (.move rfl) ?_
    refine .w (.move rfl) ?_
    refine .w (.bin rfl rfl (BinR.mul_i zqf)) ?_
    refine .w (.asI ((8 * (7 - k) : Nat) : Int) (.bin rfl rfl (BinR.sub_i zqf))) ?_
    refine .w (.bin rfl rfl (BinR.shr_u64_i (by first | omega | decide | (simp; omega)))) ?_
    refine .w (.as (v' := u8 ((n >>> (8 * (7 - k))).setWidth 8)) (.conv_u64_u8 Tryz.underlying30 Tryz.underlying5 rfl) rfl) ?_
    refine .l1 Tryz.underlying23 info_5 (fun v16 => ?_)
    refine .ap Tryz.underlying23 info_5 (fun v17 => ?_)
    refine .w (.assign rfl) ?_
    refine .nil (.block_normal (.tn (.region ?_)))
    refine .w (.move rfl) ?_
    refine .w (.bin rfl rfl (BinR.add_i zqf)) ?_
    refine .w (.assign rfl) ?_
    refine .nil ?_
    rw [digs_snoc n (by omega)]
    refine .hd (k + 1, v17) ?_
    exact ⟨by dsimp only; omega, by dsimp only; omega⟩
  · obtain rfl : k = 8 := by omega
    refine .exit (.then_exit (.then_exit (.block_exit (.tn (.seq (.region ?_))))))
    refine .w (.move rfl) ?_
    refine .w (.assign rfl) ?_
    refine .nil (.tn (.ret ?_))
    exact .dn [] [Res.row v 8 5 1 (((digs n 8).take 8).map u8)] (res1 rfl (.tmp rfl)) ⟨trivial, rfl, by rw [List.take_of_length_le (by simp), digs_len]⟩

theorem f48_spec (tg : B8) (htg : tg.length ≤ 1000000) (lv : Value) (L : Pcs) :
    Spec Tryz.prog 48 #[(.string (strOf tg)), lv] [Res.var 3 (sqr.map u32), Res.var 2 (cub.map u32), Res.rd lv L.length 1 (L.map Prod.fst), Res.all (pcRes L)] []
      (fun r Γ' H' => r = (.agg ((sha (inB tg (bytesP L))).map u8).toArray) ∧ Γ' = [] ∧ H' = []) := by
  refine Spec.of_args Tryz.func48 rfl Tryz.ntmps48 (by simp) fun w => ?_
  refine JC.know (φ := L.length ≤ 9223372036854775807) (fun w hs => by obtain ⟨_, _, _, _, _, _, h⟩ := hs.rdForm (.tail _ (.tail _ (.head _))); unfold maxLen at h; omega) fun hla => ?_
  refine .seq (.region ?_)
  refine .al zero_53 fun b4 => ?_
  obtain ⟨zd, hzd⟩ : ∃ z, (Value.agg #[.int .u8 0, .int .u8 0, .int .u8 0, .int .u8 0, .int .u8 0, .int .u8 0, .int .u8 0, .int .u8 0, .int .u8 0, .int .u8 0, .int .u8 0, .int .u8 0, .int .u8 0, .int .u8 0, .int .u8 0, .int .u8 0, .int .u8 0, .int .u8 0, .int .u8 0, .int .u8 0, .int .u8 0, .int .u8 0, .int .u8 0, .int .u8 0, .int .u8 0, .int .u8 0, .int .u8 0, .int .u8 0, .int .u8 0, .int .u8 0, .int .u8 0, .int .u8 0]).cells.toList = z := ⟨_, rfl⟩
  have hzl : zd.length = 32 := by rw [← hzd]; rfl
  first | rw [hzd] | (change JO _ _ _ _ _ _ _ _ (Res.cells b4 zd _ :: _); skip)
  refine .nil (.tn (.seq (.region ?_)))
  refine .cb f69_spec body_69 ?_ (h0 := by rintro _ _ _ ⟨_, _, h, _⟩; exact h)
  rintro _ _ ⟨q, rfl, _, rfl⟩
  refine .ap ?_
  rw [show hcells sqr (List.replicate 64 0) 0 = hst [] (List.replicate 64 0) from rfl]
  refine .w (.assign rfl) ?_
  refine .nil (.tn (.seq (.region ?_)))
  refine .w (.move rfl) ?_
  refine .w (.move rfl) ?_
  refine .w (.len_st Tryz.underlying9 rfl) ?_
  refine .w (.as (v' := u64 (BitVec.ofNat 64 tg.length)) (.conv_i_u64 Tryz.underlying3 Tryz.underlying30 rfl) (congrArg u64 (BitVec.ofInt_natCast _ _))) ?_
  refine .cs (f71_spec (BitVec.ofNat 64 tg.length)) body_71 ?_
  rintro v12 _ _ ⟨_, rfl, rfl⟩
  refine .ap ?_
  refine .ap ?_
  refine .cb (f70_spec q [] (List.replicate 64 0) hok_nil v12 (n8 tg.length)) body_70 ?_ (h0 := by rintro _ _ _ ⟨_, _, _, h, _⟩; exact h)
  rintro _ _ ⟨bs1, rfl, hok1, _, rfl⟩
  refine .ap ?_
  rw [List.nil_append] at hok1 ⊢
  refine .nil (.tn (.seq (.region ?_)))
  refine .w (.move rfl) ?_
  refine .w (.move rfl) ?_
  refine JO.cvb Tryz.underlying9 Tryz.underlying23 Tryz.underlying5 rfl (by omega) (by decide) fun v17 => ?_
  refine .cb (f70_spec q (n8 tg.length) bs1 hok1 v17 tg) body_70 ?_ (h0 := by rintro _ _ _ ⟨_, _, _, h, _⟩; exact h)
  rintro _ _ ⟨bs2, rfl, hok2, _, rfl⟩
  refine .ap ?_
  refine .nil (.tn (.seq (.seq (.region ?_))))
  refine .w (.move rfl) ?_
  refine .w (.len Tryz.underlying35 rfl) ?_
  refine .w (.move rfl) ?_
  refine .nil (.tn (.block ?_))
  refine .lp (ι := Nat × B8) (fun x => x.1 ≤ L.length ∧ HOK (n8 tg.length ++ tg ++ ((bytesP L).take x.1).flatMap itB) x.2) (fun T x => (21, it (x.1 : Int)) :: T) (fun T _ => T) (fun T x => Res.cells q (hst (n8 tg.length ++ tg ++ ((bytesP L).take x.1).flatMap itB) x.2) 145 :: T) (fun x => L.length - x.1) (0, bs2) [4, 5, 19, 20, 35, 36] ?_ (fun x hx => ?_) (hH := (by dsimp only; rw [List.take_zero, List.flatMap_nil, List.append_nil]; repeat (first | exact Picks.nil _ | apply Picks.cons | exact Pull.here _ _ | apply Pull.there)))
  · exact ⟨Nat.zero_le _, by simpa using hok2⟩
  obtain ⟨k, bs⟩ := x
  obtain ⟨hk, hok⟩ := hx
  dsimp only at hk hok ⊢
  refine .seq (.region ?_)
  refine .w (.bin rfl rfl BinR.lss_i) ?_
  refine .nil (.tn (.seq ?_))
  refine .cn rfl (fun hc1 => ?_) (fun hc1 => ?_)
  · refine .skip (.tn (.seq (.block (.seq (.region ?_)))))
    refine JO.open (r := Res.rd (pcAt L k).1 (pcAt L k).2.length 1 ((pcAt L k).2.map u8)) zqa (pc_res (by omega)) ?_
    refine .w (.ix1 Tryz.underlying35 sz_23 rfl rfl) ?_
    refine .w (.ld one_23 rfl (hj := by first | exact pc_get (by omega) | rfl | exact tab_get zqg | exact gm (d := 0) zqg)) ?_
    refine .w (.assign rfl) ?_
    refine .nil (.tn (.seq (.region ?_)))
    refine .w (.move rfl) ?_
    refine .w (.move rfl) ?_
    refine .w (.len Tryz.underlying23 rfl) ?_
    refine .w (.as (v' := u64 (BitVec.ofNat 64 (pcAt L k).2.length)) (.conv_i_u64 Tryz.underlying3 Tryz.underlying30 rfl) (congrArg u64 (BitVec.ofInt_natCast _ _))) ?_
    refine .cs (f71_spec (BitVec.ofNat 64 (pcAt L k).2.length)) body_71 ?_
    rintro v29 _ _ ⟨_, rfl, rfl⟩
    refine .ap ?_
    refine .ap ?_
    refine .cb (f70_spec q (n8 tg.length ++ tg ++ ((bytesP L).take k).flatMap itB) bs hok v29 (n8 (pcAt L k).2.length)) body_70 ?_ (h0 := by rintro _ _ _ ⟨_, _, _, h, _⟩; exact h)
    rintro _ _ ⟨bs3, rfl, hok3, _, rfl⟩
    refine .ap ?_
    refine .nil (.tn (.region ?_))
    refine .w (.move rfl) ?_
    refine .w (.move rfl) ?_
    refine .cb (f70_spec q ((n8 tg.length ++ tg ++ ((bytesP L).take k).flatMap itB) ++ n8 (pcAt L k).2.length) bs3 hok3 (pcAt L k).1 (pcAt L k).2) body_70 ?_ (h0 := by rintro _ _ _ ⟨_, _, _, h, _⟩; exact h)
    rintro _ _ ⟨bs4, rfl, hok4, _, rfl⟩
    refine .ap ?_
    rw [in_snoc (by omega)] at hok4 ⊢
    refine .nil (.block_normal (.tn (.region ?_)))
    refine .w (.bin rfl rfl (BinR.add_i zqf)) ?_
    refine .w (.move rfl) ?_
    refine .nil ?_
    refine .hd (k + 1, bs4) ?_
    exact ⟨⟨by dsimp only; omega, hok4⟩, by dsimp only; omega⟩
  · have he : k = L.length := by omega
    subst he
    rw [show (bytesP L).take L.length = bytesP L from List.take_of_length_le (by rw [bytesP_len]; omega)] at hok ⊢
    rw [show n8 tg.length ++ tg ++ (bytesP L).flatMap itB = inB tg (bytesP L) from rfl] at hok ⊢
    refine .exit (.then_exit (.then_exit (.block_exit (.tn (.seq (.region ?_))))))
    refine .w (.move rfl) ?_
    refine .c (f72_spec q (inB tg (bytesP L)) bs hok) body_72 ?_
    first | refine .sa sz_53 ?_ | refine .so sz_53 ?_ | refine .sr sz_53 ?_
    refine .nil (.tn (.ret ?_))
    exact .dn [] [] (res1 rfl (.cl agg_53)) ⟨rfl, rfl, rfl⟩

theorem f59_spec (tg : B8) (lv : Value) (L : Pcs) (hb : (inB tg (bytesP L)).length ≤ 1000000) :
    Spec Tryz.prog 59 #[(.string (strOf tg)), lv] [Res.rd lv L.length 1 (L.map Prod.fst), Res.all (pcRes L)] []
      (fun r Γ' H' => True ∧ Γ' = [] ∧ H' = [Res.row r (inB tg (bytesP L)).length 5 1 ((inB tg (bytesP L)).map u8)]) := by
  refine Spec.of_args Tryz.func59 rfl Tryz.ntmps59 (by simp) fun w => ?_
  refine JC.know (φ := L.length ≤ 9223372036854775807) (fun w hs => by obtain ⟨_, _, _, _, _, _, h⟩ := hs.rdForm (.head _); unfold maxLen at h; omega) fun hla => ?_
  have h0 := in_le tg (bytesP L) 0
  rw [List.take_zero, List.flatMap_nil, List.append_nil, List.length_append, n8_len] at h0
  refine .seq (.region ?_)
  refine .w (.assign rfl) ?_
  refine .nil (.tn (.seq (.region ?_)))
  refine .w (.move rfl) ?_
  refine .w (.len_st Tryz.underlying9 rfl) ?_
  refine .w (.as (v' := u64 (BitVec.ofNat 64 tg.length)) (.conv_i_u64 Tryz.underlying3 Tryz.underlying30 rfl) (congrArg u64 (BitVec.ofInt_natCast _ _))) ?_
  refine .cb (f82_spec (BitVec.ofNat 64 tg.length)) body_82 ?_
  rintro v10 _ ⟨_, _, rfl⟩
  refine .ap ?_
  rw [show digs (BitVec.ofNat 64 tg.length) 8 = n8 tg.length from rfl, n8_len]
  refine .w (.move rfl) ?_
  refine JO.aps Tryz.underlying23 Tryz.underlying9 info_5 rfl rfl (by repeat (first | exact Pull.here _ _ | apply Pull.there)) (by unfold maxLen; omega) (by omega) (by decide) fun v12 => ?_
  rw [map_cat, show 8 + tg.length = (n8 tg.length ++ tg).length from by rw [List.length_append, n8_len]]
  refine .w (.assign rfl) ?_
  refine .nil (.tn (.seq (.seq (.region ?_))))
  refine .w (.assign rfl) ?_
  refine .nil (.tn (.block ?_))
  refine .lp (ι := Nat × Value) (fun x => x.1 ≤ L.length) (fun T x => (6, it (x.1 : Int)) :: (5, x.2) :: T) (fun T _ => T) (fun T x => Res.row x.2 ((n8 tg.length ++ tg ++ ((bytesP L).take x.1).flatMap itB)).length 5 1 (((n8 tg.length ++ tg ++ ((bytesP L).take x.1).flatMap itB)).map u8) :: T) (fun x => L.length - x.1) (0, v12) [1, 4, 34] ?_ (fun x hx => ?_) (hH := (by dsimp only; rw [List.take_zero, List.flatMap_nil, List.append_nil]; repeat (first | exact Picks.nil _ | apply Picks.cons | exact Pull.here _ _ | apply Pull.there)))
  · exact Nat.zero_le _
  obtain ⟨k, v⟩ := x
  have hk : k ≤ L.length := hx
  dsimp only
  have hkl := in_le tg (bytesP L) k
  refine .seq (.seq (.region ?_))
  refine .w (.move rfl) ?_
  refine .w (.move rfl) ?_
  refine .w (.len Tryz.underlying35 rfl) ?_
  refine .w (.bin rfl rfl BinR.lss_i) ?_
  refine .nil (.tn ?_)
  refine .cn rfl (fun hc1 => ?_) (fun hc1 => ?_)
  · have hkl2 := in_le tg (bytesP L) (k + 1)
    rw [← in_snoc (by omega), List.length_append, List.length_append, n8_len] at hkl2
    have hA8 := n8_len (pcAt L k).2.length
    have hX : ((n8 tg.length ++ tg ++ ((bytesP L).take k).flatMap itB) ++ n8 (pcAt L k).2.length).length = (n8 tg.length ++ tg ++ ((bytesP L).take k).flatMap itB).length + 8 := by rw [List.length_append, n8_len]
    refine .skip (.tn (.seq (.block (.seq (.region ?_)))))
    refine JO.open (r := Res.rd (pcAt L k).1 (pcAt L k).2.length 1 ((pcAt L k).2.map u8)) zqa (pc_res (by omega)) ?_
    refine .w (.move rfl) ?_
    refine .w (.move rfl) ?_
    refine .w (.move rfl) ?_
    refine .w (.ix1 Tryz.underlying35 sz_23 rfl rfl) ?_
    refine .w (.ld one_23 rfl (hj := by first | exact pc_get (by omega) | rfl | exact tab_get zqg | exact gm (d := 0) zqg)) ?_
    refine .w (.len Tryz.underlying23 rfl) ?_
    refine .w (.as (v' := u64 (BitVec.ofNat 64 (pcAt L k).2.length)) (.conv_i_u64 Tryz.underlying3 Tryz.underlying30 rfl) (congrArg u64 (BitVec.ofInt_natCast _ _))) ?_
    refine .cb (f82_spec (BitVec.ofNat 64 (pcAt L k).2.length)) body_82 ?_
    rintro v26 _ ⟨_, _, rfl⟩
    refine .ap ?_
    rw [show digs (BitVec.ofNat 64 (pcAt L k).2.length) 8 = n8 (pcAt L k).2.length from rfl]
    refine .ap Tryz.underlying23 info_5 (fun v27 => ?_) (hone := one_u8s)
    rw [map_cat, len_cat]
    refine .w (.assign rfl) ?_
    refine .nil (.tn (.region ?_))
    refine .w (.move rfl) ?_
    refine .w (.move rfl) ?_
    refine .w (.move rfl) ?_
    refine .w (.ix1 Tryz.underlying35 sz_23 rfl rfl) ?_
    refine .w (.ld one_23 rfl (hj := by first | exact pc_get (by omega) | rfl | exact tab_get zqg | exact gm (d := 0) zqg)) ?_
    refine .ap Tryz.underlying23 info_5 (fun v33 => ?_) (hone := one_u8s)
    rw [map_cat, len_cat, in_snoc (by omega)]
    refine .w (.assign rfl) ?_
    refine .nil (.block_normal (.tn (.region ?_)))
    refine .w (.move rfl) ?_
    refine .w (.bin rfl rfl (BinR.add_i zqf)) ?_
    refine .w (.assign rfl) ?_
    refine .nil ?_
    refine .hd (k + 1, v33) ?_
    exact ⟨by dsimp only; omega, by dsimp only; omega⟩
  · have he : k = L.length := by omega
    subst he
    rw [show (bytesP L).take L.length = bytesP L from List.take_of_length_le (by rw [bytesP_len]; omega)]
    refine .exit (.then_exit (.then_exit (.block_exit (.tn (.seq (.region ?_))))))
    refine .w (.move rfl) ?_
    refine .w (.assign rfl) ?_
    refine .nil (.tn (.ret ?_))
    exact .dn [] [Res.row v (inB tg (bytesP L)).length 5 1 ((inB tg (bytesP L)).map u8)] (res1 rfl (.tmp rfl)) ⟨trivial, rfl, rfl⟩

theorem f35_spec (tg : B8) (lv : Value) (L : Pcs) (hb : (inB tg (bytesP L)).length ≤ 1000000) :
    Spec Tryz.prog 35 #[(.string (strOf tg)), lv] [Res.rd lv L.length 1 (L.map Prod.fst), Res.all (pcRes L)] []
      (fun r Γ' H' => r = (.agg ((sha (inB tg (bytesP L))).map u8).toArray) ∧ Γ' = [] ∧ H' = []) := by
  refine Spec.of_args Tryz.func35 rfl Tryz.ntmps35 (by simp) fun w => ?_
  refine .seq (.region ?_)
  refine .al zero_53 fun b4 => ?_
  refine .nil (.tn (.seq (.region ?_)))
  refine .w (.move rfl) ?_
  refine .w (.move rfl) ?_
  refine .cb (f59_spec tg lv L hb) body_59 ?_
  rintro v7 _ ⟨_, _, rfl⟩
  refine .ap ?_
  refine .c (f58_spec v7 (inB tg (bytesP L)) hb) body_58 ?_
  first | refine .sa sz_53 ?_ | refine .so sz_53 ?_ | refine .sr sz_53 ?_
  refine .nil (.tn (.ret ?_))
  exact .dn [] [] (res1 rfl (.cl agg_53)) ⟨rfl, rfl, rfl⟩

theorem f25_spec (v : Value) (b : B8) (hb : b.length ≤ 100000) :
    Spec Tryz.prog 25 #[v] [Res.var 3 (sqr.map u32), Res.var 2 (cub.map u32), Res.rd v b.length 1 (b.map u8)] []
      (fun r Γ' H' => r = (.agg ((sha (inB [98#8, 108#8, 111#8, 99#8, 107#8] [b])).map u8).toArray) ∧ Γ' = [] ∧ H' = []) := by
  refine Spec.of_args Tryz.func25 rfl Tryz.ntmps25 (by simp) fun w => ?_
  refine JC.know (φ := v.oneCell' = true) (fun w hs => by obtain ⟨A, c, rfl, _⟩ := hs.rdForm (.tail _ (.tail _ (.head _))); rfl) fun hv1 => ?_
  refine .seq (.region ?_)
  refine .al zero_53 fun b2 => ?_
  refine .nil (.tn (.seq (.region ?_)))
  refine .w (.move rfl) ?_
  refine .l1 Tryz.underlying35 info_23 (fun v4 => ?_) (h1 := (one_sing hv1))
  refine JO.bundle (pcRes [(v, b)]) (Subs.sub zqe) ?_
  refine .c (f48_spec [98#8, 108#8, 111#8, 99#8, 107#8] (by decide) v4 [(v, b)]) body_48 ?_
  rw [show bytesP [(v, b)] = [b] from rfl]
  first | refine .sa sz_53 ?_ | refine .so sz_53 ?_ | refine .sr sz_53 ?_
  refine .nil (.tn (.ret ?_))
  exact .dn [] [] (res1 rfl (.cl agg_53)) ⟨rfl, rfl, rfl⟩

theorem f20_spec (v : Value) (b : B8) (hb : b.length ≤ 100000) :
    Spec Tryz.prog 20 #[v] [Res.rd v b.length 1 (b.map u8)] []
      (fun r Γ' H' => r = (.agg ((sha (inB [98#8, 108#8, 111#8, 99#8, 107#8] [b])).map u8).toArray) ∧ Γ' = [] ∧ H' = []) := by
  refine Spec.of_args Tryz.func20 rfl Tryz.ntmps20 (by simp) fun w => ?_
  refine JC.know (φ := v.oneCell' = true) (fun w hs => by obtain ⟨A, c, rfl, _⟩ := hs.rdForm (.head _); rfl) fun hv1 => ?_
  refine .seq (.region ?_)
  refine .al zero_53 fun b2 => ?_
  refine .nil (.tn (.seq (.region ?_)))
  refine .w (.move rfl) ?_
  refine .l1 Tryz.underlying35 info_23 (fun v4 => ?_) (h1 := (one_sing hv1))
  refine JO.bundle (pcRes [(v, b)]) (Subs.sub zqe) ?_
  refine .c (f35_spec [98#8, 108#8, 111#8, 99#8, 107#8] v4 [(v, b)] (by simp [inB, itB, bytesP]; omega)) body_35 ?_
  rw [show bytesP [(v, b)] = [b] from rfl]
  first | refine .sa sz_53 ?_ | refine .so sz_53 ?_ | refine .sr sz_53 ?_
  refine .nil (.tn (.ret ?_))
  exact .dn [] [] (res1 rfl (.cl agg_53)) ⟨rfl, rfl, rfl⟩
end Go.Proofs.YthfipbjmpeegbaaGreatDoor

/- Walks: a chase. -/
namespace Go.Proofs.YthfipbjmpeegbaaGreatDoor
open Go.RowKit
set_option maxRecDepth 100000
set_option linter.unusedVariables false
set_option linter.unusedSimpArgs false
theorem f8ok_spec (u : Value) (S : List W64) (h1 : 1 ≤ S.length) (h2 : S.length ≤ 40) (h3 : sumS S < 9223372036854775808) :
    Spec Tryz.prog 8 #[u] [Res.var 0 [u64 9223372036854775808, u64 0, u64 0, u64 0], Res.rd u S.length 1 (S.map u64)] []
      (fun r Γ' H' => ∃ c am sv, r = .tuple #[ptr c 0, it 0] ∧ Γ' = [] ∧ H' = [Res.cells c [sv, .map (some am)] 62, Res.row sv S.length 30 1 (S.map u64), mpR am uK hcV MM.nil]) := by
  refine Spec.of_args Tryz.func8 rfl Tryz.ntmps8 (by simp) fun w => ?_
  refine .seq (.region ?_)
  refine .w (.assign rfl) ?_
  refine .w (.assign rfl) ?_
  refine .nil (.tn (.seq (.seq (.region ?_))))
  refine .w (.move rfl) ?_
  refine .cb (f21ok_spec u S h1 h2 h3) body_21 ?_ (h0 := by rintro _ _ _ ⟨_, _, _, _, _, h, _⟩; exact h)
  rintro _ _ ⟨p1, a1, b1, sv1, rfl, _, rfl⟩
  refine .ap ?_
  refine .w (.move rfl) ?_
  refine .w (.extract rfl rfl) ?_
  refine .w (.extract rfl rfl) ?_
  refine .w (.assign rfl) ?_
  refine .w (.assign rfl) ?_
  refine .nil (.tn (.seq (.region ?_)))
  refine .w (.move rfl) ?_
  refine .w (.as (v' := .bool false) (.bin rfl rfl BinR.neq_i) rfl) ?_
  refine .nil (.tn ?_)
  refine .cf rfl ?_
  refine .skip (.tn (.seq (.region ?_)))
  refine .w (.move rfl) ?_
  refine .cb (f22_spec u S.length (S.map u64) (by omega) (one_map fun _ => rfl)) body_22 ?_
  rintro sv _ ⟨_, _, rfl⟩
  refine .ap ?_
  refine JO.know (φ := ∃ A c, sv = .slice A S.length c) (fun w hs => hs.rowSl zqa) fun ⟨A, c, hsv⟩ => ?_
  subst hsv
  refine .mm uK hcV fun b16 => ?_
  refine .w (.build bld_62 rfl rfl) ?_
  refine .bx fun b18 => ?_
  refine .w (.assign rfl) ?_
  refine .w (.assign rfl) ?_
  refine .nil (.tn (.ret ?_))
  exact .dn [] [Res.cells _ [_, _] 62, Res.row _ S.length 30 1 (S.map u64), mpR _ uK hcV MM.nil] (res2 rfl (.tmp rfl) (.tmp rfl)) ⟨_, _, _, rfl, rfl, rfl⟩

theorem f8no_spec (u : Value) (S : List W64) (hbad : newE S ≠ 0) :
    Spec Tryz.prog 8 #[u] [Res.var 0 [u64 9223372036854775808, u64 0, u64 0, u64 0], Res.rd u S.length 1 (S.map u64)] []
      (fun r Γ' H' => r = (.tuple #[.pointer none, it (newE S)]) ∧ Γ' = [] ∧ H' = []) := by
  refine Spec.of_args Tryz.func8 rfl Tryz.ntmps8 (by simp) fun w => ?_
  refine .seq (.region ?_)
  refine .w (.assign rfl) ?_
  refine .w (.assign rfl) ?_
  refine .nil (.tn (.seq (.seq (.region ?_))))
  refine .w (.move rfl) ?_
  refine .c (f21no_spec u S hbad) body_21 ?_
  refine .w (.move rfl) ?_
  refine .w (.extract rfl rfl) ?_
  refine .w (.extract rfl rfl) ?_
  refine .w (.assign rfl) ?_
  refine .w (.assign rfl) ?_
  refine .nil (.tn (.seq (.region ?_)))
  refine .w (.move rfl) ?_
  refine .w (.bin rfl rfl BinR.neq_i) ?_
  refine .nil (.tn ?_)
  refine .cn rfl (fun hc1 => ?_) (fun hc1 => ?_)
  · refine .seq (.region ?_)
    refine .w (.move rfl) ?_
    refine .w (.assign rfl) ?_
    refine .w (.assign rfl) ?_
    refine .nil (.tn (.ret (.then_ret ?_)))
    exact .dn [] [] (res2 rfl (.tmp rfl) (.tmp rfl)) ⟨rfl, rfl, rfl⟩
  · exact absurd hc1 (by simpa using hbad)
end Go.Proofs.YthfipbjmpeegbaaGreatDoor

/- Walk: a law's block. -/
namespace Go.Proofs.YthfipbjmpeegbaaGreatDoor
open Go.RowKit
set_option maxRecDepth 100000
set_option linter.unusedVariables false
set_option linter.unusedSimpArgs false
theorem f9_spec (h : BitVec 64) (u : Value) (b : B8) (hu : u.oneCell' = true) :
    Spec Tryz.prog 9 #[(u64 h), u] [Res.rd u b.length 1 (b.map u8)] []
      (fun r Γ' H' => True ∧ Γ' = [] ∧ H' = [Res.row r (blockB h b).length 5 1 ((blockB h b).map u8)]) := by
  refine Spec.of_args Tryz.func9 rfl Tryz.ntmps9 (by simp) fun w => ?_
  refine JC.know (φ := b.length ≤ 9223372036854775807) (fun w hs => by obtain ⟨_, _, _, _, _, _, h⟩ := hs.rdForm (.head _); unfold maxLen at h; omega) fun hlb => ?_
  refine .seq (.region ?_)
  refine .w (.assign rfl) ?_
  refine .nil (.tn (.seq (.region ?_)))
  refine .w (.assign rfl) ?_
  refine .nil (.tn (.seq (.seq (.region ?_))))
  refine .w (.move rfl) ?_
  refine .w (.len Tryz.underlying23 rfl) ?_
  refine .w (.bin rfl rfl BinR.gtr_i) ?_
  refine .nil (.tn ?_)
  refine .cn rfl (fun hc1 => ?_) (fun hc1 => ?_)
  · refine .region ?_
    refine .w (.move rfl) ?_
    refine .l1 Tryz.underlying35 info_23 (fun v12 => ?_) (h1 := (by intro a ha; rw [List.mem_singleton] at ha; subst ha; exact hu))
    refine .w (.assign rfl) ?_
    refine .nil (.tn (.seq (.region ?_)))
    first
    | (obtain ⟨L9, hL9, hbL⟩ : ∃ L : Pcs, L = [(u, b)] ∧ bytesP L = blkL b := ⟨_, rfl, by rw [blkL, if_neg (by omega)]; rfl⟩
       refine JO.freeze (v := v12) (by repeat (first | exact Pull.here _ _ | apply Pull.there)) (by decide) ?_
       refine JO.bundle (pcRes [(u, b)]) (Subs.sub zqe) ?_
       rw [show Res.rd v12 1 1 [u] = Res.rd v12 L9.length 1 (L9.map Prod.fst) by rw [hL9]; rfl, ← hL9])
    | (obtain ⟨L9, hL9, hbL⟩ : ∃ L : Pcs, L = [] ∧ bytesP L = blkL b := ⟨_, rfl, by rw [blkL, if_pos (by omega)]; rfl⟩
       refine JO.nilRd 1 ?_
       refine JO.bundle (pcRes []) (Subs.sub (Subs.nil _)) ?_
       rw [show Res.rd (.slice none 0 0) 0 1 [] = Res.rd (.slice none 0 0) L9.length 1 (L9.map Prod.fst) by rw [hL9]; rfl, ← hL9])
    refine .w (.move rfl) ?_
    refine .w (.move rfl) ?_
    refine .cb (f23_spec h _ L9) body_23 ?_ (h0 := by rintro _ _ _ ⟨_, _, h, _⟩; exact h)
    rintro _ _ ⟨v16, rfl, _, rfl⟩
    refine .ap ?_
    rw [hbL]
    refine .w (.move rfl) ?_
    refine .w (.extract rfl rfl) ?_
    refine .w (.extract rfl rfl) ?_
    refine .w (.assign rfl) ?_
    refine .w (.assign rfl) ?_
    refine .nil (.tn (.seq (.region ?_)))
    refine .w (.move rfl) ?_
    refine .w (.assign rfl) ?_
    refine .nil (.tn (.ret ?_))
    exact .dn [] [Res.row v16 (blockB h b).length 5 1 ((blockB h b).map u8)] (res1 rfl (.tmp rfl)) ⟨trivial, rfl, rfl⟩
  · refine .skip (.tn (.seq (.region ?_)))
    first
    | (obtain ⟨L9, hL9, hbL⟩ : ∃ L : Pcs, L = [(u, b)] ∧ bytesP L = blkL b := ⟨_, rfl, by rw [blkL, if_neg (by omega)]; rfl⟩
       refine JO.freeze (v := v12) (by repeat (first | exact Pull.here _ _ | apply Pull.there)) (by decide) ?_
       refine JO.bundle (pcRes [(u, b)]) (Subs.sub zqe) ?_
       rw [show Res.rd v12 1 1 [u] = Res.rd v12 L9.length 1 (L9.map Prod.fst) by rw [hL9]; rfl, ← hL9])
    | (obtain ⟨L9, hL9, hbL⟩ : ∃ L : Pcs, L = [] ∧ bytesP L = blkL b := ⟨_, rfl, by rw [blkL, if_pos (by omega)]; rfl⟩
       refine JO.nilRd 1 ?_
       refine JO.bundle (pcRes []) (Subs.sub (Subs.nil _)) ?_
       rw [show Res.rd (.slice none 0 0) 0 1 [] = Res.rd (.slice none 0 0) L9.length 1 (L9.map Prod.fst) by rw [hL9]; rfl, ← hL9])
    refine .w (.move rfl) ?_
    refine .w (.move rfl) ?_
    refine .cb (f23_spec h _ L9) body_23 ?_ (h0 := by rintro _ _ _ ⟨_, _, h, _⟩; exact h)
    rintro _ _ ⟨v16, rfl, _, rfl⟩
    refine .ap ?_
    rw [hbL]
    refine .w (.move rfl) ?_
    refine .w (.extract rfl rfl) ?_
    refine .w (.extract rfl rfl) ?_
    refine .w (.assign rfl) ?_
    refine .w (.assign rfl) ?_
    refine .nil (.tn (.seq (.region ?_)))
    refine .w (.move rfl) ?_
    refine .w (.assign rfl) ?_
    refine .nil (.tn (.ret ?_))
    exact .dn [] [Res.row v16 (blockB h b).length 5 1 ((blockB h b).map u8)] (res1 rfl (.tmp rfl)) ⟨trivial, rfl, rfl⟩
end Go.Proofs.YthfipbjmpeegbaaGreatDoor

/- bytes.Compare (the model stands in for it): what it answers. No program in sight. -/
namespace Go.Proofs.YthfipbjmpeegbaaGreatDoor
open Go.RowKit
set_option maxRecDepth 100000
set_option linter.unusedSimpArgs false
def lexB : B8 → B8 → Int
  | [], [] => 0
  | [], _ :: _ => -1
  | _ :: _, [] => 1
  | x :: xs, y :: ys => if x = y then lexB xs ys else if x.toNat < y.toNat then -1 else 1
attribute [local simp] strOf_size
theorem strOf_get (b : B8) (i : Nat) : (strOf b)[i]! = UInt8.ofBitVec (b.getD i 0) := by
  by_cases h : i < b.length
  · rw [getElem!_pos _ _ (by simpa using h), List.getD_eq_getElem?_getD, List.getElem?_eq_getElem h]
    show (strOf b).data[i]'(by simpa [strOf] using h) = _
    simp [strOf]
  · rw [getElem!_neg _ _ (by simpa using h), List.getD_eq_getElem?_getD, List.getElem?_eq_none (by omega)]
    rfl
theorem cmp_lex : ∀ a b : B8, Extern.BytealgCompare.cmp (strOf a) (strOf b) = lexB a b
  | [], [] => rfl
  | [], y :: ys => by simp [Extern.BytealgCompare.cmp, lexB]
  | x :: xs, [] => by simp [Extern.BytealgCompare.cmp, lexB]
  | x :: xs, y :: ys => by
    have ih := cmp_lex xs ys
    unfold Extern.BytealgCompare.cmp at ih ⊢
    simp only [strOf_get, strOf_size] at ih ⊢
    rw [lexB, ← ih]
    rw [show min (x :: xs).length (y :: ys).length = min xs.length ys.length + 1 by simp only [List.length_cons]; omega, List.range_succ_eq_map, List.find?_cons]
    by_cases h : x = y
    · subst h
      simp only [List.getD_cons_zero, bne_self_eq_false, if_true, List.find?_map, Function.comp_def, Nat.succ_eq_add_one, List.getD_cons_succ, List.length_cons]
      cases hf : List.find? (fun i => UInt8.ofBitVec (xs.getD i 0) != UInt8.ofBitVec (ys.getD i 0)) (List.range (min xs.length ys.length)) with
      | none => simp only [Option.map_none]; simp
      | some i => simp only [Option.map_some, List.getD_cons_succ]
    · have hne : (UInt8.ofBitVec x != UInt8.ofBitVec y) = true := by
        rw [bne_iff_ne]
        exact fun e => h (congrArg UInt8.toBitVec e)
      simp only [List.getD_cons_zero, hne, if_neg h]
      have : (UInt8.ofBitVec x < UInt8.ofBitVec y) ↔ x.toNat < y.toNat := by
        rw [UInt8.lt_iff_toNat_lt]; rfl
      simp only [this]
theorem loadB {P : Program} {w : World} {b : Nat} : ∀ (xs : B8) (o : Nat) (acc : ByteArray), (∀ j (hj : j < xs.length), w.cell? ⟨b, o + j, none⟩ = some (u8 xs[j])) → (Extern.Bytes.loadBytes ⟨b, o, none⟩ xs.length acc).run P w = .ok ⟨acc.data ++ (strOf xs).data⟩ w
  | [], o, acc, _ => by simp [Extern.Bytes.loadBytes, strOf, Sem.run_pure]
  | x :: xs, o, acc, h => by
    have h0 := h 0 (by simp)
    have ih := loadB (P := P) (w := w) xs (o + 1) (acc.push (UInt8.ofBitVec x)) (fun j hj => by
      have := h (j + 1) (by simpa using hj)
      rw [show o + (j + 1) = o + 1 + j by omega] at this
      simpa using this)
    have e0 : (load ⟨b, o, none⟩).run P w = .ok (u8 x) w := by
      have := h0
      simp only [Nat.add_zero, List.getElem_cons_zero] at this
      have := run_load (P := P) (w := w) ⟨b, o, none⟩
      simp_all
    simp only [List.length_cons, Extern.Bytes.loadBytes, Sem.run_bind, e0, Result.andThen_ok, u8]
    have e1 : ((x.toNat : Int)).toNat.toUInt8 = UInt8.ofBitVec x := by
      simp
    rw [e1, show (Addr.add ⟨b, o, none⟩ 1 : Addr) = ⟨b, o + 1, none⟩ from add_none _ _ _]
    rw [ih]
    congr 2
    simp [strOf, ByteArray.push]

theorem bytesOf_rd {P : Program} {w : World} {v : Value} {xs : B8} (h : IsRd w v xs.length 1 (xs.map u8)) : (Extern.Bytes.bytesOf v).run P w = .ok (strOf xs) w := by
  obtain ⟨A, c, rfl, _, _, _, hc⟩ := h
  cases A with
  | none =>
    have hx : xs = [] := by
      cases xs with
      | nil => rfl
      | cons x xs => obtain ⟨_, _, h, _⟩ := hc 0 (u8 x) rfl; cases h
    subst hx
    rfl
  | some ad =>
    cases xs with
    | nil => rfl
    | cons x xs =>
      obtain ⟨b, o, hA, _⟩ := hc 0 (u8 x) rfl
      obtain rfl := Option.some.inj hA
      have := loadB (P := P) (w := w) (b := b) (x :: xs) o .empty (fun j hj => by
        obtain ⟨b', o', hA', h'⟩ := hc j (u8 (x :: xs)[j]) (by rw [List.getElem?_map, List.getElem?_eq_getElem hj]; rfl)
        obtain ⟨rfl, rfl⟩ : b = b' ∧ o = o' := by simpa using hA'
        exact h')
      rw [Extern.Bytes.bytesOf, this]
      simp [strOf]
theorem cmp_run {P : Program} {f : FuncId} {fn : Func} (hf : P.funcs[f]? = some fn) (hb : fn.body.isNone = true) (hn : (fn.name == "runtime.NumGoroutine") = false) (hx : Extern.findNext fn = none) (he : Extern.find fn = some Extern.BytealgCompare.compare)
    {w : World} {u v : Value} {a b : B8} (ha : IsRd w u a.length 1 (a.map u8)) (hv : IsRd w v b.length 1 (b.map u8)) : (callFunc f #[u, v]).run P w = .ok (.value (it (lexB a b))) w := by
  rw [run_callFunc_extern hf hn hb hx he]
  change (Sem.run P (do pure (goInt (Extern.BytealgCompare.cmp (← Extern.Bytes.bytesOf u) (← Extern.Bytes.bytesOf v)))) w).andThen _ = _
  simp only [Sem.run_bind, bytesOf_rd ha, bytesOf_rd hv, Result.andThen_ok, Sem.run_pure, Result.andThen, cmp_lex]
  rfl
theorem lexB_self : ∀ x : B8, lexB x x = 0
  | [] => rfl
  | x :: xs => by rw [lexB, if_pos rfl, lexB_self]
theorem lexB_trans : ∀ x y z : B8, lexB x y < 0 → lexB y z < 0 → lexB x z < 0
  | _, [], [], _, h => absurd h (by decide)
  | [], y :: ys, [], _, h => absurd h (by simp [lexB])
  | [], [], z :: zs, h, _ => absurd h (by decide)
  | [], y :: ys, z :: zs, _, _ => by simp [lexB]
  | x :: xs, [], _, h, _ => absurd h (by simp [lexB])
  | x :: xs, y :: ys, [], _, h => absurd h (by simp [lexB])
  | x :: xs, y :: ys, z :: zs, h1, h2 => by
    simp only [lexB] at h1 h2 ⊢
    by_cases e1 : x = y
    · subst e1
      rw [if_pos rfl] at h1
      by_cases e2 : x = z
      · subst e2; rw [if_pos rfl] at h2 ⊢; exact lexB_trans xs ys zs h1 h2
      · rw [if_neg e2] at h2 ⊢; exact h2
    · rw [if_neg e1] at h1
      have l1 : x.toNat < y.toNat := by
        by_cases h : x.toNat < y.toNat
        · exact h
        · rw [if_neg h] at h1; omega
      by_cases e2 : y = z
      · subst e2; rw [if_neg e1, if_pos l1]; decide
      · rw [if_neg e2] at h2
        have l2 : y.toNat < z.toNat := by
          by_cases h : y.toNat < z.toNat
          · exact h
          · rw [if_neg h] at h2; omega
        rw [if_neg (fun e => by subst e; omega), if_pos (by omega)]; decide
/-- One of them is the lesser, or they are one. -/
theorem lexB_tri : ∀ x y : B8, (lexB x y < 0 ∧ ¬ lexB y x < 0) ∨ (lexB y x < 0 ∧ ¬ lexB x y < 0) ∨ x = y
  | [], [] => .inr (.inr rfl)
  | [], y :: ys => .inl (by simp [lexB])
  | x :: xs, [] => .inr (.inl (by simp [lexB]))
  | x :: xs, y :: ys => by
    simp only [lexB]
    by_cases e : x = y
    · subst e
      rw [if_pos rfl, if_pos rfl]
      rcases lexB_tri xs ys with h | h | h
      · exact .inl h
      · exact .inr (.inl h)
      · exact .inr (.inr (by rw [h]))
    · rw [if_neg e, if_neg (Ne.symm e)]
      have : x.toNat ≠ y.toNat := fun h => e (BitVec.eq_of_toNat_eq h)
      by_cases h : x.toNat < y.toNat
      · rw [if_pos h, if_neg (by omega)]; exact .inl (by decide)
      · rw [if_neg h, if_pos (by omega)]; exact .inr (.inl (by decide))
end Go.Proofs.YthfipbjmpeegbaaGreatDoor

/- A range over a map out of which entries are deleted as_ one goes; bundles that may be read; a bundle of which some is let go. No program in sight. -/
namespace Go.Proofs.YthfipbjmpeegbaaGreatDoor
open Go.RowKit
set_option linter.unusedVariables false
set_option linter.unusedSectionVars false
section
variable {P : Program} {N : Nat} {C : Beg} {Q : Exit → Act → World → Prop} {E : Env} {Γ H : RL} {ty : TypeId} {ops : Array Oper} {rest : List Oper} {α β : Type} [DecidableEq α] {f : α → Value} {g : β → Value}
/-- A step of a range, by what was seen: all that is left was seen, or one more comes. -/
theorem JO.nxs {d : Nat} {pos : String} {aft : Array Edge} {x : Operand} {r b ck : Nat} {m : MM α β} {s : List Nat} {G : RL} (hok : m.Ok) (hck : m.ck = ck)
    (h1 : (∀ e ∈ m.es, e.2.2 ∈ s) → JO P N C ops rest Q ((d, .tuple #[.bool false]) :: E) Γ (Res.mi r b ck s :: G))
    (h2 : ∀ e, e ∈ m.es → e.2.2 ∉ s → JO P N C ops rest Q ((d, .tuple #[.bool true, f e.1, g e.2.1]) :: E) Γ (Res.mi r b ck (s ++ [e.2.2]) :: G))
    (hx : ev E x = some (ptr r 0) := by rfl) (hp : Pull (Res.mi r b ck s) H G := by (repeat (first | exact Pull.here _ _ | apply Pull.there)); first | done | fail)
    (hm : MP Γ G (mpR b f g m) := by first | exact .inl (by (repeat (first | exact List.Mem.head _ | refine List.Mem.tail _ ?_)); first | done | fail) | exact .inr (by (repeat (first | exact List.Mem.head _ | refine List.Mem.tail _ ?_)); first | done | fail)) (hd : d < N := by decide) :
    JO P N C ops (⟨some d, .next x false, ty, pos, aft, none⟩ :: rest) Q E Γ H := by
  subst hck
  intro hn a w he hs
  have hst := hs.perm hp.perm
  have hit := Res.mi_ok.1 (hst.sat.hok _ (.head _))
  have hmp : w.heap[b]? = some (.map (ents f g m.es).toArray m.ck) := Res.mp_ok.1 (hm.elim (fun h => hst.sat.hok _ (.tail _ h)) (fun h => hst.sat.gok _ h))
  have hlt : r < w.heap.size := (Array.getElem?_eq_some_iff.1 hit).1
  refine wpList_plain rfl fun K hK => ?_
  have hold : ∀ y ∈ (ents f g m.es).toArray.toList, y.born < m.ck := by
    intro y hy
    obtain ⟨e, he, rfl⟩ := List.mem_map.1 (show y ∈ ents f g m.es from hy)
    exact hok.lt e he
  rcases run_next_at (P := P) w ty r b m.ck m.ck s.toArray (ents f g m.es).toArray m.ck hit hmp hold (Nat.le_refl _) with ⟨h0, hr⟩ | ⟨y, hy, w1, hw1, hr⟩
  · have hr' : (execOp a.eval ⟨some d, .next x false, ty, pos, aft, none⟩).run P w = .ok (.value (.tuple #[.bool false])) w := by simp [execOp, he.ev hx, hr]
    simp only [Oper.wp, hr', Oper.upon]
    refine hK _ _ (h1 (fun e hem => ?_) hn _ _ (he.put d hd _) hst)
    have : leftOf (ents f g m.es).toArray s.toArray = #[] := Array.eq_empty_of_size_eq_zero h0
    unfold leftOf at this
    rw [Array.filter_eq_empty_iff] at this
    have := this ⟨f e.1, g e.2.1, e.2.2⟩ (by simp [ents]; exact ⟨_, _, _, hem, rfl, rfl, rfl⟩)
    simpa using this
  · have h3 := mem_left hy
    obtain ⟨e, hem, rfl⟩ := List.mem_map.1 (show y ∈ ents f g m.es from h3.1)
    have hnp : e.2.2 ∉ s := by simpa using h3.2
    have hr' : (execOp a.eval ⟨some d, .next x false, ty, pos, aft, none⟩).run P w = .ok (.value (.tuple #[.bool true, f e.1, g e.2.1])) (ChangeMaps.setBlock w1 r (.mapIter (some b) m.ck (s.toArray.push e.2.2) m.ck)) := by simp [execOp, he.ev hx, hr]
    simp only [Oper.wp, hr', Oper.upon]
    refine hK _ _ (h2 e hem hnp hn _ _ (he.put d hd _) ?_)
    have hst1 : St C Γ (Res.mi r b m.ck s :: G) w1 := by
      rcases hw1 with rfl | rfl
      · exact hst
      · exact hst.drew
    have hsz : w1.heap.size = w.heap.size := by rcases hw1 with rfl | rfl <;> rfl
    refine St.obj (b := r) hst1 (fun k => Res.mi_fp) (fun k => Res.mi_fp) rfl rfl rfl (by simp [ChangeMaps.setBlock]) (Res.mi_ok.2 ?_) ?_
    · simp [ChangeMaps.setBlock, hsz, hlt]
    · intro k hk
      simp only [ChangeMaps.setBlock]
      exact Array.getElem?_setIfInBounds_ne (Ne.symm hk)
/-- The entry that came last. -/
theorem Yv.ens {x : Operand} {r b ck : Nat} {m : MM α β} {s : List Nat} {e : α × β × Nat} (hok : m.Ok) (hck : m.ck = ck) (he : e ∈ m.es) (hx : ev E x = some (ptr r 0) := by rfl)
    (hi : Res.mi r b ck (s ++ [e.2.2]) ∈ H := by (repeat (first | exact List.Mem.head _ | refine List.Mem.tail _ ?_)); first | done | fail)
    (hm : MP Γ H (mpR b f g m) := by first | exact .inl (by (repeat (first | exact List.Mem.head _ | refine List.Mem.tail _ ?_)); first | done | fail) | exact .inr (by (repeat (first | exact List.Mem.head _ | refine List.Mem.tail _ ?_)); first | done | fail)) : Yv P N C E Γ H (.entry x) ty (.tuple #[f e.1, g e.2.1]) := by
  subst hck
  intro dst pos aft gd a w hE hS
  have hmp := Res.mp_ok.1 (hm.ok hS.sat)
  have hit := Res.mi_ok.1 (hS.sat.hok _ hi)
  have hit' : w.heap[r]? = some (.mapIter (some b) m.ck (s.toArray.push (MapEntry.mk (f e.1) (g e.2.1) e.2.2).born) m.ck) := by rw [hit]; simp
  have := run_entry_at (P := P) w r b m.ck s.toArray (ents f g m.es).toArray m.ck ⟨f e.1, g e.2.1, e.2.2⟩ hit' hmp (by simp [ents]; exact ⟨_, _, _, he, rfl, rfl, rfl⟩) (by
    have h2 : ((ents f g m.es).toArray.toList.map (·.born)) = m.es.map (·.2.2) := by simp [ents]
    rw [h2]; exact hok.nb)
  simp [execOp, hE.ev hx, this]
theorem delL_filter {es : List (α × β × Nat)} (hn : (es.map (·.1)).Nodup) (k : α) : MM.delL es k = es.filter fun e => !decide (e.1 = k) := by
  induction es with
  | nil => rfl
  | cons e es ih =>
    simp only [List.map_cons, List.nodup_cons] at hn
    simp only [MM.delL]
    by_cases h : k = e.1
    · subst h
      rw [if_pos rfl, List.filter_cons]
      simp only [decide_true, Bool.not_true, Bool.false_eq_true, if_false]
      symm
      rw [List.filter_eq_self]
      intro x hx
      have : x.1 ≠ e.1 := fun h => hn.1 (h ▸ List.mem_map.2 ⟨x, hx, rfl⟩)
      simp [this]
    · rw [if_neg h, List.filter_cons, ih hn.2]
      rw [if_pos (by simp; exact fun e => h e.symm)]
/-- A bundle of which some is let go. -/
theorem St.sepSub {C : Beg} {Γ L L' X H G : RL} {w : World} (h : St C Γ H w) (hp : Pull (Res.sep L) H G) (hl : L.Perm (L' ++ X)) : St C Γ (Res.sep L' :: G) w := by
  have h1 := St.sep.1 (h.perm hp.perm)
  have h2 := h1.perm (H' := (L' ++ G) ++ X) (((hl.append_right G).trans (by rw [List.append_assoc, List.append_assoc]; exact (List.perm_append_comm).append_left L')))
  exact St.sep.2 (h2.weak fun r h => h)
theorem JO.sepSub {l : List Oper} {L L' X G : RL} (hl : L.Perm (L' ++ X)) (k : JO P N C ops l Q E Γ (Res.sep L' :: G)) (hp : Pull (Res.sep L) H G := by (repeat (first | exact Pull.here _ _ | apply Pull.there)); first | done | fail) : JO P N C ops l Q E Γ H := fun hn a w he hs => k hn a w he (hs.sepSub hp hl)
theorem JQ.sepSub {e : Exit} {L L' X G : RL} (hl : L.Perm (L' ++ X)) (k : JQ N C e Q E Γ (Res.sep L' :: G)) (hp : Pull (Res.sep L) H G := by (repeat (first | exact Pull.here _ _ | apply Pull.there)); first | done | fail) : JQ N C e Q E Γ H := fun hn a w he hs => k hn a w he (hs.sepSub hp hl)
theorem JC.sepSub {c : Code} {L L' X G : RL} (hl : L.Perm (L' ++ X)) (k : JC P N C c Q E Γ (Res.sep L' :: G)) (hp : Pull (Res.sep L) H G := by (repeat (first | exact Pull.here _ _ | apply Pull.there)); first | done | fail) : JC P N C c Q E Γ H := fun hn a w he hs => k hn a w he (hs.sepSub hp hl)
/-- A part of a bundle that may be read. -/
theorem St.sepG {C : Beg} {Γ L H : RL} {r : Res} {w : World} (h : St C Γ H w) (hm : Res.sep L ∈ Γ) (hr : r ∈ L) : St C (r :: Γ) H w :=
  h.conv' hm (fun k hk => ⟨r, hr, hk⟩) (fun ho => ho.1 r hr)
theorem JO.sepG {l : List Oper} {L : RL} {r : Res} (hm : Res.sep L ∈ Γ) (hr : r ∈ L) (k : JO P N C ops l Q E (r :: Γ) H) : JO P N C ops l Q E Γ H := fun hn a w he hs => k hn a w he (hs.sepG hm hr)
theorem JC.sepG {c : Code} {L : RL} {r : Res} (hm : Res.sep L ∈ Γ) (hr : r ∈ L) (k : JC P N C c Q E (r :: Γ) H) : JC P N C c Q E Γ H := fun hn a w he hs => k hn a w he (hs.sepG hm hr)
end
end Go.Proofs.YthfipbjmpeegbaaGreatDoor
