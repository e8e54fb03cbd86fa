/- Texts of ours, gathered: S1. -/
import Derived.Test.YthfipbjmpeegbaaGreatDoorX07
/- Walks: what a hash is; bytes are written; the digest so far. -/
namespace Go.Proofs.YthfipbjmpeegbaaGreatDoor
open Go.RowKit
set_option maxRecDepth 100000
set_option linter.unusedVariables false
set_option linter.unusedSimpArgs false

theorem f120_spec (x : W32) (a : Nat) (h0 : 0 < a) (ha : a < 32) :
    Spec Tryz.prog 120 #[u32 x, (it (-(a : Int)))] [] []
      (fun r Γ' H' => r = u32 (rr x a) ∧ Γ' = [] ∧ H' = []) := by
  refine Spec.of_args Tryz.func120 rfl Tryz.ntmps120 (by simp) fun w => ?_
  refine JC.seq ?_
  refine JC.region ?_
  refine JO.v (Yv.assign rfl) (by decide) ?_
  refine JO.nil ?_
  refine JQ.then_normal ?_
  refine JC.seq ?_
  refine JC.region ?_
  refine JO.v (Yv.move rfl) (by decide) ?_
  refine JO.v (Yv.conv_i_u64 Tryz.underlying3 Tryz.underlying130 rfl) (by decide) ?_
  refine JO.v (Yv.as (v' := u64 (BitVec.ofNat 64 (32 - a))) (Yv.bin rfl rfl (BinR.and_u64 (b := 31#64))) (congrArg u64 (rot_and a h0 ha))) (by decide) ?_
  refine JO.v (Yv.assign rfl) (by decide) ?_
  refine JO.nil ?_
  refine JQ.then_normal ?_
  refine JC.seq ?_
  refine JC.region ?_
  refine JO.v (Yv.move rfl) (by decide) ?_
  refine JO.v (Yv.move rfl) (by decide) ?_
  refine JO.v (Yv.as (v' := u32 (x <<< (32 - a))) (Yv.bin rfl rfl (BinR.shl_u32_u64)) (congrArg (fun n => u32 (x <<< n)) (by rw [BitVec.toNat_ofNat]; omega))) (by decide) ?_
  refine JO.v (Yv.move rfl) (by decide) ?_
  refine JO.v (Yv.move rfl) (by decide) ?_
  refine JO.v (Yv.as (v' := u64 (BitVec.ofNat 64 a)) (Yv.bin rfl rfl (BinR.sub_u64 (a := 32#64))) (congrArg u64 (rot_sub a h0 ha))) (by decide) ?_
  refine JO.v (Yv.as (v' := u32 (x >>> a)) (Yv.bin rfl rfl (BinR.shr_u32_u64)) (congrArg (fun n => u32 (x >>> n)) (by rw [BitVec.toNat_ofNat]; omega))) (by decide) ?_
  refine JO.v (Yv.as (v' := u32 (rr x a)) (Yv.bin rfl rfl (BinR.or_u32)) (congrArg u32 (BitVec.or_comm _ _))) (by decide) ?_
  refine JO.v (Yv.assign rfl) (by decide) ?_
  refine JO.nil ?_
  refine JQ.then_normal ?_
  refine JC.ret ?_
  exact JQ.done (.inr rfl) (Γ' := []) (H' := []) (res1 rfl (RV.tmp rfl)) (Subs.sub zqe) (Picks.perm zqd) ⟨rfl, rfl, rfl⟩


theorem f108_spec (x : W32) (a : Nat) (h0 : 0 < a) (ha : a < 32) :
    Spec Tryz.prog 108 #[u32 x, (it (a : Int))] [] []
      (fun r Γ' H' => r = u32 (rr x a) ∧ Γ' = [] ∧ H' = []) := by
  refine Spec.of_args Tryz.func108 rfl Tryz.ntmps108 (by simp) fun w => ?_
  refine JC.seq ?_
  refine JC.region ?_
  refine JO.v (Yv.assign rfl) (by decide) ?_
  refine JO.nil ?_
  refine JQ.then_normal ?_
  refine JC.seq ?_
  refine JC.draw (.one 0 (.one 1 (.one 2 (.one 3 (.one 4 (.one 5 (.one 6 (.one 7 (.one 8 .nil))))))))) (fun i => ([] : List Nat).contains i) (fun i => ([] : List Nat).contains i) (fun i => ([0, 1, 2, 3, 4, 5, 6, 7, 8] : List Nat).contains i) mixed (by kernel_rfl) (by decide) (by kernel_rfl) ?_
  refine JR.u rfl rfl rfl (Yv.move rfl) (by decide) ?_
  refine JR.u rfl rfl rfl (Yv.move rfl) (by decide) ?_
  refine JR.u rfl rfl rfl (Yv.bin rfl rfl (BinR.shr_u32_i (by first | omega | decide | (simp; omega)))) (by decide) ?_
  refine JR.u rfl rfl rfl (Yv.move rfl) (by decide) ?_
  refine JR.u rfl rfl rfl (Yv.move rfl) (by decide) ?_
  refine JR.u rfl rfl rfl (Yv.as (v' := it ((32 - a : Nat) : Int)) (Yv.bin rfl rfl (BinR.sub_i zqf)) (congrArg it (by omega))) (by decide) ?_
  refine JR.u rfl rfl rfl (Yv.bin rfl rfl (BinR.shl_u32_i (by first | omega | decide | (simp; omega)))) (by decide) ?_
  refine JR.u rfl rfl rfl (Yv.as (v' := u32 (rr x a)) (Yv.bin rfl rfl (BinR.add_u32)) (congrArg u32 (by simpa using right_eq x a h0 ha))) (by decide) ?_
  refine JR.u rfl rfl rfl (Yv.assign rfl) (by decide) ?_
  refine JR.nil ?_
  refine JQ.then_normal ?_
  refine JC.ret ?_
  exact JQ.done (.inr rfl) (Γ' := []) (H' := []) (res1 rfl (RV.tmp rfl)) (Subs.sub zqe) (Picks.perm zqd) ⟨rfl, rfl, rfl⟩


theorem f110_spec (x : W32) (a b c : Nat) (ha : 0 < a ∧ a < 32) (hb : 0 < b ∧ b < 32) (hc : 0 < c ∧ c < 32) :
    Spec Tryz.prog 110 #[u32 x, (it (a : Int)), (it (b : Int)), (it (c : Int))] [] []
      (fun r Γ' H' => r = u32 (rr x a ^^^ rr x b ^^^ rr x c) ∧ Γ' = [] ∧ H' = []) := by
  refine Spec.of_args Tryz.func110 rfl Tryz.ntmps110 (by simp) fun w => ?_
  refine JC.seq ?_
  refine JC.region ?_
  refine JO.v (Yv.assign rfl) (by decide) ?_
  refine JO.nil ?_
  refine JQ.then_normal ?_
  refine JC.seq ?_
  refine JC.region ?_
  refine JO.v (Yv.move rfl) (by decide) ?_
  refine JO.v (Yv.move rfl) (by decide) ?_
  refine JO.v (Yv.neg_i rfl zqf) (by decide) ?_
  refine JO.callB (f120_spec x a ha.1 ha.2) body_120 rfl zqd (by repeat (first | exact Lends.nil _ | apply Lends.cons | exact Lend.same _ _ | exact Lend.row _ _ _ _ _ _ (by decide) | apply Lend.there)) (by rintro _ _ _ ⟨_, h, _⟩; exact h) (by decide) ?_
  rintro _ _ ⟨_, ⟨rfl, _, rfl⟩, hH⟩
  simp only [List.cons_append, List.nil_append] at hH; subst hH
  refine JO.v (Yv.move rfl) (by decide) ?_
  refine JO.v (Yv.move rfl) (by decide) ?_
  refine JO.v (Yv.neg_i rfl zqf) (by decide) ?_
  refine JO.callB (f120_spec x b hb.1 hb.2) body_120 rfl zqd (by repeat (first | exact Lends.nil _ | apply Lends.cons | exact Lend.same _ _ | exact Lend.row _ _ _ _ _ _ (by decide) | apply Lend.there)) (by rintro _ _ _ ⟨_, h, _⟩; exact h) (by decide) ?_
  rintro _ _ ⟨_, ⟨rfl, _, rfl⟩, hH⟩
  simp only [List.cons_append, List.nil_append] at hH; subst hH
  refine JO.v (Yv.bin rfl rfl (BinR.xor_u32)) (by decide) ?_
  refine JO.v (Yv.move rfl) (by decide) ?_
  refine JO.v (Yv.move rfl) (by decide) ?_
  refine JO.v (Yv.neg_i rfl zqf) (by decide) ?_
  refine JO.callB (f120_spec x c hc.1 hc.2) body_120 rfl zqd (by repeat (first | exact Lends.nil _ | apply Lends.cons | exact Lend.same _ _ | exact Lend.row _ _ _ _ _ _ (by decide) | apply Lend.there)) (by rintro _ _ _ ⟨_, h, _⟩; exact h) (by decide) ?_
  rintro _ _ ⟨_, ⟨rfl, _, rfl⟩, hH⟩
  simp only [List.cons_append, List.nil_append] at hH; subst hH
  refine JO.v (Yv.bin rfl rfl (BinR.xor_u32)) (by decide) ?_
  refine JO.v (Yv.assign rfl) (by decide) ?_
  refine JO.nil ?_
  refine JQ.then_normal ?_
  refine JC.ret ?_
  exact JQ.done (.inr rfl) (Γ' := []) (H' := []) (res1 rfl (RV.tmp rfl)) (Subs.sub zqe) (Picks.perm zqd) ⟨rfl, rfl, rfl⟩


theorem f109_spec (x : W32) (a b c : Nat) (ha : 0 < a ∧ a < 32) (hb : 0 < b ∧ b < 32) (hc : 0 < c ∧ c < 32) :
    Spec Tryz.prog 109 #[u32 x, (it (a : Int)), (it (b : Int)), (it (c : Int))] [] []
      (fun r Γ' H' => r = u32 (rr x a ^^^ rr x b ^^^ x >>> c) ∧ Γ' = [] ∧ H' = []) := by
  refine Spec.of_args Tryz.func109 rfl Tryz.ntmps109 (by simp) fun w => ?_
  refine JC.seq ?_
  refine JC.region ?_
  refine JO.v (Yv.assign rfl) (by decide) ?_
  refine JO.nil ?_
  refine JQ.then_normal ?_
  refine JC.seq ?_
  refine JC.draw (.one 0 (.one 1 (.one 2 (.one 4 (.one 5 (.one 6 (.one 9 (.one 10 (.one 11 (.one 3 (.one 7 (.one 8 (.one 12 (.one 13 .nil)))))))))))))) (fun i => ([3, 7] : List Nat).contains i) (fun i => ([3, 7] : List Nat).contains i) (fun i => ([0, 1, 2, 4, 5, 6, 8, 9, 10, 11, 12, 13] : List Nat).contains i) mixed (by kernel_rfl) (by decide) (by kernel_rfl) ?_
  refine JR.u rfl rfl rfl (Yv.move rfl) (by decide) ?_
  refine JR.u rfl rfl rfl (Yv.move rfl) (by decide) ?_
  refine JR.u rfl rfl rfl (Yv.neg_i rfl zqf) (by decide) ?_
  refine JR.u rfl rfl rfl (Yv.move rfl) (by decide) ?_
  refine JR.u rfl rfl rfl (Yv.move rfl) (by decide) ?_
  refine JR.u rfl rfl rfl (Yv.neg_i rfl zqf) (by decide) ?_
  refine JR.u rfl rfl rfl (Yv.move rfl) (by decide) ?_
  refine JR.u rfl rfl rfl (Yv.move rfl) (by decide) ?_
  refine JR.u rfl rfl rfl (Yv.as (v' := u32 (x >>> c)) (Yv.bin rfl rfl (BinR.shr_u32_i (by first | omega | decide | (simp; omega)))) (congrArg (fun n => u32 (x >>> n)) (by simp))) (by decide) ?_
  refine JR.m rfl rfl (Mv.callB body_120 rfl (f120_spec x a ha.1 ha.2) zqd (by repeat (first | exact Lends.nil _ | apply Lends.cons | exact Lend.same _ _ | exact Lend.row _ _ _ _ _ _ (by decide) | apply Lend.there)) (by rintro _ _ _ ⟨_, h, _⟩; exact h)) (by decide) ?_
  rintro _ _ _ ⟨_, ⟨rfl, _, rfl⟩, hΓ, hH⟩
  simp only [List.cons_append, List.nil_append] at hH; subst hΓ hH
  refine ⟨⟨Subs.sub zqe, .inl rfl⟩, ?_⟩
  refine JR.m rfl rfl (Mv.callB body_120 rfl (f120_spec x b hb.1 hb.2) zqd (by repeat (first | exact Lends.nil _ | apply Lends.cons | exact Lend.same _ _ | exact Lend.row _ _ _ _ _ _ (by decide) | apply Lend.there)) (by rintro _ _ _ ⟨_, h, _⟩; exact h)) (by decide) ?_
  rintro _ _ _ ⟨_, ⟨rfl, _, rfl⟩, hΓ, hH⟩
  simp only [List.cons_append, List.nil_append] at hH; subst hΓ hH
  refine ⟨⟨Subs.sub zqe, .inl rfl⟩, ?_⟩
  refine JR.u rfl rfl rfl (Yv.bin rfl rfl (BinR.xor_u32)) (by decide) ?_
  refine JR.u rfl rfl rfl (Yv.bin rfl rfl (BinR.xor_u32)) (by decide) ?_
  refine JR.u rfl rfl rfl (Yv.assign rfl) (by decide) ?_
  refine JR.nil ?_
  refine JQ.then_normal ?_
  refine JC.ret ?_
  exact JQ.done (.inr rfl) (Γ' := []) (H' := []) (res1 rfl (RV.tmp rfl)) (Subs.sub zqe) (Picks.perm zqd) ⟨rfl, rfl, rfl⟩


theorem f87_spec (p : Nat) (s : List W32) (bs : B8) (n : BitVec 64) (hs : s.length = 8) (hb : bs.length = 64) :
    Spec Tryz.prog 87 #[(ptr p 0)] [Res.var 3 (sqr.map u32), Res.var 2 (cub.map u32)] [Res.cells p (hcells s bs n) 145]
      (fun r Γ' H' => r = .agg (s.map u32).toArray ∧ Γ' = [] ∧ H' = [Res.cells p (hcells s bs n) 145]) := by
  refine Spec.of_args Tryz.func87 rfl Tryz.ntmps87 (by simp) fun w => ?_
  refine JC.seq ?_
  refine JC.region ?_
  refine JO.alloc _ zero_139 rfl (by decide) fun b2 => ?_
  refine JO.nil ?_
  refine JQ.then_normal ?_
  refine JC.seq ?_
  refine JC.region ?_
  refine JO.v (Yv.move rfl) (by decide) ?_
  refine JO.v (Yv.nilCheck rfl) (by decide) ?_
  refine JO.v (Yv.fieldAddr fa_145_0 rfl) (by decide) ?_
  first | refine JO.v (Yv.as (v' := .agg (nowT s 0).toArray) (Yv.loadOwn agg_139 zqa rfl (by rw [hcells_len hb]; omega)) (congrArg (fun l : List Value => Value.agg l.toArray) (hc_words s bs n))) (by decide) ?_ | refine JO.v (Yv.as (v' := .agg (nowT s 0).toArray) (Yv.loadOwnAt agg_139 zqa rfl (by rw [hcells_len hb]; omega)) (congrArg (fun l : List Value => Value.agg l.toArray) (hc_words s bs n))) (by decide) ?_ | refine JO.v (Yv.as (v' := .agg (nowT s 0).toArray) (Yv.loadRow agg_139 zqa rfl (by rw [hcells_len hb]; omega)) (congrArg (fun l : List Value => Value.agg l.toArray) (hc_words s bs n))) (by decide) ?_ | refine JO.v (Yv.as (v' := .agg (nowT s 0).toArray) (Yv.loadRd agg_139 zqc rfl (by rw [hcells_len hb]; omega)) (congrArg (fun l : List Value => Value.agg l.toArray) (hc_words s bs n))) (by decide) ?_ | refine JO.v (Yv.as (v' := .agg (nowT s 0).toArray) (Yv.loadRo agg_139 zqa rfl (by rw [hcells_len hb]; omega)) (congrArg (fun l : List Value => Value.agg l.toArray) (hc_words s bs n))) (by decide) ?_
  refine JO.alloc _ zero_139 rfl (by decide) fun b3 => ?_
  first | refine JO.storeAll sz_139 rfl rfl rfl (by first | rfl | (simp; done) | (simp; omega)) (by first | (simp; done) | exact one_map (fun _ => rfl) | exact one_tab (fun _ => rfl) | exact one_tab (fun _ => by split <;> rfl)) (by repeat (first | exact Upd.here _ _ _ | apply Upd.there)) (by first | rfl | (simp; done) | (simp; omega)) ?_ | refine JO.store sz_139 rfl rfl rfl (by first | rfl | (simp; done) | (simp; omega)) (by first | (simp; done) | exact one_sing rfl | exact one_map (fun _ => rfl) | exact one_piece (one_map (fun _ => rfl)) | exact one_tab (fun _ => rfl) | exact one_tab (fun _ => by split <;> rfl)) (by repeat (first | exact Upd.here _ _ _ | apply Upd.there)) zqb ?_ | refine JO.storeRow sz_139 rfl rfl rfl (by first | rfl | simp) (by first | (simp; done) | exact one_map (fun _ => rfl) | exact one_tab (fun _ => rfl) | exact one_tab (fun _ => by split <;> rfl)) (by repeat (first | exact Upd.here _ _ _ | apply Upd.there)) zqb zqb ?_
  refine JO.nil ?_
  refine JQ.then_normal ?_
  refine JC.seq ?_
  refine JC.seq ?_
  refine JC.region ?_
  refine JO.v (Yv.move rfl) (by decide) ?_
  refine JO.nil ?_
  refine JQ.then_normal ?_
  refine JC.block ?_
  refine JC.loop (ι := Nat) (fun x => x ≤ 8) (fun x => [(9, it (x : Int)), (3, ptr b3 0), (2, ptr b2 0)]) (fun x => [Res.var 3 (sqr.map u32), Res.var 2 (cub.map u32)]) (fun x => [Res.cells p (hcells s bs n) 145, Res.cells b3 (nowT s x) 139, Res.cells b2 (List.replicate 8 (u32 0)) 139]) (fun x => 8 - x) 0 (by repeat (first | exact trivial | refine ⟨by first | rfl | (simp; done), ?_⟩)) (Subs.sub zqe) (Picks.perm zqd) ?_ (fun x hx => ?_)
  · exact Nat.zero_le _
  refine JC.seq ?_
  refine JC.region ?_
  refine JO.v (Yv.bin rfl rfl BinR.lss_i) (by decide) ?_
  refine JO.nil ?_
  refine JQ.then_normal ?_
  refine JC.seq ?_
  refine JC.cond rfl (fun hc1 => ?_) (fun hc1 => ?_)
  · try simp only [decide_eq_true_eq, decide_eq_false_iff_not, Bool.not_eq_true', Bool.not_eq_false', ne_eq, Decidable.not_not, Bool.not_eq_true, Bool.and_eq_true, Bool.or_eq_true, BitVec.reduceToNat] at hc1
    refine JC.skip ?_
    refine JQ.then_normal ?_
    refine JC.seq ?_
    refine JC.block ?_
    refine JC.seq ?_
    refine JC.region ?_
    refine JO.v (Yv.move rfl) (by decide) ?_
    refine JO.v (Yv.assign rfl) (by decide) ?_
    refine JO.nil ?_
    refine JQ.then_normal ?_
    refine JC.draw (.one 0 (.one 1 (.one 2 (.one 3 (.one 4 (.one 5 (.one 6 (.one 7 (.one 8 .nil))))))))) (fun i => ([8] : List Nat).contains i) (fun i => ([8] : List Nat).contains i) (fun i => ([0, 1, 3, 4, 5, 6, 7] : List Nat).contains i) mixed (by kernel_rfl) (by decide) (by kernel_rfl) ?_
    refine JR.u rfl rfl rfl (Yv.move rfl) (by decide) ?_
    first | refine JR.u rfl rfl rfl (Yv.indexArr1 Tryz.underlying139 sz_138 rfl rfl zqb) (by decide) ?_ | refine JR.u rfl rfl rfl (Yv.indexArr1o Tryz.underlying139 sz_138 rfl rfl zqb) (by decide) ?_
    refine JR.v rfl rfl rfl (Yv.load1 one_138 rfl (by first | exact Kn.own zqa (by first | first | exact nowT_get s (by omega) | rfl | exact tab_get zqg | exact gm (d := 0) zqg) | exact Kn.ro zqa (by first | first | exact nowT_get s (by omega) | rfl | exact tab_get zqg | exact gm (d := 0) zqg) | exact Kn.row zqa (by first | first | exact nowT_get s (by omega) | rfl | exact tab_get zqg | exact gm (d := 0) zqg) | exact Kn.rd zqc (by first | first | exact nowT_get s (by omega) | rfl | exact tab_get zqg | exact gm (d := 0) zqg) | exact Kn.rd2 zqc (by first | first | exact nowT_get s (by omega) | rfl | exact tab_get zqg | exact gm (d := 0) zqg) | exact Kn.var zqa (by first | first | exact nowT_get s (by omega) | rfl | exact tab_get zqg | exact gm (d := 0) zqg))) (by decide) ?_
    refine JR.u rfl rfl rfl (Yv.move rfl) (by decide) ?_
    first | refine JR.u rfl rfl rfl (Yv.indexArr1 Tryz.underlying139 sz_138 rfl rfl zqb) (by decide) ?_ | refine JR.u rfl rfl rfl (Yv.indexArr1o Tryz.underlying139 sz_138 rfl rfl zqb) (by decide) ?_
    refine JR.u rfl rfl rfl (Yv.load1 one_138 rfl (by first | exact Kn.own zqa (by first | first | exact nowT_get s (by omega) | rfl | exact tab_get zqg | exact gm (d := 0) zqg) | exact Kn.ro zqa (by first | first | exact nowT_get s (by omega) | rfl | exact tab_get zqg | exact gm (d := 0) zqg) | exact Kn.row zqa (by first | first | exact nowT_get s (by omega) | rfl | exact tab_get zqg | exact gm (d := 0) zqg) | exact Kn.rd zqc (by first | first | exact nowT_get s (by omega) | rfl | exact tab_get zqg | exact gm (d := 0) zqg) | exact Kn.rd2 zqc (by first | first | exact nowT_get s (by omega) | rfl | exact tab_get zqg | exact gm (d := 0) zqg) | exact Kn.var zqa (by first | first | exact nowT_get s (by omega) | rfl | exact tab_get zqg | exact gm (d := 0) zqg))) (by decide) ?_
    refine JR.u rfl rfl rfl (Yv.as (v' := u32 (s.getD x 0)) (Yv.bin rfl rfl (BinR.xor_u32)) (congrArg u32 (xor_back _ _))) (by decide) ?_
    first | refine JR.u rfl rfl rfl (Yv.indexArr1 Tryz.underlying139 sz_138 rfl rfl zqb) (by decide) ?_ | refine JR.u rfl rfl rfl (Yv.indexArr1o Tryz.underlying139 sz_138 rfl rfl zqb) (by decide) ?_
    first | refine JR.m0 rfl rfl (Mv.store1 sz_138 rfl rfl rfl (by repeat (first | exact Upd.here _ _ _ | apply Upd.there)) zqb) ?_ | refine JR.m0 rfl rfl (Mv.storeRow1 sz_138 rfl rfl rfl (by repeat (first | exact Upd.here _ _ _ | apply Upd.there)) zqb (by first | rfl | (simp; done) | omega | (simp; omega))) ?_
    rintro _ _ _ ⟨rfl, rfl⟩
    refine ⟨⟨Subs.sub zqe, .inl rfl⟩, ?_⟩
    refine JR.nil ?_
    refine JQ.block_normal ?_
    refine JQ.then_normal ?_
    refine JC.region ?_
    refine JO.v (Yv.bin rfl rfl (BinR.add_i zqf)) (by decide) ?_
    refine JO.v (Yv.move rfl) (by decide) ?_
    refine JO.nil ?_
    rw [nowT_set]
    refine JQ.head (x + 1) (by repeat (first | exact trivial | refine ⟨by first | rfl | (simp; done), ?_⟩)) (Subs.sub zqe) (Picks.perm zqd) ?_
    exact ⟨by omega, by omega⟩
  · try simp only [decide_eq_true_eq, decide_eq_false_iff_not, Bool.not_eq_true', Bool.not_eq_false', ne_eq, Decidable.not_not, Bool.not_eq_true, Bool.and_eq_true, Bool.or_eq_true, BitVec.reduceToNat] at hc1
    obtain rfl : x = 8 := by omega
    refine JC.exit ?_
    refine JQ.then_exit ?_
    refine JQ.then_exit ?_
    refine JQ.block_exit ?_
    refine JQ.then_normal ?_
    refine JC.seq ?_
    refine JC.region ?_
    first | refine JO.v (Yv.as (v' := .agg (s.map u32).toArray) (Yv.loadOwn agg_139 zqa rfl (by first | rfl | (simp; done) | (simp; omega) | (simp [*]; done))) (congrArg (fun l : List Value => Value.agg l.toArray) (nowT_8 hs))) (by decide) ?_ | refine JO.v (Yv.as (v' := .agg (s.map u32).toArray) (Yv.loadOwnAt agg_139 zqa rfl (by first | rfl | (simp; done) | (simp; omega) | (simp [*]; done))) (congrArg (fun l : List Value => Value.agg l.toArray) (nowT_8 hs))) (by decide) ?_ | refine JO.v (Yv.as (v' := .agg (s.map u32).toArray) (Yv.loadRow agg_139 zqa rfl (by first | rfl | (simp; done) | (simp; omega) | (simp [*]; done))) (congrArg (fun l : List Value => Value.agg l.toArray) (nowT_8 hs))) (by decide) ?_ | refine JO.v (Yv.as (v' := .agg (s.map u32).toArray) (Yv.loadRd agg_139 zqc rfl (by first | rfl | (simp; done) | (simp; omega) | (simp [*]; done))) (congrArg (fun l : List Value => Value.agg l.toArray) (nowT_8 hs))) (by decide) ?_ | refine JO.v (Yv.as (v' := .agg (s.map u32).toArray) (Yv.loadRo agg_139 zqa rfl (by first | rfl | (simp; done) | (simp; omega) | (simp [*]; done))) (congrArg (fun l : List Value => Value.agg l.toArray) (nowT_8 hs))) (by decide) ?_
    first | refine JO.storeAll sz_139 rfl rfl rfl (by first | rfl | (simp; done) | (simp; omega)) (by first | (simp; done) | exact one_map (fun _ => rfl) | exact one_tab (fun _ => rfl) | exact one_tab (fun _ => by split <;> rfl)) (by repeat (first | exact Upd.here _ _ _ | apply Upd.there)) (by first | rfl | (simp; done) | (simp; omega)) ?_ | refine JO.store sz_139 rfl rfl rfl (by first | rfl | (simp; done) | (simp; omega)) (by first | (simp; done) | exact one_sing rfl | exact one_map (fun _ => rfl) | exact one_piece (one_map (fun _ => rfl)) | exact one_tab (fun _ => rfl) | exact one_tab (fun _ => by split <;> rfl)) (by repeat (first | exact Upd.here _ _ _ | apply Upd.there)) zqb ?_ | refine JO.storeRow sz_139 rfl rfl rfl (by first | rfl | simp) (by first | (simp; done) | exact one_map (fun _ => rfl) | exact one_tab (fun _ => rfl) | exact one_tab (fun _ => by split <;> rfl)) (by repeat (first | exact Upd.here _ _ _ | apply Upd.there)) zqb zqb ?_
    refine JO.nil ?_
    refine JQ.then_normal ?_
    refine JC.ret ?_
    exact JQ.done (.inr rfl) (Γ' := []) (H' := [Res.cells p (hcells s bs n) 145]) (res1 rfl (RV.cell agg_139 zqa rfl (by simp [hs]))) (Subs.sub zqe) (Picks.perm zqd) ⟨rfl, rfl, rfl⟩


theorem f86_spec (p : Nat) (s : List W32) (bs : B8) (n : BitVec 64) (hs : s.length = 8) (hb : bs.length = 64) :
    Spec Tryz.prog 86 #[(ptr p 0)] [] [Res.cells p (hcells s bs n) 145]
      (fun r Γ' H' => ∃ q, r = ptr q 0 ∧ Γ' = [] ∧ H' = [Res.cells q (hcells s bs n) 145, Res.cells p (hcells s bs n) 145]) := by
  refine Spec.of_args Tryz.func86 rfl Tryz.ntmps86 (by simp) fun w => ?_
  refine JC.seq ?_
  refine JC.region ?_
  refine JO.v (Yv.assign rfl) (by decide) ?_
  refine JO.nil ?_
  refine JQ.then_normal ?_
  refine JC.seq ?_
  refine JC.region ?_
  refine JO.v (Yv.move rfl) (by decide) ?_
  refine JO.v (Yv.nilCheck rfl) (by decide) ?_
  first | refine JO.v (Yv.loadOwn agg_145 zqa rfl (hcells_len hb)) (by decide) ?_ | refine JO.v (Yv.loadOwnAt agg_145 zqa rfl (hcells_len hb)) (by decide) ?_ | refine JO.v (Yv.loadRow agg_145 zqa rfl (hcells_len hb)) (by decide) ?_ | refine JO.v (Yv.loadRd agg_145 zqc rfl (hcells_len hb)) (by decide) ?_ | refine JO.v (Yv.loadRo agg_145 zqa rfl (hcells_len hb)) (by decide) ?_
  refine JO.alloc _ zero_145 rfl (by decide) fun b3 => ?_
  refine JO.storeAll sz_145 rfl rfl rfl (hcells_len hb) (hcells_one s bs n) (by repeat (first | exact Upd.here _ _ _ | apply Upd.there)) (by first | rfl | (simp; done)) ?_
  refine JO.nil ?_
  refine JQ.then_normal ?_
  refine JC.seq ?_
  refine JC.region ?_
  refine JO.v (Yv.assign rfl) (by decide) ?_
  refine JO.nil ?_
  refine JQ.then_normal ?_
  refine JC.ret ?_
  exact JQ.done (.inr rfl) (Γ' := []) (H' := [Res.cells _ (hcells s bs n) 145, Res.cells p (hcells s bs n) 145]) (res1 rfl (RV.tmp rfl)) (Subs.sub zqe) (Picks.perm zqd) ⟨_, rfl, rfl, rfl⟩

set_option maxHeartbeats 400000 in
theorem f84_spec (p : Nat) (s : List W32) (bs : B8) (n : BitVec 64) (hs : s.length = 8) (hb : bs.length = 64) :
    Spec Tryz.prog 84 #[(ptr p 0)] [Res.var 3 (sqr.map u32), Res.var 2 (cub.map u32)] [Res.cells p (hcells s bs n) 145]
      (fun r Γ' H' => r = .tuple #[] ∧ Γ' = [] ∧ H' = [Res.cells p (hcells (comp s bs) bs n) 145]) := by
  refine Spec.of_args Tryz.func84 rfl Tryz.ntmps84 (by simp) fun w => ?_
  refine JC.seq ?_
  refine JC.region ?_
  refine JO.alloc _ zero_164 rfl (by decide) fun b2 => ?_
  refine JO.nil ?_
  refine JQ.then_normal ?_
  refine JC.seq ?_
  refine JC.seq ?_
  refine JC.region ?_
  refine JO.v (Yv.move rfl) (by decide) ?_
  refine JO.nil ?_
  refine JQ.then_normal ?_
  refine JC.block ?_
  refine JC.loop (ι := Nat) (fun x => x ≤ 64) (fun x => [(0, ptr p 0), (18, it (x : Int)), (2, ptr b2 0)]) (fun x => [Res.var 3 (sqr.map u32), Res.var 2 (cub.map u32)]) (fun x => [Res.cells p (hcells s bs n) 145, Res.cells b2 (schT bs x) 164]) (fun x => 64 - x) 0 (by repeat (first | exact trivial | refine ⟨by first | rfl | (simp; done), ?_⟩)) (Subs.sub zqe) (Picks.perm zqd) ?_ (fun x hx => ?_)
  · exact Nat.zero_le _
  refine JC.seq ?_
  refine JC.region ?_
  refine JO.v (Yv.bin rfl rfl BinR.lss_i) (by decide) ?_
  refine JO.nil ?_
  refine JQ.then_normal ?_
  refine JC.seq ?_
  refine JC.cond rfl (fun hc1 => ?_) (fun hc1 => ?_)
  · try simp only [decide_eq_true_eq, decide_eq_false_iff_not, Bool.not_eq_true', Bool.not_eq_false', ne_eq, Decidable.not_not, Bool.not_eq_true, Bool.and_eq_true, Bool.or_eq_true, BitVec.reduceToNat] at hc1
    refine JC.skip ?_
    refine JQ.then_normal ?_
    refine JC.seq ?_
    refine JC.block ?_
    refine JC.seq ?_
    refine JC.region ?_
    refine JO.v (Yv.move rfl) (by decide) ?_
    refine JO.v (Yv.assign rfl) (by decide) ?_
    refine JO.nil ?_
    refine JQ.then_normal ?_
    refine JC.seq ?_
    refine JC.region ?_
    refine JO.v (Yv.move rfl) (by decide) ?_
    refine JO.v (Yv.bin rfl rfl BinR.lss_i) (by decide) ?_
    refine JO.nil ?_
    refine JQ.then_normal ?_
    refine JC.cond rfl (fun hc2 => ?_) (fun hc2 => ?_)
    · try simp only [decide_eq_true_eq, decide_eq_false_iff_not, Bool.not_eq_true', Bool.not_eq_false', ne_eq, Decidable.not_not, Bool.not_eq_true, Bool.and_eq_true, Bool.or_eq_true, BitVec.reduceToNat] at hc2
      refine JC.draw (.one 0 (.one 1 (.one 2 (.one 3 (.one 4 (.one 5 (.one 6 (.one 7 (.one 8 (.one 9 (.one 10 (.one 11 (.one 12 (.one 13 (.one 14 (.one 15 (.one 16 (.one 17 (.one 18 (.one 19 (.one 20 (.one 21 (.one 22 (.one 23 (.one 24 (.one 25 (.one 26 (.one 27 (.one 28 (.one 29 (.one 30 (.one 31 (.one 32 (.one 33 (.one 34 (.one 35 (.one 36 (.one 37 (.one 38 (.one 39 (.one 40 (.one 41 (.one 42 (.one 43 .nil)))))))))))))))))))))))))))))))))))))))))))) (fun i => ([43] : List Nat).contains i) (fun i => ([43] : List Nat).contains i) (fun i => ([0, 1, 2, 3, 4, 5, 6, 8, 9, 10, 11, 12, 13, 14, 15, 16, 18, 19, 20, 21, 22, 23, 24, 25, 26, 27, 29, 30, 31, 32, 33, 34, 35, 36, 37, 38, 40, 41, 42] : List Nat).contains i) mixed (by kernel_rfl) (by decide) (by kernel_rfl) ?_
      refine JR.u rfl rfl rfl (Yv.move rfl) (by decide) ?_
      refine JR.u rfl rfl rfl (Yv.move rfl) (by decide) ?_
      refine JR.u rfl rfl rfl (Yv.move rfl) (by decide) ?_
      refine JR.u rfl rfl rfl (Yv.as (v' := it ((4 * x : Nat) : Int)) (Yv.bin rfl rfl (BinR.mul_i zqf)) (congrArg it (by omega))) (by decide) ?_
      refine JR.u rfl rfl rfl (Yv.nilCheck rfl) (by decide) ?_
      refine JR.u rfl rfl rfl (Yv.fieldAddr fa_145_1 rfl) (by decide) ?_
      first | refine JR.u rfl rfl rfl (Yv.indexArr1 Tryz.underlying143 sz_5 rfl rfl zqb) (by decide) ?_ | refine JR.u rfl rfl rfl (Yv.indexArr1o Tryz.underlying143 sz_5 rfl rfl zqb) (by decide) ?_
      refine JR.v rfl rfl rfl (Yv.load1 one_5 rfl (by first | exact Kn.own zqa (by first | first | exact hc_b hb (by omega) | exact schT_get bs (by omega) (by omega) | rfl | exact tab_get zqg | exact gm (d := 0) zqg) | exact Kn.ro zqa (by first | first | exact hc_b hb (by omega) | exact schT_get bs (by omega) (by omega) | rfl | exact tab_get zqg | exact gm (d := 0) zqg) | exact Kn.row zqa (by first | first | exact hc_b hb (by omega) | exact schT_get bs (by omega) (by omega) | rfl | exact tab_get zqg | exact gm (d := 0) zqg) | exact Kn.rd zqc (by first | first | exact hc_b hb (by omega) | exact schT_get bs (by omega) (by omega) | rfl | exact tab_get zqg | exact gm (d := 0) zqg) | exact Kn.rd2 zqc (by first | first | exact hc_b hb (by omega) | exact schT_get bs (by omega) (by omega) | rfl | exact tab_get zqg | exact gm (d := 0) zqg) | exact Kn.var zqa (by first | first | exact hc_b hb (by omega) | exact schT_get bs (by omega) (by omega) | rfl | exact tab_get zqg | exact gm (d := 0) zqg))) (by decide) ?_
      refine JR.u rfl rfl rfl (Yv.conv_u8_u32 Tryz.underlying5 Tryz.underlying138 rfl) (by decide) ?_
      refine JR.u rfl rfl rfl (Yv.bin rfl rfl (BinR.shl_u32_u64 (n := 24#64))) (by decide) ?_
      refine JR.u rfl rfl rfl (Yv.move rfl) (by decide) ?_
      refine JR.u rfl rfl rfl (Yv.move rfl) (by decide) ?_
      refine JR.u rfl rfl rfl (Yv.bin rfl rfl (BinR.mul_i zqf)) (by decide) ?_
      refine JR.u rfl rfl rfl (Yv.as (v' := it ((4 * x + 1 : Nat) : Int)) (Yv.bin rfl rfl (BinR.add_i zqf)) (congrArg it (by omega))) (by decide) ?_
      refine JR.u rfl rfl rfl (Yv.nilCheck rfl) (by decide) ?_
      refine JR.u rfl rfl rfl (Yv.fieldAddr fa_145_1 rfl) (by decide) ?_
      first | refine JR.u rfl rfl rfl (Yv.indexArr1 Tryz.underlying143 sz_5 rfl rfl zqb) (by decide) ?_ | refine JR.u rfl rfl rfl (Yv.indexArr1o Tryz.underlying143 sz_5 rfl rfl zqb) (by decide) ?_
      refine JR.v rfl rfl rfl (Yv.load1 one_5 rfl (by first | exact Kn.own zqa (by first | first | exact hc_b hb (by omega) | exact schT_get bs (by omega) (by omega) | rfl | exact tab_get zqg | exact gm (d := 0) zqg) | exact Kn.ro zqa (by first | first | exact hc_b hb (by omega) | exact schT_get bs (by omega) (by omega) | rfl | exact tab_get zqg | exact gm (d := 0) zqg) | exact Kn.row zqa (by first | first | exact hc_b hb (by omega) | exact schT_get bs (by omega) (by omega) | rfl | exact tab_get zqg | exact gm (d := 0) zqg) | exact Kn.rd zqc (by first | first | exact hc_b hb (by omega) | exact schT_get bs (by omega) (by omega) | rfl | exact tab_get zqg | exact gm (d := 0) zqg) | exact Kn.rd2 zqc (by first | first | exact hc_b hb (by omega) | exact schT_get bs (by omega) (by omega) | rfl | exact tab_get zqg | exact gm (d := 0) zqg) | exact Kn.var zqa (by first | first | exact hc_b hb (by omega) | exact schT_get bs (by omega) (by omega) | rfl | exact tab_get zqg | exact gm (d := 0) zqg))) (by decide) ?_
      refine JR.u rfl rfl rfl (Yv.conv_u8_u32 Tryz.underlying5 Tryz.underlying138 rfl) (by decide) ?_
      refine JR.u rfl rfl rfl (Yv.bin rfl rfl (BinR.shl_u32_u64 (n := 16#64))) (by decide) ?_
      refine JR.u rfl rfl rfl (Yv.bin rfl rfl (BinR.or_u32)) (by decide) ?_
      refine JR.u rfl rfl rfl (Yv.move rfl) (by decide) ?_
      refine JR.u rfl rfl rfl (Yv.move rfl) (by decide) ?_
      refine JR.u rfl rfl rfl (Yv.bin rfl rfl (BinR.mul_i zqf)) (by decide) ?_
      refine JR.u rfl rfl rfl (Yv.as (v' := it ((4 * x + 2 : Nat) : Int)) (Yv.bin rfl rfl (BinR.add_i zqf)) (congrArg it (by omega))) (by decide) ?_
      refine JR.u rfl rfl rfl (Yv.nilCheck rfl) (by decide) ?_
      refine JR.u rfl rfl rfl (Yv.fieldAddr fa_145_1 rfl) (by decide) ?_
      first | refine JR.u rfl rfl rfl (Yv.indexArr1 Tryz.underlying143 sz_5 rfl rfl zqb) (by decide) ?_ | refine JR.u rfl rfl rfl (Yv.indexArr1o Tryz.underlying143 sz_5 rfl rfl zqb) (by decide) ?_
      refine JR.v rfl rfl rfl (Yv.load1 one_5 rfl (by first | exact Kn.own zqa (by first | first | exact hc_b hb (by omega) | exact schT_get bs (by omega) (by omega) | rfl | exact tab_get zqg | exact gm (d := 0) zqg) | exact Kn.ro zqa (by first | first | exact hc_b hb (by omega) | exact schT_get bs (by omega) (by omega) | rfl | exact tab_get zqg | exact gm (d := 0) zqg) | exact Kn.row zqa (by first | first | exact hc_b hb (by omega) | exact schT_get bs (by omega) (by omega) | rfl | exact tab_get zqg | exact gm (d := 0) zqg) | exact Kn.rd zqc (by first | first | exact hc_b hb (by omega) | exact schT_get bs (by omega) (by omega) | rfl | exact tab_get zqg | exact gm (d := 0) zqg) | exact Kn.rd2 zqc (by first | first | exact hc_b hb (by omega) | exact schT_get bs (by omega) (by omega) | rfl | exact tab_get zqg | exact gm (d := 0) zqg) | exact Kn.var zqa (by first | first | exact hc_b hb (by omega) | exact schT_get bs (by omega) (by omega) | rfl | exact tab_get zqg | exact gm (d := 0) zqg))) (by decide) ?_
      refine JR.u rfl rfl rfl (Yv.conv_u8_u32 Tryz.underlying5 Tryz.underlying138 rfl) (by decide) ?_
      refine JR.u rfl rfl rfl (Yv.bin rfl rfl (BinR.shl_u32_u64 (n := 8#64))) (by decide) ?_
      refine JR.u rfl rfl rfl (Yv.bin rfl rfl (BinR.or_u32)) (by decide) ?_
      refine JR.u rfl rfl rfl (Yv.move rfl) (by decide) ?_
      refine JR.u rfl rfl rfl (Yv.move rfl) (by decide) ?_
      refine JR.u rfl rfl rfl (Yv.bin rfl rfl (BinR.mul_i zqf)) (by decide) ?_
      refine JR.u rfl rfl rfl (Yv.as (v' := it ((4 * x + 3 : Nat) : Int)) (Yv.bin rfl rfl (BinR.add_i zqf)) (congrArg it (by omega))) (by decide) ?_
      refine JR.u rfl rfl rfl (Yv.nilCheck rfl) (by decide) ?_
      refine JR.u rfl rfl rfl (Yv.fieldAddr fa_145_1 rfl) (by decide) ?_
      first | refine JR.u rfl rfl rfl (Yv.indexArr1 Tryz.underlying143 sz_5 rfl rfl zqb) (by decide) ?_ | refine JR.u rfl rfl rfl (Yv.indexArr1o Tryz.underlying143 sz_5 rfl rfl zqb) (by decide) ?_
      refine JR.v rfl rfl rfl (Yv.load1 one_5 rfl (by first | exact Kn.own zqa (by first | first | exact hc_b hb (by omega) | exact schT_get bs (by omega) (by omega) | rfl | exact tab_get zqg | exact gm (d := 0) zqg) | exact Kn.ro zqa (by first | first | exact hc_b hb (by omega) | exact schT_get bs (by omega) (by omega) | rfl | exact tab_get zqg | exact gm (d := 0) zqg) | exact Kn.row zqa (by first | first | exact hc_b hb (by omega) | exact schT_get bs (by omega) (by omega) | rfl | exact tab_get zqg | exact gm (d := 0) zqg) | exact Kn.rd zqc (by first | first | exact hc_b hb (by omega) | exact schT_get bs (by omega) (by omega) | rfl | exact tab_get zqg | exact gm (d := 0) zqg) | exact Kn.rd2 zqc (by first | first | exact hc_b hb (by omega) | exact schT_get bs (by omega) (by omega) | rfl | exact tab_get zqg | exact gm (d := 0) zqg) | exact Kn.var zqa (by first | first | exact hc_b hb (by omega) | exact schT_get bs (by omega) (by omega) | rfl | exact tab_get zqg | exact gm (d := 0) zqg))) (by decide) ?_
      refine JR.u rfl rfl rfl (Yv.conv_u8_u32 Tryz.underlying5 Tryz.underlying138 rfl) (by decide) ?_
      refine JR.u rfl rfl rfl (Yv.as (v' := u32 (W bs x)) (Yv.bin rfl rfl (BinR.or_u32)) (congrArg u32 (by rw [W_lo bs (by omega)]; rfl))) (by decide) ?_
      first | refine JR.u rfl rfl rfl (Yv.indexArr1 Tryz.underlying164 sz_138 rfl rfl zqb) (by decide) ?_ | refine JR.u rfl rfl rfl (Yv.indexArr1o Tryz.underlying164 sz_138 rfl rfl zqb) (by decide) ?_
      first | refine JR.m0 rfl rfl (Mv.store1 sz_138 rfl rfl rfl (by repeat (first | exact Upd.here _ _ _ | apply Upd.there)) zqb) ?_ | refine JR.m0 rfl rfl (Mv.storeRow1 sz_138 rfl rfl rfl (by repeat (first | exact Upd.here _ _ _ | apply Upd.there)) zqb (by first | rfl | (simp; done) | omega | (simp; omega))) ?_
      rintro _ _ _ ⟨rfl, rfl⟩
      refine ⟨⟨Subs.sub zqe, .inl rfl⟩, ?_⟩
      refine JR.nil ?_
      refine JQ.block_normal ?_
      refine JQ.then_normal ?_
      refine JC.region ?_
      refine JO.v (Yv.bin rfl rfl (BinR.add_i zqf)) (by decide) ?_
      refine JO.v (Yv.move rfl) (by decide) ?_
      refine JO.nil ?_
      rw [schT_set]
      refine JQ.head (x + 1) (by repeat (first | exact trivial | refine ⟨by first | rfl | (simp; done), ?_⟩)) (Subs.sub zqe) (Picks.perm zqd) ?_
      exact ⟨by omega, by omega⟩
    · try simp only [decide_eq_true_eq, decide_eq_false_iff_not, Bool.not_eq_true', Bool.not_eq_false', ne_eq, Decidable.not_not, Bool.not_eq_true, Bool.and_eq_true, Bool.or_eq_true, BitVec.reduceToNat] at hc2
      refine JC.draw (.one 0 (.one 1 (.one 2 (.one 3 (.one 4 (.one 5 (.one 6 (.one 7 (.one 8 (.one 9 (.one 10 (.one 11 (.one 12 (.one 13 (.one 16 (.one 17 (.one 18 (.one 19 (.one 14 (.one 15 (.one 20 (.one 21 (.one 22 (.one 23 .nil)))))))))))))))))))))))) (fun i => ([23] : List Nat).contains i) (fun i => ([14, 20, 23] : List Nat).contains i) (fun i => ([0, 1, 2, 3, 5, 6, 7, 9, 10, 11, 12, 15, 16, 17, 18, 21, 22] : List Nat).contains i) mixed (by kernel_rfl) (by decide) (by kernel_rfl) ?_
      refine JR.u rfl rfl rfl (Yv.move rfl) (by decide) ?_
      refine JR.u rfl rfl rfl (Yv.move rfl) (by decide) ?_
      refine JR.u rfl rfl rfl (Yv.as (v' := it ((x - 16 : Nat) : Int)) (Yv.bin rfl rfl (BinR.sub_i zqf)) (congrArg it (by omega))) (by decide) ?_
      first | refine JR.u rfl rfl rfl (Yv.indexArr1 Tryz.underlying164 sz_138 rfl rfl zqb) (by decide) ?_ | refine JR.u rfl rfl rfl (Yv.indexArr1o Tryz.underlying164 sz_138 rfl rfl zqb) (by decide) ?_
      refine JR.v rfl rfl rfl (Yv.load1 one_138 rfl (by first | exact Kn.own zqa (by first | first | exact hc_b hb (by omega) | exact schT_get bs (by omega) (by omega) | rfl | exact tab_get zqg | exact gm (d := 0) zqg) | exact Kn.ro zqa (by first | first | exact hc_b hb (by omega) | exact schT_get bs (by omega) (by omega) | rfl | exact tab_get zqg | exact gm (d := 0) zqg) | exact Kn.row zqa (by first | first | exact hc_b hb (by omega) | exact schT_get bs (by omega) (by omega) | rfl | exact tab_get zqg | exact gm (d := 0) zqg) | exact Kn.rd zqc (by first | first | exact hc_b hb (by omega) | exact schT_get bs (by omega) (by omega) | rfl | exact tab_get zqg | exact gm (d := 0) zqg) | exact Kn.rd2 zqc (by first | first | exact hc_b hb (by omega) | exact schT_get bs (by omega) (by omega) | rfl | exact tab_get zqg | exact gm (d := 0) zqg) | exact Kn.var zqa (by first | first | exact hc_b hb (by omega) | exact schT_get bs (by omega) (by omega) | rfl | exact tab_get zqg | exact gm (d := 0) zqg))) (by decide) ?_
      refine JR.u rfl rfl rfl (Yv.move rfl) (by decide) ?_
      refine JR.u rfl rfl rfl (Yv.as (v' := it ((x - 7 : Nat) : Int)) (Yv.bin rfl rfl (BinR.sub_i zqf)) (congrArg it (by omega))) (by decide) ?_
      first | refine JR.u rfl rfl rfl (Yv.indexArr1 Tryz.underlying164 sz_138 rfl rfl zqb) (by decide) ?_ | refine JR.u rfl rfl rfl (Yv.indexArr1o Tryz.underlying164 sz_138 rfl rfl zqb) (by decide) ?_
      refine JR.v rfl rfl rfl (Yv.load1 one_138 rfl (by first | exact Kn.own zqa (by first | first | exact hc_b hb (by omega) | exact schT_get bs (by omega) (by omega) | rfl | exact tab_get zqg | exact gm (d := 0) zqg) | exact Kn.ro zqa (by first | first | exact hc_b hb (by omega) | exact schT_get bs (by omega) (by omega) | rfl | exact tab_get zqg | exact gm (d := 0) zqg) | exact Kn.row zqa (by first | first | exact hc_b hb (by omega) | exact schT_get bs (by omega) (by omega) | rfl | exact tab_get zqg | exact gm (d := 0) zqg) | exact Kn.rd zqc (by first | first | exact hc_b hb (by omega) | exact schT_get bs (by omega) (by omega) | rfl | exact tab_get zqg | exact gm (d := 0) zqg) | exact Kn.rd2 zqc (by first | first | exact hc_b hb (by omega) | exact schT_get bs (by omega) (by omega) | rfl | exact tab_get zqg | exact gm (d := 0) zqg) | exact Kn.var zqa (by first | first | exact hc_b hb (by omega) | exact schT_get bs (by omega) (by omega) | rfl | exact tab_get zqg | exact gm (d := 0) zqg))) (by decide) ?_
      refine JR.u rfl rfl rfl (Yv.bin rfl rfl (BinR.add_u32)) (by decide) ?_
      refine JR.u rfl rfl rfl (Yv.move rfl) (by decide) ?_
      refine JR.u rfl rfl rfl (Yv.as (v' := it ((x - 15 : Nat) : Int)) (Yv.bin rfl rfl (BinR.sub_i zqf)) (congrArg it (by omega))) (by decide) ?_
      first | refine JR.u rfl rfl rfl (Yv.indexArr1 Tryz.underlying164 sz_138 rfl rfl zqb) (by decide) ?_ | refine JR.u rfl rfl rfl (Yv.indexArr1o Tryz.underlying164 sz_138 rfl rfl zqb) (by decide) ?_
      refine JR.v rfl rfl rfl (Yv.load1 one_138 rfl (by first | exact Kn.own zqa (by first | first | exact hc_b hb (by omega) | exact schT_get bs (by omega) (by omega) | rfl | exact tab_get zqg | exact gm (d := 0) zqg) | exact Kn.ro zqa (by first | first | exact hc_b hb (by omega) | exact schT_get bs (by omega) (by omega) | rfl | exact tab_get zqg | exact gm (d := 0) zqg) | exact Kn.row zqa (by first | first | exact hc_b hb (by omega) | exact schT_get bs (by omega) (by omega) | rfl | exact tab_get zqg | exact gm (d := 0) zqg) | exact Kn.rd zqc (by first | first | exact hc_b hb (by omega) | exact schT_get bs (by omega) (by omega) | rfl | exact tab_get zqg | exact gm (d := 0) zqg) | exact Kn.rd2 zqc (by first | first | exact hc_b hb (by omega) | exact schT_get bs (by omega) (by omega) | rfl | exact tab_get zqg | exact gm (d := 0) zqg) | exact Kn.var zqa (by first | first | exact hc_b hb (by omega) | exact schT_get bs (by omega) (by omega) | rfl | exact tab_get zqg | exact gm (d := 0) zqg))) (by decide) ?_
      refine JR.u rfl rfl rfl (Yv.move rfl) (by decide) ?_
      refine JR.u rfl rfl rfl (Yv.as (v' := it ((x - 2 : Nat) : Int)) (Yv.bin rfl rfl (BinR.sub_i zqf)) (congrArg it (by omega))) (by decide) ?_
      first | refine JR.u rfl rfl rfl (Yv.indexArr1 Tryz.underlying164 sz_138 rfl rfl zqb) (by decide) ?_ | refine JR.u rfl rfl rfl (Yv.indexArr1o Tryz.underlying164 sz_138 rfl rfl zqb) (by decide) ?_
      refine JR.v rfl rfl rfl (Yv.load1 one_138 rfl (by first | exact Kn.own zqa (by first | first | exact hc_b hb (by omega) | exact schT_get bs (by omega) (by omega) | rfl | exact tab_get zqg | exact gm (d := 0) zqg) | exact Kn.ro zqa (by first | first | exact hc_b hb (by omega) | exact schT_get bs (by omega) (by omega) | rfl | exact tab_get zqg | exact gm (d := 0) zqg) | exact Kn.row zqa (by first | first | exact hc_b hb (by omega) | exact schT_get bs (by omega) (by omega) | rfl | exact tab_get zqg | exact gm (d := 0) zqg) | exact Kn.rd zqc (by first | first | exact hc_b hb (by omega) | exact schT_get bs (by omega) (by omega) | rfl | exact tab_get zqg | exact gm (d := 0) zqg) | exact Kn.rd2 zqc (by first | first | exact hc_b hb (by omega) | exact schT_get bs (by omega) (by omega) | rfl | exact tab_get zqg | exact gm (d := 0) zqg) | exact Kn.var zqa (by first | first | exact hc_b hb (by omega) | exact schT_get bs (by omega) (by omega) | rfl | exact tab_get zqg | exact gm (d := 0) zqg))) (by decide) ?_
      refine JR.m rfl rfl (Mv.callB body_109 rfl (f109_spec (W bs (x - 15)) 7 18 3 (by decide) (by decide) (by decide)) zqd (by repeat (first | exact Lends.nil _ | apply Lends.cons | exact Lend.same _ _ | exact Lend.row _ _ _ _ _ _ (by decide) | apply Lend.there)) (by rintro _ _ _ ⟨_, h, _⟩; exact h)) (by decide) ?_
      rintro _ _ _ ⟨_, ⟨rfl, _, rfl⟩, hΓ, hH⟩
      simp only [List.cons_append, List.nil_append] at hH; subst hΓ hH
      refine ⟨⟨Subs.sub zqe, .inr (St.keep zqe zqd)⟩, ?_⟩
      refine JR.u rfl rfl rfl (Yv.bin rfl rfl (BinR.add_u32)) (by decide) ?_
      refine JR.m rfl rfl (Mv.callB body_109 rfl (f109_spec (W bs (x - 2)) 17 19 10 (by decide) (by decide) (by decide)) zqd (by repeat (first | exact Lends.nil _ | apply Lends.cons | exact Lend.same _ _ | exact Lend.row _ _ _ _ _ _ (by decide) | apply Lend.there)) (by rintro _ _ _ ⟨_, h, _⟩; exact h)) (by decide) ?_
      rintro _ _ _ ⟨_, ⟨rfl, _, rfl⟩, hΓ, hH⟩
      simp only [List.cons_append, List.nil_append] at hH; subst hΓ hH
      refine ⟨⟨Subs.sub zqe, .inr (St.keep zqe zqd)⟩, ?_⟩
      refine JR.u rfl rfl rfl (Yv.as (v' := u32 (W bs x)) (Yv.bin rfl rfl (BinR.add_u32)) (congrArg u32 (W_hi (j := x) bs (by omega)).symm)) (by decide) ?_
      first | refine JR.u rfl rfl rfl (Yv.indexArr1 Tryz.underlying164 sz_138 rfl rfl zqb) (by decide) ?_ | refine JR.u rfl rfl rfl (Yv.indexArr1o Tryz.underlying164 sz_138 rfl rfl zqb) (by decide) ?_
      first | refine JR.m0 rfl rfl (Mv.store1 sz_138 rfl rfl rfl (by repeat (first | exact Upd.here _ _ _ | apply Upd.there)) zqb) ?_ | refine JR.m0 rfl rfl (Mv.storeRow1 sz_138 rfl rfl rfl (by repeat (first | exact Upd.here _ _ _ | apply Upd.there)) zqb (by first | rfl | (simp; done) | omega | (simp; omega))) ?_
      rintro _ _ _ ⟨rfl, rfl⟩
      refine ⟨⟨Subs.sub zqe, .inl rfl⟩, ?_⟩
      refine JR.nil ?_
      refine JQ.block_normal ?_
      refine JQ.then_normal ?_
      refine JC.region ?_
      refine JO.v (Yv.bin rfl rfl (BinR.add_i zqf)) (by decide) ?_
      refine JO.v (Yv.move rfl) (by decide) ?_
      refine JO.nil ?_
      rw [schT_set]
      refine JQ.head (x + 1) (by repeat (first | exact trivial | refine ⟨by first | rfl | (simp; done), ?_⟩)) (Subs.sub zqe) (Picks.perm zqd) ?_
      exact ⟨by omega, by omega⟩
  · try simp only [decide_eq_true_eq, decide_eq_false_iff_not, Bool.not_eq_true', Bool.not_eq_false', ne_eq, Decidable.not_not, Bool.not_eq_true, Bool.and_eq_true, Bool.or_eq_true, BitVec.reduceToNat] at hc1
    obtain rfl : x = 64 := by omega
    refine JC.exit ?_
    refine JQ.then_exit ?_
    refine JQ.then_exit ?_
    refine JQ.block_exit ?_
    refine JQ.then_normal ?_
    refine JC.seq ?_
    refine JC.region ?_
    refine JO.v (Yv.move rfl) (by decide) ?_
    refine JO.callB (f87_spec p s bs n hs hb) body_87 rfl zqd (by repeat (first | exact Lends.nil _ | apply Lends.cons | exact Lend.same _ _ | exact Lend.row _ _ _ _ _ _ (by decide) | apply Lend.there)) (by rintro _ _ _ ⟨_, h, _⟩; exact h) (by decide) ?_
    rintro _ _ ⟨_, ⟨rfl, _, rfl⟩, hH⟩
    simp only [List.cons_append, List.nil_append] at hH; subst hH
    refine JO.alloc _ zero_139 rfl (by decide) fun b4 => ?_
    first | refine JO.storeAll sz_139 rfl rfl rfl (by first | rfl | (simp; done) | (simp; omega)) (by first | (simp; done) | exact one_map (fun _ => rfl) | exact one_tab (fun _ => rfl) | exact one_tab (fun _ => by split <;> rfl)) (by repeat (first | exact Upd.here _ _ _ | apply Upd.there)) (by first | rfl | (simp; done) | (simp; omega)) ?_ | refine JO.store sz_139 rfl rfl rfl (by first | rfl | (simp; done) | (simp; omega)) (by first | (simp; done) | exact one_sing rfl | exact one_map (fun _ => rfl) | exact one_piece (one_map (fun _ => rfl)) | exact one_tab (fun _ => rfl) | exact one_tab (fun _ => by split <;> rfl)) (by repeat (first | exact Upd.here _ _ _ | apply Upd.there)) zqb ?_ | refine JO.storeRow sz_139 rfl rfl rfl (by first | rfl | simp) (by first | (simp; done) | exact one_map (fun _ => rfl) | exact one_tab (fun _ => rfl) | exact one_tab (fun _ => by split <;> rfl)) (by repeat (first | exact Upd.here _ _ _ | apply Upd.there)) zqb zqb ?_
    refine JO.nil ?_
    refine JQ.then_normal ?_
    refine JC.seq ?_
    refine JC.draw (.one 0 (.one 1 (.one 2 (.one 3 (.one 4 (.one 5 (.one 6 (.one 7 (.one 8 (.one 9 (.one 10 (.one 11 (.one 12 (.one 13 (.one 14 (.one 15 (.one 16 (.one 17 (.one 18 (.one 19 (.one 20 (.one 21 (.one 22 (.one 23 .nil)))))))))))))))))))))))) (fun i => ([] : List Nat).contains i) (fun i => ([] : List Nat).contains i) (fun i => ([0, 2, 4, 6, 8, 10, 12, 14, 16, 17, 18, 19, 20, 21, 22, 23] : List Nat).contains i) mixed (by kernel_rfl) (by decide) (by kernel_rfl) ?_
    first | refine JR.u rfl rfl rfl (Yv.indexArr1 (j := 0) Tryz.underlying139 sz_138 rfl rfl zqb) (by decide) ?_ | refine JR.u rfl rfl rfl (Yv.indexArr1o (j := 0) Tryz.underlying139 sz_138 rfl rfl zqb) (by decide) ?_
    refine JR.v rfl rfl rfl (Yv.load1 one_138 rfl (by first | exact Kn.own zqa (by first | first | exact hc_b hb (by omega) | exact schT_get bs (by omega) (by omega) | rfl | exact tab_get zqg | exact gm (d := 0) zqg) | exact Kn.ro zqa (by first | first | exact hc_b hb (by omega) | exact schT_get bs (by omega) (by omega) | rfl | exact tab_get zqg | exact gm (d := 0) zqg) | exact Kn.row zqa (by first | first | exact hc_b hb (by omega) | exact schT_get bs (by omega) (by omega) | rfl | exact tab_get zqg | exact gm (d := 0) zqg) | exact Kn.rd zqc (by first | first | exact hc_b hb (by omega) | exact schT_get bs (by omega) (by omega) | rfl | exact tab_get zqg | exact gm (d := 0) zqg) | exact Kn.rd2 zqc (by first | first | exact hc_b hb (by omega) | exact schT_get bs (by omega) (by omega) | rfl | exact tab_get zqg | exact gm (d := 0) zqg) | exact Kn.var zqa (by first | first | exact hc_b hb (by omega) | exact schT_get bs (by omega) (by omega) | rfl | exact tab_get zqg | exact gm (d := 0) zqg))) (by decide) ?_
    first | refine JR.u rfl rfl rfl (Yv.indexArr1 (j := 1) Tryz.underlying139 sz_138 rfl rfl zqb) (by decide) ?_ | refine JR.u rfl rfl rfl (Yv.indexArr1o (j := 1) Tryz.underlying139 sz_138 rfl rfl zqb) (by decide) ?_
    refine JR.v rfl rfl rfl (Yv.load1 one_138 rfl (by first | exact Kn.own zqa (by first | first | exact hc_b hb (by omega) | exact schT_get bs (by omega) (by omega) | rfl | exact tab_get zqg | exact gm (d := 0) zqg) | exact Kn.ro zqa (by first | first | exact hc_b hb (by omega) | exact schT_get bs (by omega) (by omega) | rfl | exact tab_get zqg | exact gm (d := 0) zqg) | exact Kn.row zqa (by first | first | exact hc_b hb (by omega) | exact schT_get bs (by omega) (by omega) | rfl | exact tab_get zqg | exact gm (d := 0) zqg) | exact Kn.rd zqc (by first | first | exact hc_b hb (by omega) | exact schT_get bs (by omega) (by omega) | rfl | exact tab_get zqg | exact gm (d := 0) zqg) | exact Kn.rd2 zqc (by first | first | exact hc_b hb (by omega) | exact schT_get bs (by omega) (by omega) | rfl | exact tab_get zqg | exact gm (d := 0) zqg) | exact Kn.var zqa (by first | first | exact hc_b hb (by omega) | exact schT_get bs (by omega) (by omega) | rfl | exact tab_get zqg | exact gm (d := 0) zqg))) (by decide) ?_
    first | refine JR.u rfl rfl rfl (Yv.indexArr1 (j := 2) Tryz.underlying139 sz_138 rfl rfl zqb) (by decide) ?_ | refine JR.u rfl rfl rfl (Yv.indexArr1o (j := 2) Tryz.underlying139 sz_138 rfl rfl zqb) (by decide) ?_
    refine JR.v rfl rfl rfl (Yv.load1 one_138 rfl (by first | exact Kn.own zqa (by first | first | exact hc_b hb (by omega) | exact schT_get bs (by omega) (by omega) | rfl | exact tab_get zqg | exact gm (d := 0) zqg) | exact Kn.ro zqa (by first | first | exact hc_b hb (by omega) | exact schT_get bs (by omega) (by omega) | rfl | exact tab_get zqg | exact gm (d := 0) zqg) | exact Kn.row zqa (by first | first | exact hc_b hb (by omega) | exact schT_get bs (by omega) (by omega) | rfl | exact tab_get zqg | exact gm (d := 0) zqg) | exact Kn.rd zqc (by first | first | exact hc_b hb (by omega) | exact schT_get bs (by omega) (by omega) | rfl | exact tab_get zqg | exact gm (d := 0) zqg) | exact Kn.rd2 zqc (by first | first | exact hc_b hb (by omega) | exact schT_get bs (by omega) (by omega) | rfl | exact tab_get zqg | exact gm (d := 0) zqg) | exact Kn.var zqa (by first | first | exact hc_b hb (by omega) | exact schT_get bs (by omega) (by omega) | rfl | exact tab_get zqg | exact gm (d := 0) zqg))) (by decide) ?_
    first | refine JR.u rfl rfl rfl (Yv.indexArr1 (j := 3) Tryz.underlying139 sz_138 rfl rfl zqb) (by decide) ?_ | refine JR.u rfl rfl rfl (Yv.indexArr1o (j := 3) Tryz.underlying139 sz_138 rfl rfl zqb) (by decide) ?_
    refine JR.v rfl rfl rfl (Yv.load1 one_138 rfl (by first | exact Kn.own zqa (by first | first | exact hc_b hb (by omega) | exact schT_get bs (by omega) (by omega) | rfl | exact tab_get zqg | exact gm (d := 0) zqg) | exact Kn.ro zqa (by first | first | exact hc_b hb (by omega) | exact schT_get bs (by omega) (by omega) | rfl | exact tab_get zqg | exact gm (d := 0) zqg) | exact Kn.row zqa (by first | first | exact hc_b hb (by omega) | exact schT_get bs (by omega) (by omega) | rfl | exact tab_get zqg | exact gm (d := 0) zqg) | exact Kn.rd zqc (by first | first | exact hc_b hb (by omega) | exact schT_get bs (by omega) (by omega) | rfl | exact tab_get zqg | exact gm (d := 0) zqg) | exact Kn.rd2 zqc (by first | first | exact hc_b hb (by omega) | exact schT_get bs (by omega) (by omega) | rfl | exact tab_get zqg | exact gm (d := 0) zqg) | exact Kn.var zqa (by first | first | exact hc_b hb (by omega) | exact schT_get bs (by omega) (by omega) | rfl | exact tab_get zqg | exact gm (d := 0) zqg))) (by decide) ?_
    first | refine JR.u rfl rfl rfl (Yv.indexArr1 (j := 4) Tryz.underlying139 sz_138 rfl rfl zqb) (by decide) ?_ | refine JR.u rfl rfl rfl (Yv.indexArr1o (j := 4) Tryz.underlying139 sz_138 rfl rfl zqb) (by decide) ?_
    refine JR.v rfl rfl rfl (Yv.load1 one_138 rfl (by first | exact Kn.own zqa (by first | first | exact hc_b hb (by omega) | exact schT_get bs (by omega) (by omega) | rfl | exact tab_get zqg | exact gm (d := 0) zqg) | exact Kn.ro zqa (by first | first | exact hc_b hb (by omega) | exact schT_get bs (by omega) (by omega) | rfl | exact tab_get zqg | exact gm (d := 0) zqg) | exact Kn.row zqa (by first | first | exact hc_b hb (by omega) | exact schT_get bs (by omega) (by omega) | rfl | exact tab_get zqg | exact gm (d := 0) zqg) | exact Kn.rd zqc (by first | first | exact hc_b hb (by omega) | exact schT_get bs (by omega) (by omega) | rfl | exact tab_get zqg | exact gm (d := 0) zqg) | exact Kn.rd2 zqc (by first | first | exact hc_b hb (by omega) | exact schT_get bs (by omega) (by omega) | rfl | exact tab_get zqg | exact gm (d := 0) zqg) | exact Kn.var zqa (by first | first | exact hc_b hb (by omega) | exact schT_get bs (by omega) (by omega) | rfl | exact tab_get zqg | exact gm (d := 0) zqg))) (by decide) ?_
    first | refine JR.u rfl rfl rfl (Yv.indexArr1 (j := 5) Tryz.underlying139 sz_138 rfl rfl zqb) (by decide) ?_ | refine JR.u rfl rfl rfl (Yv.indexArr1o (j := 5) Tryz.underlying139 sz_138 rfl rfl zqb) (by decide) ?_
    refine JR.v rfl rfl rfl (Yv.load1 one_138 rfl (by first | exact Kn.own zqa (by first | first | exact hc_b hb (by omega) | exact schT_get bs (by omega) (by omega) | rfl | exact tab_get zqg | exact gm (d := 0) zqg) | exact Kn.ro zqa (by first | first | exact hc_b hb (by omega) | exact schT_get bs (by omega) (by omega) | rfl | exact tab_get zqg | exact gm (d := 0) zqg) | exact Kn.row zqa (by first | first | exact hc_b hb (by omega) | exact schT_get bs (by omega) (by omega) | rfl | exact tab_get zqg | exact gm (d := 0) zqg) | exact Kn.rd zqc (by first | first | exact hc_b hb (by omega) | exact schT_get bs (by omega) (by omega) | rfl | exact tab_get zqg | exact gm (d := 0) zqg) | exact Kn.rd2 zqc (by first | first | exact hc_b hb (by omega) | exact schT_get bs (by omega) (by omega) | rfl | exact tab_get zqg | exact gm (d := 0) zqg) | exact Kn.var zqa (by first | first | exact hc_b hb (by omega) | exact schT_get bs (by omega) (by omega) | rfl | exact tab_get zqg | exact gm (d := 0) zqg))) (by decide) ?_
    first | refine JR.u rfl rfl rfl (Yv.indexArr1 (j := 6) Tryz.underlying139 sz_138 rfl rfl zqb) (by decide) ?_ | refine JR.u rfl rfl rfl (Yv.indexArr1o (j := 6) Tryz.underlying139 sz_138 rfl rfl zqb) (by decide) ?_
    refine JR.v rfl rfl rfl (Yv.load1 one_138 rfl (by first | exact Kn.own zqa (by first | first | exact hc_b hb (by omega) | exact schT_get bs (by omega) (by omega) | rfl | exact tab_get zqg | exact gm (d := 0) zqg) | exact Kn.ro zqa (by first | first | exact hc_b hb (by omega) | exact schT_get bs (by omega) (by omega) | rfl | exact tab_get zqg | exact gm (d := 0) zqg) | exact Kn.row zqa (by first | first | exact hc_b hb (by omega) | exact schT_get bs (by omega) (by omega) | rfl | exact tab_get zqg | exact gm (d := 0) zqg) | exact Kn.rd zqc (by first | first | exact hc_b hb (by omega) | exact schT_get bs (by omega) (by omega) | rfl | exact tab_get zqg | exact gm (d := 0) zqg) | exact Kn.rd2 zqc (by first | first | exact hc_b hb (by omega) | exact schT_get bs (by omega) (by omega) | rfl | exact tab_get zqg | exact gm (d := 0) zqg) | exact Kn.var zqa (by first | first | exact hc_b hb (by omega) | exact schT_get bs (by omega) (by omega) | rfl | exact tab_get zqg | exact gm (d := 0) zqg))) (by decide) ?_
    first | refine JR.u rfl rfl rfl (Yv.indexArr1 (j := 7) Tryz.underlying139 sz_138 rfl rfl zqb) (by decide) ?_ | refine JR.u rfl rfl rfl (Yv.indexArr1o (j := 7) Tryz.underlying139 sz_138 rfl rfl zqb) (by decide) ?_
    refine JR.v rfl rfl rfl (Yv.load1 one_138 rfl (by first | exact Kn.own zqa (by first | first | exact hc_b hb (by omega) | exact schT_get bs (by omega) (by omega) | rfl | exact tab_get zqg | exact gm (d := 0) zqg) | exact Kn.ro zqa (by first | first | exact hc_b hb (by omega) | exact schT_get bs (by omega) (by omega) | rfl | exact tab_get zqg | exact gm (d := 0) zqg) | exact Kn.row zqa (by first | first | exact hc_b hb (by omega) | exact schT_get bs (by omega) (by omega) | rfl | exact tab_get zqg | exact gm (d := 0) zqg) | exact Kn.rd zqc (by first | first | exact hc_b hb (by omega) | exact schT_get bs (by omega) (by omega) | rfl | exact tab_get zqg | exact gm (d := 0) zqg) | exact Kn.rd2 zqc (by first | first | exact hc_b hb (by omega) | exact schT_get bs (by omega) (by omega) | rfl | exact tab_get zqg | exact gm (d := 0) zqg) | exact Kn.var zqa (by first | first | exact hc_b hb (by omega) | exact schT_get bs (by omega) (by omega) | rfl | exact tab_get zqg | exact gm (d := 0) zqg))) (by decide) ?_
    refine JR.u rfl rfl rfl (Yv.assign rfl) (by decide) ?_
    refine JR.u rfl rfl rfl (Yv.assign rfl) (by decide) ?_
    refine JR.u rfl rfl rfl (Yv.assign rfl) (by decide) ?_
    refine JR.u rfl rfl rfl (Yv.assign rfl) (by decide) ?_
    refine JR.u rfl rfl rfl (Yv.assign rfl) (by decide) ?_
    refine JR.u rfl rfl rfl (Yv.assign rfl) (by decide) ?_
    refine JR.u rfl rfl rfl (Yv.assign rfl) (by decide) ?_
    refine JR.u rfl rfl rfl (Yv.assign rfl) (by decide) ?_
    refine JR.nil ?_
    refine JQ.then_normal ?_
    refine JC.seq ?_
    refine JC.seq ?_
    refine JC.region ?_
    refine JO.v (Yv.move rfl) (by decide) ?_
    refine JO.nil ?_
    refine JQ.then_normal ?_
    refine JC.block ?_
    refine JC.loop (ι := Nat) (fun x => x ≤ 64) (fun x => [(0, ptr p 0), (2, ptr b2 0), (4, ptr b4 0), (108, it (x : Int)), (5, u32 ((rnds (sch bs 64) s x).getD 0 0)), (6, u32 ((rnds (sch bs 64) s x).getD 1 0)), (7, u32 ((rnds (sch bs 64) s x).getD 2 0)), (8, u32 ((rnds (sch bs 64) s x).getD 3 0)), (9, u32 ((rnds (sch bs 64) s x).getD 4 0)), (10, u32 ((rnds (sch bs 64) s x).getD 5 0)), (11, u32 ((rnds (sch bs 64) s x).getD 6 0)), (12, u32 ((rnds (sch bs 64) s x).getD 7 0))]) (fun x => [Res.var 3 (sqr.map u32), Res.var 2 (cub.map u32)]) (fun x => [Res.cells p (hcells s bs n) 145, Res.cells b2 (schT bs 64) 164, Res.cells b4 (s.map u32) 139]) (fun x => 64 - x) 0 (by repeat (first | exact trivial | refine ⟨by first | rfl | (simp; done), ?_⟩)) (Subs.sub zqe) (Picks.perm zqd) ?_ (fun x hx => ?_)
    · exact Nat.zero_le _
    refine JC.seq ?_
    refine JC.region ?_
    refine JO.v (Yv.bin rfl rfl BinR.lss_i) (by decide) ?_
    refine JO.nil ?_
    refine JQ.then_normal ?_
    refine JC.seq ?_
    refine JC.cond rfl (fun hc3 => ?_) (fun hc3 => ?_)
    · try simp only [decide_eq_true_eq, decide_eq_false_iff_not, Bool.not_eq_true', Bool.not_eq_false', ne_eq, Decidable.not_not, Bool.not_eq_true, Bool.and_eq_true, Bool.or_eq_true, BitVec.reduceToNat] at hc3
      refine JC.skip ?_
      refine JQ.then_normal ?_
      refine JC.seq ?_
      refine JC.block ?_
      refine JC.seq ?_
      refine JC.region ?_
      refine JO.v (Yv.move rfl) (by decide) ?_
      refine JO.v (Yv.assign rfl) (by decide) ?_
      refine JO.nil ?_
      refine JQ.then_normal ?_
      refine JC.seq ?_
      refine JC.draw (.one 0 (.one 1 (.one 4 (.one 5 (.one 6 (.one 7 (.one 8 (.one 9 (.one 10 (.one 12 (.one 13 (.one 14 (.one 16 (.one 17 (.one 18 (.one 2 (.one 3 (.one 11 (.one 15 (.one 19 (.one 20 .nil))))))))))))))))))))) (fun i => ([] : List Nat).contains i) (fun i => ([2] : List Nat).contains i) (fun i => ([0, 1, 3, 4, 5, 6, 7, 8, 9, 10, 11, 12, 13, 14, 15, 16, 17, 19, 20] : List Nat).contains i) mixed (by kernel_rfl) (by decide) (by kernel_rfl) ?_
      refine JR.u rfl rfl rfl (Yv.move rfl) (by decide) ?_
      refine JR.u rfl rfl rfl (Yv.move rfl) (by decide) ?_
      refine JR.u rfl rfl rfl (Yv.move rfl) (by decide) ?_
      refine JR.u rfl rfl rfl (Yv.move rfl) (by decide) ?_
      refine JR.u rfl rfl rfl (Yv.move rfl) (by decide) ?_
      refine JR.u rfl rfl rfl (Yv.move rfl) (by decide) ?_
      refine JR.u rfl rfl rfl (Yv.bin rfl rfl (BinR.xor_u32)) (by decide) ?_
      refine JR.u rfl rfl rfl (Yv.bin rfl rfl (BinR.and_u32)) (by decide) ?_
      refine JR.u rfl rfl rfl (Yv.bin rfl rfl (BinR.xor_u32)) (by decide) ?_
      refine JR.u rfl rfl rfl (Yv.move rfl) (by decide) ?_
      first | refine JR.u rfl rfl rfl (Yv.indexArr1 Tryz.underlying164 sz_138 rfl rfl zqb) (by decide) ?_ | refine JR.u rfl rfl rfl (Yv.indexArr1o Tryz.underlying164 sz_138 rfl rfl zqb) (by decide) ?_
      refine JR.u rfl rfl rfl (Yv.load1 one_138 rfl (by first | exact Kn.own zqa (by first | first | exact hc_b hb (by omega) | exact schT_get bs (by omega) (by omega) | rfl | exact tab_get zqg | exact gm (d := 0) zqg) | exact Kn.ro zqa (by first | first | exact hc_b hb (by omega) | exact schT_get bs (by omega) (by omega) | rfl | exact tab_get zqg | exact gm (d := 0) zqg) | exact Kn.row zqa (by first | first | exact hc_b hb (by omega) | exact schT_get bs (by omega) (by omega) | rfl | exact tab_get zqg | exact gm (d := 0) zqg) | exact Kn.rd zqc (by first | first | exact hc_b hb (by omega) | exact schT_get bs (by omega) (by omega) | rfl | exact tab_get zqg | exact gm (d := 0) zqg) | exact Kn.rd2 zqc (by first | first | exact hc_b hb (by omega) | exact schT_get bs (by omega) (by omega) | rfl | exact tab_get zqg | exact gm (d := 0) zqg) | exact Kn.var zqa (by first | first | exact hc_b hb (by omega) | exact schT_get bs (by omega) (by omega) | rfl | exact tab_get zqg | exact gm (d := 0) zqg))) (by decide) ?_
      refine JR.u rfl rfl rfl (Yv.move rfl) (by decide) ?_
      first | refine JR.u rfl rfl rfl (Yv.indexArr1 Tryz.underlying164 sz_138 rfl rfl zqb) (by decide) ?_ | refine JR.u rfl rfl rfl (Yv.indexArr1o Tryz.underlying164 sz_138 rfl rfl zqb) (by decide) ?_
      refine JR.v rfl rfl rfl (Yv.as (v' := u32 ((sch bs 64).getD x 0)) (Yv.load1 one_138 rfl (by first | exact Kn.own zqa (by first | first | exact hc_b hb (by omega) | exact schT_get bs (by omega) (by omega) | rfl | exact tab_get zqg | exact gm (d := 0) zqg) | exact Kn.ro zqa (by first | first | exact hc_b hb (by omega) | exact schT_get bs (by omega) (by omega) | rfl | exact tab_get zqg | exact gm (d := 0) zqg) | exact Kn.row zqa (by first | first | exact hc_b hb (by omega) | exact schT_get bs (by omega) (by omega) | rfl | exact tab_get zqg | exact gm (d := 0) zqg) | exact Kn.rd zqc (by first | first | exact hc_b hb (by omega) | exact schT_get bs (by omega) (by omega) | rfl | exact tab_get zqg | exact gm (d := 0) zqg) | exact Kn.rd2 zqc (by first | first | exact hc_b hb (by omega) | exact schT_get bs (by omega) (by omega) | rfl | exact tab_get zqg | exact gm (d := 0) zqg) | exact Kn.var zqa (by first | first | exact hc_b hb (by omega) | exact schT_get bs (by omega) (by omega) | rfl | exact tab_get zqg | exact gm (d := 0) zqg))) (congrArg u32 (sch_W bs (by omega)).symm)) (by decide) ?_
      refine JR.m rfl rfl (Mv.callB body_110 rfl (f110_spec ((rnds (sch bs 64) s x).getD 4 0) 6 11 25 (by decide) (by decide) (by decide)) zqd (by repeat (first | exact Lends.nil _ | apply Lends.cons | exact Lend.same _ _ | exact Lend.row _ _ _ _ _ _ (by decide) | apply Lend.there)) (by rintro _ _ _ ⟨_, h, _⟩; exact h)) (by decide) ?_
      rintro _ _ _ ⟨_, ⟨rfl, _, rfl⟩, hΓ, hH⟩
      simp only [List.cons_append, List.nil_append] at hH; subst hΓ hH
      refine ⟨⟨Subs.sub zqe, .inr (St.keep zqe zqd)⟩, ?_⟩
      refine JR.u rfl rfl rfl (Yv.bin rfl rfl (BinR.add_u32)) (by decide) ?_
      refine JR.u rfl rfl rfl (Yv.bin rfl rfl (BinR.add_u32)) (by decide) ?_
      refine JR.u rfl rfl rfl (Yv.bin rfl rfl (BinR.add_u32)) (by decide) ?_
      refine JR.u rfl rfl rfl (Yv.as (v' := u32 (rx (sch bs 64) (rnds (sch bs 64) s x) x)) (Yv.bin rfl rfl (BinR.add_u32)) rfl) (by decide) ?_
      refine JR.u rfl rfl rfl (Yv.assign rfl) (by decide) ?_
      refine JR.nil ?_
      refine JQ.then_normal ?_
      refine JC.seq ?_
      refine JC.region ?_
      refine JO.v (Yv.move rfl) (by decide) ?_
      refine JO.callB (f110_spec ((rnds (sch bs 64) s x).getD 0 0) 2 13 22 (by decide) (by decide) (by decide)) body_110 rfl zqd (by repeat (first | exact Lends.nil _ | apply Lends.cons | exact Lend.same _ _ | exact Lend.row _ _ _ _ _ _ (by decide) | apply Lend.there)) (by rintro _ _ _ ⟨_, h, _⟩; exact h) (by decide) ?_
      rintro _ _ ⟨_, ⟨rfl, _, rfl⟩, hH⟩
      simp only [List.cons_append, List.nil_append] at hH; subst hH
      refine JO.v (Yv.move rfl) (by decide) ?_
      refine JO.v (Yv.move rfl) (by decide) ?_
      refine JO.v (Yv.bin rfl rfl (BinR.and_u32)) (by decide) ?_
      refine JO.v (Yv.move rfl) (by decide) ?_
      refine JO.v (Yv.move rfl) (by decide) ?_
      refine JO.v (Yv.move rfl) (by decide) ?_
      refine JO.v (Yv.bin rfl rfl (BinR.or_u32)) (by decide) ?_
      refine JO.v (Yv.bin rfl rfl (BinR.and_u32)) (by decide) ?_
      refine JO.v (Yv.bin rfl rfl (BinR.or_u32)) (by decide) ?_
      refine JO.v (Yv.as (v' := u32 (ry (rnds (sch bs 64) s x))) (Yv.bin rfl rfl (BinR.add_u32)) rfl) (by decide) ?_
      refine JO.v (Yv.assign rfl) (by decide) ?_
      refine JO.nil ?_
      refine JQ.then_normal ?_
      refine JC.region ?_
      refine JO.v (Yv.move rfl) (by decide) ?_
      refine JO.v (Yv.move rfl) (by decide) ?_
      refine JO.v (Yv.as (v' := u32 ((rnds (sch bs 64) s (x + 1)).getD 0 0)) (Yv.bin rfl rfl (BinR.add_u32)) (congrArg u32 (rs0 (sch bs 64) s x).symm)) (by decide) ?_
      refine JO.v (Yv.as (v' := u32 ((rnds (sch bs 64) s (x + 1)).getD 1 0)) (Yv.move rfl) (congrArg u32 (rs1 (sch bs 64) s x).symm)) (by decide) ?_
      refine JO.v (Yv.as (v' := u32 ((rnds (sch bs 64) s (x + 1)).getD 2 0)) (Yv.move rfl) (congrArg u32 (rs2 (sch bs 64) s x).symm)) (by decide) ?_
      refine JO.v (Yv.as (v' := u32 ((rnds (sch bs 64) s (x + 1)).getD 3 0)) (Yv.move rfl) (congrArg u32 (rs3 (sch bs 64) s x).symm)) (by decide) ?_
      refine JO.v (Yv.move rfl) (by decide) ?_
      refine JO.v (Yv.move rfl) (by decide) ?_
      refine JO.v (Yv.as (v' := u32 ((rnds (sch bs 64) s (x + 1)).getD 4 0)) (Yv.bin rfl rfl (BinR.add_u32)) (congrArg u32 (rs4 (sch bs 64) s x).symm)) (by decide) ?_
      refine JO.v (Yv.as (v' := u32 ((rnds (sch bs 64) s (x + 1)).getD 5 0)) (Yv.move rfl) (congrArg u32 (rs5 (sch bs 64) s x).symm)) (by decide) ?_
      refine JO.v (Yv.as (v' := u32 ((rnds (sch bs 64) s (x + 1)).getD 6 0)) (Yv.move rfl) (congrArg u32 (rs6 (sch bs 64) s x).symm)) (by decide) ?_
      refine JO.v (Yv.as (v' := u32 ((rnds (sch bs 64) s (x + 1)).getD 7 0)) (Yv.move rfl) (congrArg u32 (rs7 (sch bs 64) s x).symm)) (by decide) ?_
      refine JO.v (Yv.assign rfl) (by decide) ?_
      refine JO.v (Yv.assign rfl) (by decide) ?_
      refine JO.v (Yv.assign rfl) (by decide) ?_
      refine JO.v (Yv.assign rfl) (by decide) ?_
      refine JO.v (Yv.assign rfl) (by decide) ?_
      refine JO.v (Yv.assign rfl) (by decide) ?_
      refine JO.v (Yv.assign rfl) (by decide) ?_
      refine JO.v (Yv.assign rfl) (by decide) ?_
      refine JO.nil ?_
      refine JQ.block_normal ?_
      refine JQ.then_normal ?_
      refine JC.region ?_
      refine JO.v (Yv.bin rfl rfl (BinR.add_i zqf)) (by decide) ?_
      refine JO.v (Yv.move rfl) (by decide) ?_
      refine JO.nil ?_
      refine JQ.head (x + 1) (by repeat (first | exact trivial | refine ⟨by first | rfl | (simp; done), ?_⟩)) (Subs.sub zqe) (Picks.perm zqd) ?_
      exact ⟨by omega, by omega⟩
    · try simp only [decide_eq_true_eq, decide_eq_false_iff_not, Bool.not_eq_true', Bool.not_eq_false', ne_eq, Decidable.not_not, Bool.not_eq_true, Bool.and_eq_true, Bool.or_eq_true, BitVec.reduceToNat] at hc3
      obtain rfl : x = 64 := by omega
      generalize hv : rnds (sch bs 64) s 64 = v
      have hvl : v.length = 8 := by rw [← hv]; exact rnds_len _ _ hs 64
      refine JC.exit ?_
      refine JQ.then_exit ?_
      refine JQ.then_exit ?_
      refine JQ.block_exit ?_
      refine JQ.then_normal ?_
      refine JC.seq ?_
      refine JC.region ?_
      refine JO.v (Yv.move rfl) (by decide) ?_
      refine JO.v (Yv.move rfl) (by decide) ?_
      refine JO.v (Yv.move rfl) (by decide) ?_
      refine JO.v (Yv.move rfl) (by decide) ?_
      refine JO.v (Yv.move rfl) (by decide) ?_
      refine JO.v (Yv.move rfl) (by decide) ?_
      refine JO.v (Yv.move rfl) (by decide) ?_
      refine JO.v (Yv.move rfl) (by decide) ?_
      refine JO.v (Yv.as (v' := .agg (v.map u32).toArray) (Yv.build (cs := [u32 (v.getD 0 0), u32 (v.getD 1 0), u32 (v.getD 2 0), u32 (v.getD 3 0), u32 (v.getD 4 0), u32 (v.getD 5 0), u32 (v.getD 6 0), u32 (v.getD 7 0)]) bld_139 rfl (by kernel_rfl)) (congrArg (fun l : List Value => Value.agg l.toArray) (list8 hvl))) (by decide) ?_
      refine JO.v (Yv.move rfl) (by decide) ?_
      refine JO.nil ?_
      refine JQ.then_normal ?_
      refine JC.block ?_
      refine JC.loop (ι := Nat) (fun x => x ≤ 8) (fun x => [(0, ptr p 0), (4, ptr b4 0), (164, .agg (v.map u32).toArray), (165, it (x : Int))]) (fun x => [Res.var 3 (sqr.map u32), Res.var 2 (cub.map u32)]) (fun x => [Res.cells p ((mixT s (comp s bs) x).map u32 ++ (bs.map u8 ++ [u64 n])) 145, Res.cells b4 (s.map u32) 139]) (fun x => 8 - x) 0 (by repeat (first | exact trivial | refine ⟨by first | rfl | (simp; done), ?_⟩)) (Subs.sub zqe) (Picks.perm (by rw [mixT_0, ← List.append_assoc]; repeat (first | exact Picks.nil _ | apply Picks.cons | exact Pull.here _ _ | apply Pull.there))) ?_ (fun x hx => ?_)
      · exact Nat.zero_le _
      refine JC.seq ?_
      refine JC.region ?_
      refine JO.v (Yv.bin rfl rfl BinR.lss_i) (by decide) ?_
      refine JO.nil ?_
      refine JQ.then_normal ?_
      refine JC.seq ?_
      refine JC.cond rfl (fun hc4 => ?_) (fun hc4 => ?_)
      · try simp only [decide_eq_true_eq, decide_eq_false_iff_not, Bool.not_eq_true', Bool.not_eq_false', ne_eq, Decidable.not_not, Bool.not_eq_true, Bool.and_eq_true, Bool.or_eq_true, BitVec.reduceToNat] at hc4
        refine JC.skip ?_
        refine JQ.then_normal ?_
        refine JC.seq ?_
        refine JC.block ?_
        refine JC.seq ?_
        refine JC.region ?_
        refine JO.v (Yv.move rfl) (by decide) ?_
        refine JO.v (Yv.indexAgg Tryz.underlying139 Tryz.underlying138 sz_138 rfl rfl zqb (gm (d := 0) (by omega))) (by decide) ?_
        refine JO.v (Yv.assign rfl) (by decide) ?_
        refine JO.v (Yv.assign rfl) (by decide) ?_
        refine JO.nil ?_
        refine JQ.then_normal ?_
        refine JC.draw (.one 0 (.one 1 (.one 2 (.one 3 (.one 4 (.one 5 (.one 6 (.one 7 (.one 8 (.one 9 (.one 10 (.one 11 (.one 12 (.one 13 (.one 14 .nil))))))))))))))) (fun i => ([14] : List Nat).contains i) (fun i => ([14] : List Nat).contains i) (fun i => ([0, 1, 2, 3, 5, 6, 7, 8, 9, 10, 11, 12, 13] : List Nat).contains i) mixed (by kernel_rfl) (by decide) (by kernel_rfl) ?_
        refine JR.u rfl rfl rfl (Yv.move rfl) (by decide) ?_
        refine JR.u rfl rfl rfl (Yv.move rfl) (by decide) ?_
        refine JR.u rfl rfl rfl (Yv.move rfl) (by decide) ?_
        first | refine JR.u rfl rfl rfl (Yv.indexArr1 Tryz.underlying139 sz_138 rfl rfl zqb) (by decide) ?_ | refine JR.u rfl rfl rfl (Yv.indexArr1o Tryz.underlying139 sz_138 rfl rfl zqb) (by decide) ?_
        refine JR.v rfl rfl rfl (Yv.load1 one_138 rfl (by first | exact Kn.own zqa (by first | first | exact hc_b hb (by omega) | exact schT_get bs (by omega) (by omega) | rfl | exact tab_get zqg | exact gm (d := 0) zqg) | exact Kn.ro zqa (by first | first | exact hc_b hb (by omega) | exact schT_get bs (by omega) (by omega) | rfl | exact tab_get zqg | exact gm (d := 0) zqg) | exact Kn.row zqa (by first | first | exact hc_b hb (by omega) | exact schT_get bs (by omega) (by omega) | rfl | exact tab_get zqg | exact gm (d := 0) zqg) | exact Kn.rd zqc (by first | first | exact hc_b hb (by omega) | exact schT_get bs (by omega) (by omega) | rfl | exact tab_get zqg | exact gm (d := 0) zqg) | exact Kn.rd2 zqc (by first | first | exact hc_b hb (by omega) | exact schT_get bs (by omega) (by omega) | rfl | exact tab_get zqg | exact gm (d := 0) zqg) | exact Kn.var zqa (by first | first | exact hc_b hb (by omega) | exact schT_get bs (by omega) (by omega) | rfl | exact tab_get zqg | exact gm (d := 0) zqg))) (by decide) ?_
        refine JR.u rfl rfl rfl (Yv.move rfl) (by decide) ?_
        refine JR.u rfl rfl rfl (Yv.bin rfl rfl (BinR.add_u32)) (by decide) ?_
        refine JR.u rfl rfl rfl (Yv.move rfl) (by decide) ?_
        first | refine JR.u rfl rfl rfl (Yv.indexArr1 Tryz.underlying139 sz_138 rfl rfl zqb) (by decide) ?_ | refine JR.u rfl rfl rfl (Yv.indexArr1o Tryz.underlying139 sz_138 rfl rfl zqb) (by decide) ?_
        refine JR.u rfl rfl rfl (Yv.load1 one_138 rfl (by first | exact Kn.own zqa (by first | first | exact hc_b hb (by omega) | exact schT_get bs (by omega) (by omega) | rfl | exact tab_get zqg | exact gm (d := 0) zqg) | exact Kn.ro zqa (by first | first | exact hc_b hb (by omega) | exact schT_get bs (by omega) (by omega) | rfl | exact tab_get zqg | exact gm (d := 0) zqg) | exact Kn.row zqa (by first | first | exact hc_b hb (by omega) | exact schT_get bs (by omega) (by omega) | rfl | exact tab_get zqg | exact gm (d := 0) zqg) | exact Kn.rd zqc (by first | first | exact hc_b hb (by omega) | exact schT_get bs (by omega) (by omega) | rfl | exact tab_get zqg | exact gm (d := 0) zqg) | exact Kn.rd2 zqc (by first | first | exact hc_b hb (by omega) | exact schT_get bs (by omega) (by omega) | rfl | exact tab_get zqg | exact gm (d := 0) zqg) | exact Kn.var zqa (by first | first | exact hc_b hb (by omega) | exact schT_get bs (by omega) (by omega) | rfl | exact tab_get zqg | exact gm (d := 0) zqg))) (by decide) ?_
        refine JR.u rfl rfl rfl (Yv.as (v' := u32 ((comp s bs).getD x 0 ^^^ sqr.getD x 0)) (Yv.bin rfl rfl (BinR.xor_u32)) (by rw [comp_get s bs (by omega), hv])) (by decide) ?_
        refine JR.u rfl rfl rfl (Yv.nilCheck rfl) (by decide) ?_
        refine JR.u rfl rfl rfl (Yv.fieldAddr fa_145_0 rfl) (by decide) ?_
        first | refine JR.u rfl rfl rfl (Yv.indexArr1 Tryz.underlying139 sz_138 rfl rfl zqb) (by decide) ?_ | refine JR.u rfl rfl rfl (Yv.indexArr1o Tryz.underlying139 sz_138 rfl rfl zqb) (by decide) ?_
        first | refine JR.m0 rfl rfl (Mv.store1 sz_138 rfl rfl rfl (by repeat (first | exact Upd.here _ _ _ | apply Upd.there)) zqb) ?_ | refine JR.m0 rfl rfl (Mv.storeRow1 sz_138 rfl rfl rfl (by repeat (first | exact Upd.here _ _ _ | apply Upd.there)) zqb (by first | rfl | (simp; done) | omega | (simp; omega))) ?_
        rintro _ _ _ ⟨rfl, rfl⟩
        refine ⟨⟨Subs.sub zqe, .inl rfl⟩, ?_⟩
        refine JR.nil ?_
        refine JQ.block_normal ?_
        refine JQ.then_normal ?_
        refine JC.region ?_
        refine JO.v (Yv.bin rfl rfl (BinR.add_i zqf)) (by decide) ?_
        refine JO.v (Yv.move rfl) (by decide) ?_
        refine JO.nil ?_
        rw [mixT_set _ _ _ _ (by omega)]
        refine JQ.head (x + 1) (by repeat (first | exact trivial | refine ⟨by first | rfl | (simp; done), ?_⟩)) (Subs.sub zqe) (Picks.perm zqd) ?_
        exact ⟨by omega, by omega⟩
      · try simp only [decide_eq_true_eq, decide_eq_false_iff_not, Bool.not_eq_true', Bool.not_eq_false', ne_eq, Decidable.not_not, Bool.not_eq_true, Bool.and_eq_true, Bool.or_eq_true, BitVec.reduceToNat] at hc4
        obtain rfl : x = 8 := by omega
        rw [mixT_8, ← List.append_assoc]
        refine JC.exit ?_
        refine JQ.then_exit ?_
        refine JQ.then_exit ?_
        refine JQ.block_exit ?_
        exact JQ.done (.inl rfl) (Γ' := []) (H' := [Res.cells p ((mix (comp s bs)).map u32 ++ bs.map u8 ++ [u64 n]) 145]) (res_none rfl) (Subs.sub zqe) (Picks.perm zqd) ⟨rfl, rfl, rfl⟩


theorem f70_spec (p : Nat) (xs bs0 : B8) (hok0 : HOK xs bs0) (v : Value) (b : B8) :
    Spec Tryz.prog 70 #[(ptr p 0), v] [Res.var 3 (sqr.map u32), Res.var 2 (cub.map u32), Res.rd v b.length 1 (b.map u8)] [Res.cells p (hst xs bs0) 145]
      (fun r Γ' H' => ∃ bs', r = .tuple #[] ∧ HOK (xs ++ b) bs' ∧ Γ' = [] ∧ H' = [Res.cells p (hst (xs ++ b) bs') 145]) := by
  refine Spec.of_args Tryz.func70 rfl Tryz.ntmps70 (by simp) fun w => ?_
  refine JC.know (φ := b.length ≤ 9223372036854775807) (fun w hs => by obtain ⟨_, _, _, _, _, _, h⟩ := hs.rdForm (.tail _ (.tail _ (.head _))); unfold maxLen at h; omega) fun hbl => ?_
  refine JC.block ?_
  refine JC.loop (ι := (B8 × B8) × B8 × Value) (fun x => b = x.1.1 ++ x.1.2 ∧ HOK (xs ++ x.1.1) x.2.1) (fun x => [(0, ptr p 0), (1, x.2.2)]) (fun x => [Res.var 3 (sqr.map u32), Res.var 2 (cub.map u32), Res.rd x.2.2 x.1.2.length 1 (x.1.2.map u8)]) (fun x => [Res.cells p (hst (xs ++ x.1.1) x.2.1) 145]) (fun x => x.1.2.length) (([], b), bs0, v) (by repeat (first | exact trivial | refine ⟨by first | rfl | (simp; done), ?_⟩)) (Subs.sub zqe) (Picks.perm (by rw [List.append_nil]; repeat (first | exact Picks.nil _ | apply Picks.cons | exact Pull.here _ _ | apply Pull.there))) ?_ (fun x hx => ?_)
  · exact ⟨rfl, by dsimp only; rw [List.append_nil]; exact hok0⟩
  obtain ⟨⟨c0, r⟩, bs, v1⟩ := x
  obtain ⟨hbc, hok⟩ := hx
  dsimp only at hbc hok ⊢
  have hb := hok.1
  have hlen : (hst (xs ++ c0) bs).length = 73 := hcells_len hb
  have hrl : b.length = c0.length + r.length := by rw [hbc, List.length_append]
  refine JC.seq ?_
  refine JC.seq ?_
  refine JC.region ?_
  refine JO.v (Yv.move rfl) (by decide) ?_
  first | refine JO.v (Yv.len_s Tryz.underlying23 rfl) (by decide) ?_ | refine JO.v (Yv.lenRd Tryz.underlying23 rfl zqc) (by decide) ?_
  refine JO.v (Yv.bin rfl rfl BinR.gtr_i) (by decide) ?_
  refine JO.nil ?_
  refine JQ.then_normal ?_
  refine JC.cond rfl (fun hc1 => ?_) (fun hc1 => ?_)
  · try simp only [decide_eq_true_eq, decide_eq_false_iff_not, Bool.not_eq_true', Bool.not_eq_false', ne_eq, Decidable.not_not, Bool.not_eq_true, Bool.and_eq_true, Bool.or_eq_true, BitVec.reduceToNat] at hc1
    have ha64 : (xs ++ c0).length % 64 < 64 := Nat.mod_lt _ (by decide)
    have hcm : (r.take (64 - (xs ++ c0).length % 64)).length = min (64 - (xs ++ c0).length % 64) r.length := List.length_take
    have hcl : (xs ++ c0).length % 64 + (r.take (64 - (xs ++ c0).length % 64)).length ≤ 64 := by omega
    have hcr : (r.take (64 - (xs ++ c0).length % 64)) ++ r.drop (r.take (64 - (xs ++ c0).length % 64)).length = r := take_rest _ _
    refine JC.skip ?_
    refine JQ.then_normal ?_
    refine JC.block ?_
    refine JC.seq ?_
    refine JC.region ?_
    refine JO.v (Yv.move rfl) (by decide) ?_
    refine JO.v (Yv.nilCheck rfl) (by decide) ?_
    refine JO.v (Yv.fieldAddr fa_145_2 rfl) (by decide) ?_
    refine JO.v (Yv.load1 one_30 rfl (by first | exact Kn.own zqa (by first | first | exact hc_n hb | exact hc_n (putB_len hb hcl) | rfl | exact tab_get zqg | exact gm (d := 0) zqg) | exact Kn.ro zqa (by first | first | exact hc_n hb | exact hc_n (putB_len hb hcl) | rfl | exact tab_get zqg | exact gm (d := 0) zqg) | exact Kn.row zqa (by first | first | exact hc_n hb | exact hc_n (putB_len hb hcl) | rfl | exact tab_get zqg | exact gm (d := 0) zqg) | exact Kn.rd zqc (by first | first | exact hc_n hb | exact hc_n (putB_len hb hcl) | rfl | exact tab_get zqg | exact gm (d := 0) zqg) | exact Kn.rd2 zqc (by first | first | exact hc_n hb | exact hc_n (putB_len hb hcl) | rfl | exact tab_get zqg | exact gm (d := 0) zqg) | exact Kn.var zqa (by first | first | exact hc_n hb | exact hc_n (putB_len hb hcl) | rfl | exact tab_get zqg | exact gm (d := 0) zqg))) (by decide) ?_
    refine JO.v (Yv.bin rfl rfl (BinR.rem_u64 (b := 64#64) (by decide))) (by decide) ?_
    refine JO.v (Yv.as (v' := it (((xs ++ c0).length % 64 : Nat) : Int)) (Yv.conv_u64_i Tryz.underlying30 Tryz.underlying3 rfl (by first | omega | decide | (simp; omega))) (congrArg (fun n : Nat => it (n : Int)) (mod64 _))) (by decide) ?_
    refine JO.v (Yv.assign rfl) (by decide) ?_
    refine JO.nil ?_
    refine JQ.then_normal ?_
    refine JC.seq ?_
    refine JC.region ?_
    refine JO.v (Yv.move rfl) (by decide) ?_
    refine JO.v (Yv.nilCheck rfl) (by decide) ?_
    refine JO.v (Yv.fieldAddr fa_145_1 rfl) (by decide) ?_
    refine JO.v (Yv.move rfl) (by decide) ?_
    refine JO.v (Yv.as (v' := .slice (some ⟨p, 8 + (xs ++ c0).length % 64, none⟩) (64 - (xs ++ c0).length % 64) (64 - (xs ++ c0).length % 64)) (Yv.cutArr (l := (xs ++ c0).length % 64) (h := 64) Tryz.underlying143 sz_5 rfl ⟨_, rfl⟩ rfl zqb zqb zqb) (by simp)) (by decide) ?_
    refine JO.v (Yv.move rfl) (by decide) ?_
    refine JO.copy Tryz.underlying23 sz_5 rfl rfl (by first | exact Src.nil | exact Src.rd zqc (by decide) | exact Src.cells zqa (by simp)) (by first | (simp; done) | exact one_sing rfl | exact one_map (fun _ => rfl) | exact one_piece (one_map (fun _ => rfl)) | exact one_tab (fun _ => rfl) | exact one_tab (fun _ => by split <;> rfl)) (by repeat (first | exact Upd.here _ _ _ | apply Upd.there)) (by first | (simp; done) | omega | (simp; omega)) (by decide) ?_
    rw [← List.map_take, show hst (xs ++ c0) bs = hcells (hashN (xs ++ c0) ((xs ++ c0).length / 64)) bs (BitVec.ofNat 64 (xs ++ c0).length) from rfl, hc_splice hb hcl]
    refine JO.v (Yv.as (v' := it (((r.take (64 - (xs ++ c0).length % 64)).length : Nat) : Int)) (Yv.assign rfl) (congrArg it (by rw [hcm]; omega))) (by decide) ?_
    refine JO.nil ?_
    refine JQ.then_normal ?_
    refine JC.seq ?_
    refine JC.region ?_
    refine JO.v (Yv.move rfl) (by decide) ?_
    refine JO.v (Yv.move rfl) (by decide) ?_
    refine JO.cut ((r.take (64 - (xs ++ c0).length % 64)).length) (r.length) Tryz.underlying23 sz_5 rfl zqa ⟨_, rfl⟩ rfl (by first | (simp; done) | omega | (simp; omega)) (by first | (simp; done) | omega | (simp; omega)) (by decide) fun v24 => ?_
    rw [rd_drop]
    refine JO.v (Yv.assign rfl) (by decide) ?_
    refine JO.nil ?_
    refine JQ.then_normal ?_
    refine JC.seq ?_
    refine JC.region ?_
    refine JO.v (Yv.move rfl) (by decide) ?_
    refine JO.v (Yv.nilCheck rfl) (by decide) ?_
    refine JO.v (Yv.fieldAddr fa_145_2 rfl) (by decide) ?_
    refine JO.v (Yv.load1 one_30 rfl (by first | exact Kn.own zqa (by first | first | exact hc_n hb | exact hc_n (putB_len hb hcl) | rfl | exact tab_get zqg | exact gm (d := 0) zqg) | exact Kn.ro zqa (by first | first | exact hc_n hb | exact hc_n (putB_len hb hcl) | rfl | exact tab_get zqg | exact gm (d := 0) zqg) | exact Kn.row zqa (by first | first | exact hc_n hb | exact hc_n (putB_len hb hcl) | rfl | exact tab_get zqg | exact gm (d := 0) zqg) | exact Kn.rd zqc (by first | first | exact hc_n hb | exact hc_n (putB_len hb hcl) | rfl | exact tab_get zqg | exact gm (d := 0) zqg) | exact Kn.rd2 zqc (by first | first | exact hc_n hb | exact hc_n (putB_len hb hcl) | rfl | exact tab_get zqg | exact gm (d := 0) zqg) | exact Kn.var zqa (by first | first | exact hc_n hb | exact hc_n (putB_len hb hcl) | rfl | exact tab_get zqg | exact gm (d := 0) zqg))) (by decide) ?_
    refine JO.v (Yv.move rfl) (by decide) ?_
    refine JO.v (Yv.as (v' := u64 (BitVec.ofNat 64 (r.take (64 - (xs ++ c0).length % 64)).length)) (Yv.conv_i_u64 Tryz.underlying3 Tryz.underlying30 rfl) (congrArg u64 (by simp))) (by decide) ?_
    refine JO.v (Yv.as (v' := u64 (BitVec.ofNat 64 ((xs ++ c0).length + (r.take (64 - (xs ++ c0).length % 64)).length))) (Yv.bin rfl rfl (BinR.add_u64)) (congrArg u64 (by apply BitVec.eq_of_toNat_eq; simp))) (by decide) ?_
    refine JO.v (Yv.nilCheck rfl) (by decide) ?_
    refine JO.v (Yv.fieldAddr fa_145_2 rfl) (by decide) ?_
    refine JO.store1 sz_30 rfl rfl rfl (by repeat (first | exact Upd.here _ _ _ | apply Upd.there)) (by rw [hcells_len (putB_len hb hcl)]; omega) ?_
    rw [show (0 + 72 : Nat) = 72 from rfl, hc_setn (putB_len hb hcl)]
    refine JO.nil ?_
    refine JQ.then_normal ?_
    refine JC.seq ?_
    refine JC.region ?_
    refine JO.v (Yv.move rfl) (by decide) ?_
    refine JO.v (Yv.move rfl) (by decide) ?_
    refine JO.v (Yv.bin rfl rfl (BinR.add_i zqf)) (by decide) ?_
    refine JO.v (Yv.bin rfl rfl BinR.eql_i) (by decide) ?_
    refine JO.nil ?_
    refine JQ.then_normal ?_
    refine JC.cond rfl (fun hc2 => ?_) (fun hc2 => ?_)
    · try simp only [decide_eq_true_eq, decide_eq_false_iff_not, Bool.not_eq_true', Bool.not_eq_false', ne_eq, Decidable.not_not, Bool.not_eq_true, Bool.and_eq_true, Bool.or_eq_true, BitVec.reduceToNat] at hc2
      obtain ⟨hok2, hfin⟩ := write_hi (c := (r.take (64 - (xs ++ c0).length % 64))) hok hcl (by omega)
      refine JC.region ?_
      refine JO.v (Yv.move rfl) (by decide) ?_
      refine JO.callB (f84_spec p (hashN (xs ++ c0) ((xs ++ c0).length / 64)) (putB bs ((xs ++ c0).length % 64) (r.take (64 - (xs ++ c0).length % 64))) (BitVec.ofNat 64 ((xs ++ c0).length + (r.take (64 - (xs ++ c0).length % 64)).length)) (hashN_len _ _) (putB_len hb hcl)) body_84 rfl zqd (by repeat (first | exact Lends.nil _ | apply Lends.cons | exact Lend.same _ _ | exact Lend.row _ _ _ _ _ _ (by decide) | apply Lend.there)) (by rintro _ _ _ ⟨_, h, _⟩; exact h) (by decide) ?_
      rintro _ _ ⟨_, ⟨rfl, _, rfl⟩, hH⟩
      simp only [List.cons_append, List.nil_append] at hH; subst hH
      refine JO.nil ?_
      refine JQ.block_normal ?_
      rw [hfin, List.append_assoc]
      refine JQ.head ((c0 ++ (r.take (64 - (xs ++ c0).length % 64)), r.drop (r.take (64 - (xs ++ c0).length % 64)).length), (putB bs ((xs ++ c0).length % 64) (r.take (64 - (xs ++ c0).length % 64))), _) (by repeat (first | exact trivial | refine ⟨by first | rfl | (simp; done), ?_⟩)) (Subs.sub zqe) (Picks.perm zqd) ?_
      exact ⟨⟨by dsimp only; rw [hbc, List.append_assoc, hcr], by dsimp only; rw [← List.append_assoc]; exact hok2⟩, by dsimp only; rw [List.length_drop]; omega⟩
    · try simp only [decide_eq_true_eq, decide_eq_false_iff_not, Bool.not_eq_true', Bool.not_eq_false', ne_eq, Decidable.not_not, Bool.not_eq_true, Bool.and_eq_true, Bool.or_eq_true, BitVec.reduceToNat] at hc2
      obtain ⟨hok2, hfin⟩ := write_lo (c := (r.take (64 - (xs ++ c0).length % 64))) hok hcl (by omega)
      refine JC.skip ?_
      refine JQ.block_normal ?_
      rw [hfin, List.append_assoc]
      refine JQ.head ((c0 ++ (r.take (64 - (xs ++ c0).length % 64)), r.drop (r.take (64 - (xs ++ c0).length % 64)).length), (putB bs ((xs ++ c0).length % 64) (r.take (64 - (xs ++ c0).length % 64))), _) (by repeat (first | exact trivial | refine ⟨by first | rfl | (simp; done), ?_⟩)) (Subs.sub zqe) (Picks.perm zqd) ?_
      exact ⟨⟨by dsimp only; rw [hbc, List.append_assoc, hcr], by dsimp only; rw [← List.append_assoc]; exact hok2⟩, by dsimp only; rw [List.length_drop]; omega⟩
  · try simp only [decide_eq_true_eq, decide_eq_false_iff_not, Bool.not_eq_true', Bool.not_eq_false', ne_eq, Decidable.not_not, Bool.not_eq_true, Bool.and_eq_true, Bool.or_eq_true, BitVec.reduceToNat] at hc1
    obtain rfl : r = [] := List.length_eq_zero_iff.1 (by omega)
    rw [List.append_nil] at hbc
    subst hbc
    refine JC.exit ?_
    refine JQ.then_exit ?_
    refine JQ.then_exit ?_
    refine JQ.block_exit ?_
    exact JQ.done (.inl rfl) (Γ' := []) (H' := [Res.cells p (hst _ _) 145]) (res_none rfl) (Subs.sub zqe) (Picks.perm zqd) ⟨_, rfl, hok, rfl, rfl⟩


theorem f69_spec  :
    Spec Tryz.prog 69 #[] [] []
      (fun r Γ' H' => ∃ q, r = ptr q 0 ∧ Γ' = [] ∧ H' = [Res.cells q (hcells sqr (List.replicate 64 0) 0) 145]) := by
  refine Spec.of_args Tryz.func69 rfl Tryz.ntmps69 (by simp) fun w => ?_
  refine JC.seq ?_
  refine JC.region ?_
  refine JO.v (Yv.assign rfl) (by decide) ?_
  refine JO.nil ?_
  refine JQ.then_normal ?_
  refine JC.seq ?_
  refine JC.region ?_
  refine JO.v (Yv.build bld_145 rfl rfl) (by decide) ?_
  refine JO.box rfl _ rfl (by decide) fun b2 => ?_
  refine JO.v (Yv.assign rfl) (by decide) ?_
  refine JO.nil ?_
  refine JQ.then_normal ?_
  refine JC.ret ?_
  exact JQ.done (.inr rfl) (Γ' := []) (H' := [Res.cells _ (hcells sqr (List.replicate 64 0) 0) 145]) (res1 rfl (RV.tmp rfl)) (Subs.sub zqe) (Picks.perm zqd) ⟨_, rfl, rfl, rfl⟩


theorem f72_spec (p : Nat) (xs bs : B8) (hok : HOK xs bs) :
    Spec Tryz.prog 72 #[(ptr p 0)] [Res.var 3 (sqr.map u32), Res.var 2 (cub.map u32)] [Res.cells p (hst xs bs) 145]
      (fun r Γ' H' => r = .agg ((sha xs).map u8).toArray ∧ Γ' = [] ∧ H' = [Res.cells p (hst xs bs) 145]) := by
  refine Spec.of_args Tryz.func72 rfl Tryz.ntmps72 (by simp) fun w => ?_
  have hzl := zeros_lt xs.length
  have hpl := padded_len xs
  have hpm := padded_mod xs
  refine JC.seq ?_
  refine JC.region ?_
  refine JO.alloc _ zero_53 rfl (by decide) fun b2 => ?_
  refine JO.nil ?_
  refine JQ.then_normal ?_
  refine JC.seq ?_
  refine JC.region ?_
  refine JO.v (Yv.move rfl) (by decide) ?_
  refine JO.callB (f86_spec p (hashN xs (xs.length / 64)) bs (BitVec.ofNat 64 xs.length) (hashN_len _ _) hok.1) body_86 rfl zqd (by repeat (first | exact Lends.nil _ | apply Lends.cons | exact Lend.same _ _ | exact Lend.row _ _ _ _ _ _ (by decide) | apply Lend.there)) (by rintro _ _ _ ⟨_, _, h, _⟩; exact h) (by decide) ?_
  rintro _ _ ⟨_, ⟨q, rfl, _, rfl⟩, hH⟩
  simp only [List.cons_append, List.nil_append] at hH; subst hH
  refine JO.v (Yv.assign rfl) (by decide) ?_
  refine JO.nil ?_
  refine JQ.then_normal ?_
  refine JC.seq ?_
  refine JC.region ?_
  refine JO.v (Yv.move rfl) (by decide) ?_
  refine JO.v (Yv.nilCheck rfl) (by decide) ?_
  refine JO.v (Yv.fieldAddr fa_145_2 rfl) (by decide) ?_
  refine JO.v (Yv.load1 one_30 rfl (by first | exact Kn.own zqa (by first | first | exact hc_n hok.1 | exact hc_n hok'.1 | rfl | exact tab_get zqg | exact gm (d := 0) zqg) | exact Kn.ro zqa (by first | first | exact hc_n hok.1 | exact hc_n hok'.1 | rfl | exact tab_get zqg | exact gm (d := 0) zqg) | exact Kn.row zqa (by first | first | exact hc_n hok.1 | exact hc_n hok'.1 | rfl | exact tab_get zqg | exact gm (d := 0) zqg) | exact Kn.rd zqc (by first | first | exact hc_n hok.1 | exact hc_n hok'.1 | rfl | exact tab_get zqg | exact gm (d := 0) zqg) | exact Kn.rd2 zqc (by first | first | exact hc_n hok.1 | exact hc_n hok'.1 | rfl | exact tab_get zqg | exact gm (d := 0) zqg) | exact Kn.var zqa (by first | first | exact hc_n hok.1 | exact hc_n hok'.1 | rfl | exact tab_get zqg | exact gm (d := 0) zqg))) (by decide) ?_
  refine JO.v (Yv.bin rfl rfl (BinR.mul_u64 (b := 8#64))) (by decide) ?_
  refine JO.v (Yv.assign rfl) (by decide) ?_
  refine JO.nil ?_
  refine JQ.then_normal ?_
  refine JC.seq ?_
  refine JC.region ?_
  refine JO.v (Yv.move rfl) (by decide) ?_
  refine JO.lit1 Tryz.underlying23 info_5 rfl rfl (by simp) (by decide) (by decide) (by decide) fun v19 => ?_
  refine JO.callB (f70_spec q xs bs hok v19 [128#8]) body_70 rfl zqd (by repeat (first | exact Lends.nil _ | apply Lends.cons | exact Lend.same _ _ | exact Lend.row _ _ _ _ _ _ (by decide) | apply Lend.there)) (by rintro _ _ _ ⟨_, _, _, h, _⟩; exact h) (by decide) ?_
  rintro _ _ ⟨_, ⟨bs1, rfl, hok1, _, rfl⟩, hH⟩
  simp only [List.cons_append, List.nil_append] at hH; subst hH
  refine JO.nil ?_
  refine JQ.then_normal ?_
  refine JC.seq ?_
  refine JC.block ?_
  refine JC.loop (ι := Nat × B8) (fun x => x.1 ≤ zeros xs.length ∧ HOK (padZ xs x.1) x.2) (fun x => [(2, ptr b2 0), (3, ptr q 0), (4, u64 (BitVec.ofNat 64 xs.length * 8#64))]) (fun x => [Res.var 3 (sqr.map u32), Res.var 2 (cub.map u32)]) (fun x => [Res.cells p (hst xs bs) 145, Res.cells b2 (List.replicate 32 (u8 0)) 53, Res.cells q (hst (padZ xs x.1) x.2) 145]) (fun x => zeros xs.length - x.1) (0, bs1) (by repeat (first | exact trivial | refine ⟨by first | rfl | (simp; done), ?_⟩)) (Subs.sub zqe) (Picks.perm (by rw [padZ_0]; repeat (first | exact Picks.nil _ | apply Picks.cons | exact Pull.here _ _ | apply Pull.there))) ?_ (fun x hx => ?_)
  · exact ⟨Nat.zero_le _, by dsimp only; rw [padZ_0]; exact hok1⟩
  obtain ⟨z, bs'⟩ := x
  obtain ⟨hz, hok'⟩ := hx
  dsimp only at hz hok' ⊢
  have hpz := padZ_len xs z
  refine JC.seq ?_
  refine JC.seq ?_
  refine JC.region ?_
  refine JO.v (Yv.move rfl) (by decide) ?_
  refine JO.v (Yv.nilCheck rfl) (by decide) ?_
  refine JO.v (Yv.fieldAddr fa_145_2 rfl) (by decide) ?_
  refine JO.v (Yv.load1 one_30 rfl (by first | exact Kn.own zqa (by first | first | exact hc_n hok.1 | exact hc_n hok'.1 | rfl | exact tab_get zqg | exact gm (d := 0) zqg) | exact Kn.ro zqa (by first | first | exact hc_n hok.1 | exact hc_n hok'.1 | rfl | exact tab_get zqg | exact gm (d := 0) zqg) | exact Kn.row zqa (by first | first | exact hc_n hok.1 | exact hc_n hok'.1 | rfl | exact tab_get zqg | exact gm (d := 0) zqg) | exact Kn.rd zqc (by first | first | exact hc_n hok.1 | exact hc_n hok'.1 | rfl | exact tab_get zqg | exact gm (d := 0) zqg) | exact Kn.rd2 zqc (by first | first | exact hc_n hok.1 | exact hc_n hok'.1 | rfl | exact tab_get zqg | exact gm (d := 0) zqg) | exact Kn.var zqa (by first | first | exact hc_n hok.1 | exact hc_n hok'.1 | rfl | exact tab_get zqg | exact gm (d := 0) zqg))) (by decide) ?_
  refine JO.v (Yv.bin rfl rfl (BinR.rem_u64 (b := 64#64) (by decide))) (by decide) ?_
  refine JO.v (Yv.bin rfl rfl (BinR.neq_u64 (b := 56#64))) (by decide) ?_
  refine JO.nil ?_
  refine JQ.then_normal ?_
  refine JC.cond rfl (fun hc1 => ?_) (fun hc1 => ?_)
  · try simp only [decide_eq_true_eq, decide_eq_false_iff_not, Bool.not_eq_true', Bool.not_eq_false', ne_eq, Decidable.not_not, Bool.not_eq_true, Bool.and_eq_true, Bool.or_eq_true, BitVec.reduceToNat] at hc1
    have hlt : z < zeros xs.length := by rw [pad56] at hc1; unfold zeros at hz ⊢; omega
    refine JC.skip ?_
    refine JQ.then_normal ?_
    refine JC.block ?_
    refine JC.region ?_
    refine JO.v (Yv.move rfl) (by decide) ?_
    refine JO.lit1 Tryz.underlying23 info_5 rfl rfl (by simp) (by decide) (by decide) (by decide) fun v28 => ?_
    refine JO.callB (f70_spec q (padZ xs z) bs' hok' v28 [0#8]) body_70 rfl zqd (by repeat (first | exact Lends.nil _ | apply Lends.cons | exact Lend.same _ _ | exact Lend.row _ _ _ _ _ _ (by decide) | apply Lend.there)) (by rintro _ _ _ ⟨_, _, _, h, _⟩; exact h) (by decide) ?_
    rintro _ _ ⟨_, ⟨bs2, rfl, hok2, _, rfl⟩, hH⟩
    simp only [List.cons_append, List.nil_append] at hH; subst hH
    rw [padZ_succ]
    refine JO.nil ?_
    refine JQ.block_normal ?_
    refine JQ.head (z + 1, bs2) (by repeat (first | exact trivial | refine ⟨by first | rfl | (simp; done), ?_⟩)) (Subs.sub zqe) (Picks.perm zqd) ?_
    exact ⟨⟨by dsimp only; omega, by dsimp only; rw [← padZ_succ]; exact hok2⟩, by dsimp only; omega⟩
  · try simp only [decide_eq_true_eq, decide_eq_false_iff_not, Bool.not_eq_true', Bool.not_eq_false', ne_eq, Decidable.not_not, Bool.not_eq_true, Bool.and_eq_true, Bool.or_eq_true, BitVec.reduceToNat] at hc1
    obtain rfl : z = zeros xs.length := by rw [pad56] at hc1; unfold zeros at hz ⊢; omega
    refine JC.exit ?_
    refine JQ.then_exit ?_
    refine JQ.then_exit ?_
    refine JQ.block_exit ?_
    refine JQ.then_normal ?_
    refine JC.seq ?_
    refine JC.region ?_
    refine JO.alloc _ zero_147 rfl (by decide) fun b5 => ?_
    refine JO.nil ?_
    refine JQ.then_normal ?_
    refine JC.seq ?_
    refine JC.seq ?_
    refine JC.region ?_
    refine JO.v (Yv.move rfl) (by decide) ?_
    refine JO.nil ?_
    refine JQ.then_normal ?_
    refine JC.block ?_
    refine JC.loop (ι := Nat) (fun x => x ≤ 8) (fun x => [(2, ptr b2 0), (3, ptr q 0), (4, u64 (BitVec.ofNat 64 xs.length * 8#64)), (5, ptr b5 0), (30, it (x : Int))]) (fun x => [Res.var 3 (sqr.map u32), Res.var 2 (cub.map u32)]) (fun x => [Res.cells p (hst xs bs) 145, Res.cells b2 (List.replicate 32 (u8 0)) 53, Res.cells q (hst (padZ xs (zeros xs.length)) bs') 145, Res.cells b5 (sizeT xs.length x) 147]) (fun x => 8 - x) 0 (by repeat (first | exact trivial | refine ⟨by first | rfl | (simp; done), ?_⟩)) (Subs.sub zqe) (Picks.perm zqd) ?_ (fun x hx => ?_)
    · exact Nat.zero_le _
    refine JC.seq ?_
    refine JC.region ?_
    refine JO.v (Yv.bin rfl rfl BinR.lss_i) (by decide) ?_
    refine JO.nil ?_
    refine JQ.then_normal ?_
    refine JC.seq ?_
    refine JC.cond rfl (fun hc2 => ?_) (fun hc2 => ?_)
    · try simp only [decide_eq_true_eq, decide_eq_false_iff_not, Bool.not_eq_true', Bool.not_eq_false', ne_eq, Decidable.not_not, Bool.not_eq_true, Bool.and_eq_true, Bool.or_eq_true, BitVec.reduceToNat] at hc2
      refine JC.skip ?_
      refine JQ.then_normal ?_
      refine JC.seq ?_
      refine JC.block ?_
      refine JC.seq ?_
      refine JC.region ?_
      refine JO.v (Yv.move rfl) (by decide) ?_
      refine JO.v (Yv.assign rfl) (by decide) ?_
      refine JO.nil ?_
      refine JQ.then_normal ?_
      refine JC.region ?_
      refine JO.v (Yv.move rfl) (by decide) ?_
      refine JO.v (Yv.move rfl) (by decide) ?_
      refine JO.v (Yv.move rfl) (by decide) ?_
      refine JO.v (Yv.bin rfl rfl (BinR.mul_i zqf)) (by decide) ?_
      refine JO.v (Yv.as (v' := it ((56 - 8 * x : Nat) : Int)) (Yv.bin rfl rfl (BinR.sub_i zqf)) (congrArg it (by omega))) (by decide) ?_
      refine JO.v (Yv.as (v' := u64 ((BitVec.ofNat 64 xs.length * 8#64) >>> (56 - 8 * x))) (Yv.bin rfl rfl (BinR.shr_u64_i (by first | omega | decide | (simp; omega)))) (congrArg (fun n => u64 ((BitVec.ofNat 64 xs.length * 8#64) >>> n)) (by simp))) (by decide) ?_
      refine JO.v (Yv.conv_u64_u8 Tryz.underlying30 Tryz.underlying5 rfl) (by decide) ?_
      first | refine JO.v (Yv.indexArr1 Tryz.underlying147 sz_5 rfl rfl zqb) (by decide) ?_ | refine JO.v (Yv.indexArr1o Tryz.underlying147 sz_5 rfl rfl zqb) (by decide) ?_
      first | refine JO.store1 sz_5 rfl rfl rfl (by repeat (first | exact Upd.here _ _ _ | apply Upd.there)) zqb ?_ | refine JO.storeRow1 sz_5 rfl rfl rfl (by repeat (first | exact Upd.here _ _ _ | apply Upd.there)) zqb (by first | rfl | (simp; done) | omega | (simp; omega)) ?_
      refine JO.nil ?_
      refine JQ.block_normal ?_
      refine JQ.then_normal ?_
      refine JC.region ?_
      refine JO.v (Yv.bin rfl rfl (BinR.add_i zqf)) (by decide) ?_
      refine JO.v (Yv.move rfl) (by decide) ?_
      refine JO.nil ?_
      rw [sizeT_set]
      refine JQ.head (x + 1) (by repeat (first | exact trivial | refine ⟨by first | rfl | (simp; done), ?_⟩)) (Subs.sub zqe) (Picks.perm zqd) ?_
      exact ⟨by omega, by omega⟩
    · try simp only [decide_eq_true_eq, decide_eq_false_iff_not, Bool.not_eq_true', Bool.not_eq_false', ne_eq, Decidable.not_not, Bool.not_eq_true, Bool.and_eq_true, Bool.or_eq_true, BitVec.reduceToNat] at hc2
      obtain rfl : x = 8 := by omega
      rw [sizeT_8]
      refine JC.exit ?_
      refine JQ.then_exit ?_
      refine JQ.then_exit ?_
      refine JQ.block_exit ?_
      refine JQ.then_normal ?_
      refine JC.seq ?_
      refine JC.region ?_
      refine JO.v (Yv.move rfl) (by decide) ?_
      refine JO.v (Yv.as (v' := .slice (some ⟨b5, 0, none⟩) 8 8) (Yv.cutArr (l := 0) (h := 8) Tryz.underlying147 sz_5 rfl rfl rfl zqb zqb zqb) rfl) (by decide) ?_
      refine JO.frz (r := Res.cells b5 ((size8 xs.length).map u8) 147) (by repeat (first | exact Pull.here _ _ | apply Pull.there)) ?_
      refine JO.rdCells (n := 8) (List.Mem.head _) (by simp) (by unfold maxLen; omega) ?_
      refine JO.callB (f70_spec q (padZ xs (zeros xs.length)) bs' hok' (.slice (some ⟨b5, 0, none⟩) 8 8) (size8 xs.length)) body_70 rfl zqd (by repeat (first | exact Lends.nil _ | apply Lends.cons | exact Lend.same _ _ | exact Lend.row _ _ _ _ _ _ (by decide) | apply Lend.there)) (by rintro _ _ _ ⟨_, _, _, h, _⟩; exact h) (by decide) ?_
      rintro _ _ ⟨_, ⟨bs3, rfl, hok3, _, rfl⟩, hH⟩
      simp only [List.cons_append, List.nil_append] at hH; subst hH
      rw [← padded_eq] at hok3 ⊢
      refine JO.nil ?_
      refine JQ.then_normal ?_
      refine JC.seq ?_
      refine JC.region ?_
      refine JO.alloc _ zero_53 rfl (by decide) fun b7 => ?_
      refine JO.nil ?_
      refine JQ.then_normal ?_
      refine JC.seq ?_
      refine JC.seq ?_
      refine JC.region ?_
      refine JO.v (Yv.move rfl) (by decide) ?_
      refine JO.callB (f87_spec q (hashN (padded xs) ((padded xs).length / 64)) bs3 (BitVec.ofNat 64 (padded xs).length) (hashN_len _ _) hok3.1) body_87 rfl zqd (by repeat (first | exact Lends.nil _ | apply Lends.cons | exact Lend.same _ _ | exact Lend.row _ _ _ _ _ _ (by decide) | apply Lend.there)) (by rintro _ _ _ ⟨_, h, _⟩; exact h) (by decide) ?_
      rintro _ _ ⟨_, ⟨rfl, _, rfl⟩, hH⟩
      simp only [List.cons_append, List.nil_append] at hH; subst hH
      have hvl := hashN_len (padded xs) ((padded xs).length / 64)
      rw [show sha xs = outB (hashN (padded xs) ((padded xs).length / 64)) from rfl]
      generalize hashN (padded xs) ((padded xs).length / 64) = hv at hvl ⊢
      refine JO.v (Yv.move rfl) (by decide) ?_
      refine JO.nil ?_
      refine JQ.then_normal ?_
      refine JC.block ?_
      refine JC.loop (ι := Nat) (fun x => x ≤ 8) (fun x => [(2, ptr b2 0), (7, ptr b7 0), (46, .agg (hv.map u32).toArray), (47, it (x : Int))]) (fun x => [Res.var 3 (sqr.map u32), Res.var 2 (cub.map u32)]) (fun x => [Res.cells p (hst xs bs) 145, Res.cells b2 (List.replicate 32 (u8 0)) 53, Res.cells b7 (outT hv (4 * x)) 53]) (fun x => 8 - x) 0 (by repeat (first | exact trivial | refine ⟨by first | rfl | (simp; done), ?_⟩)) (Subs.sub zqe) (Picks.perm zqd) ?_ (fun x hx => ?_)
      · exact Nat.zero_le _
      revert hx
      generalize x = i
      intro hi
      refine JC.seq ?_
      refine JC.region ?_
      refine JO.v (Yv.bin rfl rfl BinR.lss_i) (by decide) ?_
      refine JO.nil ?_
      refine JQ.then_normal ?_
      refine JC.seq ?_
      refine JC.cond rfl (fun hc3 => ?_) (fun hc3 => ?_)
      · try simp only [decide_eq_true_eq, decide_eq_false_iff_not, Bool.not_eq_true', Bool.not_eq_false', ne_eq, Decidable.not_not, Bool.not_eq_true, Bool.and_eq_true, Bool.or_eq_true, BitVec.reduceToNat] at hc3
        refine JC.skip ?_
        refine JQ.then_normal ?_
        refine JC.seq ?_
        refine JC.block ?_
        refine JC.seq ?_
        refine JC.region ?_
        refine JO.v (Yv.move rfl) (by decide) ?_
        refine JO.v (Yv.indexAgg Tryz.underlying139 Tryz.underlying138 sz_138 rfl rfl zqb (gm (d := 0) (by omega))) (by decide) ?_
        refine JO.v (Yv.assign rfl) (by decide) ?_
        refine JO.v (Yv.assign rfl) (by decide) ?_
        refine JO.nil ?_
        refine JQ.then_normal ?_
        refine JC.seq ?_
        refine JC.region ?_
        refine JO.v (Yv.move rfl) (by decide) ?_
        refine JO.nil ?_
        refine JQ.then_normal ?_
        refine JC.block ?_
        refine JC.loop (ι := Nat) (fun x => x ≤ 4) (fun x => [(2, ptr b2 0), (7, ptr b7 0), (46, .agg (hv.map u32).toArray), (47, it (i : Int)), (8, it (i : Int)), (9, u32 (hv.getD i 0)), (51, it (x : Int))]) (fun x => [Res.var 3 (sqr.map u32), Res.var 2 (cub.map u32)]) (fun x => [Res.cells p (hst xs bs) 145, Res.cells b2 (List.replicate 32 (u8 0)) 53, Res.cells b7 (outT hv (4 * i + x)) 53]) (fun x => 4 - x) 0 (by repeat (first | exact trivial | refine ⟨by first | rfl | (simp; done), ?_⟩)) (Subs.sub zqe) (Picks.perm zqd) ?_ (fun x hx => ?_)
        · exact Nat.zero_le _
        refine JC.seq ?_
        refine JC.region ?_
        refine JO.v (Yv.bin rfl rfl BinR.lss_i) (by decide) ?_
        refine JO.nil ?_
        refine JQ.then_normal ?_
        refine JC.seq ?_
        refine JC.cond rfl (fun hc4 => ?_) (fun hc4 => ?_)
        · try simp only [decide_eq_true_eq, decide_eq_false_iff_not, Bool.not_eq_true', Bool.not_eq_false', ne_eq, Decidable.not_not, Bool.not_eq_true, Bool.and_eq_true, Bool.or_eq_true, BitVec.reduceToNat] at hc4
          refine JC.skip ?_
          refine JQ.then_normal ?_
          refine JC.seq ?_
          refine JC.block ?_
          refine JC.seq ?_
          refine JC.region ?_
          refine JO.v (Yv.move rfl) (by decide) ?_
          refine JO.v (Yv.assign rfl) (by decide) ?_
          refine JO.nil ?_
          refine JQ.then_normal ?_
          refine JC.region ?_
          refine JO.v (Yv.move rfl) (by decide) ?_
          refine JO.v (Yv.bin rfl rfl (BinR.mul_i zqf)) (by decide) ?_
          refine JO.v (Yv.move rfl) (by decide) ?_
          refine JO.v (Yv.as (v' := it ((4 * i + x : Nat) : Int)) (Yv.bin rfl rfl (BinR.add_i zqf)) (congrArg it (by omega))) (by decide) ?_
          refine JO.v (Yv.move rfl) (by decide) ?_
          refine JO.v (Yv.move rfl) (by decide) ?_
          refine JO.v (Yv.bin rfl rfl (BinR.mul_i zqf)) (by decide) ?_
          refine JO.v (Yv.as (v' := it ((24 - 8 * x : Nat) : Int)) (Yv.bin rfl rfl (BinR.sub_i zqf)) (congrArg it (by omega))) (by decide) ?_
          refine JO.v (Yv.as (v' := u32 (hv.getD i 0 >>> (24 - 8 * x))) (Yv.bin rfl rfl (BinR.shr_u32_i (by first | omega | decide | (simp; omega)))) (congrArg (fun n => u32 (hv.getD i 0 >>> n)) (by simp))) (by decide) ?_
          refine JO.v (Yv.as (v' := u8 (ob hv (4 * i + x))) (Yv.conv_u32_u8 Tryz.underlying138 Tryz.underlying5 rfl) (congrArg u8 (ob_at hv (by omega)))) (by decide) ?_
          first | refine JO.v (Yv.indexArr1 Tryz.underlying53 sz_5 rfl rfl zqb) (by decide) ?_ | refine JO.v (Yv.indexArr1o Tryz.underlying53 sz_5 rfl rfl zqb) (by decide) ?_
          first | refine JO.store1 sz_5 rfl rfl rfl (by repeat (first | exact Upd.here _ _ _ | apply Upd.there)) zqb ?_ | refine JO.storeRow1 sz_5 rfl rfl rfl (by repeat (first | exact Upd.here _ _ _ | apply Upd.there)) zqb (by first | rfl | (simp; done) | omega | (simp; omega)) ?_
          refine JO.nil ?_
          refine JQ.block_normal ?_
          refine JQ.then_normal ?_
          refine JC.region ?_
          refine JO.v (Yv.bin rfl rfl (BinR.add_i zqf)) (by decide) ?_
          refine JO.v (Yv.move rfl) (by decide) ?_
          refine JO.nil ?_
          rw [outT_set]
          refine JQ.head (x + 1) (by repeat (first | exact trivial | refine ⟨by first | rfl | (simp; done), ?_⟩)) (Subs.sub zqe) (Picks.perm zqd) ?_
          exact ⟨by omega, by omega⟩
        · try simp only [decide_eq_true_eq, decide_eq_false_iff_not, Bool.not_eq_true', Bool.not_eq_false', ne_eq, Decidable.not_not, Bool.not_eq_true, Bool.and_eq_true, Bool.or_eq_true, BitVec.reduceToNat] at hc4
          obtain rfl : x = 4 := by omega
          rw [show 4 * i + 4 = 4 * (i + 1) by omega]
          refine JC.exit ?_
          refine JQ.then_exit ?_
          refine JQ.then_exit ?_
          refine JQ.block_exit ?_
          refine JQ.block_normal ?_
          refine JQ.then_normal ?_
          refine JC.region ?_
          refine JO.v (Yv.bin rfl rfl (BinR.add_i zqf)) (by decide) ?_
          refine JO.v (Yv.move rfl) (by decide) ?_
          refine JO.nil ?_
          refine JQ.head (i + 1) (by repeat (first | exact trivial | refine ⟨by first | rfl | (simp; done), ?_⟩)) (Subs.sub zqe) (Picks.perm zqd) ?_
          exact ⟨by omega, by omega⟩
      · try simp only [decide_eq_true_eq, decide_eq_false_iff_not, Bool.not_eq_true', Bool.not_eq_false', ne_eq, Decidable.not_not, Bool.not_eq_true, Bool.and_eq_true, Bool.or_eq_true, BitVec.reduceToNat] at hc3
        obtain rfl : i = 8 := by omega
        rw [show 4 * 8 = 32 from rfl, outT_32]
        refine JC.exit ?_
        refine JQ.then_exit ?_
        refine JQ.then_exit ?_
        refine JQ.block_exit ?_
        refine JQ.then_normal ?_
        refine JC.seq ?_
        refine JC.region ?_
        first | refine JO.v (Yv.as (v' := .agg ((outB hv).map u8).toArray) (Yv.loadOwn agg_53 zqa rfl (by first | rfl | (simp; done) | (simp; omega) | (simp [*]; done))) (congrArg (fun l : List Value => Value.agg l.toArray) (by simp))) (by decide) ?_ | refine JO.v (Yv.as (v' := .agg ((outB hv).map u8).toArray) (Yv.loadOwnAt agg_53 zqa rfl (by first | rfl | (simp; done) | (simp; omega) | (simp [*]; done))) (congrArg (fun l : List Value => Value.agg l.toArray) (by simp))) (by decide) ?_ | refine JO.v (Yv.as (v' := .agg ((outB hv).map u8).toArray) (Yv.loadRow agg_53 zqa rfl (by first | rfl | (simp; done) | (simp; omega) | (simp [*]; done))) (congrArg (fun l : List Value => Value.agg l.toArray) (by simp))) (by decide) ?_ | refine JO.v (Yv.as (v' := .agg ((outB hv).map u8).toArray) (Yv.loadRd agg_53 zqc rfl (by first | rfl | (simp; done) | (simp; omega) | (simp [*]; done))) (congrArg (fun l : List Value => Value.agg l.toArray) (by simp))) (by decide) ?_ | refine JO.v (Yv.as (v' := .agg ((outB hv).map u8).toArray) (Yv.loadRo agg_53 zqa rfl (by first | rfl | (simp; done) | (simp; omega) | (simp [*]; done))) (congrArg (fun l : List Value => Value.agg l.toArray) (by simp))) (by decide) ?_
        first | refine JO.storeAll sz_53 rfl rfl rfl (by first | rfl | (simp; done) | (simp; omega)) (by first | (simp; done) | exact one_map (fun _ => rfl) | exact one_tab (fun _ => rfl) | exact one_tab (fun _ => by split <;> rfl)) (by repeat (first | exact Upd.here _ _ _ | apply Upd.there)) (by first | rfl | (simp; done) | (simp; omega)) ?_ | refine JO.store sz_53 rfl rfl rfl (by first | rfl | (simp; done) | (simp; omega)) (by first | (simp; done) | exact one_sing rfl | exact one_map (fun _ => rfl) | exact one_piece (one_map (fun _ => rfl)) | exact one_tab (fun _ => rfl) | exact one_tab (fun _ => by split <;> rfl)) (by repeat (first | exact Upd.here _ _ _ | apply Upd.there)) zqb ?_ | refine JO.storeRow sz_53 rfl rfl rfl (by first | rfl | simp) (by first | (simp; done) | exact one_map (fun _ => rfl) | exact one_tab (fun _ => rfl) | exact one_tab (fun _ => by split <;> rfl)) (by repeat (first | exact Upd.here _ _ _ | apply Upd.there)) zqb zqb ?_
        refine JO.nil ?_
        refine JQ.then_normal ?_
        refine JC.ret ?_
        exact JQ.done (.inr rfl) (Γ' := []) (H' := [Res.cells p (hst xs bs) 145]) (res1 rfl (RV.cell agg_53 zqa rfl (by simp))) (Subs.sub zqe) (Picks.perm zqd) ⟨rfl, rfl, rfl⟩
end Go.Proofs.YthfipbjmpeegbaaGreatDoor
