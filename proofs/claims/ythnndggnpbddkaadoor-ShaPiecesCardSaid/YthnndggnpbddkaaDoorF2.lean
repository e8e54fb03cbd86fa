/- Walks: what a hash is. -/
import Derived.Test.YthnndggnpbddkaaDoorF1
namespace Go.Proofs.YthnndggnpbddkaaDoor
open Go.RowKit
set_option maxRecDepth 100000
set_option linter.unusedVariables false
set_option linter.unusedSimpArgs false

theorem f15_spec (p : Nat) (s : List W32) (bs : B8) (n : BitVec 64) (hs : s.length = 8) (hb : bs.length = 64) :
    Spec Tryd.prog 15 #[(ptr p 0)] [Res.var 0 (sqr.map u32), Res.var 1 (cub.map u32)] [Res.cells p (hcells s bs n) 31]
      (fun r Γ' H' => r = .agg (s.map u32).toArray ∧ Γ' = [] ∧ H' = [Res.cells p (hcells s bs n) 31]) := by
  refine Spec.of_args Tryd.func15 rfl Tryd.ntmps15 (by simp) fun w => ?_
  refine JC.seq ?_
  refine JC.region ?_
  refine JO.alloc _ zero_27 rfl (by decide) fun b2 => ?_
  refine JO.nil ?_
  refine JQ.then_normal ?_
  refine JC.seq ?_
  refine JC.region ?_
  refine JO.v (Yv.move rfl) (by decide) ?_
  refine JO.v (Yv.nilCheck rfl) (by decide) ?_
  refine JO.v (Yv.fieldAddr fa_31_0 rfl) (by decide) ?_
  first | refine JO.v (Yv.as (v' := .agg (nowT s 0).toArray) (Yv.loadOwn agg_27 (by repeat (first | exact List.Mem.head _ | refine List.Mem.tail _ ?_)) rfl (by rw [hcells_len hb]; omega)) (congrArg (fun l : List Value => Value.agg l.toArray) (hc_words s bs n))) (by decide) ?_ | refine JO.v (Yv.as (v' := .agg (nowT s 0).toArray) (Yv.loadOwnAt agg_27 (by repeat (first | exact List.Mem.head _ | refine List.Mem.tail _ ?_)) rfl (by rw [hcells_len hb]; omega)) (congrArg (fun l : List Value => Value.agg l.toArray) (hc_words s bs n))) (by decide) ?_ | refine JO.v (Yv.as (v' := .agg (nowT s 0).toArray) (Yv.loadRow agg_27 (by repeat (first | exact List.Mem.head _ | refine List.Mem.tail _ ?_)) rfl (by rw [hcells_len hb]; omega)) (congrArg (fun l : List Value => Value.agg l.toArray) (hc_words s bs n))) (by decide) ?_ | refine JO.v (Yv.as (v' := .agg (nowT s 0).toArray) (Yv.loadRd agg_27 (by repeat (first | exact Lend.same _ _ | exact Lend.row _ _ _ _ _ _ (by decide) | apply Lend.there)) rfl (by rw [hcells_len hb]; omega)) (congrArg (fun l : List Value => Value.agg l.toArray) (hc_words s bs n))) (by decide) ?_ | refine JO.v (Yv.as (v' := .agg (nowT s 0).toArray) (Yv.loadRo agg_27 (by repeat (first | exact List.Mem.head _ | refine List.Mem.tail _ ?_)) rfl (by rw [hcells_len hb]; omega)) (congrArg (fun l : List Value => Value.agg l.toArray) (hc_words s bs n))) (by decide) ?_
  refine JO.alloc _ zero_27 rfl (by decide) fun b3 => ?_
  first | refine JO.storeAll sz_27 rfl rfl rfl (by first | rfl | (simp; done) | (simp; omega)) (by first | (simp; done) | exact one_map (fun _ => rfl) | exact one_tab (fun _ => rfl) | exact one_tab (fun _ => by split <;> rfl)) (by repeat (first | exact Upd.here _ _ _ | apply Upd.there)) (by first | rfl | (simp; done) | (simp; omega)) ?_ | refine JO.store sz_27 rfl rfl rfl (by first | rfl | (simp; done) | (simp; omega)) (by first | (simp; done) | exact one_sing rfl | exact one_map (fun _ => rfl) | exact one_piece (one_map (fun _ => rfl)) | exact one_tab (fun _ => rfl) | exact one_tab (fun _ => by split <;> rfl)) (by repeat (first | exact Upd.here _ _ _ | apply Upd.there)) (by first | exact ltb rfl | (simp; done) | (simp; omega) | omega | (simp [*]; omega)) ?_ | refine JO.storeRow sz_27 rfl rfl rfl (by first | rfl | simp) (by first | (simp; done) | exact one_map (fun _ => rfl) | exact one_tab (fun _ => rfl) | exact one_tab (fun _ => by split <;> rfl)) (by repeat (first | exact Upd.here _ _ _ | apply Upd.there)) (by first | exact ltb rfl | (simp; done) | (simp; omega) | omega | (simp [*]; omega)) (by first | exact ltb rfl | (simp; done) | (simp; omega) | omega | (simp [*]; omega)) ?_
  refine JO.nil ?_
  refine JQ.then_normal ?_
  refine JC.seq ?_
  refine JC.seq ?_
  refine JC.region ?_
  refine JO.v (Yv.move rfl) (by decide) ?_
  refine JO.nil ?_
  refine JQ.then_normal ?_
  refine JC.block ?_
  refine JC.loop (ι := Nat) (fun x => x ≤ 8) (fun x => [(9, it (x : Int)), (3, ptr b3 0), (2, ptr b2 0)]) (fun x => [Res.var 0 (sqr.map u32), Res.var 1 (cub.map u32)]) (fun x => [Res.cells p (hcells s bs n) 31, Res.cells b3 (nowT s x) 27, Res.cells b2 (List.replicate 8 (u32 0)) 27]) (fun x => 8 - x) 0 (by repeat (first | exact trivial | refine ⟨by first | rfl | (simp; done), ?_⟩)) (Subs.sub (by repeat (first | exact Subs.nil _ | apply Subs.cons | exact List.Mem.head _ | refine List.Mem.tail _ ?_))) (Picks.perm (by repeat (first | exact Picks.nil _ | apply Picks.cons | exact Pull.here _ _ | apply Pull.there))) ?_ (fun x hx => ?_)
  · exact Nat.zero_le _
  refine JC.seq ?_
  refine JC.region ?_
  refine JO.v (Yv.bin rfl rfl BinR.lss_i) (by decide) ?_
  refine JO.nil ?_
  refine JQ.then_normal ?_
  refine JC.seq ?_
  refine JC.cond rfl (fun hc1 => ?_) (fun hc1 => ?_)
  · try simp only [decide_eq_true_eq, decide_eq_false_iff_not, Bool.not_eq_true', Bool.not_eq_false', ne_eq, Decidable.not_not, Bool.not_eq_true, Bool.and_eq_true, Bool.or_eq_true, BitVec.reduceToNat] at hc1
    refine JC.skip ?_
    refine JQ.then_normal ?_
    refine JC.seq ?_
    refine JC.block ?_
    refine JC.seq ?_
    refine JC.region ?_
    refine JO.v (Yv.move rfl) (by decide) ?_
    refine JO.v (Yv.assign rfl) (by decide) ?_
    refine JO.nil ?_
    refine JQ.then_normal ?_
    refine JC.draw (.one 0 (.one 1 (.one 2 (.one 3 (.one 4 (.one 5 (.one 6 (.one 7 (.one 8 .nil))))))))) (fun i => ([8] : List Nat).contains i) (fun i => ([8] : List Nat).contains i) (fun i => ([0, 1, 3, 4, 5, 6, 7] : List Nat).contains i) mixed (by kernel_rfl) (by decide) (by kernel_rfl) ?_
    refine JR.u rfl rfl rfl (Yv.move rfl) (by decide) ?_
    first | refine JR.u rfl rfl rfl (Yv.indexArr1 Tryd.underlying27 sz_26 rfl rfl (by first | exact ltb rfl | (simp; done) | (simp; omega) | omega | (simp [*]; omega))) (by decide) ?_ | refine JR.u rfl rfl rfl (Yv.indexArr1o Tryd.underlying27 sz_26 rfl rfl (by first | exact ltb rfl | (simp; done) | (simp; omega) | omega | (simp [*]; omega))) (by decide) ?_
    refine JR.v rfl rfl rfl (Yv.load1 one_26 rfl (by first | exact Kn.own (by repeat (first | exact List.Mem.head _ | refine List.Mem.tail _ ?_)) (by first | first | exact nowT_get s (by omega) | rfl | exact tab_get (by first | omega | (simp; omega)) | exact gm (d := 0) (by first | omega | (simp; omega))) | exact Kn.ro (by repeat (first | exact List.Mem.head _ | refine List.Mem.tail _ ?_)) (by first | first | exact nowT_get s (by omega) | rfl | exact tab_get (by first | omega | (simp; omega)) | exact gm (d := 0) (by first | omega | (simp; omega))) | exact Kn.row (by repeat (first | exact List.Mem.head _ | refine List.Mem.tail _ ?_)) (by first | first | exact nowT_get s (by omega) | rfl | exact tab_get (by first | omega | (simp; omega)) | exact gm (d := 0) (by first | omega | (simp; omega))) | exact Kn.rd (by repeat (first | exact Lend.same _ _ | exact Lend.row _ _ _ _ _ _ (by decide) | apply Lend.there)) (by first | first | exact nowT_get s (by omega) | rfl | exact tab_get (by first | omega | (simp; omega)) | exact gm (d := 0) (by first | omega | (simp; omega))) | exact Kn.rd2 (by repeat (first | exact Lend.same _ _ | exact Lend.row _ _ _ _ _ _ (by decide) | apply Lend.there)) (by first | first | exact nowT_get s (by omega) | rfl | exact tab_get (by first | omega | (simp; omega)) | exact gm (d := 0) (by first | omega | (simp; omega))) | exact Kn.var (by repeat (first | exact List.Mem.head _ | refine List.Mem.tail _ ?_)) (by first | first | exact nowT_get s (by omega) | rfl | exact tab_get (by first | omega | (simp; omega)) | exact gm (d := 0) (by first | omega | (simp; omega))))) (by decide) ?_
    refine JR.u rfl rfl rfl (Yv.move rfl) (by decide) ?_
    first | refine JR.u rfl rfl rfl (Yv.indexArr1 Tryd.underlying27 sz_26 rfl rfl (by first | exact ltb rfl | (simp; done) | (simp; omega) | omega | (simp [*]; omega))) (by decide) ?_ | refine JR.u rfl rfl rfl (Yv.indexArr1o Tryd.underlying27 sz_26 rfl rfl (by first | exact ltb rfl | (simp; done) | (simp; omega) | omega | (simp [*]; omega))) (by decide) ?_
    refine JR.u rfl rfl rfl (Yv.load1 one_26 rfl (by first | exact Kn.own (by repeat (first | exact List.Mem.head _ | refine List.Mem.tail _ ?_)) (by first | first | exact nowT_get s (by omega) | rfl | exact tab_get (by first | omega | (simp; omega)) | exact gm (d := 0) (by first | omega | (simp; omega))) | exact Kn.ro (by repeat (first | exact List.Mem.head _ | refine List.Mem.tail _ ?_)) (by first | first | exact nowT_get s (by omega) | rfl | exact tab_get (by first | omega | (simp; omega)) | exact gm (d := 0) (by first | omega | (simp; omega))) | exact Kn.row (by repeat (first | exact List.Mem.head _ | refine List.Mem.tail _ ?_)) (by first | first | exact nowT_get s (by omega) | rfl | exact tab_get (by first | omega | (simp; omega)) | exact gm (d := 0) (by first | omega | (simp; omega))) | exact Kn.rd (by repeat (first | exact Lend.same _ _ | exact Lend.row _ _ _ _ _ _ (by decide) | apply Lend.there)) (by first | first | exact nowT_get s (by omega) | rfl | exact tab_get (by first | omega | (simp; omega)) | exact gm (d := 0) (by first | omega | (simp; omega))) | exact Kn.rd2 (by repeat (first | exact Lend.same _ _ | exact Lend.row _ _ _ _ _ _ (by decide) | apply Lend.there)) (by first | first | exact nowT_get s (by omega) | rfl | exact tab_get (by first | omega | (simp; omega)) | exact gm (d := 0) (by first | omega | (simp; omega))) | exact Kn.var (by repeat (first | exact List.Mem.head _ | refine List.Mem.tail _ ?_)) (by first | first | exact nowT_get s (by omega) | rfl | exact tab_get (by first | omega | (simp; omega)) | exact gm (d := 0) (by first | omega | (simp; omega))))) (by decide) ?_
    refine JR.u rfl rfl rfl (Yv.as (v' := u32 (s.getD x 0)) (Yv.bin rfl rfl (BinR.xor_u32)) (congrArg u32 (xor_back _ _))) (by decide) ?_
    first | refine JR.u rfl rfl rfl (Yv.indexArr1 Tryd.underlying27 sz_26 rfl rfl (by first | exact ltb rfl | (simp; done) | (simp; omega) | omega | (simp [*]; omega))) (by decide) ?_ | refine JR.u rfl rfl rfl (Yv.indexArr1o Tryd.underlying27 sz_26 rfl rfl (by first | exact ltb rfl | (simp; done) | (simp; omega) | omega | (simp [*]; omega))) (by decide) ?_
    first | refine JR.m0 rfl rfl (Mv.store1 sz_26 rfl rfl rfl (by repeat (first | exact Upd.here _ _ _ | apply Upd.there)) (by first | exact ltb rfl | (simp; done) | (simp; omega) | omega | (simp [*]; omega))) ?_ | refine JR.m0 rfl rfl (Mv.storeRow1 sz_26 rfl rfl rfl (by repeat (first | exact Upd.here _ _ _ | apply Upd.there)) (by first | exact ltb rfl | (simp; done) | (simp; omega) | omega | (simp [*]; omega)) (by first | rfl | (simp; done) | omega | (simp; omega))) ?_
    rintro _ _ _ ⟨rfl, rfl⟩
    refine ⟨⟨Subs.sub (by repeat (first | exact Subs.nil _ | apply Subs.cons | exact List.Mem.head _ | refine List.Mem.tail _ ?_)), .inl rfl⟩, ?_⟩
    refine JR.nil ?_
    refine JQ.block_normal ?_
    refine JQ.then_normal ?_
    refine JC.region ?_
    refine JO.v (Yv.bin rfl rfl (BinR.add_i (by first | (constructor <;> omega) | (constructor <;> simp <;> omega)))) (by decide) ?_
    refine JO.v (Yv.move rfl) (by decide) ?_
    refine JO.nil ?_
    rw [nowT_set]
    refine JQ.head (x + 1) (by repeat (first | exact trivial | refine ⟨by first | rfl | (simp; done), ?_⟩)) (Subs.sub (by repeat (first | exact Subs.nil _ | apply Subs.cons | exact List.Mem.head _ | refine List.Mem.tail _ ?_))) (Picks.perm (by repeat (first | exact Picks.nil _ | apply Picks.cons | exact Pull.here _ _ | apply Pull.there))) ?_
    exact ⟨by omega, by omega⟩
  · try simp only [decide_eq_true_eq, decide_eq_false_iff_not, Bool.not_eq_true', Bool.not_eq_false', ne_eq, Decidable.not_not, Bool.not_eq_true, Bool.and_eq_true, Bool.or_eq_true, BitVec.reduceToNat] at hc1
    obtain rfl : x = 8 := by omega
    refine JC.exit ?_
    refine JQ.then_exit ?_
    refine JQ.then_exit ?_
    refine JQ.block_exit ?_
    refine JQ.then_normal ?_
    refine JC.seq ?_
    refine JC.region ?_
    first | refine JO.v (Yv.as (v' := .agg (s.map u32).toArray) (Yv.loadOwn agg_27 (by repeat (first | exact List.Mem.head _ | refine List.Mem.tail _ ?_)) rfl (by first | rfl | (simp; done) | (simp; omega) | (simp [*]; done))) (congrArg (fun l : List Value => Value.agg l.toArray) (nowT_8 hs))) (by decide) ?_ | refine JO.v (Yv.as (v' := .agg (s.map u32).toArray) (Yv.loadOwnAt agg_27 (by repeat (first | exact List.Mem.head _ | refine List.Mem.tail _ ?_)) rfl (by first | rfl | (simp; done) | (simp; omega) | (simp [*]; done))) (congrArg (fun l : List Value => Value.agg l.toArray) (nowT_8 hs))) (by decide) ?_ | refine JO.v (Yv.as (v' := .agg (s.map u32).toArray) (Yv.loadRow agg_27 (by repeat (first | exact List.Mem.head _ | refine List.Mem.tail _ ?_)) rfl (by first | rfl | (simp; done) | (simp; omega) | (simp [*]; done))) (congrArg (fun l : List Value => Value.agg l.toArray) (nowT_8 hs))) (by decide) ?_ | refine JO.v (Yv.as (v' := .agg (s.map u32).toArray) (Yv.loadRd agg_27 (by repeat (first | exact Lend.same _ _ | exact Lend.row _ _ _ _ _ _ (by decide) | apply Lend.there)) rfl (by first | rfl | (simp; done) | (simp; omega) | (simp [*]; done))) (congrArg (fun l : List Value => Value.agg l.toArray) (nowT_8 hs))) (by decide) ?_ | refine JO.v (Yv.as (v' := .agg (s.map u32).toArray) (Yv.loadRo agg_27 (by repeat (first | exact List.Mem.head _ | refine List.Mem.tail _ ?_)) rfl (by first | rfl | (simp; done) | (simp; omega) | (simp [*]; done))) (congrArg (fun l : List Value => Value.agg l.toArray) (nowT_8 hs))) (by decide) ?_
    first | refine JO.storeAll sz_27 rfl rfl rfl (by first | rfl | (simp; done) | (simp; omega)) (by first | (simp; done) | exact one_map (fun _ => rfl) | exact one_tab (fun _ => rfl) | exact one_tab (fun _ => by split <;> rfl)) (by repeat (first | exact Upd.here _ _ _ | apply Upd.there)) (by first | rfl | (simp; done) | (simp; omega)) ?_ | refine JO.store sz_27 rfl rfl rfl (by first | rfl | (simp; done) | (simp; omega)) (by first | (simp; done) | exact one_sing rfl | exact one_map (fun _ => rfl) | exact one_piece (one_map (fun _ => rfl)) | exact one_tab (fun _ => rfl) | exact one_tab (fun _ => by split <;> rfl)) (by repeat (first | exact Upd.here _ _ _ | apply Upd.there)) (by first | exact ltb rfl | (simp; done) | (simp; omega) | omega | (simp [*]; omega)) ?_ | refine JO.storeRow sz_27 rfl rfl rfl (by first | rfl | simp) (by first | (simp; done) | exact one_map (fun _ => rfl) | exact one_tab (fun _ => rfl) | exact one_tab (fun _ => by split <;> rfl)) (by repeat (first | exact Upd.here _ _ _ | apply Upd.there)) (by first | exact ltb rfl | (simp; done) | (simp; omega) | omega | (simp [*]; omega)) (by first | exact ltb rfl | (simp; done) | (simp; omega) | omega | (simp [*]; omega)) ?_
    refine JO.nil ?_
    refine JQ.then_normal ?_
    refine JC.ret ?_
    exact JQ.done (.inr rfl) (Γ' := []) (H' := [Res.cells p (hcells s bs n) 31]) (res1 rfl (RV.cell agg_27 (by repeat (first | exact List.Mem.head _ | refine List.Mem.tail _ ?_)) rfl (by simp [hs]))) (Subs.sub (by repeat (first | exact Subs.nil _ | apply Subs.cons | exact List.Mem.head _ | refine List.Mem.tail _ ?_))) (Picks.perm (by repeat (first | exact Picks.nil _ | apply Picks.cons | exact Pull.here _ _ | apply Pull.there))) ⟨rfl, rfl, rfl⟩


theorem f9_spec (p : Nat) (s : List W32) (bs : B8) (n : BitVec 64) (hs : s.length = 8) (hb : bs.length = 64) :
    Spec Tryd.prog 9 #[(ptr p 0)] [] [Res.cells p (hcells s bs n) 31]
      (fun r Γ' H' => ∃ q, r = ptr q 0 ∧ Γ' = [] ∧ H' = [Res.cells q (hcells s bs n) 31, Res.cells p (hcells s bs n) 31]) := by
  refine Spec.of_args Tryd.func9 rfl Tryd.ntmps9 (by simp) fun w => ?_
  refine JC.seq ?_
  refine JC.region ?_
  refine JO.v (Yv.assign rfl) (by decide) ?_
  refine JO.nil ?_
  refine JQ.then_normal ?_
  refine JC.seq ?_
  refine JC.region ?_
  refine JO.v (Yv.move rfl) (by decide) ?_
  refine JO.v (Yv.nilCheck rfl) (by decide) ?_
  first | refine JO.v (Yv.loadOwn agg_31 (by repeat (first | exact List.Mem.head _ | refine List.Mem.tail _ ?_)) rfl (hcells_len hb)) (by decide) ?_ | refine JO.v (Yv.loadOwnAt agg_31 (by repeat (first | exact List.Mem.head _ | refine List.Mem.tail _ ?_)) rfl (hcells_len hb)) (by decide) ?_ | refine JO.v (Yv.loadRow agg_31 (by repeat (first | exact List.Mem.head _ | refine List.Mem.tail _ ?_)) rfl (hcells_len hb)) (by decide) ?_ | refine JO.v (Yv.loadRd agg_31 (by repeat (first | exact Lend.same _ _ | exact Lend.row _ _ _ _ _ _ (by decide) | apply Lend.there)) rfl (hcells_len hb)) (by decide) ?_ | refine JO.v (Yv.loadRo agg_31 (by repeat (first | exact List.Mem.head _ | refine List.Mem.tail _ ?_)) rfl (hcells_len hb)) (by decide) ?_
  refine JO.alloc _ zero_31 rfl (by decide) fun b3 => ?_
  refine JO.storeAll sz_31 rfl rfl rfl (hcells_len hb) (hcells_one s bs n) (by repeat (first | exact Upd.here _ _ _ | apply Upd.there)) (by first | rfl | (simp; done)) ?_
  refine JO.nil ?_
  refine JQ.then_normal ?_
  refine JC.seq ?_
  refine JC.region ?_
  refine JO.v (Yv.assign rfl) (by decide) ?_
  refine JO.nil ?_
  refine JQ.then_normal ?_
  refine JC.ret ?_
  exact JQ.done (.inr rfl) (Γ' := []) (H' := [Res.cells _ (hcells s bs n) 31, Res.cells p (hcells s bs n) 31]) (res1 rfl (RV.tmp rfl)) (Subs.sub (by repeat (first | exact Subs.nil _ | apply Subs.cons | exact List.Mem.head _ | refine List.Mem.tail _ ?_))) (Picks.perm (by repeat (first | exact Picks.nil _ | apply Picks.cons | exact Pull.here _ _ | apply Pull.there))) ⟨_, rfl, rfl, rfl⟩


theorem f8_spec  :
    Spec Tryd.prog 8 #[] [] []
      (fun r Γ' H' => ∃ q, r = ptr q 0 ∧ Γ' = [] ∧ H' = [Res.cells q (hcells sqr (List.replicate 64 0) 0) 31]) := by
  refine Spec.of_args Tryd.func8 rfl Tryd.ntmps8 (by simp) fun w => ?_
  refine JC.seq ?_
  refine JC.region ?_
  refine JO.v (Yv.assign rfl) (by decide) ?_
  refine JO.nil ?_
  refine JQ.then_normal ?_
  refine JC.seq ?_
  refine JC.region ?_
  refine JO.v (Yv.build bld_31 rfl rfl) (by decide) ?_
  refine JO.box rfl _ rfl (by decide) fun b2 => ?_
  refine JO.v (Yv.assign rfl) (by decide) ?_
  refine JO.nil ?_
  refine JQ.then_normal ?_
  refine JC.ret ?_
  exact JQ.done (.inr rfl) (Γ' := []) (H' := [Res.cells _ (hcells sqr (List.replicate 64 0) 0) 31]) (res1 rfl (RV.tmp rfl)) (Subs.sub (by repeat (first | exact Subs.nil _ | apply Subs.cons | exact List.Mem.head _ | refine List.Mem.tail _ ?_))) (Picks.perm (by repeat (first | exact Picks.nil _ | apply Picks.cons | exact Pull.here _ _ | apply Pull.there))) ⟨_, rfl, rfl, rfl⟩


theorem f12_spec (p : Nat) (s : List W32) (bs : B8) (n : BitVec 64) (hs : s.length = 8) (hb : bs.length = 64) :
    Spec Tryd.prog 12 #[(ptr p 0)] [] [Res.cells p (hcells s bs n) 31]
      (fun r Γ' H' => r = u64 n ∧ Γ' = [] ∧ H' = [Res.cells p (hcells s bs n) 31]) := by
  refine Spec.of_args Tryd.func12 rfl Tryd.ntmps12 (by simp) fun w => ?_
  refine JC.seq ?_
  refine JC.region ?_
  refine JO.v (Yv.assign rfl) (by decide) ?_
  refine JO.nil ?_
  refine JQ.then_normal ?_
  refine JC.seq ?_
  refine JC.region ?_
  refine JO.v (Yv.move rfl) (by decide) ?_
  refine JO.v (Yv.nilCheck rfl) (by decide) ?_
  refine JO.v (Yv.fieldAddr fa_31_2 rfl) (by decide) ?_
  refine JO.v (Yv.load1 one_29 rfl (by first | exact Kn.own (by repeat (first | exact List.Mem.head _ | refine List.Mem.tail _ ?_)) (by first | exact hc_n hb | rfl | exact tab_get (by first | omega | (simp; omega)) | exact gm (d := 0) (by first | omega | (simp; omega))) | exact Kn.ro (by repeat (first | exact List.Mem.head _ | refine List.Mem.tail _ ?_)) (by first | exact hc_n hb | rfl | exact tab_get (by first | omega | (simp; omega)) | exact gm (d := 0) (by first | omega | (simp; omega))) | exact Kn.row (by repeat (first | exact List.Mem.head _ | refine List.Mem.tail _ ?_)) (by first | exact hc_n hb | rfl | exact tab_get (by first | omega | (simp; omega)) | exact gm (d := 0) (by first | omega | (simp; omega))) | exact Kn.rd (by repeat (first | exact Lend.same _ _ | exact Lend.row _ _ _ _ _ _ (by decide) | apply Lend.there)) (by first | exact hc_n hb | rfl | exact tab_get (by first | omega | (simp; omega)) | exact gm (d := 0) (by first | omega | (simp; omega))) | exact Kn.rd2 (by repeat (first | exact Lend.same _ _ | exact Lend.row _ _ _ _ _ _ (by decide) | apply Lend.there)) (by first | exact hc_n hb | rfl | exact tab_get (by first | omega | (simp; omega)) | exact gm (d := 0) (by first | omega | (simp; omega))) | exact Kn.var (by repeat (first | exact List.Mem.head _ | refine List.Mem.tail _ ?_)) (by first | exact hc_n hb | rfl | exact tab_get (by first | omega | (simp; omega)) | exact gm (d := 0) (by first | omega | (simp; omega))))) (by decide) ?_
  refine JO.v (Yv.assign rfl) (by decide) ?_
  refine JO.nil ?_
  refine JQ.then_normal ?_
  refine JC.ret ?_
  exact JQ.done (.inr rfl) (Γ' := []) (H' := [Res.cells p (hcells s bs n) 31]) (res1 rfl (RV.tmp rfl)) (Subs.sub (by repeat (first | exact Subs.nil _ | apply Subs.cons | exact List.Mem.head _ | refine List.Mem.tail _ ?_))) (Picks.perm (by repeat (first | exact Picks.nil _ | apply Picks.cons | exact Pull.here _ _ | apply Pull.there))) ⟨rfl, rfl, rfl⟩
end Go.Proofs.YthnndggnpbddkaaDoor
