/- Walks: words turned; what a hash is. -/
import Derived.Test.YtganfkmkapogmaaDoorS6
import Derived.Test.YtganfkmkapogmaaDoorB
namespace Go.Proofs.YtganfkmkapogmaaDoor
open Go.RowKit
set_option maxRecDepth 100000
set_option linter.unusedVariables false
set_option linter.unusedSimpArgs false

theorem f39_spec (x : W32) (a : Nat) (h0 : 0 < a) (ha : a < 32) :
    Spec Tryd.prog 39 #[u32 x, (it (-(a : Int)))] [] []
      (fun r Γ' H' => r = u32 (rr x a) ∧ Γ' = [] ∧ H' = []) := by
  refine Spec.of_args Tryd.func39 rfl Tryd.ntmps39 (by simp) fun w => ?_
  refine JC.seq ?_
  refine JC.region ?_
  refine JO.v (Yv.assign rfl) (by decide) ?_
  refine JO.nil ?_
  refine JQ.then_normal ?_
  refine JC.seq ?_
  refine JC.region ?_
  refine JO.v (Yv.move rfl) (by decide) ?_
  refine JO.v (Yv.conv_i_u64 Tryd.underlying3 Tryd.underlying63 rfl) (by decide) ?_
  refine JO.v (Yv.as (v' := u64 (BitVec.ofNat 64 (32 - a))) (Yv.bin rfl rfl (BinR.and_u64 (b := 31#64))) (congrArg u64 (rot_and a h0 ha))) (by decide) ?_
  refine JO.v (Yv.assign rfl) (by decide) ?_
  refine JO.nil ?_
  refine JQ.then_normal ?_
  refine JC.seq ?_
  refine JC.region ?_
  refine JO.v (Yv.move rfl) (by decide) ?_
  refine JO.v (Yv.move rfl) (by decide) ?_
  refine JO.v (Yv.as (v' := u32 (x <<< (32 - a))) (Yv.bin rfl rfl (BinR.shl_u32_u64)) (congrArg (fun n => u32 (x <<< n)) (by rw [BitVec.toNat_ofNat]; omega))) (by decide) ?_
  refine JO.v (Yv.move rfl) (by decide) ?_
  refine JO.v (Yv.move rfl) (by decide) ?_
  refine JO.v (Yv.as (v' := u64 (BitVec.ofNat 64 a)) (Yv.bin rfl rfl (BinR.sub_u64 (a := 32#64))) (congrArg u64 (rot_sub a h0 ha))) (by decide) ?_
  refine JO.v (Yv.as (v' := u32 (x >>> a)) (Yv.bin rfl rfl (BinR.shr_u32_u64)) (congrArg (fun n => u32 (x >>> n)) (by rw [BitVec.toNat_ofNat]; omega))) (by decide) ?_
  refine JO.v (Yv.as (v' := u32 (rr x a)) (Yv.bin rfl rfl (BinR.or_u32)) (congrArg u32 (BitVec.or_comm _ _))) (by decide) ?_
  refine JO.v (Yv.assign rfl) (by decide) ?_
  refine JO.nil ?_
  refine JQ.then_normal ?_
  refine JC.ret ?_
  exact JQ.done (.inr rfl) (Γ' := []) (H' := []) (res1 rfl (RV.tmp rfl)) (Subs.sub (by repeat (first | exact Subs.nil _ | apply Subs.cons | exact List.Mem.head _ | refine List.Mem.tail _ ?_))) (Picks.perm (by repeat (first | exact Picks.nil _ | apply Picks.cons | exact Pull.here _ _ | apply Pull.there))) ⟨rfl, rfl, rfl⟩


theorem f31_spec (x : W32) (a : Nat) (h0 : 0 < a) (ha : a < 32) :
    Spec Tryd.prog 31 #[u32 x, (it (a : Int))] [] []
      (fun r Γ' H' => r = u32 (rr x a) ∧ Γ' = [] ∧ H' = []) := by
  refine Spec.of_args Tryd.func31 rfl Tryd.ntmps31 (by simp) fun w => ?_
  refine JC.seq ?_
  refine JC.region ?_
  refine JO.v (Yv.assign rfl) (by decide) ?_
  refine JO.nil ?_
  refine JQ.then_normal ?_
  refine JC.seq ?_
  refine JC.draw (.one 0 (.one 1 (.one 2 (.one 3 (.one 4 (.one 5 (.one 6 (.one 7 (.one 8 .nil))))))))) (fun i => ([] : List Nat).contains i) (fun i => ([] : List Nat).contains i) (fun i => ([0, 1, 2, 3, 4, 5, 6, 7, 8] : List Nat).contains i) mixed (by kernel_rfl) (by decide) (by kernel_rfl) ?_
  refine JR.u rfl rfl rfl (Yv.move rfl) (by decide) ?_
  refine JR.u rfl rfl rfl (Yv.move rfl) (by decide) ?_
  refine JR.u rfl rfl rfl (Yv.bin rfl rfl (BinR.shr_u32_i (by first | omega | decide | (simp; omega)))) (by decide) ?_
  refine JR.u rfl rfl rfl (Yv.move rfl) (by decide) ?_
  refine JR.u rfl rfl rfl (Yv.move rfl) (by decide) ?_
  refine JR.u rfl rfl rfl (Yv.as (v' := it ((32 - a : Nat) : Int)) (Yv.bin rfl rfl (BinR.sub_i (by first | (constructor <;> omega) | (constructor <;> simp <;> omega)))) (congrArg it (by omega))) (by decide) ?_
  refine JR.u rfl rfl rfl (Yv.bin rfl rfl (BinR.shl_u32_i (by first | omega | decide | (simp; omega)))) (by decide) ?_
  refine JR.u rfl rfl rfl (Yv.as (v' := u32 (rr x a)) (Yv.bin rfl rfl (BinR.add_u32)) (congrArg u32 (by simpa using right_eq x a h0 ha))) (by decide) ?_
  refine JR.u rfl rfl rfl (Yv.assign rfl) (by decide) ?_
  refine JR.nil ?_
  refine JQ.then_normal ?_
  refine JC.ret ?_
  exact JQ.done (.inr rfl) (Γ' := []) (H' := []) (res1 rfl (RV.tmp rfl)) (Subs.sub (by repeat (first | exact Subs.nil _ | apply Subs.cons | exact List.Mem.head _ | refine List.Mem.tail _ ?_))) (Picks.perm (by repeat (first | exact Picks.nil _ | apply Picks.cons | exact Pull.here _ _ | apply Pull.there))) ⟨rfl, rfl, rfl⟩


theorem f38_spec (x : W32) (a b c : Nat) (ha : 0 < a ∧ a < 32) (hb : 0 < b ∧ b < 32) (hc : 0 < c ∧ c < 32) :
    Spec Tryd.prog 38 #[u32 x, (it (a : Int)), (it (b : Int)), (it (c : Int))] [] []
      (fun r Γ' H' => r = u32 (rr x a ^^^ rr x b ^^^ rr x c) ∧ Γ' = [] ∧ H' = []) := by
  refine Spec.of_args Tryd.func38 rfl Tryd.ntmps38 (by simp) fun w => ?_
  refine JC.seq ?_
  refine JC.region ?_
  refine JO.v (Yv.assign rfl) (by decide) ?_
  refine JO.nil ?_
  refine JQ.then_normal ?_
  refine JC.seq ?_
  refine JC.region ?_
  refine JO.v (Yv.move rfl) (by decide) ?_
  refine JO.v (Yv.move rfl) (by decide) ?_
  refine JO.v (Yv.neg_i rfl (by first | (constructor <;> omega) | (constructor <;> simp <;> omega))) (by decide) ?_
  refine JO.callB (f39_spec x a ha.1 ha.2) body_39 rfl (by repeat (first | exact Picks.nil _ | apply Picks.cons | exact Pull.here _ _ | apply Pull.there)) (by repeat (first | exact Lends.nil _ | apply Lends.cons | exact Lend.same _ _ | exact Lend.row _ _ _ _ _ _ (by decide) | apply Lend.there)) (by rintro _ _ _ ⟨_, h, _⟩; exact h) (by decide) ?_
  rintro _ _ ⟨_, ⟨rfl, _, rfl⟩, hH⟩
  simp only [List.cons_append, List.nil_append] at hH; subst hH
  refine JO.v (Yv.move rfl) (by decide) ?_
  refine JO.v (Yv.move rfl) (by decide) ?_
  refine JO.v (Yv.neg_i rfl (by first | (constructor <;> omega) | (constructor <;> simp <;> omega))) (by decide) ?_
  refine JO.callB (f39_spec x b hb.1 hb.2) body_39 rfl (by repeat (first | exact Picks.nil _ | apply Picks.cons | exact Pull.here _ _ | apply Pull.there)) (by repeat (first | exact Lends.nil _ | apply Lends.cons | exact Lend.same _ _ | exact Lend.row _ _ _ _ _ _ (by decide) | apply Lend.there)) (by rintro _ _ _ ⟨_, h, _⟩; exact h) (by decide) ?_
  rintro _ _ ⟨_, ⟨rfl, _, rfl⟩, hH⟩
  simp only [List.cons_append, List.nil_append] at hH; subst hH
  refine JO.v (Yv.bin rfl rfl (BinR.xor_u32)) (by decide) ?_
  refine JO.v (Yv.move rfl) (by decide) ?_
  refine JO.v (Yv.move rfl) (by decide) ?_
  refine JO.v (Yv.neg_i rfl (by first | (constructor <;> omega) | (constructor <;> simp <;> omega))) (by decide) ?_
  refine JO.callB (f39_spec x c hc.1 hc.2) body_39 rfl (by repeat (first | exact Picks.nil _ | apply Picks.cons | exact Pull.here _ _ | apply Pull.there)) (by repeat (first | exact Lends.nil _ | apply Lends.cons | exact Lend.same _ _ | exact Lend.row _ _ _ _ _ _ (by decide) | apply Lend.there)) (by rintro _ _ _ ⟨_, h, _⟩; exact h) (by decide) ?_
  rintro _ _ ⟨_, ⟨rfl, _, rfl⟩, hH⟩
  simp only [List.cons_append, List.nil_append] at hH; subst hH
  refine JO.v (Yv.bin rfl rfl (BinR.xor_u32)) (by decide) ?_
  refine JO.v (Yv.assign rfl) (by decide) ?_
  refine JO.nil ?_
  refine JQ.then_normal ?_
  refine JC.ret ?_
  exact JQ.done (.inr rfl) (Γ' := []) (H' := []) (res1 rfl (RV.tmp rfl)) (Subs.sub (by repeat (first | exact Subs.nil _ | apply Subs.cons | exact List.Mem.head _ | refine List.Mem.tail _ ?_))) (Picks.perm (by repeat (first | exact Picks.nil _ | apply Picks.cons | exact Pull.here _ _ | apply Pull.there))) ⟨rfl, rfl, rfl⟩


theorem f37_spec (x : W32) (a b c : Nat) (ha : 0 < a ∧ a < 32) (hb : 0 < b ∧ b < 32) (hc : 0 < c ∧ c < 32) :
    Spec Tryd.prog 37 #[u32 x, (it (a : Int)), (it (b : Int)), (it (c : Int))] [] []
      (fun r Γ' H' => r = u32 (rr x a ^^^ rr x b ^^^ x >>> c) ∧ Γ' = [] ∧ H' = []) := by
  refine Spec.of_args Tryd.func37 rfl Tryd.ntmps37 (by simp) fun w => ?_
  refine JC.seq ?_
  refine JC.region ?_
  refine JO.v (Yv.assign rfl) (by decide) ?_
  refine JO.nil ?_
  refine JQ.then_normal ?_
  refine JC.seq ?_
  refine JC.draw (.one 0 (.one 1 (.one 2 (.one 4 (.one 5 (.one 6 (.one 9 (.one 10 (.one 11 (.one 3 (.one 7 (.one 8 (.one 12 (.one 13 .nil)))))))))))))) (fun i => ([3, 7] : List Nat).contains i) (fun i => ([3, 7] : List Nat).contains i) (fun i => ([0, 1, 2, 4, 5, 6, 8, 9, 10, 11, 12, 13] : List Nat).contains i) mixed (by kernel_rfl) (by decide) (by kernel_rfl) ?_
  refine JR.u rfl rfl rfl (Yv.move rfl) (by decide) ?_
  refine JR.u rfl rfl rfl (Yv.move rfl) (by decide) ?_
  refine JR.u rfl rfl rfl (Yv.neg_i rfl (by first | (constructor <;> omega) | (constructor <;> simp <;> omega))) (by decide) ?_
  refine JR.u rfl rfl rfl (Yv.move rfl) (by decide) ?_
  refine JR.u rfl rfl rfl (Yv.move rfl) (by decide) ?_
  refine JR.u rfl rfl rfl (Yv.neg_i rfl (by first | (constructor <;> omega) | (constructor <;> simp <;> omega))) (by decide) ?_
  refine JR.u rfl rfl rfl (Yv.move rfl) (by decide) ?_
  refine JR.u rfl rfl rfl (Yv.move rfl) (by decide) ?_
  refine JR.u rfl rfl rfl (Yv.as (v' := u32 (x >>> c)) (Yv.bin rfl rfl (BinR.shr_u32_i (by first | omega | decide | (simp; omega)))) (congrArg (fun n => u32 (x >>> n)) (by simp))) (by decide) ?_
  refine JR.m rfl rfl (Mv.callB body_39 rfl (f39_spec x a ha.1 ha.2) (by repeat (first | exact Picks.nil _ | apply Picks.cons | exact Pull.here _ _ | apply Pull.there)) (by repeat (first | exact Lends.nil _ | apply Lends.cons | exact Lend.same _ _ | exact Lend.row _ _ _ _ _ _ (by decide) | apply Lend.there)) (by rintro _ _ _ ⟨_, h, _⟩; exact h)) (by decide) ?_
  rintro _ _ _ ⟨_, ⟨rfl, _, rfl⟩, hΓ, hH⟩
  simp only [List.cons_append, List.nil_append] at hH; subst hΓ hH
  refine ⟨⟨Subs.sub (by repeat (first | exact Subs.nil _ | apply Subs.cons | exact List.Mem.head _ | refine List.Mem.tail _ ?_)), .inl rfl⟩, ?_⟩
  refine JR.m rfl rfl (Mv.callB body_39 rfl (f39_spec x b hb.1 hb.2) (by repeat (first | exact Picks.nil _ | apply Picks.cons | exact Pull.here _ _ | apply Pull.there)) (by repeat (first | exact Lends.nil _ | apply Lends.cons | exact Lend.same _ _ | exact Lend.row _ _ _ _ _ _ (by decide) | apply Lend.there)) (by rintro _ _ _ ⟨_, h, _⟩; exact h)) (by decide) ?_
  rintro _ _ _ ⟨_, ⟨rfl, _, rfl⟩, hΓ, hH⟩
  simp only [List.cons_append, List.nil_append] at hH; subst hΓ hH
  refine ⟨⟨Subs.sub (by repeat (first | exact Subs.nil _ | apply Subs.cons | exact List.Mem.head _ | refine List.Mem.tail _ ?_)), .inl rfl⟩, ?_⟩
  refine JR.u rfl rfl rfl (Yv.bin rfl rfl (BinR.xor_u32)) (by decide) ?_
  refine JR.u rfl rfl rfl (Yv.bin rfl rfl (BinR.xor_u32)) (by decide) ?_
  refine JR.u rfl rfl rfl (Yv.assign rfl) (by decide) ?_
  refine JR.nil ?_
  refine JQ.then_normal ?_
  refine JC.ret ?_
  exact JQ.done (.inr rfl) (Γ' := []) (H' := []) (res1 rfl (RV.tmp rfl)) (Subs.sub (by repeat (first | exact Subs.nil _ | apply Subs.cons | exact List.Mem.head _ | refine List.Mem.tail _ ?_))) (Picks.perm (by repeat (first | exact Picks.nil _ | apply Picks.cons | exact Pull.here _ _ | apply Pull.there))) ⟨rfl, rfl, rfl⟩


theorem f36_spec (p : Nat) (s : List W32) (bs : B8) (n : BitVec 64) (hs : s.length = 8) (hb : bs.length = 64) :
    Spec Tryd.prog 36 #[(ptr p 0)] [Res.var 1 (sqr.map u32), Res.var 0 (cub.map u32)] [Res.cells p (hcells s bs n) 68]
      (fun r Γ' H' => r = .agg (s.map u32).toArray ∧ Γ' = [] ∧ H' = [Res.cells p (hcells s bs n) 68]) := by
  refine Spec.of_args Tryd.func36 rfl Tryd.ntmps36 (by simp) fun w => ?_
  refine JC.seq ?_
  refine JC.region ?_
  refine JO.alloc _ zero_59 rfl (by decide) fun b2 => ?_
  refine JO.nil ?_
  refine JQ.then_normal ?_
  refine JC.seq ?_
  refine JC.region ?_
  refine JO.v (Yv.move rfl) (by decide) ?_
  refine JO.v (Yv.nilCheck rfl) (by decide) ?_
  refine JO.v (Yv.fieldAddr fa_68_0 rfl) (by decide) ?_
  first | refine JO.v (Yv.as (v' := .agg (nowT s 0).toArray) (Yv.loadOwn agg_59 (by repeat (first | exact List.Mem.head _ | refine List.Mem.tail _ ?_)) rfl (by rw [hcells_len hb]; omega)) (congrArg (fun l : List Value => Value.agg l.toArray) (hc_words s bs n))) (by decide) ?_ | refine JO.v (Yv.as (v' := .agg (nowT s 0).toArray) (Yv.loadOwnAt agg_59 (by repeat (first | exact List.Mem.head _ | refine List.Mem.tail _ ?_)) rfl (by rw [hcells_len hb]; omega)) (congrArg (fun l : List Value => Value.agg l.toArray) (hc_words s bs n))) (by decide) ?_ | refine JO.v (Yv.as (v' := .agg (nowT s 0).toArray) (Yv.loadRow agg_59 (by repeat (first | exact List.Mem.head _ | refine List.Mem.tail _ ?_)) rfl (by rw [hcells_len hb]; omega)) (congrArg (fun l : List Value => Value.agg l.toArray) (hc_words s bs n))) (by decide) ?_ | refine JO.v (Yv.as (v' := .agg (nowT s 0).toArray) (Yv.loadRd agg_59 (by repeat (first | exact Lend.same _ _ | exact Lend.row _ _ _ _ _ _ (by decide) | apply Lend.there)) rfl (by rw [hcells_len hb]; omega)) (congrArg (fun l : List Value => Value.agg l.toArray) (hc_words s bs n))) (by decide) ?_ | refine JO.v (Yv.as (v' := .agg (nowT s 0).toArray) (Yv.loadRo agg_59 (by repeat (first | exact List.Mem.head _ | refine List.Mem.tail _ ?_)) rfl (by rw [hcells_len hb]; omega)) (congrArg (fun l : List Value => Value.agg l.toArray) (hc_words s bs n))) (by decide) ?_
  refine JO.alloc _ zero_59 rfl (by decide) fun b3 => ?_
  first | refine JO.storeAll sz_59 rfl rfl rfl (by first | rfl | (simp; done) | (simp; omega)) (by first | (simp; done) | exact one_map (fun _ => rfl) | exact one_tab (fun _ => rfl) | exact one_tab (fun _ => by split <;> rfl)) (by repeat (first | exact Upd.here _ _ _ | apply Upd.there)) (by first | rfl | (simp; done) | (simp; omega)) ?_ | refine JO.store sz_59 rfl rfl rfl (by first | rfl | (simp; done) | (simp; omega)) (by first | (simp; done) | exact one_sing rfl | exact one_map (fun _ => rfl) | exact one_piece (one_map (fun _ => rfl)) | exact one_tab (fun _ => rfl) | exact one_tab (fun _ => by split <;> rfl)) (by repeat (first | exact Upd.here _ _ _ | apply Upd.there)) (by first | exact ltb rfl | (simp; done) | (simp; omega) | omega | (simp [*]; omega)) ?_ | refine JO.storeRow sz_59 rfl rfl rfl (by first | rfl | simp) (by first | (simp; done) | exact one_map (fun _ => rfl) | exact one_tab (fun _ => rfl) | exact one_tab (fun _ => by split <;> rfl)) (by repeat (first | exact Upd.here _ _ _ | apply Upd.there)) (by first | exact ltb rfl | (simp; done) | (simp; omega) | omega | (simp [*]; omega)) (by first | exact ltb rfl | (simp; done) | (simp; omega) | omega | (simp [*]; omega)) ?_
  refine JO.nil ?_
  refine JQ.then_normal ?_
  refine JC.seq ?_
  refine JC.seq ?_
  refine JC.region ?_
  refine JO.v (Yv.move rfl) (by decide) ?_
  refine JO.nil ?_
  refine JQ.then_normal ?_
  refine JC.block ?_
  refine JC.loop (ι := Nat) (fun x => x ≤ 8) (fun x => [(9, it (x : Int)), (3, ptr b3 0), (2, ptr b2 0)]) (fun x => [Res.var 1 (sqr.map u32), Res.var 0 (cub.map u32)]) (fun x => [Res.cells p (hcells s bs n) 68, Res.cells b3 (nowT s x) 59, Res.cells b2 (List.replicate 8 (u32 0)) 59]) (fun x => 8 - x) 0 (by repeat (first | exact trivial | refine ⟨by first | rfl | (simp; done), ?_⟩)) (Subs.sub (by repeat (first | exact Subs.nil _ | apply Subs.cons | exact List.Mem.head _ | refine List.Mem.tail _ ?_))) (Picks.perm (by repeat (first | exact Picks.nil _ | apply Picks.cons | exact Pull.here _ _ | apply Pull.there))) ?_ (fun x hx => ?_)
  · exact Nat.zero_le _
  refine JC.seq ?_
  refine JC.region ?_
  refine JO.v (Yv.bin rfl rfl BinR.lss_i) (by decide) ?_
  refine JO.nil ?_
  refine JQ.then_normal ?_
  refine JC.seq ?_
  refine JC.cond rfl (fun hc1 => ?_) (fun hc1 => ?_)
  · try simp only [decide_eq_true_eq, decide_eq_false_iff_not, Bool.not_eq_true', Bool.not_eq_false', ne_eq, Decidable.not_not, Bool.not_eq_true, Bool.and_eq_true, Bool.or_eq_true, BitVec.reduceToNat] at hc1
    refine JC.skip ?_
    refine JQ.then_normal ?_
    refine JC.seq ?_
    refine JC.block ?_
    refine JC.seq ?_
    refine JC.region ?_
    refine JO.v (Yv.move rfl) (by decide) ?_
    refine JO.v (Yv.assign rfl) (by decide) ?_
    refine JO.nil ?_
    refine JQ.then_normal ?_
    refine JC.draw (.one 0 (.one 1 (.one 2 (.one 3 (.one 4 (.one 5 (.one 6 (.one 7 (.one 8 .nil))))))))) (fun i => ([8] : List Nat).contains i) (fun i => ([8] : List Nat).contains i) (fun i => ([0, 1, 3, 4, 5, 6, 7] : List Nat).contains i) mixed (by kernel_rfl) (by decide) (by kernel_rfl) ?_
    refine JR.u rfl rfl rfl (Yv.move rfl) (by decide) ?_
    first | refine JR.u rfl rfl rfl (Yv.indexArr1 Tryd.underlying59 sz_58 rfl rfl (by first | exact ltb rfl | (simp; done) | (simp; omega) | omega | (simp [*]; omega))) (by decide) ?_ | refine JR.u rfl rfl rfl (Yv.indexArr1o Tryd.underlying59 sz_58 rfl rfl (by first | exact ltb rfl | (simp; done) | (simp; omega) | omega | (simp [*]; omega))) (by decide) ?_
    refine JR.v rfl rfl rfl (Yv.load1 one_58 rfl (by first | exact Kn.own (by repeat (first | exact List.Mem.head _ | refine List.Mem.tail _ ?_)) (by first | first | exact nowT_get s (by omega) | rfl | exact tab_get (by first | omega | (simp; omega)) | exact gm (d := 0) (by first | omega | (simp; omega))) | exact Kn.ro (by repeat (first | exact List.Mem.head _ | refine List.Mem.tail _ ?_)) (by first | first | exact nowT_get s (by omega) | rfl | exact tab_get (by first | omega | (simp; omega)) | exact gm (d := 0) (by first | omega | (simp; omega))) | exact Kn.row (by repeat (first | exact List.Mem.head _ | refine List.Mem.tail _ ?_)) (by first | first | exact nowT_get s (by omega) | rfl | exact tab_get (by first | omega | (simp; omega)) | exact gm (d := 0) (by first | omega | (simp; omega))) | exact Kn.rd (by repeat (first | exact Lend.same _ _ | exact Lend.row _ _ _ _ _ _ (by decide) | apply Lend.there)) (by first | first | exact nowT_get s (by omega) | rfl | exact tab_get (by first | omega | (simp; omega)) | exact gm (d := 0) (by first | omega | (simp; omega))) | exact Kn.rd2 (by repeat (first | exact Lend.same _ _ | exact Lend.row _ _ _ _ _ _ (by decide) | apply Lend.there)) (by first | first | exact nowT_get s (by omega) | rfl | exact tab_get (by first | omega | (simp; omega)) | exact gm (d := 0) (by first | omega | (simp; omega))) | exact Kn.var (by repeat (first | exact List.Mem.head _ | refine List.Mem.tail _ ?_)) (by first | first | exact nowT_get s (by omega) | rfl | exact tab_get (by first | omega | (simp; omega)) | exact gm (d := 0) (by first | omega | (simp; omega))))) (by decide) ?_
    refine JR.u rfl rfl rfl (Yv.move rfl) (by decide) ?_
    first | refine JR.u rfl rfl rfl (Yv.indexArr1 Tryd.underlying59 sz_58 rfl rfl (by first | exact ltb rfl | (simp; done) | (simp; omega) | omega | (simp [*]; omega))) (by decide) ?_ | refine JR.u rfl rfl rfl (Yv.indexArr1o Tryd.underlying59 sz_58 rfl rfl (by first | exact ltb rfl | (simp; done) | (simp; omega) | omega | (simp [*]; omega))) (by decide) ?_
    refine JR.u rfl rfl rfl (Yv.load1 one_58 rfl (by first | exact Kn.own (by repeat (first | exact List.Mem.head _ | refine List.Mem.tail _ ?_)) (by first | first | exact nowT_get s (by omega) | rfl | exact tab_get (by first | omega | (simp; omega)) | exact gm (d := 0) (by first | omega | (simp; omega))) | exact Kn.ro (by repeat (first | exact List.Mem.head _ | refine List.Mem.tail _ ?_)) (by first | first | exact nowT_get s (by omega) | rfl | exact tab_get (by first | omega | (simp; omega)) | exact gm (d := 0) (by first | omega | (simp; omega))) | exact Kn.row (by repeat (first | exact List.Mem.head _ | refine List.Mem.tail _ ?_)) (by first | first | exact nowT_get s (by omega) | rfl | exact tab_get (by first | omega | (simp; omega)) | exact gm (d := 0) (by first | omega | (simp; omega))) | exact Kn.rd (by repeat (first | exact Lend.same _ _ | exact Lend.row _ _ _ _ _ _ (by decide) | apply Lend.there)) (by first | first | exact nowT_get s (by omega) | rfl | exact tab_get (by first | omega | (simp; omega)) | exact gm (d := 0) (by first | omega | (simp; omega))) | exact Kn.rd2 (by repeat (first | exact Lend.same _ _ | exact Lend.row _ _ _ _ _ _ (by decide) | apply Lend.there)) (by first | first | exact nowT_get s (by omega) | rfl | exact tab_get (by first | omega | (simp; omega)) | exact gm (d := 0) (by first | omega | (simp; omega))) | exact Kn.var (by repeat (first | exact List.Mem.head _ | refine List.Mem.tail _ ?_)) (by first | first | exact nowT_get s (by omega) | rfl | exact tab_get (by first | omega | (simp; omega)) | exact gm (d := 0) (by first | omega | (simp; omega))))) (by decide) ?_
    refine JR.u rfl rfl rfl (Yv.as (v' := u32 (s.getD x 0)) (Yv.bin rfl rfl (BinR.xor_u32)) (congrArg u32 (xor_back _ _))) (by decide) ?_
    first | refine JR.u rfl rfl rfl (Yv.indexArr1 Tryd.underlying59 sz_58 rfl rfl (by first | exact ltb rfl | (simp; done) | (simp; omega) | omega | (simp [*]; omega))) (by decide) ?_ | refine JR.u rfl rfl rfl (Yv.indexArr1o Tryd.underlying59 sz_58 rfl rfl (by first | exact ltb rfl | (simp; done) | (simp; omega) | omega | (simp [*]; omega))) (by decide) ?_
    first | refine JR.m0 rfl rfl (Mv.store1 sz_58 rfl rfl rfl (by repeat (first | exact Upd.here _ _ _ | apply Upd.there)) (by first | exact ltb rfl | (simp; done) | (simp; omega) | omega | (simp [*]; omega))) ?_ | refine JR.m0 rfl rfl (Mv.storeRow1 sz_58 rfl rfl rfl (by repeat (first | exact Upd.here _ _ _ | apply Upd.there)) (by first | exact ltb rfl | (simp; done) | (simp; omega) | omega | (simp [*]; omega)) (by first | rfl | (simp; done) | omega | (simp; omega))) ?_
    rintro _ _ _ ⟨rfl, rfl⟩
    refine ⟨⟨Subs.sub (by repeat (first | exact Subs.nil _ | apply Subs.cons | exact List.Mem.head _ | refine List.Mem.tail _ ?_)), .inl rfl⟩, ?_⟩
    refine JR.nil ?_
    refine JQ.block_normal ?_
    refine JQ.then_normal ?_
    refine JC.region ?_
    refine JO.v (Yv.bin rfl rfl (BinR.add_i (by first | (constructor <;> omega) | (constructor <;> simp <;> omega)))) (by decide) ?_
    refine JO.v (Yv.move rfl) (by decide) ?_
    refine JO.nil ?_
    rw [nowT_set]
    refine JQ.head (x + 1) (by repeat (first | exact trivial | refine ⟨by first | rfl | (simp; done), ?_⟩)) (Subs.sub (by repeat (first | exact Subs.nil _ | apply Subs.cons | exact List.Mem.head _ | refine List.Mem.tail _ ?_))) (Picks.perm (by repeat (first | exact Picks.nil _ | apply Picks.cons | exact Pull.here _ _ | apply Pull.there))) ?_
    exact ⟨by omega, by omega⟩
  · try simp only [decide_eq_true_eq, decide_eq_false_iff_not, Bool.not_eq_true', Bool.not_eq_false', ne_eq, Decidable.not_not, Bool.not_eq_true, Bool.and_eq_true, Bool.or_eq_true, BitVec.reduceToNat] at hc1
    obtain rfl : x = 8 := by omega
    refine JC.exit ?_
    refine JQ.then_exit ?_
    refine JQ.then_exit ?_
    refine JQ.block_exit ?_
    refine JQ.then_normal ?_
    refine JC.seq ?_
    refine JC.region ?_
    first | refine JO.v (Yv.as (v' := .agg (s.map u32).toArray) (Yv.loadOwn agg_59 (by repeat (first | exact List.Mem.head _ | refine List.Mem.tail _ ?_)) rfl (by first | rfl | (simp; done) | (simp; omega) | (simp [*]; done))) (congrArg (fun l : List Value => Value.agg l.toArray) (nowT_8 hs))) (by decide) ?_ | refine JO.v (Yv.as (v' := .agg (s.map u32).toArray) (Yv.loadOwnAt agg_59 (by repeat (first | exact List.Mem.head _ | refine List.Mem.tail _ ?_)) rfl (by first | rfl | (simp; done) | (simp; omega) | (simp [*]; done))) (congrArg (fun l : List Value => Value.agg l.toArray) (nowT_8 hs))) (by decide) ?_ | refine JO.v (Yv.as (v' := .agg (s.map u32).toArray) (Yv.loadRow agg_59 (by repeat (first | exact List.Mem.head _ | refine List.Mem.tail _ ?_)) rfl (by first | rfl | (simp; done) | (simp; omega) | (simp [*]; done))) (congrArg (fun l : List Value => Value.agg l.toArray) (nowT_8 hs))) (by decide) ?_ | refine JO.v (Yv.as (v' := .agg (s.map u32).toArray) (Yv.loadRd agg_59 (by repeat (first | exact Lend.same _ _ | exact Lend.row _ _ _ _ _ _ (by decide) | apply Lend.there)) rfl (by first | rfl | (simp; done) | (simp; omega) | (simp [*]; done))) (congrArg (fun l : List Value => Value.agg l.toArray) (nowT_8 hs))) (by decide) ?_ | refine JO.v (Yv.as (v' := .agg (s.map u32).toArray) (Yv.loadRo agg_59 (by repeat (first | exact List.Mem.head _ | refine List.Mem.tail _ ?_)) rfl (by first | rfl | (simp; done) | (simp; omega) | (simp [*]; done))) (congrArg (fun l : List Value => Value.agg l.toArray) (nowT_8 hs))) (by decide) ?_
    first | refine JO.storeAll sz_59 rfl rfl rfl (by first | rfl | (simp; done) | (simp; omega)) (by first | (simp; done) | exact one_map (fun _ => rfl) | exact one_tab (fun _ => rfl) | exact one_tab (fun _ => by split <;> rfl)) (by repeat (first | exact Upd.here _ _ _ | apply Upd.there)) (by first | rfl | (simp; done) | (simp; omega)) ?_ | refine JO.store sz_59 rfl rfl rfl (by first | rfl | (simp; done) | (simp; omega)) (by first | (simp; done) | exact one_sing rfl | exact one_map (fun _ => rfl) | exact one_piece (one_map (fun _ => rfl)) | exact one_tab (fun _ => rfl) | exact one_tab (fun _ => by split <;> rfl)) (by repeat (first | exact Upd.here _ _ _ | apply Upd.there)) (by first | exact ltb rfl | (simp; done) | (simp; omega) | omega | (simp [*]; omega)) ?_ | refine JO.storeRow sz_59 rfl rfl rfl (by first | rfl | simp) (by first | (simp; done) | exact one_map (fun _ => rfl) | exact one_tab (fun _ => rfl) | exact one_tab (fun _ => by split <;> rfl)) (by repeat (first | exact Upd.here _ _ _ | apply Upd.there)) (by first | exact ltb rfl | (simp; done) | (simp; omega) | omega | (simp [*]; omega)) (by first | exact ltb rfl | (simp; done) | (simp; omega) | omega | (simp [*]; omega)) ?_
    refine JO.nil ?_
    refine JQ.then_normal ?_
    refine JC.ret ?_
    exact JQ.done (.inr rfl) (Γ' := []) (H' := [Res.cells p (hcells s bs n) 68]) (res1 rfl (RV.cell agg_59 (by repeat (first | exact List.Mem.head _ | refine List.Mem.tail _ ?_)) rfl (by simp [hs]))) (Subs.sub (by repeat (first | exact Subs.nil _ | apply Subs.cons | exact List.Mem.head _ | refine List.Mem.tail _ ?_))) (Picks.perm (by repeat (first | exact Picks.nil _ | apply Picks.cons | exact Pull.here _ _ | apply Pull.there))) ⟨rfl, rfl, rfl⟩


theorem f35_spec (p : Nat) (s : List W32) (bs : B8) (n : BitVec 64) (hs : s.length = 8) (hb : bs.length = 64) :
    Spec Tryd.prog 35 #[(ptr p 0)] [] [Res.cells p (hcells s bs n) 68]
      (fun r Γ' H' => ∃ q, r = ptr q 0 ∧ Γ' = [] ∧ H' = [Res.cells q (hcells s bs n) 68, Res.cells p (hcells s bs n) 68]) := by
  refine Spec.of_args Tryd.func35 rfl Tryd.ntmps35 (by simp) fun w => ?_
  refine JC.seq ?_
  refine JC.region ?_
  refine JO.v (Yv.assign rfl) (by decide) ?_
  refine JO.nil ?_
  refine JQ.then_normal ?_
  refine JC.seq ?_
  refine JC.region ?_
  refine JO.v (Yv.move rfl) (by decide) ?_
  refine JO.v (Yv.nilCheck rfl) (by decide) ?_
  first | refine JO.v (Yv.loadOwn agg_68 (by repeat (first | exact List.Mem.head _ | refine List.Mem.tail _ ?_)) rfl (hcells_len hb)) (by decide) ?_ | refine JO.v (Yv.loadOwnAt agg_68 (by repeat (first | exact List.Mem.head _ | refine List.Mem.tail _ ?_)) rfl (hcells_len hb)) (by decide) ?_ | refine JO.v (Yv.loadRow agg_68 (by repeat (first | exact List.Mem.head _ | refine List.Mem.tail _ ?_)) rfl (hcells_len hb)) (by decide) ?_ | refine JO.v (Yv.loadRd agg_68 (by repeat (first | exact Lend.same _ _ | exact Lend.row _ _ _ _ _ _ (by decide) | apply Lend.there)) rfl (hcells_len hb)) (by decide) ?_ | refine JO.v (Yv.loadRo agg_68 (by repeat (first | exact List.Mem.head _ | refine List.Mem.tail _ ?_)) rfl (hcells_len hb)) (by decide) ?_
  refine JO.alloc _ zero_68 rfl (by decide) fun b3 => ?_
  refine JO.storeAll sz_68 rfl rfl rfl (hcells_len hb) (hcells_one s bs n) (by repeat (first | exact Upd.here _ _ _ | apply Upd.there)) (by first | rfl | (simp; done)) ?_
  refine JO.nil ?_
  refine JQ.then_normal ?_
  refine JC.seq ?_
  refine JC.region ?_
  refine JO.v (Yv.assign rfl) (by decide) ?_
  refine JO.nil ?_
  refine JQ.then_normal ?_
  refine JC.ret ?_
  exact JQ.done (.inr rfl) (Γ' := []) (H' := [Res.cells _ (hcells s bs n) 68, Res.cells p (hcells s bs n) 68]) (res1 rfl (RV.tmp rfl)) (Subs.sub (by repeat (first | exact Subs.nil _ | apply Subs.cons | exact List.Mem.head _ | refine List.Mem.tail _ ?_))) (Picks.perm (by repeat (first | exact Picks.nil _ | apply Picks.cons | exact Pull.here _ _ | apply Pull.there))) ⟨_, rfl, rfl, rfl⟩
end Go.Proofs.YtganfkmkapogmaaDoor
