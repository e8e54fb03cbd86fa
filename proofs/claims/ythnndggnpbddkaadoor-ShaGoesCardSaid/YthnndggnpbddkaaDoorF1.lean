/- Walks: words turned. -/
import Derived.Test.YthnndggnpbddkaaDoorS6
import Derived.Test.YthnndggnpbddkaaDoorB
namespace Go.Proofs.YthnndggnpbddkaaDoor
open Go.RowKit
set_option maxRecDepth 100000
set_option linter.unusedVariables false
set_option linter.unusedSimpArgs false

theorem f21_spec (x : W32) (a : Nat) (h0 : 0 < a) (ha : a < 32) :
    Spec Tryd.prog 21 #[u32 x, (it (-(a : Int)))] [] []
      (fun r Γ' H' => r = u32 (rr x a) ∧ Γ' = [] ∧ H' = []) := by
  refine Spec.of_args Tryd.func21 rfl Tryd.ntmps21 (by simp) fun w => ?_
  refine JC.seq ?_
  refine JC.region ?_
  refine JO.v (Yv.assign rfl) (by decide) ?_
  refine JO.nil ?_
  refine JQ.then_normal ?_
  refine JC.seq ?_
  refine JC.region ?_
  refine JO.v (Yv.move rfl) (by decide) ?_
  refine JO.v (Yv.conv_i_u64 Tryd.underlying3 Tryd.underlying48 rfl) (by decide) ?_
  refine JO.v (Yv.as (v' := u64 (BitVec.ofNat 64 (32 - a))) (Yv.bin rfl rfl (BinR.and_u64 (b := 31#64))) (congrArg u64 (rot_and a h0 ha))) (by decide) ?_
  refine JO.v (Yv.assign rfl) (by decide) ?_
  refine JO.nil ?_
  refine JQ.then_normal ?_
  refine JC.seq ?_
  refine JC.region ?_
  refine JO.v (Yv.move rfl) (by decide) ?_
  refine JO.v (Yv.move rfl) (by decide) ?_
  refine JO.v (Yv.as (v' := u32 (x <<< (32 - a))) (Yv.bin rfl rfl (BinR.shl_u32_u64)) (congrArg (fun n => u32 (x <<< n)) (by rw [BitVec.toNat_ofNat]; omega))) (by decide) ?_
  refine JO.v (Yv.move rfl) (by decide) ?_
  refine JO.v (Yv.move rfl) (by decide) ?_
  refine JO.v (Yv.as (v' := u64 (BitVec.ofNat 64 a)) (Yv.bin rfl rfl (BinR.sub_u64 (a := 32#64))) (congrArg u64 (rot_sub a h0 ha))) (by decide) ?_
  refine JO.v (Yv.as (v' := u32 (x >>> a)) (Yv.bin rfl rfl (BinR.shr_u32_u64)) (congrArg (fun n => u32 (x >>> n)) (by rw [BitVec.toNat_ofNat]; omega))) (by decide) ?_
  refine JO.v (Yv.as (v' := u32 (rr x a)) (Yv.bin rfl rfl (BinR.or_u32)) (congrArg u32 (BitVec.or_comm _ _))) (by decide) ?_
  refine JO.v (Yv.assign rfl) (by decide) ?_
  refine JO.nil ?_
  refine JQ.then_normal ?_
  refine JC.ret ?_
  exact JQ.done (.inr rfl) (Γ' := []) (H' := []) (res1 rfl (RV.tmp rfl)) (Subs.sub (by repeat (first | exact Subs.nil _ | apply Subs.cons | exact List.Mem.head _ | refine List.Mem.tail _ ?_))) (Picks.perm (by repeat (first | exact Picks.nil _ | apply Picks.cons | exact Pull.here _ _ | apply Pull.there))) ⟨rfl, rfl, rfl⟩


theorem f20_spec (x : W32) (a : Nat) (h0 : 0 < a) (ha : a < 32) :
    Spec Tryd.prog 20 #[u32 x, (it (a : Int))] [] []
      (fun r Γ' H' => r = u32 (rr x a) ∧ Γ' = [] ∧ H' = []) := by
  refine Spec.of_args Tryd.func20 rfl Tryd.ntmps20 (by simp) fun w => ?_
  refine JC.seq ?_
  refine JC.region ?_
  refine JO.v (Yv.assign rfl) (by decide) ?_
  refine JO.nil ?_
  refine JQ.then_normal ?_
  refine JC.seq ?_
  refine JC.draw (.one 0 (.one 1 (.one 2 (.one 3 (.one 4 (.one 5 (.one 6 (.one 7 (.one 8 .nil))))))))) (fun i => ([] : List Nat).contains i) (fun i => ([] : List Nat).contains i) (fun i => ([0, 1, 2, 3, 4, 5, 6, 7, 8] : List Nat).contains i) mixed (by kernel_rfl) (by decide) (by kernel_rfl) ?_
  refine JR.u rfl rfl rfl (Yv.move rfl) (by decide) ?_
  refine JR.u rfl rfl rfl (Yv.move rfl) (by decide) ?_
  refine JR.u rfl rfl rfl (Yv.bin rfl rfl (BinR.shr_u32_i (by first | omega | decide | (simp; omega)))) (by decide) ?_
  refine JR.u rfl rfl rfl (Yv.move rfl) (by decide) ?_
  refine JR.u rfl rfl rfl (Yv.move rfl) (by decide) ?_
  refine JR.u rfl rfl rfl (Yv.as (v' := it ((32 - a : Nat) : Int)) (Yv.bin rfl rfl (BinR.sub_i (by first | (constructor <;> omega) | (constructor <;> simp <;> omega)))) (congrArg it (by omega))) (by decide) ?_
  refine JR.u rfl rfl rfl (Yv.bin rfl rfl (BinR.shl_u32_i (by first | omega | decide | (simp; omega)))) (by decide) ?_
  refine JR.u rfl rfl rfl (Yv.as (v' := u32 (rr x a)) (Yv.bin rfl rfl (BinR.add_u32)) (congrArg u32 (by simpa using right_eq x a h0 ha))) (by decide) ?_
  refine JR.u rfl rfl rfl (Yv.assign rfl) (by decide) ?_
  refine JR.nil ?_
  refine JQ.then_normal ?_
  refine JC.ret ?_
  exact JQ.done (.inr rfl) (Γ' := []) (H' := []) (res1 rfl (RV.tmp rfl)) (Subs.sub (by repeat (first | exact Subs.nil _ | apply Subs.cons | exact List.Mem.head _ | refine List.Mem.tail _ ?_))) (Picks.perm (by repeat (first | exact Picks.nil _ | apply Picks.cons | exact Pull.here _ _ | apply Pull.there))) ⟨rfl, rfl, rfl⟩


theorem f19_spec (x : W32) (a b c : Nat) (ha : 0 < a ∧ a < 32) (hb : 0 < b ∧ b < 32) (hc : 0 < c ∧ c < 32) :
    Spec Tryd.prog 19 #[u32 x, (it (a : Int)), (it (b : Int)), (it (c : Int))] [] []
      (fun r Γ' H' => r = u32 (rr x a ^^^ rr x b ^^^ rr x c) ∧ Γ' = [] ∧ H' = []) := by
  refine Spec.of_args Tryd.func19 rfl Tryd.ntmps19 (by simp) fun w => ?_
  refine JC.seq ?_
  refine JC.region ?_
  refine JO.v (Yv.assign rfl) (by decide) ?_
  refine JO.nil ?_
  refine JQ.then_normal ?_
  refine JC.seq ?_
  refine JC.region ?_
  refine JO.v (Yv.move rfl) (by decide) ?_
  refine JO.v (Yv.move rfl) (by decide) ?_
  refine JO.v (Yv.neg_i rfl (by first | (constructor <;> omega) | (constructor <;> simp <;> omega))) (by decide) ?_
  refine JO.callB (f21_spec x a ha.1 ha.2) body_21 rfl (by repeat (first | exact Picks.nil _ | apply Picks.cons | exact Pull.here _ _ | apply Pull.there)) (by repeat (first | exact Lends.nil _ | apply Lends.cons | exact Lend.same _ _ | exact Lend.row _ _ _ _ _ _ (by decide) | apply Lend.there)) (by rintro _ _ _ ⟨_, h, _⟩; exact h) (by decide) ?_
  rintro _ _ ⟨_, ⟨rfl, _, rfl⟩, hH⟩
  simp only [List.cons_append, List.nil_append] at hH; subst hH
  refine JO.v (Yv.move rfl) (by decide) ?_
  refine JO.v (Yv.move rfl) (by decide) ?_
  refine JO.v (Yv.neg_i rfl (by first | (constructor <;> omega) | (constructor <;> simp <;> omega))) (by decide) ?_
  refine JO.callB (f21_spec x b hb.1 hb.2) body_21 rfl (by repeat (first | exact Picks.nil _ | apply Picks.cons | exact Pull.here _ _ | apply Pull.there)) (by repeat (first | exact Lends.nil _ | apply Lends.cons | exact Lend.same _ _ | exact Lend.row _ _ _ _ _ _ (by decide) | apply Lend.there)) (by rintro _ _ _ ⟨_, h, _⟩; exact h) (by decide) ?_
  rintro _ _ ⟨_, ⟨rfl, _, rfl⟩, hH⟩
  simp only [List.cons_append, List.nil_append] at hH; subst hH
  refine JO.v (Yv.bin rfl rfl (BinR.xor_u32)) (by decide) ?_
  refine JO.v (Yv.move rfl) (by decide) ?_
  refine JO.v (Yv.move rfl) (by decide) ?_
  refine JO.v (Yv.neg_i rfl (by first | (constructor <;> omega) | (constructor <;> simp <;> omega))) (by decide) ?_
  refine JO.callB (f21_spec x c hc.1 hc.2) body_21 rfl (by repeat (first | exact Picks.nil _ | apply Picks.cons | exact Pull.here _ _ | apply Pull.there)) (by repeat (first | exact Lends.nil _ | apply Lends.cons | exact Lend.same _ _ | exact Lend.row _ _ _ _ _ _ (by decide) | apply Lend.there)) (by rintro _ _ _ ⟨_, h, _⟩; exact h) (by decide) ?_
  rintro _ _ ⟨_, ⟨rfl, _, rfl⟩, hH⟩
  simp only [List.cons_append, List.nil_append] at hH; subst hH
  refine JO.v (Yv.bin rfl rfl (BinR.xor_u32)) (by decide) ?_
  refine JO.v (Yv.assign rfl) (by decide) ?_
  refine JO.nil ?_
  refine JQ.then_normal ?_
  refine JC.ret ?_
  exact JQ.done (.inr rfl) (Γ' := []) (H' := []) (res1 rfl (RV.tmp rfl)) (Subs.sub (by repeat (first | exact Subs.nil _ | apply Subs.cons | exact List.Mem.head _ | refine List.Mem.tail _ ?_))) (Picks.perm (by repeat (first | exact Picks.nil _ | apply Picks.cons | exact Pull.here _ _ | apply Pull.there))) ⟨rfl, rfl, rfl⟩


theorem f18_spec (x : W32) (a b c : Nat) (ha : 0 < a ∧ a < 32) (hb : 0 < b ∧ b < 32) (hc : 0 < c ∧ c < 32) :
    Spec Tryd.prog 18 #[u32 x, (it (a : Int)), (it (b : Int)), (it (c : Int))] [] []
      (fun r Γ' H' => r = u32 (rr x a ^^^ rr x b ^^^ x >>> c) ∧ Γ' = [] ∧ H' = []) := by
  refine Spec.of_args Tryd.func18 rfl Tryd.ntmps18 (by simp) fun w => ?_
  refine JC.seq ?_
  refine JC.region ?_
  refine JO.v (Yv.assign rfl) (by decide) ?_
  refine JO.nil ?_
  refine JQ.then_normal ?_
  refine JC.seq ?_
  refine JC.draw (.one 0 (.one 1 (.one 2 (.one 4 (.one 5 (.one 6 (.one 9 (.one 10 (.one 11 (.one 3 (.one 7 (.one 8 (.one 12 (.one 13 .nil)))))))))))))) (fun i => ([3, 7] : List Nat).contains i) (fun i => ([3, 7] : List Nat).contains i) (fun i => ([0, 1, 2, 4, 5, 6, 8, 9, 10, 11, 12, 13] : List Nat).contains i) mixed (by kernel_rfl) (by decide) (by kernel_rfl) ?_
  refine JR.u rfl rfl rfl (Yv.move rfl) (by decide) ?_
  refine JR.u rfl rfl rfl (Yv.move rfl) (by decide) ?_
  refine JR.u rfl rfl rfl (Yv.neg_i rfl (by first | (constructor <;> omega) | (constructor <;> simp <;> omega))) (by decide) ?_
  refine JR.u rfl rfl rfl (Yv.move rfl) (by decide) ?_
  refine JR.u rfl rfl rfl (Yv.move rfl) (by decide) ?_
  refine JR.u rfl rfl rfl (Yv.neg_i rfl (by first | (constructor <;> omega) | (constructor <;> simp <;> omega))) (by decide) ?_
  refine JR.u rfl rfl rfl (Yv.move rfl) (by decide) ?_
  refine JR.u rfl rfl rfl (Yv.move rfl) (by decide) ?_
  refine JR.u rfl rfl rfl (Yv.as (v' := u32 (x >>> c)) (Yv.bin rfl rfl (BinR.shr_u32_i (by first | omega | decide | (simp; omega)))) (congrArg (fun n => u32 (x >>> n)) (by simp))) (by decide) ?_
  refine JR.m rfl rfl (Mv.callB body_21 rfl (f21_spec x a ha.1 ha.2) (by repeat (first | exact Picks.nil _ | apply Picks.cons | exact Pull.here _ _ | apply Pull.there)) (by repeat (first | exact Lends.nil _ | apply Lends.cons | exact Lend.same _ _ | exact Lend.row _ _ _ _ _ _ (by decide) | apply Lend.there)) (by rintro _ _ _ ⟨_, h, _⟩; exact h)) (by decide) ?_
  rintro _ _ _ ⟨_, ⟨rfl, _, rfl⟩, hΓ, hH⟩
  simp only [List.cons_append, List.nil_append] at hH; subst hΓ hH
  refine ⟨⟨Subs.sub (by repeat (first | exact Subs.nil _ | apply Subs.cons | exact List.Mem.head _ | refine List.Mem.tail _ ?_)), .inl rfl⟩, ?_⟩
  refine JR.m rfl rfl (Mv.callB body_21 rfl (f21_spec x b hb.1 hb.2) (by repeat (first | exact Picks.nil _ | apply Picks.cons | exact Pull.here _ _ | apply Pull.there)) (by repeat (first | exact Lends.nil _ | apply Lends.cons | exact Lend.same _ _ | exact Lend.row _ _ _ _ _ _ (by decide) | apply Lend.there)) (by rintro _ _ _ ⟨_, h, _⟩; exact h)) (by decide) ?_
  rintro _ _ _ ⟨_, ⟨rfl, _, rfl⟩, hΓ, hH⟩
  simp only [List.cons_append, List.nil_append] at hH; subst hΓ hH
  refine ⟨⟨Subs.sub (by repeat (first | exact Subs.nil _ | apply Subs.cons | exact List.Mem.head _ | refine List.Mem.tail _ ?_)), .inl rfl⟩, ?_⟩
  refine JR.u rfl rfl rfl (Yv.bin rfl rfl (BinR.xor_u32)) (by decide) ?_
  refine JR.u rfl rfl rfl (Yv.bin rfl rfl (BinR.xor_u32)) (by decide) ?_
  refine JR.u rfl rfl rfl (Yv.assign rfl) (by decide) ?_
  refine JR.nil ?_
  refine JQ.then_normal ?_
  refine JC.ret ?_
  exact JQ.done (.inr rfl) (Γ' := []) (H' := []) (res1 rfl (RV.tmp rfl)) (Subs.sub (by repeat (first | exact Subs.nil _ | apply Subs.cons | exact List.Mem.head _ | refine List.Mem.tail _ ?_))) (Picks.perm (by repeat (first | exact Picks.nil _ | apply Picks.cons | exact Pull.here _ _ | apply Pull.there))) ⟨rfl, rfl, rfl⟩
end Go.Proofs.YthnndggnpbddkaaDoor
