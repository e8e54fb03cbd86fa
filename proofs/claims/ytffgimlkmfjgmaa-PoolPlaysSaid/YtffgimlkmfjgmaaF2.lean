/- Walks: copies; how long a number is. -/
import Derived.Test.YtffgimlkmfjgmaaF1
namespace Go.Proofs.Ytffgimlkmfjgmaa
open Go.RowKit
set_option maxRecDepth 100000
set_option linter.unusedVariables false
set_option linter.unusedSimpArgs false

theorem f35_spec (v : Value) (n : Nat) (xs : List Value) (hn : n ≤ 70368744177664) (h1 : ∀ a ∈ xs, a.oneCell' = true) :
    Spec Try.prog 35 #[v] [Res.rd v n 1 xs] []
      (fun r Γ' H' => True ∧ Γ' = [] ∧ H' = [Res.row r n 5 1 xs]) := by
  refine Spec.know (φ := ∃ A c, v = .slice A n c ∧ (A = none → xs = []) ∧ xs.length = n * 1 ∧ n ≤ c ∧ n ≤ maxLen) (fun w hs => hs.rdForm (.head _)) ?_
  rintro ⟨A, c, rfl, hA, hl, hc, hm⟩
  refine Spec.of_args Try.func35 rfl Try.ntmps35 (by simp) fun w => ?_
  refine JC.seq ?_
  refine JC.region ?_
  refine JO.v (Yv.assign rfl) (by decide) ?_
  refine JO.nil ?_
  refine JQ.then_normal ?_
  refine JC.seq ?_
  refine JC.seq ?_
  refine JC.region ?_
  refine JO.v (Yv.move rfl) (by decide) ?_
  refine JO.v (Yv.bin rfl rfl (BinR.eql_s Try.underlying24)) (by decide) ?_
  refine JO.nil ?_
  refine JQ.then_normal ?_
  refine JC.cond rfl (fun hc1 => ?_) (fun hc1 => ?_)
  · try simp only [decide_eq_true_eq, decide_eq_false_iff_not, Bool.not_eq_true', Bool.not_eq_false', ne_eq, Decidable.not_not, Bool.not_eq_true, Bool.and_eq_true, Bool.or_eq_true, BitVec.reduceToNat] at hc1
    have hA0 : A = none := by cases A <;> simp_all
    have hx := hA hA0
    have hn0 : n = 0 := by rw [hx] at hl; simpa using hl.symm
    subst hx hn0
    refine JC.seq ?_
    refine JC.region ?_
    refine JO.nilRow 5 1 ?_
    refine JO.v (Yv.assign rfl) (by decide) ?_
    refine JO.nil ?_
    refine JQ.then_normal ?_
    refine JC.ret ?_
    refine JQ.then_ret ?_
    exact JQ.done (.inr rfl) (Γ' := []) (H' := [Res.row (.slice none 0 0) 0 5 1 []]) (res1 rfl (RV.tmp rfl)) (Subs.sub (by repeat (first | exact Subs.nil _ | apply Subs.cons | exact List.Mem.head _ | refine List.Mem.tail _ ?_))) (Picks.perm (by repeat (first | exact Picks.nil _ | apply Picks.cons | exact Pull.here _ _ | apply Pull.there))) ⟨trivial, rfl, rfl⟩
  · try simp only [decide_eq_true_eq, decide_eq_false_iff_not, Bool.not_eq_true', Bool.not_eq_false', ne_eq, Decidable.not_not, Bool.not_eq_true, Bool.and_eq_true, Bool.or_eq_true, BitVec.reduceToNat] at hc1
    refine JC.skip ?_
    refine JQ.then_normal ?_
    refine JC.seq ?_
    refine JC.region ?_
    refine JO.buildEmpty Try.underlying24 sz_5 (by decide) fun v5 => ?_
    refine JO.v (Yv.move rfl) (by decide) ?_
    refine JO.append Try.underlying24 info_5 rfl (by decide) rfl rfl (by repeat (first | exact Pull.here _ _ | apply Pull.there)) (by first | exact Src.nil | exact Src.rd (by repeat (first | exact Lend.same _ _ | exact Lend.row _ _ _ _ _ _ (by decide) | apply Lend.there)) (by decide) | exact Src.cells (by repeat (first | exact List.Mem.head _ | refine List.Mem.tail _ ?_)) (by simp)) h1 (by unfold maxLen; omega) (by omega) (by decide) fun v7 => ?_
    refine JO.v (Yv.assign rfl) (by decide) ?_
    refine JO.nil ?_
    refine JQ.then_normal ?_
    refine JC.ret ?_
    exact JQ.done (.inr rfl) (Γ' := []) (H' := [Res.row _ (0 + n) 5 1 ([] ++ xs)]) (res1 rfl (RV.tmp rfl)) (Subs.sub (by repeat (first | exact Subs.nil _ | apply Subs.cons | exact List.Mem.head _ | refine List.Mem.tail _ ?_))) (Picks.perm (by repeat (first | exact Picks.nil _ | apply Picks.cons | exact Pull.here _ _ | apply Pull.there))) ⟨trivial, rfl, by rw [Nat.zero_add, List.nil_append]⟩


theorem f39_spec (x : BitVec 64) :
    Spec Try.prog 39 #[u64 x] [] []
      (fun r Γ' H' => r = it (len64 x : Int) ∧ Γ' = [] ∧ H' = []) := by
  refine Spec.of_args Try.func39 rfl Try.ntmps39 (by simp) fun w => ?_
  refine JC.seq ?_
  refine JC.region ?_
  refine JO.v (Yv.assign rfl) (by decide) ?_
  refine JO.nil ?_
  refine JQ.then_normal ?_
  refine JC.seq ?_
  refine JC.seq ?_
  refine JC.region ?_
  refine JO.v (Yv.move rfl) (by decide) ?_
  refine JO.v (Yv.bin rfl rfl (BinR.geq_u64 (b := 4294967296#64))) (by decide) ?_
  refine JO.nil ?_
  refine JQ.then_normal ?_
  refine JC.cond rfl (fun hc1 => ?_) (fun hc1 => ?_)
  · try simp only [decide_eq_true_eq, decide_eq_false_iff_not, Bool.not_eq_true', Bool.not_eq_false', ne_eq, Decidable.not_not, Bool.not_eq_true, Bool.and_eq_true, Bool.or_eq_true, BitVec.reduceToNat] at hc1
    have e1 := len64_s32 hc1
    refine JC.seq ?_
    refine JC.region ?_
    refine JO.v (Yv.move rfl) (by decide) ?_
    refine JO.v (Yv.as (v' := u64 (x >>> 32)) (Yv.bin rfl rfl (BinR.shr_u64_u64 (n := 32#64))) rfl) (by decide) ?_
    refine JO.v (Yv.assign rfl) (by decide) ?_
    refine JO.nil ?_
    refine JQ.then_normal ?_
    refine JC.region ?_
    refine JO.v (Yv.assign rfl) (by decide) ?_
    refine JO.nil ?_
    refine JQ.then_normal ?_
    refine JC.seq ?_
    refine JC.seq ?_
    refine JC.region ?_
    refine JO.v (Yv.move rfl) (by decide) ?_
    refine JO.v (Yv.bin rfl rfl (BinR.geq_u64 (b := 65536#64))) (by decide) ?_
    refine JO.nil ?_
    refine JQ.then_normal ?_
    refine JC.cond rfl (fun hc2 => ?_) (fun hc2 => ?_)
    · try simp only [decide_eq_true_eq, decide_eq_false_iff_not, Bool.not_eq_true', Bool.not_eq_false', ne_eq, Decidable.not_not, Bool.not_eq_true, Bool.and_eq_true, Bool.or_eq_true, BitVec.reduceToNat] at hc2
      have e2 := len64_s16 hc2
      refine JC.seq ?_
      refine JC.region ?_
      refine JO.v (Yv.move rfl) (by decide) ?_
      refine JO.v (Yv.as (v' := u64 ((_ : BitVec 64) >>> (16 : Nat))) (Yv.bin rfl rfl (BinR.shr_u64_u64 (n := 16#64))) rfl) (by decide) ?_
      refine JO.v (Yv.assign rfl) (by decide) ?_
      refine JO.nil ?_
      refine JQ.then_normal ?_
      refine JC.region ?_
      refine JO.v (Yv.move rfl) (by decide) ?_
      refine JO.v (Yv.bin rfl rfl (BinR.add_i (by first | (constructor <;> omega) | (constructor <;> simp <;> omega)))) (by decide) ?_
      refine JO.v (Yv.assign rfl) (by decide) ?_
      refine JO.nil ?_
      refine JQ.then_normal ?_
      refine JC.seq ?_
      refine JC.seq ?_
      refine JC.region ?_
      refine JO.v (Yv.move rfl) (by decide) ?_
      refine JO.v (Yv.bin rfl rfl (BinR.geq_u64 (b := 256#64))) (by decide) ?_
      refine JO.nil ?_
      refine JQ.then_normal ?_
      refine JC.cond rfl (fun hc3 => ?_) (fun hc3 => ?_)
      · try simp only [decide_eq_true_eq, decide_eq_false_iff_not, Bool.not_eq_true', Bool.not_eq_false', ne_eq, Decidable.not_not, Bool.not_eq_true, Bool.and_eq_true, Bool.or_eq_true, BitVec.reduceToNat] at hc3
        have e3 := len64_s8 hc3
        refine JC.seq ?_
        refine JC.region ?_
        refine JO.v (Yv.move rfl) (by decide) ?_
        refine JO.v (Yv.as (v' := u64 ((_ : BitVec 64) >>> (8 : Nat))) (Yv.bin rfl rfl (BinR.shr_u64_u64 (n := 8#64))) rfl) (by decide) ?_
        refine JO.v (Yv.assign rfl) (by decide) ?_
        refine JO.nil ?_
        refine JQ.then_normal ?_
        refine JC.region ?_
        refine JO.v (Yv.move rfl) (by decide) ?_
        refine JO.v (Yv.bin rfl rfl (BinR.add_i (by first | (constructor <;> omega) | (constructor <;> simp <;> omega)))) (by decide) ?_
        refine JO.v (Yv.assign rfl) (by decide) ?_
        refine JO.nil ?_
        refine JQ.then_normal ?_
        refine JC.seq ?_
        refine JC.region ?_
        refine JO.v (Yv.move rfl) (by decide) ?_
        refine JO.v (Yv.move rfl) (by decide) ?_
        refine JO.v (Yv.conv_u64_u8 Try.underlying22 Try.underlying5 rfl) (by decide) ?_
        refine JO.v (Yv.as (v' := u8 (BitVec.ofNat 8 (bitlen _))) (Yv.indexStr Try.underlying9 rfl rfl (by exact (BitVec.isLt _))) (congrArg u8 (lenTab_get _ _))) (by decide) ?_
        refine JO.v (Yv.conv_u8_i Try.underlying5 Try.underlying3 rfl) (by decide) ?_
        refine JO.v (Yv.bin rfl rfl (BinR.add_i (fits8 _ (by omega)))) (by decide) ?_
        refine JO.v (Yv.assign rfl) (by decide) ?_
        refine JO.nil ?_
        refine JQ.then_normal ?_
        refine JC.ret ?_
        have hx := x.isLt
        have s32 := shr32 (x)
        have s16 := shr16 (x >>> 32)
        have s8 := shr8 (x >>> 32 >>> 16)
        have e4 := len8v (x >>> 32 >>> 16 >>> 8) (by omega)
        have e5 := len64_le x
        exact JQ.done (.inr rfl) (Γ' := []) (H' := []) (res1 rfl (RV.tmp rfl)) (Subs.sub (by repeat (first | exact Subs.nil _ | apply Subs.cons | exact List.Mem.head _ | refine List.Mem.tail _ ?_))) (Picks.perm (by repeat (first | exact Picks.nil _ | apply Picks.cons | exact Pull.here _ _ | apply Pull.there))) ⟨congrArg it (by omega), rfl, rfl⟩
      · try simp only [decide_eq_true_eq, decide_eq_false_iff_not, Bool.not_eq_true', Bool.not_eq_false', ne_eq, Decidable.not_not, Bool.not_eq_true, Bool.and_eq_true, Bool.or_eq_true, BitVec.reduceToNat] at hc3
        refine JC.skip ?_
        refine JQ.then_normal ?_
        refine JC.seq ?_
        refine JC.region ?_
        refine JO.v (Yv.move rfl) (by decide) ?_
        refine JO.v (Yv.move rfl) (by decide) ?_
        refine JO.v (Yv.conv_u64_u8 Try.underlying22 Try.underlying5 rfl) (by decide) ?_
        refine JO.v (Yv.as (v' := u8 (BitVec.ofNat 8 (bitlen _))) (Yv.indexStr Try.underlying9 rfl rfl (by exact (BitVec.isLt _))) (congrArg u8 (lenTab_get _ _))) (by decide) ?_
        refine JO.v (Yv.conv_u8_i Try.underlying5 Try.underlying3 rfl) (by decide) ?_
        refine JO.v (Yv.bin rfl rfl (BinR.add_i (fits8 _ (by omega)))) (by decide) ?_
        refine JO.v (Yv.assign rfl) (by decide) ?_
        refine JO.nil ?_
        refine JQ.then_normal ?_
        refine JC.ret ?_
        have hx := x.isLt
        have s32 := shr32 (x)
        have s16 := shr16 (x >>> 32)
        have e4 := len8v (x >>> 32 >>> 16) (by omega)
        have e5 := len64_le x
        exact JQ.done (.inr rfl) (Γ' := []) (H' := []) (res1 rfl (RV.tmp rfl)) (Subs.sub (by repeat (first | exact Subs.nil _ | apply Subs.cons | exact List.Mem.head _ | refine List.Mem.tail _ ?_))) (Picks.perm (by repeat (first | exact Picks.nil _ | apply Picks.cons | exact Pull.here _ _ | apply Pull.there))) ⟨congrArg it (by omega), rfl, rfl⟩
    · try simp only [decide_eq_true_eq, decide_eq_false_iff_not, Bool.not_eq_true', Bool.not_eq_false', ne_eq, Decidable.not_not, Bool.not_eq_true, Bool.and_eq_true, Bool.or_eq_true, BitVec.reduceToNat] at hc2
      refine JC.skip ?_
      refine JQ.then_normal ?_
      refine JC.seq ?_
      refine JC.seq ?_
      refine JC.region ?_
      refine JO.v (Yv.move rfl) (by decide) ?_
      refine JO.v (Yv.bin rfl rfl (BinR.geq_u64 (b := 256#64))) (by decide) ?_
      refine JO.nil ?_
      refine JQ.then_normal ?_
      refine JC.cond rfl (fun hc3 => ?_) (fun hc3 => ?_)
      · try simp only [decide_eq_true_eq, decide_eq_false_iff_not, Bool.not_eq_true', Bool.not_eq_false', ne_eq, Decidable.not_not, Bool.not_eq_true, Bool.and_eq_true, Bool.or_eq_true, BitVec.reduceToNat] at hc3
        have e3 := len64_s8 hc3
        refine JC.seq ?_
        refine JC.region ?_
        refine JO.v (Yv.move rfl) (by decide) ?_
        refine JO.v (Yv.as (v' := u64 ((_ : BitVec 64) >>> (8 : Nat))) (Yv.bin rfl rfl (BinR.shr_u64_u64 (n := 8#64))) rfl) (by decide) ?_
        refine JO.v (Yv.assign rfl) (by decide) ?_
        refine JO.nil ?_
        refine JQ.then_normal ?_
        refine JC.region ?_
        refine JO.v (Yv.move rfl) (by decide) ?_
        refine JO.v (Yv.bin rfl rfl (BinR.add_i (by first | (constructor <;> omega) | (constructor <;> simp <;> omega)))) (by decide) ?_
        refine JO.v (Yv.assign rfl) (by decide) ?_
        refine JO.nil ?_
        refine JQ.then_normal ?_
        refine JC.seq ?_
        refine JC.region ?_
        refine JO.v (Yv.move rfl) (by decide) ?_
        refine JO.v (Yv.move rfl) (by decide) ?_
        refine JO.v (Yv.conv_u64_u8 Try.underlying22 Try.underlying5 rfl) (by decide) ?_
        refine JO.v (Yv.as (v' := u8 (BitVec.ofNat 8 (bitlen _))) (Yv.indexStr Try.underlying9 rfl rfl (by exact (BitVec.isLt _))) (congrArg u8 (lenTab_get _ _))) (by decide) ?_
        refine JO.v (Yv.conv_u8_i Try.underlying5 Try.underlying3 rfl) (by decide) ?_
        refine JO.v (Yv.bin rfl rfl (BinR.add_i (fits8 _ (by omega)))) (by decide) ?_
        refine JO.v (Yv.assign rfl) (by decide) ?_
        refine JO.nil ?_
        refine JQ.then_normal ?_
        refine JC.ret ?_
        have hx := x.isLt
        have s32 := shr32 (x)
        have s8 := shr8 (x >>> 32)
        have e4 := len8v (x >>> 32 >>> 8) (by omega)
        have e5 := len64_le x
        exact JQ.done (.inr rfl) (Γ' := []) (H' := []) (res1 rfl (RV.tmp rfl)) (Subs.sub (by repeat (first | exact Subs.nil _ | apply Subs.cons | exact List.Mem.head _ | refine List.Mem.tail _ ?_))) (Picks.perm (by repeat (first | exact Picks.nil _ | apply Picks.cons | exact Pull.here _ _ | apply Pull.there))) ⟨congrArg it (by omega), rfl, rfl⟩
      · try simp only [decide_eq_true_eq, decide_eq_false_iff_not, Bool.not_eq_true', Bool.not_eq_false', ne_eq, Decidable.not_not, Bool.not_eq_true, Bool.and_eq_true, Bool.or_eq_true, BitVec.reduceToNat] at hc3
        refine JC.skip ?_
        refine JQ.then_normal ?_
        refine JC.seq ?_
        refine JC.region ?_
        refine JO.v (Yv.move rfl) (by decide) ?_
        refine JO.v (Yv.move rfl) (by decide) ?_
        refine JO.v (Yv.conv_u64_u8 Try.underlying22 Try.underlying5 rfl) (by decide) ?_
        refine JO.v (Yv.as (v' := u8 (BitVec.ofNat 8 (bitlen _))) (Yv.indexStr Try.underlying9 rfl rfl (by exact (BitVec.isLt _))) (congrArg u8 (lenTab_get _ _))) (by decide) ?_
        refine JO.v (Yv.conv_u8_i Try.underlying5 Try.underlying3 rfl) (by decide) ?_
        refine JO.v (Yv.bin rfl rfl (BinR.add_i (fits8 _ (by omega)))) (by decide) ?_
        refine JO.v (Yv.assign rfl) (by decide) ?_
        refine JO.nil ?_
        refine JQ.then_normal ?_
        refine JC.ret ?_
        have hx := x.isLt
        have s32 := shr32 (x)
        have e4 := len8v (x >>> 32) (by omega)
        have e5 := len64_le x
        exact JQ.done (.inr rfl) (Γ' := []) (H' := []) (res1 rfl (RV.tmp rfl)) (Subs.sub (by repeat (first | exact Subs.nil _ | apply Subs.cons | exact List.Mem.head _ | refine List.Mem.tail _ ?_))) (Picks.perm (by repeat (first | exact Picks.nil _ | apply Picks.cons | exact Pull.here _ _ | apply Pull.there))) ⟨congrArg it (by omega), rfl, rfl⟩
  · try simp only [decide_eq_true_eq, decide_eq_false_iff_not, Bool.not_eq_true', Bool.not_eq_false', ne_eq, Decidable.not_not, Bool.not_eq_true, Bool.and_eq_true, Bool.or_eq_true, BitVec.reduceToNat] at hc1
    refine JC.skip ?_
    refine JQ.then_normal ?_
    refine JC.seq ?_
    refine JC.seq ?_
    refine JC.region ?_
    refine JO.v (Yv.move rfl) (by decide) ?_
    refine JO.v (Yv.bin rfl rfl (BinR.geq_u64 (b := 65536#64))) (by decide) ?_
    refine JO.nil ?_
    refine JQ.then_normal ?_
    refine JC.cond rfl (fun hc2 => ?_) (fun hc2 => ?_)
    · try simp only [decide_eq_true_eq, decide_eq_false_iff_not, Bool.not_eq_true', Bool.not_eq_false', ne_eq, Decidable.not_not, Bool.not_eq_true, Bool.and_eq_true, Bool.or_eq_true, BitVec.reduceToNat] at hc2
      have e2 := len64_s16 hc2
      refine JC.seq ?_
      refine JC.region ?_
      refine JO.v (Yv.move rfl) (by decide) ?_
      refine JO.v (Yv.as (v' := u64 ((_ : BitVec 64) >>> (16 : Nat))) (Yv.bin rfl rfl (BinR.shr_u64_u64 (n := 16#64))) rfl) (by decide) ?_
      refine JO.v (Yv.assign rfl) (by decide) ?_
      refine JO.nil ?_
      refine JQ.then_normal ?_
      refine JC.region ?_
      refine JO.v (Yv.move rfl) (by decide) ?_
      refine JO.v (Yv.bin rfl rfl (BinR.add_i (by first | (constructor <;> omega) | (constructor <;> simp <;> omega)))) (by decide) ?_
      refine JO.v (Yv.assign rfl) (by decide) ?_
      refine JO.nil ?_
      refine JQ.then_normal ?_
      refine JC.seq ?_
      refine JC.seq ?_
      refine JC.region ?_
      refine JO.v (Yv.move rfl) (by decide) ?_
      refine JO.v (Yv.bin rfl rfl (BinR.geq_u64 (b := 256#64))) (by decide) ?_
      refine JO.nil ?_
      refine JQ.then_normal ?_
      refine JC.cond rfl (fun hc3 => ?_) (fun hc3 => ?_)
      · try simp only [decide_eq_true_eq, decide_eq_false_iff_not, Bool.not_eq_true', Bool.not_eq_false', ne_eq, Decidable.not_not, Bool.not_eq_true, Bool.and_eq_true, Bool.or_eq_true, BitVec.reduceToNat] at hc3
        have e3 := len64_s8 hc3
        refine JC.seq ?_
        refine JC.region ?_
        refine JO.v (Yv.move rfl) (by decide) ?_
        refine JO.v (Yv.as (v' := u64 ((_ : BitVec 64) >>> (8 : Nat))) (Yv.bin rfl rfl (BinR.shr_u64_u64 (n := 8#64))) rfl) (by decide) ?_
        refine JO.v (Yv.assign rfl) (by decide) ?_
        refine JO.nil ?_
        refine JQ.then_normal ?_
        refine JC.region ?_
        refine JO.v (Yv.move rfl) (by decide) ?_
        refine JO.v (Yv.bin rfl rfl (BinR.add_i (by first | (constructor <;> omega) | (constructor <;> simp <;> omega)))) (by decide) ?_
        refine JO.v (Yv.assign rfl) (by decide) ?_
        refine JO.nil ?_
        refine JQ.then_normal ?_
        refine JC.seq ?_
        refine JC.region ?_
        refine JO.v (Yv.move rfl) (by decide) ?_
        refine JO.v (Yv.move rfl) (by decide) ?_
        refine JO.v (Yv.conv_u64_u8 Try.underlying22 Try.underlying5 rfl) (by decide) ?_
        refine JO.v (Yv.as (v' := u8 (BitVec.ofNat 8 (bitlen _))) (Yv.indexStr Try.underlying9 rfl rfl (by exact (BitVec.isLt _))) (congrArg u8 (lenTab_get _ _))) (by decide) ?_
        refine JO.v (Yv.conv_u8_i Try.underlying5 Try.underlying3 rfl) (by decide) ?_
        refine JO.v (Yv.bin rfl rfl (BinR.add_i (fits8 _ (by omega)))) (by decide) ?_
        refine JO.v (Yv.assign rfl) (by decide) ?_
        refine JO.nil ?_
        refine JQ.then_normal ?_
        refine JC.ret ?_
        have hx := x.isLt
        have s16 := shr16 (x)
        have s8 := shr8 (x >>> 16)
        have e4 := len8v (x >>> 16 >>> 8) (by omega)
        have e5 := len64_le x
        exact JQ.done (.inr rfl) (Γ' := []) (H' := []) (res1 rfl (RV.tmp rfl)) (Subs.sub (by repeat (first | exact Subs.nil _ | apply Subs.cons | exact List.Mem.head _ | refine List.Mem.tail _ ?_))) (Picks.perm (by repeat (first | exact Picks.nil _ | apply Picks.cons | exact Pull.here _ _ | apply Pull.there))) ⟨congrArg it (by omega), rfl, rfl⟩
      · try simp only [decide_eq_true_eq, decide_eq_false_iff_not, Bool.not_eq_true', Bool.not_eq_false', ne_eq, Decidable.not_not, Bool.not_eq_true, Bool.and_eq_true, Bool.or_eq_true, BitVec.reduceToNat] at hc3
        refine JC.skip ?_
        refine JQ.then_normal ?_
        refine JC.seq ?_
        refine JC.region ?_
        refine JO.v (Yv.move rfl) (by decide) ?_
        refine JO.v (Yv.move rfl) (by decide) ?_
        refine JO.v (Yv.conv_u64_u8 Try.underlying22 Try.underlying5 rfl) (by decide) ?_
        refine JO.v (Yv.as (v' := u8 (BitVec.ofNat 8 (bitlen _))) (Yv.indexStr Try.underlying9 rfl rfl (by exact (BitVec.isLt _))) (congrArg u8 (lenTab_get _ _))) (by decide) ?_
        refine JO.v (Yv.conv_u8_i Try.underlying5 Try.underlying3 rfl) (by decide) ?_
        refine JO.v (Yv.bin rfl rfl (BinR.add_i (fits8 _ (by omega)))) (by decide) ?_
        refine JO.v (Yv.assign rfl) (by decide) ?_
        refine JO.nil ?_
        refine JQ.then_normal ?_
        refine JC.ret ?_
        have hx := x.isLt
        have s16 := shr16 (x)
        have e4 := len8v (x >>> 16) (by omega)
        have e5 := len64_le x
        exact JQ.done (.inr rfl) (Γ' := []) (H' := []) (res1 rfl (RV.tmp rfl)) (Subs.sub (by repeat (first | exact Subs.nil _ | apply Subs.cons | exact List.Mem.head _ | refine List.Mem.tail _ ?_))) (Picks.perm (by repeat (first | exact Picks.nil _ | apply Picks.cons | exact Pull.here _ _ | apply Pull.there))) ⟨congrArg it (by omega), rfl, rfl⟩
    · try simp only [decide_eq_true_eq, decide_eq_false_iff_not, Bool.not_eq_true', Bool.not_eq_false', ne_eq, Decidable.not_not, Bool.not_eq_true, Bool.and_eq_true, Bool.or_eq_true, BitVec.reduceToNat] at hc2
      refine JC.skip ?_
      refine JQ.then_normal ?_
      refine JC.seq ?_
      refine JC.seq ?_
      refine JC.region ?_
      refine JO.v (Yv.move rfl) (by decide) ?_
      refine JO.v (Yv.bin rfl rfl (BinR.geq_u64 (b := 256#64))) (by decide) ?_
      refine JO.nil ?_
      refine JQ.then_normal ?_
      refine JC.cond rfl (fun hc3 => ?_) (fun hc3 => ?_)
      · try simp only [decide_eq_true_eq, decide_eq_false_iff_not, Bool.not_eq_true', Bool.not_eq_false', ne_eq, Decidable.not_not, Bool.not_eq_true, Bool.and_eq_true, Bool.or_eq_true, BitVec.reduceToNat] at hc3
        have e3 := len64_s8 hc3
        refine JC.seq ?_
        refine JC.region ?_
        refine JO.v (Yv.move rfl) (by decide) ?_
        refine JO.v (Yv.as (v' := u64 ((_ : BitVec 64) >>> (8 : Nat))) (Yv.bin rfl rfl (BinR.shr_u64_u64 (n := 8#64))) rfl) (by decide) ?_
        refine JO.v (Yv.assign rfl) (by decide) ?_
        refine JO.nil ?_
        refine JQ.then_normal ?_
        refine JC.region ?_
        refine JO.v (Yv.move rfl) (by decide) ?_
        refine JO.v (Yv.bin rfl rfl (BinR.add_i (by first | (constructor <;> omega) | (constructor <;> simp <;> omega)))) (by decide) ?_
        refine JO.v (Yv.assign rfl) (by decide) ?_
        refine JO.nil ?_
        refine JQ.then_normal ?_
        refine JC.seq ?_
        refine JC.region ?_
        refine JO.v (Yv.move rfl) (by decide) ?_
        refine JO.v (Yv.move rfl) (by decide) ?_
        refine JO.v (Yv.conv_u64_u8 Try.underlying22 Try.underlying5 rfl) (by decide) ?_
        refine JO.v (Yv.as (v' := u8 (BitVec.ofNat 8 (bitlen _))) (Yv.indexStr Try.underlying9 rfl rfl (by exact (BitVec.isLt _))) (congrArg u8 (lenTab_get _ _))) (by decide) ?_
        refine JO.v (Yv.conv_u8_i Try.underlying5 Try.underlying3 rfl) (by decide) ?_
        refine JO.v (Yv.bin rfl rfl (BinR.add_i (fits8 _ (by omega)))) (by decide) ?_
        refine JO.v (Yv.assign rfl) (by decide) ?_
        refine JO.nil ?_
        refine JQ.then_normal ?_
        refine JC.ret ?_
        have hx := x.isLt
        have s8 := shr8 (x)
        have e4 := len8v (x >>> 8) (by omega)
        have e5 := len64_le x
        exact JQ.done (.inr rfl) (Γ' := []) (H' := []) (res1 rfl (RV.tmp rfl)) (Subs.sub (by repeat (first | exact Subs.nil _ | apply Subs.cons | exact List.Mem.head _ | refine List.Mem.tail _ ?_))) (Picks.perm (by repeat (first | exact Picks.nil _ | apply Picks.cons | exact Pull.here _ _ | apply Pull.there))) ⟨congrArg it (by omega), rfl, rfl⟩
      · try simp only [decide_eq_true_eq, decide_eq_false_iff_not, Bool.not_eq_true', Bool.not_eq_false', ne_eq, Decidable.not_not, Bool.not_eq_true, Bool.and_eq_true, Bool.or_eq_true, BitVec.reduceToNat] at hc3
        refine JC.skip ?_
        refine JQ.then_normal ?_
        refine JC.seq ?_
        refine JC.region ?_
        refine JO.v (Yv.move rfl) (by decide) ?_
        refine JO.v (Yv.move rfl) (by decide) ?_
        refine JO.v (Yv.conv_u64_u8 Try.underlying22 Try.underlying5 rfl) (by decide) ?_
        refine JO.v (Yv.as (v' := u8 (BitVec.ofNat 8 (bitlen _))) (Yv.indexStr Try.underlying9 rfl rfl (by exact (BitVec.isLt _))) (congrArg u8 (lenTab_get _ _))) (by decide) ?_
        refine JO.v (Yv.conv_u8_i Try.underlying5 Try.underlying3 rfl) (by decide) ?_
        refine JO.v (Yv.bin rfl rfl (BinR.add_i (fits8 _ (by omega)))) (by decide) ?_
        refine JO.v (Yv.assign rfl) (by decide) ?_
        refine JO.nil ?_
        refine JQ.then_normal ?_
        refine JC.ret ?_
        have hx := x.isLt
        have e4 := len8v (x) (by omega)
        have e5 := len64_le x
        exact JQ.done (.inr rfl) (Γ' := []) (H' := []) (res1 rfl (RV.tmp rfl)) (Subs.sub (by repeat (first | exact Subs.nil _ | apply Subs.cons | exact List.Mem.head _ | refine List.Mem.tail _ ?_))) (Picks.perm (by repeat (first | exact Picks.nil _ | apply Picks.cons | exact Pull.here _ _ | apply Pull.there))) ⟨congrArg it (by omega), rfl, rfl⟩
end Go.Proofs.Ytffgimlkmfjgmaa
