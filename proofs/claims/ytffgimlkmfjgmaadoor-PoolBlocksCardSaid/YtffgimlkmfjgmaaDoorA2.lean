/- What single operations come to: numbers, slots, addresses. No program in sight. -/
import Derived.Test.YtffgimlkmfjgmaaDoorA1
namespace Go.Proofs.YtffgimlkmfjgmaaDoor
open Go.RowKit

abbrev u8 (x : BitVec 8) : Value := .int .u8 (x.toNat : Int)
abbrev u32 (x : BitVec 32) : Value := .int .u32 (x.toNat : Int)
abbrev u64 (x : BitVec 64) : Value := .int .u64 (x.toNat : Int)
abbrev it (n : Int) : Value := .int .i64 n
abbrev bl (b : Bool) : Value := .bool b
abbrev ptr (b o : Nat) : Value := .pointer (some ⟨b, o, none⟩)

/-- The int does not wrap. -/
def Fits (n : Int) : Prop := -9223372036854775808 ≤ n ∧ n ≤ 9223372036854775807
theorem Fits.wrap {n : Int} (h : Fits n) : IntKind.i64.wrap n = n := by
  obtain ⟨h1, h2⟩ := h
  simp only [IntKind.wrap, IntKind.bits, IntKind.signed]
  simp
  omega

theorem wrap_w8 (n : Int) : IntKind.u8.wrap n = n % 256 := by simp [IntKind.wrap, IntKind.bits, IntKind.signed]
theorem wrap_w32 (n : Int) : IntKind.u32.wrap n = n % 4294967296 := by simp [IntKind.wrap, IntKind.bits, IntKind.signed]
theorem wrap_w64 (n : Int) : IntKind.u64.wrap n = n % 18446744073709551616 := by simp [IntKind.wrap, IntKind.bits, IntKind.signed]

/-- What an operation with two operands comes to. -/
def BinR (P : Program) (op : BinOp) (T : TypeId) (x y : Operand) (vx vy v : Value) : Prop :=
  ∀ w, (do eqGuard op T x y vx vy; binOp op T vx vy : Sem Value).run P w = .ok v w

section
variable {P : Program} {T : TypeId} {x y : Operand}

theorem BinR.ints {op : BinOp} {k : IntKind} {m n : Int} {v : Value} (h : ∀ w, (binOp op T (.int k m) (.int k n)).run P w = .ok v w) : BinR P op T x y (.int k m) (.int k n) v := by
  intro w
  have hg : ∀ w, (eqGuard op T x y (.int k m) (.int k n)).run P w = .ok () w := by
    intro w
    unfold eqGuard
    split <;> rfl
  simp only [Sem.run_bind, hg, Result.andThen_ok, h]
theorem BinR.ints2 {op : BinOp} {k k' : IntKind} {m n : Int} {v : Value} (h : ∀ w, (binOp op T (.int k m) (.int k' n)).run P w = .ok v w) : BinR P op T x y (.int k m) (.int k' n) v := by
  intro w
  have hg : ∀ w, (eqGuard op T x y (.int k m) (.int k' n)).run P w = .ok () w := by
    intro w
    unfold eqGuard
    split <;> rfl
  simp only [Sem.run_bind, hg, Result.andThen_ok, h]

theorem ok_int {k : IntKind} {m n : Int} (h : m = n) : ∀ w : World, (Result.ok (Value.int k m) w) = .ok (.int k n) w := fun w => by rw [h]
theorem ok_bool {b c : Bool} (h : b = c) : ∀ w : World, (Result.ok (Value.bool b) w) = .ok (.bool c) w := fun w => by rw [h]


/-! #### u8 -/
theorem BinR.add_u8 {a b : BitVec 8} : BinR P .add T x y (u8 a) (u8 b) (u8 (a + b)) :=
  .ints fun w => by
    simp only [binOp, Op.intArith, ne_eq, not_true_eq_false, if_false, Sem.run_pure]
    exact ok_int (by rw [wrap_w8, BitVec.toNat_add]; omega) w
theorem BinR.sub_u8 {a b : BitVec 8} : BinR P .sub T x y (u8 a) (u8 b) (u8 (a - b)) :=
  .ints fun w => by
    simp only [binOp, Op.intArith, ne_eq, not_true_eq_false, if_false, Sem.run_pure]
    exact ok_int (by rw [wrap_w8, BitVec.toNat_sub]; have := a.isLt; have := b.isLt; omega) w
theorem BinR.mul_u8 {a b : BitVec 8} : BinR P .mul T x y (u8 a) (u8 b) (u8 (a * b)) :=
  .ints fun w => by
    simp only [binOp, Op.intArith, ne_eq, not_true_eq_false, if_false, Sem.run_pure]
    exact ok_int (by rw [wrap_w8, BitVec.toNat_mul, Int.natCast_emod, Int.natCast_mul]; rfl) w
theorem BinR.quo_u8 {a b : BitVec 8} (h : b.toNat ≠ 0) : BinR P .quo T x y (u8 a) (u8 b) (u8 (a / b)) :=
  .ints fun w => by
    have hb : ¬ ((b.toNat : Int) = 0) := by omega
    simp only [binOp, Op.intDiv, ne_eq, not_true_eq_false, if_false, hb, Sem.run_pure]
    refine ok_int ?_ w
    rw [wrap_w8, BitVec.toNat_udiv, ← Int.ofNat_tdiv]
    have h1 : a.toNat / b.toNat ≤ a.toNat := Nat.div_le_self _ _
    have := a.isLt
    generalize a.toNat / b.toNat = q at *
    omega
theorem BinR.rem_u8 {a b : BitVec 8} (h : b.toNat ≠ 0) : BinR P .rem T x y (u8 a) (u8 b) (u8 (a % b)) :=
  .ints fun w => by
    have hb : ¬ ((b.toNat : Int) = 0) := by omega
    simp only [binOp, Op.intDiv, ne_eq, not_true_eq_false, if_false, hb, Sem.run_pure]
    refine ok_int ?_ w
    rw [BitVec.toNat_umod, Int.ofNat_tmod]
theorem BinR.and_u8 {a b : BitVec 8} : BinR P .and T x y (u8 a) (u8 b) (u8 (a &&& b)) :=
  .ints fun w => by
    simp only [binOp, Op.intBits, ne_eq, not_true_eq_false, if_false, Sem.run_pure]
    refine ok_int ?_ w
    show IntKind.u8.wrap (((BitVec.ofInt 8 (a.toNat : Int)) &&& (BitVec.ofInt 8 (b.toNat : Int))).toNat : Int) = _
    rw [BitVec.ofInt_natCast, BitVec.ofInt_natCast, BitVec.ofNat_toNat, BitVec.ofNat_toNat, BitVec.setWidth_eq, BitVec.setWidth_eq, wrap_w8]
    have := (a &&& b).isLt
    omega
theorem BinR.or_u8 {a b : BitVec 8} : BinR P .or T x y (u8 a) (u8 b) (u8 (a ||| b)) :=
  .ints fun w => by
    simp only [binOp, Op.intBits, ne_eq, not_true_eq_false, if_false, Sem.run_pure]
    refine ok_int ?_ w
    show IntKind.u8.wrap (((BitVec.ofInt 8 (a.toNat : Int)) ||| (BitVec.ofInt 8 (b.toNat : Int))).toNat : Int) = _
    rw [BitVec.ofInt_natCast, BitVec.ofInt_natCast, BitVec.ofNat_toNat, BitVec.ofNat_toNat, BitVec.setWidth_eq, BitVec.setWidth_eq, wrap_w8]
    have := (a ||| b).isLt
    omega
theorem BinR.xor_u8 {a b : BitVec 8} : BinR P .xor T x y (u8 a) (u8 b) (u8 (a ^^^ b)) :=
  .ints fun w => by
    simp only [binOp, Op.intBits, ne_eq, not_true_eq_false, if_false, Sem.run_pure]
    refine ok_int ?_ w
    show IntKind.u8.wrap (((BitVec.ofInt 8 (a.toNat : Int)) ^^^ (BitVec.ofInt 8 (b.toNat : Int))).toNat : Int) = _
    rw [BitVec.ofInt_natCast, BitVec.ofInt_natCast, BitVec.ofNat_toNat, BitVec.ofNat_toNat, BitVec.setWidth_eq, BitVec.setWidth_eq, wrap_w8]
    have := (a ^^^ b).isLt
    omega
theorem BinR.andNot_u8 {a b : BitVec 8} : BinR P .andNot T x y (u8 a) (u8 b) (u8 (a &&& ~~~b)) :=
  .ints fun w => by
    simp only [binOp, Op.intBits, ne_eq, not_true_eq_false, if_false, Sem.run_pure]
    refine ok_int ?_ w
    show IntKind.u8.wrap (((BitVec.ofInt 8 (a.toNat : Int)) &&& ~~~(BitVec.ofInt 8 (b.toNat : Int))).toNat : Int) = _
    rw [BitVec.ofInt_natCast, BitVec.ofInt_natCast, BitVec.ofNat_toNat, BitVec.ofNat_toNat, BitVec.setWidth_eq, BitVec.setWidth_eq, wrap_w8]
    have := (a &&& ~~~b).isLt
    omega
theorem shl_u8 (a : BitVec 8) (n : Nat) : IntKind.u8.wrap ((a.toNat : Int) * 2 ^ min n 8) = ((a <<< n).toNat : Int) := by
  rw [wrap_w8, BitVec.toNat_shiftLeft, Nat.shiftLeft_eq]
  rcases Nat.le_total n 8 with h | h
  · rw [Nat.min_eq_left h]
    rw [Int.natCast_emod, Int.natCast_mul, Int.natCast_pow]
    rfl
  · rw [Nat.min_eq_right h]
    have h1 : a.toNat * 2 ^ n = (a.toNat * 2 ^ (n - 8)) * 2 ^ 8 := by
      rw [Nat.mul_assoc, ← Nat.pow_add]; congr 2; omega
    rw [h1, Nat.mul_mod_left]
    omega
theorem shr_u8 (a : BitVec 8) (n : Nat) : ((a.toNat : Int)).fdiv (2 ^ min n 8) = ((a >>> n).toNat : Int) := by
  rw [BitVec.toNat_ushiftRight, Nat.shiftRight_eq_div_pow]
  rw [Int.fdiv_eq_ediv_of_nonneg _ (by exact_mod_cast Nat.zero_le _)]
  rcases Nat.le_total n 8 with h | h
  · rw [Nat.min_eq_left h]
    rw [Int.natCast_ediv, Int.natCast_pow]
    rfl
  · rw [Nat.min_eq_right h]
    have h1 : a.toNat / 2 ^ n = 0 := Nat.div_eq_of_lt (Nat.lt_of_lt_of_le a.isLt (Nat.pow_le_pow_right (by omega) h))
    rw [h1]
    have := a.isLt
    omega
theorem BinR.shl_u8_i {a : BitVec 8} {n : Int} (h : 0 ≤ n) : BinR P .shl T x y (u8 a) (it n) (u8 (a <<< n.toNat)) :=
  .ints2 fun w => by
    have hn : ¬ n < 0 := by omega
    simp only [binOp, Op.shift, hn, if_false, Sem.run_pure]
    exact ok_int (shl_u8 a n.toNat) w
theorem BinR.shr_u8_i {a : BitVec 8} {n : Int} (h : 0 ≤ n) : BinR P .shr T x y (u8 a) (it n) (u8 (a >>> n.toNat)) :=
  .ints2 fun w => by
    have hn : ¬ n < 0 := by omega
    simp only [binOp, Op.shift, hn, if_false, Sem.run_pure]
    exact ok_int (shr_u8 a n.toNat) w
theorem BinR.shl_u8_u8 {a : BitVec 8} {n : BitVec 8} : BinR P .shl T x y (u8 a) (u8 n) (u8 (a <<< n.toNat)) :=
  .ints2 fun w => by
    have hn : ¬ (n.toNat : Int) < 0 := by omega
    simp only [binOp, Op.shift, hn, if_false, Sem.run_pure, Int.toNat_natCast]
    exact ok_int (shl_u8 a n.toNat) w
theorem BinR.shr_u8_u8 {a : BitVec 8} {n : BitVec 8} : BinR P .shr T x y (u8 a) (u8 n) (u8 (a >>> n.toNat)) :=
  .ints2 fun w => by
    have hn : ¬ (n.toNat : Int) < 0 := by omega
    simp only [binOp, Op.shift, hn, if_false, Sem.run_pure, Int.toNat_natCast]
    exact ok_int (shr_u8 a n.toNat) w
theorem BinR.shl_u8_u32 {a : BitVec 8} {n : BitVec 32} : BinR P .shl T x y (u8 a) (u32 n) (u8 (a <<< n.toNat)) :=
  .ints2 fun w => by
    have hn : ¬ (n.toNat : Int) < 0 := by omega
    simp only [binOp, Op.shift, hn, if_false, Sem.run_pure, Int.toNat_natCast]
    exact ok_int (shl_u8 a n.toNat) w
theorem BinR.shr_u8_u32 {a : BitVec 8} {n : BitVec 32} : BinR P .shr T x y (u8 a) (u32 n) (u8 (a >>> n.toNat)) :=
  .ints2 fun w => by
    have hn : ¬ (n.toNat : Int) < 0 := by omega
    simp only [binOp, Op.shift, hn, if_false, Sem.run_pure, Int.toNat_natCast]
    exact ok_int (shr_u8 a n.toNat) w
theorem BinR.shl_u8_u64 {a : BitVec 8} {n : BitVec 64} : BinR P .shl T x y (u8 a) (u64 n) (u8 (a <<< n.toNat)) :=
  .ints2 fun w => by
    have hn : ¬ (n.toNat : Int) < 0 := by omega
    simp only [binOp, Op.shift, hn, if_false, Sem.run_pure, Int.toNat_natCast]
    exact ok_int (shl_u8 a n.toNat) w
theorem BinR.shr_u8_u64 {a : BitVec 8} {n : BitVec 64} : BinR P .shr T x y (u8 a) (u64 n) (u8 (a >>> n.toNat)) :=
  .ints2 fun w => by
    have hn : ¬ (n.toNat : Int) < 0 := by omega
    simp only [binOp, Op.shift, hn, if_false, Sem.run_pure, Int.toNat_natCast]
    exact ok_int (shr_u8 a n.toNat) w
theorem BinR.lss_u8 {a b : BitVec 8} : BinR P .lss T x y (u8 a) (u8 b) (.bool (decide (a.toNat < b.toNat))) :=
  .ints fun w => by
    simp only [binOp, Op.intCmp, ne_eq, not_true_eq_false, if_false, Sem.run_pure]
    exact ok_bool (decide_eq_decide.2 (by omega)) w
theorem BinR.leq_u8 {a b : BitVec 8} : BinR P .leq T x y (u8 a) (u8 b) (.bool (decide (a.toNat ≤ b.toNat))) :=
  .ints fun w => by
    simp only [binOp, Op.intCmp, ne_eq, not_true_eq_false, if_false, Sem.run_pure]
    exact ok_bool (decide_eq_decide.2 (by omega)) w
theorem BinR.gtr_u8 {a b : BitVec 8} : BinR P .gtr T x y (u8 a) (u8 b) (.bool (decide (a.toNat > b.toNat))) :=
  .ints fun w => by
    simp only [binOp, Op.intCmp, ne_eq, not_true_eq_false, if_false, Sem.run_pure]
    exact ok_bool (decide_eq_decide.2 (by omega)) w
theorem BinR.geq_u8 {a b : BitVec 8} : BinR P .geq T x y (u8 a) (u8 b) (.bool (decide (a.toNat ≥ b.toNat))) :=
  .ints fun w => by
    simp only [binOp, Op.intCmp, ne_eq, not_true_eq_false, if_false, Sem.run_pure]
    exact ok_bool (decide_eq_decide.2 (by omega)) w
theorem BinR.eql_u8 {a b : BitVec 8} : BinR P .eql T x y (u8 a) (u8 b) (.bool (decide (a = b))) :=
  .ints fun w => by
    simp only [binOp, Op.intCmp, ne_eq, not_true_eq_false, if_false, Sem.run_pure]
    refine ok_bool ?_ w
    rw [Bool.eq_iff_iff, beq_iff_eq, decide_eq_true_iff, ← BitVec.toNat_inj]; omega
theorem BinR.neq_u8 {a b : BitVec 8} : BinR P .neq T x y (u8 a) (u8 b) (.bool (decide (a ≠ b))) :=
  .ints fun w => by
    simp only [binOp, Op.intCmp, ne_eq, not_true_eq_false, if_false, Sem.run_pure]
    refine ok_bool ?_ w
    rw [Bool.eq_iff_iff, bne_iff_ne, decide_eq_true_iff, ← BitVec.toNat_inj]; omega

/-! #### u32 -/
theorem BinR.add_u32 {a b : BitVec 32} : BinR P .add T x y (u32 a) (u32 b) (u32 (a + b)) :=
  .ints fun w => by
    simp only [binOp, Op.intArith, ne_eq, not_true_eq_false, if_false, Sem.run_pure]
    exact ok_int (by rw [wrap_w32, BitVec.toNat_add]; omega) w
theorem BinR.sub_u32 {a b : BitVec 32} : BinR P .sub T x y (u32 a) (u32 b) (u32 (a - b)) :=
  .ints fun w => by
    simp only [binOp, Op.intArith, ne_eq, not_true_eq_false, if_false, Sem.run_pure]
    exact ok_int (by rw [wrap_w32, BitVec.toNat_sub]; have := a.isLt; have := b.isLt; omega) w
theorem BinR.mul_u32 {a b : BitVec 32} : BinR P .mul T x y (u32 a) (u32 b) (u32 (a * b)) :=
  .ints fun w => by
    simp only [binOp, Op.intArith, ne_eq, not_true_eq_false, if_false, Sem.run_pure]
    exact ok_int (by rw [wrap_w32, BitVec.toNat_mul, Int.natCast_emod, Int.natCast_mul]; rfl) w
theorem BinR.quo_u32 {a b : BitVec 32} (h : b.toNat ≠ 0) : BinR P .quo T x y (u32 a) (u32 b) (u32 (a / b)) :=
  .ints fun w => by
    have hb : ¬ ((b.toNat : Int) = 0) := by omega
    simp only [binOp, Op.intDiv, ne_eq, not_true_eq_false, if_false, hb, Sem.run_pure]
    refine ok_int ?_ w
    rw [wrap_w32, BitVec.toNat_udiv, ← Int.ofNat_tdiv]
    have h1 : a.toNat / b.toNat ≤ a.toNat := Nat.div_le_self _ _
    have := a.isLt
    generalize a.toNat / b.toNat = q at *
    omega
theorem BinR.rem_u32 {a b : BitVec 32} (h : b.toNat ≠ 0) : BinR P .rem T x y (u32 a) (u32 b) (u32 (a % b)) :=
  .ints fun w => by
    have hb : ¬ ((b.toNat : Int) = 0) := by omega
    simp only [binOp, Op.intDiv, ne_eq, not_true_eq_false, if_false, hb, Sem.run_pure]
    refine ok_int ?_ w
    rw [BitVec.toNat_umod, Int.ofNat_tmod]
theorem BinR.and_u32 {a b : BitVec 32} : BinR P .and T x y (u32 a) (u32 b) (u32 (a &&& b)) :=
  .ints fun w => by
    simp only [binOp, Op.intBits, ne_eq, not_true_eq_false, if_false, Sem.run_pure]
    refine ok_int ?_ w
    show IntKind.u32.wrap (((BitVec.ofInt 32 (a.toNat : Int)) &&& (BitVec.ofInt 32 (b.toNat : Int))).toNat : Int) = _
    rw [BitVec.ofInt_natCast, BitVec.ofInt_natCast, BitVec.ofNat_toNat, BitVec.ofNat_toNat, BitVec.setWidth_eq, BitVec.setWidth_eq, wrap_w32]
    have := (a &&& b).isLt
    omega
theorem BinR.or_u32 {a b : BitVec 32} : BinR P .or T x y (u32 a) (u32 b) (u32 (a ||| b)) :=
  .ints fun w => by
    simp only [binOp, Op.intBits, ne_eq, not_true_eq_false, if_false, Sem.run_pure]
    refine ok_int ?_ w
    show IntKind.u32.wrap (((BitVec.ofInt 32 (a.toNat : Int)) ||| (BitVec.ofInt 32 (b.toNat : Int))).toNat : Int) = _
    rw [BitVec.ofInt_natCast, BitVec.ofInt_natCast, BitVec.ofNat_toNat, BitVec.ofNat_toNat, BitVec.setWidth_eq, BitVec.setWidth_eq, wrap_w32]
    have := (a ||| b).isLt
    omega
theorem BinR.xor_u32 {a b : BitVec 32} : BinR P .xor T x y (u32 a) (u32 b) (u32 (a ^^^ b)) :=
  .ints fun w => by
    simp only [binOp, Op.intBits, ne_eq, not_true_eq_false, if_false, Sem.run_pure]
    refine ok_int ?_ w
    show IntKind.u32.wrap (((BitVec.ofInt 32 (a.toNat : Int)) ^^^ (BitVec.ofInt 32 (b.toNat : Int))).toNat : Int) = _
    rw [BitVec.ofInt_natCast, BitVec.ofInt_natCast, BitVec.ofNat_toNat, BitVec.ofNat_toNat, BitVec.setWidth_eq, BitVec.setWidth_eq, wrap_w32]
    have := (a ^^^ b).isLt
    omega
theorem BinR.andNot_u32 {a b : BitVec 32} : BinR P .andNot T x y (u32 a) (u32 b) (u32 (a &&& ~~~b)) :=
  .ints fun w => by
    simp only [binOp, Op.intBits, ne_eq, not_true_eq_false, if_false, Sem.run_pure]
    refine ok_int ?_ w
    show IntKind.u32.wrap (((BitVec.ofInt 32 (a.toNat : Int)) &&& ~~~(BitVec.ofInt 32 (b.toNat : Int))).toNat : Int) = _
    rw [BitVec.ofInt_natCast, BitVec.ofInt_natCast, BitVec.ofNat_toNat, BitVec.ofNat_toNat, BitVec.setWidth_eq, BitVec.setWidth_eq, wrap_w32]
    have := (a &&& ~~~b).isLt
    omega
theorem shl_u32 (a : BitVec 32) (n : Nat) : IntKind.u32.wrap ((a.toNat : Int) * 2 ^ min n 32) = ((a <<< n).toNat : Int) := by
  rw [wrap_w32, BitVec.toNat_shiftLeft, Nat.shiftLeft_eq]
  rcases Nat.le_total n 32 with h | h
  · rw [Nat.min_eq_left h]
    rw [Int.natCast_emod, Int.natCast_mul, Int.natCast_pow]
    rfl
  · rw [Nat.min_eq_right h]
    have h1 : a.toNat * 2 ^ n = (a.toNat * 2 ^ (n - 32)) * 2 ^ 32 := by
      rw [Nat.mul_assoc, ← Nat.pow_add]; congr 2; omega
    rw [h1, Nat.mul_mod_left]
    omega
theorem shr_u32 (a : BitVec 32) (n : Nat) : ((a.toNat : Int)).fdiv (2 ^ min n 32) = ((a >>> n).toNat : Int) := by
  rw [BitVec.toNat_ushiftRight, Nat.shiftRight_eq_div_pow]
  rw [Int.fdiv_eq_ediv_of_nonneg _ (by exact_mod_cast Nat.zero_le _)]
  rcases Nat.le_total n 32 with h | h
  · rw [Nat.min_eq_left h]
    rw [Int.natCast_ediv, Int.natCast_pow]
    rfl
  · rw [Nat.min_eq_right h]
    have h1 : a.toNat / 2 ^ n = 0 := Nat.div_eq_of_lt (Nat.lt_of_lt_of_le a.isLt (Nat.pow_le_pow_right (by omega) h))
    rw [h1]
    have := a.isLt
    omega
theorem BinR.shl_u32_i {a : BitVec 32} {n : Int} (h : 0 ≤ n) : BinR P .shl T x y (u32 a) (it n) (u32 (a <<< n.toNat)) :=
  .ints2 fun w => by
    have hn : ¬ n < 0 := by omega
    simp only [binOp, Op.shift, hn, if_false, Sem.run_pure]
    exact ok_int (shl_u32 a n.toNat) w
theorem BinR.shr_u32_i {a : BitVec 32} {n : Int} (h : 0 ≤ n) : BinR P .shr T x y (u32 a) (it n) (u32 (a >>> n.toNat)) :=
  .ints2 fun w => by
    have hn : ¬ n < 0 := by omega
    simp only [binOp, Op.shift, hn, if_false, Sem.run_pure]
    exact ok_int (shr_u32 a n.toNat) w
theorem BinR.shl_u32_u8 {a : BitVec 32} {n : BitVec 8} : BinR P .shl T x y (u32 a) (u8 n) (u32 (a <<< n.toNat)) :=
  .ints2 fun w => by
    have hn : ¬ (n.toNat : Int) < 0 := by omega
    simp only [binOp, Op.shift, hn, if_false, Sem.run_pure, Int.toNat_natCast]
    exact ok_int (shl_u32 a n.toNat) w
theorem BinR.shr_u32_u8 {a : BitVec 32} {n : BitVec 8} : BinR P .shr T x y (u32 a) (u8 n) (u32 (a >>> n.toNat)) :=
  .ints2 fun w => by
    have hn : ¬ (n.toNat : Int) < 0 := by omega
    simp only [binOp, Op.shift, hn, if_false, Sem.run_pure, Int.toNat_natCast]
    exact ok_int (shr_u32 a n.toNat) w
theorem BinR.shl_u32_u32 {a : BitVec 32} {n : BitVec 32} : BinR P .shl T x y (u32 a) (u32 n) (u32 (a <<< n.toNat)) :=
  .ints2 fun w => by
    have hn : ¬ (n.toNat : Int) < 0 := by omega
    simp only [binOp, Op.shift, hn, if_false, Sem.run_pure, Int.toNat_natCast]
    exact ok_int (shl_u32 a n.toNat) w
theorem BinR.shr_u32_u32 {a : BitVec 32} {n : BitVec 32} : BinR P .shr T x y (u32 a) (u32 n) (u32 (a >>> n.toNat)) :=
  .ints2 fun w => by
    have hn : ¬ (n.toNat : Int) < 0 := by omega
    simp only [binOp, Op.shift, hn, if_false, Sem.run_pure, Int.toNat_natCast]
    exact ok_int (shr_u32 a n.toNat) w
theorem BinR.shl_u32_u64 {a : BitVec 32} {n : BitVec 64} : BinR P .shl T x y (u32 a) (u64 n) (u32 (a <<< n.toNat)) :=
  .ints2 fun w => by
    have hn : ¬ (n.toNat : Int) < 0 := by omega
    simp only [binOp, Op.shift, hn, if_false, Sem.run_pure, Int.toNat_natCast]
    exact ok_int (shl_u32 a n.toNat) w
theorem BinR.shr_u32_u64 {a : BitVec 32} {n : BitVec 64} : BinR P .shr T x y (u32 a) (u64 n) (u32 (a >>> n.toNat)) :=
  .ints2 fun w => by
    have hn : ¬ (n.toNat : Int) < 0 := by omega
    simp only [binOp, Op.shift, hn, if_false, Sem.run_pure, Int.toNat_natCast]
    exact ok_int (shr_u32 a n.toNat) w
theorem BinR.lss_u32 {a b : BitVec 32} : BinR P .lss T x y (u32 a) (u32 b) (.bool (decide (a.toNat < b.toNat))) :=
  .ints fun w => by
    simp only [binOp, Op.intCmp, ne_eq, not_true_eq_false, if_false, Sem.run_pure]
    exact ok_bool (decide_eq_decide.2 (by omega)) w
theorem BinR.leq_u32 {a b : BitVec 32} : BinR P .leq T x y (u32 a) (u32 b) (.bool (decide (a.toNat ≤ b.toNat))) :=
  .ints fun w => by
    simp only [binOp, Op.intCmp, ne_eq, not_true_eq_false, if_false, Sem.run_pure]
    exact ok_bool (decide_eq_decide.2 (by omega)) w
theorem BinR.gtr_u32 {a b : BitVec 32} : BinR P .gtr T x y (u32 a) (u32 b) (.bool (decide (a.toNat > b.toNat))) :=
  .ints fun w => by
    simp only [binOp, Op.intCmp, ne_eq, not_true_eq_false, if_false, Sem.run_pure]
    exact ok_bool (decide_eq_decide.2 (by omega)) w
theorem BinR.geq_u32 {a b : BitVec 32} : BinR P .geq T x y (u32 a) (u32 b) (.bool (decide (a.toNat ≥ b.toNat))) :=
  .ints fun w => by
    simp only [binOp, Op.intCmp, ne_eq, not_true_eq_false, if_false, Sem.run_pure]
    exact ok_bool (decide_eq_decide.2 (by omega)) w
theorem BinR.eql_u32 {a b : BitVec 32} : BinR P .eql T x y (u32 a) (u32 b) (.bool (decide (a = b))) :=
  .ints fun w => by
    simp only [binOp, Op.intCmp, ne_eq, not_true_eq_false, if_false, Sem.run_pure]
    refine ok_bool ?_ w
    rw [Bool.eq_iff_iff, beq_iff_eq, decide_eq_true_iff, ← BitVec.toNat_inj]; omega
theorem BinR.neq_u32 {a b : BitVec 32} : BinR P .neq T x y (u32 a) (u32 b) (.bool (decide (a ≠ b))) :=
  .ints fun w => by
    simp only [binOp, Op.intCmp, ne_eq, not_true_eq_false, if_false, Sem.run_pure]
    refine ok_bool ?_ w
    rw [Bool.eq_iff_iff, bne_iff_ne, decide_eq_true_iff, ← BitVec.toNat_inj]; omega

/-! #### u64 -/
theorem BinR.add_u64 {a b : BitVec 64} : BinR P .add T x y (u64 a) (u64 b) (u64 (a + b)) :=
  .ints fun w => by
    simp only [binOp, Op.intArith, ne_eq, not_true_eq_false, if_false, Sem.run_pure]
    exact ok_int (by rw [wrap_w64, BitVec.toNat_add]; omega) w
theorem BinR.sub_u64 {a b : BitVec 64} : BinR P .sub T x y (u64 a) (u64 b) (u64 (a - b)) :=
  .ints fun w => by
    simp only [binOp, Op.intArith, ne_eq, not_true_eq_false, if_false, Sem.run_pure]
    exact ok_int (by rw [wrap_w64, BitVec.toNat_sub]; have := a.isLt; have := b.isLt; omega) w
theorem BinR.mul_u64 {a b : BitVec 64} : BinR P .mul T x y (u64 a) (u64 b) (u64 (a * b)) :=
  .ints fun w => by
    simp only [binOp, Op.intArith, ne_eq, not_true_eq_false, if_false, Sem.run_pure]
    exact ok_int (by rw [wrap_w64, BitVec.toNat_mul, Int.natCast_emod, Int.natCast_mul]; rfl) w
theorem BinR.quo_u64 {a b : BitVec 64} (h : b.toNat ≠ 0) : BinR P .quo T x y (u64 a) (u64 b) (u64 (a / b)) :=
  .ints fun w => by
    have hb : ¬ ((b.toNat : Int) = 0) := by omega
    simp only [binOp, Op.intDiv, ne_eq, not_true_eq_false, if_false, hb, Sem.run_pure]
    refine ok_int ?_ w
    rw [wrap_w64, BitVec.toNat_udiv, ← Int.ofNat_tdiv]
    have h1 : a.toNat / b.toNat ≤ a.toNat := Nat.div_le_self _ _
    have := a.isLt
    generalize a.toNat / b.toNat = q at *
    omega
theorem BinR.rem_u64 {a b : BitVec 64} (h : b.toNat ≠ 0) : BinR P .rem T x y (u64 a) (u64 b) (u64 (a % b)) :=
  .ints fun w => by
    have hb : ¬ ((b.toNat : Int) = 0) := by omega
    simp only [binOp, Op.intDiv, ne_eq, not_true_eq_false, if_false, hb, Sem.run_pure]
    refine ok_int ?_ w
    rw [BitVec.toNat_umod, Int.ofNat_tmod]
theorem BinR.and_u64 {a b : BitVec 64} : BinR P .and T x y (u64 a) (u64 b) (u64 (a &&& b)) :=
  .ints fun w => by
    simp only [binOp, Op.intBits, ne_eq, not_true_eq_false, if_false, Sem.run_pure]
    refine ok_int ?_ w
    show IntKind.u64.wrap (((BitVec.ofInt 64 (a.toNat : Int)) &&& (BitVec.ofInt 64 (b.toNat : Int))).toNat : Int) = _
    rw [BitVec.ofInt_natCast, BitVec.ofInt_natCast, BitVec.ofNat_toNat, BitVec.ofNat_toNat, BitVec.setWidth_eq, BitVec.setWidth_eq, wrap_w64]
    have := (a &&& b).isLt
    omega
theorem BinR.or_u64 {a b : BitVec 64} : BinR P .or T x y (u64 a) (u64 b) (u64 (a ||| b)) :=
  .ints fun w => by
    simp only [binOp, Op.intBits, ne_eq, not_true_eq_false, if_false, Sem.run_pure]
    refine ok_int ?_ w
    show IntKind.u64.wrap (((BitVec.ofInt 64 (a.toNat : Int)) ||| (BitVec.ofInt 64 (b.toNat : Int))).toNat : Int) = _
    rw [BitVec.ofInt_natCast, BitVec.ofInt_natCast, BitVec.ofNat_toNat, BitVec.ofNat_toNat, BitVec.setWidth_eq, BitVec.setWidth_eq, wrap_w64]
    have := (a ||| b).isLt
    omega
theorem BinR.xor_u64 {a b : BitVec 64} : BinR P .xor T x y (u64 a) (u64 b) (u64 (a ^^^ b)) :=
  .ints fun w => by
    simp only [binOp, Op.intBits, ne_eq, not_true_eq_false, if_false, Sem.run_pure]
    refine ok_int ?_ w
    show IntKind.u64.wrap (((BitVec.ofInt 64 (a.toNat : Int)) ^^^ (BitVec.ofInt 64 (b.toNat : Int))).toNat : Int) = _
    rw [BitVec.ofInt_natCast, BitVec.ofInt_natCast, BitVec.ofNat_toNat, BitVec.ofNat_toNat, BitVec.setWidth_eq, BitVec.setWidth_eq, wrap_w64]
    have := (a ^^^ b).isLt
    omega
theorem BinR.andNot_u64 {a b : BitVec 64} : BinR P .andNot T x y (u64 a) (u64 b) (u64 (a &&& ~~~b)) :=
  .ints fun w => by
    simp only [binOp, Op.intBits, ne_eq, not_true_eq_false, if_false, Sem.run_pure]
    refine ok_int ?_ w
    show IntKind.u64.wrap (((BitVec.ofInt 64 (a.toNat : Int)) &&& ~~~(BitVec.ofInt 64 (b.toNat : Int))).toNat : Int) = _
    rw [BitVec.ofInt_natCast, BitVec.ofInt_natCast, BitVec.ofNat_toNat, BitVec.ofNat_toNat, BitVec.setWidth_eq, BitVec.setWidth_eq, wrap_w64]
    have := (a &&& ~~~b).isLt
    omega
theorem shl_u64 (a : BitVec 64) (n : Nat) : IntKind.u64.wrap ((a.toNat : Int) * 2 ^ min n 64) = ((a <<< n).toNat : Int) := by
  rw [wrap_w64, BitVec.toNat_shiftLeft, Nat.shiftLeft_eq]
  rcases Nat.le_total n 64 with h | h
  · rw [Nat.min_eq_left h]
    rw [Int.natCast_emod, Int.natCast_mul, Int.natCast_pow]
    rfl
  · rw [Nat.min_eq_right h]
    have h1 : a.toNat * 2 ^ n = (a.toNat * 2 ^ (n - 64)) * 2 ^ 64 := by
      rw [Nat.mul_assoc, ← Nat.pow_add]; congr 2; omega
    rw [h1, Nat.mul_mod_left]
    omega
theorem shr_u64 (a : BitVec 64) (n : Nat) : ((a.toNat : Int)).fdiv (2 ^ min n 64) = ((a >>> n).toNat : Int) := by
  rw [BitVec.toNat_ushiftRight, Nat.shiftRight_eq_div_pow]
  rw [Int.fdiv_eq_ediv_of_nonneg _ (by exact_mod_cast Nat.zero_le _)]
  rcases Nat.le_total n 64 with h | h
  · rw [Nat.min_eq_left h]
    rw [Int.natCast_ediv, Int.natCast_pow]
    rfl
  · rw [Nat.min_eq_right h]
    have h1 : a.toNat / 2 ^ n = 0 := Nat.div_eq_of_lt (Nat.lt_of_lt_of_le a.isLt (Nat.pow_le_pow_right (by omega) h))
    rw [h1]
    have := a.isLt
    omega
theorem BinR.shl_u64_i {a : BitVec 64} {n : Int} (h : 0 ≤ n) : BinR P .shl T x y (u64 a) (it n) (u64 (a <<< n.toNat)) :=
  .ints2 fun w => by
    have hn : ¬ n < 0 := by omega
    simp only [binOp, Op.shift, hn, if_false, Sem.run_pure]
    exact ok_int (shl_u64 a n.toNat) w
theorem BinR.shr_u64_i {a : BitVec 64} {n : Int} (h : 0 ≤ n) : BinR P .shr T x y (u64 a) (it n) (u64 (a >>> n.toNat)) :=
  .ints2 fun w => by
    have hn : ¬ n < 0 := by omega
    simp only [binOp, Op.shift, hn, if_false, Sem.run_pure]
    exact ok_int (shr_u64 a n.toNat) w
theorem BinR.shl_u64_u8 {a : BitVec 64} {n : BitVec 8} : BinR P .shl T x y (u64 a) (u8 n) (u64 (a <<< n.toNat)) :=
  .ints2 fun w => by
    have hn : ¬ (n.toNat : Int) < 0 := by omega
    simp only [binOp, Op.shift, hn, if_false, Sem.run_pure, Int.toNat_natCast]
    exact ok_int (shl_u64 a n.toNat) w
theorem BinR.shr_u64_u8 {a : BitVec 64} {n : BitVec 8} : BinR P .shr T x y (u64 a) (u8 n) (u64 (a >>> n.toNat)) :=
  .ints2 fun w => by
    have hn : ¬ (n.toNat : Int) < 0 := by omega
    simp only [binOp, Op.shift, hn, if_false, Sem.run_pure, Int.toNat_natCast]
    exact ok_int (shr_u64 a n.toNat) w
theorem BinR.shl_u64_u32 {a : BitVec 64} {n : BitVec 32} : BinR P .shl T x y (u64 a) (u32 n) (u64 (a <<< n.toNat)) :=
  .ints2 fun w => by
    have hn : ¬ (n.toNat : Int) < 0 := by omega
    simp only [binOp, Op.shift, hn, if_false, Sem.run_pure, Int.toNat_natCast]
    exact ok_int (shl_u64 a n.toNat) w
theorem BinR.shr_u64_u32 {a : BitVec 64} {n : BitVec 32} : BinR P .shr T x y (u64 a) (u32 n) (u64 (a >>> n.toNat)) :=
  .ints2 fun w => by
    have hn : ¬ (n.toNat : Int) < 0 := by omega
    simp only [binOp, Op.shift, hn, if_false, Sem.run_pure, Int.toNat_natCast]
    exact ok_int (shr_u64 a n.toNat) w
theorem BinR.shl_u64_u64 {a : BitVec 64} {n : BitVec 64} : BinR P .shl T x y (u64 a) (u64 n) (u64 (a <<< n.toNat)) :=
  .ints2 fun w => by
    have hn : ¬ (n.toNat : Int) < 0 := by omega
    simp only [binOp, Op.shift, hn, if_false, Sem.run_pure, Int.toNat_natCast]
    exact ok_int (shl_u64 a n.toNat) w
theorem BinR.shr_u64_u64 {a : BitVec 64} {n : BitVec 64} : BinR P .shr T x y (u64 a) (u64 n) (u64 (a >>> n.toNat)) :=
  .ints2 fun w => by
    have hn : ¬ (n.toNat : Int) < 0 := by omega
    simp only [binOp, Op.shift, hn, if_false, Sem.run_pure, Int.toNat_natCast]
    exact ok_int (shr_u64 a n.toNat) w
theorem BinR.lss_u64 {a b : BitVec 64} : BinR P .lss T x y (u64 a) (u64 b) (.bool (decide (a.toNat < b.toNat))) :=
  .ints fun w => by
    simp only [binOp, Op.intCmp, ne_eq, not_true_eq_false, if_false, Sem.run_pure]
    exact ok_bool (decide_eq_decide.2 (by omega)) w
theorem BinR.leq_u64 {a b : BitVec 64} : BinR P .leq T x y (u64 a) (u64 b) (.bool (decide (a.toNat ≤ b.toNat))) :=
  .ints fun w => by
    simp only [binOp, Op.intCmp, ne_eq, not_true_eq_false, if_false, Sem.run_pure]
    exact ok_bool (decide_eq_decide.2 (by omega)) w
theorem BinR.gtr_u64 {a b : BitVec 64} : BinR P .gtr T x y (u64 a) (u64 b) (.bool (decide (a.toNat > b.toNat))) :=
  .ints fun w => by
    simp only [binOp, Op.intCmp, ne_eq, not_true_eq_false, if_false, Sem.run_pure]
    exact ok_bool (decide_eq_decide.2 (by omega)) w
theorem BinR.geq_u64 {a b : BitVec 64} : BinR P .geq T x y (u64 a) (u64 b) (.bool (decide (a.toNat ≥ b.toNat))) :=
  .ints fun w => by
    simp only [binOp, Op.intCmp, ne_eq, not_true_eq_false, if_false, Sem.run_pure]
    exact ok_bool (decide_eq_decide.2 (by omega)) w
theorem BinR.eql_u64 {a b : BitVec 64} : BinR P .eql T x y (u64 a) (u64 b) (.bool (decide (a = b))) :=
  .ints fun w => by
    simp only [binOp, Op.intCmp, ne_eq, not_true_eq_false, if_false, Sem.run_pure]
    refine ok_bool ?_ w
    rw [Bool.eq_iff_iff, beq_iff_eq, decide_eq_true_iff, ← BitVec.toNat_inj]; omega
theorem BinR.neq_u64 {a b : BitVec 64} : BinR P .neq T x y (u64 a) (u64 b) (.bool (decide (a ≠ b))) :=
  .ints fun w => by
    simp only [binOp, Op.intCmp, ne_eq, not_true_eq_false, if_false, Sem.run_pure]
    refine ok_bool ?_ w
    rw [Bool.eq_iff_iff, bne_iff_ne, decide_eq_true_iff, ← BitVec.toNat_inj]; omega

/-! #### int -/
theorem BinR.add_i {a b : Int} (h : Fits (a + b)) : BinR P .add T x y (it a) (it b) (it (a + b)) :=
  .ints fun w => by
    simp only [binOp, Op.intArith, ne_eq, not_true_eq_false, if_false, Sem.run_pure]
    exact ok_int h.wrap w
theorem BinR.add_iw {a b : Int} : BinR P .add T x y (it a) (it b) (it (IntKind.i64.wrap (a + b))) :=
  .ints fun w => by
    simp only [binOp, Op.intArith, ne_eq, not_true_eq_false, if_false, Sem.run_pure]
theorem BinR.sub_i {a b : Int} (h : Fits (a - b)) : BinR P .sub T x y (it a) (it b) (it (a - b)) :=
  .ints fun w => by
    simp only [binOp, Op.intArith, ne_eq, not_true_eq_false, if_false, Sem.run_pure]
    exact ok_int h.wrap w
theorem BinR.sub_iw {a b : Int} : BinR P .sub T x y (it a) (it b) (it (IntKind.i64.wrap (a - b))) :=
  .ints fun w => by
    simp only [binOp, Op.intArith, ne_eq, not_true_eq_false, if_false, Sem.run_pure]
theorem BinR.mul_i {a b : Int} (h : Fits (a * b)) : BinR P .mul T x y (it a) (it b) (it (a * b)) :=
  .ints fun w => by
    simp only [binOp, Op.intArith, ne_eq, not_true_eq_false, if_false, Sem.run_pure]
    exact ok_int h.wrap w
theorem BinR.mul_iw {a b : Int} : BinR P .mul T x y (it a) (it b) (it (IntKind.i64.wrap (a * b))) :=
  .ints fun w => by
    simp only [binOp, Op.intArith, ne_eq, not_true_eq_false, if_false, Sem.run_pure]
theorem BinR.quo_i {a b : Int} (ha : 0 ≤ a) (hb : 0 < b) (h : Fits a) : BinR P .quo T x y (it a) (it b) (it (a / b)) :=
  .ints fun w => by
    have hb0 : ¬ b = 0 := by omega
    simp only [binOp, Op.intDiv, ne_eq, not_true_eq_false, if_false, hb0, Sem.run_pure]
    refine ok_int ?_ w
    rw [Int.tdiv_eq_ediv_of_nonneg ha]
    refine Fits.wrap ⟨?_, ?_⟩
    · have := Int.ediv_nonneg ha (Int.le_of_lt hb); omega
    · have := Int.ediv_le_self b ha; have := h.2; omega
theorem BinR.rem_i {a b : Int} (ha : 0 ≤ a) (hb : 0 < b) : BinR P .rem T x y (it a) (it b) (it (a % b)) :=
  .ints fun w => by
    have hb0 : ¬ b = 0 := by omega
    simp only [binOp, Op.intDiv, ne_eq, not_true_eq_false, if_false, hb0, Sem.run_pure]
    exact ok_int (Int.tmod_eq_emod_of_nonneg ha) w
/-- Whatever the dividend is. -/
theorem BinR.rem_it {a b : Int} (hb : b ≠ 0) : BinR P .rem T x y (it a) (it b) (it (a.tmod b)) :=
  .ints fun w => by
    simp only [binOp, Op.intDiv, ne_eq, not_true_eq_false, if_false, hb, Sem.run_pure]
theorem BinR.quo_it {a b : Int} (hb : b ≠ 0) (h : Fits (a.tdiv b)) : BinR P .quo T x y (it a) (it b) (it (a.tdiv b)) :=
  .ints fun w => by
    simp only [binOp, Op.intDiv, ne_eq, not_true_eq_false, if_false, hb, Sem.run_pure]
    exact ok_int h.wrap w
/-- x << n where it does not wrap. -/
theorem BinR.shl_i {a n : Int} (hn : 0 ≤ n) (h64 : n ≤ 64) (h : Fits (a * 2 ^ n.toNat)) : BinR P .shl T x y (it a) (it n) (it (a * 2 ^ n.toNat)) :=
  .ints2 fun w => by
    have hn0 : ¬ n < 0 := by omega
    simp only [binOp, Op.shift, hn0, if_false, Sem.run_pure]
    refine ok_int ?_ w
    rw [show min n.toNat IntKind.i64.bits = n.toNat from Nat.min_eq_left (by show n.toNat ≤ 64; omega)]
    exact h.wrap
theorem BinR.shr_i {a n : Int} (hn : 0 ≤ n) (h64 : n ≤ 64) : BinR P .shr T x y (it a) (it n) (it (a / 2 ^ n.toNat)) :=
  .ints2 fun w => by
    have hn0 : ¬ n < 0 := by omega
    simp only [binOp, Op.shift, hn0, if_false, Sem.run_pure]
    refine ok_int ?_ w
    rw [show min n.toNat IntKind.i64.bits = n.toNat from Nat.min_eq_left (by show n.toNat ≤ 64; omega)]
    exact Int.fdiv_eq_ediv_of_nonneg _ (Int.le_of_lt (Int.pow_pos (by decide)))

theorem BinR.lss_i {a b : Int} : BinR P .lss T x y (it a) (it b) (.bool (decide (a < b))) :=
  .ints fun w => by
    simp only [binOp, Op.intCmp, ne_eq, not_true_eq_false, if_false, Sem.run_pure]
theorem BinR.leq_i {a b : Int} : BinR P .leq T x y (it a) (it b) (.bool (decide (a ≤ b))) :=
  .ints fun w => by
    simp only [binOp, Op.intCmp, ne_eq, not_true_eq_false, if_false, Sem.run_pure]
theorem BinR.gtr_i {a b : Int} : BinR P .gtr T x y (it a) (it b) (.bool (decide (a > b))) :=
  .ints fun w => by
    simp only [binOp, Op.intCmp, ne_eq, not_true_eq_false, if_false, Sem.run_pure]
theorem BinR.geq_i {a b : Int} : BinR P .geq T x y (it a) (it b) (.bool (decide (a ≥ b))) :=
  .ints fun w => by
    simp only [binOp, Op.intCmp, ne_eq, not_true_eq_false, if_false, Sem.run_pure]
theorem BinR.eql_i {a b : Int} : BinR P .eql T x y (it a) (it b) (.bool (decide (a = b))) :=
  .ints fun w => by
    simp only [binOp, Op.intCmp, ne_eq, not_true_eq_false, if_false, Sem.run_pure]
    refine ok_bool ?_ w
    rw [Bool.eq_iff_iff, beq_iff_eq, decide_eq_true_iff]
theorem BinR.neq_i {a b : Int} : BinR P .neq T x y (it a) (it b) (.bool (decide (a ≠ b))) :=
  .ints fun w => by
    simp only [binOp, Op.intCmp, ne_eq, not_true_eq_false, if_false, Sem.run_pure]
    refine ok_bool ?_ w
    rw [Bool.eq_iff_iff, bne_iff_ne, decide_eq_true_iff]

/-! #### bools, pointers, slices, maps held against nil -/
theorem BinR.eql_of {vx vy : Value} {b : Bool} (hg : ∀ w, (eqGuard .eql T x y vx vy).run P w = .ok () w) (hb : binOp .eql T vx vy = (do pure (.bool (← Op.equal T vx vy)) : Sem Value))
    (h : ∀ d w, (Op.equalIn (d + 1) T vx vy).run P w = .ok b w) : BinR P .eql T x y vx vy (.bool b) := fun w => by
  have h0 : (Op.equal T vx vy).run P w = .ok b w := h 9999 w
  simp only [Sem.run_bind, hg w, Result.andThen_ok, hb, h0, Sem.run_pure]
theorem BinR.neq_of {vx vy : Value} {b : Bool} (hg : ∀ w, (eqGuard .neq T x y vx vy).run P w = .ok () w) (hb : binOp .neq T vx vy = (do pure (.bool (!(← Op.equal T vx vy))) : Sem Value))
    (h : ∀ d w, (Op.equalIn (d + 1) T vx vy).run P w = .ok b w) : BinR P .neq T x y vx vy (.bool (!b)) := fun w => by
  have h0 : (Op.equal T vx vy).run P w = .ok b w := h 9999 w
  simp only [Sem.run_bind, hg w, Result.andThen_ok, hb, h0, Sem.run_pure]
theorem BinR.eql_b {a b : Bool} (hT : P.underlying T = some .bool) : BinR P .eql T x y (.bool a) (.bool b) (.bool (a == b)) :=
  .eql_of (fun _ => rfl) rfl fun d w => by simp [Op.equalIn, underlying, hT]
theorem BinR.neq_b {a b : Bool} (hT : P.underlying T = some .bool) : BinR P .neq T x y (.bool a) (.bool b) (.bool (!(a == b))) :=
  .neq_of (fun _ => rfl) rfl fun d w => by simp [Op.equalIn, underlying, hT]
theorem BinR.eql_p {e : TypeId} {a : Option Addr} (hT : P.underlying T = some (.pointer e)) : BinR P .eql T x y (.pointer a) (.pointer none) (.bool a.isNone) :=
  .eql_of (fun _ => rfl) rfl fun d w => by cases a <;> simp [Op.equalIn, underlying, hT]
theorem BinR.neq_p {e : TypeId} {a : Option Addr} (hT : P.underlying T = some (.pointer e)) : BinR P .neq T x y (.pointer a) (.pointer none) (.bool (!a.isNone)) :=
  .neq_of (fun _ => rfl) rfl fun d w => by cases a <;> simp [Op.equalIn, underlying, hT]
theorem BinR.eql_s {e : TypeId} {a : Option Addr} {n c m d : Nat} (hT : P.underlying T = some (.slice e)) : BinR P .eql T x y (.slice a n c) (.slice none m d) (.bool a.isNone) :=
  .eql_of (fun _ => rfl) rfl fun d w => by cases a <;> simp [Op.equalIn, underlying, hT]
theorem BinR.neq_s {e : TypeId} {a : Option Addr} {n c m d : Nat} (hT : P.underlying T = some (.slice e)) : BinR P .neq T x y (.slice a n c) (.slice none m d) (.bool (!a.isNone)) :=
  .neq_of (fun _ => rfl) rfl fun d w => by cases a <;> simp [Op.equalIn, underlying, hT]
theorem BinR.eql_m {k e : TypeId} {a : Option Nat} (hT : P.underlying T = some (.map k e)) : BinR P .eql T x y (.map a) (.map none) (.bool a.isNone) :=
  .eql_of (fun _ => rfl) rfl fun d w => by cases a <;> simp [Op.equalIn, underlying, hT]
theorem BinR.neq_m {k e : TypeId} {a : Option Nat} (hT : P.underlying T = some (.map k e)) : BinR P .neq T x y (.map a) (.map none) (.bool (!a.isNone)) :=
  .neq_of (fun _ => rfl) rfl fun d w => by cases a <;> simp [Op.equalIn, underlying, hT]
end

/-! ### An operation that leaves a value, and the memory as it was -/

/-- Where E, Γ, H are known, the operation leaves v, and nothing else happens. -/
def Yv (P : Program) (N : Nat) (C : Beg) (E : Env) (Γ H : RL) (op : Op) (ty : TypeId) (v : Value) : Prop :=
  ∀ dst pos aft gd a w, EnvOk N E a → St C Γ H w → (execOp a.eval ⟨dst, op, ty, pos, aft, gd⟩).run P w = .ok (.value v) w

/-- What a cell holds. -/
def Kn (Γ H : RL) (a : Addr) (v : Value) : Prop := ∀ w, Sat Γ H w → w.cell? a = some v

section
variable {P : Program} {N : Nat} {C : Beg} {Q : Exit → Act → World → Prop} {E : Env} {Γ H : RL} {ty : TypeId}

theorem Yv.move {x : Operand} {v : Value} (hx : ev E x = some v) : Yv P N C E Γ H (.move x) ty v := by
  intro dst pos aft gd a w he _
  simp only [execOp, he.ev hx, Sem.run_pure]
theorem Yv.assign {x : Operand} {v : Value} (hx : ev E x = some v) : Yv P N C E Γ H (.assign x) ty v := by
  intro dst pos aft gd a w he _
  simp only [execOp, he.ev hx, Sem.run_pure]
theorem Yv.pick {c x y : Operand} {b : Bool} {v u : Value} (hc : ev E c = some (.bool b)) (hx : ev E x = some v) (hy : ev E y = some u) :
    Yv P N C E Γ H (.pick c x y) ty (if b then v else u) := by
  intro dst pos aft gd a w he _
  simp [execOp, he.ev hc, he.ev hx, he.ev hy, asBool]
theorem Yv.pick_t {c x y : Operand} {v : Value} (hc : ev E c = some (.bool true)) (hx : ev E x = some v) :
    Yv P N C E Γ H (.pick c x y) ty v := by
  intro dst pos aft gd a w he _
  simp [execOp, he.ev hc, he.ev hx, asBool]
theorem Yv.pick_f {c x y : Operand} {v : Value} (hc : ev E c = some (.bool false)) (hx : ev E y = some v) :
    Yv P N C E Γ H (.pick c x y) ty v := by
  intro dst pos aft gd a w he _
  simp [execOp, he.ev hc, he.ev hx, asBool]
theorem Yv.nilCheck {x : Operand} {a : Addr} (hx : ev E x = some (.pointer (some a))) : Yv P N C E Γ H (.nilCheck x) ty (.pointer (some a)) := by
  intro dst pos aft gd a w he _
  simp only [execOp, he.ev hx, Sem.run_pure]
theorem Yv.bin {op : BinOp} {T yT : TypeId} {x y : Operand} {vx vy v : Value} (hx : ev E x = some vx) (hy : ev E y = some vy) (hr : BinR P op T x y vx vy v) :
    Yv P N C E Γ H (.binOp op T x y yT) ty v := by
  intro dst pos aft gd a w he _
  have := hr w
  simp only [Sem.run_bind] at this
  simp only [execOp, he.ev hx, he.ev hy, Sem.run_bind, this, Result.andThen_ok, Sem.run_pure]
theorem Yv.not {T : TypeId} {x : Operand} {b : Bool} (hx : ev E x = some (.bool b)) : Yv P N C E Γ H (.unOp .not T x) ty (.bool (!b)) := by
  intro dst pos aft gd a w he _
  simp [execOp, he.ev hx, Op.unary]
theorem Yv.neg_i {T : TypeId} {x : Operand} {n : Int} (hx : ev E x = some (it n)) (h : Fits (-n)) : Yv P N C E Γ H (.unOp .neg T x) ty (it (-n)) := by
  intro dst pos aft gd a w he _
  have h0 : IntKind.i64.wrap (-n) = -n := h.wrap
  simp [execOp, he.ev hx, Op.unary, Op.intArith, h0]
theorem Yv.neg_iw {T : TypeId} {x : Operand} {n : Int} (hx : ev E x = some (it n)) : Yv P N C E Γ H (.unOp .neg T x) ty (it (IntKind.i64.wrap (-n))) := by
  intro dst pos aft gd a w he _
  simp [execOp, he.ev hx, Op.unary, Op.intArith]
theorem Yv.extract {x : Operand} {vs : Array Value} {i : Nat} {v : Value} (hx : ev E x = some (.tuple vs)) (hi : vs[i]? = some v) : Yv P N C E Γ H (.extract x i) ty v := by
  intro dst pos aft gd a w he _
  simp [execOp, he.ev hx, Instr.extract, hi]

/-! #### conversions of numbers -/

theorem Yv.conv_u8_u32 {S D : TypeId} {s : TypeDesc} {x : Operand} {a : BitVec 8} (hs : P.underlying S = some s) (hd : P.underlying D = some (.int .u32)) (hx : ev E x = some (u8 a)) :
    Yv P N C E Γ H (.convert S D x) ty (u32 (a.setWidth 32)) := by
  intro dst pos aft gd b w he _
  have h0 : IntKind.u32.wrap (a.toNat : Int) = ((a.setWidth 32).toNat : Int) := by rw [wrap_w32, BitVec.toNat_setWidth]; omega
  simp [execOp, he.ev hx, convert, underlying, hs, hd, Conv.intToInt, h0]
theorem Yv.conv_u8_u64 {S D : TypeId} {s : TypeDesc} {x : Operand} {a : BitVec 8} (hs : P.underlying S = some s) (hd : P.underlying D = some (.int .u64)) (hx : ev E x = some (u8 a)) :
    Yv P N C E Γ H (.convert S D x) ty (u64 (a.setWidth 64)) := by
  intro dst pos aft gd b w he _
  have h0 : IntKind.u64.wrap (a.toNat : Int) = ((a.setWidth 64).toNat : Int) := by rw [wrap_w64, BitVec.toNat_setWidth]; omega
  simp [execOp, he.ev hx, convert, underlying, hs, hd, Conv.intToInt, h0]
theorem Yv.conv_u32_u64 {S D : TypeId} {s : TypeDesc} {x : Operand} {a : BitVec 32} (hs : P.underlying S = some s) (hd : P.underlying D = some (.int .u64)) (hx : ev E x = some (u32 a)) :
    Yv P N C E Γ H (.convert S D x) ty (u64 (a.setWidth 64)) := by
  intro dst pos aft gd b w he _
  have h0 : IntKind.u64.wrap (a.toNat : Int) = ((a.setWidth 64).toNat : Int) := by rw [wrap_w64, BitVec.toNat_setWidth]; omega
  simp [execOp, he.ev hx, convert, underlying, hs, hd, Conv.intToInt, h0]
theorem Yv.conv_u32_u8 {S D : TypeId} {s : TypeDesc} {x : Operand} {a : BitVec 32} (hs : P.underlying S = some s) (hd : P.underlying D = some (.int .u8)) (hx : ev E x = some (u32 a)) :
    Yv P N C E Γ H (.convert S D x) ty (u8 (a.setWidth 8)) := by
  intro dst pos aft gd b w he _
  have h0 : IntKind.u8.wrap (a.toNat : Int) = ((a.setWidth 8).toNat : Int) := by rw [wrap_w8, BitVec.toNat_setWidth]; omega
  simp [execOp, he.ev hx, convert, underlying, hs, hd, Conv.intToInt, h0]
theorem Yv.conv_u64_u8 {S D : TypeId} {s : TypeDesc} {x : Operand} {a : BitVec 64} (hs : P.underlying S = some s) (hd : P.underlying D = some (.int .u8)) (hx : ev E x = some (u64 a)) :
    Yv P N C E Γ H (.convert S D x) ty (u8 (a.setWidth 8)) := by
  intro dst pos aft gd b w he _
  have h0 : IntKind.u8.wrap (a.toNat : Int) = ((a.setWidth 8).toNat : Int) := by rw [wrap_w8, BitVec.toNat_setWidth]; omega
  simp [execOp, he.ev hx, convert, underlying, hs, hd, Conv.intToInt, h0]
theorem Yv.conv_u64_u32 {S D : TypeId} {s : TypeDesc} {x : Operand} {a : BitVec 64} (hs : P.underlying S = some s) (hd : P.underlying D = some (.int .u32)) (hx : ev E x = some (u64 a)) :
    Yv P N C E Γ H (.convert S D x) ty (u32 (a.setWidth 32)) := by
  intro dst pos aft gd b w he _
  have h0 : IntKind.u32.wrap (a.toNat : Int) = ((a.setWidth 32).toNat : Int) := by rw [wrap_w32, BitVec.toNat_setWidth]; omega
  simp [execOp, he.ev hx, convert, underlying, hs, hd, Conv.intToInt, h0]
theorem Yv.conv_u64_u64 {S D : TypeId} {s : TypeDesc} {x : Operand} {a : BitVec 64} (hs : P.underlying S = some s) (hd : P.underlying D = some (.int .u64)) (hx : ev E x = some (u64 a)) :
    Yv P N C E Γ H (.convert S D x) ty (u64 (a.setWidth 64)) := by
  intro dst pos aft gd b w he _
  have h0 : IntKind.u64.wrap (a.toNat : Int) = ((a.setWidth 64).toNat : Int) := by rw [wrap_w64, BitVec.toNat_setWidth]; omega
  simp [execOp, he.ev hx, convert, underlying, hs, hd, Conv.intToInt, h0]
theorem Yv.conv_u8_u8 {S D : TypeId} {s : TypeDesc} {x : Operand} {a : BitVec 8} (hs : P.underlying S = some s) (hd : P.underlying D = some (.int .u8)) (hx : ev E x = some (u8 a)) :
    Yv P N C E Γ H (.convert S D x) ty (u8 (a.setWidth 8)) := by
  intro dst pos aft gd b w he _
  have h0 : IntKind.u8.wrap (a.toNat : Int) = ((a.setWidth 8).toNat : Int) := by rw [wrap_w8, BitVec.toNat_setWidth]; omega
  simp [execOp, he.ev hx, convert, underlying, hs, hd, Conv.intToInt, h0]
theorem Yv.conv_u32_u32 {S D : TypeId} {s : TypeDesc} {x : Operand} {a : BitVec 32} (hs : P.underlying S = some s) (hd : P.underlying D = some (.int .u32)) (hx : ev E x = some (u32 a)) :
    Yv P N C E Γ H (.convert S D x) ty (u32 (a.setWidth 32)) := by
  intro dst pos aft gd b w he _
  have h0 : IntKind.u32.wrap (a.toNat : Int) = ((a.setWidth 32).toNat : Int) := by rw [wrap_w32, BitVec.toNat_setWidth]; omega
  simp [execOp, he.ev hx, convert, underlying, hs, hd, Conv.intToInt, h0]
theorem Yv.conv_i_u8 {S D : TypeId} {s : TypeDesc} {x : Operand} {n : Int} (hs : P.underlying S = some s) (hd : P.underlying D = some (.int .u8)) (hx : ev E x = some (it n)) :
    Yv P N C E Γ H (.convert S D x) ty (u8 (BitVec.ofInt 8 n)) := by
  intro dst pos aft gd b w he _
  have h0 : IntKind.u8.wrap n = ((BitVec.ofInt 8 n).toNat : Int) := by rw [wrap_w8, BitVec.toNat_ofInt]; omega
  simp [execOp, he.ev hx, convert, underlying, hs, hd, Conv.intToInt, h0]
/-- A number that is no int's wrap: a length. -/
theorem Yv.conv_n_u8 {S D : TypeId} {s : TypeDesc} {x : Operand} {n : Nat} (hs : P.underlying S = some s) (hd : P.underlying D = some (.int .u8)) (hx : ev E x = some (it (n : Int))) :
    Yv P N C E Γ H (.convert S D x) ty (u8 (BitVec.ofNat 8 n)) := by
  intro dst pos aft gd b w he _
  have h0 : IntKind.u8.wrap (n : Int) = ((BitVec.ofNat 8 n).toNat : Int) := by rw [wrap_w8, BitVec.toNat_ofNat]; omega
  simp [execOp, he.ev hx, convert, underlying, hs, hd, Conv.intToInt, h0]
theorem Yv.conv_u8_i {S D : TypeId} {s : TypeDesc} {x : Operand} {a : BitVec 8} (hs : P.underlying S = some s) (hd : P.underlying D = some (.int .i64)) (hx : ev E x = some (u8 a)) :
    Yv P N C E Γ H (.convert S D x) ty (it (a.toNat : Int)) := by
  intro dst pos aft gd b w he _
  have h0 : IntKind.i64.wrap (a.toNat : Int) = (a.toNat : Int) := Fits.wrap ⟨by omega, by omega⟩
  simp [execOp, he.ev hx, convert, underlying, hs, hd, Conv.intToInt, h0]
theorem Yv.conv_u8_iw {S D : TypeId} {s : TypeDesc} {x : Operand} {a : BitVec 8} (hs : P.underlying S = some s) (hd : P.underlying D = some (.int .i64)) (hx : ev E x = some (u8 a)) :
    Yv P N C E Γ H (.convert S D x) ty (it (IntKind.i64.wrap (a.toNat : Int))) := by
  intro dst pos aft gd b w he _
  simp [execOp, he.ev hx, convert, underlying, hs, hd, Conv.intToInt]
theorem Yv.conv_i_u32 {S D : TypeId} {s : TypeDesc} {x : Operand} {n : Int} (hs : P.underlying S = some s) (hd : P.underlying D = some (.int .u32)) (hx : ev E x = some (it n)) :
    Yv P N C E Γ H (.convert S D x) ty (u32 (BitVec.ofInt 32 n)) := by
  intro dst pos aft gd b w he _
  have h0 : IntKind.u32.wrap n = ((BitVec.ofInt 32 n).toNat : Int) := by rw [wrap_w32, BitVec.toNat_ofInt]; omega
  simp [execOp, he.ev hx, convert, underlying, hs, hd, Conv.intToInt, h0]
/-- A number that is no int's wrap: a length. -/
theorem Yv.conv_n_u32 {S D : TypeId} {s : TypeDesc} {x : Operand} {n : Nat} (hs : P.underlying S = some s) (hd : P.underlying D = some (.int .u32)) (hx : ev E x = some (it (n : Int))) :
    Yv P N C E Γ H (.convert S D x) ty (u32 (BitVec.ofNat 32 n)) := by
  intro dst pos aft gd b w he _
  have h0 : IntKind.u32.wrap (n : Int) = ((BitVec.ofNat 32 n).toNat : Int) := by rw [wrap_w32, BitVec.toNat_ofNat]; omega
  simp [execOp, he.ev hx, convert, underlying, hs, hd, Conv.intToInt, h0]
theorem Yv.conv_u32_i {S D : TypeId} {s : TypeDesc} {x : Operand} {a : BitVec 32} (hs : P.underlying S = some s) (hd : P.underlying D = some (.int .i64)) (hx : ev E x = some (u32 a)) :
    Yv P N C E Γ H (.convert S D x) ty (it (a.toNat : Int)) := by
  intro dst pos aft gd b w he _
  have h0 : IntKind.i64.wrap (a.toNat : Int) = (a.toNat : Int) := Fits.wrap ⟨by omega, by omega⟩
  simp [execOp, he.ev hx, convert, underlying, hs, hd, Conv.intToInt, h0]
theorem Yv.conv_u32_iw {S D : TypeId} {s : TypeDesc} {x : Operand} {a : BitVec 32} (hs : P.underlying S = some s) (hd : P.underlying D = some (.int .i64)) (hx : ev E x = some (u32 a)) :
    Yv P N C E Γ H (.convert S D x) ty (it (IntKind.i64.wrap (a.toNat : Int))) := by
  intro dst pos aft gd b w he _
  simp [execOp, he.ev hx, convert, underlying, hs, hd, Conv.intToInt]
theorem Yv.conv_i_u64 {S D : TypeId} {s : TypeDesc} {x : Operand} {n : Int} (hs : P.underlying S = some s) (hd : P.underlying D = some (.int .u64)) (hx : ev E x = some (it n)) :
    Yv P N C E Γ H (.convert S D x) ty (u64 (BitVec.ofInt 64 n)) := by
  intro dst pos aft gd b w he _
  have h0 : IntKind.u64.wrap n = ((BitVec.ofInt 64 n).toNat : Int) := by rw [wrap_w64, BitVec.toNat_ofInt]; omega
  simp [execOp, he.ev hx, convert, underlying, hs, hd, Conv.intToInt, h0]
/-- A number that is no int's wrap: a length. -/
theorem Yv.conv_n_u64 {S D : TypeId} {s : TypeDesc} {x : Operand} {n : Nat} (hs : P.underlying S = some s) (hd : P.underlying D = some (.int .u64)) (hx : ev E x = some (it (n : Int))) :
    Yv P N C E Γ H (.convert S D x) ty (u64 (BitVec.ofNat 64 n)) := by
  intro dst pos aft gd b w he _
  have h0 : IntKind.u64.wrap (n : Int) = ((BitVec.ofNat 64 n).toNat : Int) := by rw [wrap_w64, BitVec.toNat_ofNat]; omega
  simp [execOp, he.ev hx, convert, underlying, hs, hd, Conv.intToInt, h0]
theorem Yv.conv_u64_i {S D : TypeId} {s : TypeDesc} {x : Operand} {a : BitVec 64} (hs : P.underlying S = some s) (hd : P.underlying D = some (.int .i64)) (hx : ev E x = some (u64 a)) (h : a.toNat < 9223372036854775808) :
    Yv P N C E Γ H (.convert S D x) ty (it (a.toNat : Int)) := by
  intro dst pos aft gd b w he _
  have h0 : IntKind.i64.wrap (a.toNat : Int) = (a.toNat : Int) := Fits.wrap ⟨by omega, by omega⟩
  simp [execOp, he.ev hx, convert, underlying, hs, hd, Conv.intToInt, h0]
theorem Yv.conv_u64_iw {S D : TypeId} {s : TypeDesc} {x : Operand} {a : BitVec 64} (hs : P.underlying S = some s) (hd : P.underlying D = some (.int .i64)) (hx : ev E x = some (u64 a)) :
    Yv P N C E Γ H (.convert S D x) ty (it (IntKind.i64.wrap (a.toNat : Int))) := by
  intro dst pos aft gd b w he _
  simp [execOp, he.ev hx, convert, underlying, hs, hd, Conv.intToInt]
theorem Yv.conv_i_i {S D : TypeId} {s : TypeDesc} {x : Operand} {n : Int} (hs : P.underlying S = some s) (hd : P.underlying D = some (.int .i64)) (hx : ev E x = some (it n)) (h : Fits n) :
    Yv P N C E Γ H (.convert S D x) ty (it n) := by
  intro dst pos aft gd b w he _
  have h0 : IntKind.i64.wrap n = n := h.wrap
  simp [execOp, he.ev hx, convert, underlying, hs, hd, Conv.intToInt, h0]

/-! #### places -/

theorem add_none (b o n : Nat) : (⟨b, o, none⟩ : Addr).add n = ⟨b, o + n, none⟩ := by unfold Addr.add; split <;> simp_all

/-- Field f of a struct of type s lies off cells behind its head. -/
def FA (P : Program) (s f off : Nat) : Prop := ∀ b o w, (Instr.fieldAt s (ptr b o) f).run P w = .ok (ptr b (o + off)) w
theorem FA.mk {s f off : Nat} {fs : Array Field} {fd : Field} {m : Nat} (hs : P.underlying s = some (.struct fs)) (hf : fs[f]? = some fd) (ho : fd.offset = off)
    (hm : (P.info? fd.type).map (·.size) = some (m + 1)) : FA P s f off := by
  intro b o w
  obtain ⟨i, hi, hi2⟩ := Option.map_eq_some_iff.1 hm
  simp [Instr.fieldAt, underlying, hs, hf, Instr.sureAddr, fieldPlace, sizeOf, typeInfo, hi, hi2, ho, add_none]
theorem Yv.fieldAddr {s f off : Nat} {x : Operand} {b o : Nat} (hf : FA P s f off) (hx : ev E x = some (ptr b o)) : Yv P N C E Γ H (.fieldAddr s x f) ty (ptr b (o + off)) := by
  intro dst pos aft gd a w he _
  have := hf b o w
  simp only [execOp, he.ev hx, Sem.run_bind, this, Result.andThen_ok, Sem.run_pure]

/-- An array's or a slice's elements, of size cells each. -/
theorem Yv.indexArr {T e n size : Nat} {x ix : Operand} {b o j : Nat} (hT : P.underlying T = some (.array n e)) (hs : (P.info? e).map (·.size) = some size)
    (hx : ev E x = some (ptr b o)) (hi : ev E ix = some (it (j : Int))) (hj : j < n) : Yv P N C E Γ H (.indexAddr T x ix) ty (ptr b (o + j * size)) := by
  intro dst pos aft gd a w he _
  obtain ⟨i, hi1, hi2⟩ := Option.map_eq_some_iff.1 hs
  have h1 : (0 : Int) ≤ j ∧ (j : Int) < n := by omega
  simp [execOp, he.ev hx, he.ev hi, Instr.indexAt, asIntOf, underlying, hT, Instr.sureAddr, h1, sizeOf, typeInfo, hi1, hi2, add_none, hj]
theorem Yv.indexArr_u {T e n size : Nat} {x ix : Operand} {b o : Nat} {k : IntKind} {j : Nat} (hT : P.underlying T = some (.array n e)) (hs : (P.info? e).map (·.size) = some size)
    (hx : ev E x = some (ptr b o)) (hi : ev E ix = some (.int k (j : Int))) (hj : j < n) : Yv P N C E Γ H (.indexAddr T x ix) ty (ptr b (o + j * size)) := by
  intro dst pos aft gd a w he _
  obtain ⟨i, hi1, hi2⟩ := Option.map_eq_some_iff.1 hs
  have h1 : (0 : Int) ≤ j ∧ (j : Int) < n := by omega
  simp [execOp, he.ev hx, he.ev hi, Instr.indexAt, asIntOf, underlying, hT, Instr.sureAddr, h1, sizeOf, typeInfo, hi1, hi2, add_none, hj]
theorem Yv.indexSl {T e len cap size : Nat} {x ix : Operand} {b o j : Nat} (hT : P.underlying T = some (.slice e)) (hs : (P.info? e).map (·.size) = some size)
    (hx : ev E x = some (.slice (some ⟨b, o, none⟩) len cap)) (hi : ev E ix = some (it (j : Int))) (hj : j < len) : Yv P N C E Γ H (.indexAddr T x ix) ty (ptr b (o + j * size)) := by
  intro dst pos aft gd a w he _
  obtain ⟨i, hi1, hi2⟩ := Option.map_eq_some_iff.1 hs
  have h1 : (0 : Int) ≤ j ∧ (j : Int) < len := by omega
  simp [execOp, he.ev hx, he.ev hi, Instr.indexAt, asIntOf, underlying, hT, h1, sizeOf, typeInfo, hi1, hi2, add_none, hj]
/-- An element of an array that is a value. -/
theorem Yv.indexV {T e n : Nat} {x ix : Operand} {cs : Array Value} {j : Nat} {v : Value} {d : TypeDesc} (hT : P.underlying T = some (.array n e)) (hs : (P.info? e).map (·.size) = some 1)
    (hd : P.underlying e = some d) (hd' : (match d with | .struct _ | .array _ _ => true | _ => false) = false)
    (hx : ev E x = some (.agg cs)) (hi : ev E ix = some (it (j : Int))) (hj : j < n) (hv : cs[j]? = some v) : Yv P N C E Γ H (.index T x ix) ty v := by
  intro dst pos aft gd a w he _
  obtain ⟨i, hi1, hi2⟩ := Option.map_eq_some_iff.1 hs
  have h1 : (0 : Int) ≤ j ∧ (j : Int) < n := by omega
  have hag : (isAgg e).run P w = .ok false w := by
    simp only [isAgg, underlying, Sem.run_bind, run_program, Result.andThen_ok, hd, Sem.run_pure]
    cases d <;> simp_all
  simp [execOp, he.ev hx, he.ev hi, Instr.index, asIntOf, underlying, hT, h1, sizeOf, typeInfo, hi1, hi2, hj, part, hag, hv]

/-! #### loads -/

/-- A type whose values lie in one cell. -/
def One (P : Program) (T : TypeId) : Prop := ∀ w, (isAgg T).run P w = .ok false w
theorem One.mk {T : TypeId} {d : TypeDesc} (hd : P.underlying T = some d) (hd' : (match d with | .struct _ | .array _ _ => true | _ => false) = false) : One P T := by
  intro w
  simp only [isAgg, underlying, Sem.run_bind, run_program, Result.andThen_ok, hd, Sem.run_pure]
  cases d <;> simp_all
/-- A type whose values lie in n cells. -/
def Agg (P : Program) (T : TypeId) (n : Nat) : Prop := ∀ w, (isAgg T).run P w = .ok true w ∧ (sizeOf T).run P w = .ok n w
theorem Agg.mk {T : TypeId} {d : TypeDesc} {n : Nat} (hd : P.underlying T = some d) (hd' : (match d with | .struct _ | .array _ _ => true | _ => false) = true) (hs : (P.info? T).map (·.size) = some n) : Agg P T n := by
  intro w
  obtain ⟨i, hi1, hi2⟩ := Option.map_eq_some_iff.1 hs
  constructor
  · simp only [isAgg, underlying, Sem.run_bind, run_program, Result.andThen_ok, hd, Sem.run_pure]
    cases d <;> simp_all
  · simp [sizeOf, typeInfo, hi1, hi2]

theorem Yv.load1 {T : TypeId} {x : Operand} {b o : Nat} {v : Value} (h1 : One P T) (hx : ev E x = some (ptr b o)) (hk : Kn Γ H ⟨b, o, none⟩ v) : Yv P N C E Γ H (.load T x) ty v := by
  intro dst pos aft gd a w he hs
  have hc := hk w hs.sat
  simp [execOp, he.ev hx, Instr.loadAt, Instr.sureAddr, loadVar, h1 w, hc]
theorem Yv.loadA {T n : Nat} {x : Operand} {b o : Nat} {vs : List Value} (hA : Agg P T n) (hx : ev E x = some (ptr b o)) (hn : vs.length = n) (hk : ∀ i v, vs[i]? = some v → Kn Γ H ⟨b, o + i, none⟩ v) :
    Yv P N C E Γ H (.load T x) ty (.agg vs.toArray) := by
  intro dst pos aft gd a w he hs
  have hc := run_loadCells_list (P := P) w ⟨b, o, none⟩ vs (fun j v hj => by rw [add_none]; exact hk j v hj w hs.sat)
  subst hn
  simp [execOp, he.ev hx, Instr.loadAt, Instr.sureAddr, loadVar, (hA w).1, (hA w).2, hc]

theorem Kn.own {b o : Nat} {cs : List Value} {T : TypeId} {v : Value} (hm : Res.cells b cs T ∈ H) (hv : cs[o]? = some v) : Kn Γ H ⟨b, o, none⟩ v := by
  intro w hs
  have := Res.cells_ok.1 (hs.hok _ hm)
  simp [World.cell?, this, hv]
theorem Kn.ro {b o : Nat} {cs : List Value} {T : TypeId} {v : Value} (hm : Res.cells b cs T ∈ Γ) (hv : cs[o]? = some v) : Kn Γ H ⟨b, o, none⟩ v := by
  intro w hs
  have := Res.cells_ok.1 (hs.gok _ hm)
  simp [World.cell?, this, hv]

/-! #### builtins that only look -/
theorem Yv.len_s {x : Operand} {T e : TypeId} {a : Option Addr} {n c : Nat} (hT : P.underlying T = some (.slice e)) (hx : ev E x = some (.slice a n c)) : Yv P N C E Γ H (.call { callee := .builtin .len, args := #[x], argTypes := #[T] }) ty (it (n : Int)) := by
  intro dst pos aft gd a w he _
  simp [execOp, he.ev hx, resolve, invoke, builtin, Builtin.len_, goInt, underlying, hT]
theorem Yv.len_str {x : Operand} {T : TypeId} {s : ByteArray} (hT : P.underlying T = some .string) (hx : ev E x = some (.string s)) : Yv P N C E Γ H (.call { callee := .builtin .len, args := #[x], argTypes := #[T] }) ty (it (s.size : Int)) := by
  intro dst pos aft gd a w he _
  simp [execOp, he.ev hx, resolve, invoke, builtin, Builtin.len_, goInt, underlying, hT]
theorem Yv.cap_s {x : Operand} {T e : TypeId} {a : Option Addr} {n c : Nat} (hT : P.underlying T = some (.slice e)) (hx : ev E x = some (.slice a n c)) : Yv P N C E Γ H (.call { callee := .builtin .cap, args := #[x], argTypes := #[T] }) ty (it (c : Int)) := by
  intro dst pos aft gd a w he _
  simp [execOp, he.ev hx, resolve, invoke, builtin, Builtin.cap_, goInt, underlying, hT]

/-! ### One operation behind the other -/

theorem JO.nil {ops : Array Oper} (h : JQ N C .normal Q E Γ H) : JO P N C ops [] Q E Γ H := fun hn a w he hs => wpList_nil (h hn a w he hs)

theorem JO.v {ops : Array Oper} {rest : List Oper} {d : Nat} {op : Op} {pos : String} {aft : Array Edge} {v : Value} (hv : Yv P N C E Γ H op ty v) (hd : d < N)
    (h : JO P N C ops rest Q ((d, v) :: E) Γ H) : JO P N C ops (⟨some d, op, ty, pos, aft, none⟩ :: rest) Q E Γ H := by
  intro hn a w he hs
  refine wpList_plain rfl fun K hK => ?_
  simp only [Oper.wp, hv _ _ _ _ a w he hs, Oper.upon]
  exact hK _ _ (h hn _ _ (he.put d hd v) hs)

/-- A guarded operation, the guard's outcome known. -/
theorem JO.g {ops : Array Oper} {rest : List Oper} {d : Nat} {op : Op} {pos : String} {aft : Array Edge} {j g : Nat} {want b : Bool}
    (hj : ((ops[j]?).bind (·.dst)) = some g) (hg : lk E g = some (.bool b))
    (ht : b = want → JO P N C ops (⟨some d, op, ty, pos, aft, none⟩ :: rest) Q E Γ H)
    (hf : b ≠ want → JO P N C ops rest Q ((d, undef) :: E) Γ H) (hd : d < N) : JO P N C ops (⟨some d, op, ty, pos, aft, some (j, want)⟩ :: rest) Q E Γ H := by
  intro hn a w he hs
  have hy : yielded ops a.tmps j = some b := by
    have h1 := he.val g _ hg
    obtain ⟨o, ho, hd⟩ := Option.bind_eq_some_iff.1 hj
    simp only [yielded, ho, hd, Option.bind_some]
    have h2 : g < a.tmps.size ∨ ¬ g < a.tmps.size := by omega
    rcases h2 with h2 | h2
    · simp [h2] at h1
      simp [h2, h1]
    · simp [h2] at h1
      cases h1
  by_cases hbw : b = want
  · have := ht hbw hn a w he hs
    unfold wpList at this ⊢
    have h1 : Region.wanted ⟨some d, op, ty, pos, aft, some (j, want)⟩ (yielded ops a.tmps) = true := by simp [Region.wanted, hy, hbw]
    have h2 : Region.wanted ⟨some d, op, ty, pos, aft, none⟩ (yielded ops a.tmps) = true := by simp [Region.wanted]
    rw [if_pos h2] at this
    rw [if_pos h1]
    exact this
  · have h1 : Region.wanted ⟨some d, op, ty, pos, aft, some (j, want)⟩ (yielded ops a.tmps) = false := by simp [Region.wanted, hy, hbw]
    unfold wpList
    rw [if_neg (by rw [h1]; decide)]
    exact hf hbw hn _ w (he.put d hd undef) hs
end
end Go.Proofs.YtffgimlkmfjgmaaDoor
