/- Numbers of eight words: products. No program in sight. -/
import Derived.Test.YtmbpngnamnoiaaaDoorL2
namespace Go.Proofs.YtmbpngnamnoiaaaDoor
open Go.RowKit
def val : List W64 → Nat
  | [] => 0
  | x :: l => x.toNat + 18446744073709551616 * val l
theorem val_set : ∀ (ws : List W64) (k : Nat) (x : W64), k < ws.length → val (ws.set k x) + (ws.getD k 0).toNat * 18446744073709551616 ^ k = val ws + x.toNat * 18446744073709551616 ^ k
  | [], k, x, h => by simp at h
  | w :: ws, 0, x, _ => by simp [val]; omega
  | w :: ws, k + 1, x, h => by
    have ih := val_set ws k x (by simpa using h)
    simp only [List.set_cons_succ, val, List.getD_cons_succ, Nat.pow_succ]
    have h1 : ∀ a b c d : Nat, a + c * b = d → ∀ B, B * a + c * (b * B) = B * d := fun a b c d e B => by rw [← e, Nat.mul_add]; congr 1; rw [← Nat.mul_assoc, Nat.mul_comm]
    have e1 := h1 _ _ _ _ ih 18446744073709551616
    rw [Nat.mul_add] at e1
    have e2 : 18446744073709551616 * (x.toNat * 18446744073709551616 ^ k) = x.toNat * (18446744073709551616 ^ k * 18446744073709551616) := by rw [Nat.mul_left_comm, Nat.mul_comm 18446744073709551616]
    omega
def wd8 (n : Nat) : List W64 := (List.range 8).map fun j => BitVec.ofNat 64 (n / 18446744073709551616 ^ j)
@[simp] theorem wd8_len (n : Nat) : (wd8 n).length = 8 := rfl
theorem val_get : ∀ (ws : List W64) (k : Nat), k < ws.length → BitVec.ofNat 64 (val ws / 18446744073709551616 ^ k) = ws.getD k 0
  | [], k, h => by simp at h
  | w :: ws, 0, _ => by
    apply BitVec.eq_of_toNat_eq
    simp only [val, Nat.pow_zero, Nat.div_one, BitVec.toNat_ofNat, List.getD_cons_zero]
    have := w.isLt
    omega
  | w :: ws, k + 1, h => by
    have ih := val_get ws k (by simpa using h)
    rw [List.getD_cons_succ, ← ih, Nat.pow_succ, Nat.mul_comm, ← Nat.div_div_eq_div_mul]
    congr 2
    simp only [val]
    have := w.isLt
    omega
theorem val_wd8 {ws : List W64} (h : ws.length = 8) : ws = wd8 (val ws) := by
  apply List.ext_getElem (by rw [h, wd8_len])
  intro i h1 h2
  have := val_get ws i h1
  simp only [List.getD_eq_getElem?_getD, List.getElem?_eq_getElem h1, Option.getD_some] at this
  rw [← this]
  simp [wd8]
theorem wd8_take (n : Nat) : (wd8 n).take 4 = wd n := by
  simp [wd8, wd, List.range_succ]
def mlo (x y w c : W64) : W64 := BitVec.ofNat 64 (x.toNat * y.toNat + w.toNat + c.toNat)
def mhi (x y w c : W64) : W64 := BitVec.ofNat 64 ((x.toNat * y.toNat + w.toNat + c.toNat) / 18446744073709551616)
theorem mlo_eq (x y w c : W64) : x * y + w + 0#64 + c + 0#64 = mlo x y w c := by
  apply BitVec.eq_of_toNat_eq
  simp only [mlo, BitVec.toNat_add, BitVec.toNat_mul, BitVec.toNat_ofNat]
  generalize x.toNat * y.toNat = m
  omega
theorem mul_bd (x y : W64) : x.toNat * y.toNat ≤ 340282366920938463426481119284349108225 := Nat.mul_le_mul (show x.toNat ≤ 18446744073709551615 by omega) (show y.toNat ≤ 18446744073709551615 by omega)
theorem mhi_eq (x y w c : W64) : BitVec.ofNat 64 (x.toNat * y.toNat / 18446744073709551616) + BitVec.ofNat 64 (((x * y).toNat + w.toNat + (0#64).toNat) / 18446744073709551616) + BitVec.ofNat 64 (((x * y + w + 0#64).toNat + c.toNat + (0#64).toNat) / 18446744073709551616) = mhi x y w c := by
  apply BitVec.eq_of_toNat_eq
  have hb := mul_bd x y
  simp only [mhi, BitVec.toNat_add, BitVec.toNat_mul, BitVec.toNat_ofNat]
  generalize x.toNat * y.toNat = m at *
  omega
theorem m_split (x y w c : W64) : (mlo x y w c).toNat + (mhi x y w c).toNat * 18446744073709551616 = x.toNat * y.toNat + w.toNat + c.toNat := by
  have hb := mul_bd x y
  simp only [mlo, mhi, BitVec.toNat_ofNat]
  generalize x.toNat * y.toNat = m at *
  omega
theorem pw_eq (i : Nat) : pw i = 18446744073709551616 ^ i := by rw [pw, show (18446744073709551616 : Nat) = 2 ^ 64 from rfl, ← Nat.pow_mul]
theorem mod_pw_succ (a : Nat) {i : Nat} (h : i < 4) : a % pw (i + 1) = a % pw i + (wat a i).toNat * pw i := by
  rw [wat_nat a i h, show (2 : Nat) ^ (64 * i) = pw i from rfl, pw_succ, Nat.mod_mul]
  rw [Nat.mul_comm (pw i)]
/-- What a product's words are, i rows and j words of a row being done; c is to be carried. -/
def MulI (a b i j : Nat) (c : W64) (ws : List W64) : Prop :=
  ws.length = 8 ∧ val ws + c.toNat * pw (i + j) = (a % pw i) * b + (wat a i).toNat * (b % pw j) * pw i ∧ ∀ k, i + 4 ≤ k → k < 8 → ws.getD k 0 = 0
theorem MulI.step {a b i j : Nat} {c : W64} {ws : List W64} (h : MulI a b i j c ws) (hi : i < 4) (hj : j < 4) :
    MulI a b i (j + 1) (mhi (wat a i) (wat b j) (ws.getD (i + j) 0) c) (ws.set (i + j) (mlo (wat a i) (wat b j) (ws.getD (i + j) 0) c)) := by
  obtain ⟨h1, h2, h3⟩ := h
  refine ⟨by simp [h1], ?_, fun k hk hk8 => ?_⟩
  · have hs := val_set ws (i + j) (mlo (wat a i) (wat b j) (ws.getD (i + j) 0) c) (by omega)
    have hm := m_split (wat a i) (wat b j) (ws.getD (i + j) 0) c
    have e1 : pw (i + (j + 1)) = pw (i + j) * 18446744073709551616 := by rw [← Nat.add_assoc, pw_succ]
    have e2 : pw (i + j) = pw i * pw j := by rw [pw_eq, pw_eq, pw_eq, Nat.pow_add]
    rw [← pw_eq] at hs
    rw [mod_pw_succ b hj, e1]
    generalize mlo (wat a i) (wat b j) (ws.getD (i + j) 0) c = lo at *
    generalize mhi (wat a i) (wat b j) (ws.getD (i + j) 0) c = hi' at *
    generalize (wat a i).toNat = x at *
    generalize (wat b j).toNat = y at *
    generalize (ws.getD (i + j) 0).toNat = w at *
    generalize c.toNat = cc at *
    have e3 : (lo.toNat + hi'.toNat * 18446744073709551616) * pw (i + j) = (x * y + w + cc) * pw (i + j) := by rw [hm]
    simp only [Nat.add_mul, Nat.mul_add] at e3 ⊢
    have e4 : hi'.toNat * (pw (i + j) * 18446744073709551616) = hi'.toNat * 18446744073709551616 * pw (i + j) := by rw [Nat.mul_assoc, Nat.mul_comm 18446744073709551616]
    have e5 : x * (y * pw j) * pw i = x * y * pw (i + j) := by rw [e2, ← Nat.mul_assoc x y, Nat.mul_assoc, Nat.mul_comm (pw j)]
    rw [e4, e5]
    omega
  · rw [List.getD_eq_getElem?_getD, List.getElem?_set_ne (by omega), ← List.getD_eq_getElem?_getD]
    exact h3 k hk hk8
theorem MulI.start (a b : Nat) {i : Nat} {ws : List W64} (h1 : ws.length = 8) (h2 : val ws = (a % pw i) * b) (h3 : ∀ k, i + 4 ≤ k → k < 8 → ws.getD k 0 = 0) : MulI a b i 0 0 ws :=
  ⟨h1, by simp [h2, pw_0, Nat.mod_one], h3⟩
theorem MulI.row {a b i : Nat} {c : W64} {ws : List W64} (h : MulI a b i 4 c ws) (hb : b < 115792089237316195423570985008687907853269984665640564039457584007913129639936) (hi : i < 4) : (ws.set (i + 4) c).length = 8 ∧ val (ws.set (i + 4) c) = (a % pw (i + 1)) * b ∧ ∀ k, i + 1 + 4 ≤ k → k < 8 → (ws.set (i + 4) c).getD k 0 = 0 := by
  obtain ⟨h1, h2, h3⟩ := h
  refine ⟨by simp [h1], ?_, fun k hk hk8 => ?_⟩
  · have hs := val_set ws (i + 4) c (by omega)
    rw [h3 (i + 4) (Nat.le_refl _) (by omega), ← pw_eq] at hs
    rw [pw_4, Nat.mod_eq_of_lt hb] at h2
    rw [mod_pw_succ a hi, Nat.add_mul]
    have e : (wat a i).toNat * pw i * b = (wat a i).toNat * b * pw i := by rw [Nat.mul_assoc, Nat.mul_assoc, Nat.mul_comm b]
    rw [e]
    simp at hs
    omega
  · rw [List.getD_eq_getElem?_getD, List.getElem?_set_ne (by omega), ← List.getD_eq_getElem?_getD]
    exact h3 k (by omega) hk8
theorem cmp_gt (a b : Nat) : cmpN a b > 0 ↔ b < a := by unfold cmpN; split <;> (try split) <;> omega
section
variable {P : Program} {N : Nat} {C : Beg} {E : Env} {Γ H : RL} {ty : TypeId}
/-- The array that a slice begins with. -/
theorem Yv.s2a {T e m b o n c : Nat} {x : Operand} (hT : P.underlying T = some (.array m e)) (hx : ev E x = some (.slice (some ⟨b, o, none⟩) n c)) (h : m ≤ n) : Yv P N C E Γ H (.sliceToArrayPointer T x) ty (ptr b o) := by
  intro dst pos aft gd a w he _
  have : ¬ n < m := by omega
  simp [execOp, he.ev hx, Instr.arrayAt, underlying, hT, this]
end
end Go.Proofs.YtmbpngnamnoiaaaDoor
