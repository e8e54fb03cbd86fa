/- The document's numbers of sixty-four bytes: the plain side. No program in sight. -/
import Derived.Test.YtmbpngnamnoiaaaDoorL2
namespace Go.Proofs.YtmbpngnamnoiaaaDoor
open Go.RowKit
/-- A number's byte. -/
def dgN (n i : Nat) : Nat := n / 256 ^ i % 256
theorem dg_lt (n i : Nat) : dgN n i < 256 := Nat.mod_lt _ (by decide)
/-- All its bytes. -/
def dgs (n : Nat) : List Value := tab 64 fun i => it ((dgN n i : Nat) : Int)
@[simp] theorem dgs_len (n : Nat) : (dgs n).length = 64 := tab_len
theorem dgs_get (n : Nat) {j : Nat} (h : j < 64) : (dgs n)[j]? = some (it ((dgN n j : Nat) : Int)) := tab_get h
def dT (f : Nat → Nat) (k : Nat) : List Value := tab 64 fun j => if j < k then it ((f j : Nat) : Int) else it 0
@[simp] theorem dT_len (f : Nat → Nat) (k : Nat) : (dT f k).length = 64 := tab_len
theorem dT_set (f : Nat → Nat) (k : Nat) : (dT f k).set k (it ((f k : Nat) : Int)) = dT f (k + 1) := by
  unfold dT
  rw [tab_set]
  refine tab_congr fun j hj => ?_
  by_cases h1 : j = k
  · subst h1; rw [if_pos rfl, if_pos (by omega)]
  · rw [if_neg h1]
    by_cases h2 : j < k
    · rw [if_pos h2, if_pos (by omega)]
    · rw [if_neg h2, if_neg (by omega)]
theorem dT_all (n : Nat) : dT (dgN n) 64 = dgs n := tab_congr fun _ hj => if_pos hj
theorem dT_0 (f : Nat → Nat) : dT f 0 = List.replicate 64 (it 0) := rfl
theorem p8 (i : Nat) : 0 < 256 ^ i := Nat.pow_pos (by decide)
theorem dT_32 {n : Nat} (h : n < 115792089237316195423570985008687907853269984665640564039457584007913129639936) : dT (dgN n) 32 = dgs n := tab_congr fun j hj => by
  by_cases h1 : j < 32
  · rw [if_pos h1]
  · rw [if_neg h1]
    have h2 : 256 ^ 32 ≤ 256 ^ j := Nat.pow_le_pow_right (by decide) (by omega)
    have h3 : (256 : Nat) ^ 32 = 115792089237316195423570985008687907853269984665640564039457584007913129639936 := by decide
    rw [dgN, Nat.div_eq_of_lt (by omega)]
    rfl
/-! ### A sum -/
def cr8 (a b i : Nat) : Nat := (a % 256 ^ i + b % 256 ^ i) / 256 ^ i
theorem cr8_0 (a b : Nat) : cr8 a b 0 = 0 := by simp [cr8, Nat.mod_one]
theorem cr8_le (a b i : Nat) : cr8 a b i ≤ 1 := by
  have h1 := Nat.mod_lt a (p8 i)
  have h2 := Nat.mod_lt b (p8 i)
  have : cr8 a b i < 2 := (Nat.div_lt_iff_lt_mul (p8 i)).2 (by omega)
  omega
theorem cr8_succ (a b i : Nat) : cr8 a b (i + 1) = (cr8 a b i + (dgN a i + dgN b i)) / 256 := by
  unfold cr8 dgN
  rw [Nat.pow_succ, Nat.mod_mul, Nat.mod_mul, ← Nat.div_div_eq_div_mul]
  rw [show a % 256 ^ i + 256 ^ i * (a / 256 ^ i % 256) + (b % 256 ^ i + 256 ^ i * (b / 256 ^ i % 256)) = (a % 256 ^ i + b % 256 ^ i) + 256 ^ i * (a / 256 ^ i % 256 + b / 256 ^ i % 256) by rw [Nat.mul_add]; omega, Nat.add_mul_div_left _ _ (p8 i)]
theorem plus_dg (a b i : Nat) : dgN (a + b) i = (dgN a i + dgN b i + cr8 a b i) % 256 := by
  unfold dgN
  rw [add_div' a b (256 ^ i) (p8 i), show (a % 256 ^ i + b % 256 ^ i) / 256 ^ i = cr8 a b i from rfl]
  generalize a / 256 ^ i = x
  generalize b / 256 ^ i = y
  omega
/-! ### To and from words -/
theorem pw8 (i : Nat) : 256 ^ i = 2 ^ (64 * (i / 8) + 8 * (i % 8)) := by
  rw [show (256 : Nat) = 2 ^ 8 from rfl, ← Nat.pow_mul]
  congr 1
  omega
theorem mod_div_mod (c : Nat) {s : Nat} (hs : s < 8) : c % 2 ^ 64 / 2 ^ (8 * s) % 256 = c / 2 ^ (8 * s) % 256 := by
  have e1 := Nat.mod_mul_right_div_self c (2 ^ (8 * s)) (2 ^ (64 - 8 * s))
  rw [← Nat.pow_add, show 8 * s + (64 - 8 * s) = 64 by omega] at e1
  rw [e1]
  refine Nat.mod_mod_of_dvd _ ?_
  exact Nat.pow_dvd_pow 2 (show 8 ≤ 64 - 8 * s by omega)
theorem byte_at (a : Nat) {i : Nat} (h : i < 32) : ((wat a (i / 8) >>> (8 * (i % 8))) &&& 255#64).toNat = dgN a i := by
  have h1 : ∀ n : Nat, n &&& 255 = n % 256 := fun n => Nat.and_two_pow_sub_one_eq_mod n 8
  rw [BitVec.toNat_and, BitVec.toNat_ushiftRight, wat_nat a _ (by omega), Nat.shiftRight_eq_div_pow, show (255#64).toNat = 255 from rfl, h1, mod_div_mod _ (by omega), Nat.div_div_eq_div_mul, ← Nat.pow_add, ← pw8]
  rfl
/-- The words of the first bytes. -/
theorem low_step (n : Nat) {i : Nat} (h : i < 32) : (wd (n % 256 ^ i)).set (i / 8) (wat (n % 256 ^ i) (i / 8) + (BitVec.ofNat 64 (dgN n i) <<< (8 * (i % 8)))) = wd (n % 256 ^ (i + 1)) := by
  have hj4 : i / 8 < 4 := by omega
  have e0 : n % 256 ^ (i + 1) = n % 256 ^ i + 256 ^ i * dgN n i := by rw [Nat.pow_succ, Nat.mod_mul]; rfl
  have hlt := Nat.mod_lt n (p8 i)
  have hd := dg_lt n i
  rw [e0]
  generalize n % 256 ^ i = m at *
  generalize dgN n i = d at *
  rw [pw8] at hlt ⊢
  have hs : i % 8 < 8 := Nat.mod_lt _ (by decide)
  have hw : wat m (i / 8) + (BitVec.ofNat 64 d <<< (8 * (i % 8))) = wat (m + 2 ^ (64 * (i / 8) + 8 * (i % 8)) * d) (i / 8) := by
    apply BitVec.eq_of_toNat_eq
    rw [BitVec.toNat_add, wat_nat _ _ hj4, wat_nat _ _ hj4, BitVec.toNat_shiftLeft, BitVec.toNat_ofNat, Nat.shiftLeft_eq, Nat.pow_add, Nat.mul_assoc, Nat.add_mul_div_left _ _ (Nat.pow_pos (by decide)), Nat.mod_eq_of_lt (show d < 2 ^ 64 by omega), Nat.mul_comm d]
    generalize 2 ^ (8 * (i % 8)) * d = z
    generalize m / 2 ^ (64 * (i / 8)) = y
    omega
  rw [hw]
  have hwat : ∀ j, j < 4 → j ≠ i / 8 → wat m j = wat (m + 2 ^ (64 * (i / 8) + 8 * (i % 8)) * d) j := by
    intro j hj hne
    apply BitVec.eq_of_toNat_eq
    rw [wat_nat _ _ hj, wat_nat _ _ hj]
    by_cases hlo : j < i / 8
    · obtain ⟨r, hr⟩ : ∃ r, 64 * (i / 8) + 8 * (i % 8) = 64 * j + (64 + r) := ⟨64 * (i / 8) + 8 * (i % 8) - 64 * j - 64, by omega⟩
      rw [hr, Nat.pow_add, Nat.mul_assoc, Nat.add_mul_div_left _ _ (Nat.pow_pos (by decide)), Nat.pow_add, Nat.mul_assoc, Nat.add_mul_mod_self_left]
    · have hk : 64 * (i / 8) + 8 * (i % 8) + 8 ≤ 64 * j := by omega
      have h8 : 2 ^ (64 * (i / 8) + 8 * (i % 8) + 8) ≤ 2 ^ (64 * j) := Nat.pow_le_pow_right (by decide) hk
      rw [Nat.pow_add] at h8
      have hb : m + 2 ^ (64 * (i / 8) + 8 * (i % 8)) * d < 2 ^ (64 * (i / 8) + 8 * (i % 8)) * 2 ^ 8 := by
        have : 2 ^ (64 * (i / 8) + 8 * (i % 8)) * (d + 1) ≤ 2 ^ (64 * (i / 8) + 8 * (i % 8)) * 2 ^ 8 := Nat.mul_le_mul_left _ (by omega)
        rw [Nat.mul_add, Nat.mul_one] at this
        omega
      rw [Nat.div_eq_of_lt (show m < 2 ^ (64 * j) by omega), Nat.div_eq_of_lt (show m + 2 ^ (64 * (i / 8) + 8 * (i % 8)) * d < 2 ^ (64 * j) by omega)]
  generalize m + 2 ^ (64 * (i / 8) + 8 * (i % 8)) * d = A at *
  have e : ∀ n : Nat, wd n = [wat n 0, wat n 1, wat n 2, wat n 3] := fun _ => rfl
  rcases four hj4 with h | h | h | h <;> rw [h] at hwat ⊢ <;> rw [e m, e A] <;> simp only [List.set_cons_zero, List.set_cons_succ]
  · rw [hwat 1 (by decide) (by decide), hwat 2 (by decide) (by decide), hwat 3 (by decide) (by decide)]
  · rw [hwat 0 (by decide) (by decide), hwat 2 (by decide) (by decide), hwat 3 (by decide) (by decide)]
  · rw [hwat 0 (by decide) (by decide), hwat 1 (by decide) (by decide), hwat 3 (by decide) (by decide)]
  · rw [hwat 0 (by decide) (by decide), hwat 1 (by decide) (by decide), hwat 2 (by decide) (by decide)]
theorem low_setv (n : Nat) {i : Nat} (h : i < 32) : ((wd (n % 256 ^ i)).map u64).set (i / 8) (u64 (wat (n % 256 ^ i) (i / 8) + (BitVec.ofNat 64 (dgN n i) <<< (8 * (i % 8))))) = (wd (n % 256 ^ (i + 1))).map u64 := by
  rw [← List.map_set, low_step n h]
theorem low_0 (n : Nat) : n % 256 ^ 0 = 0 := by simp [Nat.mod_one]
theorem low_32 (n : Nat) : wd (n % 256 ^ 32) = wd n := wd_mod n
theorem dg_32 {a b : Nat} (ha : a < 115792089237316195423570985008687907853269984665640564039457584007913129639936) (hb : b < 115792089237316195423570985008687907853269984665640564039457584007913129639936) : dgN (a + b) 32 = (a + b) / 115792089237316195423570985008687907853269984665640564039457584007913129639936 := by
  have : (256 : Nat) ^ 32 = 115792089237316195423570985008687907853269984665640564039457584007913129639936 := by decide
  rw [dgN, this]
  omega
attribute [irreducible] dgN cr8
end Go.Proofs.YtmbpngnamnoiaaaDoor
