/- The document's numbers of sixty-four bytes: differences, division, products: the plain side. No program in sight. -/
import Derived.Test.YtmbpngnamnoiaaaDoorR1
namespace Go.Proofs.YtmbpngnamnoiaaaDoor
open Go.RowKit
theorem dgN_eq (n i : Nat) : dgN n i = n / 256 ^ i % 256 := by rw [dgN]
def big : Nat := 256 ^ 64
theorem big_split {i : Nat} (h : i < 64) : ∃ K, big = 256 ^ i * (256 * K) := by
  refine ⟨256 ^ (63 - i), ?_⟩
  rw [← Nat.mul_assoc, ← Nat.pow_succ, ← Nat.pow_add, show i + 1 + (63 - i) = 64 by omega]
  rfl
theorem dg_mod (n : Nat) {i : Nat} (h : i < 64) : dgN (n % big) i = dgN n i := by
  obtain ⟨K, hK⟩ := big_split h
  rw [dgN_eq, dgN_eq, hK, Nat.mod_mul_right_div_self]
  exact Nat.mod_mod_of_dvd _ ⟨K, rfl⟩
theorem dgs_mod (n : Nat) : dgs (n % big) = dgs n := tab_congr fun j hj => by rw [dg_mod n hj]
theorem dgs_big (n : Nat) : dgs (big + n) = dgs n := by rw [← dgs_mod (big + n), Nat.add_mod_left, dgs_mod]
/-! ### Differences -/
def br8 (a b i : Nat) : Nat := if a % 256 ^ i < b % 256 ^ i then 1 else 0
theorem br8_0 (a b : Nat) : br8 a b 0 = 0 := by simp [br8, Nat.mod_one]
theorem br8_le (a b i : Nat) : br8 a b i ≤ 1 := by unfold br8; split <;> omega
theorem br8_64 {a b : Nat} (ha : a < big) (hb : b < big) : br8 a b 64 = if a < b then 1 else 0 := by
  unfold br8
  rw [show (256 : Nat) ^ 64 = big from rfl, Nat.mod_eq_of_lt ha, Nat.mod_eq_of_lt hb]
theorem less_dg {a b i : Nat} (hb : b < big) (h : i < 64) : dgN (big + a - b) i = (256 + dgN a i - dgN b i - br8 a b i) % 256 := by
  obtain ⟨K, hK⟩ := big_split h
  rw [dgN_eq, dgN_eq, dgN_eq]
  rw [hK] at hb ⊢
  rw [sub_div (p8 i) hb, show (if a % 256 ^ i < b % 256 ^ i then 1 else 0) = br8 a b i from rfl]
  have hD : b / 256 ^ i < 256 * K := (Nat.div_lt_iff_lt_mul (p8 i)).2 (by rw [Nat.mul_comm]; exact hb)
  have hle := br8_le a b i
  generalize a / 256 ^ i = A at *
  generalize b / 256 ^ i = D at *
  generalize br8 a b i = c at *
  omega
theorem br8_succ (a b i : Nat) : br8 a b (i + 1) = if dgN a i < dgN b i + br8 a b i then 1 else 0 := by
  rw [dgN_eq, dgN_eq]
  unfold br8
  have h3 := Nat.mod_lt a (p8 i)
  have h4 := Nat.mod_lt b (p8 i)
  rw [Nat.pow_succ, Nat.mod_mul, Nat.mod_mul]
  have e : ∀ A D : Nat, A < D → 256 ^ i * A + 256 ^ i ≤ 256 ^ i * D := fun A D h => by
    have := Nat.mul_le_mul_left (256 ^ i) h
    rw [Nat.succ_eq_add_one, Nat.mul_add, Nat.mul_one] at this
    exact this
  generalize a / 256 ^ i % 256 = A at *
  generalize b / 256 ^ i % 256 = D at *
  generalize a % 256 ^ i = r at *
  generalize b % 256 ^ i = s at *
  rcases Nat.lt_trichotomy A D with h1 | h1 | h1
  · have := e A D h1
    rw [if_pos (by omega), if_pos (by omega)]
  · subst h1
    by_cases hrs : r < s
    · rw [if_pos hrs, if_pos (by omega), if_pos (by omega)]
    · rw [if_neg hrs, if_neg (by omega), if_neg (by omega)]
  · have := e D A h1
    rw [if_neg (by omega), if_neg (by split <;> omega)]
theorem dgs_set0 {n t : Nat} (hn : n % 2 = 0) (ht : t < 2) : (dgs n).set 0 (it ((dgN n 0 + t : Nat) : Int)) = dgs (n + t) := by
  unfold dgs
  rw [tab_set]
  refine tab_congr fun j _ => ?_
  by_cases h : j = 0
  · subst h
    rw [if_pos rfl, dgN_eq, dgN_eq]
    simp only [Nat.pow_zero, Nat.div_one]
    congr 2
    omega
  · rw [if_neg h, dgN_eq, dgN_eq]
    obtain ⟨k, rfl⟩ : ∃ k, j = k + 1 := ⟨j - 1, by omega⟩
    rw [Nat.pow_succ, Nat.mul_comm, ← Nat.div_div_eq_div_mul, ← Nat.div_div_eq_div_mul, show (n + t) / 256 = n / 256 by omega]
/-! ### Division, bit by bit -/
theorem bit8 (W : Nat) (k : Nat) : dgN W (k / 8) / 2 ^ (k % 8) % 2 = W / 2 ^ k % 2 := by
  rw [dgN_eq]
  have hs : k % 8 < 8 := Nat.mod_lt _ (by decide)
  have h2 : 8 * (k / 8) + k % 8 = k := by omega
  have h3 : W / 2 ^ k = W / 256 ^ (k / 8) / 2 ^ (k % 8) := by rw [Nat.div_div_eq_div_mul, show (256 : Nat) = 2 ^ 8 from rfl, ← Nat.pow_mul, ← Nat.pow_add, h2]
  rw [h3]
  generalize W / 256 ^ (k / 8) = c
  have e1 := Nat.mod_mul_right_div_self c (2 ^ (k % 8)) (2 ^ (8 - k % 8))
  rw [← Nat.pow_add, show k % 8 + (8 - k % 8) = 8 by omega] at e1
  rw [show (256 : Nat) = 2 ^ 8 from rfl, e1]
  exact Nat.mod_mod_of_dvd _ (by rw [show (2 : Nat) = 2 ^ 1 from rfl, ← Nat.pow_mul]; exact Nat.pow_dvd_pow 2 (by omega))
theorem restK_eq (W m k : Nat) : restK W m k = W / 2 ^ k % m := by rw [restK]
/-- How often it went so far. -/
def oftK (W m k : Nat) : Nat := W / 2 ^ k / m
theorem oft_step {W m k : Nat} (hm : 0 < m) : oftK W m k = oftK W m (k + 1) + oftK W m (k + 1) + (if m ≤ restK W m (k + 1) + restK W m (k + 1) + W / 2 ^ k % 2 then 1 else 0) := by
  rw [restK_eq]
  unfold oftK
  have h1 := div_step W k
  have h2 : W / 2 ^ k % 2 < 2 := Nat.mod_lt _ (by decide)
  generalize W / 2 ^ k = A at *
  generalize W / 2 ^ (k + 1) = D at *
  generalize A % 2 = t at *
  have hD := Nat.div_add_mod D m
  have hr := Nat.mod_lt D hm
  generalize D % m = r at *
  have e : A = m * (2 * (D / m)) + (2 * r + t) := by rw [h1]; have : m * (2 * (D / m)) = 2 * (m * (D / m)) := by rw [Nat.mul_left_comm]
                                                     omega
  rw [e, Nat.mul_add_div hm]
  split
  · rw [show (2 * r + t) / m = 1 from Nat.div_eq_of_lt_le (by omega) (by omega)]; omega
  · rw [show (2 * r + t) / m = 0 from Nat.div_eq_of_lt (by omega)]; omega
theorem rest_step2 {W m k : Nat} (hm : 0 < m) : restK W m k = if m ≤ restK W m (k + 1) + restK W m (k + 1) + W / 2 ^ k % 2 then restK W m (k + 1) + restK W m (k + 1) + W / 2 ^ k % 2 - m else restK W m (k + 1) + restK W m (k + 1) + W / 2 ^ k % 2 := by
  have h := rest_step (a := W) (k := k) hm
  rw [show 2 * restK W m (k + 1) = restK W m (k + 1) + restK W m (k + 1) by omega] at h
  exact h
theorem rest_none {W m k : Nat} (h : W / 2 ^ k = 0) : restK W m k = 0 := by rw [restK_eq, h, Nat.zero_mod]
theorem oft_none {W m k : Nat} (h : W / 2 ^ k = 0) : oftK W m k = 0 := by rw [oftK, h, Nat.zero_div]
theorem big_pow : big = 2 ^ (8 * 64) := (Nat.pow_mul 2 8 64).symm
theorem rest_hi {W m k : Nat} (h : W < big) (hk : k = 8 * 64) : restK W m k = 0 ∧ oftK W m k = 0 ∧ W / 2 ^ k = 0 := by
  subst hk
  rw [big_pow] at h
  generalize 8 * 64 = k at *
  have h0 : W / 2 ^ k = 0 := Nat.div_eq_of_lt h
  exact ⟨rest_none h0, oft_none h0, h0⟩
theorem oft_0 (W m : Nat) : oftK W m 0 = W / m := by simp [oftK]
theorem small_big {m : Nat} (h : m < 115792089237316195423570985008687907853269984665640564039457584007913129639936) : m < big := Nat.lt_of_lt_of_le h (by decide)
/-! ### Products -/
/-- What a product's row has come to: a times the first k bytes of b, at byte i, over what was there. -/
def rowL (X a b i j : Nat) : Nat := X % 256 ^ (i + j) + a * 256 ^ i * (b % 256 ^ j)
theorem rowL_0 (X a b i : Nat) : rowL X a b i 0 = X % 256 ^ i := by simp [rowL, Nat.mod_one]
theorem rowL_succ (X a b i j : Nat) : rowL X a b i (j + 1) = rowL X a b i j + 256 ^ (i + j) * (dgN X (i + j) + a * dgN b j) := by
  rw [dgN_eq, dgN_eq]
  unfold rowL
  rw [← Nat.add_assoc, Nat.pow_succ, Nat.mod_mul, Nat.pow_succ, Nat.mod_mul, Nat.mul_add, Nat.mul_add, show a * 256 ^ i * (256 ^ j * (b / 256 ^ j % 256)) = 256 ^ (i + j) * (a * (b / 256 ^ j % 256)) by rw [Nat.pow_add, Nat.mul_assoc, ← Nat.mul_assoc (256 ^ i), Nat.mul_left_comm]]
  omega
theorem row_n (X a b i j : Nat) : rowL X a b i (j + 1) / 256 ^ (i + j) = dgN X (i + j) + a * dgN b j + rowL X a b i j / 256 ^ (i + j) := by
  rw [rowL_succ, Nat.add_mul_div_left _ _ (p8 _)]
  omega
theorem row_dg (X a b i j : Nat) : dgN (rowL X a b i (j + 1)) (i + j) = (dgN X (i + j) + a * dgN b j + rowL X a b i j / 256 ^ (i + j)) % 256 := by
  rw [dgN_eq (rowL _ _ _ _ _), row_n]
theorem row_cr (X a b i j : Nat) : rowL X a b i (j + 1) / 256 ^ (i + (j + 1)) = (dgN X (i + j) + a * dgN b j + rowL X a b i j / 256 ^ (i + j)) / 256 := by
  rw [← row_n, ← Nat.add_assoc, Nat.pow_succ, Nat.div_div_eq_div_mul]
theorem row_lo (X a b i j : Nat) {t : Nat} (h : t < i + j) : dgN (rowL X a b i (j + 1)) t = dgN (rowL X a b i j) t := by
  rw [dgN_eq (rowL X a b i (j + 1)), dgN_eq (rowL X a b i j), rowL_succ]
  obtain ⟨r, hr⟩ : ∃ r, i + j = t + (1 + r) := ⟨i + j - t - 1, by omega⟩
  generalize dgN X (i + j) + a * dgN b j = z
  rw [hr, Nat.pow_add, Nat.mul_assoc, Nat.add_mul_div_left _ _ (p8 t), Nat.pow_add, Nat.pow_one, Nat.mul_assoc, Nat.add_mul_mod_self_left]
theorem row_bd (X b i j : Nat) {a : Nat} (ha : a < 256) : rowL X a b i j / 256 ^ (i + j) < 257 := by
  rw [Nat.div_lt_iff_lt_mul (p8 _)]
  unfold rowL
  have h1 := Nat.mod_lt X (p8 (i + j))
  have h2 := Nat.mod_lt b (p8 j)
  have h3 : a * 256 ^ i * (b % 256 ^ j) ≤ 255 * 256 ^ i * 256 ^ j := Nat.mul_le_mul (Nat.mul_le_mul_right _ (by omega)) (by omega)
  rw [Nat.mul_assoc 255, ← Nat.pow_add] at h3
  omega
/-- The bytes of a row that is under way. -/
def rowT (X a b i j : Nat) : List Value := tab 64 fun t => if t < i + j then it ((dgN (rowL X a b i j) t : Nat) : Int) else it ((dgN X t : Nat) : Int)
@[simp] theorem rowT_len (X a b i j : Nat) : (rowT X a b i j).length = 64 := tab_len
theorem rowT_0 (X a b i : Nat) : rowT X a b i 0 = dgs X := tab_congr fun t _ => by
  by_cases h : t < i + 0
  · rw [if_pos h, rowL_0]
    congr 2
    rw [dgN_eq, dgN_eq]
    obtain ⟨r, rfl⟩ : ∃ r, i = t + (1 + r) := ⟨i - t - 1, by omega⟩
    rw [Nat.pow_add, Nat.mod_mul_right_div_self]
    exact Nat.mod_mod_of_dvd _ (by rw [Nat.pow_add, Nat.pow_one]; exact Nat.dvd_mul_right _ _)
  · rw [if_neg h]
theorem rowT_get (X a b i j : Nat) (h : i + j < 64) : (rowT X a b i j)[i + j]? = some (it ((dgN X (i + j) : Nat) : Int)) := by
  rw [rowT, tab_get h, if_neg (by omega)]
theorem rowT_set (X a b i j : Nat) : (rowT X a b i j).set (i + j) (it ((dgN (rowL X a b i (j + 1)) (i + j) : Nat) : Int)) = rowT X a b i (j + 1) := by
  unfold rowT
  rw [tab_set]
  refine tab_congr fun t _ => ?_
  by_cases h1 : t = i + j
  · subst h1; rw [if_pos rfl, if_pos (by omega)]
  · rw [if_neg h1]
    by_cases h2 : t < i + j
    · rw [if_pos h2, if_pos (by omega), row_lo X a b i j h2]
    · rw [if_neg h2, if_neg (by omega)]
/-- The rows of a product, added up. -/
def prodK (a b i : Nat) : Nat := (a % 256 ^ i) * b
theorem prodK_0 (a b : Nat) : prodK a b 0 = 0 := by simp [prodK, Nat.mod_one]
theorem prodK_succ (a b i : Nat) : prodK a b (i + 1) = prodK a b i + dgN a i * 256 ^ i * b := by
  unfold prodK
  rw [dgN_eq, Nat.pow_succ, Nat.mod_mul, Nat.add_mul, Nat.mul_comm (256 ^ i)]
theorem prodK_none {a b i : Nat} (h : dgN a i = 0) : prodK a b (i + 1) = prodK a b i := by rw [prodK_succ, h]; simp
theorem row_end (X a b i : Nat) (hi : i ≤ 64) : rowT X a b i (64 - i) = dgs (X + a * 256 ^ i * b) := tab_congr fun t ht => by
  rw [if_pos (by omega)]
  congr 2
  rw [← dg_mod _ ht, ← dg_mod (X + _) ht]
  congr 1
  unfold rowL
  rw [show i + (64 - i) = 64 by omega, show (256 : Nat) ^ 64 = big from rfl, Nat.mod_add_mod]
  have e : a * 256 ^ i * b = a * 256 ^ i * (b % 256 ^ (64 - i)) + big * (a * (b / 256 ^ (64 - i))) := by
    have h := Nat.mod_add_div b (256 ^ (64 - i))
    have h2 : big = 256 ^ i * 256 ^ (64 - i) := by rw [← Nat.pow_add, show i + (64 - i) = 64 by omega]; rfl
    generalize b % 256 ^ (64 - i) = y at *
    generalize b / 256 ^ (64 - i) = z at *
    rw [h2, ← h, Nat.mul_add]
    congr 1
    ac_rfl
  rw [e, ← Nat.add_assoc, Nat.add_mul_mod_self_left]
theorem prodK_64 {a : Nat} (ha : a < big) (b : Nat) : prodK a b 64 = a * b := by
  unfold prodK
  rw [show (256 : Nat) ^ 64 = big from rfl, Nat.mod_eq_of_lt ha]
theorem dgs_0 : dgs 0 = List.replicate 64 (it 0) := by
  unfold dgs dgN
  simp only [Nat.zero_div, Nat.zero_mod]
  rfl
theorem lt_big {n : Nat} (h : n < 2 * 115792089237316195423570985008687907853269984665640564039457584007913129639936) : n < big := Nat.lt_of_lt_of_le h (by decide)
/-! ### Eight words -/
def w8at (n j : Nat) : W64 := BitVec.ofNat 64 (n / 2 ^ (64 * j))
def we8 (n : Nat) : List W64 := (List.range 8).map (w8at n)
@[simp] theorem we8_len (n : Nat) : (we8 n).length = 8 := by simp [we8]
theorem we8_get (n : Nat) {j : Nat} (h : j < 8) : ((we8 n).map u64)[j]? = some (u64 (w8at n j)) := by simp [we8, h]
theorem low8_set (n : Nat) {i : Nat} (_h : i < 64) : ((we8 (n % 256 ^ i)).map u64).set (i / 8) (u64 (w8at (n % 256 ^ i) (i / 8) + (BitVec.ofNat 64 (dgN n i) <<< (8 * (i % 8))))) = (we8 (n % 256 ^ (i + 1))).map u64 := by
  have e0 : n % 256 ^ (i + 1) = n % 256 ^ i + 256 ^ i * dgN n i := by rw [Nat.pow_succ, Nat.mod_mul, dgN_eq]
  have hlt := Nat.mod_lt n (p8 i)
  have hd := dg_lt n i
  rw [e0]
  generalize n % 256 ^ i = m at *
  generalize dgN n i = d at *
  rw [pw8] at hlt ⊢
  have hs : i % 8 < 8 := Nat.mod_lt _ (by decide)
  apply List.ext_getElem (by simp)
  intro j h1 h2
  have hj : j < 8 := by simpa using h2
  rw [List.getElem_set]
  simp only [we8, List.getElem_map, List.getElem_range]
  unfold w8at
  by_cases hij : i / 8 = j
  · subst hij
    rw [if_pos rfl]
    congr 1
    apply BitVec.eq_of_toNat_eq
    rw [BitVec.toNat_add, BitVec.toNat_ofNat, BitVec.toNat_ofNat, BitVec.toNat_shiftLeft, BitVec.toNat_ofNat, Nat.shiftLeft_eq, Nat.pow_add, Nat.mul_assoc, Nat.add_mul_div_left _ _ (Nat.pow_pos (by decide)), Nat.mod_eq_of_lt (show d < 2 ^ 64 by omega), Nat.mul_comm d]
    generalize 2 ^ (8 * (i % 8)) * d = z
    generalize m / 2 ^ (64 * (i / 8)) = y
    omega
  · rw [if_neg hij]
    congr 1
    apply BitVec.eq_of_toNat_eq
    rw [BitVec.toNat_ofNat, BitVec.toNat_ofNat]
    by_cases hlo : j < i / 8
    · obtain ⟨r, hr⟩ : ∃ r, 64 * (i / 8) + 8 * (i % 8) = 64 * j + (64 + r) := ⟨64 * (i / 8) + 8 * (i % 8) - 64 * j - 64, by omega⟩
      rw [hr, Nat.pow_add, Nat.mul_assoc, Nat.add_mul_div_left _ _ (Nat.pow_pos (by decide)), Nat.pow_add, Nat.mul_assoc, Nat.add_mul_mod_self_left]
    · have hk : 64 * (i / 8) + 8 * (i % 8) + 8 ≤ 64 * j := by omega
      have h8 : 2 ^ (64 * (i / 8) + 8 * (i % 8) + 8) ≤ 2 ^ (64 * j) := Nat.pow_le_pow_right (by decide) hk
      rw [Nat.pow_add] at h8
      have hb : m + 2 ^ (64 * (i / 8) + 8 * (i % 8)) * d < 2 ^ (64 * (i / 8) + 8 * (i % 8)) * 2 ^ 8 := by
        have : 2 ^ (64 * (i / 8) + 8 * (i % 8)) * (d + 1) ≤ 2 ^ (64 * (i / 8) + 8 * (i % 8)) * 2 ^ 8 := Nat.mul_le_mul_left _ (by omega)
        rw [Nat.mul_add, Nat.mul_one] at this
        omega
      rw [Nat.div_eq_of_lt (show m < 2 ^ (64 * j) by omega), Nat.div_eq_of_lt (show m + 2 ^ (64 * (i / 8) + 8 * (i % 8)) * d < 2 ^ (64 * j) by omega)]
theorem low8_0 (n : Nat) : (we8 (n % 256 ^ 0)).map u64 = List.replicate 8 (u64 0) := by
  rw [Nat.pow_zero, Nat.mod_one, we8, show w8at 0 = fun _ => 0 from funext fun j => by rw [w8at, Nat.zero_div]; rfl]
  rfl
theorem low8_64 {n : Nat} (h : n < big) : we8 (n % 256 ^ 64) = we8 n := by rw [show (256 : Nat) ^ 64 = big from rfl, Nat.mod_eq_of_lt h]
theorem prod_big (x y : W64) : x.toNat * y.toNat < big := lt_big (by have := prod_lt x y; omega)
theorem mul_big {a b : Nat} (ha : a < 115792089237316195423570985008687907853269984665640564039457584007913129639936) (hb : b < 115792089237316195423570985008687907853269984665640564039457584007913129639936) : a * b < big := by
  have h1 := Nat.mul_lt_mul'' ha hb
  have : 115792089237316195423570985008687907853269984665640564039457584007913129639936 * 115792089237316195423570985008687907853269984665640564039457584007913129639936 = big := by decide +kernel
  omega
theorem big1 {q : Nat} (h : (wat q 1).toNat > 0) : 18446744073709551616 ≤ q := by
  rw [wat_1, BitVec.toNat_ofNat] at h
  omega
theorem big2 {q : Nat} (h : (wat q 2).toNat > 0) : 18446744073709551616 ≤ q := by
  rw [wat_2, BitVec.toNat_ofNat] at h
  omega
theorem big3 {q : Nat} (hq : q < 115792089237316195423570985008687907853269984665640564039457584007913129639936) (h1 : ¬ (wat q 1).toNat > 0) (h2 : ¬ (wat q 2).toNat > 0) : (wat q 3).toNat > 0 ↔ 18446744073709551616 ≤ q := by
  rw [wat_1, BitVec.toNat_ofNat] at h1
  rw [wat_2, BitVec.toNat_ofNat] at h2
  rw [wat_3, BitVec.toNat_ofNat]
  omega
theorem w8_four (n : Nat) : [u64 (w8at n 0), u64 (w8at n 1), u64 (w8at n 2), u64 (w8at n 3)] = (wd n).map u64 := by
  unfold w8at wd
  simp only [Nat.mul_zero, Nat.pow_zero, Nat.div_one]
  rfl
/-- What is carried. -/
def rowC (X a b i j : Nat) : Nat := rowL X a b i j / 256 ^ (i + j)
theorem rowC_0 (X a b i : Nat) : rowC X a b i 0 = 0 := by rw [rowC, rowL_0, Nat.add_zero, Nat.div_eq_of_lt (Nat.mod_lt _ (p8 i))]
theorem rowC_dg (X a b i j : Nat) : dgN (rowL X a b i (j + 1)) (i + j) = (dgN X (i + j) + a * dgN b j + rowC X a b i j) % 256 := row_dg X a b i j
theorem rowC_cr (X a b i j : Nat) : rowC X a b i (j + 1) = (dgN X (i + j) + a * dgN b j + rowC X a b i j) / 256 := row_cr X a b i j
theorem rowC_bd (X b i j : Nat) {a : Nat} (ha : a < 256) : rowC X a b i j < 257 := row_bd X b i j ha
attribute [irreducible] br8 oftK rowL prodK big w8at rowC
end Go.Proofs.YtmbpngnamnoiaaaDoor
