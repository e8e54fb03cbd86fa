/- Numbers of four words: the plain side of limb. No program in sight. -/
import Derived.Test.YtmbpngnamnoiaaaDoorA10
namespace Go.Proofs.YtmbpngnamnoiaaaDoor
open Go.RowKit
abbrev W64 := BitVec 64
/-- A number's four words. -/
def wd (n : Nat) : List W64 := [BitVec.ofNat 64 n, BitVec.ofNat 64 (n / 18446744073709551616), BitVec.ofNat 64 (n / 340282366920938463463374607431768211456), BitVec.ofNat 64 (n / 6277101735386680763835789423207666416102355444464034512896)]
@[simp] theorem wd_len (n : Nat) : (wd n).length = 4 := rfl
/-- One of its words. -/
def wat (n j : Nat) : W64 := (wd n).getD j 0
theorem wat_0 (n : Nat) : wat n 0 = BitVec.ofNat 64 n := rfl
theorem wat_1 (n : Nat) : wat n 1 = BitVec.ofNat 64 (n / 18446744073709551616) := rfl
theorem wat_2 (n : Nat) : wat n 2 = BitVec.ofNat 64 (n / 340282366920938463463374607431768211456) := rfl
theorem wat_3 (n : Nat) : wat n 3 = BitVec.ofNat 64 (n / 6277101735386680763835789423207666416102355444464034512896) := rfl
theorem four {i : Nat} (h : i < 4) : i = 0 ∨ i = 1 ∨ i = 2 ∨ i = 3 := by omega
theorem wd_get (n : Nat) {j : Nat} (h : j < 4) : ((wd n).map u64)[j]? = some (u64 (wat n j)) := gm (d := 0) (by simpa using h)
def tw (f : Nat → W64) (k : Nat) : List Value := tab 4 fun j => if j < k then u64 (f j) else u64 0
@[simp] theorem tw_len (f : Nat → W64) (k : Nat) : (tw f k).length = 4 := tab_len
theorem tw_set (f : Nat → W64) (k : Nat) : (tw f k).set k (u64 (f k)) = tw f (k + 1) := by
  unfold tw
  rw [tab_set]
  refine tab_congr fun j hj => ?_
  by_cases h1 : j = k
  · subst h1; rw [if_pos rfl, if_pos (by omega)]
  · rw [if_neg h1]
    by_cases h2 : j < k
    · rw [if_pos h2, if_pos (by omega)]
    · rw [if_neg h2, if_neg (by omega)]
theorem tw_4 (n : Nat) : tw (wat n) 4 = (wd n).map u64 := rfl
theorem wd_mod (n : Nat) : wd (n % 115792089237316195423570985008687907853269984665640564039457584007913129639936) = wd n := by
  unfold wd
  congr 1
  · apply BitVec.eq_of_toNat_eq; simp only [BitVec.toNat_ofNat]; omega
  · congr 1
    · apply BitVec.eq_of_toNat_eq; simp only [BitVec.toNat_ofNat]; omega
    · congr 1
      · apply BitVec.eq_of_toNat_eq; simp only [BitVec.toNat_ofNat]; omega
      · congr 1
        apply BitVec.eq_of_toNat_eq; simp only [BitVec.toNat_ofNat]; omega
theorem wd_inj {a b : Nat} (ha : a < 115792089237316195423570985008687907853269984665640564039457584007913129639936) (hb : b < 115792089237316195423570985008687907853269984665640564039457584007913129639936) (h : wd a = wd b) : a = b := by
  unfold wd at h
  simp only [List.cons.injEq, and_true] at h
  obtain ⟨h0, h1, h2, h3⟩ := h
  have h0 := congrArg BitVec.toNat h0
  have h1 := congrArg BitVec.toNat h1
  have h2 := congrArg BitVec.toNat h2
  have h3 := congrArg BitVec.toNat h3
  simp only [BitVec.toNat_ofNat] at h0 h1 h2 h3
  omega
theorem wd_eq {a b : Nat} (ha : a < 115792089237316195423570985008687907853269984665640564039457584007913129639936) (hb : b < 115792089237316195423570985008687907853269984665640564039457584007913129639936) : (wd a = wd b) = (a = b) := propext ⟨wd_inj ha hb, fun h => by rw [h]⟩
theorem wd_0 : wd 0 = [0, 0, 0, 0] := rfl
theorem wd_small (x : W64) : wd x.toNat = [x, 0, 0, 0] := by
  have := x.isLt
  unfold wd
  congr 1
  · exact BitVec.eq_of_toNat_eq (by simp)
  · rw [Nat.div_eq_of_lt (by omega), Nat.div_eq_of_lt (by omega), Nat.div_eq_of_lt (by omega)]; rfl

/-! ### Sums and differences -/
def pw (i : Nat) : Nat := 2 ^ (64 * i)
theorem pw_0 : pw 0 = 1 := rfl
theorem pw_1 : pw 1 = 18446744073709551616 := rfl
theorem pw_2 : pw 2 = 340282366920938463463374607431768211456 := rfl
theorem pw_3 : pw 3 = 6277101735386680763835789423207666416102355444464034512896 := rfl
theorem pw_4 : pw 4 = 115792089237316195423570985008687907853269984665640564039457584007913129639936 := rfl
/-- What is carried into word i. -/
def cry (a b i : Nat) : W64 := BitVec.ofNat 64 ((a % pw i + b % pw i) / pw i)
theorem cry_0 (a b : Nat) : cry a b 0 = 0 := by simp [cry, pw_0, Nat.mod_one]
theorem cry_4 {a b : Nat} (ha : a < 115792089237316195423570985008687907853269984665640564039457584007913129639936) (hb : b < 115792089237316195423570985008687907853269984665640564039457584007913129639936) : cry a b 4 = BitVec.ofNat 64 ((a + b) / 115792089237316195423570985008687907853269984665640564039457584007913129639936) := by rw [cry, pw_4, Nat.mod_eq_of_lt ha, Nat.mod_eq_of_lt hb]
theorem cry_le' (a b i : Nat) : (a % pw i + b % pw i) / pw i < 2 := by
  have hp : 0 < pw i := Nat.pow_pos (by decide)
  have h1 := Nat.mod_lt a hp
  have h2 := Nat.mod_lt b hp
  exact (Nat.div_lt_iff_lt_mul hp).2 (by omega)
theorem cry_le (a b i : Nat) : (cry a b i).toNat ≤ 1 := by
  have := cry_le' a b i
  rw [cry, BitVec.toNat_ofNat]
  generalize (a % pw i + b % pw i) / pw i = c at this ⊢
  omega
theorem pw_succ (i : Nat) : pw (i + 1) = pw i * 18446744073709551616 := by unfold pw; rw [show 64 * (i + 1) = 64 * i + 64 by omega, Nat.pow_add]
theorem pw_pos (i : Nat) : 0 < pw i := Nat.pow_pos (by decide)
theorem wat_eq (n : Nat) {j : Nat} (h : j < 4) : wat n j = BitVec.ofNat 64 (n / pw j) := by
  rcases four h with rfl | rfl | rfl | rfl
  · rw [wat_0, pw_0, Nat.div_one]
  · rfl
  · rfl
  · rfl
theorem add_div' (a b P : Nat) (hP : 0 < P) : (a + b) / P = a / P + b / P + (a % P + b % P) / P := by
  have e : a + b = (a % P + b % P) + P * (a / P + b / P) := by
    have h1 := Nat.div_add_mod a P
    have h2 := Nat.div_add_mod b P
    rw [Nat.mul_add]
    omega
  rw [e, Nat.add_mul_div_left _ _ hP]
  exact Nat.add_comm _ _
theorem add_word (a b : Nat) {i : Nat} (h : i < 4) : wat a i + wat b i + cry a b i = wat (a + b) i := by
  apply BitVec.eq_of_toNat_eq
  rw [wat_eq _ h, wat_eq _ h, wat_eq _ h, cry, add_div' a b (pw i) (pw_pos i)]
  simp only [BitVec.toNat_add, BitVec.toNat_ofNat]
  generalize a / pw i = A
  generalize b / pw i = Bq
  generalize (a % pw i + b % pw i) / pw i = c
  omega
theorem add_cry (a b : Nat) {i : Nat} (h : i < 4) : BitVec.ofNat 64 (((wat a i).toNat + (wat b i).toNat + (cry a b i).toNat) / 18446744073709551616) = cry a b (i + 1) := by
  have hc := cry_le' a b i
  apply BitVec.eq_of_toNat_eq
  rw [wat_eq _ h, wat_eq _ h]
  unfold cry
  rw [pw_succ, Nat.mod_mul, Nat.mod_mul, ← Nat.div_div_eq_div_mul]
  have e : (a % pw i + pw i * (a / pw i % 18446744073709551616) + (b % pw i + pw i * (b / pw i % 18446744073709551616))) / pw i = (a % pw i + b % pw i) / pw i + (a / pw i % 18446744073709551616 + b / pw i % 18446744073709551616) := by
    rw [show a % pw i + pw i * (a / pw i % 18446744073709551616) + (b % pw i + pw i * (b / pw i % 18446744073709551616)) = (a % pw i + b % pw i) + pw i * (a / pw i % 18446744073709551616 + b / pw i % 18446744073709551616) by rw [Nat.mul_add]; omega, Nat.add_mul_div_left _ _ (pw_pos i)]
  rw [e]
  clear e
  simp only [BitVec.toNat_ofNat]
  generalize a / pw i = A at *
  generalize b / pw i = Bq at *
  generalize (a % pw i + b % pw i) / pw i = c at *
  have h1 := Nat.mod_lt A (show 0 < 18446744073709551616 by decide)
  have h2 := Nat.mod_lt Bq (show 0 < 18446744073709551616 by decide)
  omega
/-- What is borrowed from word i. -/
def brw (a b i : Nat) : W64 := if a % pw i < b % pw i then 1 else 0
theorem brw_0 (a b : Nat) : brw a b 0 = 0 := by simp [brw, pw_0, Nat.mod_one]
theorem brw_4 {a b : Nat} (ha : a < 115792089237316195423570985008687907853269984665640564039457584007913129639936) (hb : b < 115792089237316195423570985008687907853269984665640564039457584007913129639936) : brw a b 4 = if a < b then 1 else 0 := by rw [brw, pw_4, Nat.mod_eq_of_lt ha, Nat.mod_eq_of_lt hb]
theorem brw_nat (a b i : Nat) : (brw a b i).toNat = if a % pw i < b % pw i then 1 else 0 := by unfold brw; split <;> rfl
theorem brw_le (a b i : Nat) : (brw a b i).toNat ≤ 1 := by rw [brw_nat]; split <;> omega
theorem sub_div {a b P K : Nat} (hP : 0 < P) (hb : b < P * K) : (P * K + a - b) / P = K + a / P - b / P - (if a % P < b % P then 1 else 0) := by
  have h1 := Nat.div_add_mod a P
  have h2 := Nat.div_add_mod b P
  have h3 := Nat.mod_lt a hP
  have h4 := Nat.mod_lt b hP
  have hK : b / P < K := (Nat.div_lt_iff_lt_mul hP).2 (by rw [Nat.mul_comm]; exact hb)
  generalize a / P = A at *
  generalize b / P = D at *
  generalize a % P = r at *
  generalize b % P = s at *
  subst h1 h2
  obtain ⟨j, rfl⟩ : ∃ j, K = D + 1 + j := ⟨K - D - 1, by omega⟩
  split
  · rename_i hrs
    rw [show P * (D + 1 + j) + (P * A + r) - (P * D + s) = (P + r - s) + P * (j + A) by rw [Nat.mul_add, Nat.mul_add, Nat.mul_add, Nat.mul_one]; omega, Nat.add_mul_div_left _ _ hP, Nat.div_eq_of_lt (by omega)]
    omega
  · rename_i hrs
    rw [show P * (D + 1 + j) + (P * A + r) - (P * D + s) = (r - s) + P * (1 + j + A) by rw [Nat.mul_add, Nat.mul_add, Nat.mul_add, Nat.mul_add, Nat.mul_one]; omega, Nat.add_mul_div_left _ _ hP, Nat.div_eq_of_lt (by omega)]
    omega
theorem pw_split {i : Nat} (h : i < 4) : ∃ K, 115792089237316195423570985008687907853269984665640564039457584007913129639936 = pw i * (18446744073709551616 * K) ∧ 0 < K := by
  rcases four h with rfl | rfl | rfl | rfl
  · exact ⟨6277101735386680763835789423207666416102355444464034512896, rfl, by decide⟩
  · exact ⟨340282366920938463463374607431768211456, rfl, by decide⟩
  · exact ⟨18446744073709551616, rfl, by decide⟩
  · exact ⟨1, rfl, by decide⟩
theorem sub_word {a b : Nat} (hb : b < 115792089237316195423570985008687907853269984665640564039457584007913129639936) {i : Nat} (h : i < 4) : wat a i - wat b i - brw a b i = wat (115792089237316195423570985008687907853269984665640564039457584007913129639936 + a - b) i := by
  apply BitVec.eq_of_toNat_eq
  have hn := brw_nat a b i
  obtain ⟨K, hK, hK0⟩ := pw_split h
  rw [wat_eq _ h, wat_eq _ h, wat_eq _ h]
  rw [hK] at hb ⊢
  rw [sub_div (pw_pos i) hb, ← hn]
  have hD : b / pw i < 18446744073709551616 * K := (Nat.div_lt_iff_lt_mul (pw_pos i)).2 (by rw [Nat.mul_comm]; exact hb)
  have hle := brw_le a b i
  simp only [BitVec.toNat_sub, BitVec.toNat_ofNat]
  generalize a / pw i = A at *
  generalize b / pw i = D at *
  generalize (brw a b i).toNat = c at *
  omega
theorem sub_brw (a b : Nat) {i : Nat} (h : i < 4) : (if (wat a i).toNat < (wat b i).toNat + (brw a b i).toNat then 1 else 0) = brw a b (i + 1) := by
  have hn := brw_nat a b i
  have h3 := Nat.mod_lt a (pw_pos i)
  have h4 := Nat.mod_lt b (pw_pos i)
  rw [wat_eq _ h, wat_eq _ h, BitVec.toNat_ofNat, BitVec.toNat_ofNat, show brw a b (i + 1) = if a % pw (i + 1) < b % pw (i + 1) then 1 else 0 from rfl, pw_succ, Nat.mod_mul, Nat.mod_mul, hn]
  rw [show (2 : Nat) ^ 64 = 18446744073709551616 from rfl]
  have e : ∀ A D : Nat, A < D → pw i * A + pw i ≤ pw i * D := fun A D h => by
    have := Nat.mul_le_mul_left (pw i) h
    rw [Nat.succ_eq_add_one, Nat.mul_add, Nat.mul_one] at this
    exact this
  generalize a / pw i % 18446744073709551616 = A at *
  generalize b / pw i % 18446744073709551616 = D at *
  generalize a % pw i = r at *
  generalize b % pw i = s at *
  rcases Nat.lt_trichotomy A D with h1 | h1 | h1
  · have := e A D h1
    rw [if_pos (by omega), if_pos (by omega)]
  · subst h1
    by_cases hrs : r < s
    · rw [if_pos hrs, if_pos (by omega), if_pos (by omega)]
    · rw [if_neg hrs, if_neg (by omega), if_neg (by omega)]
  · have := e D A h1
    rw [if_neg (by split <;> omega), if_neg (by omega)]

/-! ### Comparing -/
def cmpN (a b : Nat) : Int := if a < b then -1 else if b < a then 1 else 0
theorem pw_three {x : Nat} (hx : x < 4) : pw (4 - x) = pw (3 - x) * 18446744073709551616 := by rw [← pw_succ]; congr 1; omega
theorem div_ne_lt {a b P : Nat} (h : a / P < b / P) : a < b := Nat.lt_of_not_le fun hh => absurd (Nat.div_le_div_right (c := P) hh) (by omega)
theorem cmp_step {a b x : Nat} (hx : x < 4) (h : a / pw (4 - x) = b / pw (4 - x)) (h1 : (wat a (3 - x)).toNat < (wat b (3 - x)).toNat) : a < b := by
  rw [pw_three hx, ← Nat.div_div_eq_div_mul, ← Nat.div_div_eq_div_mul] at h
  rw [wat_eq _ (by omega), wat_eq _ (by omega), BitVec.toNat_ofNat, BitVec.toNat_ofNat] at h1
  refine div_ne_lt (P := pw (3 - x)) ?_
  generalize a / pw (3 - x) = A at *
  generalize b / pw (3 - x) = D at *
  omega
theorem cmp_next {a b x : Nat} (hx : x < 4) (h : a / pw (4 - x) = b / pw (4 - x)) (h1 : ¬ (wat a (3 - x)).toNat < (wat b (3 - x)).toNat) (h2 : ¬ (wat b (3 - x)).toNat < (wat a (3 - x)).toNat) : a / pw (4 - (x + 1)) = b / pw (4 - (x + 1)) := by
  rw [pw_three hx, ← Nat.div_div_eq_div_mul, ← Nat.div_div_eq_div_mul] at h
  rw [wat_eq _ (by omega), wat_eq _ (by omega), BitVec.toNat_ofNat, BitVec.toNat_ofNat] at h1 h2
  rw [show 4 - (x + 1) = 3 - x by omega]
  generalize a / pw (3 - x) = A at *
  generalize b / pw (3 - x) = D at *
  omega

/-! ### One bit more -/
def bitN (a i : Nat) : W64 := BitVec.ofNat 64 (a / 2 ^ i % 2)
theorem wat_nat (a j : Nat) (h : j < 4) : (wat a j).toNat = a / 2 ^ (64 * j) % 2 ^ 64 := by
  rcases four h with rfl | rfl | rfl | rfl <;> simp only [wat_0, wat_1, wat_2, wat_3, BitVec.toNat_ofNat] <;> simp
theorem bit_at (a : Nat) {i : Nat} (h : i < 256) : (wat a (i / 64) >>> (i % 64)) &&& 1#64 = bitN a i := by
  apply BitVec.eq_of_toNat_eq
  have h1 : ∀ n : Nat, n &&& 1 = n % 2 := fun n => Nat.and_one_is_mod n
  simp only [BitVec.toNat_and, BitVec.toNat_ushiftRight, Nat.shiftRight_eq_div_pow, wat_nat a (i / 64) (by omega), bitN, BitVec.toNat_ofNat, Nat.reducePow, Nat.reduceMod, h1]
  have h2 : 64 * (i / 64) + i % 64 = i := by omega
  have h3 : a / 2 ^ i = a / 2 ^ (64 * (i / 64)) / 2 ^ (i % 64) := by rw [Nat.div_div_eq_div_mul, ← Nat.pow_add, h2]
  rw [h3]
  generalize a / 2 ^ (64 * (i / 64)) = c
  have h4 : c % 18446744073709551616 / 2 ^ (i % 64) % 2 = c / 2 ^ (i % 64) % 2 := by
    have hs : i % 64 < 64 := Nat.mod_lt _ (by decide)
    have e1 := Nat.mod_mul_right_div_self c (2 ^ (i % 64)) (2 ^ (64 - i % 64))
    rw [← Nat.pow_add, show i % 64 + (64 - i % 64) = 64 by omega] at e1
    rw [show (18446744073709551616 : Nat) = 2 ^ 64 from rfl, e1]
    refine Nat.mod_mod_of_dvd _ ?_
    exact Nat.dvd_of_pow_dvd (k := 1) (by omega) (by rw [Nat.pow_one]; exact Nat.pow_dvd_pow 2 (by omega : 1 ≤ 64 - i % 64) |> fun h => by simpa using h)
  omega
def dbl (a : Nat) (j : Nat) : W64 := wat (2 * a) j
theorem shift_word (a : Nat) {j : Nat} (h : j < 4) (h0 : 0 < j) : (wat a j <<< 1) ||| (wat a (j - 1) >>> 1 >>> 62) = wat (2 * a) j := by
  apply BitVec.eq_of_toNat_eq
  have key : ∀ c d : Nat, d < 2 → (c * 2 % 18446744073709551616) ||| d = c * 2 % 18446744073709551616 + d := fun c d hd => by
    have := Nat.two_pow_add_eq_or_of_lt (i := 1) (b := d) (by simpa using hd) (c * 2 % 18446744073709551616 / 2)
    rw [Nat.pow_one, show 2 * (c * 2 % 18446744073709551616 / 2) = c * 2 % 18446744073709551616 by omega] at this
    exact this.symm
  simp only [BitVec.toNat_or, BitVec.toNat_shiftLeft, BitVec.toNat_ushiftRight, Nat.shiftRight_eq_div_pow, Nat.shiftLeft_eq, Nat.reducePow]
  rw [key _ _ (by have := (wat a (j - 1)).isLt; omega)]
  rcases four h with rfl | rfl | rfl | rfl
  · omega
  all_goals simp only [Nat.reduceSub, wat_0, wat_1, wat_2, wat_3, BitVec.toNat_ofNat]; omega
theorem shift_word0 (a : Nat) : (wat a 0 <<< 1) ||| (0#64 >>> 1 >>> 62) = wat (2 * a) 0 := by
  apply BitVec.eq_of_toNat_eq
  simp [wat_0, Nat.shiftLeft_eq, Nat.mul_comm]
theorem dbl_or {a : Nat} {bit : W64} (hb : bit.toNat < 2) : (wd (2 * a)).set 0 (wat (2 * a) 0 ||| bit) = wd (2 * a + bit.toNat) := by
  have h0 : wat (2 * a) 0 ||| bit = BitVec.ofNat 64 (2 * a + bit.toNat) := by
    apply BitVec.eq_of_toNat_eq
    have := Nat.two_pow_add_eq_or_of_lt (i := 1) (b := bit.toNat) (by simpa using hb) ((2 * a) % 2 ^ 64 / 2)
    rw [Nat.pow_one, show 2 * ((2 * a) % 2 ^ 64 / 2) = (2 * a) % 2 ^ 64 by omega] at this
    rw [BitVec.toNat_or, wat_0, BitVec.toNat_ofNat, BitVec.toNat_ofNat, ← this]
    omega
  rw [h0]
  simp only [wd, List.set_cons_zero]
  congr 1
  rw [show (2 * a + bit.toNat) / 18446744073709551616 = 2 * a / 18446744073709551616 by omega, show (2 * a + bit.toNat) / 340282366920938463463374607431768211456 = 2 * a / 340282366920938463463374607431768211456 by omega, show (2 * a + bit.toNat) / 6277101735386680763835789423207666416102355444464034512896 = 2 * a / 6277101735386680763835789423207666416102355444464034512896 by omega]
/-- A bit set in a number whose lower bits are none. -/
theorem quo_set {q g : Nat} {i : Nat} (hi : i < 256) (hg : g < 2) (hq : q % 2 ^ (i + 1) = 0) : (wd q).set (i / 64) (wat q (i / 64) ||| (BitVec.ofNat 64 g <<< (i % 64))) = wd (q + g * 2 ^ i) := by
  obtain ⟨c, rfl⟩ : ∃ c, q = 2 ^ (i + 1) * c := ⟨q / 2 ^ (i + 1), by have := Nat.div_add_mod q (2 ^ (i + 1)); omega⟩
  have hs : i % 64 < 64 := Nat.mod_lt _ (by decide)
  have hij : i = 64 * (i / 64) + i % 64 := by omega
  have hj4 : i / 64 < 4 := by omega
  have hw : wat (2 ^ (i + 1) * c) (i / 64) ||| (BitVec.ofNat 64 g <<< (i % 64)) = wat (2 ^ (i + 1) * c + g * 2 ^ i) (i / 64) := by
    apply BitVec.eq_of_toNat_eq
    have e1 : 2 ^ (i + 1) * c / 2 ^ (64 * (i / 64)) = 2 ^ (i % 64 + 1) * c := by
      rw [show i + 1 = 64 * (i / 64) + (i % 64 + 1) by omega, Nat.pow_add, Nat.mul_assoc, Nat.mul_div_cancel_left _ (Nat.pow_pos (by decide))]
    have e2 : (2 ^ (i + 1) * c + g * 2 ^ i) / 2 ^ (64 * (i / 64)) = 2 ^ (i % 64 + 1) * c + g * 2 ^ (i % 64) := by
      have : 2 ^ (i + 1) * c + g * 2 ^ i = 2 ^ (64 * (i / 64)) * (2 ^ (i % 64 + 1) * c + g * 2 ^ (i % 64)) := by
        rw [Nat.mul_add, ← Nat.mul_assoc, ← Nat.pow_add, Nat.mul_left_comm, ← Nat.pow_add, ← hij, show 64 * (i / 64) + (i % 64 + 1) = i + 1 by omega]
      rw [this, Nat.mul_div_cancel_left _ (Nat.pow_pos (by decide))]
    rw [BitVec.toNat_or, wat_nat _ _ hj4, wat_nat _ _ hj4, e1, e2, BitVec.toNat_shiftLeft, BitVec.toNat_ofNat, Nat.shiftLeft_eq, Nat.mod_eq_of_lt (show g < 2 ^ 64 by omega)]
    have hg2 : g * 2 ^ (i % 64) < 2 ^ (i % 64 + 1) := by rw [Nat.pow_succ, Nat.mul_comm]; exact Nat.mul_lt_mul_of_pos_left hg (Nat.pow_pos (by decide))
    have hp64 : 2 ^ (i % 64 + 1) ∣ 2 ^ 64 := Nat.pow_dvd_pow 2 (by omega)
    obtain ⟨d, hd⟩ := hp64
    have hle : 2 ^ (i % 64 + 1) ≤ 2 ^ 64 := Nat.pow_le_pow_right (by decide) (by omega)
    rw [Nat.mod_eq_of_lt (show g * 2 ^ (i % 64) < 2 ^ 64 by omega)]
    have e3 : 2 ^ (i % 64 + 1) * c % 2 ^ 64 = 2 ^ (i % 64 + 1) * (c % d) := by rw [hd, Nat.mul_mod_mul_left]
    have hd0 : 0 < d := by rcases Nat.eq_zero_or_pos d with h | h; · subst h; simp at hd
                           · exact h
    have e4 : (2 ^ (i % 64 + 1) * c + g * 2 ^ (i % 64)) % 2 ^ 64 = 2 ^ (i % 64 + 1) * (c % d) + g * 2 ^ (i % 64) := by
      have hlt : 2 ^ (i % 64 + 1) * (c % d) + g * 2 ^ (i % 64) < 2 ^ 64 := by
        have h1 : 2 ^ (i % 64 + 1) * (c % d + 1) ≤ 2 ^ (i % 64 + 1) * d := Nat.mul_le_mul_left _ (Nat.mod_lt c hd0)
        rw [Nat.mul_add, Nat.mul_one, ← hd] at h1
        omega
      rw [Nat.add_mod, e3, Nat.mod_eq_of_lt (show g * 2 ^ (i % 64) < 2 ^ 64 by omega), Nat.mod_eq_of_lt hlt]
    rw [e3, e4, Nat.two_pow_add_eq_or_of_lt hg2]
  have hup : ∀ k, i + 1 ≤ k → (2 ^ (i + 1) * c + g * 2 ^ i) / 2 ^ k = 2 ^ (i + 1) * c / 2 ^ k := by
    intro k hk
    have hgi : g * 2 ^ i < 2 ^ (i + 1) := by rw [Nat.pow_succ, Nat.mul_comm]; exact Nat.mul_lt_mul_of_pos_left hg (Nat.pow_pos (by decide))
    obtain ⟨r, rfl⟩ : ∃ r, k = (i + 1) + r := ⟨k - (i + 1), by omega⟩
    rw [Nat.pow_add 2 (i + 1) r, ← Nat.div_div_eq_div_mul, ← Nat.div_div_eq_div_mul, Nat.mul_add_div (Nat.pow_pos (by decide)), Nat.div_eq_of_lt hgi, Nat.add_zero, Nat.mul_div_cancel_left _ (Nat.pow_pos (by decide))]
  have hlo : ∀ k, 64 * (k + 1) ≤ i → (2 ^ (i + 1) * c + g * 2 ^ i) / 2 ^ (64 * k) % 2 ^ 64 = 2 ^ (i + 1) * c / 2 ^ (64 * k) % 2 ^ 64 := by
    intro k hk
    have e1 : 2 ^ (i + 1) * c + g * 2 ^ i = 2 ^ (64 * k) * (2 ^ 64 * (2 ^ (i + 1 - 64 * (k + 1)) * c + g * 2 ^ (i - 64 * (k + 1)))) := by
      rw [← Nat.mul_assoc, ← Nat.pow_add, Nat.mul_add, ← Nat.mul_assoc, ← Nat.pow_add, Nat.mul_left_comm, ← Nat.pow_add]
      rw [show 64 * k + 64 + (i + 1 - 64 * (k + 1)) = i + 1 by omega, show 64 * k + 64 + (i - 64 * (k + 1)) = i by omega]
    have e2 : 2 ^ (i + 1) * c = 2 ^ (64 * k) * (2 ^ 64 * (2 ^ (i + 1 - 64 * (k + 1)) * c)) := by
      rw [← Nat.mul_assoc, ← Nat.pow_add, ← Nat.mul_assoc, ← Nat.pow_add]
      rw [show 64 * k + 64 + (i + 1 - 64 * (k + 1)) = i + 1 by omega]
    rw [e1, e2, Nat.mul_div_cancel_left _ (Nat.pow_pos (by decide)), Nat.mul_div_cancel_left _ (Nat.pow_pos (by decide)), Nat.mul_mod_right, Nat.mul_mod_right]
  rw [hw]
  have hwat : ∀ j, j < 4 → j ≠ i / 64 → wat (2 ^ (i + 1) * c) j = wat (2 ^ (i + 1) * c + g * 2 ^ i) j := by
    intro j hj hne
    apply BitVec.eq_of_toNat_eq
    rw [wat_nat _ _ hj, wat_nat _ _ hj]
    by_cases h : j < i / 64
    · exact (hlo j (by omega)).symm
    · rw [hup (64 * j) (by omega)]
  generalize hA : 2 ^ (i + 1) * c + g * 2 ^ i = A at *
  generalize 2 ^ (i + 1) * c = Bq at *
  have e : ∀ n : Nat, wd n = [wat n 0, wat n 1, wat n 2, wat n 3] := fun _ => rfl
  rcases four hj4 with h | h | h | h <;> rw [h] at hwat ⊢ <;> rw [e Bq, e A] <;> simp only [List.set_cons_zero, List.set_cons_succ]
  · rw [hwat 1 (by decide) (by decide), hwat 2 (by decide) (by decide), hwat 3 (by decide) (by decide)]
  · rw [hwat 0 (by decide) (by decide), hwat 2 (by decide) (by decide), hwat 3 (by decide) (by decide)]
  · rw [hwat 0 (by decide) (by decide), hwat 1 (by decide) (by decide), hwat 3 (by decide) (by decide)]
  · rw [hwat 0 (by decide) (by decide), hwat 1 (by decide) (by decide), hwat 2 (by decide) (by decide)]

/-! ### Division, bit by bit -/
/-- What is left, and the quotient, where bits from k on were taken. -/
def restK (a m k : Nat) : Nat := a / 2 ^ k % m
def quoK (a m k : Nat) : Nat := a / 2 ^ k / m * 2 ^ k
theorem div_step (a k : Nat) : a / 2 ^ k = 2 * (a / 2 ^ (k + 1)) + a / 2 ^ k % 2 := by
  rw [Nat.pow_succ, ← Nat.div_div_eq_div_mul]; omega
theorem rest_step {a m k : Nat} (hm : 0 < m) : restK a m k = if m ≤ 2 * restK a m (k + 1) + a / 2 ^ k % 2 then 2 * restK a m (k + 1) + a / 2 ^ k % 2 - m else 2 * restK a m (k + 1) + a / 2 ^ k % 2 := by
  unfold restK
  have h1 := div_step a k
  have h2 : a / 2 ^ k % 2 < 2 := Nat.mod_lt _ (by decide)
  generalize a / 2 ^ k = A at *
  generalize a / 2 ^ (k + 1) = D at *
  generalize A % 2 = t at *
  have hD := Nat.div_add_mod D m
  have hr := Nat.mod_lt D hm
  generalize D % m = r at *
  have e : A = m * (2 * (D / m)) + (2 * r + t) := by rw [h1]; have : m * (2 * (D / m)) = 2 * (m * (D / m)) := by rw [Nat.mul_left_comm]
                                                     omega
  rw [e, Nat.mul_add_mod]
  split
  · rw [Nat.mod_eq_sub_mod (by omega), Nat.mod_eq_of_lt (by omega)]
  · rw [Nat.mod_eq_of_lt (by omega)]
theorem quo_step {a m k : Nat} (hm : 0 < m) : quoK a m k = quoK a m (k + 1) + (if m ≤ 2 * restK a m (k + 1) + a / 2 ^ k % 2 then 1 else 0) * 2 ^ k := by
  unfold restK quoK
  have h1 := div_step a k
  have h2 : a / 2 ^ k % 2 < 2 := Nat.mod_lt _ (by decide)
  generalize a / 2 ^ k = A at *
  generalize a / 2 ^ (k + 1) = D at *
  generalize A % 2 = t at *
  have hD := Nat.div_add_mod D m
  have hr := Nat.mod_lt D hm
  generalize D % m = r at *
  have e : A = m * (2 * (D / m)) + (2 * r + t) := by rw [h1]; have : m * (2 * (D / m)) = 2 * (m * (D / m)) := by rw [Nat.mul_left_comm]
                                                     omega
  have e2 : A / m = 2 * (D / m) + (if m ≤ 2 * r + t then 1 else 0) := by
    rw [e, Nat.mul_add_div hm]
    congr 1
    split
    · exact Nat.div_eq_of_lt_le (by omega) (by omega)
    · exact Nat.div_eq_of_lt (by omega)
  rw [e2, Nat.pow_succ, Nat.add_mul, Nat.mul_comm (2 ^ k) 2, ← Nat.mul_assoc, Nat.mul_comm 2 (D / m)]
theorem quo_dvd (a m k : Nat) : quoK a m k % 2 ^ k = 0 := by unfold quoK; exact Nat.mul_mod_left _ _
theorem rest_lt {a m k : Nat} (hm : 0 < m) : restK a m k < m := Nat.mod_lt _ hm
theorem rest_top {a m : Nat} (ha : a < 115792089237316195423570985008687907853269984665640564039457584007913129639936) : restK a m 256 = 0 := by unfold restK; rw [Nat.div_eq_of_lt (show a < 2 ^ 256 from ha), Nat.zero_mod]
theorem quo_top {a m : Nat} (ha : a < 115792089237316195423570985008687907853269984665640564039457584007913129639936) : quoK a m 256 = 0 := by unfold quoK; rw [Nat.div_eq_of_lt (show a < 2 ^ 256 from ha), Nat.zero_div, Nat.zero_mul]
theorem rest_0 (a m : Nat) : restK a m 0 = a % m := by simp [restK]
theorem quo_0 (a m : Nat) : quoK a m 0 = a / m := by simp [quoK]
/-! ### Products of two words -/
theorem mul64 (x y : W64) :
    let x0 := x &&& 4294967295#64; let x1 := x >>> 32; let y0 := y &&& 4294967295#64; let y1 := y >>> 32
    let w0 := x0 * y0; let t := x1 * y0 + w0 >>> 32; let w1 := (t &&& 4294967295#64) + x0 * y1
    x1 * y1 + t >>> 32 + w1 >>> 32 = BitVec.ofNat 64 (x.toNat * y.toNat / 18446744073709551616) := by
  intro x0 x1 y0 y1 w0 t w1
  apply BitVec.eq_of_toNat_eq
  have m32 : ∀ n : Nat, n &&& 4294967295 = n % 4294967296 := fun n => Nat.and_two_pow_sub_one_eq_mod n 32
  have hx := x.isLt; have hy := y.isLt
  have ex : x.toNat = 4294967296 * (x.toNat / 4294967296) + x.toNat % 4294967296 := by omega
  have ey : y.toNat = 4294967296 * (y.toNat / 4294967296) + y.toNat % 4294967296 := by omega
  simp only [x0, x1, y0, y1, w0, t, w1, BitVec.toNat_add, BitVec.toNat_mul, BitVec.toNat_and, BitVec.toNat_ushiftRight, BitVec.toNat_ofNat, Nat.shiftRight_eq_div_pow, Nat.reducePow, Nat.reduceMod, m32]
  have a1 : x.toNat / 4294967296 ≤ 4294967295 := by omega
  have a0 : x.toNat % 4294967296 ≤ 4294967295 := by omega
  have b1 : y.toNat / 4294967296 ≤ 4294967295 := by omega
  have b0 : y.toNat % 4294967296 ≤ 4294967295 := by omega
  rw [show x.toNat * y.toNat = (4294967296 * (x.toNat / 4294967296) + x.toNat % 4294967296) * (4294967296 * (y.toNat / 4294967296) + y.toNat % 4294967296) by rw [← ex, ← ey]]
  generalize x.toNat / 4294967296 = X1 at *
  generalize x.toNat % 4294967296 = X0 at *
  generalize y.toNat / 4294967296 = Y1 at *
  generalize y.toNat % 4294967296 = Y0 at *
  have p11 := Nat.mul_le_mul a1 b1
  have p10 := Nat.mul_le_mul a1 b0
  have p01 := Nat.mul_le_mul a0 b1
  have p00 := Nat.mul_le_mul a0 b0
  have e : (4294967296 * X1 + X0) * (4294967296 * Y1 + Y0) = 18446744073709551616 * (X1 * Y1) + 4294967296 * (X1 * Y0) + 4294967296 * (X0 * Y1) + X0 * Y0 := by
    rw [Nat.add_mul, Nat.mul_add, Nat.mul_add, Nat.mul_assoc, Nat.mul_left_comm X1 4294967296 Y1, ← Nat.mul_assoc 4294967296 4294967296, Nat.mul_assoc 4294967296 X1 Y0, Nat.mul_left_comm X0 4294967296 Y1]
    omega
  rw [e]
  generalize X1 * Y1 = q11 at *
  generalize X1 * Y0 = q10 at *
  generalize X0 * Y1 = q01 at *
  generalize X0 * Y0 = q00 at *
  omega
theorem wd_prod (x y : W64) : wd (x.toNat * y.toNat) = [x * y, BitVec.ofNat 64 (x.toNat * y.toNat / 18446744073709551616), 0, 0] := by
  have hlt : x.toNat * y.toNat < 340282366920938463463374607431768211456 := Nat.mul_lt_mul'' x.isLt y.isLt
  unfold wd
  rw [Nat.div_eq_of_lt hlt, Nat.div_eq_of_lt (show x.toNat * y.toNat < 6277101735386680763835789423207666416102355444464034512896 by omega)]
  rw [show BitVec.ofNat 64 (x.toNat * y.toNat) = x * y from BitVec.eq_of_toNat_eq (by simp)]
  rfl
attribute [irreducible] restK quoK
end Go.Proofs.YtmbpngnamnoiaaaDoor
