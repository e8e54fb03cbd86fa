/- Numbers of four words, as the walks want them. -/
import Derived.Test.YtmbpngnamnoiaaaDoorL1
namespace Go.Proofs.YtmbpngnamnoiaaaDoor
open Go.RowKit
/-- One bit taken in: what is left, and whether it went. -/
def brF (r m t : Nat) : Nat := if m ≤ 2 * r + t then 2 * r + t - m else 2 * r + t
def brG (r m t : Nat) : Nat := if m ≤ 2 * r + t then 1 else 0

theorem wd_len' {n : Nat} : (wd n).length = 4 := rfl
def wordN (a : Nat) (i : Int) : W64 := if 0 ≤ i ∧ i < 4 then wat a i.toNat else 0
theorem shift_w (a : Nat) {x : Nat} (h : x < 4) : (wordN a x <<< 1) ||| (wordN a ((x : Int) - 1) >>> 1 >>> 62) = wat (2 * a) x := by
  rw [wordN, if_pos (by omega), Int.toNat_natCast]
  by_cases h0 : x = 0
  · subst h0
    rw [wordN, if_neg (by omega)]
    exact shift_word0 a
  · rw [wordN, if_pos (by omega), show ((x : Int) - 1).toNat = x - 1 by omega]
    exact shift_word a h (by omega)
theorem shr_1_6 {P : Program} {T : TypeId} {x y : Operand} : BinR P .shr T x y (it 1) (.int .u64 6) (it 0) := .ints2 (k := .i64) (k' := .u64) (m := 1) (n := 6) (v := it 0) fun _ => rfl
theorem and_1_63 {P : Program} {T : TypeId} {x y : Operand} : BinR P .and T x y (it 1) (.int .i64 63) (it 1) := .ints (k := .i64) (m := 1) (n := 63) (v := it 1) fun _ => rfl
theorem dbl_or' (r : Nat) {t : Nat} (ht : t < 2) : ((wd (2 * r)).map u64).set 0 (u64 (wat (2 * r) 0 ||| BitVec.ofNat 64 t)) = (wd (2 * r + t)).map u64 := by
  have h := dbl_or (a := r) (bit := BitVec.ofNat 64 t) (by rw [BitVec.toNat_ofNat]; omega)
  rw [BitVec.toNat_ofNat, Nat.mod_eq_of_lt (by omega)] at h
  rw [← h, List.map_set]
theorem over_t {r m t : Nat} (hr : r < m) (hm : m < 115792089237316195423570985008687907853269984665640564039457584007913129639936) (h : bitN r 255 = 1#64) : m ≤ 2 * r + t := by
  have h := congrArg BitVec.toNat h
  simp only [bitN, BitVec.toNat_ofNat] at h
  have : (2 : Nat) ^ 255 = 57896044618658097711785492504343953926634992332820282019728792003956564819968 := rfl
  rw [this] at h
  omega
theorem over_f {r t : Nat} (hr : r < 115792089237316195423570985008687907853269984665640564039457584007913129639936) (ht : t < 2) (h : ¬ bitN r 255 = 1#64) : 2 * r + t < 115792089237316195423570985008687907853269984665640564039457584007913129639936 := by
  have h : ¬ (bitN r 255).toNat = 1 := fun e => h (BitVec.eq_of_toNat_eq e)
  simp only [bitN, BitVec.toNat_ofNat] at h
  have : (2 : Nat) ^ 255 = 57896044618658097711785492504343953926634992332820282019728792003956564819968 := rfl
  rw [this] at h
  omega
theorem cmp_ge (a b : Nat) : cmpN a b ≥ 0 ↔ b ≤ a := by unfold cmpN; split <;> (try split) <;> omega
theorem sub_br {x m : Nat} (h : m ≤ x) (_hx : x < 2 * 115792089237316195423570985008687907853269984665640564039457584007913129639936) (hm : m < 115792089237316195423570985008687907853269984665640564039457584007913129639936) : wd (115792089237316195423570985008687907853269984665640564039457584007913129639936 + x % 115792089237316195423570985008687907853269984665640564039457584007913129639936 - m) = wd (x - m) := by
  rw [← wd_mod (115792089237316195423570985008687907853269984665640564039457584007913129639936 + x % 115792089237316195423570985008687907853269984665640564039457584007913129639936 - m), ← wd_mod (x - m)]
  congr 1
  omega
def remF (a m : Nat) : Nat := if m = 0 then 0 else a % m
theorem rest_step' {a m k : Nat} (hm : 0 < m) : restK a m k = brF (restK a m (k + 1)) m (a / 2 ^ k % 2) := rest_step hm
theorem quo_setv {a m k : Nat} (hm : 0 < m) (hk : k < 256) : ((wd (quoK a m (k + 1))).map u64).set (k / 64) (u64 (wat (quoK a m (k + 1)) (k / 64) ||| (BitVec.ofNat 64 (brG (restK a m (k + 1)) m (a / 2 ^ k % 2)) <<< (k % 64)))) = (wd (quoK a m k)).map u64 := by
  have hg : brG (restK a m (k + 1)) m (a / 2 ^ k % 2) < 2 := by unfold brG; split <;> omega
  rw [← List.map_set, quo_set hk hg (quo_dvd a m (k + 1))]
  exact congrArg (fun n => (wd n).map u64) (quo_step hm).symm
theorem prod_lt (x y : W64) : x.toNat * y.toNat < 115792089237316195423570985008687907853269984665640564039457584007913129639936 := by
  have h1 := Nat.mul_lt_mul'' x.isLt y.isLt
  have : (2 : Nat) ^ 64 * 2 ^ 64 < 115792089237316195423570985008687907853269984665640564039457584007913129639936 := by decide
  omega
/-- A part of a pot. -/
def partF (x y : W64) (m : Nat) : W64 := if m = 0 then 0 else if x.toNat * y.toNat / m < 18446744073709551616 then BitVec.ofNat 64 (x.toNat * y.toNat / m) else 18446744073709551615#64
theorem wd_low (n : Nat) : wd (n % 18446744073709551616) = [BitVec.ofNat 64 n, 0, 0, 0] := by
  have h := wd_small (BitVec.ofNat 64 n)
  rw [BitVec.toNat_ofNat] at h
  exact h
theorem part_big (x y : W64) (m : Nat) : (!decide (wd (x.toNat * y.toNat / m) = wd (x.toNat * y.toNat / m % 18446744073709551616))) = decide (18446744073709551616 ≤ x.toNat * y.toNat / m) := by
  have h1 : x.toNat * y.toNat / m < 115792089237316195423570985008687907853269984665640564039457584007913129639936 := Nat.lt_of_le_of_lt (Nat.div_le_self _ _) (prod_lt x y)
  rw [← decide_not]
  refine decide_eq_decide.2 ?_
  generalize x.toNat * y.toNat / m = q at *
  rw [wd_eq h1 (by omega)]
  omega
/-- The sum of stakes. -/
def totN (l : List W64) : Nat := (l.map BitVec.toNat).sum % 115792089237316195423570985008687907853269984665640564039457584007913129639936
theorem tot_lt (l : List W64) : totN l < 115792089237316195423570985008687907853269984665640564039457584007913129639936 := Nat.mod_lt _ (by decide)
theorem w_lt (x : W64) : x.toNat < 115792089237316195423570985008687907853269984665640564039457584007913129639936 := by have := x.isLt; omega
theorem tot_succ {l : List W64} {x : Nat} (h : x < l.length) : wd (totN (l.take x) + (l.getD x 0).toNat) = wd (totN (l.take (x + 1))) := by
  rw [← wd_mod]
  congr 1
  unfold totN
  rw [List.take_add_one, List.getElem?_eq_getElem h, List.getD_eq_getElem?_getD, List.getElem?_eq_getElem h]
  simp only [Option.toList_some, Option.getD_some, List.map_append, List.map_cons, List.map_nil, List.sum_append_nat, List.sum_cons, List.sum_nil]
  omega
theorem tot_0 (l : List W64) : totN (l.take 0) = 0 := by simp [totN]
attribute [irreducible] brF brG totN
end Go.Proofs.YtmbpngnamnoiaaaDoor
