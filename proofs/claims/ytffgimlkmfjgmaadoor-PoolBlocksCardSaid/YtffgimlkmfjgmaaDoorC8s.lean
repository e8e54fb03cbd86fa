/- Numbers as words and bytes, and what is written and read: the plain side. No program in sight. -/
import Derived.Test.YtffgimlkmfjgmaaDoorS6
namespace Go.Proofs.YtffgimlkmfjgmaaDoor
open Go.RowKit

abbrev W4 := List (BitVec 64)

theorem eq_of_getD {α : Type} {a b : List α} {d : α} (hl : a.length = b.length) (h : ∀ j, j < a.length → a.getD j d = b.getD j d) : a = b := by
  apply List.ext_getElem hl
  intro i h1 h2
  have := h i h1
  simpa [List.getD_eq_getElem?_getD, h1, h2] using this

def natV (ws : W4) : Value := .agg (ws.map u64).toArray
/-- Byte k of a number (0: the lowest one), of its words. -/
def byteOf (ws : W4) (k : Nat) : BitVec 8 := ((ws.getD (k / 8) 0) >>> (8 * (k % 8))).setWidth 8
/-- A number's bytes, the highest one first. -/
def natBytes (ws : W4) : B8 := (List.range 32).map fun j => byteOf ws (31 - j)
@[simp] theorem natBytes_length (ws : W4) : (natBytes ws).length = 32 := by simp [natBytes]
theorem natBytes_map (ws : W4) : (natBytes ws).map u8 = tab 32 (fun j => u8 (byteOf ws (31 - j))) := by
  simp [natBytes, tab, Function.comp_def]

@[simp] theorem natV_size (ws : W4) : (natV ws).cells.size = ws.length := by simp [natV, Value.cells]
theorem and255 (x : BitVec 64) : (x &&& 255#64).toNat < 9223372036854775808 := by
  rw [BitVec.toNat_and]
  exact Nat.lt_of_le_of_lt Nat.and_le_right (by decide)
theorem byte_and (x : BitVec 64) : ((x &&& 255#64).toNat : Int) = ((x.setWidth 8).toNat : Int) := by
  rw [BitVec.toNat_and, BitVec.toNat_setWidth]
  have : x.toNat &&& (255#64).toNat = x.toNat % 2 ^ 8 := Nat.and_two_pow_sub_one_eq_mod x.toNat 8
  rw [this]
theorem natTake (ws : W4) (k : Nat) (h : k < 32) : ((natBytes ws).take k).map u8 ++ [u8 (byteOf ws (31 - k))] = ((natBytes ws).take (k + 1)).map u8 := by
  rw [List.take_succ_eq_append_getElem (by simpa using h), List.map_append]
  simp [natBytes]

/-- The digits that the document's numbers have, the first k of them filled in. -/
def dgs (ws : W4) (k : Nat) : List Value := tab 64 (fun i => if i < k then it ((byteOf ws i).toNat : Int) else it 0)
@[simp] theorem dgs_length (ws : W4) (k : Nat) : (dgs ws k).length = 64 := tab_len
theorem dgs_set (ws : W4) (k : Nat) : (dgs ws k).set k (it ((byteOf ws k).toNat : Int)) = dgs ws (k + 1) := by
  unfold dgs
  rw [tab_set]
  refine tab_congr fun j hj => ?_
  by_cases h1 : j = k
  · subst h1; rw [if_pos rfl, if_pos (by omega)]
  · rw [if_neg h1]
    by_cases h2 : j < k
    · rw [if_pos h2, if_pos (by omega)]
    · rw [if_neg h2, if_neg (by omega)]
theorem dgs_get (ws : W4) (k j : Nat) (h : j < k) (hk : k ≤ 64) : (dgs ws k)[j]? = some (it ((byteOf ws j).toNat : Int)) := by
  unfold dgs
  rw [tab_get (by omega), if_pos h]

/-- The words of a number. -/
def natWords (n : Nat) : W4 := (List.range 4).map fun i => BitVec.ofNat 64 (n / 2 ^ (64 * i))
/-- The number of bytes, the highest one first. -/
def beVal (b : B8) : Nat := b.foldl (fun n x => n * 256 + x.toNat) 0
/-- A word with one byte laid into it: as limb.Of does. -/
def putByte (ws : W4) (k : Nat) (c : BitVec 8) : W4 := ws.set (k / 8) (ws.getD (k / 8) 0 ||| (c.setWidth 64 <<< (8 * (k % 8))))
/-- limb.Of behind i bytes. -/
def ofUpto (b : B8) (i : Nat) : W4 := (List.range i).foldl (fun ws j => putByte ws (b.length - 1 - j) (b.getD j 0)) [0, 0, 0, 0]
def ofBytes (b : B8) : W4 := ofUpto b b.length
@[simp] theorem putByte_length (ws : W4) (k : Nat) (c : BitVec 8) : (putByte ws k c).length = ws.length := by simp [putByte]
@[simp] theorem ofUpto_length (b : B8) (i : Nat) : (ofUpto b i).length = 4 := by
  unfold ofUpto
  induction i with
  | zero => rfl
  | succ i ih => rw [List.range_succ, List.foldl_append]; simpa [putByte_length] using ih
theorem ofUpto_succ (b : B8) (i : Nat) : ofUpto b (i + 1) = putByte (ofUpto b i) (b.length - 1 - i) (b.getD i 0) := by
  simp [ofUpto, List.range_succ]
@[simp] theorem ofBytes_length (b : B8) : (ofBytes b).length = 4 := ofUpto_length b _

/-- How many bits a number has. -/
def bitlen (n : Nat) : Nat := if n = 0 then 0 else n.log2 + 1
theorem bitlen_le {n k : Nat} (h : n < 2 ^ k) : bitlen n ≤ k := by
  unfold bitlen
  split
  · exact Nat.zero_le _
  · rename_i h0
    exact (Nat.log2_lt h0).2 h
theorem lt_bitlen {n k : Nat} (h : 2 ^ k ≤ n) : k < bitlen n := by
  have h0 : n ≠ 0 := by have : 0 < 2 ^ k := Nat.two_pow_pos k; omega
  unfold bitlen
  rw [if_neg h0]
  have := (Nat.le_log2 h0).2 h
  omega
theorem bitlen_lt {n k : Nat} (h : bitlen n ≤ k) : n < 2 ^ k := by
  rcases Nat.lt_or_ge n (2 ^ k) with h1 | h1
  · exact h1
  · exact absurd (lt_bitlen h1) (by omega)
theorem bitlen_div {n k : Nat} (h : 2 ^ k ≤ n) : bitlen n = bitlen (n / 2 ^ k) + k := by
  have hp : 0 < 2 ^ k := Nat.two_pow_pos k
  have h1 : 1 ≤ n / 2 ^ k := (Nat.le_div_iff_mul_le hp).2 (by omega)
  have hm : 0 < bitlen (n / 2 ^ k) := lt_bitlen (k := 0) (by simpa using h1)
  apply Nat.le_antisymm
  · apply bitlen_le
    have := bitlen_lt (n := n / 2 ^ k) (Nat.le_refl _)
    rw [Nat.pow_add]
    exact (Nat.div_lt_iff_lt_mul hp).1 this
  · have h2 : 2 ^ (bitlen (n / 2 ^ k) - 1) ≤ n / 2 ^ k := by
      rcases Nat.lt_or_ge (n / 2 ^ k) (2 ^ (bitlen (n / 2 ^ k) - 1)) with h3 | h3
      · have := bitlen_le h3; omega
      · exact h3
    have h4 : 2 ^ (bitlen (n / 2 ^ k) - 1 + k) ≤ n := by
      rw [Nat.pow_add]
      exact Nat.le_trans (Nat.mul_le_mul_right _ h2) (Nat.div_mul_le_self _ _)
    have := lt_bitlen h4
    omega
def len64 (x : BitVec 64) : Nat := bitlen x.toNat
theorem len64_le (x : BitVec 64) : len64 x ≤ 64 := bitlen_le x.isLt

theorem len64_s32 {y : BitVec 64} (h : y.toNat ≥ 4294967296) : (len64 y : Int) = len64 (y >>> 32) + 32 := by
  have := bitlen_div (n := y.toNat) (k := 32) h
  unfold len64
  rw [BitVec.toNat_ushiftRight, Nat.shiftRight_eq_div_pow]
  show (bitlen y.toNat : Int) = bitlen (y.toNat / 2 ^ 32) + 32
  omega
theorem len64_s16 {y : BitVec 64} (h : y.toNat ≥ 65536) : (len64 y : Int) = len64 (y >>> 16) + 16 := by
  have := bitlen_div (n := y.toNat) (k := 16) h
  unfold len64
  rw [BitVec.toNat_ushiftRight, Nat.shiftRight_eq_div_pow]
  show (bitlen y.toNat : Int) = bitlen (y.toNat / 2 ^ 16) + 16
  omega
theorem len64_s8 {y : BitVec 64} (h : y.toNat ≥ 256) : (len64 y : Int) = len64 (y >>> 8) + 8 := by
  have := bitlen_div (n := y.toNat) (k := 8) h
  unfold len64
  rw [BitVec.toNat_ushiftRight, Nat.shiftRight_eq_div_pow]
  show (bitlen y.toNat : Int) = bitlen (y.toNat / 2 ^ 8) + 8
  omega
theorem shr32 (y : BitVec 64) : (y >>> 32).toNat = y.toNat / 4294967296 := by rw [BitVec.toNat_ushiftRight, Nat.shiftRight_eq_div_pow]
theorem shr16 (y : BitVec 64) : (y >>> 16).toNat = y.toNat / 65536 := by rw [BitVec.toNat_ushiftRight, Nat.shiftRight_eq_div_pow]
theorem shr8 (y : BitVec 64) : (y >>> 8).toNat = y.toNat / 256 := by rw [BitVec.toNat_ushiftRight, Nat.shiftRight_eq_div_pow]
def lenTab : List UInt8 := List.append (List.append [0, 1, 2, 2, 3, 3, 3, 3, 4, 4, 4, 4, 4, 4, 4, 4, 5, 5, 5, 5, 5, 5, 5, 5, 5, 5, 5, 5, 5, 5, 5, 5, 6, 6, 6, 6, 6, 6, 6, 6, 6, 6, 6, 6, 6, 6, 6, 6, 6, 6, 6, 6, 6, 6, 6, 6, 6, 6, 6, 6, 6, 6, 6, 6] [7, 7, 7, 7, 7, 7, 7, 7, 7, 7, 7, 7, 7, 7, 7, 7, 7, 7, 7, 7, 7, 7, 7, 7, 7, 7, 7, 7, 7, 7, 7, 7, 7, 7, 7, 7, 7, 7, 7, 7, 7, 7, 7, 7, 7, 7, 7, 7, 7, 7, 7, 7, 7, 7, 7, 7, 7, 7, 7, 7, 7, 7, 7, 7]) (List.append [8, 8, 8, 8, 8, 8, 8, 8, 8, 8, 8, 8, 8, 8, 8, 8, 8, 8, 8, 8, 8, 8, 8, 8, 8, 8, 8, 8, 8, 8, 8, 8, 8, 8, 8, 8, 8, 8, 8, 8, 8, 8, 8, 8, 8, 8, 8, 8, 8, 8, 8, 8, 8, 8, 8, 8, 8, 8, 8, 8, 8, 8, 8, 8] [8, 8, 8, 8, 8, 8, 8, 8, 8, 8, 8, 8, 8, 8, 8, 8, 8, 8, 8, 8, 8, 8, 8, 8, 8, 8, 8, 8, 8, 8, 8, 8, 8, 8, 8, 8, 8, 8, 8, 8, 8, 8, 8, 8, 8, 8, 8, 8, 8, 8, 8, 8, 8, 8, 8, 8, 8, 8, 8, 8, 8, 8, 8, 8])
set_option maxRecDepth 100000 in
theorem lenTab_all : ∀ j, j < 256 → (lenTab.getD j 0).toBitVec = BitVec.ofNat 8 (bitlen j) := by decide +kernel
set_option maxRecDepth 100000 in
theorem lenTab_get (j : Nat) (h : j < (⟨lenTab.toArray⟩ : ByteArray).size) : ((⟨lenTab.toArray⟩ : ByteArray)[j]'h).toBitVec = BitVec.ofNat 8 (bitlen j) := by
  have h0 : j < 256 := h
  rw [← lenTab_all j h0]
  have : ((⟨lenTab.toArray⟩ : ByteArray)[j]'h) = lenTab[j]'(by exact h) := rfl
  rw [this, List.getD_eq_getElem?_getD, List.getElem?_eq_getElem (by exact h)]
  rfl
theorem len8v (y : BitVec 64) (h : y.toNat < 256) : (((BitVec.ofNat 8 (bitlen (y.setWidth 8).toNat)).toNat : Nat) : Int) = len64 y := by
  have h1 : (y.setWidth 8).toNat = y.toNat := by rw [BitVec.toNat_setWidth]; omega
  have h2 := bitlen_le (n := y.toNat) (k := 8) h
  rw [h1, BitVec.toNat_ofNat]
  unfold len64
  omega

theorem fits8 {a : Int} (y : BitVec 8) (h : 0 ≤ a ∧ a ≤ 1000) : Fits (a + (y.toNat : Int)) := by
  have := y.isLt
  constructor <;> omega

/-- How many bytes a small number takes. -/
def nsz (n : BitVec 64) : Nat := (len64 n + 7) / 8
theorem nsz_le (n : BitVec 64) : nsz n ≤ 8 := by have := len64_le n; unfold nsz; omega
/-- The k low bytes of a word, the highest one first. -/
def digs (n : BitVec 64) (k : Nat) : B8 := (List.range k).map fun j => (n >>> (8 * (k - 1 - j))).setWidth 8
@[simp] theorem digs_length (n : BitVec 64) (k : Nat) : (digs n k).length = k := by simp [digs]
theorem digs_succ (n : BitVec 64) (k : Nat) : digs n (k + 1) = (n >>> (8 * k)).setWidth 8 :: digs n k := by
  simp only [digs, List.range_succ_eq_map, List.map_cons, List.map_map]
  congr 1
  apply List.map_congr_left
  intro j _
  simp only [Function.comp]
  rw [show k + 1 - 1 - (j + 1) = k - 1 - j by omega]
theorem natBytes_drop (n : BitVec 64) (k : Nat) (hk : k ≤ 8) : (natBytes [n, 0, 0, 0]).drop (32 - k) = digs n k := by
  apply List.ext_getElem (by simp; omega)
  intro j h1 h2
  simp at h2
  simp only [natBytes, digs, List.getElem_drop, List.getElem_map, List.getElem_range, byteOf]
  rw [show 31 - (32 - k + j) = k - 1 - j by omega, Nat.div_eq_of_lt (show k - 1 - j < 8 by omega), Nat.mod_eq_of_lt (show k - 1 - j < 8 by omega)]
  rfl
/-- A small number, written: how many bytes, and they. -/
def smallB (n : BitVec 64) : B8 := BitVec.ofNat 8 (nsz n) :: digs n (nsz n)
theorem smallB_length (n : BitVec 64) : (smallB n).length = nsz n + 1 := by simp [smallB]
theorem putD (n : BitVec 64) (k : Nat) : u8 ((n >>> (8 * k) % 256#64).setWidth 8) = u8 ((n >>> (8 * k)).setWidth 8) := by
  apply congrArg u8
  apply BitVec.eq_of_toNat_eq
  rw [BitVec.toNat_setWidth, BitVec.toNat_setWidth, BitVec.toNat_umod]
  show (n >>> (8 * k)).toNat % 256 % 256 = _
  omega
theorem shr_quo (n : BitVec 64) (k : Nat) : (n >>> (8 * k)) / 256#64 = n >>> (8 * (k + 1)) := by
  apply BitVec.eq_of_toNat_eq
  rw [BitVec.toNat_udiv, BitVec.toNat_ushiftRight, BitVec.toNat_ushiftRight, Nat.shiftRight_eq_div_pow, Nat.shiftRight_eq_div_pow]
  show n.toNat / 2 ^ (8 * k) / 2 ^ 8 = _
  rw [Nat.div_div_eq_div_mul, ← Nat.pow_add]
  congr 2
theorem shr_big (n : BitVec 64) (k : Nat) (h : n >>> (8 * k) ≠ 0) : k < 8 := by
  rcases Nat.lt_or_ge k 8 with h1 | h1
  · exact h1
  · refine absurd (BitVec.eq_of_toNat_eq ?_) h
    rw [BitVec.toNat_ushiftRight, Nat.shiftRight_eq_div_pow]
    have : n.toNat < 2 ^ (8 * k) := Nat.lt_of_lt_of_le n.isLt (Nat.pow_le_pow_right (by decide) (by omega))
    rw [Nat.div_eq_of_lt this]
    rfl
theorem nsz_of {n : BitVec 64} {k : Nat} (h : n >>> (8 * k) = 0) (h1 : k = 0 ∨ n >>> (8 * (k - 1)) ≠ 0) : nsz n = k := by
  have e : ∀ m, (n >>> m).toNat = n.toNat / 2 ^ m := fun m => by rw [BitVec.toNat_ushiftRight, Nat.shiftRight_eq_div_pow]
  have h2 : n.toNat / 2 ^ (8 * k) = 0 := by rw [← e, h]; rfl
  have h3 : n.toNat < 2 ^ (8 * k) := by
    rcases Nat.div_eq_zero_iff.1 h2 with h | h
    · have : 0 < 2 ^ (8 * k) := Nat.two_pow_pos _; omega
    · exact h
  have h4 := bitlen_le h3
  unfold nsz len64
  rcases h1 with h1 | h1
  · subst h1; omega
  · have h5 : 2 ^ (8 * (k - 1)) ≤ n.toNat := by
      rcases Nat.lt_or_ge n.toNat (2 ^ (8 * (k - 1))) with h | h
      · exact absurd (BitVec.eq_of_toNat_eq (by rw [e, Nat.div_eq_of_lt h]; rfl)) h1
      · exact h
    have := lt_bitlen h5
    omega

theorem smallB_le (n : BitVec 64) : (smallB n).length ≤ 9 := by have := nsz_le n; rw [smallB_length]; omega
theorem digs_cons (n : BitVec 64) (k : Nat) : [u8 ((n >>> (8 * k)).setWidth 8)] ++ (digs n k).map u8 = (digs n (k + 1)).map u8 := by rw [digs_succ]; rfl
/-- Bytes, written: how many, and they. -/
def bytesB (b : B8) : B8 := smallB (BitVec.ofNat 64 b.length) ++ b

theorem wSmall_eq (n : BitVec 64) (xs : B8) : xs.map u8 ++ [u8 (BitVec.ofNat 8 (nsz n))] ++ (((natBytes [n, 0, 0, 0]).map u8).drop ((32 - nsz n) * 1)).take ((32 - (32 - nsz n)) * 1) = (xs ++ smallB n).map u8 := by
  have h := nsz_le n
  rw [Nat.mul_one, Nat.mul_one, ← List.map_drop, natBytes_drop n _ h, List.take_of_length_le (by simp; omega), List.map_append, List.append_assoc]
  rfl
theorem wSmall_len (n : BitVec 64) (xs : B8) : xs.length + 1 + (32 - (32 - nsz n)) = (xs ++ smallB n).length := by
  have h := nsz_le n
  rw [List.length_append, smallB_length]
  omega
/-- Numbers, as cells; their bytes. -/
def natCells (l : List W4) : List Value := l.flatMap fun ws => ws.map u64
def flatB (l : List W4) : B8 := l.flatMap natBytes
def natsB (l : List W4) : B8 := smallB (BitVec.ofNat 64 l.length) ++ flatB l
theorem natCells_len : ∀ {l : List W4}, (∀ ws ∈ l, ws.length = 4) → (natCells l).length = l.length * 4
  | [], _ => rfl
  | ws :: l, h => by
    have h1 := natCells_len (l := l) fun x hx => h x (.tail _ hx)
    have h2 := h ws (.head _)
    simp only [natCells, List.flatMap_cons, List.length_append, List.length_map, List.length_cons] at h1 ⊢
    omega
theorem natCells_at : ∀ {l : List W4}, (∀ ws ∈ l, ws.length = 4) → ∀ {k}, k < l.length → ((natCells l).drop (k * 4)).take 4 = (l.getD k []).map u64
  | [], _, _, hk => absurd hk (by simp)
  | ws :: l, h, 0, _ => by
    have h2 : (ws.map u64).length = 4 := by rw [List.length_map]; exact h ws (.head _)
    simp only [natCells, List.flatMap_cons, Nat.zero_mul, List.drop_zero]
    rw [List.take_append_of_le_length (by omega), List.take_of_length_le (by omega)]
    rfl
  | ws :: l, h, k + 1, hk => by
    have h2 : (ws.map u64).length = 4 := by rw [List.length_map]; exact h ws (.head _)
    simp only [natCells, List.flatMap_cons]
    rw [show (k + 1) * 4 = (ws.map u64).length + k * 4 by omega, ← List.drop_drop, List.drop_left]
    exact natCells_at (fun x hx => h x (.tail _ hx)) (by simpa using hk)
theorem getD_mem4 {l : List W4} (h : ∀ ws ∈ l, ws.length = 4) {k : Nat} (hk : k < l.length) : (l.getD k []).length = 4 := by
  rw [List.getD_eq_getElem?_getD, List.getElem?_eq_getElem hk]
  exact h _ (List.getElem_mem hk)
theorem flatB_succ {l : List W4} {k : Nat} (hk : k < l.length) : flatB (l.take k) ++ natBytes (l.getD k []) = flatB (l.take (k + 1)) := by
  simp only [flatB, List.take_add_one, List.getElem?_eq_getElem hk, List.getD_eq_getElem?_getD, Option.getD_some, List.flatMap_append, Option.toList_some, List.flatMap_cons, List.flatMap_nil, List.append_nil]
theorem flatB_len (l : List W4) : (flatB l).length = l.length * 32 := by
  induction l with
  | nil => rfl
  | cons a l ih => simp only [flatB, List.flatMap_cons, List.length_append, natBytes_length, List.length_cons] at ih ⊢; omega

theorem take4 {ws : W4} (h : ws.length = 4) : (ws.map u64).take 4 = ws.map u64 := List.take_of_length_le (by simp [h])

/-! ### A reader: what is left, and the first error -/
structure Rdr where
  b : B8
  e : Int
namespace Rdr
def wrong (r : Rdr) (e : Int) : Rdr := if r.e = 0 then ⟨[], e⟩ else r
theorem wrong_ne {r : Rdr} {e : Int} (h : e ≠ 0) : (r.wrong e).e ≠ 0 := by unfold wrong; split <;> assumption
def chk (r : Rdr) (n : Nat) : Rdr := if r.b.length < n then r.wrong 3 else r
def out (r : Rdr) (n : Nat) : B8 := if (r.chk n).e = 0 then r.b.take n else []
def aft (r : Rdr) (n : Nat) : Rdr := if (r.chk n).e = 0 then ⟨r.b.drop n, 0⟩ else r.chk n
theorem chk_lt {r : Rdr} {n : Nat} (h : r.b.length < n) : r.chk n = r.wrong 3 := if_pos h
theorem chk_ge {r : Rdr} {n : Nat} (h : ¬ r.b.length < n) : r.chk n = r := if_neg h
theorem out_bad {r : Rdr} {n : Nat} (h : (r.chk n).e ≠ 0) : r.out n = [] := if_neg h
theorem aft_bad {r : Rdr} {n : Nat} (h : (r.chk n).e ≠ 0) : r.aft n = r.chk n := if_neg h
theorem out_ok {r : Rdr} {n : Nat} (h : ¬ r.b.length < n) (h0 : r.e = 0) : r.out n = r.b.take n := if_pos (by rw [chk_ge h]; exact h0)
theorem aft_ok {r : Rdr} {n : Nat} (h : ¬ r.b.length < n) (h0 : r.e = 0) : r.aft n = ⟨r.b.drop n, 0⟩ := if_pos (by rw [chk_ge h]; exact h0)
theorem out_le (r : Rdr) (n : Nat) : (r.out n).length ≤ n := by
  unfold out
  split
  · exact List.length_take_le _ _
  · exact Nat.zero_le _
theorem chk_ok {r : Rdr} {n : Nat} (h : (r.chk n).e = 0) : ¬ r.b.length < n ∧ r.e = 0 := by
  have h1 : ¬ r.b.length < n := fun h1 => absurd h (by rw [chk_lt h1]; exact wrong_ne (by decide))
  exact ⟨h1, by rw [← chk_ge h1]; exact h⟩
theorem aft_e {r : Rdr} {n : Nat} (h : (r.aft n).e = 0) : (r.chk n).e = 0 := by
  by_cases h1 : (r.chk n).e = 0
  · exact h1
  · rw [aft_bad h1] at h; exact absurd h h1
theorem out_len {r : Rdr} {n : Nat} (h : (r.aft n).e = 0) : (r.out n).length = n := by
  obtain ⟨h1, h2⟩ := chk_ok (aft_e h)
  rw [out_ok h1 h2, List.length_take]
  omega
/-- A small number: its bytes, what is left behind them. -/
def k8 (r : Rdr) : BitVec 8 := (r.out 1).getD 0 0
def smO (r : Rdr) : B8 := if r.k8.toNat ≤ 8 then (r.aft 1).out r.k8.toNat else []
def smR (r : Rdr) : Rdr := if r.k8.toNat ≤ 8 then (r.aft 1).aft r.k8.toNat else r.aft 1
def smF (r : Rdr) (lim : BitVec 64) : Rdr :=
  if r.smR.e ≠ 0 then r.smR else if r.k8.toNat > 8 then r.smR.wrong 31 else if 0 < r.k8.toNat ∧ r.smO.getD 0 0 = 0 then r.smR.wrong 31
  else if ((ofBytes r.smO).getD 0 0).toNat > lim.toNat then r.smR.wrong 2 else r.smR
def smA (r : Rdr) (lim : BitVec 64) : Rdr := if (r.out 1).length = 0 then r.aft 1 else r.smF lim
def sm (r : Rdr) (lim : BitVec 64) : BitVec 64 := if (r.out 1).length = 0 then 0 else if (r.smF lim).e ≠ 0 then 0 else (ofBytes r.smO).getD 0 0
theorem smO_le (r : Rdr) : r.smO.length ≤ 8 := by
  unfold smO
  split
  · exact Nat.le_trans (out_le _ _) (by assumption)
  · exact Nat.zero_le _
theorem smO_len {r : Rdr} (h : r.smR.e = 0) (h8 : ¬ r.k8.toNat > 8) : r.smO.length = r.k8.toNat := by
  have h8 : r.k8.toNat ≤ 8 := by omega
  unfold smR at h
  rw [if_pos h8] at h
  unfold smO
  rw [if_pos h8]
  exact out_len h
/-- How many there are. -/
def cntR (r : Rdr) (m : Int) : Rdr := if m < 0 then r.wrong 2 else r
def cnt (r : Rdr) (m : Int) : BitVec 64 := (r.cntR m).sm (BitVec.ofInt 64 m)
def cntA (r : Rdr) (m : Int) : Rdr := (r.cntR m).smA (BitVec.ofInt 64 m)
def byO (r : Rdr) (m : Int) : B8 := (r.cntA m).out (r.cnt m).toNat
def byA (r : Rdr) (m : Int) : Rdr := (r.cntA m).aft (r.cnt m).toNat
def go : Nat → List W4 → Rdr → List W4 × Rdr
  | 0, acc, r => (acc, r)
  | n + 1, acc, r => if (r.aft 32).e ≠ 0 then ([], r.aft 32) else go n (acc ++ [ofBytes (r.out 32)]) (r.aft 32)
def naO (r : Rdr) (m : Int) : List W4 := (go (r.cnt m).toNat [] (r.cntA m)).1
def naA (r : Rdr) (m : Int) : Rdr := (go (r.cnt m).toNat [] (r.cntA m)).2
/-- How it ended. -/
def fin (r : Rdr) : Int := if r.e = 0 ∧ 0 < r.b.length then 30 else r.e
theorem aft_len {r : Rdr} {n : Nat} (h : (r.aft n).e = 0) : (r.aft n).b.length + n = r.b.length := by
  obtain ⟨h1, h2⟩ := chk_ok (aft_e h)
  rw [aft_ok h1 h2, List.length_drop]
  omega
theorem wrong_b (r : Rdr) (e : Int) : (r.wrong e).b.length ≤ r.b.length := by
  unfold wrong
  split
  · exact Nat.zero_le _
  · exact Nat.le_refl _
theorem chk_b (r : Rdr) (n : Nat) : (r.chk n).b.length ≤ r.b.length := by
  unfold chk
  split
  · exact wrong_b _ _
  · exact Nat.le_refl _
theorem aft_b (r : Rdr) (n : Nat) : (r.aft n).b.length ≤ r.b.length := by
  unfold aft
  split
  · show (r.b.drop n).length ≤ _
    rw [List.length_drop]; omega
  · exact chk_b _ _
theorem out_b (r : Rdr) (n : Nat) : (r.out n).length ≤ r.b.length := by
  unfold out
  split
  · rw [List.length_take]; omega
  · exact Nat.zero_le _
theorem smR_b (r : Rdr) : r.smR.b.length ≤ r.b.length := by
  unfold smR
  split
  · exact Nat.le_trans (aft_b _ _) (aft_b _ _)
  · exact aft_b _ _
theorem smF_b (r : Rdr) (lim : BitVec 64) : (r.smF lim).b.length ≤ r.b.length := by
  unfold smF
  have := smR_b r
  split
  · exact this
  · split
    · exact Nat.le_trans (wrong_b _ _) this
    · split
      · exact Nat.le_trans (wrong_b _ _) this
      · split
        · exact Nat.le_trans (wrong_b _ _) this
        · exact this
theorem smA_b (r : Rdr) (lim : BitVec 64) : (r.smA lim).b.length ≤ r.b.length := by
  unfold smA
  split
  · exact aft_b _ _
  · exact smF_b _ _
theorem cntA_b (r : Rdr) (m : Int) : (r.cntA m).b.length ≤ r.b.length := by
  unfold cntA
  refine Nat.le_trans (smA_b _ _) ?_
  unfold cntR
  split
  · exact wrong_b _ _
  · exact Nat.le_refl _
theorem byO_b (r : Rdr) (m : Int) : (r.byO m).length ≤ r.b.length := Nat.le_trans (out_b _ _) (cntA_b _ _)
theorem byA_b (r : Rdr) (m : Int) : (r.byA m).b.length ≤ r.b.length := Nat.le_trans (aft_b _ _) (cntA_b _ _)
end Rdr
theorem Rdr.go_bad {n : Nat} {acc : List W4} {r : Rdr} (h : (r.aft 32).e ≠ 0) : Rdr.go (n + 1) acc r = ([], r.aft 32) := if_pos h
theorem Rdr.go_ok {n : Nat} {acc : List W4} {r : Rdr} (h : (r.aft 32).e = 0) : Rdr.go (n + 1) acc r = Rdr.go n (acc ++ [ofBytes (r.out 32)]) (r.aft 32) := if_neg (not_not_intro h)
theorem natCells_snoc (l : List W4) (ws : W4) : natCells l ++ List.flatMap (fun v : Value => v.cells.toList) [Value.agg (ws.map u64).toArray] = natCells (l ++ [ws]) := by simp [natCells, Value.cells]
theorem len_snoc (l : List W4) (ws : W4) : l.length + 1 = (l ++ [ws]).length := by simp
theorem natCells_one (l : List W4) : ∀ a ∈ natCells l, a.oneCell' = true := by
  intro a ha
  obtain ⟨ws, _, hb⟩ := List.mem_flatMap.1 ha
  obtain ⟨x, _, rfl⟩ := List.mem_map.1 hb
  rfl
theorem ofBytes4 (b : B8) (l : List W4) (h : ∀ ws ∈ l, ws.length = 4) : ∀ ws ∈ l ++ [ofBytes b], ws.length = 4 := fun ws hw => by
  rcases List.mem_append.1 hw with hw | hw
  · exact h ws hw
  · rw [List.mem_singleton.1 hw]; exact ofBytes_length b
theorem rd_take {v : Value} {b : B8} {n : Nat} (h : ¬ b.length < n) : Res.rd v (n - 0) 1 (((b.map u8).drop (0 * 1)).take ((n - 0) * 1)) = Res.rd v (b.take n).length 1 ((b.take n).map u8) := by
  rw [Nat.zero_mul, List.drop_zero, Nat.mul_one, Nat.sub_zero, List.map_take, List.length_take, Nat.min_eq_left (by omega)]
theorem bitlen_mono {a b : Nat} (h : a ≤ b) : bitlen a ≤ bitlen b := bitlen_le (Nat.lt_of_le_of_lt h (bitlen_lt (Nat.le_refl _)))
theorem nsz_mono {a b : BitVec 64} (h : a.toNat < b.toNat) : nsz a ≤ nsz b := by
  have := bitlen_mono (Nat.le_of_lt h)
  unfold nsz len64
  omega
theorem digs_inj {a b : BitVec 64} {k : Nat} (h : digs a k = digs b k) (ha : nsz a ≤ k) (hb : nsz b ≤ k) : a = b := by
  have top : ∀ n : BitVec 64, nsz n ≤ k → n.toNat < 2 ^ (8 * k) := fun n hn => by
    refine Nat.lt_of_lt_of_le (bitlen_lt (n := n.toNat) (Nat.le_refl _)) (Nat.pow_le_pow_right (by decide) ?_)
    unfold nsz len64 at hn
    omega
  apply BitVec.eq_of_getLsbD_eq
  intro i hi
  rcases Nat.lt_or_ge i (8 * k) with hk | hk
  · have hj : k - 1 - i / 8 < k := by omega
    have h1 := congrArg (fun l => l[k - 1 - i / 8]?) h
    simp only [digs, List.getElem?_map, List.getElem?_range hj, Option.map_some, Option.some.injEq] at h1
    have h2 := congrArg (fun x : BitVec 8 => x.getLsbD (i % 8)) h1
    simp only [BitVec.getLsbD_setWidth, BitVec.getLsbD_ushiftRight] at h2
    rw [show 8 * (k - 1 - (k - 1 - i / 8)) + i % 8 = i by omega] at h2
    simpa [show i % 8 < 8 by omega] using h2
  · have z : ∀ n : BitVec 64, n.toNat < 2 ^ (8 * k) → n.getLsbD i = false := fun n hn => by
      rw [BitVec.getLsbD, Nat.testBit_lt_two_pow]
      exact Nat.lt_of_lt_of_le hn (Nat.pow_le_pow_right (by decide) hk)
    rw [z a (top a ha), z b (top b hb)]
theorem smallB_pre (a b : BitVec 64) : (smallB a).take (min (smallB a).length (smallB b).length) = (smallB b).take (min (smallB a).length (smallB b).length) ↔ a = b := by
  constructor
  · intro h
    have ha := nsz_le a
    have hb := nsz_le b
    rw [smallB_length, smallB_length, show min (nsz a + 1) (nsz b + 1) = min (nsz a) (nsz b) + 1 by omega] at h
    simp only [smallB, List.take_succ_cons, List.cons.injEq] at h
    have h1 : nsz a = nsz b := by
      have := congrArg BitVec.toNat h.1
      simp only [BitVec.toNat_ofNat] at this
      omega
    have h2 := h.2
    rw [← h1, Nat.min_self, List.take_of_length_le (by simp), List.take_of_length_le (by simp)] at h2
    exact digs_inj h2 (Nat.le_refl _) (by omega)
  · intro h; rw [h]

/-! ### What is asked; an error stays -/
structure Ask where
  act : Int
  most : Int
  lim : BitVec 64
def Ask.cells (a : Ask) : List Value := [it a.act, it a.most, u64 a.lim]
def askCells (l : List Ask) : List Value := l.flatMap Ask.cells
def askAt (l : List Ask) (k : Nat) : Ask := l.getD k ⟨0, 0, 0⟩
theorem askCells_len (l : List Ask) : (askCells l).length = l.length * 3 := by
  induction l with
  | nil => rfl
  | cons a l ih =>
    rw [askCells, List.flatMap_cons, List.length_append, show (Ask.cells a).length = 3 from rfl, List.length_cons, ← askCells, ih]
    omega
theorem ask_get : ∀ {l : List Ask} {k i : Nat}, k < l.length → i < 3 → (askCells l)[k * 3 + i]? = (Ask.cells (askAt l k))[i]?
  | [], _, _, hk, _ => absurd hk (by simp)
  | a :: l, 0, i, _, hi => by
    rw [askCells, List.flatMap_cons, Nat.zero_mul, Nat.zero_add, List.getElem?_append_left (by exact hi)]
    rfl
  | a :: l, k + 1, i, hk, hi => by
    rw [askCells, List.flatMap_cons, List.getElem?_append_right (by rw [show (Ask.cells a).length = 3 from rfl]; omega), show (k + 1) * 3 + i - (Ask.cells a).length = k * 3 + i by rw [show (Ask.cells a).length = 3 from rfl]; omega]
    exact ask_get (l := l) (by simpa using hk) hi
theorem ask_0 {l : List Ask} {k : Nat} (h : k < l.length) : (askCells l)[k * 3 + 0]? = some (it (askAt l k).act) := ask_get h (by decide)
theorem ask_1 {l : List Ask} {k : Nat} (h : k < l.length) : (askCells l)[k * 3 + 1]? = some (it (askAt l k).most) := ask_get h (by decide)
theorem ask_2 {l : List Ask} {k : Nat} (h : k < l.length) : (askCells l)[k * 3 + 2]? = some (u64 (askAt l k).lim) := ask_get h (by decide)
def stepR (r : Rdr) (a : Ask) : Rdr := if a.act = 1 then r.smA a.lim else if a.act = 2 then r.aft 32 else if a.act = 3 then r.byA a.most else if a.act = 4 then r.naA a.most else r
def noneB (r : Rdr) (a : Ask) : Bool :=
  if a.act = 1 then decide (r.sm a.lim = 0#64) else if a.act = 2 then decide (ofBytes (r.out 32) = [0, 0, 0, 0])
  else if a.act = 3 then decide (((r.byO a.most).length : Int) = 0) else if a.act = 4 then decide (((r.naO a.most).length : Int) = 0) else true
namespace Rdr
theorem go_b : ∀ (n : Nat) (acc : List W4) (r : Rdr), (go n acc r).2.b.length ≤ r.b.length
  | 0, _, _ => Nat.le_refl _
  | n + 1, acc, r => by
    unfold go
    split
    · exact aft_b _ _
    · exact Nat.le_trans (go_b n _ _) (aft_b _ _)
theorem naA_b (r : Rdr) (m : Int) : (r.naA m).b.length ≤ r.b.length := Nat.le_trans (go_b _ _ _) (cntA_b _ _)
theorem fin_ne {r : Rdr} (h : r.fin ≠ 30) : r.e = r.fin := by
  unfold fin at h ⊢
  split at h
  · exact absurd rfl h
  · rw [if_neg (by assumption)]
section
variable {r : Rdr} (h : r.e ≠ 0)
include h
theorem chk_st (n : Nat) : r.chk n = r := by
  unfold chk
  split
  · exact if_neg h
  · rfl
theorem out_st (n : Nat) : r.out n = [] := out_bad (by rw [chk_st h]; exact h)
theorem aft_st (n : Nat) : r.aft n = r := by rw [aft_bad (by rw [chk_st h]; exact h), chk_st h]
theorem sm_st (lim : BitVec 64) : r.sm lim = 0 := if_pos (by rw [out_st h]; rfl)
theorem smA_st (lim : BitVec 64) : r.smA lim = r := by rw [smA, if_pos (by rw [out_st h]; rfl), aft_st h]
theorem cntR_st (m : Int) : r.cntR m = r := by
  unfold cntR
  split
  · exact if_neg h
  · rfl
theorem cnt_st (m : Int) : r.cnt m = 0 := by rw [cnt, cntR_st h, sm_st h]
theorem cntA_st (m : Int) : r.cntA m = r := by rw [cntA, cntR_st h, smA_st h]
theorem byO_st (m : Int) : r.byO m = [] := by rw [byO, cntA_st h, out_st h]
theorem byA_st (m : Int) : r.byA m = r := by rw [byA, cntA_st h, aft_st h]
theorem naO_st (m : Int) : r.naO m = [] := by rw [naO, cnt_st h]; rfl
theorem naA_st (m : Int) : r.naA m = r := by rw [naA, cnt_st h, cntA_st h]; rfl
end
end Rdr
theorem stepR_b (r : Rdr) (a : Ask) : (stepR r a).b.length ≤ r.b.length := by
  unfold stepR
  split
  · exact Rdr.smA_b _ _
  · split
    · exact Rdr.aft_b _ _
    · split
      · exact Rdr.byA_b _ _
      · split
        · exact Rdr.naA_b _ _
        · exact Nat.le_refl _
theorem stepR_st {r : Rdr} (h : r.e ≠ 0) (a : Ask) : stepR r a = r := by
  unfold stepR
  rw [Rdr.smA_st h, Rdr.aft_st h, Rdr.byA_st h, Rdr.naA_st h]
  simp
theorem noneB_st {r : Rdr} (h : r.e ≠ 0) (a : Ask) : noneB r a = true := by
  unfold noneB
  rw [Rdr.sm_st h, Rdr.out_st h, Rdr.byO_st h, Rdr.naO_st h]
  have : ofBytes [] = [0, 0, 0, 0] := rfl
  simp [this]
theorem stays {r : Rdr} {bad : Int} (h : bad ≠ 0 → r.e = bad) (hb : bad ≠ 0) (a : Ask) : (stepR r a).fin = bad ∧ noneB r a = true ∧ (stepR r a).e = bad := by
  have h1 : r.e ≠ 0 := by rw [h hb]; exact hb
  rw [stepR_st h1, Rdr.fin, if_neg (fun h2 => h1 h2.1)]
  exact ⟨h hb, noneB_st h1 a, h hb⟩
end Go.Proofs.YtffgimlkmfjgmaaDoor
