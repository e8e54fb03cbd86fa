/- Digests: the plain side. No program in sight. -/
import Derived.Test.YtffgimlkmfjgmaaDoorA8
namespace Go.Proofs.YtffgimlkmfjgmaaDoor
open Go.RowKit

abbrev B8 := List (BitVec 8)
abbrev W32 := BitVec 32
/-- A word, turned right. -/
def rr (x : W32) (n : Nat) : W32 := x >>> n ||| x <<< (32 - n)
def sqr : List W32 := [0x6a09e667, 0xbb67ae85, 0x3c6ef372, 0xa54ff53a, 0x510e527f, 0x9b05688c, 0x1f83d9ab, 0x5be0cd19]
def cub : List W32 := [0x428a2f98, 0x71374491, 0xb5c0fbcf, 0xe9b5dba5, 0x3956c25b, 0x59f111f1, 0x923f82a4, 0xab1c5ed5, 0xd807aa98, 0x12835b01, 0x243185be, 0x550c7dc3, 0x72be5d74, 0x80deb1fe, 0x9bdc06a7, 0xc19bf174, 0xe49b69c1, 0xefbe4786, 0x0fc19dc6, 0x240ca1cc, 0x2de92c6f, 0x4a7484aa, 0x5cb0a9dc, 0x76f988da, 0x983e5152, 0xa831c66d, 0xb00327c8, 0xbf597fc7, 0xc6e00bf3, 0xd5a79147, 0x06ca6351, 0x14292967, 0x27b70a85, 0x2e1b2138, 0x4d2c6dfc, 0x53380d13, 0x650a7354, 0x766a0abb, 0x81c2c92e, 0x92722c85, 0xa2bfe8a1, 0xa81a664b, 0xc24b8b70, 0xc76c51a3, 0xd192e819, 0xd6990624, 0xf40e3585, 0x106aa070, 0x19a4c116, 0x1e376c08, 0x2748774c, 0x34b0bcb5, 0x391c0cb3, 0x4ed8aa4a, 0x5b9cca4f, 0x682e6ff3, 0x748f82ee, 0x78a5636f, 0x84c87814, 0x8cc70208, 0x90befffa, 0xa4506ceb, 0xbef9a3f7, 0xc67178f2]
/-- Word i of a block. -/
def wd (b : B8) (i : Nat) : W32 := (b.getD (4 * i) 0).setWidth 32 <<< 24 ||| (b.getD (4 * i + 1) 0).setWidth 32 <<< 16 ||| (b.getD (4 * i + 2) 0).setWidth 32 <<< 8 ||| (b.getD (4 * i + 3) 0).setWidth 32
def sg0 (x : W32) : W32 := rr x 7 ^^^ rr x 18 ^^^ x >>> 3
def sg1 (x : W32) : W32 := rr x 17 ^^^ rr x 19 ^^^ x >>> 10
def bg1 (x : W32) : W32 := rr x 6 ^^^ rr x 11 ^^^ rr x 25
def bg0 (x : W32) : W32 := rr x 2 ^^^ rr x 13 ^^^ rr x 22
def nxt (b : B8) (l : List W32) (k : Nat) : W32 :=
  if k < 16 then wd b k else l.getD (k - 16) 0 + l.getD (k - 7) 0 + sg0 (l.getD (k - 15) 0) + sg1 (l.getD (k - 2) 0)
/-- The first k words of a block's schedule. -/
def sch (b : B8) : Nat → List W32
  | 0 => []
  | k + 1 => sch b k ++ [nxt b (sch b k) k]
theorem sch_len (b : B8) : ∀ k, (sch b k).length = k
  | 0 => rfl
  | k + 1 => by rw [sch, List.length_append, sch_len b k]; rfl
theorem sch_get (b : B8) {j : Nat} : ∀ {k}, j < k → (sch b k).getD j 0 = nxt b (sch b j) j
  | 0, h => absurd h (by omega)
  | k + 1, h => by
    rw [sch, List.getD_eq_getElem?_getD]
    by_cases hj : j = k
    · subst hj
      rw [List.getElem?_append_right (by rw [sch_len]; exact Nat.le_refl _), sch_len, Nat.sub_self]
      rfl
    · rw [List.getElem?_append_left (by rw [sch_len]; omega), ← List.getD_eq_getElem?_getD]
      exact sch_get b (by omega)
/-- Word j of a block's schedule. -/
def W (b : B8) (j : Nat) : W32 := nxt b (sch b j) j
theorem sch_W (b : B8) {j k : Nat} (h : j < k) : (sch b k).getD j 0 = W b j := sch_get b h
theorem W_lo (b : B8) {j : Nat} (h : j < 16) : W b j = wd b j := if_pos h
theorem W_hi (b : B8) {j : Nat} (h : 16 ≤ j) : W b j = W b (j - 16) + W b (j - 7) + sg0 (W b (j - 15)) + sg1 (W b (j - 2)) := by
  have h1 : W b j = (sch b j).getD (j - 16) 0 + (sch b j).getD (j - 7) 0 + sg0 ((sch b j).getD (j - 15) 0) + sg1 ((sch b j).getD (j - 2) 0) := if_neg (by omega)
  rw [h1, sch_W b (by omega), sch_W b (by omega), sch_W b (by omega), sch_W b (by omega)]
/-- The eight words behind one round. -/
def rnd (k w : W32) (s : List W32) : List W32 :=
  let a := s.getD 0 0; let b := s.getD 1 0; let c := s.getD 2 0; let d := s.getD 3 0; let e := s.getD 4 0; let f := s.getD 5 0; let g := s.getD 6 0; let h := s.getD 7 0
  let x := h + bg1 e + (g ^^^ (e &&& (f ^^^ g))) + k + w
  let y := bg0 a + ((a &&& b) ||| (c &&& (a ||| b)))
  [x + y, a, b, c, d + x, e, f, g]
def rnds (ws : List W32) (s : List W32) : Nat → List W32
  | 0 => s
  | k + 1 => rnd (cub.getD k 0) (ws.getD k 0) (rnds ws s k)
@[simp] theorem rnd_len (k w : W32) (s : List W32) : (rnd k w s).length = 8 := rfl
theorem rnds_len (ws s : List W32) (hs : s.length = 8) : ∀ k, (rnds ws s k).length = 8
  | 0 => hs
  | _ + 1 => rfl
def add8 (a b : List W32) : List W32 := (List.range 8).map fun i => a.getD i 0 + b.getD i 0
/-- A block, pressed into eight words. -/
def comp (s : List W32) (b : B8) : List W32 := add8 s (rnds (sch b 64) s 64)
@[simp] theorem comp_len (s : List W32) (b : B8) : (comp s b).length = 8 := by simp [comp, add8]
/-- The eight words behind the first m whole blocks. -/
def hashN (xs : B8) : Nat → List W32
  | 0 => sqr
  | m + 1 => comp (hashN xs m) ((xs.drop (64 * m)).take 64)
@[simp] theorem hashN_len (xs : B8) : ∀ m, (hashN xs m).length = 8
  | 0 => rfl
  | _ + 1 => comp_len _ _
/-- What is put behind bytes: 128, then 0 .., then how many bits. -/
def zeros (n : Nat) : Nat := (119 - n % 64) % 64
def size8 (n : Nat) : B8 := (List.range 8).map fun i => ((BitVec.ofNat 64 n * 8) >>> (56 - 8 * i)).setWidth 8
def padded (xs : B8) : B8 := xs ++ [128] ++ List.replicate (zeros xs.length) 0 ++ size8 xs.length
def outB (s : List W32) : B8 := (List.range 32).map fun i => (s.getD (i / 4) 0 >>> (24 - 8 * (i % 4))).setWidth 8
/-- The digest of bytes. -/
def sha (xs : B8) : B8 := outB (hashN (padded xs) ((padded xs).length / 64))

/-! ### Words -/
theorem w32_ext {a b : W32} (h : ∀ i, i < 32 → a.getLsbD i = b.getLsbD i) : a = b := BitVec.eq_of_getLsbD_eq h
theorem ch_eq (e f g : W32) : (e &&& f ||| (4294967295#32 - e) &&& g) = g ^^^ (e &&& (f ^^^ g)) := by
  have h1 : 4294967295#32 - e = ~~~e := by
    apply BitVec.eq_of_toNat_eq
    have := e.isLt
    rw [BitVec.toNat_sub, BitVec.toNat_not]
    show (2 ^ 32 - e.toNat + 4294967295) % 2 ^ 32 = 2 ^ 32 - 1 - e.toNat
    omega
  rw [h1]
  apply w32_ext
  intro i hi
  simp only [BitVec.getLsbD_or, BitVec.getLsbD_and, BitVec.getLsbD_xor, BitVec.getLsbD_not, hi, decide_true, Bool.true_and]
  cases e.getLsbD i <;> cases f.getLsbD i <;> cases g.getLsbD i <;> rfl
theorem maj_eq (a b c : W32) : (a &&& b ||| a &&& c ||| b &&& c) = ((a &&& b) ||| (c &&& (a ||| b))) := by
  apply w32_ext
  intro i _
  simp only [BitVec.getLsbD_or, BitVec.getLsbD_and]
  cases a.getLsbD i <;> cases b.getLsbD i <;> cases c.getLsbD i <;> rfl
theorem add_or {a b : W32} (h : a &&& b = 0) : a + b = a ||| b := BitVec.add_eq_or_of_and_eq_zero a b h
theorem right_eq (x : W32) (n : Nat) (h0 : 0 < n) (hn : n < 32) : x >>> n + x <<< (32 - n) = rr x n := by
  refine add_or (w32_ext fun i hi => ?_)
  rw [BitVec.getLsbD_and, BitVec.getLsbD_ushiftRight, BitVec.getLsbD_shiftLeft]
  by_cases h : i < 32 - n
  · simp [h]
  · rw [BitVec.getLsbD_of_ge x (n + i) (by omega)]
    simp
theorem shr_div (x : W32) (n d : Nat) (hd : d = 2 ^ n) (hlt : d < 2 ^ 32) : x / BitVec.ofNat 32 d = x >>> n := by
  apply BitVec.eq_of_toNat_eq
  rw [BitVec.toNat_udiv, BitVec.toNat_ofNat, Nat.mod_eq_of_lt hlt, BitVec.toNat_ushiftRight, Nat.shiftRight_eq_div_pow, hd]
theorem mul_shl (x : W32) (n d : Nat) (hd : d = 2 ^ n) : x * BitVec.ofNat 32 d = x <<< n := by
  apply BitVec.eq_of_toNat_eq
  rw [BitVec.toNat_mul, BitVec.toNat_ofNat, BitVec.toNat_shiftLeft, Nat.shiftLeft_eq, hd, Nat.mul_mod_mod]
theorem wd_sum (a b c d : BitVec 8) : a.setWidth 32 * 16777216#32 + b.setWidth 32 * 65536#32 + c.setWidth 32 * 256#32 + d.setWidth 32 = (a.setWidth 32 <<< 24 ||| b.setWidth 32 <<< 16 ||| c.setWidth 32 <<< 8 ||| d.setWidth 32 : W32) := by
  rw [mul_shl _ 24 16777216 (by decide), mul_shl _ 16 65536 (by decide), mul_shl _ 8 256 (by decide)]
  have lo : ∀ (x : BitVec 8) (i : Nat), 8 ≤ i → x.getLsbD i = false := fun x i h => BitVec.getLsbD_of_ge x i h
  have h1 : (a.setWidth 32 <<< 24 + b.setWidth 32 <<< 16 : W32) = a.setWidth 32 <<< 24 ||| b.setWidth 32 <<< 16 := add_or (w32_ext fun i hi => by
    simp only [BitVec.getLsbD_and, BitVec.getLsbD_shiftLeft, BitVec.getLsbD_setWidth]
    by_cases h : i < 24
    · simp [h]
    · rw [lo b (i - 16) (by omega)]; simp)
  have h2 : ((a.setWidth 32 <<< 24 ||| b.setWidth 32 <<< 16) + c.setWidth 32 <<< 8 : W32) = (a.setWidth 32 <<< 24 ||| b.setWidth 32 <<< 16) ||| c.setWidth 32 <<< 8 := add_or (w32_ext fun i hi => by
    simp only [BitVec.getLsbD_and, BitVec.getLsbD_or, BitVec.getLsbD_shiftLeft, BitVec.getLsbD_setWidth]
    by_cases h : i < 16
    · simp [h, show i < 24 by omega]
    · rw [lo c (i - 8) (by omega)]; simp)
  have h3 : (((a.setWidth 32 <<< 24 ||| b.setWidth 32 <<< 16) ||| c.setWidth 32 <<< 8) + d.setWidth 32 : W32) = ((a.setWidth 32 <<< 24 ||| b.setWidth 32 <<< 16) ||| c.setWidth 32 <<< 8) ||| d.setWidth 32 := add_or (w32_ext fun i hi => by
    simp only [BitVec.getLsbD_and, BitVec.getLsbD_or, BitVec.getLsbD_shiftLeft, BitVec.getLsbD_setWidth]
    by_cases h : i < 8
    · simp [h, show i < 16 by omega, show i < 24 by omega]
    · rw [lo d i (by omega)]; simp)
  rw [h1, h2, h3]
theorem rot_all : ∀ a : Nat, a < 32 → 0 < a → BitVec.ofInt 64 (-(a : Int)) &&& 31#64 = BitVec.ofNat 64 (32 - a) ∧ 32#64 - BitVec.ofNat 64 (32 - a) = BitVec.ofNat 64 a := by decide
theorem rot_and (a : Nat) (h0 : 0 < a) (ha : a < 32) : BitVec.ofInt 64 (-(a : Int)) &&& 31#64 = BitVec.ofNat 64 (32 - a) := (rot_all a ha h0).1
theorem rot_sub (a : Nat) (h0 : 0 < a) (ha : a < 32) : 32#64 - BitVec.ofNat 64 (32 - a) = BitVec.ofNat 64 a := (rot_all a ha h0).2

/-! ### How a hash lies in memory -/
@[simp] theorem sqr_len : sqr.length = 8 := rfl
@[simp] theorem cub_len : cub.length = 64 := rfl
/-- The words, mixed with those at first. -/
def mix (s : List W32) : List W32 := (List.range 8).map fun j => s.getD j 0 ^^^ sqr.getD j 0
/-- The cells of a hash: its true words, what waits, how many. -/
def hcells (s : List W32) (bs : B8) (n : BitVec 64) : List Value := (mix s).map u32 ++ bs.map u8 ++ [u64 n]
theorem mix_len (s : List W32) : (mix s).length = 8 := by simp [mix]
theorem hcells_len {s : List W32} {bs : B8} {n : BitVec 64} (hb : bs.length = 64) : (hcells s bs n).length = 73 := by simp [hcells, mix_len, hb]
theorem hcells_one (s : List W32) (bs : B8) (n : BitVec 64) : ∀ a ∈ hcells s bs n, a.oneCell' = true := by
  intro a ha
  simp only [hcells, List.mem_append, List.mem_map, List.mem_singleton] at ha
  rcases ha with (⟨x, _, rfl⟩ | ⟨x, _, rfl⟩) | rfl <;> rfl
def nowT (s : List W32) (k : Nat) : List Value := tab 8 fun j => if j < k then u32 (s.getD j 0) else u32 (s.getD j 0 ^^^ sqr.getD j 0)
theorem nowT_0 (s : List W32) : (mix s).map u32 = nowT s 0 := by simp [mix, nowT, tab, Function.comp_def]
@[simp] theorem nowT_len (s : List W32) (k : Nat) : (nowT s k).length = 8 := tab_len
theorem nowT_get (s : List W32) {k : Nat} (h : k < 8) : (nowT s k)[k]? = some (u32 (s.getD k 0 ^^^ sqr.getD k 0)) := by
  unfold nowT
  rw [tab_get h, if_neg (Nat.lt_irrefl _)]
theorem nowT_set (s : List W32) (k : Nat) : (nowT s k).set k (u32 (s.getD k 0)) = nowT s (k + 1) := by
  unfold nowT
  rw [tab_set]
  refine tab_congr fun j hj => ?_
  by_cases h1 : j = k
  · subst h1; rw [if_pos rfl, if_pos (by omega)]
  · rw [if_neg h1]
    by_cases h2 : j < k
    · rw [if_pos h2, if_pos (by omega)]
    · rw [if_neg h2, if_neg (by omega)]
theorem nowT_8 {s : List W32} (h : s.length = 8) : nowT s 8 = s.map u32 := by
  unfold nowT tab
  apply List.ext_getElem (by simp [h])
  intro i h1 h2
  have : i < 8 := by simpa using h1
  simp [this, h]
theorem xor_back (a b : W32) : a ^^^ b ^^^ b = a := by rw [BitVec.xor_assoc, BitVec.xor_self, BitVec.xor_zero]
theorem hc_words (s : List W32) (bs : B8) (n : BitVec 64) : ((hcells s bs n).drop 0).take 8 = nowT s 0 := by
  rw [List.drop_zero, hcells, List.append_assoc, List.take_append_of_le_length (by simp [mix_len]), List.take_of_length_le (by simp [mix_len]), nowT_0]
theorem hc_n {s : List W32} {bs : B8} {n : BitVec 64} (hb : bs.length = 64) : (hcells s bs n)[72]? = some (u64 n) := by
  rw [hcells, List.getElem?_append_right (by simp [mix_len, hb])]
  simp [mix_len, hb]
theorem hc_b {s : List W32} {bs : B8} {n : BitVec 64} (hb : bs.length = 64) {j : Nat} (hj : j < 64) : (hcells s bs n)[8 + j]? = some (u8 (bs.getD j 0)) := by
  rw [hcells, List.getElem?_append_left (by simp [mix_len, hb]; omega), List.getElem?_append_right (by simp [mix_len])]
  simp only [List.length_map, mix_len, Nat.add_sub_cancel_left]
  exact gm (by omega)

/-! ### Pressing -/
def schT (b : B8) (k : Nat) : List Value := tab 64 fun j => if j < k then u32 (W b j) else u32 0
@[simp] theorem schT_len (b : B8) (k : Nat) : (schT b k).length = 64 := tab_len
theorem schT_get (b : B8) {j k : Nat} (h : j < k) (hk : k ≤ 64) : (schT b k)[j]? = some (u32 (W b j)) := by
  unfold schT
  rw [tab_get (by omega), if_pos h]
theorem schT_set (b : B8) (k : Nat) : (schT b k).set k (u32 (W b k)) = schT b (k + 1) := by
  unfold schT
  rw [tab_set]
  refine tab_congr fun j hj => ?_
  by_cases h1 : j = k
  · subst h1; rw [if_pos rfl, if_pos (by omega)]
  · rw [if_neg h1]
    by_cases h2 : j < k
    · rw [if_pos h2, if_pos (by omega)]
    · rw [if_neg h2, if_neg (by omega)]
theorem list8 {l : List W32} (h : l.length = 8) : [u32 (l.getD 0 0), u32 (l.getD 1 0), u32 (l.getD 2 0), u32 (l.getD 3 0), u32 (l.getD 4 0), u32 (l.getD 5 0), u32 (l.getD 6 0), u32 (l.getD 7 0)] = l.map u32 := by
  match l, h with
  | [_, _, _, _, _, _, _, _], _ => rfl
theorem comp_get (s : List W32) (b : B8) {i : Nat} (h : i < 8) : (comp s b).getD i 0 = s.getD i 0 + (rnds (sch b 64) s 64).getD i 0 := by
  unfold comp add8
  rw [List.getD_eq_getElem?_getD, List.getElem?_map, List.getElem?_range h]
  rfl
def mixT (s t : List W32) (k : Nat) : List W32 := (List.range 8).map fun j => if j < k then t.getD j 0 ^^^ sqr.getD j 0 else s.getD j 0 ^^^ sqr.getD j 0
theorem mixT_0 (s t : List W32) : mixT s t 0 = mix s := by simp [mixT, mix]
theorem mixT_8 (s t : List W32) : mixT s t 8 = mix t := by
  unfold mixT mix
  apply List.map_congr_left
  intro j hj
  rw [if_pos (List.mem_range.1 hj)]
theorem mixT_set (s t : List W32) (k : Nat) (R : List Value) (hk : k < 8) : ((mixT s t k).map u32 ++ R).set k (u32 (t.getD k 0 ^^^ sqr.getD k 0)) = (mixT s t (k + 1)).map u32 ++ R := by
  have hl : (mixT s t k).length = 8 := by simp [mixT]
  rw [List.set_append_left _ _ (by rw [List.length_map, hl]; exact hk)]
  congr 1
  apply List.ext_getElem (by simp [mixT])
  intro i h1 h2
  rw [List.getElem_set]
  simp only [mixT, List.getElem_map, List.getElem_range]
  by_cases h : k = i
  · subst h; rw [if_pos rfl, if_pos (by omega)]
  · rw [if_neg h]
    by_cases h3 : i < k
    · rw [if_pos h3, if_pos (by omega)]
    · rw [if_neg h3, if_neg (by omega)]
section
variable (ws s : List W32) (k : Nat)
def rx (ws v : List W32) (k : Nat) : W32 := v.getD 7 0 + (rr (v.getD 4 0) 6 ^^^ rr (v.getD 4 0) 11 ^^^ rr (v.getD 4 0) 25) + (v.getD 6 0 ^^^ (v.getD 4 0 &&& (v.getD 5 0 ^^^ v.getD 6 0))) + cub.getD k 0 + ws.getD k 0
def ry (v : List W32) : W32 := (rr (v.getD 0 0) 2 ^^^ rr (v.getD 0 0) 13 ^^^ rr (v.getD 0 0) 22) + ((v.getD 0 0 &&& v.getD 1 0) ||| (v.getD 2 0 &&& (v.getD 0 0 ||| v.getD 1 0)))
theorem rs0 : (rnds ws s (k + 1)).getD 0 0 = rx ws (rnds ws s k) k + ry (rnds ws s k) := rfl
theorem rs1 : (rnds ws s (k + 1)).getD 1 0 = (rnds ws s k).getD 0 0 := rfl
theorem rs2 : (rnds ws s (k + 1)).getD 2 0 = (rnds ws s k).getD 1 0 := rfl
theorem rs3 : (rnds ws s (k + 1)).getD 3 0 = (rnds ws s k).getD 2 0 := rfl
theorem rs5 : (rnds ws s (k + 1)).getD 5 0 = (rnds ws s k).getD 4 0 := rfl
theorem rs6 : (rnds ws s (k + 1)).getD 6 0 = (rnds ws s k).getD 5 0 := rfl
theorem rs7 : (rnds ws s (k + 1)).getD 7 0 = (rnds ws s k).getD 6 0 := rfl
theorem rs4 : (rnds ws s (k + 1)).getD 4 0 = (rnds ws s k).getD 3 0 + rx ws (rnds ws s k) k := rfl
end

/-! ### Writing -/
theorem hashN_pre (xs ys : B8) : ∀ m, 64 * m ≤ xs.length → hashN (xs ++ ys) m = hashN xs m
  | 0, _ => rfl
  | m + 1, h => by
    rw [hashN, hashN, hashN_pre xs ys m (by omega), List.drop_append_of_le_length (by omega), List.take_append_of_le_length (by rw [List.length_drop]; omega)]
def HOK (xs bs : B8) : Prop := bs.length = 64 ∧ bs.take (xs.length % 64) = xs.drop (64 * (xs.length / 64))
def hst (xs bs : B8) : List Value := hcells (hashN xs (xs.length / 64)) bs (BitVec.ofNat 64 xs.length)
def putB (bs : B8) (a : Nat) (c : B8) : B8 := bs.take a ++ c ++ bs.drop (a + c.length)
theorem putB_len {bs : B8} {a : Nat} {c : B8} (hb : bs.length = 64) (h : a + c.length ≤ 64) : (putB bs a c).length = 64 := by
  simp only [putB, List.length_append, List.length_take, List.length_drop]
  omega
theorem mod64 (L : Nat) : (BitVec.ofNat 64 L % 64#64).toNat = L % 64 := by
  rw [BitVec.toNat_umod, BitVec.toNat_ofNat]
  show L % 2 ^ 64 % 64 = L % 64
  omega
theorem splice_mid {A B C vs : List Value} {k a : Nat} (hA : A.length = k) (h : a + vs.length ≤ B.length) : splice (A ++ B ++ C) (k + a) vs = A ++ (B.take a ++ vs ++ B.drop (a + vs.length)) ++ C := by
  subst hA
  unfold splice
  rw [List.append_assoc A B C, List.take_length_add_append, Nat.add_assoc, List.drop_length_add_append, List.take_append_of_le_length (by omega), List.drop_append_of_le_length h]
  simp only [List.append_assoc]
theorem hc_splice {s : List W32} {bs : B8} {n : BitVec 64} {a : Nat} {c : B8} (hb : bs.length = 64) (h : a + c.length ≤ 64) : splice (hcells s bs n) (8 + a) (c.map u8) = hcells s (putB bs a c) n := by
  unfold hcells putB
  rw [splice_mid (by simp [mix_len]) (by rw [List.length_map, List.length_map]; omega)]
  simp only [List.map_append, List.map_take, List.map_drop, List.length_map]
theorem hc_setn {s : List W32} {bs : B8} {n n' : BitVec 64} (hb : bs.length = 64) : (hcells s bs n).set 72 (u64 n') = hcells s bs n' := by
  unfold hcells
  rw [List.set_append_right _ _ (by simp [mix_len, hb])]
  simp [mix_len, hb]
section
variable {X bs c : B8} (h : HOK X bs) (hc : X.length % 64 + c.length ≤ 64)
include h
theorem putB_take : (putB bs (X.length % 64) c).take (X.length % 64 + c.length) = X.drop (64 * (X.length / 64)) ++ c := by
  have hl : (bs.take (X.length % 64)).length = X.length % 64 := by rw [List.length_take, h.1]; omega
  unfold putB
  rw [List.take_append_of_le_length (by rw [List.length_append, hl]; exact Nat.le_refl _), List.take_of_length_le (by rw [List.length_append, hl]; exact Nat.le_refl _), h.2]
include hc
theorem write_lo (hlt : X.length % 64 + c.length < 64) : HOK (X ++ c) (putB bs (X.length % 64) c) ∧ hcells (hashN X (X.length / 64)) (putB bs (X.length % 64) c) (BitVec.ofNat 64 (X.length + c.length)) = hst (X ++ c) (putB bs (X.length % 64) c) := by
  have hd : (X ++ c).length / 64 = X.length / 64 := by rw [List.length_append]; omega
  have hm : (X ++ c).length % 64 = X.length % 64 + c.length := by rw [List.length_append]; omega
  refine ⟨⟨putB_len h.1 hc, ?_⟩, ?_⟩
  · rw [hd, hm, putB_take h, List.drop_append_of_le_length (by omega)]
  · rw [hst, hd, hashN_pre X c _ (by omega), List.length_append]
theorem write_hi (he : X.length % 64 + c.length = 64) : HOK (X ++ c) (putB bs (X.length % 64) c) ∧ hcells (comp (hashN X (X.length / 64)) (putB bs (X.length % 64) c)) (putB bs (X.length % 64) c) (BitVec.ofNat 64 (X.length + c.length)) = hst (X ++ c) (putB bs (X.length % 64) c) := by
  have hd : (X ++ c).length / 64 = X.length / 64 + 1 := by rw [List.length_append]; omega
  have hm : (X ++ c).length % 64 = 0 := by rw [List.length_append]; omega
  have hpl := putB_len h.1 hc
  refine ⟨⟨hpl, ?_⟩, ?_⟩
  · rw [hd, hm, List.take_zero, List.drop_of_length_le (by rw [List.length_append]; omega)]
  · have hb : putB bs (X.length % 64) c = ((X ++ c).drop (64 * (X.length / 64))).take 64 := by
      have h1 := putB_take (c := c) h
      rw [he, List.take_of_length_le (by omega)] at h1
      rw [h1, List.drop_append_of_le_length (by omega), List.take_of_length_le (by rw [List.length_append, List.length_drop]; omega)]
    rw [hst, hd, hashN, hashN_pre X c _ (by omega), ← hb, List.length_append]
end
theorem rd_drop {v : Value} {b : B8} {n : Nat} : Res.rd v (b.length - n) 1 (((b.map u8).drop (n * 1)).take ((b.length - n) * 1)) = Res.rd v (b.drop n).length 1 ((b.drop n).map u8) := by
  rw [Nat.mul_one, Nat.mul_one, List.map_drop, List.length_drop, List.take_of_length_le (by simp)]
theorem take_rest (r : B8) (n : Nat) : r.take n ++ r.drop (r.take n).length = r := by
  rw [List.length_take]
  by_cases h : n ≤ r.length
  · rw [Nat.min_eq_left h, List.take_append_drop]
  · rw [Nat.min_eq_right (by omega), List.take_of_length_le (by omega), List.drop_length, List.append_nil]

/-! ### The document's step -/
theorem rnd8 {ws s v : List W32} {k : Nat} (hv : rnds ws s k = v) : [u32 (rx ws v k + ry v), u32 (v.getD 0 0), u32 (v.getD 1 0), u32 (v.getD 2 0), u32 (v.getD 3 0 + rx ws v k), u32 (v.getD 4 0), u32 (v.getD 5 0), u32 (v.getD 6 0)] = (rnds ws s (k + 1)).map u32 := by
  subst hv; rfl
theorem W_ref (b : B8) {j : Nat} (h : 16 ≤ j) : W b (j - 16) + (rr (W b (j - 15)) 7 ^^^ rr (W b (j - 15)) 18 ^^^ W b (j - 15) >>> 3) + W b (j - 7) + (rr (W b (j - 2)) 17 ^^^ rr (W b (j - 2)) 19 ^^^ W b (j - 2) >>> 10) = W b j := by
  rw [W_hi b h, BitVec.add_assoc (W b (j - 16)), BitVec.add_comm _ (W b (j - 7)), ← BitVec.add_assoc (W b (j - 16))]
  rfl
def adT (s v : List W32) (k : Nat) : List W32 := (List.range 8).map fun j => if j < k then s.getD j 0 + v.getD j 0 else v.getD j 0
theorem adT_0 (s : List W32) {v : List W32} (h : v.length = 8) : adT s v 0 = v := by
  match v, h with
  | [_, _, _, _, _, _, _, _], _ => rfl
theorem adT_8 (s v : List W32) : adT s v 8 = add8 s v := by
  unfold adT add8
  apply List.map_congr_left
  intro j hj
  rw [if_pos (List.mem_range.1 hj)]
@[simp] theorem adT_len (s v : List W32) (k : Nat) : (adT s v k).length = 8 := by simp [adT]
theorem adT_get (s v : List W32) {k : Nat} (h : k < 8) : ((adT s v k).map u32)[k]? = some (u32 (v.getD k 0)) := by
  simp [adT, h]
theorem adT_set (s v : List W32) {k : Nat} (_h : k < 8) : ((adT s v k).map u32).set k (u32 (s.getD k 0 + v.getD k 0)) = (adT s v (k + 1)).map u32 := by
  apply List.ext_getElem (by simp)
  intro i h1 h2
  rw [List.getElem_set]
  simp only [adT, List.getElem_map, List.getElem_range]
  by_cases h : k = i
  · subst h; rw [if_pos rfl, if_pos (by omega)]
  · rw [if_neg h]
    by_cases h3 : i < k
    · rw [if_pos h3, if_pos (by omega)]
    · rw [if_neg h3, if_neg (by omega)]

/-! ### The document's digest -/
def padZ (b : B8) (z : Nat) : B8 := b ++ [128] ++ List.replicate z 0
@[simp] theorem padZ_len (b : B8) (z : Nat) : (padZ b z).length = b.length + 1 + z := by simp only [padZ, List.length_append, List.length_replicate, List.length_cons, List.length_nil]
theorem padZ_succ (b : B8) (z : Nat) : padZ b z ++ [0#8] = padZ b (z + 1) := by
  simp only [padZ, List.append_assoc, List.replicate_succ']
  rfl
@[simp] theorem size8_len (n : Nat) : (size8 n).length = 8 := by simp [size8]
theorem size8_take (n : Nat) {i : Nat} (h : i < 8) : (size8 n).take i ++ [((BitVec.ofNat 64 n * 8#64) >>> (56 - 8 * i)).setWidth 8] = (size8 n).take (i + 1) := by
  rw [List.take_succ_eq_append_getElem (by simpa using h)]
  simp [size8]
theorem padded_eq (b : B8) : padded b = padZ b (zeros b.length) ++ size8 b.length := rfl
theorem padded_len (b : B8) : (padded b).length = b.length + 1 + zeros b.length + 8 := by rw [padded_eq, List.length_append, padZ_len, size8_len]
theorem zeros_lt (n : Nat) : zeros n < 64 := Nat.mod_lt _ (by decide)
theorem padded_mod (b : B8) : (padded b).length % 64 = 0 := by
  rw [padded_len]
  unfold zeros
  omega
theorem map_cat (xs ys : B8) : xs.map u8 ++ ys.map u8 = (xs ++ ys).map u8 := List.map_append.symm
theorem len_cat (xs ys : B8) : xs.length + ys.length = (xs ++ ys).length := List.length_append.symm
def blkAt (P : B8) (m : Nat) : B8 := (P.drop (64 * m)).take 64
theorem blk_len {P : B8} {m : Nat} (h : 64 * m + 64 ≤ P.length) : (blkAt P m).length = 64 := by rw [blkAt, List.length_take, List.length_drop]; omega
theorem rd_blk {v : Value} {P : B8} {m : Nat} (h : 64 * m + 64 ≤ P.length) : Res.rd v (64 * m + 64 - 64 * m) 1 (((P.map u8).drop (64 * m * 1)).take ((64 * m + 64 - 64 * m) * 1)) = Res.rd v (blkAt P m).length 1 ((blkAt P m).map u8) := by
  rw [blk_len h, Nat.mul_one, Nat.mul_one, show 64 * m + 64 - 64 * m = 64 by omega, blkAt, List.map_take, List.map_drop]
def ob (s : List W32) (j : Nat) : BitVec 8 := (s.getD (j / 4) 0 >>> (24 - 8 * (j % 4))).setWidth 8
theorem outB_eq (s : List W32) : (outB s).map u8 = tab 32 fun j => u8 (ob s j) := by simp [outB, tab, ob, Function.comp_def]
@[simp] theorem outB_len (s : List W32) : (outB s).length = 32 := by simp [outB]
def outT (s : List W32) (k : Nat) : List Value := tab 32 fun j => if j < k then u8 (ob s j) else u8 0
@[simp] theorem outT_len (s : List W32) (k : Nat) : (outT s k).length = 32 := tab_len
theorem outT_set (s : List W32) (k : Nat) : (outT s k).set k (u8 (ob s k)) = outT s (k + 1) := by
  unfold outT
  rw [tab_set]
  refine tab_congr fun j hj => ?_
  by_cases h1 : j = k
  · subst h1; rw [if_pos rfl, if_pos (by omega)]
  · rw [if_neg h1]
    by_cases h2 : j < k
    · rw [if_pos h2, if_pos (by omega)]
    · rw [if_neg h2, if_neg (by omega)]
theorem outT_32 (s : List W32) : outT s 32 = (outB s).map u8 := by
  rw [outB_eq]
  exact tab_congr fun j hj => if_pos hj

/-! ### Sum -/
theorem padZ_0 (b : B8) : padZ b 0 = b ++ [128] := by simp [padZ]
theorem pad56 (L : Nat) : (BitVec.ofNat 64 L % 64#64 = 56#64) ↔ L % 64 = 56 := by
  constructor
  · intro h
    have := congrArg BitVec.toNat h
    rw [mod64] at this
    exact this
  · intro h
    exact BitVec.eq_of_toNat_eq (by rw [mod64, h]; rfl)
def sizeT (n k : Nat) : List Value := tab 8 fun j => if j < k then u8 (((BitVec.ofNat 64 n * 8#64) >>> (56 - 8 * j)).setWidth 8) else u8 0
@[simp] theorem sizeT_len (n k : Nat) : (sizeT n k).length = 8 := tab_len
theorem sizeT_set (n k : Nat) : (sizeT n k).set k (u8 (((BitVec.ofNat 64 n * 8#64) >>> (56 - 8 * k)).setWidth 8)) = sizeT n (k + 1) := by
  unfold sizeT
  rw [tab_set]
  refine tab_congr fun j hj => ?_
  by_cases h1 : j = k
  · subst h1; rw [if_pos rfl, if_pos (by omega)]
  · rw [if_neg h1]
    by_cases h2 : j < k
    · rw [if_pos h2, if_pos (by omega)]
    · rw [if_neg h2, if_neg (by omega)]
theorem sizeT_8 (n : Nat) : sizeT n 8 = (size8 n).map u8 := by
  have h : (size8 n).map u8 = tab 8 fun j => u8 (((BitVec.ofNat 64 n * 8#64) >>> (56 - 8 * j)).setWidth 8) := by simp [size8, tab, Function.comp_def]
  rw [h]
  exact tab_congr fun j hj => if_pos hj
theorem ob_at (s : List W32) {i k : Nat} (h : k < 4) : (s.getD i 0 >>> (24 - 8 * k)).setWidth 8 = ob s (4 * i + k) := by
  unfold ob
  rw [show (4 * i + k) / 4 = i by omega, show (4 * i + k) % 4 = k by omega]
@[simp] theorem sha_len (b : B8) : (sha b).length = 32 := outB_len _
theorem hok_nil : HOK [] (List.replicate 64 0) := ⟨List.length_replicate, rfl⟩
set_option maxRecDepth 100000 in
theorem sha_0 : (sha []).getD 0 0 = 227#8 ∧ (sha []).getD 1 0 = 176#8 ∧ (sha []).getD 31 0 = 85#8 := by decide +kernel
set_option maxRecDepth 100000 in
theorem sha_abc : (sha [97#8, 98#8, 99#8]).getD 0 0 = 186#8 ∧ (sha [97#8, 98#8, 99#8]).getD 1 0 = 120#8 ∧ (sha [97#8, 98#8, 99#8]).getD 31 0 = 173#8 := by decide +kernel

/-! ### Many pieces -/
abbrev Pcs := List (Value × B8)
def pcAt (l : Pcs) (k : Nat) : Value × B8 := l.getD k (.slice none 0 0, [])
def pcRes (l : Pcs) : RL := l.map fun x => Res.rd x.1 x.2.length 1 (x.2.map u8)
def pcB (l : Pcs) : B8 := l.flatMap Prod.snd
theorem pc_mem {l : Pcs} {k : Nat} (h : k < l.length) : pcAt l k ∈ l := by
  unfold pcAt
  rw [List.getD_eq_getElem?_getD, List.getElem?_eq_getElem h]
  exact List.getElem_mem h
theorem pc_get {l : Pcs} {k : Nat} (h : k < l.length) : (l.map Prod.fst)[k]? = some (pcAt l k).1 := gm h
theorem pc_res {l : Pcs} {k : Nat} (h : k < l.length) : Res.rd (pcAt l k).1 (pcAt l k).2.length 1 ((pcAt l k).2.map u8) ∈ pcRes l := List.mem_map.2 ⟨_, pc_mem h, rfl⟩
theorem pcB_succ {l : Pcs} {k : Nat} (h : k < l.length) : pcB (l.take k) ++ (pcAt l k).2 = pcB (l.take (k + 1)) := by
  simp only [pcB, pcAt, List.take_add_one, List.getElem?_eq_getElem h, List.getD_eq_getElem?_getD, Option.getD_some, List.flatMap_append, Option.toList_some, List.flatMap_cons, List.flatMap_nil, List.append_nil]
end Go.Proofs.YtffgimlkmfjgmaaDoor
