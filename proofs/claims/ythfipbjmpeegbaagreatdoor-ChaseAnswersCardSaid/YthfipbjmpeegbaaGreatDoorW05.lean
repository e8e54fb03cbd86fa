/- Texts of ours, gathered: D8s P17 C19 E8s P17p D19. -/
import Derived.Test.YthfipbjmpeegbaaGreatDoorW04
/- Numbers, their bytes and bits; what is read is written so alone: the plain side. No program in sight. -/
namespace Go.Proofs.YthfipbjmpeegbaaGreatDoor
open Go.RowKit

/-- Bit p of a number, of its words. -/
def bitOf (ws : W4) (p : Nat) : Bool := (ws.getD (p / 64) 0).getLsbD (p % 64)
theorem bitOf_ext {a b : W4} (ha : a.length = 4) (hb : b.length = 4) (h : ∀ p, p < 256 → bitOf a p = bitOf b p) : a = b := by
  refine eq_of_getD (d := 0) (by omega) fun j hj => ?_
  apply BitVec.eq_of_getLsbD_eq
  intro i hi
  have := h (64 * j + i) (by omega)
  unfold bitOf at this
  rwa [show (64 * j + i) / 64 = j by omega, show (64 * j + i) % 64 = i by omega] at this
theorem bitOf_byteOf (ws : W4) (k i : Nat) (hi : i < 8) : (byteOf ws k).getLsbD i = bitOf ws (8 * k + i) := by
  unfold byteOf bitOf
  rw [BitVec.getLsbD_setWidth, BitVec.getLsbD_ushiftRight, show (8 * k + i) / 64 = k / 8 by omega, show (8 * k + i) % 64 = 8 * (k % 8) + i by omega]
  simp [hi]
theorem getD_set (ws : W4) (j k : Nat) (v : BitVec 64) (hj : j < ws.length) : (ws.set j v).getD k 0 = if j = k then v else ws.getD k 0 := by
  rw [List.getD_eq_getElem?_getD, List.getElem?_set, List.getD_eq_getElem?_getD, if_pos hj]
  split <;> rfl
theorem bitOf_put (ws : W4) (k p : Nat) (c : BitVec 8) (h4 : ws.length = 4) (hk : k < 32) : bitOf (putByte ws k c) p = (bitOf ws p || (decide (p / 8 = k) && c.getLsbD (p % 8))) := by
  unfold bitOf putByte
  rw [getD_set _ _ _ _ (by omega)]
  by_cases h : k / 8 = p / 64
  · rw [if_pos h, BitVec.getLsbD_or, BitVec.getLsbD_shiftLeft, BitVec.getLsbD_setWidth, h]
    congr 1
    by_cases h2 : p / 8 = k
    · have h5 : ¬ p % 64 < 8 * (k % 8) := by omega
      have h3 : p % 64 - 8 * (k % 8) = p % 8 := by omega
      simp only [h2, h5, h3, decide_true, decide_false, Bool.not_false, Bool.true_and, Bool.and_true]
      have h6 : p % 64 < 64 := by omega
      have h7 : p % 8 < 64 := by omega
      simp [h6, h7]
    · rw [decide_eq_false h2, Bool.false_and]
      by_cases h3 : p % 64 < 8 * (k % 8)
      · simp [h3]
      · have : 8 ≤ p % 64 - 8 * (k % 8) := by omega
        simp [BitVec.getLsbD_of_ge c _ this]
  · rw [if_neg h]
    have h2 : ¬ p / 8 = k := by omega
    simp [h2]
theorem bitOf_upto (b : B8) (hb : b.length ≤ 32) (p : Nat) : ∀ m, m ≤ b.length → bitOf (ofUpto b m) p = (decide (p / 8 < b.length ∧ b.length - 1 - p / 8 < m) && (b.getD (b.length - 1 - p / 8) 0).getLsbD (p % 8))
  | 0, _ => by
    have : ∀ q, bitOf [0, 0, 0, 0] q = false := fun q => by
      unfold bitOf
      match h : q / 64 with
      | 0 => simp
      | 1 => simp
      | 2 => simp
      | 3 => simp
      | n + 4 => simp
    rw [show ofUpto b 0 = [0, 0, 0, 0] from rfl, this]
    simp
  | m + 1, hm => by
    rw [ofUpto_succ, bitOf_put _ _ _ _ (ofUpto_length b m) (by omega), bitOf_upto b hb p m (by omega)]
    by_cases h : p / 8 = b.length - 1 - m
    · have h1 : b.length - 1 - p / 8 = m := by omega
      rw [h1, decide_eq_true h, decide_eq_false (show ¬ (p / 8 < b.length ∧ m < m) by omega), decide_eq_true (show p / 8 < b.length ∧ m < m + 1 by omega)]
      simp
    · rw [decide_eq_false h, Bool.false_and, Bool.or_false]
      congr 1
      exact decide_eq_decide.2 ⟨fun h1 => by omega, fun h1 => by omega⟩
theorem bitOf_ofBytes (b : B8) (hb : b.length ≤ 32) (p : Nat) : bitOf (ofBytes b) p = (decide (p / 8 < b.length) && (b.getD (b.length - 1 - p / 8) 0).getLsbD (p % 8)) := by
  rw [ofBytes, bitOf_upto b hb p _ (Nat.le_refl _)]
  congr 1
  exact decide_eq_decide.2 ⟨fun h1 => h1.1, fun h1 => ⟨h1, by omega⟩⟩
theorem ofBytes_natBytes (ws : W4) (h : ws.length = 4) : ofBytes (natBytes ws) = ws := by
  refine bitOf_ext (ofBytes_length _) h fun p hp => ?_
  rw [bitOf_ofBytes _ (by simp), natBytes_length, decide_eq_true (show p / 8 < 32 by omega), Bool.true_and]
  have h1 : (natBytes ws).getD (32 - 1 - p / 8) 0 = byteOf ws (p / 8) := by
    have : 32 - 1 - p / 8 < 32 := by omega
    rw [List.getD_eq_getElem?_getD]
    simp only [natBytes, List.getElem?_map, List.getElem?_range this, Option.map_some, Option.getD_some]
    congr 1
    omega
  rw [h1, bitOf_byteOf _ _ _ (by omega)]
  congr 1
  omega

/-! ### Short ones: in one word -/
def word0 (o : B8) : BitVec 64 := (ofBytes o).getD 0 0
theorem word0_bit (o : B8) (h : o.length ≤ 8) (i : Nat) (hi : i < 64) : (word0 o).getLsbD i = (decide (i / 8 < o.length) && (o.getD (o.length - 1 - i / 8) 0).getLsbD (i % 8)) := by
  have h1 := bitOf_ofBytes o (by omega) i
  unfold bitOf at h1
  rw [show i / 64 = 0 by omega, show i % 64 = i by omega] at h1
  exact h1
theorem digs_word0 (o : B8) (h : o.length ≤ 8) : digs (word0 o) o.length = o := by
  refine eq_of_getD (d := 0) (by simp) fun j hj => ?_
  rw [digs_length] at hj
  have h1 : (digs (word0 o) o.length).getD j 0 = (word0 o >>> (8 * (o.length - 1 - j))).setWidth 8 := by simp [digs, List.getD_eq_getElem?_getD, hj]
  rw [h1]
  apply BitVec.eq_of_getLsbD_eq
  intro i hi
  rw [BitVec.getLsbD_setWidth, BitVec.getLsbD_ushiftRight, word0_bit o h _ (by omega), show (8 * (o.length - 1 - j) + i) / 8 = o.length - 1 - j by omega, show (8 * (o.length - 1 - j) + i) % 8 = i by omega,
    show o.length - 1 - (o.length - 1 - j) = j by omega, decide_eq_true (show o.length - 1 - j < o.length by omega)]
  simp [hi]
theorem word0_top (o : B8) (h : o.length ≤ 8) : word0 o >>> (8 * o.length) = 0 := by
  apply BitVec.eq_of_getLsbD_eq
  intro i hi
  rw [BitVec.getLsbD_ushiftRight]
  by_cases h1 : 8 * o.length + i < 64
  · rw [word0_bit o h _ h1, decide_eq_false (by omega)]
    simp
  · rw [BitVec.getLsbD_of_ge _ _ (by omega)]
    simp
theorem nsz_word0 (o : B8) (h : o.length ≤ 8) (h0 : ¬ (0 < o.length ∧ o.getD 0 0 = 0)) : nsz (word0 o) = o.length := by
  refine nsz_of (word0_top o h) ?_
  rcases Nat.eq_zero_or_pos o.length with hz | hz
  · exact .inl hz
  · refine .inr fun he => h0 ⟨hz, ?_⟩
    have h1 := digs_word0 o h
    have h2 : (digs (word0 o) o.length).getD 0 0 = (word0 o >>> (8 * (o.length - 1 - 0))).setWidth 8 := by simp [digs, List.getD_eq_getElem?_getD, hz]
    rw [Nat.sub_zero, he, h1] at h2
    rw [h2]
    rfl
theorem smallB_word0 (o : B8) (h : o.length ≤ 8) (h0 : ¬ (0 < o.length ∧ o.getD 0 0 = 0)) : smallB (word0 o) = BitVec.ofNat 8 o.length :: o := by
  rw [smallB, nsz_word0 o h h0, digs_word0 o h]
theorem nsz_le_of_top {n : BitVec 64} {k : Nat} (h : n >>> (8 * k) = 0) : nsz n ≤ k := by
  have h2 : n.toNat / 2 ^ (8 * k) = 0 := by
    have := congrArg BitVec.toNat h
    rw [BitVec.toNat_ushiftRight, Nat.shiftRight_eq_div_pow] at this
    exact this
  have h3 : n.toNat < 2 ^ (8 * k) := by
    rcases Nat.div_eq_zero_iff.1 h2 with h | h
    · have : 0 < 2 ^ (8 * k) := Nat.two_pow_pos _; omega
    · exact h
  have h4 := bitlen_le h3
  unfold nsz len64
  omega
theorem word0_digs (n : BitVec 64) : word0 (digs n (nsz n)) = n := by
  have hl : (digs n (nsz n)).length = nsz n := digs_length n _
  have h8 : (digs n (nsz n)).length ≤ 8 := by rw [hl]; exact nsz_le n
  have h1 := digs_word0 _ h8
  have h2 := nsz_le_of_top (word0_top _ h8)
  rw [hl] at h1 h2
  exact digs_inj h1 h2 (Nat.le_refl _)

/-! ### What is read is written so alone -/
namespace Rdr
theorem aft_split {r : Rdr} {n : Nat} (h : (r.aft n).e = 0) : r.b = r.out n ++ (r.aft n).b := by
  obtain ⟨h1, h2⟩ := chk_ok (aft_e h)
  rw [out_ok h1 h2, aft_ok h1 h2]
  exact (List.take_append_drop _ _).symm
theorem back_small {r : Rdr} {lim : BitVec 64} (h : (r.smA lim).e = 0) : r.b = smallB (r.sm lim) ++ (r.smA lim).b := by
  have h0 : ¬ (r.out 1).length = 0 := fun h0 => by
    rw [smA, if_pos h0] at h
    rw [out_len h] at h0
    cases h0
  rw [smA, if_neg h0] at h
  have hs : r.smF lim = r.smR ∧ r.smR.e = 0 ∧ ¬ r.k8.toNat > 8 ∧ ¬ (0 < r.k8.toNat ∧ r.smO.getD 0 0 = 0) := by
    unfold smF at h ⊢
    by_cases c1 : r.smR.e ≠ 0
    · rw [if_pos c1] at h; exact absurd h c1
    · rw [if_neg c1] at h ⊢
      by_cases c2 : r.k8.toNat > 8
      · rw [if_pos c2] at h; exact absurd h (wrong_ne (by decide))
      · rw [if_neg c2] at h ⊢
        by_cases c3 : 0 < r.k8.toNat ∧ r.smO.getD 0 0 = 0
        · rw [if_pos c3] at h; exact absurd h (wrong_ne (by decide))
        · rw [if_neg c3] at h ⊢
          by_cases c4 : ((ofBytes r.smO).getD 0 0).toNat > lim.toNat
          · rw [if_pos c4] at h; exact absurd h (wrong_ne (by decide))
          · rw [if_neg c4]
            exact ⟨rfl, Decidable.not_not.1 c1, c2, c3⟩
  obtain ⟨hF, hR, h8, hz⟩ := hs
  have hl := smO_len hR h8
  have hm : r.sm lim = word0 r.smO := by rw [sm, if_neg h0, hF, if_neg (not_not_intro hR)]; rfl
  rw [smA, if_neg h0, hF, hm, smallB_word0 r.smO (by omega) (by rw [hl]; exact hz)]
  have hk : r.k8.toNat ≤ 8 := by omega
  have hR2 : r.smR = (r.aft 1).aft r.k8.toNat := if_pos hk
  have hO2 : r.smO = (r.aft 1).out r.k8.toNat := if_pos hk
  rw [hR2] at hR
  have hA : (r.aft 1).e = 0 := (chk_ok (aft_e hR)).2
  have e1 := aft_split hA
  have e2 := aft_split hR
  rw [e2, ← hO2, ← hR2] at e1
  have h1 : r.out 1 = [r.k8] := by
    have := out_len hA
    unfold k8
    match r.out 1, this with
    | [x], _ => rfl
  rw [h1] at e1
  rw [e1, hl]
  simp
theorem cnt_of {r : Rdr} {m : Int} (h : (r.cntA m).e = 0) : r.b = smallB (r.cnt m) ++ (r.cntA m).b := by
  have h1 := back_small (r := r.cntR m) (lim := BitVec.ofInt 64 m) h
  have h2 : r.cntR m = r := by
    unfold cntR
    split
    · rename_i h3
      have hne : (r.wrong 2).e ≠ 0 := wrong_ne (by decide)
      have h4 : r.cntR m = r.wrong 2 := if_pos h3
      rw [cntA, h4, smA_st hne] at h
      exact absurd h hne
    · rfl
  rw [h2] at h1
  exact (by rw [cnt, cntA, h2]; exact h1)
theorem ofNat_toNat (n : BitVec 64) : BitVec.ofNat 64 n.toNat = n := by simp
theorem back_bytes {r : Rdr} {m : Int} (h : (r.byA m).e = 0) : r.b = bytesB (r.byO m) ++ (r.byA m).b := by
  have h0 : (r.cntA m).e = 0 := (chk_ok (aft_e h)).2
  have e1 := cnt_of h0
  have e2 := aft_split h
  have hl : (r.byO m).length = (r.cnt m).toNat := out_len h
  rw [e2] at e1
  rw [bytesB, hl, ofNat_toNat, e1, List.append_assoc]
  rfl
end Rdr

/-! ### CodecAgain -/
theorem bytesB_len (b : B8) : (bytesB b).length ≤ b.length + 9 := by
  have := smallB_le (BitVec.ofNat 64 b.length)
  rw [bytesB, List.length_append]
  omega
theorem natsB_len (l : List W4) : (natsB l).length ≤ l.length * 32 + 9 := by
  have := smallB_le (BitVec.ofNat 64 l.length)
  rw [natsB, List.length_append, flatB_len]
  omega
theorem fin_0 {r : Rdr} (h : r.fin = 0) : r.e = 0 ∧ r.b = [] := by
  unfold Rdr.fin at h
  split at h
  · cases h
  · rename_i h1
    refine ⟨h, ?_⟩
    have : ¬ 0 < r.b.length := fun h2 => h1 ⟨h, h2⟩
    exact List.length_eq_zero_iff.1 (by omega)

/-! ### What is put -/
structure Put where
  act : Int
  n : BitVec 64
  a : W4
  bv : Value
  b : B8
  lv : Value
  l : List W4
namespace Put
def cells (d : Put) : List Value := [it d.act, u64 d.n] ++ d.a.map u64 ++ [d.bv, d.lv]
def ok (d : Put) : Prop := d.a.length = 4 ∧ ∀ ws ∈ d.l, ws.length = 4
def few (d : Put) : Bool := decide (d.b.length ≤ 1000) && decide (d.l.length ≤ 40)
def out (d : Put) : B8 := if d.act = 1 then smallB d.n else if d.act = 2 then natBytes d.a else if d.act = 3 then bytesB d.b else if d.act = 4 then natsB d.l else []
end Put
def putCells (l : List Put) : List Value := l.flatMap Put.cells
def putAt (l : List Put) (k : Nat) : Put := l.getD k ⟨0, 0, [0, 0, 0, 0], .slice none 0 0, [], .slice none 0 0, []⟩
def putOut (l : List Put) : B8 := l.flatMap Put.out
def short (l : List Put) : Bool := decide (l.length ≤ 20) && l.all Put.few
theorem putAt_mem {l : List Put} {k : Nat} (h : k < l.length) : putAt l k ∈ l := by
  unfold putAt
  rw [List.getD_eq_getElem?_getD, List.getElem?_eq_getElem h]
  exact List.getElem_mem h
section
variable {l : List Put} {k : Nat} (h : ∀ d ∈ l, d.ok) (hk : k < l.length)
include h hk
end
theorem short_few {l : List Put} (h : short l = true) : l.length ≤ 20 ∧ ∀ k, k < l.length → (putAt l k).b.length ≤ 1000 ∧ (putAt l k).l.length ≤ 40 := by
  unfold short at h
  rw [Bool.and_eq_true, decide_eq_true_eq, List.all_eq_true] at h
  refine ⟨h.1, fun k hk => ?_⟩
  have := h.2 _ (putAt_mem hk)
  unfold Put.few at this
  simpa using this
theorem Put.out_len {d : Put} (hb : d.b.length ≤ 1000) (hl : d.l.length ≤ 40) : d.out.length ≤ 1300 := by
  unfold Put.out
  split
  · have := smallB_le d.n; omega
  · split
    · rw [natBytes_length]; omega
    · split
      · have := bytesB_len d.b; omega
      · split
        · have := natsB_len d.l; omega
        · exact Nat.zero_le _
end Go.Proofs.YthfipbjmpeegbaaGreatDoor

/- The pool's plain side: which piece is one of a kind, what is left without it; a map that may be nil. No program in sight. -/
namespace Go.Proofs.YthfipbjmpeegbaaGreatDoor
open Go.RowKit
set_option linter.unusedVariables false
set_option linter.unusedSimpArgs false
abbrev PB := B8 → Bool
abbrev isB (b : B8) : PB := fun c => decide (b = c)
def fitB (b : B8) : Bool := decide (1 ≤ b.length ∧ b.length ≤ 1000)
def hasP (p : PB) (l : List B8) : Bool := l.any p
def ixP (p : PB) (A : Pcs) : Int := if A.findIdx (fun x => p x.2) < A.length then (A.findIdx (fun x => p x.2) : Nat) else -1
theorem pc_eq {A : Pcs} {i : Nat} (h : i < A.length) : A[i] = pcAt A i := by rw [pcAt, List.getD_eq_getElem?_getD, List.getElem?_eq_getElem h]; rfl
theorem ix_hit {p : PB} {A : Pcs} {x : Nat} (hx : x < A.length) (h : p (pcAt A x).2 = true) (hn : ∀ j, j < x → p (pcAt A j).2 = false) : ixP p A = x := by
  have e : A.findIdx (fun x => p x.2) = x := by
    rw [List.findIdx_eq hx]
    refine ⟨by rw [pc_eq hx]; exact h, fun j hj => ?_⟩
    rw [pc_eq (by omega)]; exact hn j hj
  rw [ixP, e, if_pos hx]
theorem ix_none {p : PB} {A : Pcs} (hn : ∀ j, j < A.length → p (pcAt A j).2 = false) : ixP p A = -1 := by
  rw [ixP, if_neg]
  intro h
  have h1 := List.findIdx_getElem (w := h)
  rw [pc_eq h, hn _ h] at h1
  exact absurd h1 (by decide)
theorem ix_has (p : PB) (A : Pcs) : decide (ixP p A ≥ 0) = hasP p (bytesP A) := by
  unfold ixP hasP bytesP
  rw [List.any_map]
  by_cases h : A.findIdx (fun x => p x.2) < A.length
  · rw [if_pos h, decide_eq_true (by omega)]
    exact (List.any_eq_true.2 (List.findIdx_lt_length.1 h)).symm
  · rw [if_neg h, decide_eq_false (by omega)]
    symm
    rw [Bool.eq_false_iff]
    intro h1
    exact h (List.findIdx_lt_length.2 (List.any_eq_true.1 h1))
/-! ### A map that may be nil -/
/-- Many pieces, out of others that are known. -/
theorem all_of {X Y Z : Pcs} (h : ∀ z ∈ Z, z ∈ X ∨ z ∈ Y) : (∀ k, (Res.all (pcRes Z)).fp k → (Res.all (pcRes X)).fp k ∨ (Res.all (pcRes Y)).fp k) ∧ ∀ w, (Res.all (pcRes X)).ok w → (Res.all (pcRes Y)).ok w → (Res.all (pcRes Z)).ok w := by
  constructor
  · rintro k ⟨r, hr, hk⟩
    obtain ⟨z, hz, rfl⟩ := List.mem_map.1 hr
    rcases h z hz with h | h
    · exact .inl ⟨_, List.mem_map.2 ⟨z, h, rfl⟩, hk⟩
    · exact .inr ⟨_, List.mem_map.2 ⟨z, h, rfl⟩, hk⟩
  · intro w hx hy r hr
    obtain ⟨z, hz, rfl⟩ := List.mem_map.1 hr
    rcases h z hz with h | h
    · exact hx _ (List.mem_map.2 ⟨z, h, rfl⟩)
    · exact hy _ (List.mem_map.2 ⟨z, h, rfl⟩)
theorem St.addG {C : Beg} {Γ H : RL} {r : Res} {w : World} (hs : St C Γ H w) (hf : ∀ k, r.fp k → ∃ s ∈ Γ, s.fp k) (ho : r.ok w) : St C (r :: Γ) H w := by
  refine ⟨⟨?_, ?_, hs.sat.hok, hs.sat.hlt, hs.sat.hdj, ?_⟩, hs.stp, hs.hsub, ?_⟩
  · intro q hq
    rcases List.mem_cons.1 hq with rfl | hq
    · exact ho
    · exact hs.sat.gok q hq
  · intro q hq k hk
    rcases List.mem_cons.1 hq with rfl | hq
    · obtain ⟨s, h1, h2⟩ := hf k hk
      exact hs.sat.glt s h1 k h2
    · exact hs.sat.glt q hq k hk
  · intro q hq s hs' k hk hk'
    rcases List.mem_cons.1 hq with rfl | hq
    · obtain ⟨t, h1, h2⟩ := hf k hk
      exact hs.sat.ghd t h1 s hs' k h2 hk'
    · exact hs.sat.ghd q hq s hs' k hk hk'
  · rintro k ⟨q, hq, hk⟩
    rcases List.mem_cons.1 hq with rfl | hq
    · obtain ⟨t, h1, h2⟩ := hf k hk
      exact hs.gsub k ⟨t, h1, h2⟩
    · exact hs.gsub k ⟨q, hq, hk⟩
theorem St.allOf {C : Beg} {Γ H : RL} {X Y Z : Pcs} {w : World} (hs : St C Γ H w) (hx : Res.all (pcRes X) ∈ Γ) (hy : Res.all (pcRes Y) ∈ Γ) (h : ∀ z ∈ Z, z ∈ X ∨ z ∈ Y) : St C (Res.all (pcRes Z) :: Γ) H w :=
  hs.addG (fun k hk => ((all_of h).1 k hk).elim (fun h => ⟨_, hx, h⟩) fun h => ⟨_, hy, h⟩) ((all_of h).2 w (hs.sat.gok _ hx) (hs.sat.gok _ hy))
theorem JO.allOf {P : Program} {N : Nat} {C : Beg} {ops : Array Oper} {l : List Oper} {Q : Exit → Act → World → Prop} {E : Env} {Γ H : RL} (X Y Z : Pcs) (hx : Res.all (pcRes X) ∈ Γ) (hy : Res.all (pcRes Y) ∈ Γ) (h : ∀ z ∈ Z, z ∈ X ∨ z ∈ Y) (k : JO P N C ops l Q E (Res.all (pcRes Z) :: Γ) H) : JO P N C ops l Q E Γ H :=
  fun hn a w he hs => k hn a w he (hs.allOf hx hy h)
theorem JC.allOf {P : Program} {N : Nat} {C : Beg} {c : Code} {Q : Exit → Act → World → Prop} {E : Env} {Γ H : RL} (X Y Z : Pcs) (hx : Res.all (pcRes X) ∈ Γ) (hy : Res.all (pcRes Y) ∈ Γ) (h : ∀ z ∈ Z, z ∈ X ∨ z ∈ Y) (k : JC P N C c Q E (Res.all (pcRes Z) :: Γ) H) : JC P N C c Q E Γ H :=
  fun hn a w he hs => k hn a w he (hs.allOf hx hy h)
theorem JQ.allOf {N : Nat} {C : Beg} {e : Exit} {Q : Exit → Act → World → Prop} {E : Env} {Γ H : RL} (X Y Z : Pcs) (hx : Res.all (pcRes X) ∈ Γ) (hy : Res.all (pcRes Y) ∈ Γ) (h : ∀ z ∈ Z, z ∈ X ∨ z ∈ Y) (k : JQ N C e Q E (Res.all (pcRes Z) :: Γ) H) : JQ N C e Q E Γ H :=
  fun hn a w he hs => k hn a w he (hs.allOf hx hy h)
theorem St.all0 {C : Beg} {Γ H : RL} {w : World} (hs : St C Γ H w) : St C (Res.all (pcRes []) :: Γ) H w := hs.addG (fun k ⟨r, hr, _⟩ => by cases hr) (fun r hr => by cases hr)
theorem JO.all0 {P : Program} {N : Nat} {C : Beg} {ops : Array Oper} {l : List Oper} {Q : Exit → Act → World → Prop} {E : Env} {Γ H : RL} (k : JO P N C ops l Q E (Res.all (pcRes []) :: Γ) H) : JO P N C ops l Q E Γ H := fun hn a w he hs => k hn a w he hs.all0
theorem Spec.gsub {P : Program} {f : FuncId} {args : Array Value} {Γ Γ2 H : RL} {post : Value → RL → RL → Prop} (h : Spec P f args Γ H post) (hs : ∀ r ∈ Γ, r ∈ Γ2) : Spec P f args Γ2 H post := h.from (fun r hr k hk => ⟨r, hs r hr, hk⟩) (fun w hw r hr => hw r (hs r hr))
/-! ### The pool, plainly -/
def addE (W : List B8) (m : B8 → Bool) (b : B8) : Int := if fitB b = false then 2 else if (m b || hasP (isB b) W) = true then 13 else if 30 ≤ W.length then 52 else 0
def addN (W : List B8) (m : B8 → Bool) (b : B8) : List B8 := if addE W m b = 0 then [b] else []
def twB (l : List B8) : Bool := !decide l.Nodup
theorem nodup_snoc {l : List B8} {b : B8} : (l ++ [b]).Nodup ↔ l.Nodup ∧ b ∉ l := by
  rw [List.nodup_append]
  constructor
  · exact fun h => ⟨h.1, fun hb => h.2.2 b hb b (by simp) rfl⟩
  · exact fun h => ⟨h.1, by simp, fun a ha c hc => by rw [List.mem_singleton] at hc; subst hc; exact fun e => h.2 (e ▸ ha)⟩
theorem has_mem {l : List B8} {b : B8} : hasP (isB b) l = decide (b ∈ l) := by
  rw [hasP]
  by_cases h : b ∈ l
  · rw [decide_eq_true h]; exact List.any_eq_true.2 ⟨b, h, by simp⟩
  · rw [decide_eq_false h, Bool.eq_false_iff]
    intro h1
    obtain ⟨c, hc, he⟩ := List.any_eq_true.1 h1
    have : b = c := by simpa using he
    exact h (this ▸ hc)
theorem tw_hit {L : Pcs} {x : Nat} (hx : x < L.length) (h : hasP (isB (pcAt L x).2) (bytesP (L.take x)) = true) : twB (bytesP L) = true := by
  rw [has_mem, decide_eq_true_eq] at h
  rw [twB, Bool.not_eq_true', decide_eq_false_iff_not]
  intro hn
  have h2 : ((bytesP L).take (x + 1)).Nodup := List.Sublist.nodup (List.take_sublist _ _) hn
  rw [bytesP_get hx, nodup_snoc] at h2
  exact h2.2 (by simpa [bytesP, List.map_take] using h)
theorem tw_go {L : Pcs} {x : Nat} (hx : x < L.length) (hn : ((bytesP L).take x).Nodup) (h : hasP (isB (pcAt L x).2) (bytesP (L.take x)) = false) : ((bytesP L).take (x + 1)).Nodup := by
  rw [has_mem, decide_eq_false_iff_not] at h
  rw [bytesP_get hx, nodup_snoc]
  exact ⟨hn, by simpa [bytesP, List.map_take] using h⟩
def shB (l : List B8) : Prop := l.length ≤ 12 ∧ ∀ b ∈ l, b.length ≤ 1100
instance (l : List B8) : Decidable (shB l) := by unfold shB; infer_instance
theorem JR.frzP {P : Program} {N : Nat} {C : Beg} {ops : Array Oper} {Q : Exit → Act → World → Prop} {E : Env} {Γ H G : RL} {T M U : Nat → Bool} {Γ0 H0 : RL} {l : OT} {A : Pcs} {e : TypeId} (hp : Pull (Res.sep (rowsP A e)) H G) (k : JR P N C ops T M U Γ0 H0 l Q E (Res.all (pcRes A) :: Γ) G) : JR P N C ops T M U Γ0 H0 l Q E Γ H := fun hq a w he hs => k hq a w he (St.frzP (hs.perm hp.perm))
theorem JR.allOf {P : Program} {N : Nat} {C : Beg} {ops : Array Oper} {Q : Exit → Act → World → Prop} {E : Env} {Γ H : RL} {T M U : Nat → Bool} {Γ0 H0 : RL} {l : OT} (X Y Z : Pcs) (hx : Res.all (pcRes X) ∈ Γ) (hy : Res.all (pcRes Y) ∈ Γ) (h : ∀ z ∈ Z, z ∈ X ∨ z ∈ Y) (k : JR P N C ops T M U Γ0 H0 l Q E (Res.all (pcRes Z) :: Γ) H) : JR P N C ops T M U Γ0 H0 l Q E Γ H :=
  fun hq a w he hs => k hq a w he (hs.allOf hx hy h)
end Go.Proofs.YthfipbjmpeegbaaGreatDoor

/- What a chase holds: its state in the memory; an entry taken out, put back. No program in sight but types' numbers. -/
namespace Go.Proofs.YthfipbjmpeegbaaGreatDoor
open Go.RowKit
set_option linter.unusedVariables false
set_option linter.unusedSimpArgs false
/-- What there is of a height. -/
structure HC where
  p : Nat
  bm : Nat
  va : Nat
  ta : Nat
  sv : Value
  votes : MM Int D32
  tw : MM Int Bool
  bl : MM D32 (Value × B8)
def hcV (h : HC) : Value := .agg #[ptr h.p 0, .map (some h.bm)]
def hcZ : Value := .agg #[.pointer none, .map none]
abbrev uK : BitVec 64 → Value := fun a => u64 a
def rowE (e : D32 × (Value × B8) × Nat) : Res := Res.row e.2.1.1 e.2.1.2.length 5 1 (e.2.1.2.map u8)
def hcL (S : List W64) (h : HC) : RL := [Res.cells h.p [h.sv, u64 (BitVec.ofNat 64 (sumS S)), .map (some h.va), .map (some h.ta)] 93, Res.row h.sv S.length 30 1 (S.map u64), mpR h.va itK dgV h.votes, mpR h.ta itK blV h.tw, mpR h.bm dgV slV h.bl, Res.sep (h.bl.es.map rowE)]
def hcR (S : List W64) (h : HC) : Res := Res.sep (hcL S h)
abbrev HE := BitVec 64 × HC × Nat
def hsL (S : List W64) (M : MM (BitVec 64) HC) : RL := M.es.map fun e => hcR S e.2.1
section
variable {α β : Type} [DecidableEq α]
/-- An entry, and the others. -/
theorem MM.out {m : MM α β} {k : α} {v : β} (h : m.get k = some v) {γ : Type} (F : β → γ) : ∃ L, (m.es.map fun e => F e.2.1).Perm (F v :: L) ∧ ∀ v', ((m.put k v').es.map fun e => F e.2.1).Perm (F v' :: L) := by
  have hs : (m.get k).isSome := by rw [h]; rfl
  have key : ∀ es : List (α × β × Nat), MM.findL es k = some v → ∃ L, (es.map fun e => F e.2.1).Perm (F v :: L) ∧ ∀ v' c, ((MM.setL es k v' c).map fun e => F e.2.1).Perm (F v' :: L) := by
    intro es
    induction es with
    | nil => intro h; cases h
    | cons e es ih =>
      intro h
      simp only [MM.findL] at h
      by_cases hk : k = e.1
      · rw [if_pos hk] at h
        refine ⟨es.map fun e => F e.2.1, by simp [Option.some.inj h], fun v' c => ?_⟩
        simp [MM.setL, if_pos hk]
      · rw [if_neg hk] at h
        obtain ⟨L, h1, h2⟩ := ih h
        refine ⟨F e.2.1 :: L, ?_, fun v' c => ?_⟩
        · exact (h1.cons _).trans (.swap _ _ _)
        · simp only [MM.setL, if_neg hk, List.map_cons]
          exact ((h2 v' c).cons _).trans (.swap _ _ _)
  obtain ⟨L, h1, h2⟩ := key m.es h
  exact ⟨L, h1, fun v' => h2 v' m.ck⟩
theorem MM.more {m : MM α β} {k : α} (h : m.get k = none) (v : β) {γ : Type} (F : β → γ) : (m.put k v).es.map (fun e => F e.2.1) = (m.es.map fun e => F e.2.1) ++ [F v] := by
  have : (m.put k v).es = m.es ++ [(k, v, m.ck)] := MM.setL_none h
  rw [this, List.map_append]; rfl
/-- A map in which one entry's value looks as_ it did. -/
theorem mp_like {b : Nat} {f : α → Value} {g : β → Value} {m : MM α β} {k : α} {v v' : β} (h : m.get k = some v) (hg : g v' = g v) : mpR b f g (m.put k v') = mpR b f g m := by
  have hck : (m.put k v').ck = m.ck := by simp [MM.put, h]
  have key : ∀ (es : List (α × β × Nat)) c, MM.findL es k = some v → ents f g (MM.setL es k v' c) = ents f g es := by
    intro es c
    induction es with
    | nil => intro h; cases h
    | cons e es ih =>
      intro h
      simp only [MM.findL] at h
      by_cases hk : k = e.1
      · rw [if_pos hk] at h
        simp only [MM.setL, if_pos hk, ents, List.map_cons]
        rw [hg, ← Option.some.inj h, hk]
      · rw [if_neg hk] at h
        have := ih h
        simp only [ents] at this ⊢
        simp only [MM.setL, if_neg hk, List.map_cons, this]
  have he : ents f g (m.put k v').es = ents f g m.es := key m.es m.ck h
  unfold mpR
  rw [he, hck]
end
end Go.Proofs.YthfipbjmpeegbaaGreatDoor

/- What is written is read: the plain side. No program in sight. -/
namespace Go.Proofs.YthfipbjmpeegbaaGreatDoor
open Go.RowKit
namespace Rdr
theorem out_eq {xs ys : B8} {n : Nat} (h : xs.length = n) : (Rdr.mk (xs ++ ys) 0).out n = xs := by
  rw [out_ok (by show ¬ (xs ++ ys).length < n; rw [List.length_append]; omega) rfl]
  show (xs ++ ys).take n = xs
  rw [← h, List.take_left]
theorem aft_eq {xs ys : B8} {n : Nat} (h : xs.length = n) : (Rdr.mk (xs ++ ys) 0).aft n = ⟨ys, 0⟩ := by
  rw [aft_ok (by show ¬ (xs ++ ys).length < n; rw [List.length_append]; omega) rfl]
  show Rdr.mk ((xs ++ ys).drop n) 0 = _
  rw [← h, List.drop_left]
theorem aft_few {xs : B8} {n : Nat} (h : xs.length < n) : ((Rdr.mk xs 0).aft n).e = 3 := by
  have h1 : (Rdr.mk xs 0).chk n = ⟨[], 3⟩ := by rw [chk_lt (by exact h)]; rfl
  rw [aft_bad (by rw [h1]; decide), h1]
theorem out_few {xs : B8} {n : Nat} (h : xs.length < n) : (Rdr.mk xs 0).out n = [] := by
  have h1 : (Rdr.mk xs 0).chk n = ⟨[], 3⟩ := by rw [chk_lt (by exact h)]; rfl
  rw [out_bad (by rw [h1]; decide)]
theorem top_digit (n : BitVec 64) (h : 0 < nsz n) : (digs n (nsz n)).getD 0 0 ≠ 0 := by
  intro h0
  have h1 : (digs n (nsz n)).getD 0 0 = (n >>> (8 * (nsz n - 1 - 0))).setWidth 8 := by simp [digs, List.getD_eq_getElem?_getD, h]
  rw [h1, Nat.sub_zero] at h0
  have h8 := nsz_le n
  have hlt : n.toNat < 2 ^ (8 * nsz n) := Nat.lt_of_lt_of_le (bitlen_lt (n := n.toNat) (Nat.le_refl _)) (Nat.pow_le_pow_right (by decide) (by unfold nsz len64; omega))
  have h2 : n >>> (8 * (nsz n - 1)) = 0 := by
    apply BitVec.eq_of_toNat_eq
    have h3 := congrArg BitVec.toNat h0
    rw [BitVec.toNat_setWidth, BitVec.toNat_ushiftRight, Nat.shiftRight_eq_div_pow] at h3
    have h4 : n.toNat / 2 ^ (8 * (nsz n - 1)) < 2 ^ 8 := by
      rw [Nat.div_lt_iff_lt_mul (Nat.two_pow_pos _), ← Nat.pow_add]
      rw [show 8 + 8 * (nsz n - 1) = 8 * nsz n by omega]
      exact hlt
    rw [Nat.mod_eq_of_lt h4] at h3
    rw [BitVec.toNat_ushiftRight, Nat.shiftRight_eq_div_pow]
    exact h3
  have := nsz_le_of_top h2
  omega
theorem k8_toNat (n : BitVec 64) : (BitVec.ofNat 8 (nsz n)).toNat = nsz n := by
  have := nsz_le n
  rw [BitVec.toNat_ofNat]
  omega
section
variable {n lim : BitVec 64} {ys : B8}
theorem small_1 : (Rdr.mk (smallB n ++ ys) 0).out 1 = [BitVec.ofNat 8 (nsz n)] := out_eq (xs := [BitVec.ofNat 8 (nsz n)]) (ys := digs n (nsz n) ++ ys) rfl
theorem small_2 : (Rdr.mk (smallB n ++ ys) 0).aft 1 = ⟨digs n (nsz n) ++ ys, 0⟩ := aft_eq (xs := [BitVec.ofNat 8 (nsz n)]) (ys := digs n (nsz n) ++ ys) rfl
theorem small_3 : (Rdr.mk (smallB n ++ ys) 0).k8.toNat = nsz n := by
  rw [k8, small_1]
  exact k8_toNat n
theorem small_4 : (Rdr.mk (smallB n ++ ys) 0).smO = digs n (nsz n) := by
  rw [smO, small_3, if_pos (nsz_le n), small_2]
  exact out_eq (digs_length _ _)
theorem small_5 : (Rdr.mk (smallB n ++ ys) 0).smR = ⟨ys, 0⟩ := by
  rw [smR, small_3, if_pos (nsz_le n), small_2]
  exact aft_eq (digs_length _ _)
theorem small_6 (h : n.toNat ≤ lim.toNat) : (Rdr.mk (smallB n ++ ys) 0).smF lim = ⟨ys, 0⟩ := by
  have h8 := nsz_le n
  have hw : (ofBytes (digs n (nsz n))).getD 0 0 = n := word0_digs n
  rw [smF, small_5, small_3, small_4, hw, if_neg (not_not_intro rfl), if_neg (by omega), if_neg (fun h => top_digit n h.1 h.2), if_neg (by omega)]
theorem small_full (h : n.toNat ≤ lim.toNat) : (Rdr.mk (smallB n ++ ys) 0).sm lim = n ∧ (Rdr.mk (smallB n ++ ys) 0).smA lim = ⟨ys, 0⟩ := by
  constructor
  · rw [sm, if_neg (by rw [small_1]; exact Nat.one_ne_zero), small_6 h, if_neg (not_not_intro rfl), small_4]
    exact word0_digs n
  · rw [smA, if_neg (by rw [small_1]; exact Nat.one_ne_zero), small_6 h]
/-- Cut short within a small number. -/
theorem small_cut {m : Nat} (h : m < (smallB n).length) : ((Rdr.mk ((smallB n).take m) 0).smA lim).e = 3 := by
  rw [smallB_length] at h
  cases m with
  | zero =>
    have h1 : (Rdr.mk ([] : B8) 0).out 1 = [] := out_few (by decide)
    rw [List.take_zero, smA, h1]
    exact aft_few (xs := []) (n := 1) (by decide)
  | succ m =>
    have hm : ((digs n (nsz n)).take m).length = m := by rw [List.length_take, digs_length]; omega
    have hc : (smallB n).take (m + 1) = [BitVec.ofNat 8 (nsz n)] ++ (digs n (nsz n)).take m := rfl
    have h1 : (Rdr.mk ((smallB n).take (m + 1)) 0).out 1 = [BitVec.ofNat 8 (nsz n)] := by rw [hc]; exact out_eq rfl
    have h2 : (Rdr.mk ((smallB n).take (m + 1)) 0).aft 1 = ⟨(digs n (nsz n)).take m, 0⟩ := by rw [hc]; exact aft_eq rfl
    have h3 : (Rdr.mk ((smallB n).take (m + 1)) 0).k8.toNat = nsz n := by rw [k8, h1]; exact k8_toNat n
    have h4 : (Rdr.mk ((smallB n).take (m + 1)) 0).smR.e = 3 := by
      rw [smR, h3, if_pos (nsz_le n), h2]
      exact aft_few (by omega)
    rw [smA, if_neg (by rw [h1]; exact Nat.one_ne_zero), smF, if_pos (by rw [h4]; decide)]
    exact h4
end
theorem cnt_full {c : Nat} {m : Int} {ys : B8} (hc : (c : Int) ≤ m) (hm : m ≤ 100000) : (Rdr.mk (smallB (BitVec.ofNat 64 c) ++ ys) 0).cnt m = BitVec.ofNat 64 c ∧ (Rdr.mk (smallB (BitVec.ofNat 64 c) ++ ys) 0).cntA m = ⟨ys, 0⟩ := by
  have h1 : (Rdr.mk (smallB (BitVec.ofNat 64 c) ++ ys) 0).cntR m = Rdr.mk (smallB (BitVec.ofNat 64 c) ++ ys) 0 := if_neg (by omega)
  have h2 : (BitVec.ofNat 64 c).toNat ≤ (BitVec.ofInt 64 m).toNat := by
    obtain ⟨k, rfl⟩ : ∃ k : Nat, m = (k : Int) := ⟨m.toNat, by omega⟩
    rw [BitVec.ofInt_natCast, BitVec.toNat_ofNat, BitVec.toNat_ofNat]
    omega
  rw [cnt, cntA, h1]
  exact small_full h2
theorem cnt_cut {c : Nat} {m : Int} {j : Nat} (hm : 0 ≤ m) (h : j < (smallB (BitVec.ofNat 64 c)).length) : ((Rdr.mk ((smallB (BitVec.ofNat 64 c)).take j) 0).cntA m).e = 3 := by
  have h1 : (Rdr.mk ((smallB (BitVec.ofNat 64 c)).take j) 0).cntR m = Rdr.mk ((smallB (BitVec.ofNat 64 c)).take j) 0 := if_neg (by omega)
  rw [cntA, h1]
  exact small_cut h
theorem toNat_small {c : Nat} (h : c ≤ 100000) : (BitVec.ofNat 64 c).toNat = c := by rw [BitVec.toNat_ofNat]; omega
theorem bytes_full {b ys : B8} (hb : b.length ≤ 1000) : (Rdr.mk (bytesB b ++ ys) 0).byO 1000 = b ∧ (Rdr.mk (bytesB b ++ ys) 0).byA 1000 = ⟨ys, 0⟩ := by
  obtain ⟨h1, h2⟩ := cnt_full (c := b.length) (m := 1000) (ys := b ++ ys) (by omega) (by decide)
  rw [bytesB, List.append_assoc, byO, byA, h1, h2, toNat_small (by omega)]
  exact ⟨out_eq rfl, aft_eq rfl⟩
theorem bytes_cut {b : B8} {j : Nat} (hb : b.length ≤ 1000) (h : j < (bytesB b).length) : ((Rdr.mk ((bytesB b).take j) 0).byA 1000).e = 3 := by
  by_cases hj : j < (smallB (BitVec.ofNat 64 b.length)).length
  · have h1 : (bytesB b).take j = (smallB (BitVec.ofNat 64 b.length)).take j := List.take_append_of_le_length (by omega)
    have h2 := cnt_cut (m := 1000) (by decide) hj
    rw [h1, byA, aft_st (by rw [h2]; decide), h2]
  · have h1 : (bytesB b).take j = smallB (BitVec.ofNat 64 b.length) ++ b.take (j - (smallB (BitVec.ofNat 64 b.length)).length) := by
      rw [bytesB, List.take_append, List.take_of_length_le (by omega)]
    obtain ⟨h2, h3⟩ := cnt_full (c := b.length) (m := 1000) (ys := b.take (j - (smallB (BitVec.ofNat 64 b.length)).length)) (by omega) (by decide)
    rw [bytesB, List.length_append] at h
    rw [h1, byA, h2, h3, toNat_small (by omega)]
    exact aft_few (by rw [List.length_take]; omega)
theorem go_full : ∀ (l : List W4) (acc : List W4) (ys : B8), (∀ ws ∈ l, ws.length = 4) → go l.length acc ⟨flatB l ++ ys, 0⟩ = (acc ++ l, ⟨ys, 0⟩)
  | [], acc, ys, _ => by rw [List.append_nil]; rfl
  | ws :: l, acc, ys, h => by
    have h1 : flatB (ws :: l) ++ ys = natBytes ws ++ (flatB l ++ ys) := by simp [flatB]
    have h2 : (Rdr.mk (natBytes ws ++ (flatB l ++ ys)) 0).aft 32 = ⟨flatB l ++ ys, 0⟩ := aft_eq (natBytes_length ws)
    have h3 : (Rdr.mk (natBytes ws ++ (flatB l ++ ys)) 0).out 32 = natBytes ws := out_eq (natBytes_length ws)
    rw [h1, List.length_cons, go_ok (by rw [h2]), h2, h3, ofBytes_natBytes ws (h ws (.head _)), go_full l _ ys fun x hx => h x (.tail _ hx), List.append_assoc]
    rfl
theorem go_cut : ∀ (n : Nat) (acc : List W4) (b : B8), b.length < 32 * n → (go n acc ⟨b, 0⟩).2.e = 3
  | 0, _, _, h => absurd h (by omega)
  | n + 1, acc, b, h => by
    by_cases hb : b.length < 32
    · have h1 := aft_few hb
      rw [go_bad (by rw [h1]; decide)]
      exact h1
    · have h1 : (Rdr.mk b 0).aft 32 = ⟨b.drop 32, 0⟩ := aft_ok hb rfl
      rw [go_ok (by rw [h1]), h1]
      exact go_cut n _ _ (by rw [List.length_drop]; omega)
theorem nats_full {l : List W4} {ys : B8} (h4 : ∀ ws ∈ l, ws.length = 4) (hl : l.length ≤ 40) : (Rdr.mk (natsB l ++ ys) 0).naO 40 = l ∧ (Rdr.mk (natsB l ++ ys) 0).naA 40 = ⟨ys, 0⟩ := by
  obtain ⟨h1, h2⟩ := cnt_full (c := l.length) (m := 40) (ys := flatB l ++ ys) (by omega) (by decide)
  rw [natsB, List.append_assoc, naO, naA, h1, h2, toNat_small (by omega), go_full l [] ys h4]
  exact ⟨rfl, rfl⟩
theorem nats_cut {l : List W4} {j : Nat} (hl : l.length ≤ 40) (h : j < (natsB l).length) : ((Rdr.mk ((natsB l).take j) 0).naA 40).e = 3 := by
  by_cases hj : j < (smallB (BitVec.ofNat 64 l.length)).length
  · have h1 : (natsB l).take j = (smallB (BitVec.ofNat 64 l.length)).take j := List.take_append_of_le_length (by omega)
    have h2 := cnt_cut (m := 40) (by decide) hj
    have h3 : ((Rdr.mk ((smallB (BitVec.ofNat 64 l.length)).take j) 0).cntA 40).e ≠ 0 := by rw [h2]; decide
    have h4 : ∀ n acc, (go n acc ((Rdr.mk ((smallB (BitVec.ofNat 64 l.length)).take j) 0).cntA 40)).2.e = 3 := by
      intro n acc
      cases n with
      | zero => exact h2
      | succ n =>
        rw [go_bad (by rw [aft_st h3]; exact h3), aft_st h3]
        exact h2
    rw [h1, naA]
    exact h4 _ _
  · have h1 : (natsB l).take j = smallB (BitVec.ofNat 64 l.length) ++ (flatB l).take (j - (smallB (BitVec.ofNat 64 l.length)).length) := by
      rw [natsB, List.take_append, List.take_of_length_le (by omega)]
    obtain ⟨h2, h3⟩ := cnt_full (c := l.length) (m := 40) (ys := (flatB l).take (j - (smallB (BitVec.ofNat 64 l.length)).length)) (by omega) (by decide)
    have h4 := flatB_len l
    rw [natsB, List.length_append] at h
    rw [h1, naA, h2, h3, toNat_small (by omega)]
    exact go_cut _ _ _ (by rw [List.length_take]; omega)
end Rdr

/-- What CodecBack does with one thing that was put. -/
def stepP (r : Rdr) (d : Put) : Rdr := if d.act = 1 then r.smA 18446744073709551615#64 else if d.act = 2 then r.aft 32 else if d.act = 3 then r.byA 1000 else if d.act = 4 then r.naA 40 else r
def fineB (r : Rdr) (d : Put) : Bool :=
  if d.act = 1 then decide (r.sm 18446744073709551615#64 = d.n) else if d.act = 2 then decide (ofBytes (r.out 32) = d.a) else if d.act = 3 then decide (r.byO 1000 = d.b) else if d.act = 4 then decide (r.naO 40 = d.l) else true
theorem le_max (n : BitVec 64) : n.toNat ≤ (18446744073709551615#64).toNat := by have := n.isLt; show n.toNat ≤ 18446744073709551615; omega
theorem step_full {d : Put} {ys : B8} (hok : d.ok) (hb : d.b.length ≤ 1000) (hl : d.l.length ≤ 40) : stepP ⟨d.out ++ ys, 0⟩ d = ⟨ys, 0⟩ ∧ fineB ⟨d.out ++ ys, 0⟩ d = true := by
  unfold stepP fineB Put.out
  by_cases c1 : d.act = 1
  · simp only [if_pos c1]
    obtain ⟨h1, h2⟩ := Rdr.small_full (n := d.n) (ys := ys) (le_max d.n)
    exact ⟨h2, decide_eq_true h1⟩
  · by_cases c2 : d.act = 2
    · simp only [if_neg c1, if_pos c2]
      exact ⟨Rdr.aft_eq (natBytes_length _), decide_eq_true (by rw [Rdr.out_eq (natBytes_length _), ofBytes_natBytes _ hok.1])⟩
    · by_cases c3 : d.act = 3
      · simp only [if_neg c1, if_neg c2, if_pos c3]
        obtain ⟨h1, h2⟩ := Rdr.bytes_full (ys := ys) hb
        exact ⟨h2, decide_eq_true h1⟩
      · by_cases c4 : d.act = 4
        · simp only [if_neg c1, if_neg c2, if_neg c3, if_pos c4]
          obtain ⟨h1, h2⟩ := Rdr.nats_full (ys := ys) hok.2 hl
          exact ⟨h2, decide_eq_true h1⟩
        · simp only [if_neg c1, if_neg c2, if_neg c3, if_neg c4]
          exact ⟨rfl, trivial⟩
theorem step_cut {d : Put} {j : Nat} (hb : d.b.length ≤ 1000) (hl : d.l.length ≤ 40) (h : j < d.out.length) : (stepP ⟨d.out.take j, 0⟩ d).e = 3 := by
  unfold Put.out at h
  unfold stepP Put.out
  by_cases c1 : d.act = 1
  · simp only [if_pos c1] at h ⊢; exact Rdr.small_cut h
  · by_cases c2 : d.act = 2
    · simp only [if_neg c1, if_pos c2] at h ⊢
      rw [natBytes_length] at h
      exact Rdr.aft_few (by rw [List.length_take]; omega)
    · by_cases c3 : d.act = 3
      · simp only [if_neg c1, if_neg c2, if_pos c3] at h ⊢; exact Rdr.bytes_cut hb h
      · by_cases c4 : d.act = 4
        · simp only [if_neg c1, if_neg c2, if_neg c3, if_pos c4] at h ⊢; exact Rdr.nats_cut hl h
        · simp only [if_neg c1, if_neg c2, if_neg c3, if_neg c4] at h; exact absurd h (by simp)
theorem stepP_st {r : Rdr} (h : r.e ≠ 0) (d : Put) : stepP r d = r := by
  unfold stepP
  rw [Rdr.smA_st h, Rdr.aft_st h, Rdr.byA_st h, Rdr.naA_st h]
  simp
/-- Where the reader stands behind k things: n = 0: all of it lies there; n = 1: it was cut short. -/
def Inv (l : List Put) (n k : Nat) (r : Rdr) : Prop :=
  (n = 0 ∧ r = ⟨putOut (l.drop k), 0⟩) ∨ (n = 1 ∧ (r.e = 3 ∨ ∃ m, m < (putOut (l.drop k)).length ∧ r = ⟨(putOut (l.drop k)).take m, 0⟩))
theorem drop_at {l : List Put} {k : Nat} (h : k < l.length) : putOut (l.drop k) = (putAt l k).out ++ putOut (l.drop (k + 1)) := by
  rw [List.drop_eq_getElem_cons h, putAt, List.getD_eq_getElem?_getD, List.getElem?_eq_getElem h]
  rfl
theorem Inv.step {l : List Put} {n k : Nat} {r : Rdr} (hok : ∀ d ∈ l, d.ok) (hsh : short l = true) (hk : k < l.length) (h : Inv l n k r) : Inv l n (k + 1) (stepP r (putAt l k)) ∧ (n = 0 → fineB r (putAt l k) = true) := by
  obtain ⟨hb, hl⟩ := (short_few hsh).2 k hk
  have ho := hok _ (putAt_mem hk)
  have hd := drop_at hk
  rcases h with ⟨hn, rfl⟩ | ⟨hn, h⟩
  · obtain ⟨h1, h2⟩ := step_full (ys := putOut (l.drop (k + 1))) ho hb hl
    rw [hd, h1]
    exact ⟨.inl ⟨hn, rfl⟩, fun _ => h2⟩
  · refine ⟨.inr ⟨hn, ?_⟩, fun h0 => by omega⟩
    rcases h with h | ⟨m, hm, rfl⟩
    · exact .inl (by rw [stepP_st (by rw [h]; decide), h])
    · rw [hd] at hm ⊢
      by_cases hj : m < (putAt l k).out.length
      · rw [List.take_append_of_le_length (by omega)]
        exact .inl (step_cut hb hl hj)
      · rw [List.length_append] at hm
        refine .inr ⟨m - (putAt l k).out.length, by omega, ?_⟩
        rw [List.take_append, List.take_of_length_le (by omega)]
        exact (step_full (ys := (putOut (l.drop (k + 1))).take (m - (putAt l k).out.length)) ho hb hl).1
theorem Inv.fin {l : List Put} {n : Nat} {r : Rdr} (h : Inv l n l.length r) : (n = 0 ∧ r.fin = 0) ∨ (n = 1 ∧ r.fin = 3) := by
  rcases h with ⟨hn, rfl⟩ | ⟨hn, h⟩
  · rw [List.drop_length]
    exact .inl ⟨hn, rfl⟩
  · refine .inr ⟨hn, ?_⟩
    rcases h with h | ⟨m, hm, _⟩
    · rw [Rdr.fin, if_neg (fun h2 => by rw [h] at h2; exact absurd h2.1 (by decide)), h]
    · rw [List.drop_length] at hm
      exact absurd hm (by simp [putOut])
end Go.Proofs.YthfipbjmpeegbaaGreatDoor

/- Blocks, packed and unpacked: the plain side. No program in sight. -/
namespace Go.Proofs.YthfipbjmpeegbaaGreatDoor
open Go.RowKit
set_option linter.unusedVariables false
set_option linter.unusedSimpArgs false
abbrev unfit : PB := fun c => !fitB c
def packB (h : BitVec 64) (l : List B8) : B8 := smallB h ++ smallB (BitVec.ofNat 64 l.length) ++ l.flatMap bytesB
def packE (l : List B8) : Int := if l.length > 10 ∨ hasP unfit l = true then 2 else if twB l = true then 13 else 0
def packO (h : BitVec 64) (l : List B8) : B8 := if packE l = 0 then packB h l else []
theorem flatB_le {l : List B8} (h : ∀ b ∈ l, b.length ≤ 1000) : (l.flatMap bytesB).length ≤ 1009 * l.length := by
  induction l with
  | nil => simp
  | cons b l ih =>
    have h1 := h b (.head _)
    have h2 := ih fun c hc => h c (.tail _ hc)
    have h3 := bytesB_len b
    rw [List.flatMap_cons, List.length_append, List.length_cons]; omega
theorem fit_all {l : List B8} (h : ¬ hasP unfit l = true) : ∀ b ∈ l, 1 ≤ b.length ∧ b.length ≤ 1000 := fun b hb => by
  have : unfit b ≠ true := fun h1 => h (List.any_eq_true.2 ⟨b, hb, h1⟩)
  have h2 : fitB b = true := by simpa using this
  exact of_decide_eq_true h2
theorem packE_0 {l : List B8} : packE l = 0 ↔ l.length ≤ 10 ∧ (∀ b ∈ l, 1 ≤ b.length ∧ b.length ≤ 1000) ∧ l.Nodup := by
  unfold packE
  constructor
  · intro h
    split at h
    · cases h
    · rename_i h1
      split at h
      · cases h
      · rename_i h2
        refine ⟨by omega, fit_all fun h3 => h1 (.inr h3), ?_⟩
        unfold twB at h2
        simpa using h2
  · rintro ⟨h1, h2, h3⟩
    rw [if_neg, if_neg]
    · unfold twB; simp [h3]
    · rintro (h | h)
      · omega
      · obtain ⟨b, hb, h4⟩ := List.any_eq_true.1 h
        have := h2 b hb
        have h5 : fitB b = true := decide_eq_true this
        rw [unfit, h5] at h4
        cases h4
namespace Rdr
def goB : Nat → List B8 → Rdr → List B8 × Rdr
  | 0, acc, r => (acc, r)
  | n + 1, acc, r => goB n (acc ++ [r.byO 1000]) (r.byA 1000)
theorem sm_le (r : Rdr) (lim : BitVec 64) : (r.sm lim).toNat ≤ lim.toNat := by
  unfold sm
  split
  · exact Nat.zero_le _
  · split
    · exact Nat.zero_le _
    · rename_i h
      have h := Decidable.not_not.1 h
      unfold smF at h
      split at h
      · rename_i h1; exact absurd h h1
      · split at h
        · exact absurd h (wrong_ne (by decide))
        · split at h
          · exact absurd h (wrong_ne (by decide))
          · split at h
            · exact absurd h (wrong_ne (by decide))
            · omega
theorem goB_full : ∀ (l acc : List B8) (ys : B8), (∀ b ∈ l, b.length ≤ 1000) → goB l.length acc ⟨l.flatMap bytesB ++ ys, 0⟩ = (acc ++ l, ⟨ys, 0⟩)
  | [], acc, ys, _ => by simp [goB]
  | b :: l, acc, ys, h => by
    rw [List.length_cons, goB, List.flatMap_cons, List.append_assoc]
    obtain ⟨h1, h2⟩ := bytes_full (b := b) (ys := l.flatMap bytesB ++ ys) (h b (.head _))
    rw [h1, h2, goB_full l _ ys fun c hc => h c (.tail _ hc), List.append_assoc]
    rfl
theorem cnt_le (r : Rdr) : (r.cnt 1000).toNat ≤ 1000 := by
  have := sm_le (r.cntR 1000) (BitVec.ofInt 64 1000)
  exact this
theorem byO_le (r : Rdr) : (r.byO 1000).length ≤ 1000 := Nat.le_trans (out_le _ _) (cnt_le r)
theorem goB_len : ∀ (n : Nat) (acc : List B8) (r : Rdr), (goB n acc r).1.length = acc.length + n
  | 0, acc, r => rfl
  | n + 1, acc, r => by rw [goB, goB_len n]; simp; omega
theorem goB_le : ∀ (n : Nat) (acc : List B8) (r : Rdr), (∀ b ∈ acc, b.length ≤ 1000) → ∀ b ∈ (goB n acc r).1, b.length ≤ 1000
  | 0, acc, r, h => h
  | n + 1, acc, r, h => goB_le n _ _ fun b hb => (List.mem_append.1 hb).elim (h b) fun hb => by rw [List.mem_singleton] at hb; subst hb; exact byO_le r
theorem goB_back : ∀ (n : Nat) (acc : List B8) (r : Rdr), (goB n acc r).2.e = 0 → r.e = 0 ∧ acc.flatMap bytesB ++ r.b = (goB n acc r).1.flatMap bytesB ++ (goB n acc r).2.b
  | 0, acc, r, h => ⟨h, rfl⟩
  | n + 1, acc, r, h => by
    rw [goB] at h ⊢
    obtain ⟨h1, h2⟩ := goB_back n _ _ h
    have h3 := back_bytes h1
    have h0 : r.e = 0 := by
      by_cases h0 : r.e = 0
      · exact h0
      · rw [byA_st h0] at h1; exact absurd h1 h0
    refine ⟨h0, ?_⟩
    rw [← h2, h3]
    simp
end Rdr
def mx : BitVec 64 := 18446744073709551615#64
def unR (b : B8) : Rdr := ((Rdr.mk b 0).smA mx).smA 10#64
def unN (b : B8) : Nat := (((Rdr.mk b 0).smA mx).sm 10#64).toNat
def unG (b : B8) : List B8 × Rdr := Rdr.goB (unN b) [] (unR b)
def unE (b : B8) : Int := if (unG b).2.fin = 0 ∧ (twB (unG b).1 = true ∨ hasP (isB []) (unG b).1 = true) then 31 else (unG b).2.fin
def unH (b : B8) : BitVec 64 := if unE b = 0 then (Rdr.mk b 0).sm mx else 0
def unL (b : B8) : List B8 := if unE b = 0 then (unG b).1 else []
theorem unN_le (b : B8) : unN b ≤ 10 := Rdr.sm_le _ 10#64
theorem unG_le (b : B8) : ∀ c ∈ (unG b).1, c.length ≤ 1000 := Rdr.goB_le _ _ _ (fun _ h => by cases h)
theorem unG_len (b : B8) : (unG b).1.length = unN b := by rw [unG, Rdr.goB_len]; simp
theorem un_full {h : BitVec 64} {l : List B8} (hp : packE l = 0) (ys : B8) : (Rdr.mk (packB h l ++ ys) 0).sm mx = h ∧ unG (packB h l ++ ys) = (l, ⟨ys, 0⟩) := by
  obtain ⟨h1, h2, h3⟩ := packE_0.1 hp
  have e : packB h l ++ ys = smallB h ++ (smallB (BitVec.ofNat 64 l.length) ++ (l.flatMap bytesB ++ ys)) := by simp [packB]
  rw [e]
  obtain ⟨e1, e2⟩ := Rdr.small_full (n := h) (lim := mx) (ys := smallB (BitVec.ofNat 64 l.length) ++ (l.flatMap bytesB ++ ys)) (by have := h.isLt; show h.toNat ≤ 18446744073709551615; omega)
  obtain ⟨e3, e4⟩ := Rdr.small_full (n := BitVec.ofNat 64 l.length) (lim := 10#64) (ys := l.flatMap bytesB ++ ys) (by rw [BitVec.toNat_ofNat]; show _ ≤ 10; omega)
  refine ⟨e1, ?_⟩
  have hn : (BitVec.ofNat 64 l.length).toNat = l.length := by rw [BitVec.toNat_ofNat]; omega
  rw [unG, unN, unR, e2, e3, e4, hn]
  have := Rdr.goB_full l [] ys fun b hb => (h2 b hb).2
  simpa using this
theorem un_pack {h : BitVec 64} {l : List B8} (hp : packE l = 0) : unE (packB h l) = 0 ∧ unH (packB h l) = h ∧ unL (packB h l) = l := by
  obtain ⟨h1, h2⟩ := un_full (h := h) hp []
  rw [List.append_nil] at h1 h2
  obtain ⟨p1, p2, p3⟩ := packE_0.1 hp
  have he : unE (packB h l) = 0 := by
    rw [unE, h2, if_neg]
    · rfl
    · rintro ⟨_, h3 | h3⟩
      · unfold twB at h3; simp [p3] at h3
      · rw [has_mem, decide_eq_true_eq] at h3
        have := (p2 _ h3).1
        simp at this
  exact ⟨he, by rw [unH, if_pos he, h1], by rw [unL, if_pos he, h2]⟩
theorem un_back {b : B8} (h : unE b = 0) : packE (unL b) = 0 ∧ packB (unH b) (unL b) = b := by
  have hL : unL b = (unG b).1 := if_pos h
  have hH : unH b = (Rdr.mk b 0).sm mx := if_pos h
  have h2 := h
  unfold unE at h2
  split at h2
  · cases h2
  · rename_i hc
    obtain ⟨f1, f2⟩ := fin_0 h2
    obtain ⟨g1, g2⟩ := Rdr.goB_back _ _ _ f1
    have h3 : (((Rdr.mk b 0).smA mx).smA 10#64).e = 0 := g1
    have h4 := Rdr.back_small h3
    have h5 : ((Rdr.mk b 0).smA mx).e = 0 := by
      by_cases h0 : ((Rdr.mk b 0).smA mx).e = 0
      · exact h0
      · rw [Rdr.smA_st h0] at h3; exact absurd h3 h0
    have h6 := Rdr.back_small h5
    have hl := unG_len b
    have hnn : BitVec.ofNat 64 (unG b).1.length = ((Rdr.mk b 0).smA mx).sm 10#64 := by rw [hl, unN]; simp
    have g3 : (unR b).b = (unG b).1.flatMap bytesB := by
      have : (unG b).2.b = [] := f2
      have g2' : (unR b).b = (unG b).1.flatMap bytesB ++ (unG b).2.b := by simpa [unG] using g2
      rw [g2', this, List.append_nil]
    rw [hL, hH]
    refine ⟨packE_0.2 ⟨by rw [hl]; exact unN_le b, fun c hc2 => ⟨?_, unG_le b c hc2⟩, ?_⟩, ?_⟩
    · rcases Nat.eq_zero_or_pos c.length with h0 | h0
      · obtain rfl := List.length_eq_zero_iff.1 h0
        exact absurd ⟨h2, .inr (by rw [has_mem, decide_eq_true_eq]; exact hc2)⟩ hc
      · exact h0
    · by_cases hn : (unG b).1.Nodup
      · exact hn
      · exact absurd ⟨h2, .inl (by rw [twB, decide_eq_false hn]; rfl)⟩ hc
    · rw [packB, hnn, ← g3]
      have h7 : b = smallB ((Rdr.mk b 0).sm mx) ++ ((Rdr.mk b 0).smA mx).b := h6
      conv => rhs; rw [h7, h4]
      rw [List.append_assoc]
      rfl
theorem packB_len {h : BitVec 64} {l : List B8} (hl : l.length ≤ 12) (hb : ∀ b ∈ l, b.length ≤ 1000) : (packB h l).length ≤ 20000 := by
  have h1 := smallB_le h
  have h2 := smallB_le (BitVec.ofNat 64 l.length)
  have h3 := flatB_le hb
  rw [packB, List.length_append, List.length_append]; omega
theorem packO_len (h : BitVec 64) (l : List B8) : (packO h l).length ≤ 20000 := by
  unfold packO
  split
  · rename_i hp
    obtain ⟨h1, h2, _⟩ := packE_0.1 hp
    exact packB_len (by omega) fun b hb => (h2 b hb).2
  · simp
end Go.Proofs.YthfipbjmpeegbaaGreatDoor

/- Claims: as_ cells, and what they say; the claims of a log. No program in sight. -/
namespace Go.Proofs.YthfipbjmpeegbaaGreatDoor
open Go.RowKit
set_option linter.unusedVariables false
structure CLM where
  h : BitVec 64
  w : Int
  A : Option Addr
  n : Nat
  c : Nat
  b : B8
def CLM.v (x : CLM) : Value := .slice x.A x.n x.c
def clC (x : CLM) : List Value := [u64 x.h, it x.w, x.v]
instance : FS clC 3 := ⟨fun _ => rfl, fun a v hv => by
  simp only [clC, List.mem_cons, List.not_mem_nil, or_false] at hv
  rcases hv with rfl | rfl | rfl <;> rfl⟩
def clD : CLM := ⟨0, 0, none, 0, 0, []⟩
abbrev clAt (l : List CLM) (k : Nat) : CLM := l.getD k clD
/-- The blocks of claims, as_ pieces. -/
def clP (l : List CLM) : Pcs := l.map fun x => (x.v, x.b)
/-- What claims say. -/
def clOf (l : List CLM) : List (BitVec 64 × Int × B8) := l.map fun x => (x.h, x.w, x.b)
def ansK (L : List B8) (w : Int) (fr k : Nat) : List (BitVec 64 × Int × B8) := (List.range k).map fun j => (BitVec.ofNat 64 (fr + j), w, L.getD (fr + j) [])
/-- The claims of a log, from a place on. -/
def ans (L : List B8) (w : Int) (fr : BitVec 64) : List (BitVec 64 × Int × B8) := ansK L w fr.toNat (min 4 (L.length - fr.toNat))
theorem ansK_succ (L : List B8) (w : Int) (fr k : Nat) : ansK L w fr (k + 1) = ansK L w fr k ++ [(BitVec.ofNat 64 (fr + k), w, L.getD (fr + k) [])] := by
  rw [ansK, List.range_succ, List.map_append]; rfl
theorem ansK_len (L : List B8) (w : Int) (fr k : Nat) : (ansK L w fr k).length = k := by simp [ansK]
theorem clOf_snoc (l : List CLM) (x : CLM) : clOf (l ++ [x]) = clOf l ++ [(x.h, x.w, x.b)] := by simp [clOf]
theorem clOf_len (l : List CLM) : (clOf l).length = l.length := by simp [clOf]
theorem snocCl {v : Value} {l : List CLM} {x : CLM} {e : TypeId} : Res.row v (l.length + 1) e 3 (bks clC l ++ clC x) = Res.row v (l ++ [x]).length e 3 (bks clC (l ++ [x])) := by
  simp [bks, List.flatMap_append]
/-- A law's block: of a height, with one thing, if it has some. -/
def blkL (b : B8) : List B8 := if b.length = 0 then [] else [b]
def blockB (h : BitVec 64) (b : B8) : B8 := packO h (blkL b)
end Go.Proofs.YthfipbjmpeegbaaGreatDoor
