/- Numbers, their bytes and bits; what is read is written so alone: the plain side. No program in sight. -/
import Derived.Test.YtffgimlkmfjgmaaDoorC8s
namespace Go.Proofs.YtffgimlkmfjgmaaDoor
open Go.RowKit

/-- Bit p of a number, of its words. -/
def bitOf (ws : W4) (p : Nat) : Bool := (ws.getD (p / 64) 0).getLsbD (p % 64)
theorem bitOf_ext {a b : W4} (ha : a.length = 4) (hb : b.length = 4) (h : ∀ p, p < 256 → bitOf a p = bitOf b p) : a = b := by
  refine eq_of_getD (d := 0) (by omega) fun j hj => ?_
  apply BitVec.eq_of_getLsbD_eq
  intro i hi
  have := h (64 * j + i) (by omega)
  unfold bitOf at this
  rwa [show (64 * j + i) / 64 = j by omega, show (64 * j + i) % 64 = i by omega] at this
theorem bitOf_byteOf (ws : W4) (k i : Nat) (hi : i < 8) : (byteOf ws k).getLsbD i = bitOf ws (8 * k + i) := by
  unfold byteOf bitOf
  rw [BitVec.getLsbD_setWidth, BitVec.getLsbD_ushiftRight, show (8 * k + i) / 64 = k / 8 by omega, show (8 * k + i) % 64 = 8 * (k % 8) + i by omega]
  simp [hi]
theorem getD_set (ws : W4) (j k : Nat) (v : BitVec 64) (hj : j < ws.length) : (ws.set j v).getD k 0 = if j = k then v else ws.getD k 0 := by
  rw [List.getD_eq_getElem?_getD, List.getElem?_set, List.getD_eq_getElem?_getD, if_pos hj]
  split <;> rfl
theorem bitOf_put (ws : W4) (k p : Nat) (c : BitVec 8) (h4 : ws.length = 4) (hk : k < 32) : bitOf (putByte ws k c) p = (bitOf ws p || (decide (p / 8 = k) && c.getLsbD (p % 8))) := by
  unfold bitOf putByte
  rw [getD_set _ _ _ _ (by omega)]
  by_cases h : k / 8 = p / 64
  · rw [if_pos h, BitVec.getLsbD_or, BitVec.getLsbD_shiftLeft, BitVec.getLsbD_setWidth, h]
    congr 1
    by_cases h2 : p / 8 = k
    · have h5 : ¬ p % 64 < 8 * (k % 8) := by omega
      have h3 : p % 64 - 8 * (k % 8) = p % 8 := by omega
      simp only [h2, h5, h3, decide_true, decide_false, Bool.not_false, Bool.true_and, Bool.and_true]
      have h6 : p % 64 < 64 := by omega
      have h7 : p % 8 < 64 := by omega
      simp [h6, h7]
    · rw [decide_eq_false h2, Bool.false_and]
      by_cases h3 : p % 64 < 8 * (k % 8)
      · simp [h3]
      · have : 8 ≤ p % 64 - 8 * (k % 8) := by omega
        simp [BitVec.getLsbD_of_ge c _ this]
  · rw [if_neg h]
    have h2 : ¬ p / 8 = k := by omega
    simp [h2]
theorem bitOf_upto (b : B8) (hb : b.length ≤ 32) (p : Nat) : ∀ m, m ≤ b.length → bitOf (ofUpto b m) p = (decide (p / 8 < b.length ∧ b.length - 1 - p / 8 < m) && (b.getD (b.length - 1 - p / 8) 0).getLsbD (p % 8))
  | 0, _ => by
    have : ∀ q, bitOf [0, 0, 0, 0] q = false := fun q => by
      unfold bitOf
      match h : q / 64 with
      | 0 => simp
      | 1 => simp
      | 2 => simp
      | 3 => simp
      | n + 4 => simp
    rw [show ofUpto b 0 = [0, 0, 0, 0] from rfl, this]
    simp
  | m + 1, hm => by
    rw [ofUpto_succ, bitOf_put _ _ _ _ (ofUpto_length b m) (by omega), bitOf_upto b hb p m (by omega)]
    by_cases h : p / 8 = b.length - 1 - m
    · have h1 : b.length - 1 - p / 8 = m := by omega
      rw [h1, decide_eq_true h, decide_eq_false (show ¬ (p / 8 < b.length ∧ m < m) by omega), decide_eq_true (show p / 8 < b.length ∧ m < m + 1 by omega)]
      simp
    · rw [decide_eq_false h, Bool.false_and, Bool.or_false]
      congr 1
      exact decide_eq_decide.2 ⟨fun h1 => by omega, fun h1 => by omega⟩
theorem bitOf_ofBytes (b : B8) (hb : b.length ≤ 32) (p : Nat) : bitOf (ofBytes b) p = (decide (p / 8 < b.length) && (b.getD (b.length - 1 - p / 8) 0).getLsbD (p % 8)) := by
  rw [ofBytes, bitOf_upto b hb p _ (Nat.le_refl _)]
  congr 1
  exact decide_eq_decide.2 ⟨fun h1 => h1.1, fun h1 => ⟨h1, by omega⟩⟩
theorem byteOf_ofBytes (b : B8) (hb : b.length ≤ 32) (k : Nat) : byteOf (ofBytes b) k = if k < b.length then b.getD (b.length - 1 - k) 0 else 0 := by
  apply BitVec.eq_of_getLsbD_eq
  intro i hi
  rw [bitOf_byteOf _ _ _ hi, bitOf_ofBytes b hb, show (8 * k + i) / 8 = k by omega, show (8 * k + i) % 8 = i by omega]
  split
  · rename_i h; simp [h]
  · rename_i h; simp [h]
theorem natBytes_ofBytes (o : B8) (h : o.length = 32) : natBytes (ofBytes o) = o := by
  refine eq_of_getD (d := 0) (by simp [h]) fun j hj => ?_
  rw [natBytes_length] at hj
  have h1 : (natBytes (ofBytes o)).getD j 0 = byteOf (ofBytes o) (31 - j) := by simp [natBytes, List.getD_eq_getElem?_getD, hj]
  rw [h1, byteOf_ofBytes o (by omega), if_pos (by omega), h]
  congr 1
  omega
theorem ofBytes_natBytes (ws : W4) (h : ws.length = 4) : ofBytes (natBytes ws) = ws := by
  refine bitOf_ext (ofBytes_length _) h fun p hp => ?_
  rw [bitOf_ofBytes _ (by simp), natBytes_length, decide_eq_true (show p / 8 < 32 by omega), Bool.true_and]
  have h1 : (natBytes ws).getD (32 - 1 - p / 8) 0 = byteOf ws (p / 8) := by
    have : 32 - 1 - p / 8 < 32 := by omega
    rw [List.getD_eq_getElem?_getD]
    simp only [natBytes, List.getElem?_map, List.getElem?_range this, Option.map_some, Option.getD_some]
    congr 1
    omega
  rw [h1, bitOf_byteOf _ _ _ (by omega)]
  congr 1
  omega

/-! ### Short ones: in one word -/
def word0 (o : B8) : BitVec 64 := (ofBytes o).getD 0 0
theorem word0_bit (o : B8) (h : o.length ≤ 8) (i : Nat) (hi : i < 64) : (word0 o).getLsbD i = (decide (i / 8 < o.length) && (o.getD (o.length - 1 - i / 8) 0).getLsbD (i % 8)) := by
  have h1 := bitOf_ofBytes o (by omega) i
  unfold bitOf at h1
  rw [show i / 64 = 0 by omega, show i % 64 = i by omega] at h1
  exact h1
theorem digs_word0 (o : B8) (h : o.length ≤ 8) : digs (word0 o) o.length = o := by
  refine eq_of_getD (d := 0) (by simp) fun j hj => ?_
  rw [digs_length] at hj
  have h1 : (digs (word0 o) o.length).getD j 0 = (word0 o >>> (8 * (o.length - 1 - j))).setWidth 8 := by simp [digs, List.getD_eq_getElem?_getD, hj]
  rw [h1]
  apply BitVec.eq_of_getLsbD_eq
  intro i hi
  rw [BitVec.getLsbD_setWidth, BitVec.getLsbD_ushiftRight, word0_bit o h _ (by omega), show (8 * (o.length - 1 - j) + i) / 8 = o.length - 1 - j by omega, show (8 * (o.length - 1 - j) + i) % 8 = i by omega,
    show o.length - 1 - (o.length - 1 - j) = j by omega, decide_eq_true (show o.length - 1 - j < o.length by omega)]
  simp [hi]
theorem word0_top (o : B8) (h : o.length ≤ 8) : word0 o >>> (8 * o.length) = 0 := by
  apply BitVec.eq_of_getLsbD_eq
  intro i hi
  rw [BitVec.getLsbD_ushiftRight]
  by_cases h1 : 8 * o.length + i < 64
  · rw [word0_bit o h _ h1, decide_eq_false (by omega)]
    simp
  · rw [BitVec.getLsbD_of_ge _ _ (by omega)]
    simp
theorem nsz_word0 (o : B8) (h : o.length ≤ 8) (h0 : ¬ (0 < o.length ∧ o.getD 0 0 = 0)) : nsz (word0 o) = o.length := by
  refine nsz_of (word0_top o h) ?_
  rcases Nat.eq_zero_or_pos o.length with hz | hz
  · exact .inl hz
  · refine .inr fun he => h0 ⟨hz, ?_⟩
    have h1 := digs_word0 o h
    have h2 : (digs (word0 o) o.length).getD 0 0 = (word0 o >>> (8 * (o.length - 1 - 0))).setWidth 8 := by simp [digs, List.getD_eq_getElem?_getD, hz]
    rw [Nat.sub_zero, he, h1] at h2
    rw [h2]
    rfl
theorem smallB_word0 (o : B8) (h : o.length ≤ 8) (h0 : ¬ (0 < o.length ∧ o.getD 0 0 = 0)) : smallB (word0 o) = BitVec.ofNat 8 o.length :: o := by
  rw [smallB, nsz_word0 o h h0, digs_word0 o h]
theorem nsz_le_of_top {n : BitVec 64} {k : Nat} (h : n >>> (8 * k) = 0) : nsz n ≤ k := by
  have h2 : n.toNat / 2 ^ (8 * k) = 0 := by
    have := congrArg BitVec.toNat h
    rw [BitVec.toNat_ushiftRight, Nat.shiftRight_eq_div_pow] at this
    exact this
  have h3 : n.toNat < 2 ^ (8 * k) := by
    rcases Nat.div_eq_zero_iff.1 h2 with h | h
    · have : 0 < 2 ^ (8 * k) := Nat.two_pow_pos _; omega
    · exact h
  have h4 := bitlen_le h3
  unfold nsz len64
  omega
theorem word0_digs (n : BitVec 64) : word0 (digs n (nsz n)) = n := by
  have hl : (digs n (nsz n)).length = nsz n := digs_length n _
  have h8 : (digs n (nsz n)).length ≤ 8 := by rw [hl]; exact nsz_le n
  have h1 := digs_word0 _ h8
  have h2 := nsz_le_of_top (word0_top _ h8)
  rw [hl] at h1 h2
  exact digs_inj h1 h2 (Nat.le_refl _)

/-! ### What is read is written so alone -/
namespace Rdr
theorem aft_split {r : Rdr} {n : Nat} (h : (r.aft n).e = 0) : r.b = r.out n ++ (r.aft n).b := by
  obtain ⟨h1, h2⟩ := chk_ok (aft_e h)
  rw [out_ok h1 h2, aft_ok h1 h2]
  exact (List.take_append_drop _ _).symm
theorem back_small {r : Rdr} {lim : BitVec 64} (h : (r.smA lim).e = 0) : r.b = smallB (r.sm lim) ++ (r.smA lim).b := by
  have h0 : ¬ (r.out 1).length = 0 := fun h0 => by
    rw [smA, if_pos h0] at h
    rw [out_len h] at h0
    cases h0
  rw [smA, if_neg h0] at h
  have hs : r.smF lim = r.smR ∧ r.smR.e = 0 ∧ ¬ r.k8.toNat > 8 ∧ ¬ (0 < r.k8.toNat ∧ r.smO.getD 0 0 = 0) := by
    unfold smF at h ⊢
    by_cases c1 : r.smR.e ≠ 0
    · rw [if_pos c1] at h; exact absurd h c1
    · rw [if_neg c1] at h ⊢
      by_cases c2 : r.k8.toNat > 8
      · rw [if_pos c2] at h; exact absurd h (wrong_ne (by decide))
      · rw [if_neg c2] at h ⊢
        by_cases c3 : 0 < r.k8.toNat ∧ r.smO.getD 0 0 = 0
        · rw [if_pos c3] at h; exact absurd h (wrong_ne (by decide))
        · rw [if_neg c3] at h ⊢
          by_cases c4 : ((ofBytes r.smO).getD 0 0).toNat > lim.toNat
          · rw [if_pos c4] at h; exact absurd h (wrong_ne (by decide))
          · rw [if_neg c4]
            exact ⟨rfl, Decidable.not_not.1 c1, c2, c3⟩
  obtain ⟨hF, hR, h8, hz⟩ := hs
  have hl := smO_len hR h8
  have hm : r.sm lim = word0 r.smO := by rw [sm, if_neg h0, hF, if_neg (not_not_intro hR)]; rfl
  rw [smA, if_neg h0, hF, hm, smallB_word0 r.smO (by omega) (by rw [hl]; exact hz)]
  have hk : r.k8.toNat ≤ 8 := by omega
  have hR2 : r.smR = (r.aft 1).aft r.k8.toNat := if_pos hk
  have hO2 : r.smO = (r.aft 1).out r.k8.toNat := if_pos hk
  rw [hR2] at hR
  have hA : (r.aft 1).e = 0 := (chk_ok (aft_e hR)).2
  have e1 := aft_split hA
  have e2 := aft_split hR
  rw [e2, ← hO2, ← hR2] at e1
  have h1 : r.out 1 = [r.k8] := by
    have := out_len hA
    unfold k8
    match r.out 1, this with
    | [x], _ => rfl
  rw [h1] at e1
  rw [e1, hl]
  simp
theorem cnt_of {r : Rdr} {m : Int} (h : (r.cntA m).e = 0) : r.b = smallB (r.cnt m) ++ (r.cntA m).b := by
  have h1 := back_small (r := r.cntR m) (lim := BitVec.ofInt 64 m) h
  have h2 : r.cntR m = r := by
    unfold cntR
    split
    · rename_i h3
      have hne : (r.wrong 2).e ≠ 0 := wrong_ne (by decide)
      have h4 : r.cntR m = r.wrong 2 := if_pos h3
      rw [cntA, h4, smA_st hne] at h
      exact absurd h hne
    · rfl
  rw [h2] at h1
  exact (by rw [cnt, cntA, h2]; exact h1)
theorem cntA_ok {r : Rdr} {m : Int} {n : Nat} (h : ((r.cntA m).aft n).e = 0) : (r.cntA m).e = 0 := (chk_ok (aft_e h)).2
theorem ofNat_toNat (n : BitVec 64) : BitVec.ofNat 64 n.toNat = n := by simp
theorem back_bytes {r : Rdr} {m : Int} (h : (r.byA m).e = 0) : r.b = bytesB (r.byO m) ++ (r.byA m).b := by
  have h0 : (r.cntA m).e = 0 := (chk_ok (aft_e h)).2
  have e1 := cnt_of h0
  have e2 := aft_split h
  have hl : (r.byO m).length = (r.cnt m).toNat := out_len h
  rw [e2] at e1
  rw [bytesB, hl, ofNat_toNat, e1, List.append_assoc]
  rfl
theorem go_spec : ∀ (n : Nat) (acc : List W4) (r : Rdr), (go n acc r).2.e = 0 → r.e = 0 ∧ flatB acc ++ r.b = flatB (go n acc r).1 ++ (go n acc r).2.b ∧ (go n acc r).1.length = acc.length + n
  | 0, acc, r, h => ⟨h, rfl, rfl⟩
  | n + 1, acc, r, h => by
    by_cases hc : (r.aft 32).e = 0
    · rw [go_ok hc] at h ⊢
      obtain ⟨h1, h2, h3⟩ := go_spec n _ _ h
      refine ⟨(chk_ok (aft_e hc)).2, ?_, by rw [h3, List.length_append]; simp; omega⟩
      rw [← h2, aft_split hc]
      have hl := out_len hc
      simp only [flatB, List.flatMap_append, List.flatMap_cons, List.flatMap_nil, List.append_nil, natBytes_ofBytes _ hl, List.append_assoc]
    · rw [go_bad hc] at h
      exact absurd h hc
theorem back_nats {r : Rdr} {m : Int} (h : (r.naA m).e = 0) : r.b = natsB (r.naO m) ++ (r.naA m).b := by
  obtain ⟨h1, h2, h3⟩ := go_spec _ _ _ h
  have e1 := cnt_of h1
  have hl : (r.naO m).length = (r.cnt m).toNat := by rw [naO, h3]; simp
  rw [natsB, hl, ofNat_toNat, e1, List.append_assoc]
  congr 1
end Rdr

/-! ### CodecAgain -/
theorem Rdr.go_len : ∀ (n : Nat) (acc : List W4) (r : Rdr), 32 * (Rdr.go n acc r).1.length ≤ 32 * acc.length + r.b.length
  | 0, _, _ => Nat.le_add_right _ _
  | n + 1, acc, r => by
    by_cases hc : (r.aft 32).e = 0
    · rw [Rdr.go_ok hc]
      have h1 := Rdr.go_len n (acc ++ [ofBytes (r.out 32)]) (r.aft 32)
      have h2 := Rdr.aft_len hc
      simp only [List.length_append, List.length_cons, List.length_nil] at h1
      omega
    · rw [Rdr.go_bad hc]
      exact Nat.zero_le _
theorem Rdr.naO_b (r : Rdr) (m : Int) : 32 * (r.naO m).length ≤ r.b.length := by
  have h1 := Rdr.go_len (r.cnt m).toNat [] (r.cntA m)
  have h2 := Rdr.cntA_b r m
  unfold Rdr.naO
  simp only [List.length_nil] at h1
  omega
theorem Rdr.go_4 : ∀ (n : Nat) (acc : List W4) (r : Rdr), (∀ ws ∈ acc, ws.length = 4) → ∀ ws ∈ (Rdr.go n acc r).1, ws.length = 4
  | 0, _, _, h => h
  | n + 1, acc, r, h => by
    by_cases hc : (r.aft 32).e = 0
    · rw [Rdr.go_ok hc]
      exact Rdr.go_4 n _ _ (ofBytes4 _ _ h)
    · rw [Rdr.go_bad hc]
      exact fun _ h => by cases h
theorem Rdr.naO_4 (r : Rdr) (m : Int) : ∀ ws ∈ r.naO m, ws.length = 4 := Rdr.go_4 _ _ _ (fun _ h => by cases h)
def wrB (r : Rdr) (a : Ask) : B8 := if a.act = 1 then smallB (r.sm a.lim) else if a.act = 2 then natBytes (ofBytes (r.out 32)) else if a.act = 3 then bytesB (r.byO a.most) else if a.act = 4 then natsB (r.naO a.most) else []
theorem bytesB_len (b : B8) : (bytesB b).length ≤ b.length + 9 := by
  have := smallB_le (BitVec.ofNat 64 b.length)
  rw [bytesB, List.length_append]
  omega
theorem natsB_len (l : List W4) : (natsB l).length ≤ l.length * 32 + 9 := by
  have := smallB_le (BitVec.ofNat 64 l.length)
  rw [natsB, List.length_append, flatB_len]
  omega
theorem wrB_len (r : Rdr) (a : Ask) : (wrB r a).length ≤ r.b.length + 50 := by
  unfold wrB
  split
  · have := smallB_le (r.sm a.lim); omega
  · split
    · rw [natBytes_length]; omega
    · split
      · have := bytesB_len (r.byO a.most); have := Rdr.byO_b r a.most; omega
      · split
        · have := natsB_len (r.naO a.most); have := Rdr.naO_b r a.most; omega
        · exact Nat.zero_le _
theorem again_step {r : Rdr} {a : Ask} (h : (stepR r a).e = 0) : r.e = 0 ∧ r.b = wrB r a ++ (stepR r a).b := by
  have h0 : r.e = 0 := by
    by_cases h0 : r.e = 0
    · exact h0
    · rw [stepR_st h0] at h; exact absurd h h0
  refine ⟨h0, ?_⟩
  unfold wrB
  unfold stepR at h ⊢
  by_cases c1 : a.act = 1
  · simp only [if_pos c1] at h ⊢; exact Rdr.back_small h
  · by_cases c2 : a.act = 2
    · simp only [if_neg c1, if_pos c2] at h ⊢
      rw [natBytes_ofBytes _ (Rdr.out_len h)]
      exact Rdr.aft_split h
    · by_cases c3 : a.act = 3
      · simp only [if_neg c1, if_neg c2, if_pos c3] at h ⊢; exact Rdr.back_bytes h
      · by_cases c4 : a.act = 4
        · simp only [if_neg c1, if_neg c2, if_neg c3, if_pos c4] at h ⊢; exact Rdr.back_nats h
        · simp only [if_neg c1, if_neg c2, if_neg c3, if_neg c4]; rfl
theorem fin_0 {r : Rdr} (h : r.fin = 0) : r.e = 0 ∧ r.b = [] := by
  unfold Rdr.fin at h
  split at h
  · cases h
  · rename_i h1
    refine ⟨h, ?_⟩
    have : ¬ 0 < r.b.length := fun h2 => h1 ⟨h, h2⟩
    exact List.length_eq_zero_iff.1 (by omega)

/-! ### What is put -/
structure Put where
  act : Int
  n : BitVec 64
  a : W4
  bv : Value
  b : B8
  lv : Value
  l : List W4
namespace Put
def cells (d : Put) : List Value := [it d.act, u64 d.n] ++ d.a.map u64 ++ [d.bv, d.lv]
def ok (d : Put) : Prop := d.a.length = 4 ∧ ∀ ws ∈ d.l, ws.length = 4
def res (d : Put) : RL := [Res.rd d.bv d.b.length 1 (d.b.map u8), Res.rd d.lv d.l.length 4 (natCells d.l)]
def few (d : Put) : Bool := decide (d.b.length ≤ 1000) && decide (d.l.length ≤ 40)
def out (d : Put) : B8 := if d.act = 1 then smallB d.n else if d.act = 2 then natBytes d.a else if d.act = 3 then bytesB d.b else if d.act = 4 then natsB d.l else []
end Put
def putCells (l : List Put) : List Value := l.flatMap Put.cells
def putRes (l : List Put) : RL := l.flatMap Put.res
def putAt (l : List Put) (k : Nat) : Put := l.getD k ⟨0, 0, [0, 0, 0, 0], .slice none 0 0, [], .slice none 0 0, []⟩
def putOut (l : List Put) : B8 := l.flatMap Put.out
def short (l : List Put) : Bool := decide (l.length ≤ 20) && l.all Put.few
theorem putAt_mem {l : List Put} {k : Nat} (h : k < l.length) : putAt l k ∈ l := by
  unfold putAt
  rw [List.getD_eq_getElem?_getD, List.getElem?_eq_getElem h]
  exact List.getElem_mem h
theorem Put.cells_len {d : Put} (h : d.ok) : d.cells.length = 8 := by simp [Put.cells, h.1]
theorem put_get : ∀ {l : List Put} {k i : Nat}, (∀ d ∈ l, d.ok) → k < l.length → i < 8 → (putCells l)[k * 8 + i]? = (Put.cells (putAt l k))[i]?
  | [], _, _, _, hk, _ => absurd hk (by simp)
  | a :: l, 0, i, h, _, hi => by
    have h8 := Put.cells_len (h a (.head _))
    rw [putCells, List.flatMap_cons, Nat.zero_mul, Nat.zero_add, List.getElem?_append_left (by omega)]
    rfl
  | a :: l, k + 1, i, h, hk, hi => by
    have h8 := Put.cells_len (h a (.head _))
    rw [putCells, List.flatMap_cons, List.getElem?_append_right (by omega), show (k + 1) * 8 + i - (Put.cells a).length = k * 8 + i by omega]
    exact put_get (l := l) (fun d hd => h d (.tail _ hd)) (by simpa using hk) hi
section
variable {l : List Put} {k : Nat} (h : ∀ d ∈ l, d.ok) (hk : k < l.length)
include h hk
theorem put_0 : (putCells l)[k * 8 + 0]? = some (it (putAt l k).act) := put_get h hk (by decide)
theorem put_1 : (putCells l)[k * 8 + 1]? = some (u64 (putAt l k).n) := put_get h hk (by decide)
theorem put_6 : (putCells l)[k * 8 + 6]? = some (putAt l k).bv := by
  have h4 := (h _ (putAt_mem hk)).1
  rw [put_get h hk (by decide), Put.cells, List.getElem?_append_right (by simp [h4])]
  simp [h4]
theorem put_7 : (putCells l)[k * 8 + 7]? = some (putAt l k).lv := by
  have h4 := (h _ (putAt_mem hk)).1
  rw [put_get h hk (by decide), Put.cells, List.getElem?_append_right (by simp [h4])]
  simp [h4]
theorem put_2 : ((putCells l).drop (k * 8 + 2)).take 4 = (putAt l k).a.map u64 := by
  have h4 := (h _ (putAt_mem hk)).1
  apply List.ext_getElem?
  intro i
  by_cases hi : i < 4
  · rw [List.getElem?_take_of_lt hi, List.getElem?_drop, Nat.add_assoc, put_get h hk (by omega), Put.cells, List.getElem?_append_left (by simp [h4]; omega), List.getElem?_append_right (by simp)]
    simp
  · rw [List.getElem?_eq_none (by simp; omega), List.getElem?_eq_none (by simp [h4]; omega)]
omit h in
theorem put_rb : Res.rd (putAt l k).bv (putAt l k).b.length 1 ((putAt l k).b.map u8) ∈ putRes l := List.mem_flatMap.2 ⟨_, putAt_mem hk, .head _⟩
omit h in
theorem put_rl : Res.rd (putAt l k).lv (putAt l k).l.length 4 (natCells (putAt l k).l) ∈ putRes l := List.mem_flatMap.2 ⟨_, putAt_mem hk, .tail _ (.head _)⟩
end
theorem putCells_len : ∀ {l : List Put}, (∀ d ∈ l, d.ok) → (putCells l).length = l.length * 8
  | [], _ => rfl
  | d :: l, h => by
    have h1 := putCells_len (l := l) fun x hx => h x (.tail _ hx)
    have h2 := Put.cells_len (h d (.head _))
    rw [putCells, List.flatMap_cons, List.length_append, List.length_cons, ← putCells, h1, h2]
    omega
theorem take_snoc {l : List Put} {k : Nat} (h : k < l.length) : l.take (k + 1) = l.take k ++ [putAt l k] := by
  rw [List.take_add_one, List.getElem?_eq_getElem h, putAt, List.getD_eq_getElem?_getD, List.getElem?_eq_getElem h]
  rfl
theorem few_bad {l : List Put} {k : Nat} (h : k < l.length) (hf : (putAt l k).few = false) : short l = false := by
  unfold short
  rw [Bool.and_eq_false_iff]
  refine .inr ?_
  rw [List.all_eq_false]
  exact ⟨_, putAt_mem h, by rw [hf]; decide⟩
theorem few_step {l : List Put} {k : Nat} (h : k < l.length) (h1 : (l.take k).all Put.few = true) (h2 : (putAt l k).few = true) : (l.take (k + 1)).all Put.few = true := by
  rw [take_snoc h, List.all_append, h1]
  simp [h2]
theorem putOut_snoc {l : List Put} {k : Nat} (h : k < l.length) : putOut (l.take (k + 1)) = putOut (l.take k) ++ (putAt l k).out := by
  rw [take_snoc h]
  simp [putOut]
theorem short_few {l : List Put} (h : short l = true) : l.length ≤ 20 ∧ ∀ k, k < l.length → (putAt l k).b.length ≤ 1000 ∧ (putAt l k).l.length ≤ 40 := by
  unfold short at h
  rw [Bool.and_eq_true, decide_eq_true_eq, List.all_eq_true] at h
  refine ⟨h.1, fun k hk => ?_⟩
  have := h.2 _ (putAt_mem hk)
  unfold Put.few at this
  simpa using this
theorem Put.out_len {d : Put} (hb : d.b.length ≤ 1000) (hl : d.l.length ≤ 40) : d.out.length ≤ 1300 := by
  unfold Put.out
  split
  · have := smallB_le d.n; omega
  · split
    · rw [natBytes_length]; omega
    · split
      · have := bytesB_len d.b; omega
      · split
        · have := natsB_len d.l; omega
        · exact Nat.zero_le _
theorem putOut_len {l : List Put} (h : short l = true) : ∀ k, k ≤ l.length → (putOut (l.take k)).length ≤ 1300 * k
  | 0, _ => Nat.le_refl _
  | k + 1, hk => by
    have h1 := putOut_len h k (by omega)
    obtain ⟨h2, h3⟩ := (short_few h).2 k (by omega)
    have h4 := Put.out_len h2 h3
    rw [putOut_snoc (by omega), List.length_append]
    omega
end Go.Proofs.YtffgimlkmfjgmaaDoor
