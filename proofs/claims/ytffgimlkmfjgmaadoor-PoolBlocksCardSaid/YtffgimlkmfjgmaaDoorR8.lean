/- The document's reader beside the codec's. No program in sight. -/
import Derived.Test.YtffgimlkmfjgmaaDoorP17p
namespace Go.Proofs.YtffgimlkmfjgmaaDoor
open Go.RowKit
set_option linter.unusedVariables false
/-- The document's reader stands where the other one does. -/
structure RdL (B : B8) (at' : Nat) (r : Rdr) : Prop where
  le : at' ≤ B.length
  b : r.e = 0 → B.drop at' = r.b
theorem RdL.begin (B : B8) : RdL B 0 ⟨B, 0⟩ := ⟨Nat.zero_le _, fun _ => rfl⟩
theorem RdL.len {B : B8} {p : Nat} {r : Rdr} (h : RdL B p r) (h0 : r.e = 0) : r.b.length = B.length - p := by rw [← h.b h0, List.length_drop]
theorem RdL.bad {B : B8} {p : Nat} {r : Rdr} (h : p ≤ B.length) (h0 : r.e ≠ 0) : RdL B p r := ⟨h, fun h1 => absurd h1 h0⟩
theorem RdL.wrong {B : B8} {p : Nat} {r : Rdr} (h : RdL B p r) {e : Int} (he : e ≠ 0) : RdL B p (r.wrong e) := .bad h.le (Rdr.wrong_ne he)
theorem wrong_e (r : Rdr) (e : Int) : (r.wrong e).e = if r.e = 0 then e else r.e := by unfold Rdr.wrong; split <;> rfl
theorem RdL.take {B : B8} {p n : Nat} {r : Rdr} (h : RdL B p r) (h0 : r.e = 0) (hn : p + n ≤ B.length) : (r.aft n) = ⟨B.drop (p + n), 0⟩ ∧ r.out n = (B.drop p).take n ∧ RdL B (p + n) (r.aft n) := by
  have hl := h.len h0
  have hb := h.b h0
  have e1 := Rdr.aft_ok (r := r) (n := n) (by omega) h0
  rw [← hb, List.drop_drop] at e1
  refine ⟨e1, by rw [Rdr.out_ok (by omega) h0, hb], ?_⟩
  rw [e1]
  exact ⟨hn, fun _ => rfl⟩
theorem RdL.short {B : B8} {p n : Nat} {r : Rdr} (h : RdL B p r) (h0 : r.e = 0) (hn : B.length < p + n) : (r.aft n).e = 3 ∧ r.out n = [] := by
  have hl := h.len h0
  have hlt : r.b.length < n := by have := h.le; omega
  have e1 : r.chk n = r.wrong 3 := Rdr.chk_lt hlt
  have e2 : (r.chk n).e ≠ 0 := by rw [e1]; exact Rdr.wrong_ne (by decide)
  rw [Rdr.aft_bad e2, Rdr.out_bad e2, e1, wrong_e, if_pos h0]
  exact ⟨rfl, rfl⟩
theorem aft_stuck {r : Rdr} (h : r.e ≠ 0) (n : Nat) : r.aft n = r ∧ r.out n = [] := ⟨Rdr.aft_st h n, by
  refine Rdr.out_bad ?_
  unfold Rdr.chk
  split
  · rw [wrong_e, if_neg h]; exact h
  · exact h⟩
theorem RdL.e1 {B : B8} {p n : Nat} {r : Rdr} (h : RdL B p r) (hn : B.length < p + n) : (if r.e = 0 then (3 : Int) else r.e) = (r.aft n).e := by
  by_cases h0 : r.e = 0
  · rw [if_pos h0, (h.short h0 hn).1]
  · rw [if_neg h0, (aft_stuck h0 n).1]
theorem RdL.e2 {B : B8} {p n : Nat} {r : Rdr} (h : RdL B p r) (hn : p + n ≤ B.length) : r.e = (r.aft n).e := by
  by_cases h0 : r.e = 0
  · rw [h0, (h.take h0 hn).1]
  · rw [(aft_stuck h0 n).1]
theorem word0_nil : word0 [] = 0 := by rfl
theorem word0_snoc (o : B8) (c : BitVec 8) (h : o.length < 8) : word0 (o ++ [c]) = word0 o * 256#64 + c.setWidth 64 := by
  have e : word0 o * 256#64 = word0 o <<< 8 := by
    rw [BitVec.shiftLeft_eq_mul_twoPow]
    rfl
  have hd : (word0 o <<< 8) &&& c.setWidth 64 = 0 := by
    apply BitVec.eq_of_getLsbD_eq
    intro i hi
    rw [BitVec.getLsbD_and, BitVec.getLsbD_shiftLeft, BitVec.getLsbD_setWidth]
    by_cases h8 : i < 8
    · simp [h8]
    · rw [BitVec.getLsbD_of_ge c i (by omega)]; simp
  rw [e, BitVec.add_eq_or_of_and_eq_zero _ _ hd]
  apply BitVec.eq_of_getLsbD_eq
  intro i hi
  rw [word0_bit (o ++ [c]) (by simp; omega) i hi, BitVec.getLsbD_or, BitVec.getLsbD_shiftLeft, BitVec.getLsbD_setWidth]
  have hl : (o ++ [c]).length = o.length + 1 := by simp
  rw [hl]
  by_cases h8 : i < 8
  · have e1 : i / 8 = 0 := by omega
    have e2 : i % 8 = i := by omega
    rw [e1, e2]
    simp [h8, hi, List.getD_eq_getElem?_getD]
  · rw [BitVec.getLsbD_of_ge c i (by omega), word0_bit o (by omega) (i - 8) (by omega)]
    have e1 : (i - 8) / 8 = i / 8 - 1 := by omega
    have e2 : (i - 8) % 8 = i % 8 := by omega
    rw [e1, e2]
    by_cases h9 : i / 8 < o.length + 1
    · have e3 : o.length + 1 - 1 - i / 8 = o.length - 1 - (i / 8 - 1) := by omega
      have e4 : (o ++ [c]).getD (o.length - 1 - (i / 8 - 1)) 0 = o.getD (o.length - 1 - (i / 8 - 1)) 0 := by
        rw [List.getD_eq_getElem?_getD, List.getD_eq_getElem?_getD, List.getElem?_append_left (by omega)]
      rw [e3, e4]
      simp [h8, hi, h9]
      omega
    · simp [h8, hi, h9]
      omega
theorem word0_take {o : B8} {k : Nat} (h : k < o.length) (h8 : o.length ≤ 8) : word0 (o.take (k + 1)) = word0 (o.take k) * 256#64 + (o.getD k 0).setWidth 64 := by
  rw [take_snocB h]
  exact word0_snoc _ _ (by rw [List.length_take]; omega)
/-- How a small number ends, said as the document does. -/
theorem sm_1 {r : Rdr} {lim : BitVec 64} (h : (r.aft 1).e ≠ 0) : r.sm lim = 0 ∧ (r.smA lim).e = (r.aft 1).e ∧ r.smA lim = r.aft 1 := by
  have h0 : (r.out 1).length = 0 := by
    have : (r.chk 1).e ≠ 0 := fun h1 => h (by unfold Rdr.aft; rw [if_pos h1])
    rw [Rdr.out_bad this]; rfl
  unfold Rdr.sm Rdr.smA
  rw [if_pos h0, if_pos h0]
  exact ⟨rfl, rfl, rfl⟩
theorem out1 {r : Rdr} (h : (r.aft 1).e = 0) : r.out 1 = [r.k8] ∧ ¬ (r.out 1).length = 0 := by
  have hl := Rdr.out_len h
  refine ⟨?_, by rw [hl]; decide⟩
  unfold Rdr.k8
  match r.out 1, hl with
  | [x], _ => rfl
theorem sm_2 {r : Rdr} {lim : BitVec 64} (h : (r.aft 1).e = 0) (h8 : r.k8.toNat > 8) : r.sm lim = 0 ∧ r.smA lim = (r.aft 1).wrong 31 := by
  have h0 := (out1 h).2
  have hR : r.smR = r.aft 1 := if_neg (by omega)
  have hF : r.smF lim = (r.aft 1).wrong 31 := by unfold Rdr.smF; rw [hR, if_neg (not_not_intro h), if_pos h8]
  unfold Rdr.sm Rdr.smA
  rw [if_neg h0, if_neg h0, hF, if_pos (Rdr.wrong_ne (by decide))]
  exact ⟨rfl, rfl⟩
theorem sm_r {r : Rdr} (h8 : ¬ r.k8.toNat > 8) : r.smR = (r.aft 1).aft r.k8.toNat ∧ r.smO = (r.aft 1).out r.k8.toNat := ⟨if_pos (by omega), if_pos (by omega)⟩
theorem sm_3 {r : Rdr} {lim : BitVec 64} (h : (r.aft 1).e = 0) (h8 : ¬ r.k8.toNat > 8) (h3 : ((r.aft 1).aft r.k8.toNat).e ≠ 0) : r.sm lim = 0 ∧ r.smA lim = (r.aft 1).aft r.k8.toNat := by
  have h0 := (out1 h).2
  have hF : r.smF lim = (r.aft 1).aft r.k8.toNat := by unfold Rdr.smF; rw [(sm_r h8).1, if_pos h3]
  unfold Rdr.sm Rdr.smA
  rw [if_neg h0, if_neg h0, hF, if_pos h3]
  exact ⟨rfl, rfl⟩
theorem sm_4 {r : Rdr} {lim : BitVec 64} (h : (r.aft 1).e = 0) (h8 : ¬ r.k8.toNat > 8) (h3 : ((r.aft 1).aft r.k8.toNat).e = 0) (hz : 0 < r.smO.length ∧ r.smO.getD 0 0 = 0) : r.sm lim = 0 ∧ r.smA lim = ((r.aft 1).aft r.k8.toNat).wrong 31 := by
  have h0 := (out1 h).2
  have hl : r.smO.length = r.k8.toNat := by rw [(sm_r h8).2]; exact Rdr.out_len h3
  have hF : r.smF lim = ((r.aft 1).aft r.k8.toNat).wrong 31 := by unfold Rdr.smF; rw [(sm_r h8).1, if_neg (not_not_intro h3), if_neg h8, if_pos ⟨hl ▸ hz.1, hz.2⟩]
  unfold Rdr.sm Rdr.smA
  rw [if_neg h0, if_neg h0, hF, if_pos (Rdr.wrong_ne (by decide))]
  exact ⟨rfl, rfl⟩
theorem sm_5 {r : Rdr} {lim : BitVec 64} (h : (r.aft 1).e = 0) (h8 : ¬ r.k8.toNat > 8) (h3 : ((r.aft 1).aft r.k8.toNat).e = 0) (hz : ¬ (0 < r.smO.length ∧ r.smO.getD 0 0 = 0)) (hl2 : (word0 r.smO).toNat > lim.toNat) : r.sm lim = 0 ∧ r.smA lim = ((r.aft 1).aft r.k8.toNat).wrong 2 := by
  have h0 := (out1 h).2
  have hl : r.smO.length = r.k8.toNat := by rw [(sm_r h8).2]; exact Rdr.out_len h3
  have hF : r.smF lim = ((r.aft 1).aft r.k8.toNat).wrong 2 := by unfold Rdr.smF; rw [(sm_r h8).1, if_neg (not_not_intro h3), if_neg h8, if_neg (fun h9 => hz ⟨hl.symm ▸ h9.1, h9.2⟩)]; exact if_pos hl2
  unfold Rdr.sm Rdr.smA
  rw [if_neg h0, if_neg h0, hF, if_pos (Rdr.wrong_ne (by decide))]
  exact ⟨rfl, rfl⟩
theorem sm_6 {r : Rdr} {lim : BitVec 64} (h : (r.aft 1).e = 0) (h8 : ¬ r.k8.toNat > 8) (h3 : ((r.aft 1).aft r.k8.toNat).e = 0) (hz : ¬ (0 < r.smO.length ∧ r.smO.getD 0 0 = 0)) (hl2 : ¬ (word0 r.smO).toNat > lim.toNat) : r.sm lim = word0 r.smO ∧ r.smA lim = (r.aft 1).aft r.k8.toNat := by
  have h0 := (out1 h).2
  have hl : r.smO.length = r.k8.toNat := by rw [(sm_r h8).2]; exact Rdr.out_len h3
  have hF : r.smF lim = (r.aft 1).aft r.k8.toNat := by unfold Rdr.smF; rw [(sm_r h8).1, if_neg (not_not_intro h3), if_neg h8, if_neg (fun h9 => hz ⟨hl.symm ▸ h9.1, h9.2⟩)]; exact if_neg hl2
  unfold Rdr.sm Rdr.smA
  rw [if_neg h0, if_neg h0, hF, if_neg (not_not_intro h3)]
  exact ⟨rfl, rfl⟩
theorem rd_mid8 {v : Value} {B : B8} {po n : Nat} (h : po + n ≤ B.length) : Res.rd v (po + n - po) 1 (((B.map u8).drop (po * 1)).take ((po + n - po) * 1)) = Res.rd v ((B.drop po).take n).length 1 (((B.drop po).take n).map u8) := by
  rw [Nat.add_sub_cancel_left, Nat.mul_one, Nat.mul_one, List.map_take, List.map_drop, List.length_take, List.length_drop, Nat.min_eq_left (by omega)]
theorem fin_of {B : B8} {p : Nat} {r : Rdr} (h : RdL B p r) : r.fin = if r.e = 0 ∧ p < B.length then 30 else r.e := by
  unfold Rdr.fin
  by_cases h0 : r.e = 0
  · have := h.len h0
    by_cases h1 : p < B.length
    · rw [if_pos ⟨h0, by omega⟩, if_pos ⟨h0, h1⟩]
    · rw [if_neg (fun h2 => h1 (by omega)), if_neg (fun h2 => h1 h2.2)]
  · rw [if_neg (fun h2 => h0 h2.1), if_neg (fun h2 => h0 h2.1)]
end Go.Proofs.YtffgimlkmfjgmaaDoor
