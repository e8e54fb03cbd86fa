/- What is written is read: the plain side. No program in sight. -/
import Derived.Test.YtffgimlkmfjgmaaDoorD8s
namespace Go.Proofs.YtffgimlkmfjgmaaDoor
open Go.RowKit
namespace Rdr
theorem out_eq {xs ys : B8} {n : Nat} (h : xs.length = n) : (Rdr.mk (xs ++ ys) 0).out n = xs := by
  rw [out_ok (by show ¬ (xs ++ ys).length < n; rw [List.length_append]; omega) rfl]
  show (xs ++ ys).take n = xs
  rw [← h, List.take_left]
theorem aft_eq {xs ys : B8} {n : Nat} (h : xs.length = n) : (Rdr.mk (xs ++ ys) 0).aft n = ⟨ys, 0⟩ := by
  rw [aft_ok (by show ¬ (xs ++ ys).length < n; rw [List.length_append]; omega) rfl]
  show Rdr.mk ((xs ++ ys).drop n) 0 = _
  rw [← h, List.drop_left]
theorem aft_few {xs : B8} {n : Nat} (h : xs.length < n) : ((Rdr.mk xs 0).aft n).e = 3 := by
  have h1 : (Rdr.mk xs 0).chk n = ⟨[], 3⟩ := by rw [chk_lt (by exact h)]; rfl
  rw [aft_bad (by rw [h1]; decide), h1]
theorem out_few {xs : B8} {n : Nat} (h : xs.length < n) : (Rdr.mk xs 0).out n = [] := by
  have h1 : (Rdr.mk xs 0).chk n = ⟨[], 3⟩ := by rw [chk_lt (by exact h)]; rfl
  rw [out_bad (by rw [h1]; decide)]
theorem top_digit (n : BitVec 64) (h : 0 < nsz n) : (digs n (nsz n)).getD 0 0 ≠ 0 := by
  intro h0
  have h1 : (digs n (nsz n)).getD 0 0 = (n >>> (8 * (nsz n - 1 - 0))).setWidth 8 := by simp [digs, List.getD_eq_getElem?_getD, h]
  rw [h1, Nat.sub_zero] at h0
  have h8 := nsz_le n
  have hlt : n.toNat < 2 ^ (8 * nsz n) := Nat.lt_of_lt_of_le (bitlen_lt (n := n.toNat) (Nat.le_refl _)) (Nat.pow_le_pow_right (by decide) (by unfold nsz len64; omega))
  have h2 : n >>> (8 * (nsz n - 1)) = 0 := by
    apply BitVec.eq_of_toNat_eq
    have h3 := congrArg BitVec.toNat h0
    rw [BitVec.toNat_setWidth, BitVec.toNat_ushiftRight, Nat.shiftRight_eq_div_pow] at h3
    have h4 : n.toNat / 2 ^ (8 * (nsz n - 1)) < 2 ^ 8 := by
      rw [Nat.div_lt_iff_lt_mul (Nat.two_pow_pos _), ← Nat.pow_add]
      rw [show 8 + 8 * (nsz n - 1) = 8 * nsz n by omega]
      exact hlt
    rw [Nat.mod_eq_of_lt h4] at h3
    rw [BitVec.toNat_ushiftRight, Nat.shiftRight_eq_div_pow]
    exact h3
  have := nsz_le_of_top h2
  omega
theorem k8_toNat (n : BitVec 64) : (BitVec.ofNat 8 (nsz n)).toNat = nsz n := by
  have := nsz_le n
  rw [BitVec.toNat_ofNat]
  omega
section
variable {n lim : BitVec 64} {ys : B8}
theorem small_1 : (Rdr.mk (smallB n ++ ys) 0).out 1 = [BitVec.ofNat 8 (nsz n)] := out_eq (xs := [BitVec.ofNat 8 (nsz n)]) (ys := digs n (nsz n) ++ ys) rfl
theorem small_2 : (Rdr.mk (smallB n ++ ys) 0).aft 1 = ⟨digs n (nsz n) ++ ys, 0⟩ := aft_eq (xs := [BitVec.ofNat 8 (nsz n)]) (ys := digs n (nsz n) ++ ys) rfl
theorem small_3 : (Rdr.mk (smallB n ++ ys) 0).k8.toNat = nsz n := by
  rw [k8, small_1]
  exact k8_toNat n
theorem small_4 : (Rdr.mk (smallB n ++ ys) 0).smO = digs n (nsz n) := by
  rw [smO, small_3, if_pos (nsz_le n), small_2]
  exact out_eq (digs_length _ _)
theorem small_5 : (Rdr.mk (smallB n ++ ys) 0).smR = ⟨ys, 0⟩ := by
  rw [smR, small_3, if_pos (nsz_le n), small_2]
  exact aft_eq (digs_length _ _)
theorem small_6 (h : n.toNat ≤ lim.toNat) : (Rdr.mk (smallB n ++ ys) 0).smF lim = ⟨ys, 0⟩ := by
  have h8 := nsz_le n
  have hw : (ofBytes (digs n (nsz n))).getD 0 0 = n := word0_digs n
  rw [smF, small_5, small_3, small_4, hw, if_neg (not_not_intro rfl), if_neg (by omega), if_neg (fun h => top_digit n h.1 h.2), if_neg (by omega)]
theorem small_full (h : n.toNat ≤ lim.toNat) : (Rdr.mk (smallB n ++ ys) 0).sm lim = n ∧ (Rdr.mk (smallB n ++ ys) 0).smA lim = ⟨ys, 0⟩ := by
  constructor
  · rw [sm, if_neg (by rw [small_1]; exact Nat.one_ne_zero), small_6 h, if_neg (not_not_intro rfl), small_4]
    exact word0_digs n
  · rw [smA, if_neg (by rw [small_1]; exact Nat.one_ne_zero), small_6 h]
/-- Cut short within a small number. -/
theorem small_cut {m : Nat} (h : m < (smallB n).length) : ((Rdr.mk ((smallB n).take m) 0).smA lim).e = 3 := by
  rw [smallB_length] at h
  cases m with
  | zero =>
    have h1 : (Rdr.mk ([] : B8) 0).out 1 = [] := out_few (by decide)
    rw [List.take_zero, smA, h1]
    exact aft_few (xs := []) (n := 1) (by decide)
  | succ m =>
    have hm : ((digs n (nsz n)).take m).length = m := by rw [List.length_take, digs_length]; omega
    have hc : (smallB n).take (m + 1) = [BitVec.ofNat 8 (nsz n)] ++ (digs n (nsz n)).take m := rfl
    have h1 : (Rdr.mk ((smallB n).take (m + 1)) 0).out 1 = [BitVec.ofNat 8 (nsz n)] := by rw [hc]; exact out_eq rfl
    have h2 : (Rdr.mk ((smallB n).take (m + 1)) 0).aft 1 = ⟨(digs n (nsz n)).take m, 0⟩ := by rw [hc]; exact aft_eq rfl
    have h3 : (Rdr.mk ((smallB n).take (m + 1)) 0).k8.toNat = nsz n := by rw [k8, h1]; exact k8_toNat n
    have h4 : (Rdr.mk ((smallB n).take (m + 1)) 0).smR.e = 3 := by
      rw [smR, h3, if_pos (nsz_le n), h2]
      exact aft_few (by omega)
    rw [smA, if_neg (by rw [h1]; exact Nat.one_ne_zero), smF, if_pos (by rw [h4]; decide)]
    exact h4
end
theorem cnt_full {c : Nat} {m : Int} {ys : B8} (hc : (c : Int) ≤ m) (hm : m ≤ 100000) : (Rdr.mk (smallB (BitVec.ofNat 64 c) ++ ys) 0).cnt m = BitVec.ofNat 64 c ∧ (Rdr.mk (smallB (BitVec.ofNat 64 c) ++ ys) 0).cntA m = ⟨ys, 0⟩ := by
  have h1 : (Rdr.mk (smallB (BitVec.ofNat 64 c) ++ ys) 0).cntR m = Rdr.mk (smallB (BitVec.ofNat 64 c) ++ ys) 0 := if_neg (by omega)
  have h2 : (BitVec.ofNat 64 c).toNat ≤ (BitVec.ofInt 64 m).toNat := by
    obtain ⟨k, rfl⟩ : ∃ k : Nat, m = (k : Int) := ⟨m.toNat, by omega⟩
    rw [BitVec.ofInt_natCast, BitVec.toNat_ofNat, BitVec.toNat_ofNat]
    omega
  rw [cnt, cntA, h1]
  exact small_full h2
theorem cnt_cut {c : Nat} {m : Int} {j : Nat} (hm : 0 ≤ m) (h : j < (smallB (BitVec.ofNat 64 c)).length) : ((Rdr.mk ((smallB (BitVec.ofNat 64 c)).take j) 0).cntA m).e = 3 := by
  have h1 : (Rdr.mk ((smallB (BitVec.ofNat 64 c)).take j) 0).cntR m = Rdr.mk ((smallB (BitVec.ofNat 64 c)).take j) 0 := if_neg (by omega)
  rw [cntA, h1]
  exact small_cut h
theorem toNat_small {c : Nat} (h : c ≤ 100000) : (BitVec.ofNat 64 c).toNat = c := by rw [BitVec.toNat_ofNat]; omega
theorem bytes_full {b ys : B8} (hb : b.length ≤ 1000) : (Rdr.mk (bytesB b ++ ys) 0).byO 1000 = b ∧ (Rdr.mk (bytesB b ++ ys) 0).byA 1000 = ⟨ys, 0⟩ := by
  obtain ⟨h1, h2⟩ := cnt_full (c := b.length) (m := 1000) (ys := b ++ ys) (by omega) (by decide)
  rw [bytesB, List.append_assoc, byO, byA, h1, h2, toNat_small (by omega)]
  exact ⟨out_eq rfl, aft_eq rfl⟩
theorem bytes_cut {b : B8} {j : Nat} (hb : b.length ≤ 1000) (h : j < (bytesB b).length) : ((Rdr.mk ((bytesB b).take j) 0).byA 1000).e = 3 := by
  by_cases hj : j < (smallB (BitVec.ofNat 64 b.length)).length
  · have h1 : (bytesB b).take j = (smallB (BitVec.ofNat 64 b.length)).take j := List.take_append_of_le_length (by omega)
    have h2 := cnt_cut (m := 1000) (by decide) hj
    rw [h1, byA, aft_st (by rw [h2]; decide), h2]
  · have h1 : (bytesB b).take j = smallB (BitVec.ofNat 64 b.length) ++ b.take (j - (smallB (BitVec.ofNat 64 b.length)).length) := by
      rw [bytesB, List.take_append, List.take_of_length_le (by omega)]
    obtain ⟨h2, h3⟩ := cnt_full (c := b.length) (m := 1000) (ys := b.take (j - (smallB (BitVec.ofNat 64 b.length)).length)) (by omega) (by decide)
    rw [bytesB, List.length_append] at h
    rw [h1, byA, h2, h3, toNat_small (by omega)]
    exact aft_few (by rw [List.length_take]; omega)
theorem go_full : ∀ (l : List W4) (acc : List W4) (ys : B8), (∀ ws ∈ l, ws.length = 4) → go l.length acc ⟨flatB l ++ ys, 0⟩ = (acc ++ l, ⟨ys, 0⟩)
  | [], acc, ys, _ => by rw [List.append_nil]; rfl
  | ws :: l, acc, ys, h => by
    have h1 : flatB (ws :: l) ++ ys = natBytes ws ++ (flatB l ++ ys) := by simp [flatB]
    have h2 : (Rdr.mk (natBytes ws ++ (flatB l ++ ys)) 0).aft 32 = ⟨flatB l ++ ys, 0⟩ := aft_eq (natBytes_length ws)
    have h3 : (Rdr.mk (natBytes ws ++ (flatB l ++ ys)) 0).out 32 = natBytes ws := out_eq (natBytes_length ws)
    rw [h1, List.length_cons, go_ok (by rw [h2]), h2, h3, ofBytes_natBytes ws (h ws (.head _)), go_full l _ ys fun x hx => h x (.tail _ hx), List.append_assoc]
    rfl
theorem go_cut : ∀ (n : Nat) (acc : List W4) (b : B8), b.length < 32 * n → (go n acc ⟨b, 0⟩).2.e = 3
  | 0, _, _, h => absurd h (by omega)
  | n + 1, acc, b, h => by
    by_cases hb : b.length < 32
    · have h1 := aft_few hb
      rw [go_bad (by rw [h1]; decide)]
      exact h1
    · have h1 : (Rdr.mk b 0).aft 32 = ⟨b.drop 32, 0⟩ := aft_ok hb rfl
      rw [go_ok (by rw [h1]), h1]
      exact go_cut n _ _ (by rw [List.length_drop]; omega)
theorem nats_full {l : List W4} {ys : B8} (h4 : ∀ ws ∈ l, ws.length = 4) (hl : l.length ≤ 40) : (Rdr.mk (natsB l ++ ys) 0).naO 40 = l ∧ (Rdr.mk (natsB l ++ ys) 0).naA 40 = ⟨ys, 0⟩ := by
  obtain ⟨h1, h2⟩ := cnt_full (c := l.length) (m := 40) (ys := flatB l ++ ys) (by omega) (by decide)
  rw [natsB, List.append_assoc, naO, naA, h1, h2, toNat_small (by omega), go_full l [] ys h4]
  exact ⟨rfl, rfl⟩
theorem nats_cut {l : List W4} {j : Nat} (hl : l.length ≤ 40) (h : j < (natsB l).length) : ((Rdr.mk ((natsB l).take j) 0).naA 40).e = 3 := by
  by_cases hj : j < (smallB (BitVec.ofNat 64 l.length)).length
  · have h1 : (natsB l).take j = (smallB (BitVec.ofNat 64 l.length)).take j := List.take_append_of_le_length (by omega)
    have h2 := cnt_cut (m := 40) (by decide) hj
    have h3 : ((Rdr.mk ((smallB (BitVec.ofNat 64 l.length)).take j) 0).cntA 40).e ≠ 0 := by rw [h2]; decide
    have h4 : ∀ n acc, (go n acc ((Rdr.mk ((smallB (BitVec.ofNat 64 l.length)).take j) 0).cntA 40)).2.e = 3 := by
      intro n acc
      cases n with
      | zero => exact h2
      | succ n =>
        rw [go_bad (by rw [aft_st h3]; exact h3), aft_st h3]
        exact h2
    rw [h1, naA]
    exact h4 _ _
  · have h1 : (natsB l).take j = smallB (BitVec.ofNat 64 l.length) ++ (flatB l).take (j - (smallB (BitVec.ofNat 64 l.length)).length) := by
      rw [natsB, List.take_append, List.take_of_length_le (by omega)]
    obtain ⟨h2, h3⟩ := cnt_full (c := l.length) (m := 40) (ys := (flatB l).take (j - (smallB (BitVec.ofNat 64 l.length)).length)) (by omega) (by decide)
    have h4 := flatB_len l
    rw [natsB, List.length_append] at h
    rw [h1, naA, h2, h3, toNat_small (by omega)]
    exact go_cut _ _ _ (by rw [List.length_take]; omega)
end Rdr

/-- What CodecBack does with one thing that was put. -/
def stepP (r : Rdr) (d : Put) : Rdr := if d.act = 1 then r.smA 18446744073709551615#64 else if d.act = 2 then r.aft 32 else if d.act = 3 then r.byA 1000 else if d.act = 4 then r.naA 40 else r
def fineB (r : Rdr) (d : Put) : Bool :=
  if d.act = 1 then decide (r.sm 18446744073709551615#64 = d.n) else if d.act = 2 then decide (ofBytes (r.out 32) = d.a) else if d.act = 3 then decide (r.byO 1000 = d.b) else if d.act = 4 then decide (r.naO 40 = d.l) else true
theorem le_max (n : BitVec 64) : n.toNat ≤ (18446744073709551615#64).toNat := by have := n.isLt; show n.toNat ≤ 18446744073709551615; omega
theorem step_full {d : Put} {ys : B8} (hok : d.ok) (hb : d.b.length ≤ 1000) (hl : d.l.length ≤ 40) : stepP ⟨d.out ++ ys, 0⟩ d = ⟨ys, 0⟩ ∧ fineB ⟨d.out ++ ys, 0⟩ d = true := by
  unfold stepP fineB Put.out
  by_cases c1 : d.act = 1
  · simp only [if_pos c1]
    obtain ⟨h1, h2⟩ := Rdr.small_full (n := d.n) (ys := ys) (le_max d.n)
    exact ⟨h2, decide_eq_true h1⟩
  · by_cases c2 : d.act = 2
    · simp only [if_neg c1, if_pos c2]
      exact ⟨Rdr.aft_eq (natBytes_length _), decide_eq_true (by rw [Rdr.out_eq (natBytes_length _), ofBytes_natBytes _ hok.1])⟩
    · by_cases c3 : d.act = 3
      · simp only [if_neg c1, if_neg c2, if_pos c3]
        obtain ⟨h1, h2⟩ := Rdr.bytes_full (ys := ys) hb
        exact ⟨h2, decide_eq_true h1⟩
      · by_cases c4 : d.act = 4
        · simp only [if_neg c1, if_neg c2, if_neg c3, if_pos c4]
          obtain ⟨h1, h2⟩ := Rdr.nats_full (ys := ys) hok.2 hl
          exact ⟨h2, decide_eq_true h1⟩
        · simp only [if_neg c1, if_neg c2, if_neg c3, if_neg c4]
          exact ⟨rfl, trivial⟩
theorem step_cut {d : Put} {j : Nat} (hb : d.b.length ≤ 1000) (hl : d.l.length ≤ 40) (h : j < d.out.length) : (stepP ⟨d.out.take j, 0⟩ d).e = 3 := by
  unfold Put.out at h
  unfold stepP Put.out
  by_cases c1 : d.act = 1
  · simp only [if_pos c1] at h ⊢; exact Rdr.small_cut h
  · by_cases c2 : d.act = 2
    · simp only [if_neg c1, if_pos c2] at h ⊢
      rw [natBytes_length] at h
      exact Rdr.aft_few (by rw [List.length_take]; omega)
    · by_cases c3 : d.act = 3
      · simp only [if_neg c1, if_neg c2, if_pos c3] at h ⊢; exact Rdr.bytes_cut hb h
      · by_cases c4 : d.act = 4
        · simp only [if_neg c1, if_neg c2, if_neg c3, if_pos c4] at h ⊢; exact Rdr.nats_cut hl h
        · simp only [if_neg c1, if_neg c2, if_neg c3, if_neg c4] at h; exact absurd h (by simp)
theorem stepP_st {r : Rdr} (h : r.e ≠ 0) (d : Put) : stepP r d = r := by
  unfold stepP
  rw [Rdr.smA_st h, Rdr.aft_st h, Rdr.byA_st h, Rdr.naA_st h]
  simp
/-- Where the reader stands behind k things: n = 0: all of it lies there; n = 1: it was cut short. -/
def Inv (l : List Put) (n k : Nat) (r : Rdr) : Prop :=
  (n = 0 ∧ r = ⟨putOut (l.drop k), 0⟩) ∨ (n = 1 ∧ (r.e = 3 ∨ ∃ m, m < (putOut (l.drop k)).length ∧ r = ⟨(putOut (l.drop k)).take m, 0⟩))
theorem drop_at {l : List Put} {k : Nat} (h : k < l.length) : putOut (l.drop k) = (putAt l k).out ++ putOut (l.drop (k + 1)) := by
  rw [List.drop_eq_getElem_cons h, putAt, List.getD_eq_getElem?_getD, List.getElem?_eq_getElem h]
  rfl
theorem Inv.step {l : List Put} {n k : Nat} {r : Rdr} (hok : ∀ d ∈ l, d.ok) (hsh : short l = true) (hk : k < l.length) (h : Inv l n k r) : Inv l n (k + 1) (stepP r (putAt l k)) ∧ (n = 0 → fineB r (putAt l k) = true) := by
  obtain ⟨hb, hl⟩ := (short_few hsh).2 k hk
  have ho := hok _ (putAt_mem hk)
  have hd := drop_at hk
  rcases h with ⟨hn, rfl⟩ | ⟨hn, h⟩
  · obtain ⟨h1, h2⟩ := step_full (ys := putOut (l.drop (k + 1))) ho hb hl
    rw [hd, h1]
    exact ⟨.inl ⟨hn, rfl⟩, fun _ => h2⟩
  · refine ⟨.inr ⟨hn, ?_⟩, fun h0 => by omega⟩
    rcases h with h | ⟨m, hm, rfl⟩
    · exact .inl (by rw [stepP_st (by rw [h]; decide), h])
    · rw [hd] at hm ⊢
      by_cases hj : m < (putAt l k).out.length
      · rw [List.take_append_of_le_length (by omega)]
        exact .inl (step_cut hb hl hj)
      · rw [List.length_append] at hm
        refine .inr ⟨m - (putAt l k).out.length, by omega, ?_⟩
        rw [List.take_append, List.take_of_length_le (by omega)]
        exact (step_full (ys := (putOut (l.drop (k + 1))).take (m - (putAt l k).out.length)) ho hb hl).1
theorem Inv.fin {l : List Put} {n : Nat} {r : Rdr} (h : Inv l n l.length r) : (n = 0 ∧ r.fin = 0) ∨ (n = 1 ∧ r.fin = 3) := by
  rcases h with ⟨hn, rfl⟩ | ⟨hn, h⟩
  · rw [List.drop_length]
    exact .inl ⟨hn, rfl⟩
  · refine .inr ⟨hn, ?_⟩
    rcases h with h | ⟨m, hm, _⟩
    · rw [Rdr.fin, if_neg (fun h2 => by rw [h] at h2; exact absurd h2.1 (by decide)), h]
    · rw [List.drop_length] at hm
      exact absurd hm (by simp [putOut])
theorem stepP_b (r : Rdr) (d : Put) : (stepP r d).b.length ≤ r.b.length := by
  unfold stepP
  split
  · exact Rdr.smA_b _ _
  · split
    · exact Rdr.aft_b _ _
    · split
      · exact Rdr.byA_b _ _
      · split
        · exact Rdr.naA_b _ _
        · exact Nat.le_refl _
end Go.Proofs.YtffgimlkmfjgmaaDoor
