/- Blocks, packed and unpacked: the plain side. No program in sight. -/
import Derived.Test.YtffgimlkmfjgmaaDoorP17
import Derived.Test.YtffgimlkmfjgmaaDoorE8s
namespace Go.Proofs.YtffgimlkmfjgmaaDoor
open Go.RowKit
set_option linter.unusedVariables false
set_option linter.unusedSimpArgs false
abbrev unfit : PB := fun c => !fitB c
def packB (h : BitVec 64) (l : List B8) : B8 := smallB h ++ smallB (BitVec.ofNat 64 l.length) ++ l.flatMap bytesB
def packE (l : List B8) : Int := if l.length > 10 ∨ hasP unfit l = true then 2 else if twB l = true then 13 else 0
def packO (h : BitVec 64) (l : List B8) : B8 := if packE l = 0 then packB h l else []
theorem flatB_le {l : List B8} (h : ∀ b ∈ l, b.length ≤ 1000) : (l.flatMap bytesB).length ≤ 1009 * l.length := by
  induction l with
  | nil => simp
  | cons b l ih =>
    have h1 := h b (.head _)
    have h2 := ih fun c hc => h c (.tail _ hc)
    have h3 := bytesB_len b
    rw [List.flatMap_cons, List.length_append, List.length_cons]; omega
theorem fit_all {l : List B8} (h : ¬ hasP unfit l = true) : ∀ b ∈ l, 1 ≤ b.length ∧ b.length ≤ 1000 := fun b hb => by
  have : unfit b ≠ true := fun h1 => h (List.any_eq_true.2 ⟨b, hb, h1⟩)
  have h2 : fitB b = true := by simpa using this
  exact of_decide_eq_true h2
theorem packE_0 {l : List B8} : packE l = 0 ↔ l.length ≤ 10 ∧ (∀ b ∈ l, 1 ≤ b.length ∧ b.length ≤ 1000) ∧ l.Nodup := by
  unfold packE
  constructor
  · intro h
    split at h
    · cases h
    · rename_i h1
      split at h
      · cases h
      · rename_i h2
        refine ⟨by omega, fit_all fun h3 => h1 (.inr h3), ?_⟩
        unfold twB at h2
        simpa using h2
  · rintro ⟨h1, h2, h3⟩
    rw [if_neg, if_neg]
    · unfold twB; simp [h3]
    · rintro (h | h)
      · omega
      · obtain ⟨b, hb, h4⟩ := List.any_eq_true.1 h
        have := h2 b hb
        have h5 : fitB b = true := decide_eq_true this
        rw [unfit, h5] at h4
        cases h4
namespace Rdr
def goB : Nat → List B8 → Rdr → List B8 × Rdr
  | 0, acc, r => (acc, r)
  | n + 1, acc, r => goB n (acc ++ [r.byO 1000]) (r.byA 1000)
theorem sm_le (r : Rdr) (lim : BitVec 64) : (r.sm lim).toNat ≤ lim.toNat := by
  unfold sm
  split
  · exact Nat.zero_le _
  · split
    · exact Nat.zero_le _
    · rename_i h
      have h := Decidable.not_not.1 h
      unfold smF at h
      split at h
      · rename_i h1; exact absurd h h1
      · split at h
        · exact absurd h (wrong_ne (by decide))
        · split at h
          · exact absurd h (wrong_ne (by decide))
          · split at h
            · exact absurd h (wrong_ne (by decide))
            · omega
theorem goB_st {r : Rdr} (h : r.e ≠ 0) : ∀ (n : Nat) (acc : List B8), (goB n acc r).2 = r
  | 0, _ => rfl
  | n + 1, acc => by rw [goB, byA_st h]; exact goB_st h n _
theorem goB_full : ∀ (l acc : List B8) (ys : B8), (∀ b ∈ l, b.length ≤ 1000) → goB l.length acc ⟨l.flatMap bytesB ++ ys, 0⟩ = (acc ++ l, ⟨ys, 0⟩)
  | [], acc, ys, _ => by simp [goB]
  | b :: l, acc, ys, h => by
    rw [List.length_cons, goB, List.flatMap_cons, List.append_assoc]
    obtain ⟨h1, h2⟩ := bytes_full (b := b) (ys := l.flatMap bytesB ++ ys) (h b (.head _))
    rw [h1, h2, goB_full l _ ys fun c hc => h c (.tail _ hc), List.append_assoc]
    rfl
theorem goB_cut : ∀ (l acc : List B8) (j : Nat), (∀ b ∈ l, b.length ≤ 1000) → j < (l.flatMap bytesB).length → (goB l.length acc ⟨(l.flatMap bytesB).take j, 0⟩).2.e = 3
  | [], acc, j, _, h => by simp at h
  | b :: l, acc, j, hb, h => by
    rw [List.length_cons, goB, List.flatMap_cons]
    by_cases hj : j < (bytesB b).length
    · rw [List.take_append_of_le_length (by omega)]
      have h1 := bytes_cut (hb b (.head _)) hj
      rw [goB_st (by rw [h1]; decide), h1]
    · rw [List.take_append, List.take_of_length_le (by omega)]
      obtain ⟨h1, h2⟩ := bytes_full (b := b) (ys := (l.flatMap bytesB).take (j - (bytesB b).length)) (hb b (.head _))
      rw [h2]
      rw [List.flatMap_cons, List.length_append] at h
      exact goB_cut l _ _ (fun c hc => hb c (.tail _ hc)) (by omega)
theorem cnt_le (r : Rdr) : (r.cnt 1000).toNat ≤ 1000 := by
  have := sm_le (r.cntR 1000) (BitVec.ofInt 64 1000)
  exact this
theorem byO_le (r : Rdr) : (r.byO 1000).length ≤ 1000 := Nat.le_trans (out_le _ _) (cnt_le r)
theorem goB_len : ∀ (n : Nat) (acc : List B8) (r : Rdr), (goB n acc r).1.length = acc.length + n
  | 0, acc, r => rfl
  | n + 1, acc, r => by rw [goB, goB_len n]; simp; omega
theorem goB_le : ∀ (n : Nat) (acc : List B8) (r : Rdr), (∀ b ∈ acc, b.length ≤ 1000) → ∀ b ∈ (goB n acc r).1, b.length ≤ 1000
  | 0, acc, r, h => h
  | n + 1, acc, r, h => goB_le n _ _ fun b hb => (List.mem_append.1 hb).elim (h b) fun hb => by rw [List.mem_singleton] at hb; subst hb; exact byO_le r
theorem goB_b : ∀ (n : Nat) (acc : List B8) (r : Rdr), (goB n acc r).2.b.length ≤ r.b.length
  | 0, acc, r => Nat.le_refl _
  | n + 1, acc, r => Nat.le_trans (goB_b n _ _) (byA_b r 1000)
theorem goB_back : ∀ (n : Nat) (acc : List B8) (r : Rdr), (goB n acc r).2.e = 0 → r.e = 0 ∧ acc.flatMap bytesB ++ r.b = (goB n acc r).1.flatMap bytesB ++ (goB n acc r).2.b
  | 0, acc, r, h => ⟨h, rfl⟩
  | n + 1, acc, r, h => by
    rw [goB] at h ⊢
    obtain ⟨h1, h2⟩ := goB_back n _ _ h
    have h3 := back_bytes h1
    have h0 : r.e = 0 := by
      by_cases h0 : r.e = 0
      · exact h0
      · rw [byA_st h0] at h1; exact absurd h1 h0
    refine ⟨h0, ?_⟩
    rw [← h2, h3]
    simp
end Rdr
def mx : BitVec 64 := 18446744073709551615#64
def unR (b : B8) : Rdr := ((Rdr.mk b 0).smA mx).smA 10#64
def unN (b : B8) : Nat := (((Rdr.mk b 0).smA mx).sm 10#64).toNat
def unG (b : B8) : List B8 × Rdr := Rdr.goB (unN b) [] (unR b)
def unE (b : B8) : Int := if (unG b).2.fin = 0 ∧ (twB (unG b).1 = true ∨ hasP (isB []) (unG b).1 = true) then 31 else (unG b).2.fin
def unH (b : B8) : BitVec 64 := if unE b = 0 then (Rdr.mk b 0).sm mx else 0
def unL (b : B8) : List B8 := if unE b = 0 then (unG b).1 else []
theorem unN_le (b : B8) : unN b ≤ 10 := Rdr.sm_le _ 10#64
theorem unG_le (b : B8) : ∀ c ∈ (unG b).1, c.length ≤ 1000 := Rdr.goB_le _ _ _ (fun _ h => by cases h)
theorem unG_len (b : B8) : (unG b).1.length = unN b := by rw [unG, Rdr.goB_len]; simp
theorem un_full {h : BitVec 64} {l : List B8} (hp : packE l = 0) (ys : B8) : (Rdr.mk (packB h l ++ ys) 0).sm mx = h ∧ unG (packB h l ++ ys) = (l, ⟨ys, 0⟩) := by
  obtain ⟨h1, h2, h3⟩ := packE_0.1 hp
  have e : packB h l ++ ys = smallB h ++ (smallB (BitVec.ofNat 64 l.length) ++ (l.flatMap bytesB ++ ys)) := by simp [packB]
  rw [e]
  obtain ⟨e1, e2⟩ := Rdr.small_full (n := h) (lim := mx) (ys := smallB (BitVec.ofNat 64 l.length) ++ (l.flatMap bytesB ++ ys)) (by have := h.isLt; show h.toNat ≤ 18446744073709551615; omega)
  obtain ⟨e3, e4⟩ := Rdr.small_full (n := BitVec.ofNat 64 l.length) (lim := 10#64) (ys := l.flatMap bytesB ++ ys) (by rw [BitVec.toNat_ofNat]; show _ ≤ 10; omega)
  refine ⟨e1, ?_⟩
  have hn : (BitVec.ofNat 64 l.length).toNat = l.length := by rw [BitVec.toNat_ofNat]; omega
  rw [unG, unN, unR, e2, e3, e4, hn]
  have := Rdr.goB_full l [] ys fun b hb => (h2 b hb).2
  simpa using this
theorem un_pack {h : BitVec 64} {l : List B8} (hp : packE l = 0) : unE (packB h l) = 0 ∧ unH (packB h l) = h ∧ unL (packB h l) = l := by
  obtain ⟨h1, h2⟩ := un_full (h := h) hp []
  rw [List.append_nil] at h1 h2
  obtain ⟨p1, p2, p3⟩ := packE_0.1 hp
  have he : unE (packB h l) = 0 := by
    rw [unE, h2, if_neg]
    · rfl
    · rintro ⟨_, h3 | h3⟩
      · unfold twB at h3; simp [p3] at h3
      · rw [has_mem, decide_eq_true_eq] at h3
        have := (p2 _ h3).1
        simp at this
  exact ⟨he, by rw [unH, if_pos he, h1], by rw [unL, if_pos he, h2]⟩
theorem un_tail {h : BitVec 64} {l : List B8} (hp : packE l = 0) : unE (packB h l ++ [0#8]) = 30 := by
  obtain ⟨h1, h2⟩ := un_full (h := h) hp [0#8]
  rw [unE, h2, if_neg]
  · rfl
  · rintro ⟨h3, _⟩
    exact absurd (show (30 : Int) = 0 from h3) (by decide)
theorem fin_3 {r : Rdr} (h : r.e = 3) : r.fin = 3 := by
  rw [Rdr.fin, if_neg, h]
  rintro ⟨h1, _⟩
  omega
theorem unE_3 {b : B8} (h : (unG b).2.e = 3) : unE b = 3 := by
  rw [unE, fin_3 h, if_neg]
  rintro ⟨h1, _⟩
  exact absurd h1 (by decide)
theorem un_cut {h : BitVec 64} {l : List B8} (hp : packE l = 0) {j : Nat} (hj : j < (packB h l).length) : unE ((packB h l).take j) = 3 := by
  obtain ⟨p1, p2, p3⟩ := packE_0.1 hp
  have hn : (BitVec.ofNat 64 l.length).toNat = l.length := by rw [BitVec.toNat_ofNat]; omega
  apply unE_3
  have e : packB h l = smallB h ++ (smallB (BitVec.ofNat 64 l.length) ++ l.flatMap bytesB) := by simp [packB]
  rw [e] at hj ⊢
  rw [List.length_append, List.length_append] at hj
  by_cases c1 : j < (smallB h).length
  · rw [List.take_append_of_le_length (by omega)]
    have h1 := Rdr.small_cut (lim := mx) c1
    have hne : ((Rdr.mk ((smallB h).take j) 0).smA mx).e ≠ 0 := by rw [h1]; decide
    rw [unG, unR, Rdr.smA_st hne, Rdr.goB_st hne, h1]
  · rw [List.take_append, List.take_of_length_le (by omega)]
    generalize hm : j - (smallB h).length = m
    obtain ⟨e1, e2⟩ := Rdr.small_full (n := h) (lim := mx) (ys := (smallB (BitVec.ofNat 64 l.length) ++ l.flatMap bytesB).take m) (by have := h.isLt; show h.toNat ≤ 18446744073709551615; omega)
    by_cases c2 : m < (smallB (BitVec.ofNat 64 l.length)).length
    · rw [List.take_append_of_le_length (by omega)] at e2 ⊢
      have h1 := Rdr.small_cut (lim := 10#64) c2
      have hne : ((Rdr.mk ((smallB (BitVec.ofNat 64 l.length)).take m) 0).smA 10#64).e ≠ 0 := by rw [h1]; decide
      rw [unG, unR, e2, Rdr.goB_st hne, h1]
    · rw [List.take_append, List.take_of_length_le (by omega)] at e2 ⊢
      obtain ⟨e3, e4⟩ := Rdr.small_full (n := BitVec.ofNat 64 l.length) (lim := 10#64) (ys := (l.flatMap bytesB).take (m - (smallB (BitVec.ofNat 64 l.length)).length)) (by rw [hn]; show _ ≤ 10; omega)
      rw [unG, unN, unR, e2, e3, e4, hn]
      exact Rdr.goB_cut l [] _ (fun b hb => (p2 b hb).2) (by omega)
theorem un_back {b : B8} (h : unE b = 0) : packE (unL b) = 0 ∧ packB (unH b) (unL b) = b := by
  have hL : unL b = (unG b).1 := if_pos h
  have hH : unH b = (Rdr.mk b 0).sm mx := if_pos h
  have h2 := h
  unfold unE at h2
  split at h2
  · cases h2
  · rename_i hc
    obtain ⟨f1, f2⟩ := fin_0 h2
    obtain ⟨g1, g2⟩ := Rdr.goB_back _ _ _ f1
    have h3 : (((Rdr.mk b 0).smA mx).smA 10#64).e = 0 := g1
    have h4 := Rdr.back_small h3
    have h5 : ((Rdr.mk b 0).smA mx).e = 0 := by
      by_cases h0 : ((Rdr.mk b 0).smA mx).e = 0
      · exact h0
      · rw [Rdr.smA_st h0] at h3; exact absurd h3 h0
    have h6 := Rdr.back_small h5
    have hl := unG_len b
    have hnn : BitVec.ofNat 64 (unG b).1.length = ((Rdr.mk b 0).smA mx).sm 10#64 := by rw [hl, unN]; simp
    have g3 : (unR b).b = (unG b).1.flatMap bytesB := by
      have : (unG b).2.b = [] := f2
      have g2' : (unR b).b = (unG b).1.flatMap bytesB ++ (unG b).2.b := by simpa [unG] using g2
      rw [g2', this, List.append_nil]
    rw [hL, hH]
    refine ⟨packE_0.2 ⟨by rw [hl]; exact unN_le b, fun c hc2 => ⟨?_, unG_le b c hc2⟩, ?_⟩, ?_⟩
    · rcases Nat.eq_zero_or_pos c.length with h0 | h0
      · obtain rfl := List.length_eq_zero_iff.1 h0
        exact absurd ⟨h2, .inr (by rw [has_mem, decide_eq_true_eq]; exact hc2)⟩ hc
      · exact h0
    · by_cases hn : (unG b).1.Nodup
      · exact hn
      · exact absurd ⟨h2, .inl (by rw [twB, decide_eq_false hn]; rfl)⟩ hc
    · rw [packB, hnn, ← g3]
      have h7 : b = smallB ((Rdr.mk b 0).sm mx) ++ ((Rdr.mk b 0).smA mx).b := h6
      conv => rhs; rw [h7, h4]
      rw [List.append_assoc]
      rfl
theorem packB_len {h : BitVec 64} {l : List B8} (hl : l.length ≤ 12) (hb : ∀ b ∈ l, b.length ≤ 1000) : (packB h l).length ≤ 20000 := by
  have h1 := smallB_le h
  have h2 := smallB_le (BitVec.ofNat 64 l.length)
  have h3 := flatB_le hb
  rw [packB, List.length_append, List.length_append]; omega
theorem packO_len (h : BitVec 64) (l : List B8) : (packO h l).length ≤ 20000 := by
  unfold packO
  split
  · rename_i hp
    obtain ⟨h1, h2, _⟩ := packE_0.1 hp
    exact packB_len (by omega) fun b hb => (h2 b hb).2
  · simp
end Go.Proofs.YtffgimlkmfjgmaaDoor
