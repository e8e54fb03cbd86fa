/- Votes: what a tally holds, sums over it, quorums. No program in sight. -/
import Derived.Test.YtmbpngnamnoiaaaDoorL3
import Derived.Test.YtmbpngnamnoiaaaDoorK2
namespace Go.Proofs.YtmbpngnamnoiaaaDoor
open Go.RowKit
set_option linter.unusedVariables false
set_option linter.unusedSimpArgs false
def sumS (S : List W64) : Nat := (S.map BitVec.toNat).sum
def stk (S : List W64) (i : Int) : Nat := (S.getD i.toNat 0).toNat
abbrev VE := Int × D32 × Nat
def gsum (w : VE → Nat) (es : List VE) : Nat := (es.map w).sum
def forW (S : List W64) (v : D32) (e : VE) : Nat := if e.2.1 = v then stk S e.1 else 0
def anyW (S : List W64) (e : VE) : Nat := stk S e.1
structure TOk (S : List W64) (m : MM Int D32) : Prop where
  ok : m.Ok
  rng : ∀ e ∈ m.es, 0 ≤ e.1 ∧ e.1 < S.length
/-- Sums by who votes. -/
def byN (S : List W64) (q : Nat → Bool) : Nat := ((List.range S.length).map fun i => if q i then (S.getD i 0).toNat else 0).sum
theorem stk0 (S : List W64) (i : Nat) : S.getD i 0 = 0#64 ↔ stk S (i : Int) = 0 :=
  ⟨fun h => by simp only [stk, Int.toNat_natCast, h]; rfl, fun h => BitVec.eq_of_toNat_eq (by simpa [stk] using h)⟩
theorem gsum_snoc (w : VE → Nat) (p : List VE) (e : VE) : gsum w (p ++ [e]) = gsum w p + w e := by simp [gsum]
theorem gsum_perm {w : VE → Nat} {p q : List VE} (h : p.Perm q) : gsum w p = gsum w q := (h.map w).sum_nat
theorem sum_upd (f : Nat → Nat) (k a : Nat) : ∀ n, k < n → ((List.range n).map fun i => if i = k then a else f i).sum + f k = ((List.range n).map f).sum + a
  | 0, h => absurd h (by omega)
  | n + 1, h => by
    rw [List.range_succ, List.map_append, List.map_append, List.sum_append, List.sum_append]
    by_cases hk : k = n
    · subst hk
      have : (List.range k).map (fun i => if i = k then a else f i) = (List.range k).map f := List.map_congr_left fun i hi => if_neg (by have := List.mem_range.1 hi; omega)
      simp [this]
      omega
    · have := sum_upd f k a n (by omega)
      simp [Ne.symm hk]
      omega
theorem gsum_by {S : List W64} (w : Option D32 → Bool) (hw : w none = false) : ∀ (es : List VE), (es.map (·.1)).Nodup → (∀ e ∈ es, 0 ≤ e.1 ∧ e.1 < S.length) →
    gsum (fun e => if w (some e.2.1) then stk S e.1 else 0) es = byN S fun i => w (MM.findL es (i : Int))
  | [], _, _ => by
    have : ∀ l : List Nat, (l.map fun _ => 0).sum = 0 := fun l => by
      induction l with
      | nil => rfl
      | cons a l ih => simpa using ih
    simp [gsum, byN, MM.findL, hw, this]
  | e :: es, hn, hr => by
    simp only [List.map_cons, List.nodup_cons] at hn
    obtain ⟨h0, h1⟩ := hr e (.head _)
    have ih := gsum_by w hw es hn.2 fun x hx => hr x (.tail _ hx)
    have h2 := sum_upd (fun i => if w (MM.findL es (i : Int)) then (S.getD i 0).toNat else 0) e.1.toNat (if w (some e.2.1) then stk S e.1 else 0) S.length (by omega)
    have hz : MM.findL es ((e.1.toNat : Nat) : Int) = none := by
      cases hf : MM.findL es ((e.1.toNat : Nat) : Int) with
      | none => rfl
      | some v =>
        obtain ⟨c, hc⟩ := (MM.mem_findL hn.2).1 hf
        exact absurd (List.mem_map.2 ⟨_, hc, by show ((e.1.toNat : Nat) : Int) = e.1; omega⟩) hn.1
    have h3 : byN S (fun i => w (MM.findL (e :: es) (i : Int))) = ((List.range S.length).map fun i => if i = e.1.toNat then (if w (some e.2.1) then stk S e.1 else 0) else if w (MM.findL es (i : Int)) then (S.getD i 0).toNat else 0).sum := by
      unfold byN
      congr 1
      refine List.map_congr_left fun i hi => ?_
      by_cases hi : i = e.1.toNat
      · have hf : MM.findL (e :: es) (i : Int) = some e.2.1 := by simp only [MM.findL]; exact if_pos (by omega)
        rw [if_pos hi]
        simp only [hf, stk, ← hi]
      · have hf : MM.findL (e :: es) (i : Int) = MM.findL es (i : Int) := by simp only [MM.findL]; exact if_neg (by omega)
        simp only [hf, if_neg hi]
    rw [h3]
    simp only [hz, hw, Bool.false_eq_true, if_false, Nat.add_zero] at h2
    have h5 : byN S (fun i : Nat => w (MM.findL es (i : Int))) = ((List.range S.length).map fun i : Nat => if w (MM.findL es (i : Int)) then (S.getD i 0).toNat else 0).sum := rfl
    have h4 : gsum (fun e => if w (some e.2.1) then stk S e.1 else 0) (e :: es) = (if w (some e.2.1) then stk S e.1 else 0) + gsum (fun e => if w (some e.2.1) then stk S e.1 else 0) es := rfl
    rw [h4, ih, h5]
    omega
def forA (S : List W64) (g : Int → Option D32) (v : D32) : Nat := byN S fun i => decide (g i = some v)
def anyA (S : List W64) (g : Int → Option D32) : Nat := byN S fun i => (g i).isSome
theorem for_by {S : List W64} {m : MM Int D32} (h : TOk S m) (v : D32) : gsum (forW S v) m.es = forA S m.get v := by
  rw [forA, show (fun i : Nat => decide (m.get i = some v)) = fun i : Nat => (fun o => decide (o = some v)) (MM.findL m.es (i : Int)) from rfl, ← gsum_by (fun o => decide (o = some v)) rfl m.es h.ok.nk h.rng]
  congr 1
  funext e
  simp [forW]
theorem any_by {S : List W64} {m : MM Int D32} (h : TOk S m) : gsum (anyW S) m.es = anyA S m.get := by
  rw [anyA, show (fun i : Nat => (m.get i).isSome) = fun i : Nat => (fun o : Option D32 => o.isSome) (MM.findL m.es (i : Int)) from rfl, ← gsum_by (fun o => o.isSome) rfl m.es h.ok.nk h.rng]
  congr 1
theorem byN_mono {S : List W64} {p q : Nat → Bool} (h : ∀ i, i < S.length → p i = true → q i = true) : byN S p ≤ byN S q := by
  unfold byN
  generalize hl : List.range S.length = l
  have hm : ∀ i ∈ l, i < S.length := fun i hi => by rw [← hl] at hi; exact List.mem_range.1 hi
  clear hl
  induction l with
  | nil => exact Nat.le_refl _
  | cons a l ih =>
    have := ih fun i hi => hm i (.tail _ hi)
    simp only [List.map_cons, List.sum_cons]
    have h1 := h a (hm a (.head _))
    by_cases hp : p a = true
    · rw [if_pos hp, if_pos (h1 hp)]; omega
    · rw [if_neg hp]; omega
theorem byN_or {S : List W64} (p q : Nat → Bool) : byN S (fun i => p i || q i) + byN S (fun i => p i && q i) = byN S p + byN S q := by
  have key : ∀ (x y : Bool) (n : Nat), (if (x || y) = true then n else 0) + (if (x && y) = true then n else 0) = (if x = true then n else 0) + if y = true then n else 0 := fun x y n => by cases x <;> cases y <;> simp
  unfold byN
  generalize List.range S.length = l
  induction l with
  | nil => rfl
  | cons a l ih =>
    have := key (p a) (q a) (S.getD a 0).toNat
    simp only [List.map_cons, List.sum_cons] at ih ⊢
    omega
theorem byN_all (S : List W64) : byN S (fun _ => true) = sumS S := by
  unfold byN sumS
  congr 1
  apply List.ext_getElem (by simp)
  intro i h1 h2
  simp at h1
  simp [List.getD_eq_getElem?_getD, h1]
theorem byN_le {S : List W64} (p : Nat → Bool) : byN S p ≤ sumS S := by rw [← byN_all]; exact byN_mono fun _ _ _ => rfl
theorem gsum_le {S : List W64} (w : VE → Nat) (hw : ∀ e, w e ≤ stk S e.1) {p : List VE} (hn : (p.map (·.1)).Nodup) (hr : ∀ e ∈ p, 0 ≤ e.1 ∧ e.1 < S.length) : gsum w p ≤ sumS S := by
  have h1 := gsum_by (S := S) (fun o => o.isSome) rfl p hn hr
  have h2 : gsum w p ≤ gsum (fun e => if (some e.2.1).isSome then stk S e.1 else 0) p := by
    unfold gsum
    clear h1 hn hr
    induction p with
    | nil => exact Nat.le_refl _
    | cons a p ih => have := hw a; simp at ih ⊢; omega
  rw [h1] at h2
  exact Nat.le_trans h2 (byN_le _)
theorem walk_keys {S : List W64} {m : MM Int D32} (h : TOk S m) {p : List VE} (hw : m.Walk p) : (p.map (·.1)).Nodup ∧ ∀ e ∈ p, 0 ≤ e.1 ∧ e.1 < S.length := by
  refine ⟨?_, fun e he => h.rng e (hw.sub e he)⟩
  have hinj : ∀ l : List VE, (l.map (·.1)).Nodup → ∀ x ∈ l, ∀ y ∈ l, x.1 = y.1 → x = y := by
    intro l
    induction l with
    | nil => simp
    | cons a l ih =>
      intro hnd x hx y hy hxy
      simp only [List.map_cons, List.nodup_cons] at hnd
      rcases List.mem_cons.1 hx with hx1 | hx1 <;> rcases List.mem_cons.1 hy with hy1 | hy1
      · rw [hx1, hy1]
      · exact absurd (List.mem_map.2 ⟨y, hy1, by rw [← hxy, hx1]⟩) hnd.1
      · exact absurd (List.mem_map.2 ⟨x, hx1, by rw [hxy, hy1]⟩) hnd.1
      · exact ih hnd.2 x hx1 y hy1 hxy
  have hn := hw.nd
  have hs := hw.sub
  clear hw
  induction p with
  | nil => exact .nil
  | cons a p ih =>
    simp only [List.map_cons, List.nodup_cons] at hn ⊢
    refine ⟨fun hm => ?_, ih hn.2 fun e he => hs e (.tail _ he)⟩
    obtain ⟨b, hb, hab⟩ := List.mem_map.1 hm
    have := hinj m.es h.ok.nk b (hs b (.tail _ hb)) a (hs a (.head _)) hab
    exact hn.1 (this ▸ hb)
theorem walk_le {S : List W64} {m : MM Int D32} (h : TOk S m) {p : List VE} (hw : m.Walk p) {w : VE → Nat} (hws : ∀ e, w e ≤ stk S e.1) : gsum w p ≤ sumS S :=
  gsum_le w hws (walk_keys h hw).1 (walk_keys h hw).2
theorem forW_le (S : List W64) (v : D32) (e : VE) : forW S v e ≤ stk S e.1 := by unfold forW; split <;> omega
/-- What a quorum is for. -/
def Quo (S : List W64) (g : Int → Option D32) (v : D32) : Prop := 2 * sumS S < 3 * forA S g v
def QuoR (S : List W64) (g : Int → Option D32) : Option D32 → Prop
  | some v => Quo S g v
  | none => ∀ v, ¬ Quo S g v
theorem forA_some {S : List W64} {g : Int → Option D32} {v : D32} (h : 0 < forA S g v) : ∃ i : Nat, i < S.length ∧ g i = some v := by
  apply Classical.byContradiction
  intro hn
  have : forA S g v ≤ byN S fun _ => false := byN_mono fun i hi hp => absurd ⟨i, hi, of_decide_eq_true hp⟩ hn
  have h0 : byN S (fun _ => false) = 0 := by
    unfold byN
    generalize List.range S.length = l
    induction l with
    | nil => rfl
    | cons a l ih => simpa using ih
  omega
theorem Quo.uniq {S : List W64} {g : Int → Option D32} {u v : D32} (hu : Quo S g u) (hv : Quo S g v) : u = v := by
  apply Classical.byContradiction
  intro hne
  have h1 := byN_or (S := S) (fun i => decide (g i = some u)) (fun i => decide (g i = some v))
  have h2 := byN_le (S := S) (fun i => decide (g i = some u) || decide (g i = some v))
  have h3 : byN S (fun i => decide (g i = some u) && decide (g i = some v)) ≤ byN S fun _ => false := byN_mono fun i _ hp => by
    simp at hp
    exact absurd (Option.some.inj (hp.1.symm.trans hp.2)) hne
  have h0 : byN S (fun _ => false) = 0 := by
    unfold byN
    generalize List.range S.length = l
    induction l with
    | nil => rfl
    | cons a l ih => simpa using ih
  unfold Quo forA at hu hv
  omega
theorem QuoR.uniq {S : List W64} {g : Int → Option D32} {o o' : Option D32} (h : QuoR S g o) (h' : QuoR S g o') : o = o' := by
  cases o <;> cases o'
  · rfl
  · exact absurd h' (h _)
  · exact absurd h (h' _)
  · rw [Quo.uniq h h']
theorem tok_put {S : List W64} {m : MM Int D32} (h : TOk S m) {k : Int} (v : D32) (h0 : 0 ≤ k) (h1 : k < S.length) : TOk S (m.put k v) := by
  refine ⟨MM.ok_put h.ok k v, fun e he => ?_⟩
  have hk := MM.ok_put h.ok k v
  have : (m.put k v).get e.1 = some e.2.1 := (MM.get_iff hk).2 ⟨e.2.2, he⟩
  rw [MM.get_put] at this
  split at this
  · rename_i e1; rw [e1]; exact ⟨h0, h1⟩
  · obtain ⟨c, hc⟩ := (MM.get_iff h.ok).1 this
    have h2 := h.rng _ hc
    exact h2
theorem tok_nil (S : List W64) : TOk S MM.nil := ⟨MM.ok_nil, by simp [MM.nil]⟩
/-- How a vote is answered. -/
def voteE (S : List W64) (g : Int → Option D32) (who : Int) (v : D32) : Int :=
  if who < 0 ∨ (S.length : Int) ≤ who then 1 else if stk S who = 0 then 51 else if g who = some v then 13 else if (g who).isSome then 52 else 0
theorem d32_neq (a b : D32) : (!decide (a.1 = b.1)) = decide (a ≠ b) := by rw [← decide_not]; exact decide_eq_decide.2 (not_congr Subtype.ext_iff.symm)
theorem d32_eq (a b : D32) : decide (a.1 = b.1) = decide (a = b) := decide_eq_decide.2 Subtype.ext_iff.symm
theorem totN_sum {S : List W64} (h : sumS S < 115792089237316195423570985008687907853269984665640564039457584007913129639936) : totN S = sumS S := by
  rw [totN]
  exact Nat.mod_eq_of_lt h
theorem walk_len {m : MM Int D32} {p : List VE} (hw : m.Walk p) : p.length ≤ m.es.length := by
  obtain ⟨hn, hs⟩ := hw
  generalize m.es = l at hs
  induction p generalizing l with
  | nil => exact Nat.zero_le _
  | cons a p ih =>
    rw [List.nodup_cons] at hn
    have ha := hs a (.head _)
    have h1 := List.perm_cons_erase ha
    have h2 := ih hn.2 (l.erase a) fun e he => by
      have := (h1.mem_iff).1 (hs e (.tail _ he))
      rcases List.mem_cons.1 this with rfl | h
      · exact absurd he hn.1
      · exact h
    have h3 := h1.length_eq
    simp only [List.length_cons] at h3 ⊢
    omega
theorem forA_le (S : List W64) (g : Int → Option D32) (v : D32) : forA S g v ≤ sumS S := byN_le _
theorem anyA_le (S : List W64) (g : Int → Option D32) : anyA S g ≤ sumS S := byN_le _
theorem quo_none {S : List W64} {m : MM Int D32} (hT : TOk S m) {p : List VE} (hp : p.Perm m.es) (h : ∀ e ∈ p, ¬ Quo S m.get e.2.1) : QuoR S m.get none := fun v hv => by
  obtain ⟨i, _, hi⟩ := forA_some (show 0 < forA S m.get v by unfold Quo at hv; omega)
  obtain ⟨c, hc⟩ := (MM.get_iff hT.ok).1 hi
  exact h _ (hp.mem_iff.2 hc) hv
def newE (S : List W64) : Int := if S.length < 1 ∨ 40 < S.length then 2 else if 9223372036854775808 ≤ totN S then 10 else 0
end Go.Proofs.YtmbpngnamnoiaaaDoor
