/- Where all follow the rules, and all is heard, all decide: one who agrees. No program in sight. -/
import Derived.Test.YtncececcopalgaaDoorT16
namespace Go.Proofs.YtncececcopalgaaDoor
open Go.RowKit
set_option linter.unusedVariables false
set_option linter.unusedSimpArgs false
def pz (S : List W64) (sh : Int) : Nat := (sh % (S.length : Int)).toNat
def vz (S : List W64) (sh : Int) : D32 := AW.dg4 (pz S sh)
def phi (a : AR) : Nat := if a.dc.r < 0 then 1 + (3 - a.st).toNat + (if a.dn (5, a.rd) then 0 else 1) + (if a.dn (6, a.rd) then 0 else 1) + (if a.dn (8, a.rd) then 0 else 1) else 0
theorem phi_mu {a : AR} (h0 : a.rd = 0) : a.mu = phi a + if a.dc.r < 0 then 600 else 0 := by
  unfold AR.mu phi
  split
  · rw [h0]; simp only [Int.sub_zero]; omega
  · rfl
theorem phi_le {a : AR} (hf : a.Fine) : phi a ≤ 7 := by
  have := hf.3
  unfold phi
  repeat (first | split | omega)
/-- What holds of each, in a world where all follow the rules. -/
structure GI (S : List W64) (sh : Int) (i : Nat) (a : AR) : Prop where
  S_ : a.S = S
  me : a.me = i
  sh_ : a.sh = sh
  own : a.own = AW.dg4 i
  rd : a.rd = 0
  fine : a.Fine
  pr : ∀ r p, a.pr r = some p → r = 0 ∧ p = ⟨vz S sh, -1, true⟩
  ta : ∀ k j u, a.ta k j = some u → (k = (2, 0) ∨ k = (3, 0)) ∧ u = vz S sh
  dc : 0 ≤ a.dc.r → a.dc = ⟨vz S sh, 0⟩ ∧ Quo S (a.ta (3, 0)) (vz S sh)
  lk : a.st ≤ 2 → a.lk = ⟨D0, -1⟩ ∧ a.dn (6, 0) = false
  vd : a.st = 0 → a.vd.r < 0 ∧ a.dc.r < 0
/-- The acts that come up. -/
def okAct (S : List W64) (sh : Int) (i : Nat) (x : Act) : Prop := 3 < x.kind ∨ (i = pz S sh ∧ x = ⟨1, 0, vz S sh, -1⟩) ∨ x = ⟨2, 0, vz S sh, 0⟩ ∨ x = ⟨3, 0, vz S sh, 0⟩
/-- From one state to another. -/
structure GR (S : List W64) (sh : Int) (i : Nat) (a : AR) (l : List Act) (b : AR) : Prop where
  gi : GI S sh i b
  ta : b.ta = a.ta
  pr : b.pr = a.pr
  cnt : l.length + phi b ≤ phi a
  act : ∀ x ∈ l, okAct S sh i x
  up : a.st ≤ b.st
  two : 2 ≤ b.st → 2 ≤ a.st ∨ ∃ x ∈ l, x.kind = 2
  three : b.st = 3 → a.st = 3 ∨ ∃ x ∈ l, x.kind = 3
theorem GR.refl {S : List W64} {sh : Int} {i : Nat} {a : AR} (h : GI S sh i a) : GR S sh i a [] a := ⟨h, rfl, rfl, by simp, (fun _ h => nomatch h), Int.le_refl _, .inl, .inl⟩
theorem GR.app {S : List W64} {sh : Int} {i : Nat} {a b c : AR} {l k : List Act} (h1 : GR S sh i a l b) (h2 : GR S sh i b k c) : GR S sh i a (l ++ k) c where
  gi := h2.gi
  ta := h2.ta.trans h1.ta
  pr := h2.pr.trans h1.pr
  cnt := by rw [List.length_append]; have := h1.cnt; have := h2.cnt; omega
  act x hx := (List.mem_append.1 hx).elim (h1.act x) (h2.act x)
  up := Int.le_trans h1.up h2.up
  two h := (h2.two h).elim (fun h => (h1.two h).imp id fun ⟨x, hx, hk⟩ => ⟨x, List.mem_append_left _ hx, hk⟩) fun ⟨x, hx, hk⟩ => .inr ⟨x, List.mem_append_right _ hx, hk⟩
  three h := (h2.three h).elim (fun h => (h1.three h).imp id fun ⟨x, hx, hk⟩ => ⟨x, List.mem_append_left _ hx, hk⟩) fun ⟨x, hx, hk⟩ => .inr ⟨x, List.mem_append_right _ hx, hk⟩
theorem byN_no {S : List W64} {q : Nat → Bool} (h : ∀ i, i < S.length → q i = false) : byN S q = 0 := by
  have h1 : byN S q ≤ byN S (fun _ => false) := byN_mono fun i hi hq => by rw [h i hi] at hq; exact hq
  have h3 : ∀ l : List Nat, (l.map fun _ => 0).sum = 0 := by intro l; induction l <;> simp_all
  have h2 : byN S (fun _ => false) = 0 := by
    have : byN S (fun _ => false) = ((List.range S.length).map fun _ => 0).sum := rfl
    rw [this]
    exact h3 _
  omega
theorem vz_ne {S : List W64} {sh : Int} (h1 : 1 ≤ S.length) (h7 : S.length ≤ 7) : vz S sh ≠ D0 := by
  have a := Int.emod_nonneg sh (show (S.length : Int) ≠ 0 by omega)
  have b := Int.emod_lt_of_pos sh (show (0 : Int) < S.length by omega)
  exact AW.dg4_ne (by unfold pz; omega)
theorem pz_lt {S : List W64} {sh : Int} (h1 : 1 ≤ S.length) : pz S sh < S.length ∧ ((pz S sh : Nat) : Int) = sh % S.length := by
  have a := Int.emod_nonneg sh (show (S.length : Int) ≠ 0 by omega)
  have b := Int.emod_lt_of_pos sh (show (0 : Int) < S.length by omega)
  unfold pz
  omega
theorem prop0 {S : List W64} {sh : Int} {i : Nat} {a : AR} (h : GI S sh i a) (h1 : 1 ≤ S.length) : a.proposer 0 = (pz S sh : Nat) := by
  have p := pz_lt (sh := sh) h1
  unfold AR.proposer
  rw [if_pos (by decide), h.sh_, h.S_, Int.add_zero, ← p.2]
  exact Int.emod_eq_of_lt (by omega) (by omega)
theorem goodV_dg4 {i : Nat} (h : i < 7) : goodV (AW.dg4 i) = true := by
  match i, h with
  | 0, _ => decide
  | 1, _ => decide
  | 2, _ => decide
  | 3, _ => decide
  | 4, _ => decide
  | 5, _ => decide
  | 6, _ => decide
theorem vz_good {S : List W64} {sh : Int} (h1 : 1 ≤ S.length) (h7 : S.length ≤ 7) : goodV (vz S sh) = true := goodV_dg4 (by have := (pz_lt (S := S) (sh := sh) h1).1; omega)
theorem lock_one {a : AR} {x : Act} (h : a.lock.2.1 = [x]) : x.kind = 3 := by
  unfold AR.lock at h
  dsimp only at h
  split at h
  · cases h
  · split at h
    · cases h
    · split at h
      · cases h
      · split at h
        · cases h
        · have h : [_] = [x] := h
          rw [← (List.cons.inj h).1]
theorem dn_six {a : AR} {i : Nat} (h : (a.rule i).1.dn (6, 0) = true) : a.dn (6, 0) = true ∨ i = 4 := by
  match i, h with
  | 0, h =>
    left
    have h : a.decideR.1.dn (6, 0) = true := h
    unfold AR.decideR at h
    split at h <;> exact h
  | 1, h =>
    left
    have h : a.skip.1.dn (6, 0) = true := h
    unfold AR.skip at h
    split at h
    · dsimp only at h
      rw [(AR.begin_acts a _).2] at h
      exact h
    · exact h
  | 2, h =>
    left
    have h : a.prevote.1.dn (6, 0) = true := h
    unfold AR.prevote at h
    dsimp only at h
    split at h
    · exact h
    · split at h
      · exact h
      · split at h <;> exact h
  | 3, h =>
    left
    have h : a.wait.1.dn (6, 0) = true := h
    unfold AR.wait at h
    split at h
    · exact h
    · have h : (if ((6 : Int), (0 : Int)) = (5, a.rd) then true else a.dn (6, 0)) = true := h
      rw [if_neg (fun e => absurd (congrArg Prod.fst e) (by show ¬ (6 : Int) = 5; decide))] at h
      exact h
  | 4, _ => right; rfl
  | 5, h =>
    left
    have h : a.pass.1.dn (6, 0) = true := h
    unfold AR.pass at h
    dsimp only at h
    split at h <;> exact h
  | i + 6, h =>
    left
    have h : a.end_.1.dn (6, 0) = true := h
    unfold AR.end_ at h
    split at h
    · exact h
    · have h : (if ((6 : Int), (0 : Int)) = (8, a.rd) then true else a.dn (6, 0)) = true := h
      rw [if_neg (fun e => absurd (congrArg Prod.fst e) (by show ¬ (6 : Int) = 8; decide))] at h
      exact h
theorem GI.no_quo {S : List W64} {sh : Int} {i : Nat} {a : AR} (h : GI S sh i a) (h1 : 1 ≤ S.length) (h7 : S.length ≤ 7) (k : Int × Int) : ¬ Quo S (a.ta k) D0 := by
  intro hq
  obtain ⟨j, _, hj⟩ := forA_some (S := S) (g := a.ta k) (v := D0) (by unfold Quo at hq; omega)
  exact vz_ne h1 h7 (h.ta k j D0 hj).2.symm
theorem GI.rule {S : List W64} {sh : Int} {i : Nat} {a : AR} (h : GI S sh i a) (h1 : 1 ≤ S.length) (h7 : S.length ≤ 7) {n : Nat} (hu : a.up = true) (hi : (a.rule n).2.2 = true) : GR S sh i a (a.rule n).2.1 (a.rule n).1 := by
  obtain ⟨u1, u2⟩ : 0 < a.st ∧ a.dc.r < 0 := of_decide_eq_true hu
  obtain ⟨m1, m2, m3⟩ := AR.rule_mu h.fine hu hi
  have pa : a.mu = phi a + 600 := by rw [phi_mu h.rd, if_pos u2]
  have f4 := h.fine.4
  have hcnt : ∀ b : AR, b.rd = 0 → b.dc.r < 0 → b.mu < a.mu → 1 + phi b ≤ phi a := fun b hb hd hm => by
    rw [phi_mu hb, if_pos hd] at hm
    omega
  rcases AR.rule_ways hi with ⟨r, v, e1, e2, h0, p, hp, hv, hq⟩ | ⟨r, k1, k2, hs, e1, e2⟩ | ⟨p, k1, hp, hq, e1, e2⟩ | ⟨x, hx, e2, k, e1⟩ | ⟨p, k2, k3, hp, hg, hq, e1, e2⟩ | ⟨p, k1, hp, hg, hq, e1, e2⟩ | ⟨k1, hq, e1, e2⟩
  · obtain ⟨r0, p0⟩ := h.pr r p hp
    have hQ : Quo S (a.ta (3, 0)) (vz S sh) := by
      have := of_decide_eq_true hq
      rw [h.S_, r0, hv, p0] at this
      exact this
    rw [e1, e2]
    have hv' : v = vz S sh := by rw [hv, p0]
    refine ⟨⟨h.S_, h.me, h.sh_, h.own, h.rd, ⟨h.fine.1, h.fine.2, h.fine.3, h.fine.4⟩, h.pr, h.ta, fun _ => ⟨by show Held.mk v r = _; rw [hv', r0], hQ⟩, h.lk, fun e => absurd (show a.st = 0 from e) (by omega)⟩, rfl, rfl, ?_, fun x hx => .inl (by rw [List.mem_singleton.1 hx]; show (3 : Int) < 7; decide), Int.le_refl _, .inl, .inl⟩
    have : phi { a with dc := ⟨v, r⟩ } = 0 := if_neg (by show ¬ r < 0; omega)
    rw [this]
    show 1 ≤ phi a
    unfold phi
    rw [if_pos u2]
    omega
  · exfalso
    have hs := (of_decide_eq_true hs).2
    have : a.heard r = 0 := byN_no fun j hj => by
      have t2 : a.ta (2, r) j = none := by
        cases e : a.ta (2, r) j with
        | none => rfl
        | some u => rcases (h.ta _ _ _ e).1 with e | e <;> (have := congrArg Prod.snd e; have : r = 0 := this; have := h.rd; omega)
      have t3 : a.ta (3, r) j = none := by
        cases e : a.ta (3, r) j with
        | none => rfl
        | some u => rcases (h.ta _ _ _ e).1 with e | e <;> (have := congrArg Prod.snd e; have : r = 0 := this; have := h.rd; omega)
      have tp : a.pr r = none := by
        cases e : a.pr r with
        | none => rfl
        | some u => have := (h.pr _ _ e).1; have := h.rd; omega
      rw [t2, t3, tp]
      rfl
    omega
  · obtain ⟨_, p0⟩ := h.pr _ p hp
    have hw : a.wOf p = vz S sh := by
      have hl := (h.lk (by omega)).1
      unfold AR.wOf
      rw [p0, hl]
      exact if_pos ⟨rfl, .inl (Int.le_refl _)⟩
    rw [e1] at m1 ⊢
    rw [e2, hw] at *
    refine ⟨⟨h.S_, h.me, h.sh_, h.own, h.rd, ⟨h.fine.1, h.fine.2, by show (0 : Int) ≤ 2; decide, by show (2 : Int) ≤ 3; decide⟩, h.pr, h.ta, h.dc, fun _ => h.lk (by omega), fun e => absurd (show (2 : Int) = 0 from e) (by decide)⟩, rfl, rfl, hcnt _ h.rd u2 m1, fun x hx => .inr (.inr (.inl ?_)), by show a.st ≤ 2; omega, fun _ => .inr ⟨_, List.mem_singleton.2 rfl, rfl⟩, fun e => absurd (show (2 : Int) = 3 from e) (by decide)⟩
    rw [List.mem_singleton.1 hx, h.rd]
  · rw [e1] at m1 ⊢
    rw [e2]
    refine ⟨⟨h.S_, h.me, h.sh_, h.own, h.rd, ⟨h.fine.1, h.fine.2, h.fine.3, h.fine.4⟩, h.pr, h.ta, h.dc, fun hs => ⟨(h.lk hs).1, ?_⟩, fun e => absurd (show a.st = 0 from e) (by omega)⟩, rfl, rfl, hcnt _ h.rd u2 m1, fun y hy => .inl (by rw [List.mem_singleton.1 hy]; exact hx), Int.le_refl _, .inl, .inl⟩
    have hs : a.st ≤ 2 := hs
    have hd := (h.lk hs).2
    cases hh : (a.done k).dn (6, 0) with
    | false => rfl
    | true =>
      rw [← e1] at hh
      rcases dn_six hh with h6 | h6
      · rw [hd] at h6; cases h6
      · subst h6
        have := lock_one (a := a) e2
        omega
  · rw [e1] at m1 ⊢
    rw [e2]
    refine ⟨⟨h.S_, h.me, h.sh_, h.own, h.rd, ⟨h.fine.1, h.fine.2, h.fine.3, h.fine.4⟩, h.pr, h.ta, h.dc, fun hs => absurd (show a.st ≤ 2 from hs) (by omega), fun e => absurd (show a.st = 0 from e) (by omega)⟩, rfl, rfl, ?_, (fun y hy => nomatch hy), Int.le_refl _, .inl, .inl⟩
    have t := hcnt _ (by exact h.rd) (by exact u2) m1
    exact Nat.le_trans (by simp) t
  · obtain ⟨_, p0⟩ := h.pr _ p hp
    rw [e1] at m1 ⊢
    rw [e2]
    refine ⟨⟨h.S_, h.me, h.sh_, h.own, h.rd, ⟨h.fine.1, h.fine.2, by show (0 : Int) ≤ 3; decide, by show (3 : Int) ≤ 3; decide⟩, h.pr, h.ta, h.dc, fun e => absurd (show (3 : Int) ≤ 2 from e) (by decide), fun e => absurd (show (3 : Int) = 0 from e) (by decide)⟩, rfl, rfl, hcnt _ h.rd u2 m1, fun x hx => .inr (.inr (.inr ?_)), by show a.st ≤ 3; omega, fun _ => .inl (by omega), fun _ => .inr ⟨_, List.mem_singleton.2 rfl, rfl⟩⟩
    rw [List.mem_singleton.1 hx, h.rd, p0]
  · exfalso
    have hq := of_decide_eq_true hq
    rw [h.S_] at hq
    exact h.no_quo h1 h7 _ hq
theorem GI.follow {S : List W64} {sh : Int} {i : Nat} (h1 : 1 ≤ S.length) (h7 : S.length ≤ 7) : ∀ (n : Nat) (a : AR), a.mu < n → GI S sh i a → GR S sh i a a.follow.2 a.follow.1 ∧ (a.follow.1.up = false ∨ a.follow.1.step = none)
  | 0, a, hn, _ => absurd hn (Nat.not_lt_zero _)
  | n + 1, a, hn, h => by
    by_cases hu : a.up = true
    · cases hs : a.step with
      | none => rw [AR.follow_stop (.inr hs)]; exact ⟨GR.refl h, .inr hs⟩
      | some p =>
        obtain ⟨b, l⟩ := p
        have hm := AR.step_mu h.fine hu hs
        rw [AR.follow_step h.fine hu hs]
        have hr : GR S sh i a l b := by
          unfold AR.step at hs
          obtain ⟨j, hj, he⟩ := Option.map_eq_some_iff.1 hs
          simp only [Prod.mk.injEq] at he
          obtain ⟨rfl, rfl⟩ := he
          exact h.rule h1 h7 hu (AR.find_mem hj).2
        have h2 := GI.follow h1 h7 n b (by omega) hr.gi
        exact ⟨hr.app h2.1, h2.2⟩
    · rw [AR.follow_stop (.inl (by simpa using hu))]; exact ⟨GR.refl h, .inl (by simpa using hu)⟩
/-- The messages that come up. -/
def isM (S : List W64) (sh : Int) (m : Msg) : Prop := m = ⟨1, 0, (pz S sh : Nat), vz S sh, -1⟩ ∨ ∃ j : Nat, j < S.length ∧ (m = ⟨2, 0, j, vz S sh, 0⟩ ∨ m = ⟨3, 0, j, vz S sh, 0⟩)
/-- A message was heard, if it counts. -/
def heardM (S : List W64) (sh : Int) (a : AR) (m : Msg) : Prop := (m.kind = 1 → a.pr 0 = some ⟨vz S sh, -1, true⟩) ∧ (m.kind ≠ 1 → stk S m.from_ ≠ 0 → a.ta (m.kind, 0) m.from_ = some (vz S sh))
/-- What hearing one message comes to. -/
structure GH (S : List W64) (sh : Int) (i : Nat) (m : Msg) (a : AR) (l : List Act) (b : AR) : Prop where
  gi : GI S sh i b
  ta : ∀ k j u, b.ta k j = some u → a.ta k j = some u ∨ (k = (m.kind, 0) ∧ j = m.from_ ∧ m.kind ≠ 1)
  grow : ∀ k j u, a.ta k j = some u → b.ta k j = some u
  prg : ∀ r p, a.pr r = some p → b.pr r = some p
  heard : heardM S sh b m
  cnt : l.length + phi b ≤ phi a
  act : ∀ x ∈ l, okAct S sh i x
  up : a.st ≤ b.st
  two : 2 ≤ b.st → 2 ≤ a.st ∨ ∃ x ∈ l, x.kind = 2
  three : b.st = 3 → a.st = 3 ∨ ∃ x ∈ l, x.kind = 3
  quiet : b.up = false ∨ b.step = none
theorem GI.hear {S : List W64} {sh : Int} {i : Nat} {a : AR} (h : GI S sh i a) (h1 : 1 ≤ S.length) (h7 : S.length ≤ 7) {m : Msg} (hm : isM S sh m) (hq : a.up = false ∨ a.step = none) :
    GH S sh i m a (a.hear m (goodV m.value)).2.1 (a.hear m (goodV m.value)).1 := by
  have hpz := pz_lt (S := S) (sh := sh) h1
  have hv := vz_ne (S := S) (sh := sh) h1 h7
  have hval : m.value = vz S sh ∧ m.round = 0 ∧ (m.kind = 1 ∨ m.kind = 2 ∨ m.kind = 3) ∧ 0 ≤ m.from_ ∧ m.from_ < S.length ∧ (m.kind = 1 → m.valid = -1 ∧ m.from_ = (pz S sh : Nat)) := by
    rcases hm with rfl | ⟨j, hj, rfl | rfl⟩
    · exact ⟨rfl, rfl, .inl rfl, by show (0 : Int) ≤ (pz S sh : Nat); omega, by show ((pz S sh : Nat) : Int) < _; omega, fun _ => ⟨rfl, rfl⟩⟩
    · exact ⟨rfl, rfl, .inr (.inl rfl), by show (0 : Int) ≤ (j : Nat); omega, by show ((j : Nat) : Int) < _; omega, fun e => absurd (show (2 : Int) = 1 from e) (by decide)⟩
    · exact ⟨rfl, rfl, .inr (.inr rfl), by show (0 : Int) ≤ (j : Nat); omega, by show ((j : Nat) : Int) < _; omega, fun e => absurd (show (3 : Int) = 1 from e) (by decide)⟩
  obtain ⟨v1, v2, v3, v4, v5, v6⟩ := hval
  have hgood : goodV m.value = true := by rw [v1]; exact vz_good h1 h7
  have hbad : ¬ a.badMsg m := by
    rintro (e | e | e | e | e)
    · omega
    · omega
    · rw [v2] at e; cases e
    · omega
    · rw [h.S_] at e; omega
  by_cases k1 : m.kind = 1
  · obtain ⟨v7, v8⟩ := v6 k1
    have hE : ¬ (m.valid < -1 ∨ m.round ≤ m.valid ∨ m.from_ ≠ a.proposer m.round ∨ m.value = D0) := by
      rintro (e | e | e | e)
      · omega
      · omega
      · rw [v2, prop0 h h1] at e; exact e v8
      · rw [v1] at e; exact hv e
    cases hp : a.pr m.round with
    | some p =>
      obtain ⟨_, p0⟩ := h.pr _ p hp
      have he := AR.hearE_13 hE hp ⟨by rw [p0, v1], by rw [p0, v7]⟩
      rw [AR.hear_p1 hbad k1 (by rw [he]; decide)]
      rw [v2] at hp
      exact ⟨h, fun _ _ _ e => .inl e, fun _ _ _ e => e, fun _ _ e => e, ⟨fun _ => by rw [hp, p0], fun e => absurd k1 e⟩, by simp, (fun _ e => nomatch e), Int.le_refl _, .inl, .inl, hq⟩
    | none =>
      have he := AR.hearE_0 hE hp
      rw [AR.hear_p0 hbad k1 he, hgood, v1, v2, v7]
      have hpr : ∀ r, (a.setPr 0 ⟨vz S sh, -1, true⟩).pr r = if r = 0 then some ⟨vz S sh, -1, true⟩ else a.pr r := fun r => rfl
      have hg : GI S sh i (a.setPr 0 ⟨vz S sh, -1, true⟩) := ⟨h.S_, h.me, h.sh_, h.own, h.rd, ⟨h.fine.1, h.fine.2, h.fine.3, h.fine.4⟩, fun r p e => by
        rw [hpr] at e
        by_cases hr : r = 0
        · rw [if_pos hr] at e; exact ⟨hr, (Option.some.inj e).symm⟩
        · rw [if_neg hr] at e; exact h.pr r p e, h.ta, h.dc, h.lk, h.vd⟩
      have hf := GI.follow h1 h7 _ _ (Nat.lt_succ_self _) hg
      obtain ⟨g, q⟩ := hf
      refine ⟨g.gi, fun k j u e => .inl (by rw [g.ta] at e; exact e), fun k j u e => by rw [g.ta]; exact e, fun r p e => ?_, ⟨fun _ => by rw [g.pr]; rfl, fun e => absurd k1 e⟩, g.cnt, g.act, g.up, g.two, g.three, q⟩
      rw [g.pr, hpr]
      by_cases hr : r = 0
      · rw [v2, ← hr, e] at hp; cases hp
      · rw [if_neg hr]; exact e
  · by_cases he : voteE a.S (a.ta (m.kind, m.round)) m.from_ m.value = 0
    · rw [AR.hear_v0 hbad k1 he, v1, v2]
      have hnone : a.ta (m.kind, 0) m.from_ = none := by
        cases e : a.ta (m.kind, 0) m.from_ with
        | none => rfl
        | some u =>
          have hu := (h.ta _ _ _ e).2
          unfold voteE at he
          rw [v2, e, v1, hu] at he
          simp at he
          split at he
          · cases he
          · split at he <;> cases he
      have hta : ∀ k j, (a.setTa (m.kind, 0) m.from_ (vz S sh)).ta k j = if k = (m.kind, 0) ∧ j = m.from_ then some (vz S sh) else a.ta k j := fun k j => by
        show (if k = (m.kind, 0) then (fun i => if i = m.from_ then some (vz S sh) else a.ta (m.kind, 0) i) else a.ta k) j = _
        by_cases hk : k = (m.kind, 0)
        · subst hk
          rw [if_pos rfl]
          by_cases hj : j = m.from_
          · rw [if_pos hj, if_pos ⟨rfl, hj⟩]
          · rw [if_neg hj, if_neg (fun e => hj e.2)]
        · rw [if_neg hk, if_neg (fun e => hk e.1)]
      have grow : ∀ k j u, a.ta k j = some u → (a.setTa (m.kind, 0) m.from_ (vz S sh)).ta k j = some u := fun k j u e => by
        rw [hta]
        by_cases hk : k = (m.kind, 0) ∧ j = m.from_
        · rw [hk.1, hk.2, hnone] at e; cases e
        · rw [if_neg hk]; exact e
      have hg : GI S sh i (a.setTa (m.kind, 0) m.from_ (vz S sh)) := ⟨h.S_, h.me, h.sh_, h.own, h.rd, ⟨h.fine.1, h.fine.2, h.fine.3, h.fine.4⟩, h.pr, fun k j u e => by
        rw [hta] at e
        by_cases hk : k = (m.kind, 0) ∧ j = m.from_
        · rw [if_pos hk] at e
          refine ⟨?_, (Option.some.inj e).symm⟩
          rcases v3 with e3 | e3 | e3
          · exact absurd e3 k1
          · left; rw [hk.1, e3]
          · right; rw [hk.1, e3]
        · rw [if_neg hk] at e; exact h.ta k j u e, fun e => ⟨(h.dc e).1, quo_more (h.dc e).2 fun j _ hj => grow _ _ _ hj⟩, h.lk, h.vd⟩
      obtain ⟨g, q⟩ := GI.follow h1 h7 _ _ (Nat.lt_succ_self _) hg
      refine ⟨g.gi, fun k j u e => ?_, fun k j u e => by rw [g.ta]; exact grow k j u e, fun r p e => by rw [g.pr]; exact e, ⟨fun e => absurd e k1, fun _ _ => by rw [g.ta, hta, if_pos ⟨rfl, rfl⟩]⟩, g.cnt, g.act, g.up, g.two, g.three, q⟩
      rw [g.ta, hta] at e
      by_cases hk : k = (m.kind, 0) ∧ j = m.from_
      · exact .inr ⟨hk.1, hk.2, k1⟩
      · rw [if_neg hk] at e; exact .inl e
    · rw [AR.hear_v1 hbad k1 he]
      refine ⟨h, fun _ _ _ e => .inl e, fun _ _ _ e => e, fun _ _ e => e, ⟨fun e => absurd e k1, fun _ hs => ?_⟩, by simp, (fun _ e => nomatch e), Int.le_refl _, .inl, .inl, hq⟩
      cases e : a.ta (m.kind, 0) m.from_ with
      | some u => rw [(h.ta _ _ _ e).2]
      | none =>
        exfalso
        apply he
        unfold voteE
        rw [v2, e, h.S_, if_neg (by omega), if_neg hs, if_neg (by simp), if_neg (by simp)]
/-- One starts. -/
theorem GI.start {S : List W64} {sh : Int} {i : Nat} {a : AR} (h : GI S sh i a) (h1 : 1 ≤ S.length) (h7 : S.length ≤ 7) (h0 : a.st = 0) (hi : i < S.length) :
    GR S sh i a a.start.2 a.start.1 ∧ (a.start.1.up = false ∨ a.start.1.step = none) ∧ 1 ≤ a.start.1.st ∧ (i = pz S sh → ∃ x ∈ a.start.2, x.kind = 1) := by
  have hvd := (h.vd h0).1
  have hdc := (h.vd h0).2
  unfold AR.start
  rw [if_neg (by omega)]
  have hb := (AR.begin_acts a 0).2
  have hg : GI S sh i (a.begin 0).1 := by
    rw [hb]
    exact ⟨h.S_, h.me, h.sh_, h.own, rfl, ⟨by show (0 : Int) ≤ 0; decide, by show (0 : Int) ≤ 60; decide, by show (0 : Int) ≤ 1; decide, by show (1 : Int) ≤ 3; decide⟩, h.pr, h.ta, h.dc, fun _ => h.lk (by omega), fun e => absurd (show (1 : Int) = 0 from e) (by decide)⟩
  have hp0 := prop0 hg h1
  have hacts : (a.begin 0).2.length = 1 ∧ (∀ x ∈ (a.begin 0).2, okAct S sh i x) ∧ (i = pz S sh → ∃ x ∈ (a.begin 0).2, x.kind = 1) := by
    have hme : (a.begin 0).1.me = i := hg.me
    unfold AR.begin at hp0 hme ⊢
    dsimp only at hp0 hme ⊢
    split
    · rename_i hne
      rw [if_pos hne] at hp0 hme
      refine ⟨rfl, fun x hx => .inl (by rw [List.mem_singleton.1 hx]; show (3 : Int) < 3 + 1; decide), fun e => ?_⟩
      exfalso
      have hne' : ¬ _ = _ := hne
      apply hne'
      have hp0 : ({ a with rd := 0, st := 1 } : AR).proposer 0 = (pz S sh : Nat) := hp0
      rw [hp0, h.me, e]
    · rename_i hne
      rw [if_neg (by omega)]
      have hpi : i = pz S sh := by
        rw [if_neg hne, if_neg (by omega)] at hp0
        have hne : ({ a with rd := 0, st := 1 } : AR).proposer 0 = a.me := Classical.byContradiction fun e => hne e
        have hp0 : ({ a with rd := 0, st := 1 } : AR).proposer 0 = (pz S sh : Nat) := hp0
        rw [hp0, h.me] at hne
        omega
      refine ⟨rfl, fun x hx => .inr (.inl ⟨hpi, ?_⟩), fun _ => ⟨_, List.mem_singleton.2 rfl, rfl⟩⟩
      rw [List.mem_singleton.1 hx, h.own, hpi]
      rfl
  have hphi : 1 + phi (a.begin 0).1 ≤ phi a := by
    rw [hb]
    unfold phi
    rw [if_pos hdc, if_pos hdc]
    show 1 + (1 + (3 - (1 : Int)).toNat + (if a.dn (5, 0) then 0 else 1) + (if a.dn (6, 0) then 0 else 1) + (if a.dn (8, 0) then 0 else 1)) ≤ _
    rw [h.rd, h0]
    omega
  obtain ⟨g, q⟩ := GI.follow h1 h7 _ _ (Nat.lt_succ_self _) hg
  have hst : (a.begin 0).1.st = 1 := by rw [hb]
  have hta : (a.begin 0).1.ta = a.ta := by rw [hb]
  have hpr : (a.begin 0).1.pr = a.pr := by rw [hb]
  refine ⟨⟨g.gi, g.ta.trans hta, g.pr.trans hpr, ?_, fun x hx => (List.mem_append.1 hx).elim (hacts.2.1 x) (g.act x), by have := g.up; dsimp only; omega, fun e => ?_, fun e => ?_⟩, q, by have := g.up; dsimp only; omega, fun e => ?_⟩
  · dsimp only
    rw [List.length_append]
    have := g.cnt
    have := hacts.1
    omega
  · rcases g.two e with e2 | ⟨x, hx, hk⟩
    · omega
    · exact .inr ⟨x, List.mem_append_right _ hx, hk⟩
  · rcases g.three e with e2 | ⟨x, hx, hk⟩
    · omega
    · exact .inr ⟨x, List.mem_append_right _ hx, hk⟩
  · obtain ⟨x, hx, hk⟩ := hacts.2.2 e
    exact ⟨x, List.mem_append_left _ hx, hk⟩
end Go.Proofs.YtncececcopalgaaDoor
