/- What the laws of one who agrees tell a state, and what becomes of it. No program in sight. -/
import Derived.Test.YtncececcopalgaaDoorW16
namespace Go.Proofs.YtncececcopalgaaDoor
open Go.RowKit
set_option linter.unusedVariables false
set_option linter.unusedSimpArgs false
structure OpE where
  do_ : Int
  kind : Int
  round : Int
  m : Msg
  good : Bool
def OpE.cells (o : OpE) : List Value := [it o.do_, it o.kind, it o.round] ++ o.m.cells ++ [.bool o.good]
@[simp] theorem OpE.len (o : OpE) : o.cells.length = 40 := by simp [OpE.cells]
def opsC (l : List OpE) : List Value := l.flatMap OpE.cells
def Msg0 : Msg := ⟨0, 0, 0, D0, 0⟩
def opAt (l : List OpE) (k : Nat) : OpE := l.getD k ⟨0, 0, 0, Msg0, false⟩
def actAt (l : List Act) (k : Nat) : Act := l.getD k ⟨0, 0, D0, 0⟩
theorem flat_drop {α : Type} {f : α → List Value} {n : Nat} (hn : ∀ a, (f a).length = n) : ∀ {l : List α} {k : Nat} (d : α), k < l.length → ((l.flatMap f).drop (k * n)).take n = f (l.getD k d)
  | [], _, _, h => by simp at h
  | x :: l, 0, _, _ => by rw [Nat.zero_mul, List.drop_zero]; exact List.take_left' (hn x)
  | x :: l, k + 1, d, h => by
    have := flat_drop hn (l := l) (k := k) d (by simpa using h)
    rw [show (k + 1) * n = n + k * n from by rw [Nat.add_mul, Nat.one_mul, Nat.add_comm], ← List.drop_drop, List.flatMap_cons, List.drop_left' (hn x)]
    exact this
theorem flat_get {α : Type} {f : α → List Value} {n : Nat} (hn : ∀ a, (f a).length = n) {l : List α} {k j : Nat} (d : α) (hk : k < l.length) (hj : j < n) : (l.flatMap f)[k * n + j]? = (f (l.getD k d))[j]? := by
  rw [← flat_drop hn d hk, List.getElem?_take, if_pos hj, List.getElem?_drop]
@[simp] theorem opsC_len (l : List OpE) : (opsC l).length = l.length * 40 := by
  unfold opsC
  induction l with
  | nil => rfl
  | cons a l ih => rw [List.flatMap_cons, List.length_append, ih, OpE.len, List.length_cons]; omega
theorem op_get {l : List OpE} {k j : Nat} (hk : k < l.length) (hj : j < 40) : (opsC l)[k * 40 + j]? = (opAt l k).cells[j]? := flat_get OpE.len _ hk hj
theorem op_do {l : List OpE} {k : Nat} (hk : k < l.length) : (opsC l)[k * 40]? = some (it (opAt l k).do_) := by
  have h := op_get (j := 0) hk (by decide)
  rw [Nat.add_zero] at h
  exact h
theorem op_kind {l : List OpE} {k : Nat} (hk : k < l.length) : (opsC l)[k * 40 + 1]? = some (it (opAt l k).kind) := op_get hk (by decide)
theorem op_round {l : List OpE} {k : Nat} (hk : k < l.length) : (opsC l)[k * 40 + 2]? = some (it (opAt l k).round) := op_get hk (by decide)
theorem op_good {l : List OpE} {k : Nat} (hk : k < l.length) : (opsC l)[k * 40 + 39]? = some (.bool (opAt l k).good) := by
  rw [op_get hk (by decide)]
  simp [OpE.cells, List.getElem?_append]
theorem op_m {l : List OpE} {k : Nat} (hk : k < l.length) : ((opsC l).drop (k * 40 + 3)).take 36 = (opAt l k).m.cells := by
  have h := flat_drop OpE.len (l := l) (k := k) ⟨0, 0, 0, Msg0, false⟩ hk
  have h2 : (((opsC l).drop (k * 40)).take 40).drop 3 = ((opsC l).drop (k * 40 + 3)).take 37 := by rw [List.drop_take, List.drop_drop]
  have h3 : ((opsC l).drop (k * 40 + 3)).take 36 = (((opsC l).drop (k * 40 + 3)).take 37).take 36 := by rw [List.take_take]; rfl
  rw [h3, ← h2]
  show ((((l.flatMap OpE.cells).drop (k * 40)).take 40).drop 3).take 36 = _
  rw [h]
  simp [OpE.cells, opAt, List.take_append]
theorem act_kind {l : List Act} {k : Nat} (hk : k < l.length) : (acC l)[k * 35]? = some (it (actAt l k).kind) := by
  have h := flat_get (f := Act.cells) (j := 0) Act.len ⟨0, 0, D0, 0⟩ hk (by decide)
  rw [Nat.add_zero] at h
  exact h
theorem act_kind0 {l : List Act} {k : Nat} (hk : k < l.length) : (acC l)[k * 35 + 0]? = some (it (actAt l k).kind) := flat_get (f := Act.cells) (j := 0) Act.len ⟨0, 0, D0, 0⟩ hk (by decide)
theorem act_round {l : List Act} {k : Nat} (hk : k < l.length) : (acC l)[k * 35 + 1]? = some (it (actAt l k).round) := flat_get Act.len _ hk (by decide)
theorem act_all {l : List Act} {k : Nat} (hk : k < l.length) : ((acC l).drop (k * 35)).take 35 = (actAt l k).cells := flat_drop Act.len _ hk
theorem act_val {l : List Act} {k : Nat} (hk : k < l.length) : ((acC l).drop (k * 35 + 2)).take 32 = dgC (actAt l k).value := by
  have h := act_all hk
  have h2 : (((acC l).drop (k * 35)).take 35).drop 2 = ((acC l).drop (k * 35 + 2)).take 33 := by rw [List.drop_take, List.drop_drop]
  have h3 : ((acC l).drop (k * 35 + 2)).take 32 = (((acC l).drop (k * 35 + 2)).take 33).take 32 := by rw [List.take_take]; rfl
  rw [h3, ← h2, h]
  simp [Act.cells, List.take_append]
theorem act_valid {l : List Act} {k : Nat} (hk : k < l.length) : (acC l)[k * 35 + 34]? = some (it (actAt l k).valid) := by
  show (l.flatMap Act.cells)[k * 35 + 34]? = _
  rw [flat_get Act.len ⟨0, 0, D0, 0⟩ hk (by decide)]
  simp [Act.cells, actAt, List.getElem?_append]
theorem act_34 (a : Act) : a.cells.toArray[34]? = some (it a.valid) := by simp [Act.cells, List.getElem?_append]
theorem act_ex (a : Act) : a.cells.toArray.extract 2 (2 + 32) = (a.value.1.map u8).toArray := by
  simp [Act.cells, List.take_append]
theorem take_act {l : List Act} {k : Nat} (hk : k < l.length) : l.take (k + 1) = l.take k ++ [actAt l k] := by
  rw [List.take_add_one, List.getElem?_eq_getElem hk, actAt, List.getD_eq_getElem?_getD, List.getElem?_eq_getElem hk]
  rfl
theorem actAt_mem {l : List Act} {k : Nat} (hk : k < l.length) : actAt l k ∈ l := by
  rw [actAt, List.getD_eq_getElem?_getD, List.getElem?_eq_getElem hk]
  exact List.getElem_mem hk
theorem acts_eq {l k : List Act} (hl : l.length = k.length) (h : ∀ j : Nat, j < l.length → actAt l j = actAt k j) : l = k := by
  refine List.ext_getElem hl fun i h1 h2 => ?_
  have := h i h1
  simpa [actAt, List.getD_eq_getElem?_getD, List.getElem?_eq_getElem, h1, h2] using this
namespace AR
def do1 (a : AR) (o : OpE) : AR × List Act × Int :=
  if o.do_ = 1 then (a.start.1, a.start.2, 0) else if o.do_ = 2 then a.hear o.m o.good else if o.do_ = 3 then ((a.timeout o.kind o.round).1, (a.timeout o.kind o.round).2, 0) else (a, [], 0)
/-! ### Whatever holds through a thing that happens -/
theorem follow_fine (a : AR) (h : a.Fine) : a.follow.1.Fine ∧ a.follow.2.length ≤ 610 := by
  have key : ∀ (n : Nat) (a : AR), a.mu < n → a.Fine → a.follow.1.Fine ∧ a.follow.2.length ≤ a.mu := by
    intro n
    induction n with
    | zero => intro a h; exact absurd h (Nat.not_lt_zero _)
    | succ n ih =>
      intro a hn hf
      by_cases hu : a.up = true
      · cases hs : a.step with
        | none => rw [follow_stop (.inr hs)]; exact ⟨hf, Nat.zero_le _⟩
        | some p =>
          obtain ⟨b, l⟩ := p
          have hm := step_mu hf hu hs
          rw [follow_step hf hu hs]
          have := ih b (by omega) hm.2.1
          exact ⟨this.1, by rw [List.length_append]; omega⟩
      · rw [follow_stop (.inl (by simpa using hu))]; exact ⟨hf, Nat.zero_le _⟩
  have h1 := key (a.mu + 1) a (Nat.lt_succ_self _) h
  have h2 := mu_le a h
  exact ⟨h1.1, by omega⟩
theorem hear1_fine {a : AR} (hf : a.Fine) (m : Msg) (g : Bool) : (a.hear1 m g).1.Fine := by
  unfold hear1
  split
  · exact hf
  · split <;> dsimp only <;> split <;> exact ⟨hf.1, hf.2, hf.3, hf.4⟩
theorem vote_fine {a : AR} (hf : a.Fine) {k : Int} (h0 : 0 ≤ k) (h3 : k ≤ 3) (v : D32) : (a.vote k v).1.Fine := ⟨hf.1, hf.2, h0, h3⟩
/-- A relation, and what holds of a state: rules keep to it, and all that is told. -/
structure Keeps (I : AR → Prop) (R : AR → List Act → AR → Prop) : Prop where
  nil : ∀ a, R a [] a
  app : ∀ a b c l k, R a l b → R b k c → R a (l ++ k) c
  rule : ∀ (a : AR) (i : Nat), I a → a.Fine → a.up = true → (a.rule i).2.2 = true → R a (a.rule i).2.1 (a.rule i).1 ∧ I (a.rule i).1
  start : ∀ a : AR, I a → a.Fine → a.st = 0 → R a (a.begin 0).2 (a.begin 0).1 ∧ I (a.begin 0).1
  hear : ∀ (a : AR) (m : Msg) (g : Bool), I a → a.Fine → R a [] (a.hear1 m g).1 ∧ I (a.hear1 m g).1
  vote : ∀ (a : AR) (k : Int), I a → a.Fine → a.dc.r < 0 → (k = 2 ∨ k = 3) → a.st + 1 = k → R a (a.vote k D0).2 (a.vote k D0).1 ∧ I (a.vote k D0).1
  next : ∀ a : AR, I a → a.Fine → a.dc.r < 0 → 0 < a.st → a.rd < 60 → R a (a.begin (a.rd + 1)).2 (a.begin (a.rd + 1)).1 ∧ I (a.begin (a.rd + 1)).1
theorem Keeps.follow {I : AR → Prop} {R : AR → List Act → AR → Prop} (h : Keeps I R) (a : AR) (hI : I a) (hf : a.Fine) : R a a.follow.2 a.follow.1 ∧ I a.follow.1 := by
  have key : ∀ (n : Nat) (a : AR), a.mu < n → I a → a.Fine → R a a.follow.2 a.follow.1 ∧ I a.follow.1 := by
    intro n
    induction n with
    | zero => intro a h; exact absurd h (Nat.not_lt_zero _)
    | succ n ih =>
      intro a hn hI hf
      by_cases hu : a.up = true
      · cases hs : a.step with
        | none => rw [follow_stop (.inr hs)]; exact ⟨h.nil a, hI⟩
        | some p =>
          obtain ⟨b, l⟩ := p
          have hm := step_mu hf hu hs
          rw [follow_step hf hu hs]
          have h1 : R a l b ∧ I b := by
            unfold step at hs
            obtain ⟨i, hi, he⟩ := Option.map_eq_some_iff.1 hs
            simp only [Prod.mk.injEq] at he
            obtain ⟨rfl, rfl⟩ := he
            exact h.rule a i hI hf hu (find_mem hi).2
          have h2 := ih b (by omega) h1.2 hm.2.1
          exact ⟨h.app _ _ _ _ _ h1.1 h2.1, h2.2⟩
      · rw [follow_stop (.inl (by simpa using hu))]; exact ⟨h.nil a, hI⟩
  exact key (a.mu + 1) a (Nat.lt_succ_self _) hI hf
theorem Keeps.do1 {I : AR → Prop} {R : AR → List Act → AR → Prop} (h : Keeps I R) (a : AR) (o : OpE) (hI : I a) (hf : a.Fine) : R a (a.do1 o).2.1 (a.do1 o).1 ∧ I (a.do1 o).1 ∧ (a.do1 o).1.Fine ∧ (a.do1 o).2.1.length ≤ 620 := by
  unfold AR.do1
  split
  · dsimp only
    unfold AR.start
    split
    · exact ⟨h.nil a, hI, hf, Nat.zero_le _⟩
    · rename_i h1
      have f3 := hf.3
      have b := begin_fine (a := a) (r := 0) (by decide) (by decide)
      have s := h.start a hI hf (by omega)
      have c := follow_fine _ b.1
      have d := h.follow _ s.2 b.1
      exact ⟨h.app _ _ _ _ _ s.1 d.1, d.2, c.1, by dsimp only; rw [List.length_append]; have := b.2.2.2.2.2; omega⟩
  · split
    · unfold AR.hear
      have c := follow_fine _ (hear1_fine hf o.m o.good)
      have s := h.hear a o.m o.good hI hf
      split
      · have d := h.follow _ s.2 (hear1_fine hf o.m o.good)
        exact ⟨by have := h.app _ _ _ _ _ s.1 d.1; simpa using this, d.2, c.1, by dsimp only; omega⟩
      · exact ⟨s.1, s.2, hear1_fine hf o.m o.good, Nat.zero_le _⟩
    · split
      · dsimp only
        unfold AR.timeout
        split
        · exact ⟨h.nil a, hI, hf, Nat.zero_le _⟩
        · rename_i h1
          simp only [not_or] at h1
          have f3 := hf.3
          have t1 : (R a (a.timeout1 o.kind).2 (a.timeout1 o.kind).1 ∧ I (a.timeout1 o.kind).1) ∧ (a.timeout1 o.kind).1.Fine ∧ (a.timeout1 o.kind).2.length ≤ 1 := by
            unfold AR.timeout1
            split
            · exact ⟨h.vote a 2 hI hf (by omega) (.inl rfl) (by omega), vote_fine hf (by decide) (by decide) _, Nat.le_refl _⟩
            · split
              · exact ⟨h.vote a 3 hI hf (by omega) (.inr rfl) (by omega), vote_fine hf (by decide) (by decide) _, Nat.le_refl _⟩
              · split
                · rename_i h6
                  have f1 := hf.1
                  have b := begin_fine (a := a) (r := a.rd + 1) (by omega) (by omega)
                  exact ⟨h.next a hI hf (by omega) (by omega) h6.2, b.1, by rw [b.2.2.2.2.2]; exact Nat.le_refl _⟩
                · exact ⟨⟨h.nil a, hI⟩, hf, Nat.zero_le _⟩
          have c := follow_fine _ t1.2.1
          have d := h.follow _ t1.1.2 t1.2.1
          exact ⟨h.app _ _ _ _ _ t1.1.1 d.1, d.2, c.1, by dsimp only; rw [List.length_append]; omega⟩
      · exact ⟨h.nil a, hI, hf, Nat.zero_le _⟩
/-! ### What a rule does to rounds, steps, locks -/
theorem begin_acts (a : AR) (r : Int) : (∃ x, (a.begin r).2 = [x] ∧ (3 < x.kind ∨ (x.kind = 1 ∧ x.round = r))) ∧ (a.begin r).1 = { a with rd := r, st := 1 } := by
  unfold begin
  dsimp only
  split
  · exact ⟨⟨_, rfl, .inl (by show (3 : Int) < 4; decide)⟩, rfl⟩
  · split
    · exact ⟨⟨_, rfl, .inr ⟨rfl, rfl⟩⟩, rfl⟩
    · exact ⟨⟨_, rfl, .inr ⟨rfl, rfl⟩⟩, rfl⟩
/-- The ways of a rule that is followed. -/
theorem rule_ways {a : AR} {i : Nat} (hi : (a.rule i).2.2 = true) :
    (∃ r v, (a.rule i).1 = { a with dc := ⟨v, r⟩ } ∧ (a.rule i).2.1 = [⟨7, r, v, 0⟩] ∧ 0 ≤ r ∧ (∃ p, a.pr r = some p ∧ v = p.v ∧ a.quorum 3 r v = true)) ∨
    (∃ r, a.rd < r ∧ r ≤ 60 ∧ a.skipP r = true ∧ (a.rule i).1 = (a.begin r).1 ∧ (a.rule i).2.1 = (a.begin r).2) ∨
    (∃ p, a.st = 1 ∧ a.pr a.rd = some p ∧ ¬ (0 ≤ p.valid ∧ a.quorum 2 p.valid p.v = false) ∧ (a.rule i).1 = (a.vote 2 (a.wOf p)).1 ∧ (a.rule i).2.1 = (a.vote 2 (a.wOf p)).2) ∨
    (∃ x, 3 < x.kind ∧ (a.rule i).2.1 = [x] ∧ ∃ k, (a.rule i).1 = a.done k) ∨
    (∃ p, a.st ≠ 2 ∧ 2 ≤ a.st ∧ a.pr a.rd = some p ∧ p.good = true ∧ a.quorum 2 a.rd p.v = true ∧ (a.rule i).1 = { a.done 6 with vd := ⟨p.v, a.rd⟩ } ∧ (a.rule i).2.1 = []) ∨
    (∃ p, a.st = 2 ∧ a.pr a.rd = some p ∧ p.good = true ∧ a.quorum 2 a.rd p.v = true ∧ (a.rule i).1 = (({ a.done 6 with vd := ⟨p.v, a.rd⟩, lk := ⟨p.v, a.rd⟩ } : AR).vote 3 p.v).1 ∧ (a.rule i).2.1 = (a.vote 3 p.v).2) ∨
    (a.st = 2 ∧ a.quorum 2 a.rd D0 = true ∧ (a.rule i).1 = (a.vote 3 D0).1 ∧ (a.rule i).2.1 = (a.vote 3 D0).2) := by
  match i, hi with
  | 0, hi =>
    refine .inl ?_
    have hi : a.decideR.2.2 = true := hi
    show ∃ r v, a.decideR.1 = _ ∧ a.decideR.2.1 = _ ∧ _
    unfold decideR at hi ⊢
    split at hi
    · rename_i r hr
      have hd := (find_mem hr).2
      unfold decideP at hd
      cases hp : a.pr (r : Int) with
      | none => rw [hp] at hd; cases hd
      | some p =>
        rw [hp] at hd
        exact ⟨(r : Int), p.v, rfl, rfl, by omega, p, hp, rfl, hd⟩
    · cases hi
  | 1, hi =>
    refine .inr (.inl ?_)
    have hi : a.skip.2.2 = true := hi
    show ∃ r, _ ∧ _ ∧ _ ∧ a.skip.1 = _ ∧ a.skip.2.1 = _
    unfold skip at hi ⊢
    split at hi
    · rename_i k hk
      obtain ⟨k1, k2⟩ := find_mem hk
      exact ⟨60 - (k : Int), (of_decide_eq_true k2).1, by omega, k2, rfl, rfl⟩
    · cases hi
  | 2, hi =>
    refine .inr (.inr (.inl ?_))
    have hi : a.prevote.2.2 = true := hi
    by_cases h1 : a.st = 1
    · cases hp : a.pr a.rd with
      | none => rw [prevote_no2 h1 hp] at hi; cases hi
      | some p =>
        by_cases hq : 0 ≤ p.valid ∧ a.quorum 2 p.valid p.v = false
        · rw [prevote_no3 h1 hp hq.1 hq.2] at hi; cases hi
        · have := prevote_yes h1 hp hq
          exact ⟨p, h1, rfl, hq, by show a.prevote.1 = _; rw [this], by show a.prevote.2.1 = _; rw [this]⟩
    · rw [prevote_no1 h1] at hi; cases hi
  | 3, hi =>
    refine .inr (.inr (.inr (.inl ?_)))
    have hi : a.wait.2.2 = true := hi
    show ∃ x, _ ∧ a.wait.2.1 = _ ∧ ∃ k, a.wait.1 = _
    unfold wait at hi ⊢
    split at hi
    · cases hi
    · rename_i h
      rw [if_neg h]
      exact ⟨_, by show (3 : Int) < 3 + 2; decide, rfl, 5, rfl⟩
  | 4, hi =>
    have hi : a.lock.2.2 = true := hi
    by_cases h2 : a.st < 2
    · rw [lock_no1 h2] at hi; cases hi
    · cases hp : a.pr a.rd with
      | none => rw [lock_no2 h2 hp] at hi; cases hi
      | some p =>
        by_cases hn : p.good = false ∨ a.quorum 2 a.rd p.v = false ∨ a.dn (6, a.rd) = true
        · rw [lock_no3 h2 hp hn] at hi; cases hi
        · simp only [not_or, Bool.not_eq_false, Bool.not_eq_true] at hn
          by_cases hs : a.st = 2
          · have := lock_yes2 hp hn.1 hn.2.1 hn.2.2 hs
            exact .inr (.inr (.inr (.inr (.inr (.inl ⟨p, hs, rfl, hn.1, hn.2.1, by show a.lock.1 = _; rw [this], by show a.lock.2.1 = _; rw [this]⟩)))))
          · have := lock_yes1 h2 hp hn.1 hn.2.1 hn.2.2 hs
            exact .inr (.inr (.inr (.inr (.inl ⟨p, hs, by omega, rfl, hn.1, hn.2.1, by show a.lock.1 = _; rw [this], by show a.lock.2.1 = _; rw [this]⟩))))
  | 5, hi =>
    refine .inr (.inr (.inr (.inr (.inr (.inr ?_)))))
    have hi : a.pass.2.2 = true := hi
    show _ ∧ _ ∧ a.pass.1 = _ ∧ a.pass.2.1 = _
    unfold pass at hi ⊢
    dsimp only at hi ⊢
    split at hi
    · cases hi
    · rename_i h
      rw [if_neg h]
      simp only [not_or, Classical.not_not, Bool.not_eq_false] at h
      exact ⟨h.1, h.2, rfl, rfl⟩
  | i + 6, hi =>
    refine .inr (.inr (.inr (.inl ?_)))
    have hi : a.end_.2.2 = true := hi
    show ∃ x, _ ∧ a.end_.2.1 = _ ∧ ∃ k, a.end_.1 = _
    unfold end_ at hi ⊢
    split at hi
    · cases hi
    · rename_i h
      rw [if_neg h]
      exact ⟨_, by show (3 : Int) < 3 + 3; decide, rfl, 8, rfl⟩
theorem hear1_ways (a : AR) (m : Msg) (g : Bool) : (a.hear1 m g).1 = a ∨ ((a.hear1 m g).2 = 0 ∧ ((∃ p : Prp, p.v = m.value ∧ m.value ≠ D0 ∧ p.good = g ∧ p.valid = m.valid ∧ m.kind = 1 ∧ m.valid < m.round ∧ m.from_ = a.proposer m.round ∧ a.pr m.round = none ∧ ¬ a.badMsg m ∧ (a.hear1 m g).1 = a.setPr m.round p) ∨
    (m.kind ≠ 1 ∧ ¬ a.badMsg m ∧ voteE a.S (a.ta (m.kind, m.round)) m.from_ m.value = 0 ∧ (a.hear1 m g).1 = a.setTa (m.kind, m.round) m.from_ m.value))) := by
  unfold hear1
  split
  · exact .inl rfl
  · rename_i hb
    split
    · rename_i hk
      dsimp only
      split
      · rename_i he
        refine .inr ⟨he, .inl ⟨⟨m.value, m.valid, g⟩, rfl, ?_, rfl, rfl, hk, ?_, ?_, ?_, hb, rfl⟩⟩
        all_goals
          unfold hearE at he
          split at he
          · cases he
          · rename_i hn
            simp only [not_or, Classical.not_not] at hn
            split at he
            · split at he <;> cases he
            · rename_i hp
              first | exact hn.2.2.2 | exact hn.2.2.1 | exact hp | omega
      · exact .inl rfl
    · rename_i hk
      dsimp only
      split
      · rename_i he
        exact .inr ⟨he, .inr ⟨hk, hb, he, rfl⟩⟩
      · exact .inl rfl
/-! ### Nobody votes twice -/
def rank (a : AR) : Int := a.rd * 4 + a.st
def arank (x : Act) : Int := x.round * 4 + x.kind
def Rise (a : AR) (l : List Act) (b : AR) : Prop :=
  a.rank ≤ b.rank ∧ (∀ x ∈ l, x.kind ≤ 3 → a.rank < arank x ∧ arank x ≤ b.rank) ∧ ∀ (j k : Nat), j < k → k < l.length → (actAt l j).kind ≤ 3 → (actAt l k).kind ≤ 3 → arank (actAt l j) < arank (actAt l k)
theorem actAt_app1 {l k : List Act} {j : Nat} (h : j < l.length) : actAt (l ++ k) j = actAt l j := by
  simp [actAt, List.getD_eq_getElem?_getD, List.getElem?_append_left h]
theorem actAt_app2 {l k : List Act} {j : Nat} (h : l.length ≤ j) : actAt (l ++ k) j = actAt k (j - l.length) := by
  simp [actAt, List.getD_eq_getElem?_getD, List.getElem?_append_right h]
theorem Rise.one {a b : AR} {x : Act} (h1 : a.rank ≤ b.rank) (h2 : x.kind ≤ 3 → a.rank < arank x ∧ arank x ≤ b.rank) : Rise a [x] b :=
  ⟨h1, fun y hy hk => by obtain rfl := List.mem_singleton.1 hy; exact h2 hk, fun j k hj hk => by simp at hk; omega⟩
theorem Rise.none {a b : AR} (h1 : a.rank ≤ b.rank) : Rise a [] b := ⟨h1, fun y hy => (by cases hy), fun j k hj hk => absurd hk (Nat.not_lt_zero _)⟩
theorem Rise.app {a b c : AR} {l k : List Act} (h1 : Rise a l b) (h2 : Rise b k c) : Rise a (l ++ k) c := by
  refine ⟨Int.le_trans h1.1 h2.1, fun x hx hk => ?_, fun i j hij hj ki kj => ?_⟩
  · rcases List.mem_append.1 hx with hx | hx
    · have := h1.2.1 x hx hk; have := h2.1; omega
    · have := h2.2.1 x hx hk; have := h1.1; omega
  · rw [List.length_append] at hj
    by_cases hjl : j < l.length
    · rw [actAt_app1 hjl] at kj ⊢
      rw [actAt_app1 (by omega)] at ki ⊢
      exact h1.2.2 i j hij hjl ki kj
    · rw [actAt_app2 (Nat.le_of_not_lt hjl)] at kj ⊢
      by_cases hil : i < l.length
      · rw [actAt_app1 hil] at ki ⊢
        have a1 := h1.2.1 _ (actAt_mem hil) ki
        have a2 := h2.2.1 _ (actAt_mem (show j - l.length < k.length by omega)) kj
        omega
      · rw [actAt_app2 (Nat.le_of_not_lt hil)] at ki ⊢
        exact h2.2.2 _ _ (by omega) (by omega) ki kj
/-- A value is locked just with a precommit for it. -/
def Lk (a : AR) (l : List Act) (b : AR) : Prop := b.lk = a.lk ∨ (a.lk.r < b.lk.r ∧ b.lk.v ≠ D0 ∧ ∃ x ∈ l, x.kind = 3 ∧ x.round = b.lk.r ∧ x.value = b.lk.v)
theorem Lk.app {a b c : AR} {l k : List Act} (h1 : Lk a l b) (h2 : Lk b k c) : Lk a (l ++ k) c := by
  rcases h2 with h2 | ⟨h2, h3, x, hx, h4⟩
  · rcases h1 with h1 | ⟨h1, h3, x, hx, h4⟩
    · exact .inl (h2.trans h1)
    · exact .inr (by rw [h2]; exact ⟨h1, h3, x, List.mem_append_left _ hx, h4⟩)
  · refine .inr ⟨?_, h3, x, List.mem_append_right _ hx, h4⟩
    rcases h1 with h1 | ⟨h1, _⟩
    · rw [← h1]; exact h2
    · omega
structure I0 (a : AR) : Prop where
  zero : a.st = 0 → a.rd = 0 ∧ a.lk.r < 0 ∧ a.dc.r < 0
  le : a.lk.r ≤ a.rd
  three : a.lk.r = a.rd → a.st = 3
  some_ : ∀ r p, a.pr r = some p → p.v ≠ D0
theorem once_keeps : Keeps I0 (fun a l b => Rise a l b ∧ Lk a l b) where
  nil a := ⟨Rise.none (Int.le_refl _), .inl rfl⟩
  app a b c l k h1 h2 := ⟨h1.1.app h2.1, h1.2.app h2.2⟩
  rule a i hI hf hu hi := by
    obtain ⟨f1, f2, f3, f4⟩ := hf
    obtain ⟨u1, u2⟩ : 0 < a.st ∧ a.dc.r < 0 := of_decide_eq_true hu
    have z := hI.le
    have z3 := hI.three
    rcases rule_ways hi with ⟨r, v, e1, e2, _⟩ | ⟨r, h1, h2, _, e1, e2⟩ | ⟨p, h1, _, _, e1, e2⟩ | ⟨x, hx, e2, k, e1⟩ | ⟨p, _, _, _, _, _, e1, e2⟩ | ⟨p, h1, hp, _, _, e1, e2⟩ | ⟨h1, _, e1, e2⟩
    all_goals rw [e1, e2]
    · exact ⟨⟨Rise.one (Int.le_refl _) (fun h => absurd h (by show ¬ (7 : Int) ≤ 3; decide)), .inl rfl⟩, ⟨fun h => absurd (show a.st = 0 from h) (by omega), hI.2, hI.3, hI.4⟩⟩
    · obtain ⟨⟨x, hx, hx2⟩, hb⟩ := begin_acts a r
      rw [hb, hx]
      have h3 : a.rank < r * 4 + 1 := by unfold rank; omega
      refine ⟨⟨Rise.one (Int.le_of_lt h3) (fun hk => ?_), .inl rfl⟩, ⟨fun h => absurd (show (1 : Int) = 0 from h) (by decide), by show a.lk.r ≤ r; omega, fun h => by have h : a.lk.r = r := h; omega, hI.4⟩⟩
      rcases hx2 with h | ⟨k1, k2⟩
      · omega
      · unfold arank; rw [k1, k2]; exact ⟨h3, Int.le_refl _⟩
    · exact ⟨⟨Rise.one (by show a.rd * 4 + a.st ≤ a.rd * 4 + 2; omega) (fun _ => ⟨by show a.rd * 4 + a.st < a.rd * 4 + 2; omega, Int.le_refl _⟩), .inl rfl⟩, ⟨fun h => absurd (show (2 : Int) = 0 from h) (by decide), hI.2, fun h => by have := z3 h; omega, hI.4⟩⟩
    · exact ⟨⟨Rise.one (Int.le_refl _) (fun h => absurd hx (by omega)), .inl rfl⟩, ⟨hI.1, hI.2, hI.3, hI.4⟩⟩
    · exact ⟨⟨Rise.none (Int.le_refl _), .inl rfl⟩, ⟨hI.1, hI.2, hI.3, hI.4⟩⟩
    · refine ⟨⟨Rise.one (by show a.rd * 4 + a.st ≤ a.rd * 4 + 3; omega) (fun _ => ⟨by show a.rd * 4 + a.st < a.rd * 4 + 3; omega, Int.le_refl _⟩), .inr ⟨?_, hI.4 _ _ hp, _, List.mem_singleton.2 rfl, rfl, rfl, rfl⟩⟩, ⟨fun h => absurd (show (3 : Int) = 0 from h) (by decide), Int.le_refl _, fun _ => rfl, hI.4⟩⟩
      show a.lk.r < a.rd
      have : a.lk.r ≠ a.rd := fun h => by have := z3 h; omega
      omega
    · exact ⟨⟨Rise.one (by show a.rd * 4 + a.st ≤ a.rd * 4 + 3; omega) (fun _ => ⟨by show a.rd * 4 + a.st < a.rd * 4 + 3; omega, Int.le_refl _⟩), .inl rfl⟩, ⟨fun h => absurd (show (3 : Int) = 0 from h) (by decide), hI.2, fun _ => rfl, hI.4⟩⟩
  start a hI hf h := by
    obtain ⟨⟨x, hx, hx2⟩, hb⟩ := begin_acts a 0
    obtain ⟨z1, z2, z3⟩ := hI.1 h
    rw [hb, hx]
    have h3 : a.rank < 0 * 4 + 1 := by unfold rank; omega
    refine ⟨⟨Rise.one (Int.le_of_lt h3) (fun hk => ?_), .inl rfl⟩, ⟨fun h => absurd (show (1 : Int) = 0 from h) (by decide), by show a.lk.r ≤ 0; omega, fun h => by have h : a.lk.r = 0 := h; omega, hI.4⟩⟩
    rcases hx2 with h | ⟨k1, k2⟩
    · omega
    · unfold arank; rw [k1, k2]; exact ⟨h3, Int.le_refl _⟩
  hear a m g hI hf := by
    rcases hear1_ways a m g with h | ⟨_, ⟨p, hv, hv0, _, _, _, _, _, _, _, h⟩ | ⟨_, _, _, h⟩⟩ <;> rw [h]
    · exact ⟨⟨Rise.none (Int.le_refl _), .inl rfl⟩, hI⟩
    · refine ⟨⟨Rise.none (Int.le_refl _), .inl rfl⟩, ⟨hI.1, hI.2, hI.3, fun r q hq => ?_⟩⟩
      have hq : (if r = m.round then some p else a.pr r) = some q := hq
      split at hq
      · obtain rfl := Option.some.inj hq; rw [hv]; exact hv0
      · exact hI.4 r q hq
    · exact ⟨⟨Rise.none (Int.le_refl _), .inl rfl⟩, ⟨hI.1, hI.2, hI.3, hI.4⟩⟩
  vote a k hI hf _ hk hs := by
    have z3 := hI.three
    have f3 := hf.3
    refine ⟨⟨Rise.one (by show a.rd * 4 + a.st ≤ a.rd * 4 + k; omega) (fun _ => ⟨by show a.rd * 4 + a.st < a.rd * 4 + k; omega, Int.le_refl _⟩), .inl rfl⟩, ⟨fun h => absurd (show k = 0 from h) (by omega), hI.2, fun h => ?_, hI.4⟩⟩
    have := z3 h
    show k = 3
    omega
  next a hI hf _ hs h := by
    obtain ⟨⟨x, hx, hx2⟩, hb⟩ := begin_acts a (a.rd + 1)
    rw [hb, hx]
    have f4 := hf.4
    have z := hI.le
    have h3 : a.rank < (a.rd + 1) * 4 + 1 := by unfold rank; omega
    refine ⟨⟨Rise.one (Int.le_of_lt h3) (fun hk => ?_), .inl rfl⟩, ⟨fun h => absurd (show (1 : Int) = 0 from h) (by decide), by show a.lk.r ≤ a.rd + 1; omega, fun h => by have h : a.lk.r = a.rd + 1 := h; omega, hI.4⟩⟩
    rcases hx2 with h | ⟨k1, k2⟩
    · omega
    · unfold arank; rw [k1, k2]; exact ⟨h3, Int.le_refl _⟩
/-- Whatever was told to do. -/
structure OnceI (a : AR) (d : List Act) : Prop where
  i : a.I0
  f : a.Fine
  le : ∀ x ∈ d, x.kind ≤ 3 → arank x ≤ a.rank
theorem OnceI.do1 {a : AR} {d : List Act} (h : OnceI a d) (o : OpE) : OnceI (a.do1 o).1 (d ++ (a.do1 o).2.1) ∧ a.rd ≤ (a.do1 o).1.rd ∧ (a.do1 o).2.1.length ≤ 620 ∧
    ∀ (k n : Nat), k < (a.do1 o).2.1.length → n < (d ++ (a.do1 o).2.1.take k).length → (actAt (a.do1 o).2.1 k).kind ≤ 3 → (actAt (d ++ (a.do1 o).2.1.take k) n).kind = (actAt (a.do1 o).2.1 k).kind → ¬ (actAt (d ++ (a.do1 o).2.1.take k) n).round = (actAt (a.do1 o).2.1 k).round := by
  obtain ⟨⟨⟨r1, r2, r3⟩, _⟩, hI, hF, hl⟩ := once_keeps.do1 a o h.i h.f
  refine ⟨⟨hI, hF, fun x hx hk => ?_⟩, ?_, hl, fun k n hk hn h3 h4 h5 => ?_⟩
  · rcases List.mem_append.1 hx with hx | hx
    · have := h.le x hx hk; omega
    · exact (r2 x hx hk).2
  · have f3 := h.f.3
    have g4 := hF.4
    have g3 := hF.3
    have f4 := h.f.4
    unfold rank at r1
    omega
  · have he : arank (actAt (d ++ (a.do1 o).2.1.take k) n) = arank (actAt (a.do1 o).2.1 k) := by unfold arank; rw [h4, h5]
    by_cases hnd : n < d.length
    · rw [actAt_app1 hnd] at he h4
      have a1 := h.le _ (actAt_mem hnd) (by omega)
      have a2 := (r2 _ (actAt_mem hk) h3).1
      omega
    · rw [List.length_append, List.length_take] at hn
      rw [actAt_app2 (by omega)] at he h4
      have hnk : n - d.length < k := by omega
      have ht : actAt ((a.do1 o).2.1.take k) (n - d.length) = actAt (a.do1 o).2.1 (n - d.length) := by
        simp [actAt, List.getD_eq_getElem?_getD, List.getElem?_take, hnk]
      rw [ht] at he h4
      have := r3 _ _ hnk hk (by omega) h3
      omega
theorem holds_do1 {a : AR} (hI : a.I0) (hf : a.Fine) (o : OpE) : (a.do1 o).1.I0 ∧ (a.do1 o).1.Fine ∧ (a.do1 o).2.1.length ≤ 620 ∧ Lk a (a.do1 o).2.1 (a.do1 o).1 := by
  obtain ⟨⟨_, h1⟩, h2, h3, h4⟩ := once_keeps.do1 a o hI hf
  exact ⟨h2, h3, h4, h1⟩
theorem hear1_keep (a : AR) (m : Msg) (g : Bool) : (a.hear1 m g).1.rd = a.rd ∧ (a.hear1 m g).1.st = a.st ∧ (a.hear1 m g).1.lk = a.lk ∧ (a.hear1 m g).1.vd = a.vd ∧ (a.hear1 m g).1.dc = a.dc := by
  rcases hear1_ways a m g with h | ⟨_, ⟨p, hv, hv0, _, _, _, _, _, _, _, h⟩ | ⟨_, _, _, h⟩⟩ <;> rw [h] <;> exact ⟨rfl, rfl, rfl, rfl, rfl⟩
theorem quiet_do1 {a : AR} (hI : a.I0) (hf : a.Fine) (o : OpE) (h : 0 ≤ a.dc.r ∨ (a.do1 o).2.2 ≠ 0) : (a.do1 o).2.1 = [] ∧ (a.do1 o).1.rd = a.rd ∧ (a.do1 o).1.st = a.st ∧ (a.do1 o).1.lk = a.lk ∧ (a.do1 o).1.vd = a.vd ∧ (a.do1 o).1.dc = a.dc := by
  have hz := hI.zero
  have f3 := hf.3
  unfold do1 at h ⊢
  split
  · rename_i h1
    rw [if_pos h1] at h
    rcases h with h | h
    · unfold start
      rw [if_pos (by
        have : a.st ≠ 0 := fun e => by have := (hz e).2.2; omega
        omega)]
      exact ⟨rfl, rfl, rfl, rfl, rfl, rfl⟩
    · exact absurd rfl h
  · rename_i h1
    rw [if_neg h1] at h
    split
    · rename_i h2
      rw [if_pos h2] at h
      have hk := hear1_keep a o.m o.good
      unfold hear at h ⊢
      split
      · rename_i he
        rw [if_pos he] at h
        rcases h with h | h
        · rw [follow_stop (.inl (decide_eq_false (fun h2 => by rw [hk.2.2.2.2] at h2; omega)))]
          exact ⟨rfl, hk⟩
        · exact absurd rfl h
      · exact ⟨rfl, hk⟩
    · rename_i h2
      rw [if_neg h2] at h
      split
      · rename_i h3
        rw [if_pos h3] at h
        rcases h with h | h
        · unfold timeout
          rw [if_pos (.inr (.inl h))]
          exact ⟨rfl, rfl, rfl, rfl, rfl, rfl⟩
        · exact absurd rfl h
      · exact ⟨rfl, rfl, rfl, rfl, rfl, rfl⟩
theorem new_I0 (S : List W64) (me sh : Int) (own : D32) : (new S me sh own).I0 := ⟨fun _ => ⟨rfl, by show (-1 : Int) < 0; decide, by show (-1 : Int) < 0; decide⟩, by show (-1 : Int) ≤ 0; decide, fun h => absurd (show (-1 : Int) = 0 from h) (by decide), fun _ _ h => nomatch h⟩
theorem new_Fine (S : List W64) (me sh : Int) (own : D32) : (new S me sh own).Fine := ⟨by show (0 : Int) ≤ 0; decide, by show (0 : Int) ≤ 60; decide, by show (0 : Int) ≤ 0; decide, by show (0 : Int) ≤ 3; decide⟩
end AR
theorem holds_no {a b : AR} {l : List Act} (h : AR.Lk a l b) : ¬ (b.lk.r < a.lk.r ∨ (b.lk.r = a.lk.r ∧ b.lk.v ≠ a.lk.v)) := by
  rcases h with h | ⟨h, _⟩
  · rw [h]; simp
  · omega
def foundK (l : List Act) (h : Held) (k : Nat) : Bool := (l.take k).any fun y => decide (y.kind = 3) && (decide (y.round = h.r) && decide (y.value = h.v))
theorem foundK_0 (l : List Act) (h : Held) : foundK l h 0 = false := rfl
theorem foundK_succ {l : List Act} {h : Held} {k : Nat} (hk : k < l.length) : foundK l h (k + 1) = (foundK l h k || (decide ((actAt l k).kind = 3) && (decide ((actAt l k).round = h.r) && decide ((actAt l k).value = h.v)))) := by
  unfold foundK
  rw [take_act hk, List.any_append]
  simp
theorem foundK_lk {a b : AR} {l : List Act} (h : AR.Lk a l b) (hr : a.lk.r < b.lk.r) : foundK l b.lk l.length = true ∧ b.lk.v ≠ D0 := by
  rcases h with h | ⟨_, h1, x, hx, h2, h3, h4⟩
  · rw [h] at hr; omega
  · refine ⟨?_, h1⟩
    unfold foundK
    rw [List.take_length, List.any_eq_true]
    exact ⟨x, hx, by simp [h2, h3, h4]⟩
/-- There is a state. -/
def NewGood (S : List W64) (me sh : Int) (own : D32) : Prop := 1 ≤ S.length ∧ S.length ≤ 40 ∧ sumS S < 9223372036854775808 ∧ ¬ (me < 0 ∨ (S.length : Int) ≤ me ∨ sh < 0 ∨ own = D0)
theorem NewGood.ok {S : List W64} {me sh : Int} {own : D32} (h : NewGood S me sh own) (hs : sh ≤ 9223372036854775807) (sv : Value) (bp bt bd : Nat) : (RA.newA sv bp bt bd S me sh own).Ok := by
  obtain ⟨h1, h2, h3, h4⟩ := h
  simp only [not_or] at h4
  exact RA.newA_ok h1 h2 h3 (by omega) (by omega) (by omega) hs
theorem sum_bound (S : List W64) : sumS S ≤ S.length * 18446744073709551616 := by
  induction S with
  | nil => exact Nat.zero_le _
  | cons x S ih =>
    have := x.isLt
    simp only [sumS, List.map_cons, List.sum_cons, List.length_cons] at ih ⊢
    omega
theorem newE_0 {S : List W64} (h : newE S = 0) : 1 ≤ S.length ∧ S.length ≤ 40 ∧ sumS S < 9223372036854775808 := by
  unfold newE at h
  split at h
  · cases h
  · split at h
    · cases h
    · rename_i h1 h2
      have h3 : totN S = sumS S := totN_sum (by
        have := sum_bound S
        have : S.length ≤ 40 := by omega
        omega)
      omega
/-! ### The chapter's examples -/
def dg1 (x : BitVec 8) : D32 := ⟨x :: List.replicate 31 0, by simp⟩
def awS : List W64 := [1, 1, 1, 1]
def aw0 : AR := AR.new awS 1 0 (dg1 9)
def aw1 : AR × List Act := aw0.start
def aw2 : AR × List Act × Int := aw1.1.hear ⟨1, 0, 0, dg1 1, -1⟩ true
def awR (kind : Int) (a : AR) : Nat → AR × List Act
  | 0 => (a, [])
  | n + 1 => (((awR kind a n).1.hear ⟨kind, 0, n, dg1 1, 0⟩ true).1, ((awR kind a n).1.hear ⟨kind, 0, n, dg1 1, 0⟩ true).2.1)
theorem awR_0 (k : Int) (a : AR) : awR k a 0 = (a, []) := rfl
def awA (k : Int) (v : D32) : Act := ⟨k, 0, v, 0⟩
theorem aw1_is : aw1.2 = [awA 4 D0] := by decide +kernel
theorem aw2_is : aw2.2.1 = [awA 2 (dg1 1)] := by decide +kernel
theorem aw3_is : (awR 2 aw2.1 3).2 = [awA 5 D0, awA 3 (dg1 1)] := by decide +kernel
theorem aw4_is : (awR 3 (awR 2 aw2.1 3).1 3).2 = [awA 7 (dg1 1)] := by decide +kernel
end Go.Proofs.YtncececcopalgaaDoor
