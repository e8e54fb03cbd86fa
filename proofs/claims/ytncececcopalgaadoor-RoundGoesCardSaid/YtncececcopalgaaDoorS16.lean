/- No two decide unlike values. No program in sight. -/
import Derived.Test.YtncececcopalgaaDoorY16
namespace Go.Proofs.YtncececcopalgaaDoor
open Go.RowKit
set_option linter.unusedVariables false
set_option linter.unusedSimpArgs false
/-! ### Two quorums have one in common who follows the rules -/
theorem quo_meet {S : List W64} {bad : List Bool} {g1 g2 : Int → Option D32} {u v : D32} (hb : 3 * badN S bad < sumS S) (h1 : Quo S g1 u) (h2 : Quo S g2 v) : ∃ i : Nat, i < S.length ∧ bad.getD i false = false ∧ g1 i = some u ∧ g2 i = some v := by
  apply Classical.byContradiction
  intro hn
  have key : byN S (fun i => decide (g1 i = some u) && decide (g2 i = some v)) ≤ badN S bad := byN_mono fun i hi hp => by
    simp only [Bool.and_eq_true, decide_eq_true_eq] at hp
    cases hbd : bad.getD i false with
    | true => rfl
    | false => exact absurd ⟨i, hi, hbd, hp⟩ hn
  have h3 := byN_or (S := S) (fun i => decide (g1 i = some u)) (fun i => decide (g2 i = some v))
  have h4 : byN S (fun i => decide (g1 i = some u) || decide (g2 i = some v)) ≤ sumS S := byN_le _
  have h5 : 2 * sumS S < 3 * byN S (fun i => decide (g1 i = some u)) := h1
  have h6 : 2 * sumS S < 3 * byN S (fun i => decide (g2 i = some v)) := h2
  omega
theorem quo_more {S : List W64} {g g' : Int → Option D32} {v : D32} (h : Quo S g v) (hg : ∀ i : Nat, i < S.length → g i = some v → g' i = some v) : Quo S g' v := by
  have h1 : 2 * sumS S < 3 * byN S (fun i => decide (g i = some v)) := h
  have h2 : byN S (fun i => decide (g i = some v)) ≤ byN S (fun i => decide (g' i = some v)) := byN_mono fun i hi hp => decide_eq_true (hg i hi (of_decide_eq_true hp))
  show 2 * sumS S < 3 * byN S (fun i => decide (g' i = some v))
  omega
namespace AR
/-- What holds of one who follows the rules. -/
structure IS (a : AR) : Prop where
  i : a.I0
  good : ∀ r p, a.pr r = some p → p.good = goodV p.v ∧ p.valid < r
/-- .. and of all that it has said. -/
structure SI (a : AR) (h : List Act) : Prop where
  le : ∀ x ∈ h, x.kind ≤ 3 → arank x ≤ a.rank
  one : ∀ x ∈ h, ∀ y ∈ h, x.kind ≤ 3 → y.kind = x.kind → y.round = x.round → y.value = x.value
  lock : ∀ x ∈ h, x.kind = 3 → x.value ≠ D0 → x.round ≤ a.lk.r ∧ (x.round = a.lk.r → a.lk.v = x.value) ∧ Quo a.S (a.ta (2, x.round)) x.value ∧ goodV x.value = true
  held : 0 ≤ a.lk.r → Quo a.S (a.ta (2, a.lk.r)) a.lk.v
  pre : ∀ y ∈ h, y.kind = 2 → y.value ≠ D0 → ∀ x ∈ h, x.kind = 3 → x.value ≠ D0 → x.round < y.round → y.value = x.value ∨ ∃ q, x.round ≤ q ∧ q < y.round ∧ Quo a.S (a.ta (2, q)) y.value
  dec : 0 ≤ a.dc.r → Quo a.S (a.ta (3, a.dc.r)) a.dc.v ∧ a.dc.v ≠ D0
  pos : ∀ x ∈ h, x.kind ≤ 3 → 0 ≤ x.round
end AR
namespace AR
theorem SI.move {a b : AR} {h : List Act} (s : SI a h) (hr : a.rank ≤ b.rank) (hS : b.S = a.S) (ht : b.ta = a.ta) (hlk : b.lk = a.lk ∨ (a.lk.r < b.lk.r ∧ Quo a.S (a.ta (2, b.lk.r)) b.lk.v)) (hdc : b.dc = a.dc ∨ (Quo a.S (a.ta (3, b.dc.r)) b.dc.v ∧ b.dc.v ≠ D0)) : SI b h where
  le x hx hk := Int.le_trans (s.le x hx hk) hr
  one := s.one
  lock x hx hk hv := by
    obtain ⟨h1, h2, h3, h4⟩ := s.lock x hx hk hv
    rw [hS, ht]
    rcases hlk with e | ⟨e, _⟩
    · rw [e]; exact ⟨h1, h2, h3, h4⟩
    · exact ⟨by omega, fun e2 => by omega, h3, h4⟩
  held h0 := by
    rw [hS, ht]
    rcases hlk with e | ⟨_, e⟩
    · rw [e] at h0 ⊢; exact s.held h0
    · exact e
  pre y hy hk hv x hx hk2 hv2 hr2 := by
    rw [hS, ht]
    exact s.pre y hy hk hv x hx hk2 hv2 hr2
  dec h0 := by
    rw [hS, ht]
    rcases hdc with e | e
    · rw [e] at h0 ⊢; exact s.dec h0
    · exact e
  pos := s.pos
theorem SI.push {b : AR} {h : List Act} {x : Act} (s : SI b h) (h1 : x.kind ≤ 3 → (∀ y ∈ h, y.kind ≤ 3 → arank y < arank x) ∧ arank x ≤ b.rank ∧ 0 ≤ x.round)
    (h3 : x.kind = 3 → x.value ≠ D0 → x.round ≤ b.lk.r ∧ (x.round = b.lk.r → b.lk.v = x.value) ∧ Quo b.S (b.ta (2, x.round)) x.value ∧ goodV x.value = true)
    (h2 : x.kind = 2 → x.value ≠ D0 → ∀ z ∈ h, z.kind = 3 → z.value ≠ D0 → z.round < x.round → x.value = z.value ∨ ∃ q, z.round ≤ q ∧ q < x.round ∧ Quo b.S (b.ta (2, q)) x.value) : SI b (h ++ [x]) where
  le y hy hk := by
    rcases List.mem_append.1 hy with hy | hy
    · exact s.le y hy hk
    · obtain rfl := List.mem_singleton.1 hy; exact (h1 hk).2.1
  one y hy z hz hk hzk hzr := by
    rcases List.mem_append.1 hy with hy1 | hy1
    · rcases List.mem_append.1 hz with hz1 | hz1
      · exact s.one y hy1 z hz1 hk hzk hzr
      · have e := List.mem_singleton.1 hz1
        have := (h1 (by rw [← e, hzk]; exact hk)).1 y hy1 hk
        rw [← e] at this
        unfold arank at this
        omega
    · have e := List.mem_singleton.1 hy1
      rcases List.mem_append.1 hz with hz1 | hz1
      · have := (h1 (by rw [← e]; exact hk)).1 z hz1 (by omega)
        rw [← e] at this
        unfold arank at this
        omega
      · rw [e, List.mem_singleton.1 hz1]
  lock y hy hk hv := by
    rcases List.mem_append.1 hy with hy | hy
    · exact s.lock y hy hk hv
    · obtain rfl := List.mem_singleton.1 hy; exact h3 hk hv
  held := s.held
  pre y hy hk hv z hz hk2 hv2 hr := by
    rcases List.mem_append.1 hy with hy1 | hy1
    · rcases List.mem_append.1 hz with hz1 | hz1
      · exact s.pre y hy1 hk hv z hz1 hk2 hv2 hr
      · have e := List.mem_singleton.1 hz1
        have := (h1 (by rw [← e]; omega)).1 y hy1 (by omega)
        rw [← e] at this
        unfold arank at this
        omega
    · have e := List.mem_singleton.1 hy1
      rcases List.mem_append.1 hz with hz1 | hz1
      · subst e; exact h2 hk hv z hz1 hk2 hv2 hr
      · rw [e] at hk; rw [List.mem_singleton.1 hz1] at hk2; omega
  dec := s.dec
  pos y hy hk := by
    rcases List.mem_append.1 hy with hy | hy
    · exact s.pos y hy hk
    · obtain rfl := List.mem_singleton.1 hy; exact (h1 hk).2.2
/-- More was heard. -/
theorem SI.heard {a b : AR} {h : List Act} (s : SI a h) (hr : b.rank = a.rank) (hS : b.S = a.S) (ht : ∀ k v, Quo a.S (a.ta k) v → Quo a.S (b.ta k) v) (hlk : b.lk = a.lk) (hdc : b.dc = a.dc) : SI b h where
  le x hx hk := by rw [hr]; exact s.le x hx hk
  one := s.one
  lock x hx hk hv := by
    obtain ⟨h1, h2, h3, h4⟩ := s.lock x hx hk hv
    rw [hS, hlk]
    exact ⟨h1, h2, ht _ _ h3, h4⟩
  held h0 := by rw [hS, hlk]; exact ht _ _ (s.held (by rw [← hlk]; exact h0))
  pre y hy hk hv x hx hk2 hv2 hr2 := by
    rw [hS]
    exact (s.pre y hy hk hv x hx hk2 hv2 hr2).imp id fun ⟨q, h1, h2, h3⟩ => ⟨q, h1, h2, ht _ _ h3⟩
  dec h0 := by rw [hS, hdc]; exact ⟨ht _ _ (s.dec (by rw [← hdc]; exact h0)).1, (s.dec (by rw [← hdc]; exact h0)).2⟩
  pos := s.pos
def RS (a : AR) (l : List Act) (b : AR) : Prop := (∀ h, SI a h → SI b (h ++ l)) ∧ b.ta = a.ta ∧ b.S = a.S ∧ b.pr = a.pr ∧ b.sh = a.sh ∧ b.me = a.me
theorem RS.nil (a : AR) : RS a [] a := ⟨fun h s => by rw [List.append_nil]; exact s, rfl, rfl, rfl, rfl, rfl⟩
theorem RS.app {a b c : AR} {l k : List Act} (h1 : RS a l b) (h2 : RS b k c) : RS a (l ++ k) c :=
  ⟨fun h s => by rw [← List.append_assoc]; exact h2.1 _ (h1.1 _ s), h2.2.1.trans h1.2.1, h2.2.2.1.trans h1.2.2.1, h2.2.2.2.1.trans h1.2.2.2.1, h2.2.2.2.2.1.trans h1.2.2.2.2.1, h2.2.2.2.2.2.trans h1.2.2.2.2.2⟩
/-- An act that is no vote for a value (a timer, a decision, a proposal, a vote for nothing), and the step behind it. -/
theorem RS.step {a b : AR} {x : Act} (hr : a.rank ≤ b.rank) (hx : x.kind ≤ 3 → a.rank < arank x ∧ arank x ≤ b.rank ∧ 0 ≤ x.round) (hn : x.kind = 2 ∨ x.kind = 3 → x.value = D0) (hS : b.S = a.S) (ht : b.ta = a.ta) (hlk : b.lk = a.lk) (hdc : b.dc = a.dc) (hp : b.pr = a.pr) (hsh : b.sh = a.sh) (hme : b.me = a.me) : RS a [x] b :=
  ⟨fun h s => (s.move hr hS ht (.inl hlk) (.inl hdc)).push (fun hk => ⟨fun y hy hyk => by have := s.le y hy hyk; have := (hx hk).1; omega, (hx hk).2⟩) (fun hk hv => absurd (hn (.inr hk)) hv) (fun hk hv => absurd (hn (.inl hk)) hv), ht, hS, hp, hsh, hme⟩
theorem begin_RS {a : AR} {r : Int} (hr : a.rank < r * 4 + 1) (h0 : 0 ≤ r) : RS a (a.begin r).2 (a.begin r).1 := by
  obtain ⟨⟨x, hx, hx2⟩, hb⟩ := begin_acts a r
  rw [hb, hx]
  refine RS.step (by show a.rank ≤ r * 4 + 1; omega) (fun hk => ?_) (fun hk => ?_) rfl rfl rfl rfl rfl rfl rfl
  · rcases hx2 with h | ⟨k1, k2⟩
    · omega
    · unfold arank; rw [k1, k2]; exact ⟨hr, Int.le_refl _, h0⟩
  · rcases hx2 with h | ⟨k1, k2⟩ <;> omega
theorem rule_RS {a : AR} {i : Nat} (hI : IS a) (hf : a.Fine) (hu : a.up = true) (hi : (a.rule i).2.2 = true) : RS a (a.rule i).2.1 (a.rule i).1 ∧ IS (a.rule i).1 := by
  have hO := (once_keeps.rule a i hI.i hf hu hi).2
  obtain ⟨f1, f2, f3, f4⟩ := hf
  refine ⟨?_, ⟨hO, ?_⟩⟩
  · rcases rule_ways hi with ⟨r, v, e1, e2, h0, p, hp, hv, hq⟩ | ⟨r, h1, h2, _, e1, e2⟩ | ⟨p, h1, hp, hq, e1, e2⟩ | ⟨x, hx, e2, k, e1⟩ | ⟨p, _, _, _, _, _, e1, e2⟩ | ⟨p, h1, hp, hg, hq, e1, e2⟩ | ⟨h1, _, e1, e2⟩
    all_goals rw [e1, e2]
    · refine ⟨fun h s => ?_, rfl, rfl, rfl, rfl, rfl⟩
      refine SI.push (s.move (Int.le_refl _) rfl rfl (.inl rfl) (.inr ⟨of_decide_eq_true hq, ?_⟩)) (fun hk => absurd hk (by show ¬ (7 : Int) ≤ 3; decide)) (fun hk => absurd hk (by show ¬ (7 : Int) = 3; decide)) (fun hk => absurd hk (by show ¬ (7 : Int) = 2; decide))
      show v ≠ D0
      rw [hv]
      exact hI.i.some_ r p hp
    · exact begin_RS (by unfold rank; omega) (by omega)
    · have hrank : a.rank < a.rd * 4 + 2 := by unfold rank; omega
      refine ⟨fun h s => ?_, rfl, rfl, rfl, rfl, rfl⟩
      refine SI.push (s.move (Int.le_of_lt hrank) rfl rfl (.inl rfl) (.inl rfl)) (fun _ => ⟨fun y hy hyk => by have := s.le y hy hyk; show arank y < a.rd * 4 + 2; omega, Int.le_refl _, f1⟩) (fun hk => absurd hk (by show ¬ (2 : Int) = 3; decide)) (fun _ hv z hz hzk hzv hzr => ?_)
      have hv : a.wOf p ≠ D0 := hv
      have hzr : z.round < a.rd := hzr
      show a.wOf p = z.value ∨ ∃ q, z.round ≤ q ∧ q < a.rd ∧ Quo a.S (a.ta (2, q)) (a.wOf p)
      unfold wOf at hv ⊢
      split
      · rename_i hw
        obtain ⟨l1, l2, l3, l4⟩ := s.lock z hz hzk hzv
        have z0 := s.pos z hz (by omega)
        have hgd := hI.good _ _ hp
        rcases hw.2 with hw | hw
        · refine .inr ⟨p.valid, by omega, hgd.2, ?_⟩
          have : a.quorum 2 p.valid p.v = true := by
            cases hh : a.quorum 2 p.valid p.v with
            | true => rfl
            | false => exact absurd ⟨by omega, hh⟩ hq
          exact of_decide_eq_true this
        · by_cases e : z.round = a.lk.r
          · exact .inl (by rw [← hw]; exact l2 e)
          · have h3 := hI.i.three
            have h4 := hI.i.le
            refine .inr ⟨a.lk.r, l1, ?_, by rw [← hw]; exact s.held (by omega)⟩
            have : a.lk.r ≠ a.rd := fun e => by have := h3 e; omega
            omega
      · rename_i hw
        rw [if_neg hw] at hv
        exact absurd rfl hv
    · exact RS.step (Int.le_refl _) (fun h => absurd hx (by omega)) (fun h => by omega) rfl rfl rfl rfl rfl rfl rfl
    · exact ⟨fun h s => by rw [List.append_nil]; exact s.move (Int.le_refl _) rfl rfl (.inl rfl) (.inl rfl), rfl, rfl, rfl, rfl, rfl⟩
    · have hrank : a.rank < a.rd * 4 + 3 := by unfold rank; omega
      have h3 := hI.i.three
      have h4 := hI.i.le
      have hlt : a.lk.r < a.rd := by
        have : a.lk.r ≠ a.rd := fun e => by have := h3 e; omega
        omega
      have hQ : Quo a.S (a.ta (2, a.rd)) p.v := of_decide_eq_true hq
      have hgd := hI.good _ _ hp
      refine ⟨fun h s => ?_, rfl, rfl, rfl, rfl, rfl⟩
      refine SI.push (s.move (Int.le_of_lt hrank) rfl rfl (.inr ⟨hlt, hQ⟩) (.inl rfl)) (fun _ => ⟨fun y hy hyk => by have := s.le y hy hyk; show arank y < a.rd * 4 + 3; omega, Int.le_refl _, f1⟩) (fun _ _ => ⟨Int.le_refl _, fun _ => rfl, hQ, by show goodV p.v = true; rw [← hgd.1]; exact hg⟩) (fun hk => absurd hk (by show ¬ (3 : Int) = 2; decide))
    · exact RS.step (by show a.rd * 4 + a.st ≤ a.rd * 4 + 3; omega) (fun _ => ⟨by show a.rd * 4 + a.st < a.rd * 4 + 3; omega, Int.le_refl _, f1⟩) (fun _ => rfl) rfl rfl rfl rfl rfl rfl rfl
  · have hpr : (a.rule i).1.pr = a.pr := by
      rcases rule_ways hi with ⟨r, v, e1, e2, h0, p, hp, hv, hq⟩ | ⟨r, h1, h2, _, e1, e2⟩ | ⟨p, h1, hp, hq, e1, e2⟩ | ⟨x, hx, e2, k, e1⟩ | ⟨p, _, _, _, _, _, e1, e2⟩ | ⟨p, h1, hp, hg, hq, e1, e2⟩ | ⟨h1, _, e1, e2⟩ <;> rw [e1] <;> first | rfl | (rw [(begin_acts a r).2])
    intro r p hp
    rw [hpr] at hp
    exact hI.good r p hp
theorem follow_RS {a : AR} (hI : IS a) (hf : a.Fine) : RS a a.follow.2 a.follow.1 ∧ IS a.follow.1 := by
  have key : ∀ (n : Nat) (a : AR), a.mu < n → IS a → a.Fine → RS a a.follow.2 a.follow.1 ∧ IS a.follow.1 := by
    intro n
    induction n with
    | zero => intro a h; exact absurd h (Nat.not_lt_zero _)
    | succ n ih =>
      intro a hn hI hf
      by_cases hu : a.up = true
      · cases hs : a.step with
        | none => rw [follow_stop (.inr hs)]; exact ⟨RS.nil a, hI⟩
        | some p =>
          obtain ⟨b, l⟩ := p
          have hm := step_mu hf hu hs
          rw [follow_step hf hu hs]
          have h1 : RS a l b ∧ IS b := by
            unfold step at hs
            obtain ⟨i, hi, he⟩ := Option.map_eq_some_iff.1 hs
            simp only [Prod.mk.injEq] at he
            obtain ⟨rfl, rfl⟩ := he
            exact rule_RS hI hf hu (find_mem hi).2
          have h2 := ih b (by omega) h1.2 hm.2.1
          exact ⟨h1.1.app h2.1, h2.2⟩
      · rw [follow_stop (.inl (by simpa using hu))]; exact ⟨RS.nil a, hI⟩
  exact key (a.mu + 1) a (Nat.lt_succ_self _) hI hf
theorem start_RS {a : AR} (hI : IS a) (hf : a.Fine) : RS a a.start.2 a.start.1 ∧ IS a.start.1 ∧ a.start.1.Fine := by
  unfold start
  split
  · exact ⟨RS.nil a, hI, hf⟩
  · rename_i h1
    have f3 := hf.3
    have b := begin_fine (a := a) (r := 0) (by decide) (by decide)
    have h0 := (once_keeps.start a hI.i hf (by omega)).2
    have hz := hI.i.zero (by omega)
    have hI2 : IS (a.begin 0).1 := ⟨h0, by rw [(begin_acts a 0).2]; exact hI.good⟩
    have d := follow_RS hI2 b.1
    exact ⟨(begin_RS (by unfold rank; omega) (Int.le_refl 0)).app d.1, d.2, (follow_fine _ b.1).1⟩
theorem timeout_RS {a : AR} (hI : IS a) (hf : a.Fine) (k r : Int) : RS a (a.timeout k r).2 (a.timeout k r).1 ∧ IS (a.timeout k r).1 ∧ (a.timeout k r).1.Fine := by
  unfold timeout
  split
  · exact ⟨RS.nil a, hI, hf⟩
  · rename_i h1
    simp only [not_or] at h1
    have f1 := hf.1
    have f3 := hf.3
    have f4 := hf.4
    have t1 : RS a (a.timeout1 k).2 (a.timeout1 k).1 ∧ IS (a.timeout1 k).1 ∧ (a.timeout1 k).1.Fine := by
      have vote : ∀ j : Int, a.st + 1 = j → (j = 2 ∨ j = 3) → RS a (a.vote j D0).2 (a.vote j D0).1 ∧ IS (a.vote j D0).1 ∧ (a.vote j D0).1.Fine := fun j hj hk =>
        ⟨RS.step (by show a.rd * 4 + a.st ≤ a.rd * 4 + j; omega) (fun _ => ⟨by show a.rd * 4 + a.st < a.rd * 4 + j; omega, Int.le_refl _, f1⟩) (fun _ => rfl) rfl rfl rfl rfl rfl rfl rfl, ⟨(once_keeps.vote a j hI.i hf (by omega) hk hj).2, hI.good⟩, vote_fine hf (by omega) (by omega) _⟩
      unfold timeout1
      split
      · exact vote 2 (by omega) (.inl rfl)
      · split
        · exact vote 3 (by omega) (.inr rfl)
        · split
          · rename_i h6
            have b := begin_fine (a := a) (r := a.rd + 1) (by omega) (by omega)
            exact ⟨begin_RS (by unfold rank; omega) (by omega), ⟨(once_keeps.next a hI.i hf (by omega) (by omega) h6.2).2, by rw [(begin_acts a (a.rd + 1)).2]; exact hI.good⟩, b.1⟩
          · exact ⟨RS.nil a, hI, hf⟩
    have d := follow_RS t1.2.1 t1.2.2
    exact ⟨t1.1.app d.1, d.2, (follow_fine _ t1.2.2).1⟩
/-- What is heard: tallies know one vote more, perhaps. -/
theorem hear_RS {a : AR} (hI : IS a) (hf : a.Fine) (m : Msg) : (∀ h, SI a h → SI (a.hear m (goodV m.value)).1 (h ++ (a.hear m (goodV m.value)).2.1)) ∧ IS (a.hear m (goodV m.value)).1 ∧ (a.hear m (goodV m.value)).1.Fine ∧ (a.hear m (goodV m.value)).1.S = a.S ∧
    ∀ k i v, (a.hear m (goodV m.value)).1.ta k i = some v → a.ta k i = some v ∨ (k = (m.kind, m.round) ∧ i = m.from_ ∧ v = m.value) := by
  have h1 : (∀ h, SI a h → SI (a.hear1 m (goodV m.value)).1 h) ∧ IS (a.hear1 m (goodV m.value)).1 ∧ (a.hear1 m (goodV m.value)).1.S = a.S ∧ ∀ k i v, (a.hear1 m (goodV m.value)).1.ta k i = some v → a.ta k i = some v ∨ (k = (m.kind, m.round) ∧ i = m.from_ ∧ v = m.value) := by
    have hO := (once_keeps.hear a m (goodV m.value) hI.i hf).2
    rcases hear1_ways a m (goodV m.value) with h | ⟨_, ⟨p, hv, hv0, hg, hvl, _, hlt, _, _, _, h⟩ | ⟨_, hb, he, h⟩⟩ <;> rw [h] at hO ⊢
    · exact ⟨fun _ s => s, hI, rfl, fun _ _ _ h => .inl h⟩
    · refine ⟨fun h s => s.move (Int.le_refl _) rfl rfl (.inl rfl) (.inl rfl), ⟨hO, fun r q hq0 => ?_⟩, rfl, fun _ _ _ h => .inl h⟩
      have hq : (if r = m.round then some p else a.pr r) = some q := hq0
      clear hq0
      by_cases hr : r = m.round
      · rw [if_pos hr] at hq
        have e := Option.some.inj hq
        rw [← e, hg, hv, hvl, hr]
        exact ⟨rfl, hlt⟩
      · rw [if_neg hr] at hq
        exact hI.good r q hq
    · have hnone : a.ta (m.kind, m.round) m.from_ = none := by
        unfold voteE at he
        split at he
        · cases he
        · split at he
          · cases he
          · split at he
            · cases he
            · split at he
              · cases he
              · rename_i h4
                cases hh : a.ta (m.kind, m.round) m.from_ with
                | none => rfl
                | some _ => rw [hh] at h4; exact absurd rfl h4
      have hta : ∀ k i v, (a.setTa (m.kind, m.round) m.from_ m.value).ta k i = some v → a.ta k i = some v ∨ (k = (m.kind, m.round) ∧ i = m.from_ ∧ v = m.value) := by
        intro k i v hh0
        have hh : (if k = (m.kind, m.round) then (fun i => if i = m.from_ then some m.value else a.ta (m.kind, m.round) i) else a.ta k) i = some v := hh0
        clear hh0
        split at hh
        · rename_i hk
          subst hk
          dsimp only at hh
          split at hh
          · rename_i hi
            exact .inr ⟨rfl, hi, (Option.some.inj hh).symm⟩
          · exact .inl hh
        · exact .inl hh
      refine ⟨fun h s => s.heard rfl rfl (fun k v hq => quo_more hq fun i hi hv => ?_) rfl rfl, ⟨hO, hI.good⟩, rfl, hta⟩
      show (if k = (m.kind, m.round) then (fun i => if i = m.from_ then some m.value else a.ta (m.kind, m.round) i) else a.ta k) (i : Int) = some v
      split
      · rename_i hk
        subst hk
        dsimp only
        split
        · rename_i hi2
          rw [hi2, hnone] at hv
          cases hv
        · exact hv
      · exact hv
  have d := follow_RS h1.2.1 (hear1_fine hf m _)
  unfold hear
  split
  · exact ⟨fun h s => d.1.1 _ (h1.1 h s), d.2, (follow_fine _ (hear1_fine hf m _)).1, d.1.2.2.1.trans h1.2.2.1, fun k i v hh => h1.2.2.2 k i v (by rw [← d.1.2.1]; exact hh)⟩
  · exact ⟨fun h s => by rw [List.append_nil]; exact h1.1 h s, h1.2.1, hear1_fine hf m _, h1.2.2.1, h1.2.2.2⟩
end AR
end Go.Proofs.YtncececcopalgaaDoor
