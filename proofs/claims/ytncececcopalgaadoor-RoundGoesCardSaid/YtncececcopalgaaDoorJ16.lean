/- Where all follow the rules, and all is heard, all decide: a world. No program in sight. -/
import Derived.Test.YtncececcopalgaaDoorG16
namespace Go.Proofs.YtncececcopalgaaDoor
open Go.RowKit
set_option linter.unusedVariables false
set_option linter.unusedSimpArgs false
theorem hear_st0 {a : AR} (h : a.st = 0) (m : Msg) (g : Bool) : (a.hear m g).1.st = 0 := by
  have hk := AR.hear1_keep a m g
  unfold AR.hear
  split
  · rw [AR.follow_stop (.inl (decide_eq_false (fun e => by rw [hk.2.1] at e; omega)))]
    dsimp only
    rw [hk.2.1, h]
  · dsimp only
    rw [hk.2.1, h]
/-- One does something; sd: what was said. -/
structure GU (S : List W64) (sh : Int) (i : Nat) (sd : List Msg) (a : AR) (l : List Act) (b : AR) : Prop where
  gi : GI S sh i b
  ta : ∀ k j u, b.ta k j = some u → a.ta k j = some u ∨ ∃ m ∈ sd, m.kind = k.1 ∧ m.from_ = j ∧ m.kind ≠ 1
  grow : ∀ k j u, a.ta k j = some u → b.ta k j = some u
  prg : ∀ r p, a.pr r = some p → b.pr r = some p
  cnt : l.length + phi b ≤ phi a
  act : ∀ x ∈ l, okAct S sh i x
  up : a.st ≤ b.st
  one : 1 ≤ b.st → 1 ≤ a.st ∨ (i = pz S sh → ∃ x ∈ l, x.kind = 1)
  two : 2 ≤ b.st → 2 ≤ a.st ∨ ∃ x ∈ l, x.kind = 2
  three : b.st = 3 → a.st = 3 ∨ ∃ x ∈ l, x.kind = 3
  quiet : b.up = false ∨ b.step = none
/-- What holds of a world; pd: what who must still say. -/
structure GW (S : List W64) (sh : Int) (w : AW) (who : Nat) (pd : List Act) : Prop where
  len : w.st.length = S.length
  gi : ∀ i : Nat, i < S.length → GI S sh i (w.at_ i)
  qt : ∀ i : Nat, i < S.length → (w.at_ i).up = false ∨ (w.at_ i).step = none
  said : ∀ m ∈ w.said, isM S sh m
  tal : ∀ i : Nat, i < S.length → ∀ k j u, (w.at_ i).ta k j = some u → ∃ m ∈ w.said, m.kind = k.1 ∧ m.from_ = j ∧ m.kind ≠ 1
  e1 : 1 ≤ (w.at_ (pz S sh)).st → (∃ m ∈ w.said, m.kind = 1) ∨ (who = pz S sh ∧ ∃ x ∈ pd, x.kind = 1)
  e2 : ∀ i : Nat, i < S.length → 2 ≤ (w.at_ i).st → (∃ m ∈ w.said, m.kind = 2 ∧ m.from_ = i) ∨ (who = i ∧ ∃ x ∈ pd, x.kind = 2)
  e3 : ∀ i : Nat, i < S.length → (w.at_ i).st = 3 → (∃ m ∈ w.said, m.kind = 3 ∧ m.from_ = i) ∨ (who = i ∧ ∃ x ∈ pd, x.kind = 3)
  act : ∀ x ∈ pd, okAct S sh who x
  cnt : w.said.length + pd.length + ((List.range S.length).map fun i => phi (w.at_ i)).sum ≤ 7 * S.length
structure Gr (S : List W64) (sh : Int) (w w' : AW) : Prop where
  said : ∃ t, w'.said = w.said ++ t
  hm : ∀ i m, heardM S sh (w.at_ i) m → heardM S sh (w'.at_ i) m
  st : ∀ i, (w.at_ i).st ≤ (w'.at_ i).st
theorem Gr.refl {S : List W64} {sh : Int} (w : AW) : Gr S sh w w := ⟨⟨[], (List.append_nil _).symm⟩, fun _ _ h => h, fun _ => Int.le_refl _⟩
theorem Gr.trans {S : List W64} {sh : Int} {a b c : AW} (h : Gr S sh a b) (k : Gr S sh b c) : Gr S sh a c := by
  obtain ⟨t, ht⟩ := h.said
  obtain ⟨u, hu⟩ := k.said
  exact ⟨⟨t ++ u, by rw [hu, ht, List.append_assoc]⟩, fun i m e => k.hm i m (h.hm i m e), fun i => Int.le_trans (h.st i) (k.st i)⟩
theorem GW.upd {S : List W64} {sh : Int} {w : AW} {who : Nat} {pd l : List Act} {b : AR} (h : GW S sh w who pd) (hw : who < S.length) (u : GU S sh who w.said (w.at_ who) l b) : GW S sh ⟨w.st.set who b, w.said⟩ who (pd ++ l) ∧ Gr S sh w ⟨w.st.set who b, w.said⟩ := by
  have hww : who < w.st.length := by rw [h.len]; exact hw
  have hat : ∀ j, (AW.mk (w.st.set who b) w.said).at_ j = if j = who then b else w.at_ j := fun j => at_set hww
  refine ⟨⟨by show (w.st.set who b).length = _; rw [List.length_set]; exact h.len, fun i hi => ?_, fun i hi => ?_, h.said, fun i hi k j v e => ?_, fun e => ?_, fun i hi e => ?_, fun i hi e => ?_, fun x hx => (List.mem_append.1 hx).elim (h.act x) (u.act x), ?_⟩, ⟨⟨[], (List.append_nil _).symm⟩, fun i m e => ?_, fun i => ?_⟩⟩
  · rw [hat]; split
    · rename_i e; subst e; exact u.gi
    · exact h.gi i hi
  · rw [hat]; split
    · exact u.quiet
    · exact h.qt i hi
  · rw [hat] at e
    split at e
    · rename_i e2; subst e2
      rcases u.ta k j v e with e | e
      · exact h.tal _ hi k j v e
      · exact e
    · exact h.tal i hi k j v e
  · rw [hat] at e
    split at e
    · rename_i e2
      rcases u.one e with e3 | e3
      · rcases h.e1 (by rw [e2]; exact e3) with e4 | ⟨e4, x, hx, e5⟩
        · exact .inl e4
        · exact .inr ⟨e4, x, List.mem_append_left _ hx, e5⟩
      · obtain ⟨x, hx, e5⟩ := e3 e2.symm
        exact .inr ⟨e2.symm, x, List.mem_append_right _ hx, e5⟩
    · rcases h.e1 e with e4 | ⟨e4, x, hx, e5⟩
      · exact .inl e4
      · exact .inr ⟨e4, x, List.mem_append_left _ hx, e5⟩
  · rw [hat] at e
    split at e
    · rename_i e2
      rcases u.two e with e3 | ⟨x, hx, e5⟩
      · rcases h.e2 i hi (by rw [e2]; exact e3) with e4 | ⟨e4, x, hx, e5⟩
        · exact .inl e4
        · exact .inr ⟨e4, x, List.mem_append_left _ hx, e5⟩
      · exact .inr ⟨e2.symm, x, List.mem_append_right _ hx, e5⟩
    · rcases h.e2 i hi e with e4 | ⟨e4, x, hx, e5⟩
      · exact .inl e4
      · exact .inr ⟨e4, x, List.mem_append_left _ hx, e5⟩
  · rw [hat] at e
    split at e
    · rename_i e2
      rcases u.three e with e3 | ⟨x, hx, e5⟩
      · rcases h.e3 i hi (by rw [e2]; exact e3) with e4 | ⟨e4, x, hx, e5⟩
        · exact .inl e4
        · exact .inr ⟨e4, x, List.mem_append_left _ hx, e5⟩
      · exact .inr ⟨e2.symm, x, List.mem_append_right _ hx, e5⟩
    · rcases h.e3 i hi e with e4 | ⟨e4, x, hx, e5⟩
      · exact .inl e4
      · exact .inr ⟨e4, x, List.mem_append_left _ hx, e5⟩
  · have hs := sum_upd (fun i => phi (w.at_ i)) who (phi b) S.length hw
    have he : ((List.range S.length).map fun i => phi ((AW.mk (w.st.set who b) w.said).at_ i)) = (List.range S.length).map fun i => if i = who then phi b else phi (w.at_ i) := by
      apply List.map_congr_left
      intro i _
      rw [hat]
      split <;> rfl
    rw [he, List.length_append]
    have h1 := h.cnt
    have h2 := u.cnt
    dsimp only at hs h1 ⊢
    omega
  · rw [hat]; split
    · rename_i e2; subst e2
      exact ⟨fun k => u.prg _ _ (e.1 k), fun k s => u.grow _ _ _ (e.2 k s)⟩
    · exact e
  · rw [hat]; split
    · rename_i e2; subst e2; exact u.up
    · exact Int.le_refl _
theorem GW.idle {S : List W64} {sh : Int} {w : AW} {who : Nat} (h : GW S sh w who []) (who' : Nat) : GW S sh w who' [] where
  len := h.len
  gi := h.gi
  qt := h.qt
  said := h.said
  tal := h.tal
  e1 e := (h.e1 e).elim .inl fun ⟨_, x, hx, _⟩ => nomatch hx
  e2 i hi e := (h.e2 i hi e).elim .inl fun ⟨_, x, hx, _⟩ => nomatch hx
  e3 i hi e := (h.e3 i hi e).elim .inl fun ⟨_, x, hx, _⟩ => nomatch hx
  act _ hx := nomatch hx
  cnt := h.cnt
/-- The next is said; or was no message. -/
theorem GW.next {S : List W64} {sh : Int} {w : AW} {who : Nat} {x : Act} {pd : List Act} (h : GW S sh w who (x :: pd)) (hx : 3 < x.kind) : GW S sh w who pd where
  len := h.len
  gi := h.gi
  qt := h.qt
  said := h.said
  tal := h.tal
  e1 e := (h.e1 e).imp id fun ⟨a, y, hy, b⟩ => ⟨a, y, (List.mem_cons.1 hy).elim (fun e => by rw [e] at b; omega) id, b⟩
  e2 i hi e := (h.e2 i hi e).imp id fun ⟨a, y, hy, b⟩ => ⟨a, y, (List.mem_cons.1 hy).elim (fun e => by rw [e] at b; omega) id, b⟩
  e3 i hi e := (h.e3 i hi e).imp id fun ⟨a, y, hy, b⟩ => ⟨a, y, (List.mem_cons.1 hy).elim (fun e => by rw [e] at b; omega) id, b⟩
  act y hy := h.act y (List.mem_cons_of_mem _ hy)
  cnt := by have := h.cnt; simp only [List.length_cons] at this; omega
theorem okAct_msg {S : List W64} {sh : Int} {i : Nat} {x : Act} (hi : i < S.length) (h : okAct S sh i x) (hk : ¬ 3 < x.kind) : isM S sh (AW.msgOf i x) := by
  rcases h with h | ⟨h1, h2⟩ | h | h
  · exact absurd h hk
  · rw [h2, h1]; exact .inl rfl
  · rw [h]; exact .inr ⟨i, hi, .inl rfl⟩
  · rw [h]; exact .inr ⟨i, hi, .inr rfl⟩
theorem GW.say {S : List W64} {sh : Int} {w : AW} {who : Nat} {x : Act} {pd : List Act} (h : GW S sh w who (x :: pd)) (hw : who < S.length) (hx : ¬ 3 < x.kind) : GW S sh ⟨w.st, w.said ++ [AW.msgOf who x]⟩ who pd := by
  have hm := okAct_msg hw (h.act x (List.mem_cons_self ..)) hx
  have old : ∀ {p : Msg → Prop}, (∃ m ∈ w.said, p m) → ∃ m ∈ w.said ++ [AW.msgOf who x], p m := fun ⟨m, hm, hp⟩ => ⟨m, List.mem_append_left _ hm, hp⟩
  have new : AW.msgOf who x ∈ w.said ++ [AW.msgOf who x] := List.mem_append_right _ (List.mem_singleton.2 rfl)
  refine ⟨h.len, h.gi, h.qt, fun m hm2 => ?_, fun i hi k j u e => old (h.tal i hi k j u e), fun e => ?_, fun i hi e => ?_, fun i hi e => ?_, fun y hy => h.act y (List.mem_cons_of_mem _ hy), ?_⟩
  · rcases List.mem_append.1 hm2 with hm2 | hm2
    · exact h.said m hm2
    · rw [List.mem_singleton.1 hm2]; exact hm
  · rcases h.e1 e with e | ⟨e, y, hy, hk⟩
    · exact .inl (old e)
    · rcases List.mem_cons.1 hy with hy | hy
      · exact .inl ⟨_, new, by rw [← hy]; exact hk⟩
      · exact .inr ⟨e, y, hy, hk⟩
  · rcases h.e2 i hi e with e | ⟨e, y, hy, hk⟩
    · exact .inl (old e)
    · rcases List.mem_cons.1 hy with hy | hy
      · exact .inl ⟨_, new, by rw [← hy]; exact hk, by rw [← e]; rfl⟩
      · exact .inr ⟨e, y, hy, hk⟩
  · rcases h.e3 i hi e with e | ⟨e, y, hy, hk⟩
    · exact .inl (old e)
    · rcases List.mem_cons.1 hy with hy | hy
      · exact .inl ⟨_, new, by rw [← hy]; exact hk, by rw [← e]; rfl⟩
      · exact .inr ⟨e, y, hy, hk⟩
  · have := h.cnt
    simp only [List.length_cons] at this
    show (w.said ++ [AW.msgOf who x]).length + _ + _ ≤ _
    rw [List.length_append]
    simp only [List.length_cons, List.length_nil]
    exact Nat.le_trans (by
      show w.said.length + (0 + 1) + pd.length + ((List.range S.length).map fun i => phi (w.at_ i)).sum ≤ _
      omega) this
theorem GH.gu {S : List W64} {sh : Int} {i : Nat} {m : Msg} {a b : AR} {l : List Act} {sd : List Msg} (h : GH S sh i m a l b) (hm : m ∈ sd) (h0 : a.st = 0 → b.st = 0) (hf : 0 ≤ a.st) : GU S sh i sd a l b :=
  ⟨h.gi, fun k j u e => (h.ta k j u e).imp id fun ⟨e1, e2, e3⟩ => ⟨m, hm, by rw [e1], e2.symm, e3⟩, h.grow, h.prg, h.cnt, h.act, h.up, fun e => .inl (Classical.byContradiction fun hn => by have := h0 (by omega); omega), h.two, h.three, h.quiet⟩
theorem GW.hear {S : List W64} {sh : Int} {w : AW} {who : Nat} {pd : List Act} (h : GW S sh w who pd) (h1 : 1 ≤ S.length) (h7 : S.length ≤ 7) (hw : who < S.length) {m : Msg} (hm : m ∈ w.said) :
    GW S sh (w.hearW who m).1 who (pd ++ (w.hearW who m).2) ∧ Gr S sh w (w.hearW who m).1 ∧ heardM S sh ((w.hearW who m).1.at_ who) m ∧ (w.hearW who m).2.length + phi ((w.hearW who m).1.at_ who) ≤ phi (w.at_ who) := by
  have hG := (h.gi who hw).hear h1 h7 (h.said m hm) (h.qt who hw)
  have hU := hG.gu hm (fun e => hear_st0 e m _) (h.gi who hw).fine.3
  obtain ⟨a, b⟩ := h.upd hw hU
  have hat : (w.hearW who m).1.at_ who = ((w.at_ who).hear m (goodV m.value)).1 := by
    unfold AW.hearW
    dsimp only
    rw [at_set (by rw [h.len]; exact hw), if_pos rfl]
  exact ⟨a, b, by rw [hat]; exact hG.heard, by rw [hat]; exact hG.cnt⟩
theorem GW.actN {S : List W64} {sh : Int} {who : Nat} (h1 : 1 ≤ S.length) (h7 : S.length ≤ 7) (hw : who < S.length) : ∀ (f : Nat) (w : AW) (l : List Act) (k : Nat), GW S sh w who (l.drop k) → l.length + phi (w.at_ who) ≤ 7 → 201 ≤ f + k → GW S sh (AW.actN who f w l k) who [] ∧ Gr S sh w (AW.actN who f w l k)
  | 0, w, l, k, h, hl, hf => by
    rw [List.drop_eq_nil_of_le (by omega)] at h
    exact ⟨h, Gr.refl w⟩
  | f + 1, w, l, k, h, hl, hf => by
    by_cases hk : k < l.length ∧ k < 200
    · rw [AW.actN_go hk]
      have hd : l.drop k = actAt l k :: l.drop (k + 1) := by
        rw [List.drop_eq_getElem_cons hk.1, actAt, List.getD_eq_getElem?_getD, List.getElem?_eq_getElem hk.1]
        rfl
      rw [hd] at h
      have hc := h.cnt
      have hok := h.act _ (List.mem_cons_self ..)
      by_cases h3 : 3 < (actAt l k).kind
      · rw [AW.act1_no (.inr (.inl h3)), List.append_nil]
        exact GW.actN h1 h7 hw f w l (k + 1) (h.next h3) hl (by omega)
      · have hge : ¬ (actAt l k).kind < 1 := by
          rcases hok with e | ⟨_, e⟩ | e | e
          · omega
          · rw [e]; show ¬ (1 : Int) < 1; decide
          · rw [e]; show ¬ (2 : Int) < 1; decide
          · rw [e]; show ¬ (3 : Int) < 1; decide
        have hn : ¬ ((actAt l k).kind < 1 ∨ 3 < (actAt l k).kind ∨ 400 < w.said.length) := by
          rintro (e | e | e)
          · exact hge e
          · exact h3 e
          · omega
        have e : w.act1 who (actAt l k) = (AW.mk w.st (w.said ++ [AW.msgOf who (actAt l k)])).hearW who (AW.msgOf who (actAt l k)) := if_neg hn
        rw [e]
        have hs := h.say hw h3
        obtain ⟨a, b, _, d⟩ := hs.hear h1 h7 hw (m := AW.msgOf who (actAt l k)) (List.mem_append_right _ (List.mem_singleton.2 rfl))
        have hgs : Gr S sh w ⟨w.st, w.said ++ [AW.msgOf who (actAt l k)]⟩ := ⟨⟨_, rfl⟩, fun _ _ h => h, fun _ => Int.le_refl _⟩
        have d : ((AW.mk w.st (w.said ++ [AW.msgOf who (actAt l k)])).hearW who (AW.msgOf who (actAt l k))).2.length + phi (((AW.mk w.st (w.said ++ [AW.msgOf who (actAt l k)])).hearW who (AW.msgOf who (actAt l k))).1.at_ who) ≤ phi (w.at_ who) := d
        rw [← List.drop_append_of_le_length (by omega)] at a
        obtain ⟨x, y⟩ := GW.actN h1 h7 hw f _ _ (k + 1) a (by rw [List.length_append]; omega) (by omega)
        exact ⟨x, (hgs.trans b).trans y⟩
    · rw [AW.actN_stop hk]
      rw [List.drop_eq_nil_of_le (by omega)] at h
      exact ⟨h, Gr.refl w⟩
theorem GW.acts {S : List W64} {sh : Int} {w : AW} {who : Nat} {l : List Act} (h : GW S sh w who l) (h1 : 1 ≤ S.length) (h7 : S.length ≤ 7) (hw : who < S.length) (hl : l.length + phi (w.at_ who) ≤ 7) : GW S sh (w.act who l) who [] ∧ Gr S sh w (w.act who l) :=
  GW.actN h1 h7 hw 201 w l 0 h hl (by omega)
theorem GW.start {S : List W64} {sh : Int} {w : AW} {who : Nat} (h : GW S sh w who []) (h1 : 1 ≤ S.length) (h7 : S.length ≤ 7) (hw : who < S.length) (h0 : (w.at_ who).st = 0) {o : PickE} (ho : o.who = who) (hd : o.do_ = 1) :
    GW S sh (w.pick o []) who [] ∧ Gr S sh w (w.pick o []) ∧ 1 ≤ ((w.pick o []).at_ who).st := by
  rw [AW.pick1 ho (by rw [h.len]; exact hw) hd]
  obtain ⟨g, q, s1, s2⟩ := (h.gi who hw).start h1 h7 h0 hw
  have u : GU S sh who w.said (w.at_ who) (w.at_ who).start.2 (w.at_ who).start.1 := ⟨g.gi, fun k j u e => .inl (by rw [g.ta] at e; exact e), fun k j u e => by rw [g.ta]; exact e, fun r p e => by rw [g.pr]; exact e, g.cnt, g.act, g.up, fun _ => .inr s2, g.two, g.three, q⟩
  obtain ⟨a, b⟩ := h.upd hw u
  have hat : (AW.mk (w.st.set who (w.at_ who).start.1) w.said).at_ who = (w.at_ who).start.1 := by rw [at_set (by rw [h.len]; exact hw), if_pos rfl]
  have hc := g.cnt
  have hp := phi_le (h.gi who hw).fine
  obtain ⟨x, y⟩ := GW.acts a h1 h7 hw (by rw [hat]; show (w.at_ who).start.2.length + _ ≤ 7; omega)
  refine ⟨x, b.trans y, ?_⟩
  have := y.st who
  rw [hat] at this
  exact Int.le_trans s1 this
theorem GW.tell {S : List W64} {sh : Int} {w : AW} {who : Nat} (h : GW S sh w who []) (h1 : 1 ≤ S.length) (h7 : S.length ≤ 7) (hw : who < S.length) {o : PickE} (ho : o.who = who) (hd : o.do_ = 2) {k : Nat} (hk : o.k = k) (hks : k < w.said.length) :
    GW S sh (w.pick o []) who [] ∧ Gr S sh w (w.pick o []) ∧ heardM S sh ((w.pick o []).at_ who) (msAt w.said k) := by
  rw [AW.pick2 ho (by rw [h.len]; exact hw) hd ⟨by omega, by omega⟩, hk, Int.toNat_natCast]
  obtain ⟨a, b, c, d⟩ := h.hear h1 h7 hw (msAt_mem hks)
  have hp := phi_le (h.gi who hw).fine
  obtain ⟨x, y⟩ := GW.acts a h1 h7 hw (by show (w.hearW who (msAt w.said k)).2.length + _ ≤ 7; omega)
  exact ⟨x, b.trans y, y.hm who _ c⟩
theorem phi_new (S : List W64) (me sh : Int) (own : D32) : phi (AR.new S me sh own) = 7 := rfl
theorem made_GW {S : List W64} {sh : Int} (h1 : 1 ≤ S.length) (h0 : 0 ≤ sh) : GW S sh (AW.made S sh) 0 [] ∧ ∀ i : Nat, i < S.length → ((AW.made S sh).at_ i).st = 0 := by
  have hat : ∀ i : Nat, i < S.length → (AW.made S sh).at_ i = AR.new S (i : Int) sh (AW.dg4 i) := fun i hi => by
    unfold AW.at_ AW.made
    simp [List.getD_eq_getElem?_getD, hi]
  have hsum : ∀ n : Nat, n ≤ S.length → ((List.range n).map fun i => phi ((AW.made S sh).at_ i)).sum = 7 * n := by
    intro n
    induction n with
    | zero => intro _; rfl
    | succ n ih =>
      intro hn
      rw [List.range_succ, List.map_append, List.sum_append, ih (by omega)]
      simp only [List.map_cons, List.map_nil, List.sum_cons, List.sum_nil]
      rw [hat n (by omega), phi_new]
      omega
  refine ⟨⟨by simp [AW.made], fun i hi => ?_, fun i hi => ?_, fun _ h => (nomatch h), fun i hi k j u e => ?_, fun e => ?_, fun i hi e => ?_, fun i hi e => ?_, fun _ h => (nomatch h), ?_⟩, fun i hi => by rw [hat i hi]; rfl⟩
  · rw [hat i hi]
    exact ⟨rfl, rfl, rfl, rfl, rfl, AR.new_Fine _ _ _ _, fun _ _ h => (nomatch h), fun _ _ _ h => (nomatch h), fun h => absurd (show (0 : Int) ≤ -1 from h) (by decide), fun _ => ⟨rfl, rfl⟩, fun _ => ⟨by show (-1 : Int) < 0; decide, by show (-1 : Int) < 0; decide⟩⟩
  · rw [hat i hi]; exact .inl rfl
  · rw [hat i hi] at e; cases e
  · rw [hat _ (pz_lt h1).1] at e
    exact absurd (show (1 : Int) ≤ 0 from e) (by decide)
  · rw [hat i hi] at e
    exact absurd (show (2 : Int) ≤ 0 from e) (by decide)
  · rw [hat i hi] at e
    exact absurd (show (0 : Int) = 3 from e) (by decide)
  · rw [hsum _ (Nat.le_refl _)]
    show 0 + 0 + _ ≤ _
    omega
theorem GI.ready {S : List W64} {sh : Int} {i : Nat} {a : AR} (h : GI S sh i a) (hu : a.up = true) (hs : a.step = none) (n : Nat) (hn : n < 7) : (a.rule n).2.2 = false := by
  unfold AR.step at hs
  have := Option.map_eq_none_iff.1 hs
  rw [List.find?_range_eq_none] at this
  simpa using this n hn
theorem byN_mono0 {S : List W64} {p q : Nat → Bool} (h : ∀ i : Nat, i < S.length → stk S (i : Int) ≠ 0 → p i = true → q i = true) : byN S p ≤ byN S q := by
  unfold byN
  have key : ∀ l : List Nat, (∀ i ∈ l, i < S.length) → (l.map fun i => if p i = true then (S.getD i 0).toNat else 0).sum ≤ (l.map fun i => if q i = true then (S.getD i 0).toNat else 0).sum := by
    intro l
    induction l with
    | nil => intro _; exact Nat.le_refl _
    | cons i l ih =>
      intro hl
      have h2 := ih fun j hj => hl j (List.mem_cons_of_mem _ hj)
      have h3 := h i (hl i (List.mem_cons_self ..))
      simp only [List.map_cons, List.sum_cons] at h2 ⊢
      by_cases hz : (S.getD i 0).toNat = 0
      · rw [hz]; simp only [ite_self]; omega
      · by_cases hp : p i = true
        · rw [if_pos hp, if_pos (h3 (by unfold stk; rw [Int.toNat_natCast]; exact hz) hp)]
          omega
        · rw [if_neg hp]
          omega
  exact key _ fun i hi => List.mem_range.1 hi
theorem quo_more0 {S : List W64} {g g' : Int → Option D32} {v : D32} (h : Quo S g v) (hg : ∀ i : Nat, i < S.length → stk S (i : Int) ≠ 0 → g i = some v → g' i = some v) : Quo S g' v := by
  have h1 : 2 * sumS S < 3 * byN S (fun i => decide (g i = some v)) := h
  have h2 : byN S (fun i => decide (g i = some v)) ≤ byN S (fun i => decide (g' i = some v)) := byN_mono0 fun i hi hz hp => decide_eq_true (hg i hi hz (of_decide_eq_true hp))
  show 2 * sumS S < 3 * byN S (fun i => decide (g' i = some v))
  omega
theorem quo_all {S : List W64} {g : Int → Option D32} {v : D32} (h0 : 0 < sumS S) (h : ∀ j : Nat, j < S.length → stk S (j : Int) ≠ 0 → g j = some v) : Quo S g v := by
  have h1 : byN S (fun _ => true) ≤ byN S (fun i => decide (g i = some v)) := byN_mono0 fun i hi hz _ => decide_eq_true (h i hi hz)
  rw [byN_all] at h1
  show 2 * sumS S < 3 * byN S (fun i => decide (g i = some v))
  omega
/-- All decide. -/
theorem GW.done {S : List W64} {sh : Int} {w : AW} {who : Nat} (h : GW S sh w who []) (h1 : 1 ≤ S.length) (h7 : S.length ≤ 7) (hsum : 0 < sumS S) (hst : ∀ i : Nat, i < S.length → 1 ≤ (w.at_ i).st) (hall : ∀ m ∈ w.said, ∀ i : Nat, i < S.length → heardM S sh (w.at_ i) m) :
    ∀ i : Nat, i < S.length → (w.at_ i).dc = ⟨vz S sh, 0⟩ ∧ (w.at_ i).rd = 0 := by
  have e1 : ∃ m ∈ w.said, m.kind = 1 := (h.e1 (hst _ (pz_lt h1).1)).elim id fun ⟨_, x, hx, _⟩ => nomatch hx
  have e2 : ∀ i : Nat, i < S.length → 2 ≤ (w.at_ i).st → ∃ m ∈ w.said, m.kind = 2 ∧ m.from_ = i := fun i hi e => (h.e2 i hi e).elim id fun ⟨_, x, hx, _⟩ => nomatch hx
  have e3 : ∀ i : Nat, i < S.length → (w.at_ i).st = 3 → ∃ m ∈ w.said, m.kind = 3 ∧ m.from_ = i := fun i hi e => (h.e3 i hi e).elim id fun ⟨_, x, hx, _⟩ => nomatch hx
  have pr : ∀ i : Nat, i < S.length → (w.at_ i).pr 0 = some ⟨vz S sh, -1, true⟩ := fun i hi => by
    obtain ⟨m, hm, hk⟩ := e1
    exact (hall m hm i hi).1 hk
  -- with a quorum of precommits one has decided
  have dec : ∀ i : Nat, i < S.length → Quo S ((w.at_ i).ta (3, 0)) (vz S sh) → 0 ≤ (w.at_ i).dc.r := fun i hi hq => by
    apply Classical.byContradiction
    intro hn
    have hu : (w.at_ i).up = true := decide_eq_true ⟨by have := hst i hi; omega, by omega⟩
    have hs := (h.qt i hi).resolve_left (by rw [hu]; decide)
    have hr := (h.gi i hi).ready hu hs 0 (by decide)
    have hd : (w.at_ i).decideP 0 = true := by
      rw [AR.decideP_some (pr i hi)]
      exact decide_eq_true (by rw [(h.gi i hi).S_]; exact hq)
    have : (w.at_ i).decideR.2.2 = true := by
      rw [AR.decide_yes (k := 0) (by decide) (fun j hj => absurd hj (Nat.not_lt_zero _)) (pr i hi) (by have t := hd; rw [AR.decideP_some (pr i hi)] at t; exact t)]
    have hr : (w.at_ i).decideR.2.2 = false := hr
    rw [hr] at this
    cases this
  have all : ∀ i : Nat, i < S.length → 0 ≤ (w.at_ i).dc.r := by
    intro i hi
    apply Classical.byContradiction
    intro hni
    -- nobody has decided
    have none_ : ∀ j : Nat, j < S.length → (w.at_ j).dc.r < 0 := fun j hj => by
      apply Classical.byContradiction
      intro hd
      obtain ⟨_, hq⟩ := (h.gi j hj).dc (by omega)
      refine hni (dec i hi (quo_more0 hq fun q hq2 hz e => ?_))
      obtain ⟨m, hm, m1, m2, m3⟩ := h.tal j hj _ _ _ e
      have := (hall m hm i hi).2 m3 (by rw [m2]; exact hz)
      rw [m1, m2] at this
      exact this
    have up : ∀ j : Nat, j < S.length → (w.at_ j).up = true ∧ (w.at_ j).step = none := fun j hj => by
      have hu : (w.at_ j).up = true := decide_eq_true ⟨by have := hst j hj; omega, none_ j hj⟩
      exact ⟨hu, (h.qt j hj).resolve_left (by rw [hu]; decide)⟩
    have two : ∀ j : Nat, j < S.length → 2 ≤ (w.at_ j).st := fun j hj => by
      apply Classical.byContradiction
      intro hn
      have hs1 : (w.at_ j).st = 1 := by have := hst j hj; omega
      have hr := (h.gi j hj).ready (up j hj).1 (up j hj).2 2 (by decide)
      have hr : (w.at_ j).prevote.2.2 = false := hr
      rw [AR.prevote_yes hs1 (by rw [(h.gi j hj).rd]; exact pr j hj) (fun e => absurd e.1 (by show ¬ (0 : Int) ≤ -1; decide))] at hr
      cases hr
    have q2 : ∀ j : Nat, j < S.length → Quo S ((w.at_ j).ta (2, 0)) (vz S sh) := fun j hj => quo_all hsum fun q hq hz => by
      obtain ⟨m, hm, m1, m2⟩ := e2 q hq (two q hq)
      have := (hall m hm j hj).2 (by rw [m1]; decide) (by rw [m2]; exact hz)
      rw [m1, m2] at this
      exact this
    have three : ∀ j : Nat, j < S.length → (w.at_ j).st = 3 := fun j hj => by
      apply Classical.byContradiction
      intro hn
      have f4 := (h.gi j hj).fine.4
      have h2 := two j hj
      have hs2 : (w.at_ j).st = 2 := by omega
      have hr := (h.gi j hj).ready (up j hj).1 (up j hj).2 4 (by decide)
      have hr : (w.at_ j).lock.2.2 = false := hr
      have hrd := (h.gi j hj).rd
      rw [AR.lock_yes2 (by rw [hrd]; exact pr j hj) rfl (by rw [hrd]; exact decide_eq_true (by rw [(h.gi j hj).S_]; exact q2 j hj)) (by rw [hrd]; exact ((h.gi j hj).lk (by omega)).2) hs2] at hr
      cases hr
    refine hni (dec i hi (quo_all hsum fun q hq hz => ?_))
    obtain ⟨m, hm, m1, m2⟩ := e3 q hq (three q hq)
    have := (hall m hm i hi).2 (by rw [m1]; decide) (by rw [m2]; exact hz)
    rw [m1, m2] at this
    exact this
  exact fun i hi => ⟨((h.gi i hi).dc (all i hi)).1, (h.gi i hi).rd⟩
/-- The others stay as they are. -/
theorem at_other {w : AW} {i j : Nat} {b : AR} {sd : List Msg} (h : j ≠ i) : (AW.mk (w.st.set i b) sd).at_ j = w.at_ j := by
  unfold AW.at_
  dsimp only
  rw [List.getD_eq_getElem?_getD, List.getElem?_set, if_neg (fun e => h e.symm), List.getD_eq_getElem?_getD]
theorem actN_other {who j : Nat} (h : j ≠ who) : ∀ (f : Nat) (w : AW) (l : List Act) (k : Nat), (AW.actN who f w l k).at_ j = w.at_ j
  | 0, _, _, _ => rfl
  | f + 1, w, l, k => by
    by_cases hk : k < l.length ∧ k < 200
    · rw [AW.actN_go hk, actN_other h f]
      unfold AW.act1
      split
      · rfl
      · exact at_other h
    · rw [AW.actN_stop hk]
theorem start_other {S : List W64} {w : AW} {who j : Nat} (hl : who < w.st.length) {o : PickE} (ho : o.who = who) (hd : o.do_ = 1) (h : j ≠ who) : (w.pick o []).at_ j = w.at_ j := by
  rw [AW.pick1 ho hl hd]
  exact (actN_other h 201 _ _ 0).trans (at_other h)
theorem GW.bound {S : List W64} {sh : Int} {w : AW} {who : Nat} (h : GW S sh w who []) : w.said.length ≤ 7 * S.length := by
  have := h.cnt
  simp only [List.length_nil] at this
  omega
theorem Gr.msAt {S : List W64} {sh : Int} {w w' : AW} (h : Gr S sh w w') {k : Nat} (hk : k < w.said.length) : msAt w'.said k = msAt w.said k ∧ w.said.length ≤ w'.said.length := by
  obtain ⟨t, ht⟩ := h.said
  rw [ht]
  refine ⟨?_, by rw [List.length_append]; omega⟩
  unfold Proofs.YtncececcopalgaaDoor.msAt
  rw [List.getD_eq_getElem?_getD, List.getElem?_append_left hk, List.getD_eq_getElem?_getD]
theorem sum_pos {S : List W64} (h : 0 < sumS S) : 1 ≤ S.length := by
  cases S with
  | nil => exact absurd h (by decide)
  | cons _ _ => simp
theorem ms_ex {l : List Msg} {m : Msg} (h : m ∈ l) : ∃ q : Nat, q < l.length ∧ msAt l q = m := by
  obtain ⟨q, hq, e⟩ := List.getElem_of_mem h
  exact ⟨q, hq, by rw [msAt, List.getD_eq_getElem?_getD, List.getElem?_eq_getElem hq, ← e]; rfl⟩
end Go.Proofs.YtncececcopalgaaDoor
