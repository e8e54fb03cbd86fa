/- No two decide unlike values: of all who follow the rules, in a world. No program in sight. -/
import Derived.Test.YtncececcopalgaaDoorS16
namespace Go.Proofs.YtncececcopalgaaDoor
open Go.RowKit
set_option linter.unusedVariables false
set_option linter.unusedSimpArgs false
/-- What holds of a world: hs are all acts of each who follows the rules. -/
structure WI (S : List W64) (bad : List Bool) (w : AW) (hs : Nat → List Act) : Prop where
  len : w.st.length = S.length
  one : ∀ i : Nat, i < S.length → bad.getD i false = false → (w.at_ i).IS ∧ (w.at_ i).Fine ∧ (w.at_ i).SI (hs i) ∧ (w.at_ i).S = S
  said : ∀ m ∈ w.said, ∃ j : Nat, j < S.length ∧ bad.getD j false = false ∧ m.from_ = j ∧ ∃ x ∈ hs j, x.kind = m.kind ∧ x.round = m.round ∧ x.value = m.value
  tal : ∀ i : Nat, i < S.length → bad.getD i false = false → ∀ (k : Int × Int) (j : Nat) (v : D32), (w.at_ i).ta k j = some v → j < S.length → bad.getD j false = false → ∃ x ∈ hs j, x.kind = k.1 ∧ x.round = k.2 ∧ x.value = v
def more (hs : Nat → List Act) (i : Nat) (l : List Act) : Nat → List Act := fun j => if j = i then hs j ++ l else hs j
theorem more_mem {hs : Nat → List Act} {i : Nat} {l : List Act} {j : Nat} {x : Act} (h : x ∈ hs j) : x ∈ more hs i l j := by
  unfold more
  split
  · exact List.mem_append_left _ h
  · exact h
theorem more_new {hs : Nat → List Act} {i : Nat} {l : List Act} {x : Act} (h : x ∈ l) : x ∈ more hs i l i := by
  unfold more
  rw [if_pos rfl]
  exact List.mem_append_right _ h
theorem at_set {w : AW} {i j : Nat} {b : AR} {sd : List Msg} (hi : i < w.st.length) : (AW.mk (w.st.set i b) sd).at_ j = if j = i then b else w.at_ j := by
  unfold AW.at_
  dsimp only
  rw [List.getD_eq_getElem?_getD, List.getElem?_set]
  by_cases h : i = j
  · subst h; rw [if_pos rfl, if_pos rfl, if_pos hi]; rfl
  · rw [if_neg h, if_neg (fun e => h e.symm), List.getD_eq_getElem?_getD]
/-- One who follows the rules does something. -/
theorem WI.upd {S : List W64} {bad : List Bool} {w : AW} {hs : Nat → List Act} (h : WI S bad w hs) {i : Nat} (hi : i < S.length) (hb : bad.getD i false = false) {b : AR} {l : List Act} {m : Msg}
    (h1 : ∀ g, (w.at_ i).SI g → b.SI (g ++ l)) (h2 : b.IS) (h3 : b.Fine) (h4 : b.S = (w.at_ i).S) (h5 : ∀ k j v, b.ta k j = some v → (w.at_ i).ta k j = some v ∨ (k = (m.kind, m.round) ∧ j = m.from_ ∧ v = m.value))
    (hm : m ∈ w.said ∨ ∀ j : Nat, m.from_ = j → bad.getD j false = true) : WI S bad ⟨w.st.set i b, w.said⟩ (more hs i l) := by
  have hiw : i < w.st.length := by rw [h.len]; exact hi
  refine ⟨by show (w.st.set i b).length = _; rw [List.length_set]; exact h.len, fun j hj hbj => ?_, fun m hm => ?_, fun j hj hbj k q v hv hq hbq => ?_⟩
  · rw [at_set hiw]
    by_cases e : j = i
    · subst e
      rw [if_pos rfl]
      obtain ⟨_, _, a3, a4⟩ := h.one j hj hbj
      refine ⟨h2, h3, ?_, h4.trans a4⟩
      unfold more
      rw [if_pos rfl]
      exact h1 _ a3
    · rw [if_neg e]
      obtain ⟨a1, a2, a3, a4⟩ := h.one j hj hbj
      refine ⟨a1, a2, ?_, a4⟩
      unfold more
      rw [if_neg e]
      exact a3
  · obtain ⟨j, b1, b2, b3, x, hx, b4⟩ := h.said m hm
    exact ⟨j, b1, b2, b3, x, more_mem hx, b4⟩
  · rw [at_set hiw] at hv
    have old : (w.at_ j).ta k q = some v → ∃ x ∈ more hs i l q, x.kind = k.1 ∧ x.round = k.2 ∧ x.value = v := fun hv => by
      obtain ⟨x, hx, hx2⟩ := h.tal j hj hbj k q v hv hq hbq
      exact ⟨x, more_mem hx, hx2⟩
    by_cases e : j = i
    · subst e
      rw [if_pos rfl] at hv
      rcases h5 k q v hv with hv | ⟨e1, e2, e3⟩
      · exact old hv
      · rcases hm with hm | hm
        · obtain ⟨j2, b1, b2, b3, x, hx, b4, b5, b6⟩ := h.said m hm
          have : q = j2 := by omega
          subst this
          exact ⟨x, more_mem hx, by rw [e1]; exact b4, by rw [e1]; exact b5, by rw [e3]; exact b6⟩
        · rw [hm q e2.symm] at hbq; cases hbq
    · rw [if_neg e] at hv
      exact old hv
theorem WI.say {S : List W64} {bad : List Bool} {w : AW} {hs : Nat → List Act} (h : WI S bad w hs) {i : Nat} (hi : i < S.length) (hb : bad.getD i false = false) {x : Act} (hx : x ∈ hs i) : WI S bad ⟨w.st, w.said ++ [AW.msgOf i x]⟩ hs := by
  refine ⟨h.len, h.one, fun m hm => ?_, h.tal⟩
  rcases List.mem_append.1 hm with hm | hm
  · exact h.said m hm
  · rw [List.mem_singleton.1 hm]
    exact ⟨i, hi, hb, rfl, x, hx, rfl, rfl, rfl⟩
theorem WI.hear {S : List W64} {bad : List Bool} {w : AW} {hs : Nat → List Act} (h : WI S bad w hs) {i : Nat} (hi : i < S.length) (hb : bad.getD i false = false) {m : Msg} (hm : m ∈ w.said ∨ ∀ j : Nat, m.from_ = j → bad.getD j false = true) : WI S bad (w.hearW i m).1 (more hs i (w.hearW i m).2) := by
  obtain ⟨a1, a2, a3, a4⟩ := h.one i hi hb
  obtain ⟨b1, b2, b3, b4, b5⟩ := AR.hear_RS a1 a2 m
  exact h.upd hi hb b1 b2 b3 b4 b5 hm
theorem WI.actN {S : List W64} {bad : List Bool} {i : Nat} (hi : i < S.length) (hb : bad.getD i false = false) : ∀ (f : Nat) (w : AW) (l : List Act) (k : Nat) (hs : Nat → List Act), WI S bad w hs → (∀ x ∈ l, x ∈ hs i) → ∃ hs', WI S bad (AW.actN i f w l k) hs'
  | 0, w, l, k, hs, h, _ => ⟨hs, h⟩
  | f + 1, w, l, k, hs, h, hl => by
    by_cases hk : k < l.length ∧ k < 200
    · rw [AW.actN_go hk]
      by_cases hx : (actAt l k).kind < 1 ∨ 3 < (actAt l k).kind ∨ 400 < w.said.length
      · rw [AW.act1_no hx, List.append_nil]
        exact WI.actN hi hb f w l (k + 1) hs h hl
      · have e : w.act1 i (actAt l k) = (AW.mk w.st (w.said ++ [AW.msgOf i (actAt l k)])).hearW i (AW.msgOf i (actAt l k)) := if_neg hx
        rw [e]
        have h1 := h.say hi hb (hl _ (actAt_mem hk.1))
        have h2 := h1.hear hi hb (m := AW.msgOf i (actAt l k)) (.inl (List.mem_append_right _ (List.mem_singleton.2 rfl)))
        exact WI.actN hi hb f _ _ (k + 1) _ h2 fun x hx => by
          rcases List.mem_append.1 hx with hx | hx
          · exact more_mem (hl x hx)
          · exact more_new hx
    · rw [AW.actN_stop hk]; exact ⟨hs, h⟩
theorem WI.act {S : List W64} {bad : List Bool} {w : AW} {hs : Nat → List Act} {i : Nat} {l : List Act} (h : WI S bad w (more hs i l)) (hi : i < S.length) (hb : bad.getD i false = false) : ∃ hs', WI S bad (w.act i l) hs' :=
  WI.actN hi hb 201 w l 0 _ h fun _ hx => more_new hx
theorem msAt_mem {l : List Msg} {k : Nat} (hk : k < l.length) : msAt l k ∈ l := by
  rw [msAt, List.getD_eq_getElem?_getD, List.getElem?_eq_getElem hk]
  exact List.getElem_mem hk
theorem WI.pick {S : List W64} {bad : List Bool} {w : AW} {hs : Nat → List Act} (h : WI S bad w hs) (o : PickE) (hb : 0 ≤ o.who → bad.getD o.who.toNat false = false) : ∃ hs', WI S bad (w.pick o bad) hs' := by
  unfold AW.pick
  split
  · exact ⟨hs, h⟩
  · rename_i hw
    simp only [not_or] at hw
    have hlen := h.len
    have hi : o.who.toNat < S.length := by omega
    have hb := hb (by omega)
    dsimp only
    obtain ⟨a1, a2, a3, a4⟩ := h.one _ hi hb
    have triv : ∀ m : Msg, m = ⟨0, 0, -1, D0, 0⟩ → ∀ j : Nat, m.from_ = j → bad.getD j false = true := fun m e j hj => by rw [e] at hj; have hj : (-1 : Int) = j := hj; omega
    split
    · obtain ⟨r, b2, b3⟩ := AR.start_RS a1 a2
      exact WI.act (h.upd hi hb (m := ⟨0, 0, -1, D0, 0⟩) r.1 b2 b3 r.2.2.1 (fun k j v hv => .inl (by rw [← r.2.1]; exact hv)) (.inr (triv _ rfl))) hi hb
    · split
      · split
        · rename_i hk
          exact WI.act (h.hear hi hb (.inl (msAt_mem (by omega)))) hi hb
        · exact ⟨hs, h⟩
      · split
        · split
          · rename_i hk
            exact WI.act (h.hear hi hb (.inr fun j hj => by have e : o.m.from_.toNat = j := (by omega); rw [← e]; exact hk.2.2)) hi hb
          · exact ⟨hs, h⟩
        · split
          · obtain ⟨r, b2, b3⟩ := AR.timeout_RS a1 a2 o.kind (w.at_ o.who.toNat).rd
            exact WI.act (h.upd hi hb (m := ⟨0, 0, -1, D0, 0⟩) r.1 b2 b3 r.2.2.1 (fun k j v hv => .inl (by rw [← r.2.1]; exact hv)) (.inr (triv _ rfl))) hi hb
          · exact ⟨hs, h⟩
theorem new_SI (S : List W64) (me sh : Int) (own : D32) : (AR.new S me sh own).SI [] where
  le _ h := nomatch h
  one _ h := nomatch h
  lock _ h := nomatch h
  held h := absurd (show (0 : Int) ≤ -1 from h) (by decide)
  pre _ h := nomatch h
  dec h := absurd (show (0 : Int) ≤ -1 from h) (by decide)
  pos _ h := nomatch h
theorem made_WI (S : List W64) (bad : List Bool) (sh : Int) : WI S bad (AW.made S sh) fun _ => [] := by
  have hat : ∀ i : Nat, i < S.length → (AW.made S sh).at_ i = AR.new S (i : Int) sh (AW.dg4 i) := fun i hi => by
    unfold AW.at_ AW.made
    simp [List.getD_eq_getElem?_getD, hi]
  refine ⟨by simp [AW.made], fun i hi hb => ?_, fun m hm => (nomatch hm), fun i hi hb k j v hv => ?_⟩
  · rw [hat i hi]
    exact ⟨⟨AR.new_I0 _ _ _ _, fun _ _ h => nomatch h⟩, AR.new_Fine _ _ _ _, new_SI _ _ _ _, rfl⟩
  · rw [hat i hi] at hv
    cases hv
/-- What two have decided is one value; and it is good. -/
theorem WI.agree {S : List W64} {bad : List Bool} {w : AW} {hs : Nat → List Act} (h : WI S bad w hs) (hfew : 3 * badN S bad < sumS S) {i j : Nat} (hi : i < S.length) (hbi : bad.getD i false = false) (hj : j < S.length) (hbj : bad.getD j false = false)
    (hdi : 0 ≤ (w.at_ i).dc.r) (hdj : 0 ≤ (w.at_ j).dc.r) : (w.at_ i).dc.v = (w.at_ j).dc.v ∧ goodV (w.at_ i).dc.v = true := by
  have votes : ∀ (a b : Nat), a < S.length → bad.getD a false = false → b < S.length → bad.getD b false = false → ∀ (k1 k2 : Int × Int) (u v : D32), Quo (w.at_ a).S ((w.at_ a).ta k1) u → Quo (w.at_ b).S ((w.at_ b).ta k2) v →
      ∃ c : Nat, c < S.length ∧ bad.getD c false = false ∧ (∃ x ∈ hs c, x.kind = k1.1 ∧ x.round = k1.2 ∧ x.value = u) ∧ ∃ x ∈ hs c, x.kind = k2.1 ∧ x.round = k2.2 ∧ x.value = v := by
    intro a b ha hba hb hbb k1 k2 u v q1 q2
    rw [(h.one a ha hba).2.2.2] at q1
    rw [(h.one b hb hbb).2.2.2] at q2
    obtain ⟨c, c1, c2, c3, c4⟩ := quo_meet hfew q1 q2
    exact ⟨c, c1, c2, h.tal a ha hba k1 c u c3 c1 c2, h.tal b hb hbb k2 c v c4 c1 c2⟩
  -- nobody has a quorum of prevotes for another value behind a round that has a quorum of precommits
  have later : ∀ (r1 : Int) (v1 : D32) (i : Nat), i < S.length → bad.getD i false = false → Quo (w.at_ i).S ((w.at_ i).ta (3, r1)) v1 → v1 ≠ D0 → ∀ (n : Nat) (q : Int), q - r1 ≤ n → r1 < q → ∀ (j : Nat) (u : D32), j < S.length → bad.getD j false = false → Quo (w.at_ j).S ((w.at_ j).ta (2, q)) u → u ≠ D0 → u = v1 := by
    intro r1 v1 i hi hbi hq1 hv1 n
    induction n with
    | zero => intro q h1 h2; omega
    | succ n ih =>
      intro q h1 h2 j u hj hbj hq2 hu
      obtain ⟨c, c1, c2, ⟨x, hx, x1, x2, x3⟩, y, hy, y1, y2, y3⟩ := votes i j hi hbi hj hbj (3, r1) (2, q) v1 u hq1 hq2
      have x1 : x.kind = 3 := x1
      have x2 : x.round = r1 := x2
      have y1 : y.kind = 2 := y1
      have y2 : y.round = q := y2
      obtain ⟨_, _, s, _⟩ := h.one c c1 c2
      rcases s.pre y hy y1 (by rw [y3]; exact hu) x hx x1 (by rw [x3]; exact hv1) (by omega) with e | ⟨p, p1, p2, p3⟩
      · rw [← y3, e, x3]
      · rw [y3] at p3
        by_cases hp : p = r1
        · have hl := (s.lock x hx x1 (by rw [x3]; exact hv1)).2.2.1
          rw [x2, x3] at hl
          rw [hp] at p3
          exact Quo.uniq p3 hl
        · exact ih p (by omega) (by omega) c u c1 c2 p3 hu
  obtain ⟨_, _, si, _⟩ := h.one i hi hbi
  obtain ⟨_, _, sj, _⟩ := h.one j hj hbj
  obtain ⟨qi, vi⟩ := si.dec hdi
  obtain ⟨qj, vj⟩ := sj.dec hdj
  have pre : ∀ (a : Nat) (r : Int) (v : D32), a < S.length → bad.getD a false = false → Quo (w.at_ a).S ((w.at_ a).ta (3, r)) v → v ≠ D0 → goodV v = true ∧ ∃ c : Nat, c < S.length ∧ bad.getD c false = false ∧ Quo (w.at_ c).S ((w.at_ c).ta (2, r)) v := by
    intro a r v ha hba hq hv
    obtain ⟨c, c1, c2, ⟨x, hx, x1, x2, x3⟩, _⟩ := votes a a ha hba ha hba (3, r) (3, r) v v hq hq
    have x2 : x.round = r := x2
    have hl := ((h.one c c1 c2).2.2.1).lock x hx x1 (by rw [x3]; exact hv)
    rw [x2, x3] at hl
    exact ⟨hl.2.2.2, c, c1, c2, hl.2.2.1⟩
  refine ⟨?_, (pre i _ _ hi hbi qi vi).1⟩
  rcases Int.lt_trichotomy (w.at_ i).dc.r (w.at_ j).dc.r with hlt | heq | hgt
  · obtain ⟨_, c, c1, c2, c3⟩ := pre j _ _ hj hbj qj vj
    exact (later _ _ i hi hbi qi vi ((w.at_ j).dc.r - (w.at_ i).dc.r).toNat _ (by omega) hlt c _ c1 c2 c3 vj).symm
  · obtain ⟨c, c1, c2, ⟨x, hx, x1, x2, x3⟩, y, hy, y1, y2, y3⟩ := votes i j hi hbi hj hbj _ _ _ _ qi qj
    have s := (h.one c c1 c2).2.2.1
    have x1 : x.kind = 3 := x1
    have y1 : y.kind = 3 := y1
    have x2 : x.round = (w.at_ i).dc.r := x2
    have y2 : y.round = (w.at_ j).dc.r := y2
    rw [← x3, ← y3]
    exact (s.one x hx y hy (by omega) (by omega) (by omega)).symm
  · obtain ⟨_, c, c1, c2, c3⟩ := pre i _ _ hi hbi qi vi
    exact later _ _ j hj hbj qj vj ((w.at_ i).dc.r - (w.at_ j).dc.r).toNat _ (by omega) hgt c _ c1 c2 c3 vi
end Go.Proofs.YtncececcopalgaaDoor
