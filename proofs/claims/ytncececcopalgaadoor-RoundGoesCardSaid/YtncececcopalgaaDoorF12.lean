/- Walks: the rules, followed. -/
import Derived.Test.YtncececcopalgaaDoorF8
import Derived.Test.YtncececcopalgaaDoorF9
import Derived.Test.YtncececcopalgaaDoorF11
namespace Go.Proofs.YtncececcopalgaaDoor
open Go.RowKit
set_option maxRecDepth 100000
set_option linter.unusedVariables false
set_option linter.unusedSimpArgs false
theorem f38_spec  :
    Spec Tryd.prog 38 #[] [] []
      (fun r Γ' H' => True ∧ Γ' = [] ∧ H' = [Res.row r 7 97 1 ridV]) := by
  refine Spec.of_args Tryd.func38 rfl Tryd.ntmps38 (by simp) fun w => ?_
  refine .seq (.region ?_)
  refine .w (.assign rfl) ?_
  refine .nil (.tn (.seq (.region ?_)))
  refine .l1 Tryd.underlying95 info_97 (fun v1 => ?_) (h1 := (by simp [Value.oneCell']))
  refine .w (.assign rfl) ?_
  refine .nil (.tn (.ret ?_))
  exact .dn [] [Res.row _ 7 97 1 ridV] (res1 rfl (.tmp rfl)) ⟨trivial, rfl, rfl⟩

theorem rid_b0 : Body Tryd.prog (ridF 0) := body_42
theorem rid_b1 : Body Tryd.prog (ridF 1) := body_43
theorem rid_b2 : Body Tryd.prog (ridF 2) := body_44
theorem rid_b3 : Body Tryd.prog (ridF 3) := body_45
theorem rid_b4 : Body Tryd.prog (ridF 4) := body_46
theorem rid_b5 : Body Tryd.prog (ridF 5) := body_47
theorem rid_b6 : Body Tryd.prog (ridF 6) := body_48
theorem rid_body {i : Nat} (h : i < 7) : Body Tryd.prog (ridF i) := by
  match i, h with
  | 0, _ => exact rid_b0
  | 1, _ => exact rid_b1
  | 2, _ => exact rid_b2
  | 3, _ => exact rid_b3
  | 4, _ => exact rid_b4
  | 5, _ => exact rid_b5
  | 6, _ => exact rid_b6
theorem rid_spec (p : Nat) (s : RA) (hok : s.Ok) {i : Nat} (h : i < 7) : Spec Tryd.prog (ridF i) #[(ptr p 0)] [Res.var 0 [u64 9223372036854775808, u64 0, u64 0, u64 0]] (RA.H p s)
    (fun r Γ' H' => ∃ (s' : RA) (w : Value), s'.Ok ∧ s'.abs = (s.abs.rule i).1 ∧ r = .tuple #[w, .bool (s.abs.rule i).2.2] ∧ Γ' = [] ∧ H' = Res.row w (s.abs.rule i).2.1.length 41 35 (acC (s.abs.rule i).2.1) :: RA.H p s') := by
  match i, h with
  | 0, _ => exact f42_spec p s hok
  | 1, _ => exact f43_spec p s hok
  | 2, _ => exact f44_spec p s hok
  | 3, _ => exact f45_spec p s hok
  | 4, _ => exact f46_spec p s hok
  | 5, _ => exact f47_spec p s hok
  | 6, _ => exact f48_spec p s hok

theorem f27_spec (p : Nat) (s : RA) (hok : s.Ok) (v : Value) (n : Nat) (l : List Act) (hn : n = l.length) (hb : n ≤ 10) :
    Spec Tryd.prog 27 #[(ptr p 0), v] [Res.var 0 [u64 9223372036854775808, u64 0, u64 0, u64 0]] (Res.row v n 41 35 (acC l) :: RA.H p s)
      (fun r Γ' H' => ∃ (s' : RA) (w : Value), s'.Ok ∧ s'.abs = s.abs.follow.1 ∧ r = w ∧ Γ' = [] ∧ H' = Res.row w (l ++ s.abs.follow.2).length 41 35 (acC (l ++ s.abs.follow.2)) :: RA.H p s') := by
  refine Spec.of_args Tryd.func27 rfl Tryd.ntmps27 (by simp) fun w => ?_
  subst hn
  have hmu := AR.mu_le s.abs hok.fine
  refine .seq (.region ?_)
  refine .w (.assign rfl) ?_
  refine .nil (.tn (.seq (.block ?_)))
  refine .lp (ι := Value × RA × List Act) (fun x => x.2.1.Ok ∧ x.2.2.length + x.2.1.abs.mu ≤ 620 ∧ x.2.1.abs.follow.1 = s.abs.follow.1 ∧ x.2.2 ++ x.2.1.abs.follow.2 = l ++ s.abs.follow.2) (fun T x => (1, x.1) :: T) (fun T _ => T) (fun T x => Res.row x.1 x.2.2.length 41 35 (acC x.2.2) :: Res.cells p x.2.1.cells 77 :: Res.row x.2.1.sv x.2.1.S.length 48 1 (x.2.1.S.map u64) :: mpR x.2.1.bp itK prV x.2.1.pr :: mpR x.2.1.bt k2V tpV x.2.1.ta :: mpR x.2.1.bd k2V blV x.2.1.dn :: Res.sep (tals x.2.1.S x.2.1.ta.es) :: T) (fun x => x.2.1.abs.mu) (v, s, l) [0, 4, 42] ?_ (fun x hx => ?_)
  · exact ⟨hok, by dsimp only; omega, rfl, rfl⟩
  obtain ⟨w1, s1, l1⟩ := x
  obtain ⟨hok1, hlen, hf1, hf2⟩ := hx
  dsimp only at hok1 hlen hf1 hf2 ⊢
  refine .seq (.seq (.region ?_))
  refine .w (.move rfl) ?_
  refine .w (.nilCheck rfl) ?_
  refine .w (.fieldAddr fa_77_5 rfl) ?_
  refine .w (.ld one_3 rfl (hj := by first | exact RA.get_rd _ | exact RA.get_st _ | exact RA.get_me _ | exact RA.get_sh _ | exact RA.get_sv _ | exact RA.get_lkr _ | exact RA.get_vdr _ | exact RA.get_dcr _ | exact RA.get_bp _ | exact RA.get_bt _ | exact RA.get_bd _ | rfl | exact tab_get (by first | omega | (simp; omega)) | exact gm (d := 0) (by first | omega | (simp; omega)))) ?_
  refine .w (.bin rfl rfl BinR.gtr_i) ?_
  refine .w (.move rfl) ?_
  refine .join 7 22 (.bool (decide (0 < s1.st ∧ s1.dc.r < 0))) ?_ ?_
  · refine .gn (g := 14) rfl (fun hg8 hg8' => ?_) (fun hg8 hg8' => ?_)
    · refine .gt (g := 15) rfl rfl hg8 ?_
      refine .w (.move rfl) ?_
      refine .gt (g := 15) rfl rfl hg8 ?_
      refine .w (.nilCheck rfl) ?_
      refine .gt (g := 15) rfl rfl hg8 ?_
      refine .w (.fieldAddr fa_77_8 rfl) ?_
      refine .gt (g := 15) rfl rfl hg8 ?_
      refine .w (.fieldAddr fa_71_1 rfl) ?_
      refine .gt (g := 15) rfl rfl hg8 ?_
      refine .w (.ld one_3 rfl (hj := by first | exact RA.get_rd _ | exact RA.get_st _ | exact RA.get_me _ | exact RA.get_sh _ | exact RA.get_sv _ | exact RA.get_lkr _ | exact RA.get_vdr _ | exact RA.get_dcr _ | exact RA.get_bp _ | exact RA.get_bt _ | exact RA.get_bd _ | rfl | exact tab_get (by first | omega | (simp; omega)) | exact gm (d := 0) (by first | omega | (simp; omega)))) ?_
      refine .gt (g := 15) rfl rfl hg8 ?_
      refine .w (.bin rfl rfl BinR.lss_i) ?_
      refine .w (.pick1 rfl hg8 rfl) ?_
      refine .nil ?_
      refine .head () (by first | (refine ⟨by first | rfl | exact congrArg (fun b => some (Value.bool b)) (by first | exact (decide_eq_true (by omega)).symm | exact (decide_eq_false (by omega)).symm | exact decide_eq_decide.2 (by omega)) | (simp [*]; done) | (show some _ = some _; simp [*]; done), ?_⟩; repeat (first | exact trivial | refine ⟨rfl, ?_⟩))) (fun _ h => h) (Picks.perm (by repeat (first | exact Picks.nil _ | apply Picks.cons | exact Pull.here _ _ | apply Pull.there))) ?_
      trivial
    · refine .gf (g := 15) rfl rfl hg8 (by decide) ?_
      refine .gf (g := 15) rfl rfl hg8 (by decide) ?_
      refine .gf (g := 15) rfl rfl hg8 (by decide) ?_
      refine .gf (g := 15) rfl rfl hg8 (by decide) ?_
      refine .gf (g := 15) rfl rfl hg8 (by decide) ?_
      refine .gf (g := 15) rfl rfl hg8 (by decide) ?_
      refine .w (.pick0 rfl hg8 rfl) ?_
      refine .nil ?_
      refine .head () (by first | (refine ⟨by first | rfl | exact congrArg (fun b => some (Value.bool b)) (by first | exact (decide_eq_true (by omega)).symm | exact (decide_eq_false (by omega)).symm | exact decide_eq_decide.2 (by omega)) | (simp [*]; done) | (show some _ = some _; simp [*]; done), ?_⟩; repeat (first | exact trivial | refine ⟨rfl, ?_⟩))) (fun _ h => h) (Picks.perm (by repeat (first | exact Picks.nil _ | apply Picks.cons | exact Pull.here _ _ | apply Pull.there))) ?_
      trivial
  · refine .nil (.tn ?_)
    refine .cn rfl (fun hc1 => ?_) (fun hc1 => ?_)
    · have hup : s1.abs.up = true := decide_eq_true hc1
      refine .skip (.tn (.block (.seq (.region ?_))))
      refine .w (.assign rfl) ?_
      refine .nil (.tn ?_)
      refine .mt (ι := Bool × Value × RA × List Act) (fun x => x.2.2.1.Ok ∧ ((x.1 = true ∧ ∃ l', s1.abs.step = some (x.2.2.1.abs, l') ∧ x.2.2.2 = l1 ++ l') ∨ (x.1 = false ∧ s1.abs.step = none ∧ x.2.2.1.abs = s1.abs ∧ x.2.2.2 = l1))) (fun T x => (5, .bool x.1) :: (1, x.2.1) :: T) (fun T _ => T) (fun T x => Res.row x.2.1 x.2.2.2.length 41 35 (acC x.2.2.2) :: Res.cells p x.2.2.1.cells 77 :: Res.row x.2.2.1.sv x.2.2.1.S.length 48 1 (x.2.2.1.S.map u64) :: mpR x.2.2.1.bp itK prV x.2.2.1.pr :: mpR x.2.2.1.bt k2V tpV x.2.2.1.ta :: mpR x.2.2.1.bd k2V blV x.2.2.1.dn :: Res.sep (tals x.2.2.1.S x.2.2.1.ta.es) :: T) [0, 4, 10, 11, 12, 13, 14, 15, 16, 17, 18, 19, 20, 21, 22, 40, 41, 42] (Res.row w1 l1.length 41 35 (acC l1) :: RA.H p s1) ?_ (fun x hx => ?_)
      · refine .seq (.region ?_)
        refine .cb f38_spec body_38 ?_
        rintro _ _ ⟨_, _, rfl⟩
        refine .ap ?_
        refine .w (.len Tryd.underlying95 rfl) ?_
        refine .w (.move rfl) ?_
        refine .nil (.tn (.block ?_))
        refine .lp (ι := Nat × Value × RA) (fun x => x.1 ≤ 7 ∧ x.2.2.Ok ∧ x.2.2.abs = s1.abs ∧ ∀ j : Nat, j < x.1 → (s1.abs.rule j).2.2 = false) (fun T x => (25, it (x.1 : Int)) :: (1, x.2.1) :: (5, .bool false) :: T) (fun T _ => T) (fun T x => Res.row x.2.1 l1.length 41 35 (acC l1) :: Res.cells p x.2.2.cells 77 :: Res.row x.2.2.sv x.2.2.S.length 48 1 (x.2.2.S.map u64) :: mpR x.2.2.bp itK prV x.2.2.pr :: mpR x.2.2.bt k2V tpV x.2.2.ta :: mpR x.2.2.bd k2V blV x.2.2.dn :: Res.sep (tals x.2.2.S x.2.2.ta.es) :: T) (fun x => 7 - x.1) (0, w1, s1) [0, 4, 10, 11, 12, 13, 14, 15, 16, 17, 18, 19, 20, 21, 22, 23, 24, 40, 41, 42] ?_ (fun x hx => ?_)
        · exact ⟨Nat.zero_le _, hok1, rfl, fun j hj => absurd hj (Nat.not_lt_zero _)⟩
        obtain ⟨i, w2, s2⟩ := x
        obtain ⟨hi, hok2, hab2, hnj⟩ := hx
        dsimp only at hi hok2 hab2 hnj ⊢
        refine .seq (.region ?_)
        refine .w (.bin rfl rfl BinR.lss_i) ?_
        refine .nil (.tn (.seq ?_))
        refine .cn rfl (fun hc2 => ?_) (fun hc2 => ?_)
        · skip
          refine .skip (.tn (.seq (.block (.seq (.region ?_)))))
          refine .w (.ix1 Tryd.underlying95 sz_97 rfl rfl) ?_
          refine .w (.as (v' := (fnV i)) (.ld one_97 rfl (hj := by exact rid_get (by omega))) rfl) ?_
          refine .w (.assign rfl) ?_
          refine .nil (.tn (.seq (.region ?_)))
          refine .w (.move rfl) ?_
          refine .w (.move rfl) ?_
          refine JO.callF (rid_spec p s2 hok2 (i := i) (by omega)) (rid_body (i := i) (by omega)) rfl rfl rfl (by repeat (first | exact Picks.nil _ | apply Picks.cons | exact Pull.here _ _ | apply Pull.there)) (by repeat (first | exact Lends.nil _ | apply Lends.cons | exact Lend.same _ _ | exact Lend.row _ _ _ _ _ _ (by decide) | apply Lend.there)) (by rintro _ _ _ ⟨_, _, _, _, _, h, _⟩; exact h) (by decide) ?_
          rintro _ _ ⟨_, ⟨s3, wa, hok3, hab3, rfl, _, rfl⟩, hH⟩
          simp only [List.cons_append, List.nil_append] at hH; subst hH
          rw [hab2] at hab3 ⊢
          have hrl := AR.rule_len s1.abs i
          refine .w (.move rfl) ?_
          refine .w (.extract rfl rfl) ?_
          refine .w (.extract rfl rfl) ?_
          refine .w (.assign rfl) ?_
          refine .w (.assign rfl) ?_
          refine .nil (.tn (.seq (.region ?_)))
          refine .w (.move rfl) ?_
          refine .w (.move rfl) ?_
          refine .ap Tryd.underlying31 info_41 (fun v37 => ?_) (hone := (acC_one _))
          refine .w (.assign rfl) ?_
          refine .nil (.tn (.seq (.region ?_)))
          refine .w (.move rfl) ?_
          refine .nil (.tn ?_)
          refine .cn rfl (fun hc3 => ?_) (fun hc3 => ?_)
          · have hs := AR.step_yes (a := s1.abs) (by omega) hnj hc3
            refine .seq (.region ?_)
            refine .w (.assign rfl) ?_
            refine .nil (.tn (.exit (.block_other (by decide) (.then_exit (.then_exit (.block_exit ?_))))))
            try rw [← acC_app, ← List.length_append]
            refine .hd (true, v37, s3, l1 ++ (s1.abs.rule i).2.1) ?_
            first | exact ⟨hok2, .inr ⟨rfl, hs, hab2, rfl⟩⟩ | exact ⟨hok3, .inl ⟨rfl, _, by rw [hs, hab3], rfl⟩⟩
          · have hno := AR.rule_no hc3
            rw [hno, show acC l1 ++ acC s1.abs.no.2.1 = acC l1 from List.append_nil _]
            refine .skip (.block_normal (.tn (.region ?_)))
            refine .w (.asI ((i + 1 : Nat) : Int) (.bin rfl rfl (BinR.add_i (by first | (constructor <;> omega) | (constructor <;> simp <;> omega))))) ?_
            refine .w (.move rfl) ?_
            refine .nil ?_
            refine .hd (i + 1, v37, s3) ?_
            exact ⟨⟨by dsimp only; omega, hok3, by dsimp only; rw [hab3, hno]; rfl, fun j hj => by
              rcases Nat.lt_succ_iff_lt_or_eq.1 hj with h | h
              · exact hnj j h
              · subst h; exact hc3⟩, by dsimp only; omega⟩
        · have hs := AR.step_none (a := s1.abs) (fun j hj => hnj j (by omega))
          refine .exit (.then_exit (.then_exit (.block_exit ?_)))
          try rw [← acC_app, ← List.length_append]
          refine .hd (false, w2, s2, l1) ?_
          first | exact ⟨hok2, .inr ⟨rfl, hs, hab2, rfl⟩⟩ | exact ⟨hok3, .inl ⟨rfl, _, by rw [hs, hab3], rfl⟩⟩
      · obtain ⟨fol, w3, s3, l3⟩ := x
        obtain ⟨hok3, h3⟩ := hx
        dsimp only at hok3 h3 ⊢
        refine .seq (.region ?_)
        refine .w (.move rfl) ?_
        refine .w (.not rfl) ?_
        refine .nil (.tn ?_)
        refine .cn rfl (fun hc4 => ?_) (fun hc4 => ?_)
        · have h3 := h3.resolve_left (fun h => by rw [h.1] at hc4; cases hc4)
          obtain ⟨_, hs, hab3, rfl⟩ := h3
          have hst := AR.follow_stop (a := s1.abs) (.inr hs)
          refine .exit (.block_other (by decide) (.then_exit (.block_exit (.tn (.seq (.region ?_))))))
          refine .w (.move rfl) ?_
          refine .w (.assign rfl) ?_
          refine .nil (.tn (.ret ?_))
          exact .dn [] (Res.row _ l3.length 41 35 (acC l3) :: RA.H p s3) (res1 rfl (.tmp rfl)) ⟨s3, _, hok3, by rw [← hf1, hst, hab3], rfl, rfl, by rw [← hf2, hst, List.append_nil]⟩
        · have h3 := h3.resolve_right (fun h => by rw [h.1] at hc4; cases hc4)
          obtain ⟨_, l', hs, rfl⟩ := h3
          refine .skip (.block_normal ?_)
          refine .hd (w3, s3, l1 ++ l') ?_
          have hm := AR.step_mu hok1.fine hup hs
          rw [AR.follow_step hok1.fine hup hs] at hf1 hf2
          exact ⟨⟨hok3, by have h1 := hm.1; have h2 := hm.2.2; dsimp only; rw [List.length_append]; omega, hf1, by dsimp only; rw [List.append_assoc]; exact hf2⟩, hm.1⟩
    · have hst := AR.follow_stop (a := s1.abs) (.inl (decide_eq_false hc1))
      have hok3 := hok1
      have hab3 : s1.abs = s1.abs := rfl
      refine .exit (.then_exit (.then_exit (.block_exit (.tn (.seq (.region ?_))))))
      refine .w (.move rfl) ?_
      refine .w (.assign rfl) ?_
      refine .nil (.tn (.ret ?_))
      exact .dn [] (Res.row _ l1.length 41 35 (acC l1) :: RA.H p s1) (res1 rfl (.tmp rfl)) ⟨s1, _, hok1, by rw [← hf1, hst], rfl, rfl, by rw [← hf2, hst, List.append_nil]⟩
end Go.Proofs.YtncececcopalgaaDoor
