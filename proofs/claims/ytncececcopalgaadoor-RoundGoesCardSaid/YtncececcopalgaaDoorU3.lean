/- Walk: RoundOnce. -/
import Derived.Test.YtncececcopalgaaDoorU2
namespace Go.Proofs.YtncececcopalgaaDoor
open Go.RowKit
set_option maxRecDepth 100000
set_option linter.unusedVariables false
set_option linter.unusedSimpArgs false
theorem f9nil_spec (u : Value) (S : List W64) (me sh : Int) (own : D32) (h : ¬ NewGood S me sh own) : Spec Tryd.prog 9 #[u, it me, it sh, dgV own] [Res.var 0 [u64 9223372036854775808, u64 0, u64 0, u64 0], Res.rd u S.length 1 (S.map u64)] []
    (fun r Γ' H' => ∃ e : Int, r = .tuple #[.pointer none, it e] ∧ Γ' = [] ∧ H' = []) := by
  by_cases h0 : newE S = 0
  · obtain ⟨h1, h2, h3⟩ := newE_0 h0
    have hq : me < 0 ∨ (S.length : Int) ≤ me ∨ sh < 0 ∨ own = D0 := Classical.byContradiction fun hq => h ⟨h1, h2, h3, hq⟩
    exact (f9bad_spec u S me sh own h1 h2 h3 hq).mono fun r Γ' H' hp => ⟨_, hp⟩
  · exact (f9no_spec u S me sh own h0).mono fun r Γ' H' hp => ⟨_, hp⟩

theorem f3a_spec (u vo : Value) (S : List W64) (me sh : Int) (own : D32) (os : List OpE) (hg : NewGood S me sh own) (hsh : sh ≤ 9223372036854775807) :
    Spec Tryd.prog 3 #[u, (it me), (it sh), (dgV own), vo] [Res.var 0 [u64 9223372036854775808, u64 0, u64 0, u64 0], Res.rd u S.length 1 (S.map u64), Res.rd vo os.length 40 (opsC os)] []
      (fun r Γ' H' => r = (.bool true) ∧ Γ' = [] ∧ H' = []) := by
  refine Spec.of_args Tryd.func3 rfl Tryd.ntmps3 (by simp) fun w => ?_
  refine JC.know (φ := os.length ≤ 9223372036854775807) (fun w hs => by obtain ⟨_, _, _, _, _, _, h⟩ := hs.rdForm (.tail _ (.tail _ (.head _))); unfold maxLen at h; omega) fun hlo => ?_
  refine JC.know (φ := S.length ≤ 9223372036854775807) (fun w hs => by obtain ⟨_, _, _, _, _, _, h⟩ := hs.rdForm (.tail _ (.head _)); unfold maxLen at h; omega) fun hls => ?_
  refine .seq (.region ?_)
  refine .bx fun b8 => ?_
  refine .w (.assign rfl) ?_
  refine .nil (.tn (.seq (.region ?_)))
  refine .c f8_spec body_8 ?_
  refine .w (.assign rfl) ?_
  refine .nil (.tn (.seq (.region ?_)))
  refine .w (.move rfl) ?_
  refine .w (.move rfl) ?_
  refine .w (.move rfl) ?_
  refine .w (.as (v' := dgV own) (.lda agg_24 rfl) rfl) ?_
  refine .cb (f9ok_spec u S me sh own hg.1 hg.2.1 hg.2.2.1 hg.2.2.2) body_9 ?_ (h0 := by rintro _ _ _ ⟨_, _, _, _, _, _, h, _⟩; exact h)
  rintro _ _ ⟨p, sv, bp, bt, bd, rfl, _, rfl⟩
  refine .ap ?_
  have hok0 := hg.ok hsh sv bp bt bd
  refine .w (.move rfl) ?_
  refine .w (.extract rfl rfl) ?_
  refine .w (.extract rfl rfl) ?_
  refine .w (.assign rfl) ?_
  refine .w (.assign rfl) ?_
  refine .nil (.tn (.seq (.seq (.region ?_))))
  refine .w (.move rfl) ?_
  refine .w (.as (v' := .bool false) (.bin rfl rfl (BinR.eql_p Tryd.underlying27)) rfl) ?_
  refine .w (.move rfl) ?_
  refine .join 9 41 (.bool (decide (10 < (S.length : Int) ∨ 60 < (os.length : Int)))) ?_ ?_
  · refine .gt (g := 32) rfl rfl rfl ?_
    refine .w (.move rfl) ?_
    refine .gt (g := 32) rfl rfl rfl ?_
    refine .w (.len Tryd.underlying22 rfl) ?_
    refine .gt (g := 32) rfl rfl rfl ?_
    refine .w (.bin rfl rfl BinR.gtr_i) ?_
    refine .w (.pick0 rfl rfl rfl) ?_
    refine .w (.move rfl) ?_
    refine .gn (g := 36) rfl (fun hg23 hg23' => ?_) (fun hg23 hg23' => ?_)
    · refine .gf (g := 37) rfl rfl hg23 (by decide) ?_
      refine .gf (g := 37) rfl rfl hg23 (by decide) ?_
      refine .gf (g := 37) rfl rfl hg23 (by decide) ?_
      refine .w (.pick1 rfl hg23 rfl) ?_
      refine .nil ?_
      refine .head () (by first | (refine ⟨by first | rfl | exact congrArg (fun b => some (Value.bool b)) (by first | exact (decide_eq_true (by omega)).symm | exact (decide_eq_false (by omega)).symm | exact decide_eq_decide.2 (by omega)) | (simp [*]; done) | (show some _ = some _; simp [*]; done), ?_⟩; repeat (first | exact trivial | refine ⟨rfl, ?_⟩))) (fun _ h => h) (Picks.perm (by repeat (first | exact Picks.nil _ | apply Picks.cons | exact Pull.here _ _ | apply Pull.there))) ?_
      trivial
    · refine .gt (g := 37) rfl rfl hg23 ?_
      refine .w (.move rfl) ?_
      refine .gt (g := 37) rfl rfl hg23 ?_
      refine .w (.len Tryd.underlying25 rfl) ?_
      refine .gt (g := 37) rfl rfl hg23 ?_
      refine .w (.bin rfl rfl BinR.gtr_i) ?_
      refine .w (.pick0 rfl hg23 rfl) ?_
      refine .nil ?_
      refine .head () (by first | (refine ⟨by first | rfl | exact congrArg (fun b => some (Value.bool b)) (by first | exact (decide_eq_true (by omega)).symm | exact (decide_eq_false (by omega)).symm | exact decide_eq_decide.2 (by omega)) | (simp [*]; done) | (show some _ = some _; simp [*]; done), ?_⟩; repeat (first | exact trivial | refine ⟨rfl, ?_⟩))) (fun _ h => h) (Picks.perm (by repeat (first | exact Picks.nil _ | apply Picks.cons | exact Pull.here _ _ | apply Pull.there))) ?_
      trivial
  · refine .nil (.tn ?_)
    refine .cn rfl (fun hc1 => ?_) (fun hc1 => ?_)
    · skip
      refine .seq (.region ?_)
      refine .w (.move rfl) ?_
      refine .w (.assign rfl) ?_
      refine .nil (.tn (.ret (.then_ret ?_)))
      exact .dn [] [] (res1 rfl (.tmp rfl)) ⟨rfl, rfl, rfl⟩
    · have hol : os.length ≤ 60 := by omega
      refine .skip (.tn (.seq (.region ?_)))
      refine .nilRow 41 35 ?_
      refine .w (.assign rfl) ?_
      refine .nil (.tn (.seq (.region ?_)))
      refine .w (.assign rfl) ?_
      refine .nil (.tn (.seq (.seq (.region ?_))))
      refine .w (.assign rfl) ?_
      refine .nil (.tn (.block ?_))
      refine .lp (ι := Nat × RA × Value × List Act) (fun x => x.1 ≤ os.length ∧ x.2.1.Ok ∧ AR.OnceI x.2.1.abs x.2.2.2 ∧ x.2.2.2.length ≤ 620 * x.1) (fun T x => (14, x.2.2.1) :: (15, it x.2.1.rd) :: (16, it (x.1 : Int)) :: T) (fun T _ => T) (fun T x => Res.row x.2.2.1 x.2.2.2.length 41 35 (acC x.2.2.2) :: Res.cells p x.2.1.cells 77 :: Res.row x.2.1.sv x.2.1.S.length 48 1 (x.2.1.S.map u64) :: mpR x.2.1.bp itK prV x.2.1.pr :: mpR x.2.1.bt k2V tpV x.2.1.ta :: mpR x.2.1.bd k2V blV x.2.1.dn :: Res.sep (tals x.2.1.S x.2.1.ta.es) :: T) (fun x => os.length - x.1) (0, RA.newA sv bp bt bd S me sh own, .slice none 0 0, []) [4, 11, 12, 146] ?_ (fun x hx => ?_)
      · exact ⟨Nat.zero_le _, hok0, ⟨AR.new_I0 _ _ _ _, AR.new_Fine _ _ _ _, fun _ h => nomatch h⟩, Nat.le_refl _⟩
      obtain ⟨i, s1, w1, d⟩ := x
      obtain ⟨hi, hok1, hon, hdl⟩ := hx
      dsimp only at hi hok1 hon hdl ⊢
      refine .seq (.seq (.region ?_))
      refine .w (.move rfl) ?_
      refine .w (.move rfl) ?_
      refine .w (.len Tryd.underlying25 rfl) ?_
      refine .w (.bin rfl rfl BinR.lss_i) ?_
      refine .nil (.tn ?_)
      refine .cn rfl (fun hc2 => ?_) (fun hc2 => ?_)
      · skip
        refine .skip (.tn (.seq (.block (.seq (.region ?_)))))
        refine .w (.assign rfl) ?_
        refine .nil (.tn ?_)
        refine .mt (ι := Value × RA × List Act) (fun x => x.2.1.Ok ∧ x.2.1.abs = (s1.abs.do1 (opAt os i)).1 ∧ x.2.2 = (s1.abs.do1 (opAt os i)).2.1) (fun T x => (17, x.1) :: T) (fun T _ => T) (fun T x => Res.row x.1 x.2.2.length 41 35 (acC x.2.2) :: Res.cells p x.2.1.cells 77 :: Res.row x.2.1.sv x.2.1.S.length 48 1 (x.2.1.S.map u64) :: mpR x.2.1.bp itK prV x.2.1.pr :: mpR x.2.1.bt k2V tpV x.2.1.ta :: mpR x.2.1.bd k2V blV x.2.1.dn :: Res.sep (tals x.2.1.S x.2.1.ta.es) :: T) [4, 10, 11, 12, 14, 15, 16, 18, 19, 20, 43, 44, 45, 46, 47, 48, 89, 90, 91, 92, 93, 94, 95, 96, 97, 98, 99, 100, 101, 102, 103, 104, 105, 106, 107, 108, 109, 110, 111, 112, 113, 114, 115, 116, 117, 118, 119, 120, 121, 122, 123, 124, 125, 126, 127, 128, 129, 130, 131, 132, 133, 134, 135, 136, 137, 138, 139, 140, 141, 142, 143, 144, 145, 146] (RA.H p s1) ?_ (fun x hx => ?_)
        · refine .seq (.region ?_)
          refine .w (.move rfl) ?_
          refine .w (.move rfl) ?_
          refine .w (.ix Tryd.underlying25 sz_35 rfl rfl) ?_
          refine .w (.fieldAddr fa_35_0 rfl) ?_
          refine .w (.as (v' := it (opAt os i).do_) (.ld one_3 rfl (hj := by exact op_do (by omega))) rfl) ?_
          refine .nil (.tn (.block (.seq (.region ?_))))
          refine .w (.bin rfl rfl BinR.eql_i) ?_
          refine .w (.assign rfl) ?_
          refine .nil (.tn ?_)
          refine .cn rfl (fun hc3 => ?_) (fun hc3 => ?_)
          · have hd : (s1.abs.do1 (opAt os i)) = (s1.abs.start.1, s1.abs.start.2, 0) := if_pos hc3
            refine .region ?_
            refine .w (.move rfl) ?_
            refine .cb (f10_spec p s1 hok1) body_10 ?_ (h0 := by rintro _ _ _ ⟨_, _, _, _, _, h, _⟩; exact h)
            rintro va _ ⟨s2, w2, hok2, hab2, rfl, _, rfl⟩
            refine .ap ?_
            refine .w (.assign rfl) ?_
            refine .nil (.block_normal ?_)
            refine .hd (va, s2, s1.abs.start.2) ?_
            first | exact ⟨hok2, by dsimp only; rw [hd]; exact hab2, by dsimp only; rw [hd]⟩ | exact ⟨hok1, by dsimp only; rw [hd], by dsimp only; rw [hd]⟩
          · skip
            refine .seq (.region ?_)
            refine .w (.bin rfl rfl BinR.eql_i) ?_
            refine .w (.assign rfl) ?_
            refine .nil (.tn ?_)
            refine .cn rfl (fun hc4 => ?_) (fun hc4 => ?_)
            · have hd : (s1.abs.do1 (opAt os i)) = s1.abs.hear (opAt os i).m (opAt os i).good := (if_neg hc3).trans (if_pos hc4)
              refine JC.draw (.one 0 (.one 1 (.one 2 (.one 3 (.one 4 (.one 5 (.one 6 (.one 7 (.one 8 (.one 9 (.one 10 (.one 11 (.one 12 (.one 13 (.one 14 (.one 15 .nil)))))))))))))))) (fun i => ([11] : List Nat).contains i) (fun i => ([11] : List Nat).contains i) (fun i => ([0, 1, 2, 3, 4, 5, 6, 7, 8, 9, 10, 12, 13, 14, 15] : List Nat).contains i) mixed (by kernel_rfl) (by decide) (by kernel_rfl) ?_
              refine .uw rfl (.move rfl) ?_
              refine .uw rfl (.move rfl) ?_
              refine .uw rfl (.move rfl) ?_
              refine .uw rfl (.ix Tryd.underlying25 sz_35 rfl rfl) ?_
              refine .uw rfl (.fieldAddr fa_35_3 rfl) ?_
              refine .uw rfl (.as (v' := msV (opAt os i).m) (.lda agg_33 rfl) (congrArg (fun l : List Value => Value.agg l.toArray) (op_m (by omega)))) ?_
              refine .uw rfl (.move rfl) ?_
              refine .uw rfl (.move rfl) ?_
              refine .uw rfl (.ix Tryd.underlying25 sz_35 rfl rfl) ?_
              refine .uw rfl (.fieldAddr fa_35_4 rfl) ?_
              refine .uw rfl (.as (v' := .bool (opAt os i).good) (.ld one_4 rfl (hj := by exact op_good (by omega))) rfl) ?_
              refine .mw rfl (.cb (f11_spec p s1 hok1 (opAt os i).m (opAt os i).good) body_11 (h0 := by rintro _ _ _ ⟨_, _, _, _, _, h, _⟩; exact h)) ?_
              rintro _ _ _ ⟨_, ⟨s2, wb, hok2, hab2, rfl, _, rfl⟩, hΓ, hH⟩
              simp only [List.cons_append, List.nil_append] at hH; subst hΓ hH
              refine kp ?_
              refine .uw rfl (.move rfl) ?_
              refine .uw rfl (.extract rfl rfl) ?_
              refine .uw rfl (.extract rfl rfl) ?_
              refine .uw rfl (.assign rfl) ?_
              refine .nil (.block_normal ?_)
              refine .hd (wb, s2, (s1.abs.hear (opAt os i).m (opAt os i).good).2.1) ?_
              first | exact ⟨hok2, by dsimp only; rw [hd]; exact hab2, by dsimp only; rw [hd]⟩ | exact ⟨hok1, by dsimp only; rw [hd], by dsimp only; rw [hd]⟩
            · skip
              refine .seq (.region ?_)
              refine .w (.bin rfl rfl BinR.eql_i) ?_
              refine .w (.assign rfl) ?_
              refine .nil (.tn ?_)
              refine .cn rfl (fun hc5 => ?_) (fun hc5 => ?_)
              · have hd : (s1.abs.do1 (opAt os i)) = ((s1.abs.timeout (opAt os i).kind (opAt os i).round).1, (s1.abs.timeout (opAt os i).kind (opAt os i).round).2, 0) := (if_neg hc3).trans ((if_neg hc4).trans (if_pos hc5))
                refine JC.draw (.one 0 (.one 1 (.one 2 (.one 3 (.one 4 (.one 5 (.one 6 (.one 7 (.one 8 (.one 9 (.one 10 (.one 11 (.one 12 .nil))))))))))))) (fun i => ([11] : List Nat).contains i) (fun i => ([11] : List Nat).contains i) (fun i => ([0, 1, 2, 3, 4, 5, 6, 7, 8, 9, 10, 12] : List Nat).contains i) mixed (by kernel_rfl) (by decide) (by kernel_rfl) ?_
                refine .uw rfl (.move rfl) ?_
                refine .uw rfl (.move rfl) ?_
                refine .uw rfl (.move rfl) ?_
                refine .uw rfl (.ix Tryd.underlying25 sz_35 rfl rfl) ?_
                refine .uw rfl (.fieldAddr fa_35_1 rfl) ?_
                refine .uw rfl (.as (v' := it (opAt os i).kind) (.ld one_3 rfl (hj := by exact op_kind (by omega))) rfl) ?_
                refine .uw rfl (.move rfl) ?_
                refine .uw rfl (.move rfl) ?_
                refine .uw rfl (.ix Tryd.underlying25 sz_35 rfl rfl) ?_
                refine .uw rfl (.fieldAddr fa_35_2 rfl) ?_
                refine .uw rfl (.as (v' := it (opAt os i).round) (.ld one_3 rfl (hj := by exact op_round (by omega))) rfl) ?_
                refine .mw rfl (.cb (f12_spec p s1 hok1 (opAt os i).kind (opAt os i).round) body_12 (h0 := by rintro _ _ _ ⟨_, _, _, _, _, h, _⟩; exact h)) ?_
                rintro vc _ _ ⟨_, ⟨s2, w2, hok2, hab2, rfl, _, rfl⟩, hΓ, hH⟩
                simp only [List.cons_append, List.nil_append] at hH; subst hΓ hH
                refine kp ?_
                refine .uw rfl (.assign rfl) ?_
                refine .nil (.block_normal ?_)
                refine .hd (vc, s2, (s1.abs.timeout (opAt os i).kind (opAt os i).round).2) ?_
                first | exact ⟨hok2, by dsimp only; rw [hd]; exact hab2, by dsimp only; rw [hd]⟩ | exact ⟨hok1, by dsimp only; rw [hd], by dsimp only; rw [hd]⟩
              · have hd : (s1.abs.do1 (opAt os i)) = (s1.abs, [], 0) := (if_neg hc3).trans ((if_neg hc4).trans (if_neg hc5))
                refine .nilRow 41 35 ?_
                refine .skip (.block_normal ?_)
                refine .hd (.slice none 0 0, s1, []) ?_
                first | exact ⟨hok2, by dsimp only; rw [hd]; exact hab2, by dsimp only; rw [hd]⟩ | exact ⟨hok1, by dsimp only; rw [hd], by dsimp only; rw [hd]⟩
        · obtain ⟨wa, s2, l2⟩ := x
          obtain ⟨hok2, hab2, hl2⟩ := hx
          dsimp only at hok2 hab2 hl2 ⊢
          have hO := hon.do1 (opAt os i)
          rw [← hab2, ← hl2] at hO
          refine .seq (.seq (.region ?_))
          refine .w (.assign rfl) ?_
          refine .nil (.tn (.block ?_))
          refine .lp (ι := Nat × Value) (fun x => x.1 ≤ l2.length) (fun T x => (18, it (x.1 : Int)) :: (14, x.2) :: T) (fun T _ => T) (fun T x => Res.row x.2 (d ++ l2.take x.1).length 41 35 (acC (d ++ l2.take x.1)) :: T) (fun x => l2.length - x.1) (0, w1) [4, 11, 12, 15, 16, 17, 20, 43, 44, 45, 46, 47, 48, 49, 50, 51, 52, 53, 54, 55, 56, 57, 58, 59, 60, 61, 62, 63, 64, 65, 66, 67, 68, 69, 70, 71, 72, 73, 75, 76, 77, 78, 79, 80, 81, 82, 83, 84, 85, 86, 87, 88, 140, 141, 142, 143, 144, 145, 146] ?_ (fun x hx => ?_) (hH := (by rw [show d ++ l2.take 0 = d from List.append_nil d]; repeat (first | exact Picks.nil _ | apply Picks.cons | exact Pull.here _ _ | apply Pull.there)))
          · exact Nat.zero_le _
          obtain ⟨k, w3⟩ := x
          have hk := hx
          dsimp only at hk ⊢
          have hkl : (d ++ l2.take k).length ≤ 40000 := by rw [List.length_append, List.length_take]; have := hO.2.2.1; omega
          refine .seq (.seq (.region ?_))
          refine .w (.move rfl) ?_
          refine .w (.move rfl) ?_
          refine .w (.len Tryd.underlying31 rfl) ?_
          refine .w (.bin rfl rfl BinR.lss_i) ?_
          refine .nil (.tn ?_)
          refine .cn rfl (fun hc6 => ?_) (fun hc6 => ?_)
          · skip
            refine .skip (.tn (.seq (.block (.seq (.seq (.region ?_))))))
            refine .w (.assign rfl) ?_
            refine .nil (.tn (.block ?_))
            refine .lp (ι := Nat) (fun x => x ≤ (d ++ l2.take k).length) (fun T x => (19, it (x : Int)) :: T) (fun T _ => T) (fun T _ => T) (fun x => (d ++ l2.take k).length - x) 0 [4, 11, 12, 14, 15, 16, 17, 18, 20, 43, 44, 45, 46, 47, 48, 49, 50, 51, 52, 53, 54, 55, 56, 57, 58, 59, 60, 61, 62, 63, 64, 65, 66, 67, 68, 69, 70, 71, 72, 73, 75, 76, 77, 78, 79, 80, 81, 82, 83, 84, 85, 86, 87, 88, 89, 90, 91, 92, 93, 94, 133, 134, 135, 136, 137, 138, 139, 140, 141, 142, 143, 144, 145, 146] ?_ (fun x hx => ?_)
            · exact Nat.zero_le _
            refine .seq (.seq (.region ?_))
            refine .w (.move rfl) ?_
            refine .w (.move rfl) ?_
            refine .w (.len Tryd.underlying31 rfl) ?_
            refine .w (.bin rfl rfl BinR.lss_i) ?_
            refine .nil (.tn ?_)
            refine .cn rfl (fun hc7 => ?_) (fun hc7 => ?_)
            · skip
              refine .skip (.tn (.seq (.block (.seq ?_))))
              refine JC.draw (.one 0 (.one 1 (.one 2 (.one 3 (.one 4 (.one 5 (.one 6 (.one 7 (.one 8 (.one 9 (.one 10 (.one 11 (.one 12 (.one 13 (.one 14 (.one 15 (.one 16 (.one 17 (.one 18 (.one 19 (.one 20 (.one 21 (.one 22 (.one 23 (.one 24 (.one 25 (.one 26 (.one 27 (.one 28 (.one 29 (.one 30 (.one 31 .nil)))))))))))))))))))))))))))))))) (fun i => ([] : List Nat).contains i) (fun i => ([] : List Nat).contains i) (fun i => ([0, 1, 3, 5, 6, 7, 8, 10, 12, 13, 15, 17, 18, 19, 20, 21, 23, 25, 26, 28, 30, 31] : List Nat).contains i) mixed (by kernel_rfl) (by decide) (by kernel_rfl) ?_
              refine .uw rfl (.move rfl) ?_
              refine .uw rfl (.move rfl) ?_
              refine .w rfl (.ix Tryd.underlying31 sz_41 rfl rfl) ?_
              refine .uw rfl (.fieldAddr fa_41_0 rfl) ?_
              refine .w rfl (.as (v' := it (actAt l2 k).kind) (.ld one_3 rfl (hj := by exact act_kind0 (by omega))) rfl) ?_
              refine .uw rfl (.bin rfl rfl BinR.leq_i) ?_
              refine .uw rfl (.move rfl) ?_
              refine JR.gsplit (g := 106) rfl (fun hg97 => ?_) (fun hg97 => ?_)
              · have hg97' := hg97
                try simp only [decide_eq_true_eq, decide_eq_false_iff_not, Bool.not_eq_true', Bool.not_eq_false', ne_eq, Decidable.not_not, Bool.not_eq_true, Bool.and_eq_true, Bool.or_eq_true, BitVec.reduceToNat] at hg97'
                refine JR.ugt (g := 107) rfl rfl rfl rfl rfl hg97 (.move rfl) (by decide) ?_
                refine JR.ugt (g := 107) rfl rfl rfl rfl rfl hg97 (.move rfl) (by decide) ?_
                refine JR.vgt (g := 107) rfl rfl rfl rfl rfl hg97 (.ix Tryd.underlying31 sz_41 rfl rfl) (by decide) ?_
                refine JR.ugt (g := 107) rfl rfl rfl rfl rfl hg97 (.fieldAddr fa_41_0 rfl) (by decide) ?_
                refine JR.vgt (g := 107) rfl rfl rfl rfl rfl hg97 (.as (v' := it (actAt (d ++ l2.take k) x).kind) (.ld one_3 rfl (hj := by exact act_kind0 (by omega))) rfl) (by decide) ?_
                refine JR.ugt (g := 107) rfl rfl rfl rfl rfl hg97 (.move rfl) (by decide) ?_
                refine JR.ugt (g := 107) rfl rfl rfl rfl rfl hg97 (.move rfl) (by decide) ?_
                refine JR.vgt (g := 107) rfl rfl rfl rfl rfl hg97 (.ix Tryd.underlying31 sz_41 rfl rfl) (by decide) ?_
                refine JR.ugt (g := 107) rfl rfl rfl rfl rfl hg97 (.fieldAddr fa_41_0 rfl) (by decide) ?_
                refine JR.vgt (g := 107) rfl rfl rfl rfl rfl hg97 (.as (v' := it (actAt l2 k).kind) (.ld one_3 rfl (hj := by exact act_kind0 (by omega))) rfl) (by decide) ?_
                refine JR.ugt (g := 107) rfl rfl rfl rfl rfl hg97 (.bin rfl rfl BinR.eql_i) (by decide) ?_
                refine JR.u rfl rfl rfl (Yv.pick1 rfl hg97 rfl) (by decide) ?_
                refine .uw rfl (.move rfl) ?_
                refine JR.gsplit (g := 119) rfl (fun hg110 => ?_) (fun hg110 => ?_)
                · have hg110' := hg110
                  try simp only [decide_eq_true_eq, decide_eq_false_iff_not, Bool.not_eq_true', Bool.not_eq_false', ne_eq, Decidable.not_not, Bool.not_eq_true, Bool.and_eq_true, Bool.or_eq_true, BitVec.reduceToNat] at hg110'
                  refine JR.ugt (g := 120) rfl rfl rfl rfl rfl hg110 (.move rfl) (by decide) ?_
                  refine JR.ugt (g := 120) rfl rfl rfl rfl rfl hg110 (.move rfl) (by decide) ?_
                  refine JR.vgt (g := 120) rfl rfl rfl rfl rfl hg110 (.ix Tryd.underlying31 sz_41 rfl rfl) (by decide) ?_
                  refine JR.ugt (g := 120) rfl rfl rfl rfl rfl hg110 (.fieldAddr fa_41_1 rfl) (by decide) ?_
                  refine JR.vgt (g := 120) rfl rfl rfl rfl rfl hg110 (.as (v' := it (actAt (d ++ l2.take k) x).round) (.ld one_3 rfl (hj := by exact act_round (by omega))) rfl) (by decide) ?_
                  refine JR.ugt (g := 120) rfl rfl rfl rfl rfl hg110 (.move rfl) (by decide) ?_
                  refine JR.ugt (g := 120) rfl rfl rfl rfl rfl hg110 (.move rfl) (by decide) ?_
                  refine JR.vgt (g := 120) rfl rfl rfl rfl rfl hg110 (.ix Tryd.underlying31 sz_41 rfl rfl) (by decide) ?_
                  refine JR.ugt (g := 120) rfl rfl rfl rfl rfl hg110 (.fieldAddr fa_41_1 rfl) (by decide) ?_
                  refine JR.vgt (g := 120) rfl rfl rfl rfl rfl hg110 (.as (v' := it (actAt l2 k).round) (.ld one_3 rfl (hj := by exact act_round (by omega))) rfl) (by decide) ?_
                  refine JR.ugt (g := 120) rfl rfl rfl rfl rfl hg110 (.bin rfl rfl BinR.eql_i) (by decide) ?_
                  refine JR.u rfl rfl rfl (Yv.pick1 rfl hg110 rfl) (by decide) ?_
                  refine .nil (.tn ?_)
                  refine .cn rfl (fun hc8 => ?_) (fun hc8 => ?_)
                  · exact absurd hc8 (hO.2.2.2 k x (by omega) (by omega) hg97' hg110')
                  · skip
                    refine .skip (.block_normal (.tn (.region ?_)))
                    refine .w (.move rfl) ?_
                    refine .w (.asI ((x + 1 : Nat) : Int) (.bin rfl rfl (BinR.add_i (by first | (constructor <;> omega) | (constructor <;> simp <;> omega))))) ?_
                    refine .w (.assign rfl) ?_
                    refine .nil ?_
                    refine .hd (x + 1) ?_
                    exact ⟨by omega, by omega⟩
                · have hg110' := hg110
                  try simp only [decide_eq_true_eq, decide_eq_false_iff_not, Bool.not_eq_true', Bool.not_eq_false', ne_eq, Decidable.not_not, Bool.not_eq_true, Bool.and_eq_true, Bool.or_eq_true, BitVec.reduceToNat] at hg110'
                  refine JR.gf (g := 120) rfl rfl rfl rfl hg110 (by decide) ?_
                  refine JR.gf (g := 120) rfl rfl rfl rfl hg110 (by decide) ?_
                  refine JR.gf (g := 120) rfl rfl rfl rfl hg110 (by decide) ?_
                  refine JR.gf (g := 120) rfl rfl rfl rfl hg110 (by decide) ?_
                  refine JR.gf (g := 120) rfl rfl rfl rfl hg110 (by decide) ?_
                  refine JR.gf (g := 120) rfl rfl rfl rfl hg110 (by decide) ?_
                  refine JR.gf (g := 120) rfl rfl rfl rfl hg110 (by decide) ?_
                  refine JR.gf (g := 120) rfl rfl rfl rfl hg110 (by decide) ?_
                  refine JR.gf (g := 120) rfl rfl rfl rfl hg110 (by decide) ?_
                  refine JR.gf (g := 120) rfl rfl rfl rfl hg110 (by decide) ?_
                  refine JR.gf (g := 120) rfl rfl rfl rfl hg110 (by decide) ?_
                  refine JR.u rfl rfl rfl (Yv.pick0 rfl hg110 rfl) (by decide) ?_
                  refine .nil (.tn ?_)
                  refine .k0 rfl rfl ?_
                  skip
                  refine .skip (.block_normal (.tn (.region ?_)))
                  refine .w (.move rfl) ?_
                  refine .w (.asI ((x + 1 : Nat) : Int) (.bin rfl rfl (BinR.add_i (by first | (constructor <;> omega) | (constructor <;> simp <;> omega))))) ?_
                  refine .w (.assign rfl) ?_
                  refine .nil ?_
                  refine .hd (x + 1) ?_
                  exact ⟨by omega, by omega⟩
              · have hg97' := hg97
                try simp only [decide_eq_true_eq, decide_eq_false_iff_not, Bool.not_eq_true', Bool.not_eq_false', ne_eq, Decidable.not_not, Bool.not_eq_true, Bool.and_eq_true, Bool.or_eq_true, BitVec.reduceToNat] at hg97'
                refine JR.gf (g := 107) rfl rfl rfl rfl hg97 (by decide) ?_
                refine JR.gf (g := 107) rfl rfl rfl rfl hg97 (by decide) ?_
                refine JR.gf (g := 107) rfl rfl rfl rfl hg97 (by decide) ?_
                refine JR.gf (g := 107) rfl rfl rfl rfl hg97 (by decide) ?_
                refine JR.gf (g := 107) rfl rfl rfl rfl hg97 (by decide) ?_
                refine JR.gf (g := 107) rfl rfl rfl rfl hg97 (by decide) ?_
                refine JR.gf (g := 107) rfl rfl rfl rfl hg97 (by decide) ?_
                refine JR.gf (g := 107) rfl rfl rfl rfl hg97 (by decide) ?_
                refine JR.gf (g := 107) rfl rfl rfl rfl hg97 (by decide) ?_
                refine JR.gf (g := 107) rfl rfl rfl rfl hg97 (by decide) ?_
                refine JR.gf (g := 107) rfl rfl rfl rfl hg97 (by decide) ?_
                refine JR.u rfl rfl rfl (Yv.pick0 rfl hg97 rfl) (by decide) ?_
                refine .uw rfl (.move rfl) ?_
                refine JR.gf (g := 120) rfl rfl rfl rfl rfl (by decide) ?_
                refine JR.gf (g := 120) rfl rfl rfl rfl rfl (by decide) ?_
                refine JR.gf (g := 120) rfl rfl rfl rfl rfl (by decide) ?_
                refine JR.gf (g := 120) rfl rfl rfl rfl rfl (by decide) ?_
                refine JR.gf (g := 120) rfl rfl rfl rfl rfl (by decide) ?_
                refine JR.gf (g := 120) rfl rfl rfl rfl rfl (by decide) ?_
                refine JR.gf (g := 120) rfl rfl rfl rfl rfl (by decide) ?_
                refine JR.gf (g := 120) rfl rfl rfl rfl rfl (by decide) ?_
                refine JR.gf (g := 120) rfl rfl rfl rfl rfl (by decide) ?_
                refine JR.gf (g := 120) rfl rfl rfl rfl rfl (by decide) ?_
                refine JR.gf (g := 120) rfl rfl rfl rfl rfl (by decide) ?_
                refine JR.u rfl rfl rfl (Yv.pick0 rfl rfl rfl) (by decide) ?_
                refine .nil (.tn ?_)
                refine .k0 rfl rfl ?_
                skip
                refine .skip (.block_normal (.tn (.region ?_)))
                refine .w (.move rfl) ?_
                refine .w (.asI ((x + 1 : Nat) : Int) (.bin rfl rfl (BinR.add_i (by first | (constructor <;> omega) | (constructor <;> simp <;> omega))))) ?_
                refine .w (.assign rfl) ?_
                refine .nil ?_
                refine .hd (x + 1) ?_
                exact ⟨by omega, by omega⟩
            · skip
              refine .exit (.then_exit (.then_exit (.block_exit (.tn (.region ?_)))))
              refine .w (.move rfl) ?_
              refine .w (.move rfl) ?_
              refine .w (.move rfl) ?_
              refine .w (.ix Tryd.underlying31 sz_41 rfl rfl) ?_
              refine .w (.as (v' := acV (actAt l2 k)) (.lda agg_41 rfl) (congrArg (fun l : List Value => Value.agg l.toArray) (act_all (by omega)))) ?_
              refine .ls Tryd.underlying31 info_41 (fun v138 => ?_) (hsz := (by intro v hv; rw [List.mem_singleton.1 hv]; exact acV_size _))
              rw [ls1]
              refine .ap Tryd.underlying31 info_41 (fun v139 => ?_) (hone := (acC_one _))
              rw [← acC_app, List.append_assoc, ← take_act (show k < l2.length by omega), show (d ++ l2.take k).length + 1 = (d ++ l2.take (k + 1)).length from by rw [take_act (show k < l2.length by omega), ← List.append_assoc]; simp only [List.length_append, List.length_cons, List.length_nil]]
              refine .w (.assign rfl) ?_
              refine .nil (.block_normal (.tn (.region ?_)))
              refine .w (.move rfl) ?_
              refine .w (.asI ((k + 1 : Nat) : Int) (.bin rfl rfl (BinR.add_i (by first | (constructor <;> omega) | (constructor <;> simp <;> omega))))) ?_
              refine .w (.assign rfl) ?_
              refine .nil ?_
              refine .hd (k + 1, v139) ?_
              exact ⟨by dsimp only; omega, by dsimp only; omega⟩
          · have hk' : k = l2.length := by omega
            subst hk'
            rw [List.take_length]
            refine .exit (.then_exit (.then_exit (.block_exit (.tn (.seq (.region ?_))))))
            refine .w (.move rfl) ?_
            refine .c (f13_spec p s2) body_13 ?_
            refine .w (.assign rfl) ?_
            refine .nil (.tn (.seq (.seq (.region ?_))))
            refine .w (.move rfl) ?_
            refine .w (.move rfl) ?_
            refine .w (.bin rfl rfl BinR.lss_i) ?_
            refine .nil (.tn ?_)
            refine .cn rfl (fun hc9 => ?_) (fun hc9 => ?_)
            · exact absurd hc9 (by have h1 : s1.rd ≤ s2.rd := hO.2.1; omega)
            · skip
              refine .skip (.tn (.region ?_))
              refine .w (.move rfl) ?_
              refine .w (.assign rfl) ?_
              refine .nil (.block_normal (.tn (.region ?_)))
              refine .w (.move rfl) ?_
              refine .w (.asI ((i + 1 : Nat) : Int) (.bin rfl rfl (BinR.add_i (by first | (constructor <;> omega) | (constructor <;> simp <;> omega))))) ?_
              refine .w (.assign rfl) ?_
              refine .nil ?_
              refine .hd (i + 1, s2, w3, d ++ l2) ?_
              exact ⟨⟨by dsimp only; omega, hok2, hO.1, by dsimp only; rw [List.length_append]; have := hO.2.2.1; omega⟩, by dsimp only; omega⟩
      · skip
        refine .exit (.then_exit (.then_exit (.block_exit (.tn (.seq (.region ?_))))))
        refine .w (.move rfl) ?_
        refine .w (.assign rfl) ?_
        refine .nil (.tn (.ret ?_))
        exact .dn [] [] (res1 rfl (.tmp rfl)) ⟨rfl, rfl, rfl⟩

theorem f3b_spec (u vo : Value) (S : List W64) (me sh : Int) (own : D32) (os : List OpE) (hg : ¬ NewGood S me sh own) :
    Spec Tryd.prog 3 #[u, (it me), (it sh), (dgV own), vo] [Res.var 0 [u64 9223372036854775808, u64 0, u64 0, u64 0], Res.rd u S.length 1 (S.map u64), Res.rd vo os.length 40 (opsC os)] []
      (fun r Γ' H' => r = (.bool true) ∧ Γ' = [] ∧ H' = []) := by
  refine Spec.of_args Tryd.func3 rfl Tryd.ntmps3 (by simp) fun w => ?_
  refine JC.know (φ := os.length ≤ 9223372036854775807) (fun w hs => by obtain ⟨_, _, _, _, _, _, h⟩ := hs.rdForm (.tail _ (.tail _ (.head _))); unfold maxLen at h; omega) fun hlo => ?_
  refine JC.know (φ := S.length ≤ 9223372036854775807) (fun w hs => by obtain ⟨_, _, _, _, _, _, h⟩ := hs.rdForm (.tail _ (.head _)); unfold maxLen at h; omega) fun hls => ?_
  refine .seq (.region ?_)
  refine .bx fun b8 => ?_
  refine .w (.assign rfl) ?_
  refine .nil (.tn (.seq (.region ?_)))
  refine .c f8_spec body_8 ?_
  refine .w (.assign rfl) ?_
  refine .nil (.tn (.seq (.region ?_)))
  refine .w (.move rfl) ?_
  refine .w (.move rfl) ?_
  refine .w (.move rfl) ?_
  refine .w (.as (v' := dgV own) (.lda agg_24 rfl) rfl) ?_
  refine .cb (f9nil_spec u S me sh own hg) body_9 ?_ (h0 := by rintro _ _ _ ⟨_, _, h, _⟩; exact h)
  rintro _ _ ⟨e, rfl, _, rfl⟩
  refine .ap ?_
  refine .w (.move rfl) ?_
  refine .w (.extract rfl rfl) ?_
  refine .w (.extract rfl rfl) ?_
  refine .w (.assign rfl) ?_
  refine .w (.assign rfl) ?_
  refine .nil (.tn (.seq (.seq (.region ?_))))
  refine .w (.move rfl) ?_
  refine .w (.as (v' := .bool true) (.bin rfl rfl (BinR.eql_p Tryd.underlying27)) rfl) ?_
  refine .w (.move rfl) ?_
  refine .gf (g := 32) rfl rfl rfl (by decide) ?_
  refine .gf (g := 32) rfl rfl rfl (by decide) ?_
  refine .gf (g := 32) rfl rfl rfl (by decide) ?_
  refine .w (.pick1 rfl rfl rfl) ?_
  refine .w (.move rfl) ?_
  refine .gf (g := 37) rfl rfl rfl (by decide) ?_
  refine .gf (g := 37) rfl rfl rfl (by decide) ?_
  refine .gf (g := 37) rfl rfl rfl (by decide) ?_
  refine .w (.pick1 rfl rfl rfl) ?_
  refine .nil (.tn ?_)
  refine .ct rfl ?_
  refine .seq (.region ?_)
  refine .w (.move rfl) ?_
  refine .w (.assign rfl) ?_
  refine .nil (.tn (.ret (.then_ret ?_)))
  exact .dn [] [] (res1 rfl (.tmp rfl)) ⟨rfl, rfl, rfl⟩

theorem f3_spec (u vo : Value) (S : List W64) (me sh : Int) (own : D32) (os : List OpE) (hsh : sh ≤ 9223372036854775807) : Spec Tryd.prog 3 #[u, (it me), (it sh), (dgV own), vo] [Res.var 0 [u64 9223372036854775808, u64 0, u64 0, u64 0], Res.rd u S.length 1 (S.map u64), Res.rd vo os.length 40 (opsC os)] [] (fun r Γ' H' => r = (.bool true) ∧ Γ' = [] ∧ H' = []) := by
  by_cases h : NewGood S me sh own
  · exact f3a_spec u vo S me sh own os h hsh
  · exact f3b_spec u vo S me sh own os h
end Go.Proofs.YtncececcopalgaaDoor
