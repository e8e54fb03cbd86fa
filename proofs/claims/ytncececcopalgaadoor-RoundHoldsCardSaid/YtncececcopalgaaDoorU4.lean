/- Walk: RoundHolds. -/
import Derived.Test.YtncececcopalgaaDoorU3
namespace Go.Proofs.YtncececcopalgaaDoor
open Go.RowKit
set_option maxRecDepth 100000
set_option linter.unusedVariables false
set_option linter.unusedSimpArgs false
theorem f4a_spec (u vo : Value) (S : List W64) (me sh : Int) (own : D32) (os : List OpE) (hg : NewGood S me sh own) (hsh : sh ≤ 9223372036854775807) :
    Spec Tryd.prog 4 #[u, (it me), (it sh), (dgV own), vo] [Res.var 0 [u64 9223372036854775808, u64 0, u64 0, u64 0], Res.rd u S.length 1 (S.map u64), Res.rd vo os.length 40 (opsC os)] []
      (fun r Γ' H' => r = (.bool true) ∧ Γ' = [] ∧ H' = []) := by
  refine Spec.of_args Tryd.func4 rfl Tryd.ntmps4 (by simp) fun w => ?_
  refine JC.know (φ := os.length ≤ 9223372036854775807) (fun w hs => by obtain ⟨_, _, _, _, _, _, h⟩ := hs.rdForm (.tail _ (.tail _ (.head _))); unfold maxLen at h; omega) fun hlo => ?_
  refine JC.know (φ := S.length ≤ 9223372036854775807) (fun w hs => by obtain ⟨_, _, _, _, _, _, h⟩ := hs.rdForm (.tail _ (.head _)); unfold maxLen at h; omega) fun hls => ?_
  refine .seq (.region ?_)
  refine .bx fun b8 => ?_
  refine .w (.assign rfl) ?_
  refine .nil (.tn (.seq (.region ?_)))
  refine .c f8_spec body_8 ?_
  refine .w (.assign rfl) ?_
  refine .nil (.tn (.seq (.region ?_)))
  refine .w (.move rfl) ?_
  refine .w (.move rfl) ?_
  refine .w (.move rfl) ?_
  refine .w (.as (v' := dgV own) (.lda agg_24 rfl) rfl) ?_
  refine .cb (f9ok_spec u S me sh own hg.1 hg.2.1 hg.2.2.1 hg.2.2.2) body_9 ?_ (h0 := by rintro _ _ _ ⟨_, _, _, _, _, _, h, _⟩; exact h)
  rintro _ _ ⟨p, sv, bp, bt, bd, rfl, _, rfl⟩
  refine .ap ?_
  have hok0 := hg.ok hsh sv bp bt bd
  refine .w (.move rfl) ?_
  refine .w (.extract rfl rfl) ?_
  refine .w (.extract rfl rfl) ?_
  refine .w (.assign rfl) ?_
  refine .w (.assign rfl) ?_
  refine .nil (.tn (.seq (.seq (.region ?_))))
  refine .w (.move rfl) ?_
  refine .w (.as (v' := .bool false) (.bin rfl rfl (BinR.eql_p Tryd.underlying27)) rfl) ?_
  refine .w (.move rfl) ?_
  refine .join 9 42 (.bool (decide (10 < (S.length : Int) ∨ 60 < (os.length : Int)))) ?_ ?_
  · refine .gt (g := 33) rfl rfl rfl ?_
    refine .w (.move rfl) ?_
    refine .gt (g := 33) rfl rfl rfl ?_
    refine .w (.len Tryd.underlying22 rfl) ?_
    refine .gt (g := 33) rfl rfl rfl ?_
    refine .w (.bin rfl rfl BinR.gtr_i) ?_
    refine .w (.pick0 rfl rfl rfl) ?_
    refine .w (.move rfl) ?_
    refine .gn (g := 37) rfl (fun hg23 hg23' => ?_) (fun hg23 hg23' => ?_)
    · refine .gf (g := 38) rfl rfl hg23 (by decide) ?_
      refine .gf (g := 38) rfl rfl hg23 (by decide) ?_
      refine .gf (g := 38) rfl rfl hg23 (by decide) ?_
      refine .w (.pick1 rfl hg23 rfl) ?_
      refine .nil ?_
      refine .head () (by first | (refine ⟨by first | rfl | exact congrArg (fun b => some (Value.bool b)) (by first | exact (decide_eq_true (by omega)).symm | exact (decide_eq_false (by omega)).symm | exact decide_eq_decide.2 (by omega)) | (simp [*]; done) | (show some _ = some _; simp [*]; done), ?_⟩; repeat (first | exact trivial | refine ⟨rfl, ?_⟩))) (fun _ h => h) (Picks.perm (by repeat (first | exact Picks.nil _ | apply Picks.cons | exact Pull.here _ _ | apply Pull.there))) ?_
      trivial
    · refine .gt (g := 38) rfl rfl hg23 ?_
      refine .w (.move rfl) ?_
      refine .gt (g := 38) rfl rfl hg23 ?_
      refine .w (.len Tryd.underlying25 rfl) ?_
      refine .gt (g := 38) rfl rfl hg23 ?_
      refine .w (.bin rfl rfl BinR.gtr_i) ?_
      refine .w (.pick0 rfl hg23 rfl) ?_
      refine .nil ?_
      refine .head () (by first | (refine ⟨by first | rfl | exact congrArg (fun b => some (Value.bool b)) (by first | exact (decide_eq_true (by omega)).symm | exact (decide_eq_false (by omega)).symm | exact decide_eq_decide.2 (by omega)) | (simp [*]; done) | (show some _ = some _; simp [*]; done), ?_⟩; repeat (first | exact trivial | refine ⟨rfl, ?_⟩))) (fun _ h => h) (Picks.perm (by repeat (first | exact Picks.nil _ | apply Picks.cons | exact Pull.here _ _ | apply Pull.there))) ?_
      trivial
  · refine .nil (.tn ?_)
    refine .cn rfl (fun hc1 => ?_) (fun hc1 => ?_)
    · skip
      refine .seq (.region ?_)
      refine .w (.move rfl) ?_
      refine .w (.assign rfl) ?_
      refine .nil (.tn (.ret (.then_ret ?_)))
      exact .dn [] [] (res1 rfl (.tmp rfl)) ⟨rfl, rfl, rfl⟩
    · have hol : os.length ≤ 60 := by omega
      refine .skip (.tn (.seq (.seq (.region ?_))))
      refine .w (.assign rfl) ?_
      refine .nil (.tn (.block ?_))
      refine .lp (ι := Nat × RA) (fun x => x.1 ≤ os.length ∧ x.2.Ok ∧ x.2.abs.I0) (fun T x => (14, it (x.1 : Int)) :: T) (fun T _ => T) (fun T x => Res.cells p x.2.cells 77 :: Res.row x.2.sv x.2.S.length 48 1 (x.2.S.map u64) :: mpR x.2.bp itK prV x.2.pr :: mpR x.2.bt k2V tpV x.2.ta :: mpR x.2.bd k2V blV x.2.dn :: Res.sep (tals x.2.S x.2.ta.es) :: T) (fun x => os.length - x.1) (0, RA.newA sv bp bt bd S me sh own) [4, 11, 12, 156] ?_ (fun x hx => ?_)
      · exact ⟨Nat.zero_le _, hok0, AR.new_I0 _ _ _ _⟩
      obtain ⟨i, s1⟩ := x
      obtain ⟨hi, hok1, hI⟩ := hx
      dsimp only at hi hok1 hI ⊢
      refine .seq (.seq (.region ?_))
      refine .w (.move rfl) ?_
      refine .w (.move rfl) ?_
      refine .w (.len Tryd.underlying25 rfl) ?_
      refine .w (.bin rfl rfl BinR.lss_i) ?_
      refine .nil (.tn ?_)
      refine .cn rfl (fun hc2 => ?_) (fun hc2 => ?_)
      · skip
        refine .skip (.tn (.seq (.block (.seq (.region ?_)))))
        refine .w (.assign rfl) ?_
        refine .nil (.tn (.seq (.region ?_)))
        refine .w (.move rfl) ?_
        refine .c (f14_spec p s1) body_14 ?_
        refine .w (.move rfl) ?_
        refine .w (.extract rfl rfl) ?_
        refine .w (.extract rfl rfl) ?_
        refine .al zero_24 fun b16 => ?_
        first | refine .sa sz_24 ?_ (h1 := (dg_one _)) | refine .so sz_24 ?_ (h1 := (dg_one _)) | refine .sr sz_24 ?_ (h1 := (dg_one _))
        refine .w (.assign rfl) ?_
        refine .nil (.tn ?_)
        refine .mt (ι := Value × RA × List Act) (fun x => x.2.1.Ok ∧ x.2.1.abs = (s1.abs.do1 (opAt os i)).1 ∧ x.2.2 = (s1.abs.do1 (opAt os i)).2.1) (fun T x => (15, x.1) :: T) (fun T _ => T) (fun T x => Res.row x.1 x.2.2.length 41 35 (acC x.2.2) :: Res.cells p x.2.1.cells 77 :: Res.row x.2.1.sv x.2.1.S.length 48 1 (x.2.1.S.map u64) :: mpR x.2.1.bp itK prV x.2.1.pr :: mpR x.2.1.bt k2V tpV x.2.1.ta :: mpR x.2.1.bd k2V blV x.2.1.dn :: Res.sep (tals x.2.1.S x.2.1.ta.es) :: T) [4, 10, 11, 12, 14, 16, 17, 18, 19, 20, 21, 44, 45, 46, 47, 48, 49, 50, 51, 52, 53, 54, 95, 96, 97, 98, 99, 100, 101, 102, 103, 104, 105, 106, 107, 108, 109, 110, 111, 112, 113, 114, 115, 116, 117, 118, 119, 120, 121, 122, 123, 124, 125, 126, 127, 128, 129, 130, 131, 132, 133, 134, 135, 136, 137, 138, 139, 140, 141, 142, 143, 144, 145, 146, 147, 148, 149, 150, 151, 152, 153, 154, 155, 156] (RA.H p s1) ?_ (fun x hx => ?_)
        · refine .seq (.region ?_)
          refine .w (.move rfl) ?_
          refine .w (.move rfl) ?_
          refine .w (.ix Tryd.underlying25 sz_35 rfl rfl) ?_
          refine .w (.fieldAddr fa_35_0 rfl) ?_
          refine .w (.as (v' := it (opAt os i).do_) (.ld one_3 rfl (hj := by exact op_do (by omega))) rfl) ?_
          refine .nil (.tn (.block (.seq (.region ?_))))
          refine .w (.bin rfl rfl BinR.eql_i) ?_
          refine .w (.assign rfl) ?_
          refine .nil (.tn ?_)
          refine .cn rfl (fun hc3 => ?_) (fun hc3 => ?_)
          · have hd : (s1.abs.do1 (opAt os i)) = (s1.abs.start.1, s1.abs.start.2, 0) := if_pos hc3
            refine .region ?_
            refine .w (.move rfl) ?_
            refine .cb (f10_spec p s1 hok1) body_10 ?_ (h0 := by rintro _ _ _ ⟨_, _, _, _, _, h, _⟩; exact h)
            rintro va _ ⟨s2, w2, hok2, hab2, rfl, _, rfl⟩
            refine .ap ?_
            refine .w (.assign rfl) ?_
            refine .nil (.block_normal ?_)
            refine .hd (va, s2, s1.abs.start.2) ?_
            first | exact ⟨hok2, by dsimp only; rw [hd]; exact hab2, by dsimp only; rw [hd]⟩ | exact ⟨hok1, by dsimp only; rw [hd], by dsimp only; rw [hd]⟩
          · skip
            refine .seq (.region ?_)
            refine .w (.bin rfl rfl BinR.eql_i) ?_
            refine .w (.assign rfl) ?_
            refine .nil (.tn ?_)
            refine .cn rfl (fun hc4 => ?_) (fun hc4 => ?_)
            · have hd : (s1.abs.do1 (opAt os i)) = s1.abs.hear (opAt os i).m (opAt os i).good := (if_neg hc3).trans (if_pos hc4)
              refine JC.draw (.one 0 (.one 1 (.one 2 (.one 3 (.one 4 (.one 5 (.one 6 (.one 7 (.one 8 (.one 9 (.one 10 (.one 11 (.one 12 (.one 13 (.one 14 (.one 15 .nil)))))))))))))))) (fun i => ([11] : List Nat).contains i) (fun i => ([11] : List Nat).contains i) (fun i => ([0, 1, 2, 3, 4, 5, 6, 7, 8, 9, 10, 12, 13, 14, 15] : List Nat).contains i) mixed (by kernel_rfl) (by decide) (by kernel_rfl) ?_
              refine .uw rfl (.move rfl) ?_
              refine .uw rfl (.move rfl) ?_
              refine .uw rfl (.move rfl) ?_
              refine .uw rfl (.ix Tryd.underlying25 sz_35 rfl rfl) ?_
              refine .uw rfl (.fieldAddr fa_35_3 rfl) ?_
              refine .uw rfl (.as (v' := msV (opAt os i).m) (.lda agg_33 rfl) (congrArg (fun l : List Value => Value.agg l.toArray) (op_m (by omega)))) ?_
              refine .uw rfl (.move rfl) ?_
              refine .uw rfl (.move rfl) ?_
              refine .uw rfl (.ix Tryd.underlying25 sz_35 rfl rfl) ?_
              refine .uw rfl (.fieldAddr fa_35_4 rfl) ?_
              refine .uw rfl (.as (v' := .bool (opAt os i).good) (.ld one_4 rfl (hj := by exact op_good (by omega))) rfl) ?_
              refine .mw rfl (.cb (f11_spec p s1 hok1 (opAt os i).m (opAt os i).good) body_11 (h0 := by rintro _ _ _ ⟨_, _, _, _, _, h, _⟩; exact h)) ?_
              rintro _ _ _ ⟨_, ⟨s2, wb, hok2, hab2, rfl, _, rfl⟩, hΓ, hH⟩
              simp only [List.cons_append, List.nil_append] at hH; subst hΓ hH
              refine kp ?_
              refine .uw rfl (.move rfl) ?_
              refine .uw rfl (.extract rfl rfl) ?_
              refine .uw rfl (.extract rfl rfl) ?_
              refine .uw rfl (.assign rfl) ?_
              refine .nil (.block_normal ?_)
              refine .hd (wb, s2, (s1.abs.hear (opAt os i).m (opAt os i).good).2.1) ?_
              first | exact ⟨hok2, by dsimp only; rw [hd]; exact hab2, by dsimp only; rw [hd]⟩ | exact ⟨hok1, by dsimp only; rw [hd], by dsimp only; rw [hd]⟩
            · skip
              refine .seq (.region ?_)
              refine .w (.bin rfl rfl BinR.eql_i) ?_
              refine .w (.assign rfl) ?_
              refine .nil (.tn ?_)
              refine .cn rfl (fun hc5 => ?_) (fun hc5 => ?_)
              · have hd : (s1.abs.do1 (opAt os i)) = ((s1.abs.timeout (opAt os i).kind (opAt os i).round).1, (s1.abs.timeout (opAt os i).kind (opAt os i).round).2, 0) := (if_neg hc3).trans ((if_neg hc4).trans (if_pos hc5))
                refine JC.draw (.one 0 (.one 1 (.one 2 (.one 3 (.one 4 (.one 5 (.one 6 (.one 7 (.one 8 (.one 9 (.one 10 (.one 11 (.one 12 .nil))))))))))))) (fun i => ([11] : List Nat).contains i) (fun i => ([11] : List Nat).contains i) (fun i => ([0, 1, 2, 3, 4, 5, 6, 7, 8, 9, 10, 12] : List Nat).contains i) mixed (by kernel_rfl) (by decide) (by kernel_rfl) ?_
                refine .uw rfl (.move rfl) ?_
                refine .uw rfl (.move rfl) ?_
                refine .uw rfl (.move rfl) ?_
                refine .uw rfl (.ix Tryd.underlying25 sz_35 rfl rfl) ?_
                refine .uw rfl (.fieldAddr fa_35_1 rfl) ?_
                refine .uw rfl (.as (v' := it (opAt os i).kind) (.ld one_3 rfl (hj := by exact op_kind (by omega))) rfl) ?_
                refine .uw rfl (.move rfl) ?_
                refine .uw rfl (.move rfl) ?_
                refine .uw rfl (.ix Tryd.underlying25 sz_35 rfl rfl) ?_
                refine .uw rfl (.fieldAddr fa_35_2 rfl) ?_
                refine .uw rfl (.as (v' := it (opAt os i).round) (.ld one_3 rfl (hj := by exact op_round (by omega))) rfl) ?_
                refine .mw rfl (.cb (f12_spec p s1 hok1 (opAt os i).kind (opAt os i).round) body_12 (h0 := by rintro _ _ _ ⟨_, _, _, _, _, h, _⟩; exact h)) ?_
                rintro vc _ _ ⟨_, ⟨s2, w2, hok2, hab2, rfl, _, rfl⟩, hΓ, hH⟩
                simp only [List.cons_append, List.nil_append] at hH; subst hΓ hH
                refine kp ?_
                refine .uw rfl (.assign rfl) ?_
                refine .nil (.block_normal ?_)
                refine .hd (vc, s2, (s1.abs.timeout (opAt os i).kind (opAt os i).round).2) ?_
                first | exact ⟨hok2, by dsimp only; rw [hd]; exact hab2, by dsimp only; rw [hd]⟩ | exact ⟨hok1, by dsimp only; rw [hd], by dsimp only; rw [hd]⟩
              · have hd : (s1.abs.do1 (opAt os i)) = (s1.abs, [], 0) := (if_neg hc3).trans ((if_neg hc4).trans (if_neg hc5))
                refine .nilRow 41 35 ?_
                refine .skip (.block_normal ?_)
                refine .hd (.slice none 0 0, s1, []) ?_
                first | exact ⟨hok2, by dsimp only; rw [hd]; exact hab2, by dsimp only; rw [hd]⟩ | exact ⟨hok1, by dsimp only; rw [hd], by dsimp only; rw [hd]⟩
        · obtain ⟨wa, s2, l2⟩ := x
          obtain ⟨hok2, hab2, hl2⟩ := hx
          dsimp only at hok2 hab2 hl2 ⊢
          have hO := AR.holds_do1 hI hok1.fine (opAt os i)
          have hl620 : l2.length ≤ 620 := by rw [hl2]; exact hO.2.2.1
          have hLk := hO.2.2.2
          rw [← hab2, ← hl2] at hLk
          refine .seq (.region ?_)
          refine .w (.move rfl) ?_
          refine .c (f14_spec p s2) body_14 ?_
          refine .w (.move rfl) ?_
          refine .w (.extract rfl rfl) ?_
          refine .w (.extract rfl rfl) ?_
          refine .al zero_24 fun b18 => ?_
          first | refine .sa sz_24 ?_ (h1 := (dg_one _)) | refine .so sz_24 ?_ (h1 := (dg_one _)) | refine .sr sz_24 ?_ (h1 := (dg_one _))
          refine .w (.assign rfl) ?_
          refine .nil (.tn (.seq (.seq (.region ?_))))
          refine .w (.move rfl) ?_
          refine .w (.move rfl) ?_
          refine .w (.bin rfl rfl BinR.lss_i) ?_
          refine .w (.move rfl) ?_
          refine .join 9 112 (.bool (decide (s2.lk.r < s1.lk.r ∨ (s2.lk.r = s1.lk.r ∧ s2.lk.v ≠ s1.lk.v)))) ?_ ?_
          · refine .gn (g := 102) rfl (fun hg98 hg98' => ?_) (fun hg98 hg98' => ?_)
            · refine .gf (g := 103) rfl rfl hg98 (by decide) ?_
              refine .gf (g := 103) rfl rfl hg98 (by decide) ?_
              refine .gf (g := 103) rfl rfl hg98 (by decide) ?_
              refine .gf (g := 103) rfl rfl hg98 (by decide) ?_
              refine .gu (g := 107) rfl rfl (by decide) ?_
              refine .gu (g := 107) rfl rfl (by decide) ?_
              refine .gu (g := 107) rfl rfl (by decide) ?_
              refine .gf (g := 103) rfl rfl hg98 (by decide) ?_
              refine .w (.pick1 rfl hg98 rfl) ?_
              refine .nil ?_
              refine .head () (by first | (refine ⟨by first | rfl | exact congrArg some (congrArg Value.bool (by simp [*])), ?_⟩; repeat (first | exact trivial | refine ⟨rfl, ?_⟩))) (fun _ h => h) (Picks.perm (by repeat (first | exact Picks.nil _ | apply Picks.cons | exact Pull.here _ _ | apply Pull.there))) ?_
              trivial
            · refine .gt (g := 103) rfl rfl hg98 ?_
              refine .w (.move rfl) ?_
              refine .gt (g := 103) rfl rfl hg98 ?_
              refine .w (.move rfl) ?_
              refine .gt (g := 103) rfl rfl hg98 ?_
              refine .w (.bin rfl rfl BinR.eql_i) ?_
              refine .gt (g := 103) rfl rfl hg98 ?_
              refine .w (.move rfl) ?_
              refine .gn (g := 106) rfl (fun hg102 hg102' => ?_) (fun hg102 hg102' => ?_)
              · refine .gt (g := 107) rfl rfl hg102 ?_
                refine .w (.as (v' := dgV s2.lk.v) (.lda agg_24 rfl) rfl) ?_
                refine .gt (g := 107) rfl rfl hg102 ?_
                refine .w (.as (v' := dgV s1.lk.v) (.lda agg_24 rfl) rfl) ?_
                refine .gt (g := 107) rfl rfl hg102 ?_
                refine .w (.bin rfl rfl (neq_dig)) ?_
                refine .gt (g := 103) rfl rfl hg98 ?_
                refine .w (.pick1 rfl hg102 rfl) ?_
                refine .w (.pick0 rfl hg98 rfl) ?_
                refine .nil ?_
                refine .head () (by first | (refine ⟨by first | rfl | exact congrArg some (congrArg Value.bool (by simp [*])), ?_⟩; repeat (first | exact trivial | refine ⟨rfl, ?_⟩))) (fun _ h => h) (Picks.perm (by repeat (first | exact Picks.nil _ | apply Picks.cons | exact Pull.here _ _ | apply Pull.there))) ?_
                trivial
              · refine .gf (g := 107) rfl rfl hg102 (by decide) ?_
                refine .gf (g := 107) rfl rfl hg102 (by decide) ?_
                refine .gf (g := 107) rfl rfl hg102 (by decide) ?_
                refine .gt (g := 103) rfl rfl hg98 ?_
                refine .w (.pick0 rfl hg102 rfl) ?_
                refine .w (.pick0 rfl hg98 rfl) ?_
                refine .nil ?_
                refine .head () (by first | (refine ⟨by first | rfl | exact congrArg some (congrArg Value.bool (by simp [*])), ?_⟩; repeat (first | exact trivial | refine ⟨rfl, ?_⟩))) (fun _ h => h) (Picks.perm (by repeat (first | exact Picks.nil _ | apply Picks.cons | exact Pull.here _ _ | apply Pull.there))) ?_
                trivial
          · refine .nil (.tn ?_)
            refine .cn rfl (fun hc6 => ?_) (fun hc6 => ?_)
            · exact absurd hc6 (holds_no hLk)
            · skip
              refine .skip (.tn (.seq (.region ?_)))
              refine .w (.move rfl) ?_
              refine .w (.move rfl) ?_
              refine .w (.bin rfl rfl BinR.gtr_i) ?_
              refine .nil (.tn ?_)
              refine .cn rfl (fun hc7 => ?_) (fun hc7 => ?_)
              · have hfl := foundK_lk hLk (show s1.abs.lk.r < s2.abs.lk.r from by show s1.lk.r < s2.lk.r; omega)
                refine .seq (.region ?_)
                refine .w (.assign rfl) ?_
                refine .nil (.tn (.seq (.seq (.region ?_))))
                refine .w (.assign rfl) ?_
                refine .nil (.tn (.block ?_))
                refine .lp (ι := Nat × Bool) (fun x => x.1 ≤ l2.length ∧ x.2 = foundK l2 s2.lk x.1) (fun T x => (21, it (x.1 : Int)) :: (20, .bool x.2) :: T) (fun T _ => T) (fun T _ => T) (fun x => l2.length - x.1) (0, false) [4, 10, 11, 12, 14, 15, 16, 17, 18, 19, 44, 45, 46, 47, 48, 49, 50, 51, 52, 53, 54, 55, 56, 57, 58, 59, 60, 61, 62, 63, 64, 65, 66, 67, 68, 69, 70, 71, 72, 73, 74, 75, 76, 77, 78, 79, 81, 82, 83, 84, 85, 86, 87, 88, 89, 90, 91, 92, 93, 94, 95, 96, 97, 98, 99, 100, 101, 102, 103, 104, 105, 106, 107, 108, 109, 110, 111, 112, 113, 114, 115, 149, 150, 151, 152, 153, 154, 155, 156] ?_ (fun x hx => ?_)
                · exact ⟨Nat.zero_le _, rfl⟩
                obtain ⟨k, fd⟩ := x
                obtain ⟨hk, hfd⟩ := hx
                dsimp only at hk hfd ⊢
                refine .seq (.seq (.region ?_))
                refine .w (.move rfl) ?_
                refine .w (.move rfl) ?_
                refine .w (.len Tryd.underlying31 rfl) ?_
                refine .w (.bin rfl rfl BinR.lss_i) ?_
                refine .nil (.tn ?_)
                refine .cn rfl (fun hc8 => ?_) (fun hc8 => ?_)
                · skip
                  refine .skip (.tn (.seq (.block ?_)))
                  refine JC.draw (.one 0 (.one 1 (.one 2 (.one 3 (.one 4 (.one 5 (.one 6 (.one 7 (.one 8 (.one 9 (.one 10 (.one 11 (.one 12 (.one 13 (.one 14 (.one 15 (.one 16 (.one 17 (.one 18 (.one 19 (.one 20 (.one 21 (.one 22 (.one 23 (.one 24 (.one 25 (.one 26 (.one 27 .nil)))))))))))))))))))))))))))) (fun i => ([] : List Nat).contains i) (fun i => ([] : List Nat).contains i) (fun i => ([0, 1, 2, 3, 5, 7, 8, 9, 10, 12, 14, 15, 16, 17, 18, 19, 21, 24, 25, 26, 27] : List Nat).contains i) mixed (by kernel_rfl) (by decide) (by kernel_rfl) ?_
                  refine .uw rfl (.move rfl) ?_
                  refine .uw rfl (.move rfl) ?_
                  refine JR.gsplit (g := 20) rfl (fun hg119 => ?_) (fun hg119 => ?_)
                  · have hg119' := hg119
                    try simp only [decide_eq_true_eq, decide_eq_false_iff_not, Bool.not_eq_true', Bool.not_eq_false', ne_eq, Decidable.not_not, Bool.not_eq_true, Bool.and_eq_true, Bool.or_eq_true, BitVec.reduceToNat] at hg119'
                    refine JR.gf (g := 123) rfl rfl rfl rfl hg119 (by decide) ?_
                    refine JR.gf (g := 123) rfl rfl rfl rfl hg119 (by decide) ?_
                    refine JR.gf (g := 123) rfl rfl rfl rfl hg119 (by decide) ?_
                    refine JR.gf (g := 123) rfl rfl rfl rfl hg119 (by decide) ?_
                    refine JR.gf (g := 123) rfl rfl rfl rfl hg119 (by decide) ?_
                    refine JR.gf (g := 123) rfl rfl rfl rfl hg119 (by decide) ?_
                    refine JR.gf (g := 123) rfl rfl rfl rfl hg119 (by decide) ?_
                    refine JR.gu (g := 130) rfl rfl rfl rfl (by decide) ?_
                    refine JR.gu (g := 130) rfl rfl rfl rfl (by decide) ?_
                    refine JR.gu (g := 130) rfl rfl rfl rfl (by decide) ?_
                    refine JR.gu (g := 130) rfl rfl rfl rfl (by decide) ?_
                    refine JR.gu (g := 130) rfl rfl rfl rfl (by decide) ?_
                    refine JR.gu (g := 130) rfl rfl rfl rfl (by decide) ?_
                    refine JR.gu (g := 130) rfl rfl rfl rfl (by decide) ?_
                    refine JR.gf (g := 123) rfl rfl rfl rfl hg119 (by decide) ?_
                    refine JR.gf (g := 123) rfl rfl rfl rfl hg119 (by decide) ?_
                    refine JR.gu (g := 139) rfl rfl rfl rfl (by decide) ?_
                    refine JR.gu (g := 139) rfl rfl rfl rfl (by decide) ?_
                    refine JR.gu (g := 139) rfl rfl rfl rfl (by decide) ?_
                    refine JR.gu (g := 139) rfl rfl rfl rfl (by decide) ?_
                    refine JR.gu (g := 139) rfl rfl rfl rfl (by decide) ?_
                    refine JR.gu (g := 139) rfl rfl rfl rfl (by decide) ?_
                    refine JR.gu (g := 139) rfl rfl rfl rfl (by decide) ?_
                    refine JR.gf (g := 123) rfl rfl rfl rfl hg119 (by decide) ?_
                    refine JR.u rfl rfl rfl (Yv.pick1 rfl hg119 rfl) (by decide) ?_
                    refine .uw rfl (.assign rfl) ?_
                    refine .nil (.block_normal (.tn (.region ?_)))
                    refine .w (.move rfl) ?_
                    refine .w (.asI ((k + 1 : Nat) : Int) (.bin rfl rfl (BinR.add_i (by first | (constructor <;> omega) | (constructor <;> simp <;> omega))))) ?_
                    refine .w (.assign rfl) ?_
                    refine .nil ?_
                    first | refine .hd (k + 1, true) ?_ | refine .hd (k + 1, false) ?_ | refine .hd (k + 1, decide ((actAt l2 k).value = s2.lk.v)) ?_
                    exact ⟨⟨by dsimp only; omega, by dsimp only; rw [foundK_succ (by omega), ← hfd]; first | (simp [hg119', hg126', hg135']; done) | (simp [hg119', hg126']; done) | (simp [hg119']; done)⟩, by dsimp only; omega⟩
                  · have hg119' := hg119
                    try simp only [decide_eq_true_eq, decide_eq_false_iff_not, Bool.not_eq_true', Bool.not_eq_false', ne_eq, Decidable.not_not, Bool.not_eq_true, Bool.and_eq_true, Bool.or_eq_true, BitVec.reduceToNat] at hg119'
                    refine JR.ugt (g := 123) rfl rfl rfl rfl rfl hg119 (.move rfl) (by decide) ?_
                    refine JR.ugt (g := 123) rfl rfl rfl rfl rfl hg119 (.move rfl) (by decide) ?_
                    refine JR.vgt (g := 123) rfl rfl rfl rfl rfl hg119 (.ix Tryd.underlying31 sz_41 rfl rfl) (by decide) ?_
                    refine JR.ugt (g := 123) rfl rfl rfl rfl rfl hg119 (.fieldAddr fa_41_0 rfl) (by decide) ?_
                    refine JR.vgt (g := 123) rfl rfl rfl rfl rfl hg119 (.as (v' := it (actAt l2 k).kind) (.ld one_3 rfl (hj := by exact act_kind0 (by omega))) rfl) (by decide) ?_
                    refine JR.ugt (g := 123) rfl rfl rfl rfl rfl hg119 (.bin rfl rfl BinR.eql_i) (by decide) ?_
                    refine JR.ugt (g := 123) rfl rfl rfl rfl rfl hg119 (.move rfl) (by decide) ?_
                    refine JR.gsplit (g := 129) rfl (fun hg126 => ?_) (fun hg126 => ?_)
                    · have hg126' := hg126
                      try simp only [decide_eq_true_eq, decide_eq_false_iff_not, Bool.not_eq_true', Bool.not_eq_false', ne_eq, Decidable.not_not, Bool.not_eq_true, Bool.and_eq_true, Bool.or_eq_true, BitVec.reduceToNat] at hg126'
                      refine JR.ugt (g := 130) rfl rfl rfl rfl rfl hg126 (.move rfl) (by decide) ?_
                      refine JR.ugt (g := 130) rfl rfl rfl rfl rfl hg126 (.move rfl) (by decide) ?_
                      refine JR.vgt (g := 130) rfl rfl rfl rfl rfl hg126 (.ix Tryd.underlying31 sz_41 rfl rfl) (by decide) ?_
                      refine JR.ugt (g := 130) rfl rfl rfl rfl rfl hg126 (.fieldAddr fa_41_1 rfl) (by decide) ?_
                      refine JR.vgt (g := 130) rfl rfl rfl rfl rfl hg126 (.as (v' := it (actAt l2 k).round) (.ld one_3 rfl (hj := by exact act_round (by omega))) rfl) (by decide) ?_
                      refine JR.ugt (g := 130) rfl rfl rfl rfl rfl hg126 (.move rfl) (by decide) ?_
                      refine JR.ugt (g := 130) rfl rfl rfl rfl rfl hg126 (.bin rfl rfl BinR.eql_i) (by decide) ?_
                      refine JR.ugt (g := 123) rfl rfl rfl rfl rfl hg119 (Yv.pick1 rfl hg126 rfl) (by decide) ?_
                      refine JR.ugt (g := 123) rfl rfl rfl rfl rfl hg119 (.move rfl) (by decide) ?_
                      refine JR.gsplit (g := 138) rfl (fun hg135 => ?_) (fun hg135 => ?_)
                      · have hg135' := hg135
                        try simp only [decide_eq_true_eq, decide_eq_false_iff_not, Bool.not_eq_true', Bool.not_eq_false', ne_eq, Decidable.not_not, Bool.not_eq_true, Bool.and_eq_true, Bool.or_eq_true, BitVec.reduceToNat] at hg135'
                        refine JR.ugt (g := 139) rfl rfl rfl rfl rfl hg135 (.move rfl) (by decide) ?_
                        refine JR.ugt (g := 139) rfl rfl rfl rfl rfl hg135 (.move rfl) (by decide) ?_
                        refine JR.vgt (g := 139) rfl rfl rfl rfl rfl hg135 (.ix Tryd.underlying31 sz_41 rfl rfl) (by decide) ?_
                        refine JR.ugt (g := 139) rfl rfl rfl rfl rfl hg135 (.fieldAddr fa_41_2 rfl) (by decide) ?_
                        refine JR.vgt (g := 139) rfl rfl rfl rfl rfl hg135 (.as (v' := dgV (actAt l2 k).value) (.lda agg_24 rfl) (congrArg (fun l : List Value => Value.agg l.toArray) (act_val (by omega)))) (by decide) ?_
                        refine JR.vgt (g := 139) rfl rfl rfl rfl rfl hg135 (.as (v' := dgV s2.lk.v) (.lda agg_24 rfl) rfl) (by decide) ?_
                        refine JR.ugt (g := 139) rfl rfl rfl rfl rfl hg135 (.bin rfl rfl (eql_dig)) (by decide) ?_
                        refine JR.ugt (g := 123) rfl rfl rfl rfl rfl hg119 (Yv.pick1 rfl hg135 rfl) (by decide) ?_
                        refine JR.u rfl rfl rfl (Yv.pick0 rfl hg119 rfl) (by decide) ?_
                        refine .uw rfl (.assign rfl) ?_
                        refine .nil (.block_normal (.tn (.region ?_)))
                        refine .w (.move rfl) ?_
                        refine .w (.asI ((k + 1 : Nat) : Int) (.bin rfl rfl (BinR.add_i (by first | (constructor <;> omega) | (constructor <;> simp <;> omega))))) ?_
                        refine .w (.assign rfl) ?_
                        refine .nil ?_
                        first | refine .hd (k + 1, true) ?_ | refine .hd (k + 1, false) ?_ | refine .hd (k + 1, decide ((actAt l2 k).value = s2.lk.v)) ?_
                        exact ⟨⟨by dsimp only; omega, by dsimp only; rw [foundK_succ (by omega), ← hfd]; first | (simp [hg119', hg126', hg135']; done) | (simp [hg119', hg126']; done) | (simp [hg119']; done)⟩, by dsimp only; omega⟩
                      · have hg135' := hg135
                        try simp only [decide_eq_true_eq, decide_eq_false_iff_not, Bool.not_eq_true', Bool.not_eq_false', ne_eq, Decidable.not_not, Bool.not_eq_true, Bool.and_eq_true, Bool.or_eq_true, BitVec.reduceToNat] at hg135'
                        refine JR.gf (g := 139) rfl rfl rfl rfl hg135 (by decide) ?_
                        refine JR.gf (g := 139) rfl rfl rfl rfl hg135 (by decide) ?_
                        refine JR.gf (g := 139) rfl rfl rfl rfl hg135 (by decide) ?_
                        refine JR.gf (g := 139) rfl rfl rfl rfl hg135 (by decide) ?_
                        refine JR.gf (g := 139) rfl rfl rfl rfl hg135 (by decide) ?_
                        refine JR.gf (g := 139) rfl rfl rfl rfl hg135 (by decide) ?_
                        refine JR.gf (g := 139) rfl rfl rfl rfl hg135 (by decide) ?_
                        refine JR.ugt (g := 123) rfl rfl rfl rfl rfl hg119 (Yv.pick0 rfl hg135 rfl) (by decide) ?_
                        refine JR.u rfl rfl rfl (Yv.pick0 rfl hg119 rfl) (by decide) ?_
                        refine .uw rfl (.assign rfl) ?_
                        refine .nil (.block_normal (.tn (.region ?_)))
                        refine .w (.move rfl) ?_
                        refine .w (.asI ((k + 1 : Nat) : Int) (.bin rfl rfl (BinR.add_i (by first | (constructor <;> omega) | (constructor <;> simp <;> omega))))) ?_
                        refine .w (.assign rfl) ?_
                        refine .nil ?_
                        first | refine .hd (k + 1, true) ?_ | refine .hd (k + 1, false) ?_ | refine .hd (k + 1, decide ((actAt l2 k).value = s2.lk.v)) ?_
                        exact ⟨⟨by dsimp only; omega, by dsimp only; rw [foundK_succ (by omega), ← hfd]; first | (simp [hg119', hg126', hg135']; done) | (simp [hg119', hg126']; done) | (simp [hg119']; done)⟩, by dsimp only; omega⟩
                    · have hg126' := hg126
                      try simp only [decide_eq_true_eq, decide_eq_false_iff_not, Bool.not_eq_true', Bool.not_eq_false', ne_eq, Decidable.not_not, Bool.not_eq_true, Bool.and_eq_true, Bool.or_eq_true, BitVec.reduceToNat] at hg126'
                      refine JR.gf (g := 130) rfl rfl rfl rfl hg126 (by decide) ?_
                      refine JR.gf (g := 130) rfl rfl rfl rfl hg126 (by decide) ?_
                      refine JR.gf (g := 130) rfl rfl rfl rfl hg126 (by decide) ?_
                      refine JR.gf (g := 130) rfl rfl rfl rfl hg126 (by decide) ?_
                      refine JR.gf (g := 130) rfl rfl rfl rfl hg126 (by decide) ?_
                      refine JR.gf (g := 130) rfl rfl rfl rfl hg126 (by decide) ?_
                      refine JR.gf (g := 130) rfl rfl rfl rfl hg126 (by decide) ?_
                      refine JR.ugt (g := 123) rfl rfl rfl rfl rfl hg119 (Yv.pick0 rfl hg126 rfl) (by decide) ?_
                      refine JR.ugt (g := 123) rfl rfl rfl rfl rfl hg119 (.move rfl) (by decide) ?_
                      refine JR.gf (g := 139) rfl rfl rfl rfl rfl (by decide) ?_
                      refine JR.gf (g := 139) rfl rfl rfl rfl rfl (by decide) ?_
                      refine JR.gf (g := 139) rfl rfl rfl rfl rfl (by decide) ?_
                      refine JR.gf (g := 139) rfl rfl rfl rfl rfl (by decide) ?_
                      refine JR.gf (g := 139) rfl rfl rfl rfl rfl (by decide) ?_
                      refine JR.gf (g := 139) rfl rfl rfl rfl rfl (by decide) ?_
                      refine JR.gf (g := 139) rfl rfl rfl rfl rfl (by decide) ?_
                      refine JR.ugt (g := 123) rfl rfl rfl rfl rfl hg119 (Yv.pick0 rfl rfl rfl) (by decide) ?_
                      refine JR.u rfl rfl rfl (Yv.pick0 rfl hg119 rfl) (by decide) ?_
                      refine .uw rfl (.assign rfl) ?_
                      refine .nil (.block_normal (.tn (.region ?_)))
                      refine .w (.move rfl) ?_
                      refine .w (.asI ((k + 1 : Nat) : Int) (.bin rfl rfl (BinR.add_i (by first | (constructor <;> omega) | (constructor <;> simp <;> omega))))) ?_
                      refine .w (.assign rfl) ?_
                      refine .nil ?_
                      first | refine .hd (k + 1, true) ?_ | refine .hd (k + 1, false) ?_ | refine .hd (k + 1, decide ((actAt l2 k).value = s2.lk.v)) ?_
                      exact ⟨⟨by dsimp only; omega, by dsimp only; rw [foundK_succ (by omega), ← hfd]; first | (simp [hg119', hg126', hg135']; done) | (simp [hg119', hg126']; done) | (simp [hg119']; done)⟩, by dsimp only; omega⟩
                · have hk' : k = l2.length := by omega
                  subst hk'
                  rw [show foundK l2 s2.lk l2.length = true from hfl.1] at hfd
                  refine .exit (.then_exit (.then_exit (.block_exit (.tn (.seq (.region ?_))))))
                  refine .w (.move rfl) ?_
                  refine .w (.not rfl) ?_
                  refine .w (.move rfl) ?_
                  refine .join 4 155 (.bool (decide (fd = false ∨ s2.lk.v = D0))) ?_ ?_
                  · refine .gn (g := 150) rfl (fun hg151 hg151' => ?_) (fun hg151 hg151' => ?_)
                    · refine .gf (g := 151) rfl rfl hg151 (by decide) ?_
                      refine .gf (g := 151) rfl rfl hg151 (by decide) ?_
                      refine .gf (g := 151) rfl rfl hg151 (by decide) ?_
                      refine .w (.pick1 rfl hg151 rfl) ?_
                      refine .nil ?_
                      refine .head () (by first | (refine ⟨by first | rfl | exact congrArg some (congrArg Value.bool (by first | (simp [*]; done) | (cases fd <;> simp_all))), ?_⟩; repeat (first | exact trivial | refine ⟨rfl, ?_⟩))) (fun _ h => h) (Picks.perm (by repeat (first | exact Picks.nil _ | apply Picks.cons | exact Pull.here _ _ | apply Pull.there))) ?_
                      trivial
                    · refine .gt (g := 151) rfl rfl hg151 ?_
                      refine .w (.as (v' := dgV s2.lk.v) (.lda agg_24 rfl) rfl) ?_
                      refine .gt (g := 151) rfl rfl hg151 ?_
                      refine .w (.as (v' := dgV D0) (.build bld_24 rfl rfl) rfl) ?_
                      refine .gt (g := 151) rfl rfl hg151 ?_
                      refine .w (.bin rfl rfl (eql_dig)) ?_
                      refine .w (.pick0 rfl hg151 rfl) ?_
                      refine .nil ?_
                      refine .head () (by first | (refine ⟨by first | rfl | exact congrArg some (congrArg Value.bool (by first | (simp [*]; done) | (cases fd <;> simp_all))), ?_⟩; repeat (first | exact trivial | refine ⟨rfl, ?_⟩))) (fun _ h => h) (Picks.perm (by repeat (first | exact Picks.nil _ | apply Picks.cons | exact Pull.here _ _ | apply Pull.there))) ?_
                      trivial
                  · refine .nil (.tn ?_)
                    refine .cn rfl (fun hc9 => ?_) (fun hc9 => ?_)
                    · exact absurd hc9 (fun h => h.elim (fun h => by rw [hfd] at h; cases h) hfl.2)
                    · skip
                      refine .skip (.block_normal (.tn (.region ?_)))
                      refine .w (.move rfl) ?_
                      refine .w (.bin rfl rfl (BinR.add_i (by first | (constructor <;> omega) | (constructor <;> simp <;> omega)))) ?_
                      refine .w (.assign rfl) ?_
                      refine .nil ?_
                      refine .hd (i + 1, s2) ?_
                      exact ⟨⟨by dsimp only; omega, hok2, by dsimp only; rw [hab2]; exact hO.1⟩, by dsimp only; omega⟩
              · skip
                refine .skip (.block_normal (.tn (.region ?_)))
                refine .w (.move rfl) ?_
                refine .w (.bin rfl rfl (BinR.add_i (by first | (constructor <;> omega) | (constructor <;> simp <;> omega)))) ?_
                refine .w (.assign rfl) ?_
                refine .nil ?_
                refine .hd (i + 1, s2) ?_
                exact ⟨⟨by dsimp only; omega, hok2, by dsimp only; rw [hab2]; exact hO.1⟩, by dsimp only; omega⟩
      · skip
        refine .exit (.then_exit (.then_exit (.block_exit (.tn (.seq (.region ?_))))))
        refine .w (.move rfl) ?_
        refine .w (.assign rfl) ?_
        refine .nil (.tn (.ret ?_))
        exact .dn [] [] (res1 rfl (.tmp rfl)) ⟨rfl, rfl, rfl⟩

theorem f4b_spec (u vo : Value) (S : List W64) (me sh : Int) (own : D32) (os : List OpE) (hg : ¬ NewGood S me sh own) :
    Spec Tryd.prog 4 #[u, (it me), (it sh), (dgV own), vo] [Res.var 0 [u64 9223372036854775808, u64 0, u64 0, u64 0], Res.rd u S.length 1 (S.map u64), Res.rd vo os.length 40 (opsC os)] []
      (fun r Γ' H' => r = (.bool true) ∧ Γ' = [] ∧ H' = []) := by
  refine Spec.of_args Tryd.func4 rfl Tryd.ntmps4 (by simp) fun w => ?_
  refine JC.know (φ := os.length ≤ 9223372036854775807) (fun w hs => by obtain ⟨_, _, _, _, _, _, h⟩ := hs.rdForm (.tail _ (.tail _ (.head _))); unfold maxLen at h; omega) fun hlo => ?_
  refine JC.know (φ := S.length ≤ 9223372036854775807) (fun w hs => by obtain ⟨_, _, _, _, _, _, h⟩ := hs.rdForm (.tail _ (.head _)); unfold maxLen at h; omega) fun hls => ?_
  refine .seq (.region ?_)
  refine .bx fun b8 => ?_
  refine .w (.assign rfl) ?_
  refine .nil (.tn (.seq (.region ?_)))
  refine .c f8_spec body_8 ?_
  refine .w (.assign rfl) ?_
  refine .nil (.tn (.seq (.region ?_)))
  refine .w (.move rfl) ?_
  refine .w (.move rfl) ?_
  refine .w (.move rfl) ?_
  refine .w (.as (v' := dgV own) (.lda agg_24 rfl) rfl) ?_
  refine .cb (f9nil_spec u S me sh own hg) body_9 ?_ (h0 := by rintro _ _ _ ⟨_, _, h, _⟩; exact h)
  rintro _ _ ⟨e, rfl, _, rfl⟩
  refine .ap ?_
  refine .w (.move rfl) ?_
  refine .w (.extract rfl rfl) ?_
  refine .w (.extract rfl rfl) ?_
  refine .w (.assign rfl) ?_
  refine .w (.assign rfl) ?_
  refine .nil (.tn (.seq (.seq (.region ?_))))
  refine .w (.move rfl) ?_
  refine .w (.as (v' := .bool true) (.bin rfl rfl (BinR.eql_p Tryd.underlying27)) rfl) ?_
  refine .w (.move rfl) ?_
  refine .gf (g := 33) rfl rfl rfl (by decide) ?_
  refine .gf (g := 33) rfl rfl rfl (by decide) ?_
  refine .gf (g := 33) rfl rfl rfl (by decide) ?_
  refine .w (.pick1 rfl rfl rfl) ?_
  refine .w (.move rfl) ?_
  refine .gf (g := 38) rfl rfl rfl (by decide) ?_
  refine .gf (g := 38) rfl rfl rfl (by decide) ?_
  refine .gf (g := 38) rfl rfl rfl (by decide) ?_
  refine .w (.pick1 rfl rfl rfl) ?_
  refine .nil (.tn ?_)
  refine .ct rfl ?_
  refine .seq (.region ?_)
  refine .w (.move rfl) ?_
  refine .w (.assign rfl) ?_
  refine .nil (.tn (.ret (.then_ret ?_)))
  exact .dn [] [] (res1 rfl (.tmp rfl)) ⟨rfl, rfl, rfl⟩

theorem f4_spec (u vo : Value) (S : List W64) (me sh : Int) (own : D32) (os : List OpE) (hsh : sh ≤ 9223372036854775807) : Spec Tryd.prog 4 #[u, (it me), (it sh), (dgV own), vo] [Res.var 0 [u64 9223372036854775808, u64 0, u64 0, u64 0], Res.rd u S.length 1 (S.map u64), Res.rd vo os.length 40 (opsC os)] [] (fun r Γ' H' => r = (.bool true) ∧ Γ' = [] ∧ H' = []) := by
  by_cases h : NewGood S me sh own
  · exact f4a_spec u vo S me sh own os h hsh
  · exact f4b_spec u vo S me sh own os h
end Go.Proofs.YtncececcopalgaaDoor
