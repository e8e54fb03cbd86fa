/- Walk: RoundQuiet. -/
import Derived.Test.YtncececcopalgaaDoorU3
namespace Go.Proofs.YtncececcopalgaaDoor
open Go.RowKit
set_option maxRecDepth 100000
set_option linter.unusedVariables false
set_option linter.unusedSimpArgs false
theorem f7a_spec (u vo : Value) (S : List W64) (me sh : Int) (own : D32) (os : List OpE) (hg : NewGood S me sh own) (hsh : sh ≤ 9223372036854775807) :
    Spec Tryd.prog 7 #[u, (it me), (it sh), (dgV own), vo] [Res.var 0 [u64 9223372036854775808, u64 0, u64 0, u64 0], Res.rd u S.length 1 (S.map u64), Res.rd vo os.length 40 (opsC os)] []
      (fun r Γ' H' => r = (.bool true) ∧ Γ' = [] ∧ H' = []) := by
  refine Spec.of_args Tryd.func7 rfl Tryd.ntmps7 (by simp) fun w => ?_
  refine JC.know (φ := os.length ≤ 9223372036854775807) (fun w hs => by obtain ⟨_, _, _, _, _, _, h⟩ := hs.rdForm (.tail _ (.tail _ (.head _))); unfold maxLen at h; omega) fun hlo => ?_
  refine JC.know (φ := S.length ≤ 9223372036854775807) (fun w hs => by obtain ⟨_, _, _, _, _, _, h⟩ := hs.rdForm (.tail _ (.head _)); unfold maxLen at h; omega) fun hls => ?_
  refine .seq (.region ?_)
  refine .bx fun b8 => ?_
  refine .w (.assign rfl) ?_
  refine .nil (.tn (.seq (.region ?_)))
  refine .c f8_spec body_8 ?_
  refine .w (.assign rfl) ?_
  refine .nil (.tn (.seq (.region ?_)))
  refine .w (.move rfl) ?_
  refine .w (.move rfl) ?_
  refine .w (.move rfl) ?_
  refine .w (.as (v' := dgV own) (.lda agg_24 rfl) rfl) ?_
  refine .cb (f9ok_spec u S me sh own hg.1 hg.2.1 hg.2.2.1 hg.2.2.2) body_9 ?_ (h0 := by rintro _ _ _ ⟨_, _, _, _, _, _, h, _⟩; exact h)
  rintro _ _ ⟨p, sv, bp, bt, bd, rfl, _, rfl⟩
  refine .ap ?_
  have hok0 := hg.ok hsh sv bp bt bd
  refine .w (.move rfl) ?_
  refine .w (.extract rfl rfl) ?_
  refine .w (.extract rfl rfl) ?_
  refine .w (.assign rfl) ?_
  refine .w (.assign rfl) ?_
  refine .nil (.tn (.seq (.seq (.region ?_))))
  refine .w (.move rfl) ?_
  refine .w (.as (v' := .bool false) (.bin rfl rfl (BinR.eql_p Tryd.underlying27)) rfl) ?_
  refine .w (.move rfl) ?_
  refine .join 9 52 (.bool (decide (10 < (S.length : Int) ∨ 60 < (os.length : Int)))) ?_ ?_
  · refine .gt (g := 43) rfl rfl rfl ?_
    refine .w (.move rfl) ?_
    refine .gt (g := 43) rfl rfl rfl ?_
    refine .w (.len Tryd.underlying22 rfl) ?_
    refine .gt (g := 43) rfl rfl rfl ?_
    refine .w (.bin rfl rfl BinR.gtr_i) ?_
    refine .w (.pick0 rfl rfl rfl) ?_
    refine .w (.move rfl) ?_
    refine .gn (g := 47) rfl (fun hg23 hg23' => ?_) (fun hg23 hg23' => ?_)
    · refine .gf (g := 48) rfl rfl hg23 (by decide) ?_
      refine .gf (g := 48) rfl rfl hg23 (by decide) ?_
      refine .gf (g := 48) rfl rfl hg23 (by decide) ?_
      refine .w (.pick1 rfl hg23 rfl) ?_
      refine .nil ?_
      refine .head () (by first | (refine ⟨by first | rfl | exact congrArg (fun b => some (Value.bool b)) (by first | exact (decide_eq_true (by omega)).symm | exact (decide_eq_false (by omega)).symm | exact decide_eq_decide.2 (by omega)) | (simp [*]; done) | (show some _ = some _; simp [*]; done), ?_⟩; repeat (first | exact trivial | refine ⟨rfl, ?_⟩))) (fun _ h => h) (Picks.perm (by repeat (first | exact Picks.nil _ | apply Picks.cons | exact Pull.here _ _ | apply Pull.there))) ?_
      trivial
    · refine .gt (g := 48) rfl rfl hg23 ?_
      refine .w (.move rfl) ?_
      refine .gt (g := 48) rfl rfl hg23 ?_
      refine .w (.len Tryd.underlying25 rfl) ?_
      refine .gt (g := 48) rfl rfl hg23 ?_
      refine .w (.bin rfl rfl BinR.gtr_i) ?_
      refine .w (.pick0 rfl hg23 rfl) ?_
      refine .nil ?_
      refine .head () (by first | (refine ⟨by first | rfl | exact congrArg (fun b => some (Value.bool b)) (by first | exact (decide_eq_true (by omega)).symm | exact (decide_eq_false (by omega)).symm | exact decide_eq_decide.2 (by omega)) | (simp [*]; done) | (show some _ = some _; simp [*]; done), ?_⟩; repeat (first | exact trivial | refine ⟨rfl, ?_⟩))) (fun _ h => h) (Picks.perm (by repeat (first | exact Picks.nil _ | apply Picks.cons | exact Pull.here _ _ | apply Pull.there))) ?_
      trivial
  · refine .nil (.tn ?_)
    refine .cn rfl (fun hc1 => ?_) (fun hc1 => ?_)
    · skip
      refine .seq (.region ?_)
      refine .w (.move rfl) ?_
      refine .w (.assign rfl) ?_
      refine .nil (.tn (.ret (.then_ret ?_)))
      exact .dn [] [] (res1 rfl (.tmp rfl)) ⟨rfl, rfl, rfl⟩
    · have hol : os.length ≤ 60 := by omega
      refine .skip (.tn (.seq (.seq (.region ?_))))
      refine .w (.assign rfl) ?_
      refine .nil (.tn (.block ?_))
      refine .lp (ι := Nat × RA) (fun x => x.1 ≤ os.length ∧ x.2.Ok ∧ x.2.abs.I0) (fun T x => (14, it (x.1 : Int)) :: T) (fun T _ => T) (fun T x => Res.cells p x.2.cells 77 :: Res.row x.2.sv x.2.S.length 48 1 (x.2.S.map u64) :: mpR x.2.bp itK prV x.2.pr :: mpR x.2.bt k2V tpV x.2.ta :: mpR x.2.bd k2V blV x.2.dn :: Res.sep (tals x.2.S x.2.ta.es) :: T) (fun x => os.length - x.1) (0, RA.newA sv bp bt bd S me sh own) [4, 11, 12, 188] ?_ (fun x hx => ?_)
      · exact ⟨Nat.zero_le _, hok0, AR.new_I0 _ _ _ _⟩
      obtain ⟨i, s1⟩ := x
      obtain ⟨hi, hok1, hI⟩ := hx
      dsimp only at hi hok1 hI ⊢
      refine .seq (.seq (.region ?_))
      refine .w (.move rfl) ?_
      refine .w (.move rfl) ?_
      refine .w (.len Tryd.underlying25 rfl) ?_
      refine .w (.bin rfl rfl BinR.lss_i) ?_
      refine .nil (.tn ?_)
      refine .cn rfl (fun hc2 => ?_) (fun hc2 => ?_)
      · skip
        refine .skip (.tn (.seq (.block (.seq (.region ?_)))))
        refine .w (.move rfl) ?_
        refine .c (f18_spec p s1) body_18 ?_
        refine .w (.move rfl) ?_
        refine .w (.extract rfl rfl) ?_
        refine .w (.extract rfl rfl) ?_
        refine .al zero_24 fun b15 => ?_
        first | refine .sa sz_24 ?_ (h1 := (dg_one _)) | refine .so sz_24 ?_ (h1 := (dg_one _)) | refine .sr sz_24 ?_ (h1 := (dg_one _))
        refine .w (.assign rfl) ?_
        refine .nil (.tn (.seq (.region ?_)))
        refine .w (.move rfl) ?_
        refine .c (f13_spec p s1) body_13 ?_
        refine .w (.assign rfl) ?_
        refine .nil (.tn (.seq (.region ?_)))
        refine .w (.move rfl) ?_
        refine .c (f22_spec p s1) body_22 ?_
        refine .w (.assign rfl) ?_
        refine .nil (.tn (.seq (.region ?_)))
        refine .w (.move rfl) ?_
        refine .c (f14_spec p s1) body_14 ?_
        refine .w (.move rfl) ?_
        refine .w (.extract rfl rfl) ?_
        refine .w (.extract rfl rfl) ?_
        refine .al zero_24 fun b19 => ?_
        first | refine .sa sz_24 ?_ (h1 := (dg_one _)) | refine .so sz_24 ?_ (h1 := (dg_one _)) | refine .sr sz_24 ?_ (h1 := (dg_one _))
        refine .w (.assign rfl) ?_
        refine .nil (.tn (.seq (.region ?_)))
        refine .w (.move rfl) ?_
        refine .c (f23_spec p s1) body_23 ?_
        refine .w (.move rfl) ?_
        refine .w (.extract rfl rfl) ?_
        refine .w (.extract rfl rfl) ?_
        refine .al zero_24 fun b21 => ?_
        first | refine .sa sz_24 ?_ (h1 := (dg_one _)) | refine .so sz_24 ?_ (h1 := (dg_one _)) | refine .sr sz_24 ?_ (h1 := (dg_one _))
        refine .w (.assign rfl) ?_
        refine .nil (.tn (.seq (.region ?_)))
        refine .w (.assign rfl) ?_
        refine .nil (.tn (.seq (.region ?_)))
        refine .w (.assign rfl) ?_
        refine .nil (.tn ?_)
        refine .mt (ι := Value × RA × List Act × Int) (fun x => x.2.1.Ok ∧ x.2.1.abs = (s1.abs.do1 (opAt os i)).1 ∧ x.2.2.1 = (s1.abs.do1 (opAt os i)).2.1 ∧ x.2.2.2 = (s1.abs.do1 (opAt os i)).2.2) (fun T x => (23, x.1) :: (24, it x.2.2.2) :: T) (fun T _ => T) (fun T x => Res.row x.1 x.2.2.1.length 41 35 (acC x.2.2.1) :: Res.cells p x.2.1.cells 77 :: Res.row x.2.1.sv x.2.1.S.length 48 1 (x.2.1.S.map u64) :: mpR x.2.1.bp itK prV x.2.1.pr :: mpR x.2.1.bt k2V tpV x.2.1.ta :: mpR x.2.1.bd k2V blV x.2.1.dn :: Res.sep (tals x.2.1.S x.2.1.ta.es) :: T) [4, 10, 11, 12, 14, 15, 16, 17, 18, 19, 20, 21, 22, 25, 26, 27, 28, 29, 30, 31, 54, 55, 56, 57, 58, 59, 60, 61, 62, 63, 64, 65, 66, 67, 68, 69, 70, 71, 72, 73, 74, 75, 76, 77, 78, 119, 120, 121, 122, 123, 124, 125, 126, 127, 128, 129, 130, 131, 132, 133, 134, 135, 136, 137, 138, 139, 140, 141, 142, 143, 144, 145, 146, 147, 148, 149, 150, 151, 152, 153, 154, 155, 156, 157, 158, 159, 160, 161, 162, 163, 164, 165, 166, 167, 168, 169, 170, 171, 172, 173, 174, 175, 176, 177, 178, 179, 180, 181, 182, 183, 184, 185, 186, 187, 188] (RA.H p s1) ?_ (fun x hx => ?_)
        · refine .seq (.region ?_)
          refine .w (.move rfl) ?_
          refine .w (.move rfl) ?_
          refine .w (.ix Tryd.underlying25 sz_35 rfl rfl) ?_
          refine .w (.fieldAddr fa_35_0 rfl) ?_
          refine .w (.as (v' := it (opAt os i).do_) (.ld one_3 rfl (hj := by exact op_do (by omega))) rfl) ?_
          refine .nil (.tn (.block (.seq (.region ?_))))
          refine .w (.bin rfl rfl BinR.eql_i) ?_
          refine .w (.assign rfl) ?_
          refine .nil (.tn ?_)
          refine .cn rfl (fun hc3 => ?_) (fun hc3 => ?_)
          · have hd : (s1.abs.do1 (opAt os i)) = (s1.abs.start.1, s1.abs.start.2, 0) := if_pos hc3
            refine .region ?_
            refine .w (.move rfl) ?_
            refine .cb (f10_spec p s1 hok1) body_10 ?_ (h0 := by rintro _ _ _ ⟨_, _, _, _, _, h, _⟩; exact h)
            rintro va _ ⟨s2, w2, hok2, hab2, rfl, _, rfl⟩
            refine .ap ?_
            refine .w (.assign rfl) ?_
            refine .nil (.block_normal ?_)
            refine .hd (va, s2, s1.abs.start.2, 0) ?_
            first | exact ⟨hok2, by dsimp only; rw [hd]; exact hab2, by dsimp only; rw [hd], by dsimp only; rw [hd]⟩ | exact ⟨hok1, by dsimp only; rw [hd], by dsimp only; rw [hd], by dsimp only; rw [hd]⟩
          · skip
            refine .seq (.region ?_)
            refine .w (.bin rfl rfl BinR.eql_i) ?_
            refine .w (.assign rfl) ?_
            refine .nil (.tn ?_)
            refine .cn rfl (fun hc4 => ?_) (fun hc4 => ?_)
            · have hd : (s1.abs.do1 (opAt os i)) = s1.abs.hear (opAt os i).m (opAt os i).good := (if_neg hc3).trans (if_pos hc4)
              refine JC.draw (.one 0 (.one 1 (.one 2 (.one 3 (.one 4 (.one 5 (.one 6 (.one 7 (.one 8 (.one 9 (.one 10 (.one 11 (.one 12 (.one 13 (.one 14 (.one 15 (.one 16 .nil))))))))))))))))) (fun i => ([11] : List Nat).contains i) (fun i => ([11] : List Nat).contains i) (fun i => ([0, 1, 2, 3, 4, 5, 6, 7, 8, 9, 10, 12, 13, 14, 15, 16] : List Nat).contains i) mixed (by kernel_rfl) (by decide) (by kernel_rfl) ?_
              refine .uw rfl (.move rfl) ?_
              refine .uw rfl (.move rfl) ?_
              refine .uw rfl (.move rfl) ?_
              refine .uw rfl (.ix Tryd.underlying25 sz_35 rfl rfl) ?_
              refine .uw rfl (.fieldAddr fa_35_3 rfl) ?_
              refine .uw rfl (.as (v' := msV (opAt os i).m) (.lda agg_33 rfl) (congrArg (fun l : List Value => Value.agg l.toArray) (op_m (by omega)))) ?_
              refine .uw rfl (.move rfl) ?_
              refine .uw rfl (.move rfl) ?_
              refine .uw rfl (.ix Tryd.underlying25 sz_35 rfl rfl) ?_
              refine .uw rfl (.fieldAddr fa_35_4 rfl) ?_
              refine .uw rfl (.as (v' := .bool (opAt os i).good) (.ld one_4 rfl (hj := by exact op_good (by omega))) rfl) ?_
              refine .mw rfl (.cb (f11_spec p s1 hok1 (opAt os i).m (opAt os i).good) body_11 (h0 := by rintro _ _ _ ⟨_, _, _, _, _, h, _⟩; exact h)) ?_
              rintro _ _ _ ⟨_, ⟨s2, wb, hok2, hab2, rfl, _, rfl⟩, hΓ, hH⟩
              simp only [List.cons_append, List.nil_append] at hH; subst hΓ hH
              refine kp ?_
              refine .uw rfl (.move rfl) ?_
              refine .uw rfl (.extract rfl rfl) ?_
              refine .uw rfl (.extract rfl rfl) ?_
              refine .uw rfl (.assign rfl) ?_
              refine .uw rfl (.assign rfl) ?_
              refine .nil (.block_normal ?_)
              refine .hd (wb, s2, (s1.abs.hear (opAt os i).m (opAt os i).good).2.1, (s1.abs.hear (opAt os i).m (opAt os i).good).2.2) ?_
              first | exact ⟨hok2, by dsimp only; rw [hd]; exact hab2, by dsimp only; rw [hd], by dsimp only; rw [hd]⟩ | exact ⟨hok1, by dsimp only; rw [hd], by dsimp only; rw [hd], by dsimp only; rw [hd]⟩
            · skip
              refine .seq (.region ?_)
              refine .w (.bin rfl rfl BinR.eql_i) ?_
              refine .w (.assign rfl) ?_
              refine .nil (.tn ?_)
              refine .cn rfl (fun hc5 => ?_) (fun hc5 => ?_)
              · have hd : (s1.abs.do1 (opAt os i)) = ((s1.abs.timeout (opAt os i).kind (opAt os i).round).1, (s1.abs.timeout (opAt os i).kind (opAt os i).round).2, 0) := (if_neg hc3).trans ((if_neg hc4).trans (if_pos hc5))
                refine JC.draw (.one 0 (.one 1 (.one 2 (.one 3 (.one 4 (.one 5 (.one 6 (.one 7 (.one 8 (.one 9 (.one 10 (.one 11 (.one 12 .nil))))))))))))) (fun i => ([11] : List Nat).contains i) (fun i => ([11] : List Nat).contains i) (fun i => ([0, 1, 2, 3, 4, 5, 6, 7, 8, 9, 10, 12] : List Nat).contains i) mixed (by kernel_rfl) (by decide) (by kernel_rfl) ?_
                refine .uw rfl (.move rfl) ?_
                refine .uw rfl (.move rfl) ?_
                refine .uw rfl (.move rfl) ?_
                refine .uw rfl (.ix Tryd.underlying25 sz_35 rfl rfl) ?_
                refine .uw rfl (.fieldAddr fa_35_1 rfl) ?_
                refine .uw rfl (.as (v' := it (opAt os i).kind) (.ld one_3 rfl (hj := by exact op_kind (by omega))) rfl) ?_
                refine .uw rfl (.move rfl) ?_
                refine .uw rfl (.move rfl) ?_
                refine .uw rfl (.ix Tryd.underlying25 sz_35 rfl rfl) ?_
                refine .uw rfl (.fieldAddr fa_35_2 rfl) ?_
                refine .uw rfl (.as (v' := it (opAt os i).round) (.ld one_3 rfl (hj := by exact op_round (by omega))) rfl) ?_
                refine .mw rfl (.cb (f12_spec p s1 hok1 (opAt os i).kind (opAt os i).round) body_12 (h0 := by rintro _ _ _ ⟨_, _, _, _, _, h, _⟩; exact h)) ?_
                rintro vc _ _ ⟨_, ⟨s2, w2, hok2, hab2, rfl, _, rfl⟩, hΓ, hH⟩
                simp only [List.cons_append, List.nil_append] at hH; subst hΓ hH
                refine kp ?_
                refine .uw rfl (.assign rfl) ?_
                refine .nil (.block_normal ?_)
                refine .hd (vc, s2, (s1.abs.timeout (opAt os i).kind (opAt os i).round).2, 0) ?_
                first | exact ⟨hok2, by dsimp only; rw [hd]; exact hab2, by dsimp only; rw [hd], by dsimp only; rw [hd]⟩ | exact ⟨hok1, by dsimp only; rw [hd], by dsimp only; rw [hd], by dsimp only; rw [hd]⟩
              · have hd : (s1.abs.do1 (opAt os i)) = (s1.abs, [], 0) := (if_neg hc3).trans ((if_neg hc4).trans (if_neg hc5))
                refine .nilRow 41 35 ?_
                refine .skip (.block_normal ?_)
                refine .hd (.slice none 0 0, s1, [], 0) ?_
                first | exact ⟨hok2, by dsimp only; rw [hd]; exact hab2, by dsimp only; rw [hd], by dsimp only; rw [hd]⟩ | exact ⟨hok1, by dsimp only; rw [hd], by dsimp only; rw [hd], by dsimp only; rw [hd]⟩
        · obtain ⟨wa, s2, l2, e2⟩ := x
          obtain ⟨hok2, hab2, hl2, he2⟩ := hx
          dsimp only at hok2 hab2 hl2 he2 ⊢
          have hO := AR.holds_do1 hI hok1.fine (opAt os i)
          have hQ := AR.quiet_do1 hI hok1.fine (opAt os i)
          rw [← hab2, ← hl2, ← he2] at hQ
          refine .seq (.region ?_)
          refine .w (.move rfl) ?_
          refine .c (f18_spec p s2) body_18 ?_
          refine .w (.move rfl) ?_
          refine .w (.extract rfl rfl) ?_
          refine .w (.extract rfl rfl) ?_
          refine .al zero_24 fun b25 => ?_
          first | refine .sa sz_24 ?_ (h1 := (dg_one _)) | refine .so sz_24 ?_ (h1 := (dg_one _)) | refine .sr sz_24 ?_ (h1 := (dg_one _))
          refine .w (.assign rfl) ?_
          refine .nil (.tn (.seq (.region ?_)))
          refine .w (.move rfl) ?_
          refine .c (f14_spec p s2) body_14 ?_
          refine .w (.move rfl) ?_
          refine .w (.extract rfl rfl) ?_
          refine .w (.extract rfl rfl) ?_
          refine .al zero_24 fun b27 => ?_
          first | refine .sa sz_24 ?_ (h1 := (dg_one _)) | refine .so sz_24 ?_ (h1 := (dg_one _)) | refine .sr sz_24 ?_ (h1 := (dg_one _))
          refine .w (.assign rfl) ?_
          refine .nil (.tn (.seq (.region ?_)))
          refine .w (.move rfl) ?_
          refine .c (f23_spec p s2) body_23 ?_
          refine .w (.move rfl) ?_
          refine .w (.extract rfl rfl) ?_
          refine .w (.extract rfl rfl) ?_
          refine .al zero_24 fun b29 => ?_
          first | refine .sa sz_24 ?_ (h1 := (dg_one _)) | refine .so sz_24 ?_ (h1 := (dg_one _)) | refine .sr sz_24 ?_ (h1 := (dg_one _))
          refine .w (.assign rfl) ?_
          refine .nil (.tn (.seq (.region ?_)))
          refine .w (.move rfl) ?_
          refine .c (f13_spec p s2) body_13 ?_
          refine .w (.move rfl) ?_
          refine .w (.bin rfl rfl BinR.eql_i) ?_
          refine .w (.move rfl) ?_
          refine .join 35 173 (.bool (decide (s2.rd = s1.rd ∧ s2.st = s1.st ∧ s2.lk.v = s1.lk.v ∧ s2.lk.r = s1.lk.r ∧ s2.vd.v = s1.vd.v ∧ s2.vd.r = s1.vd.r ∧ s2.dc.v = s1.dc.v ∧ decide (0 ≤ s2.dc.r) = decide (0 ≤ s1.dc.r)))) ?_ ?_
          · refine .gn (g := 137) rfl (fun hg139 hg139' => ?_) (fun hg139 hg139' => ?_)
            · refine .gt (g := 138) rfl rfl hg139 ?_
              refine .w (.move rfl) ?_
              refine .gt (g := 138) rfl rfl hg139 ?_
              refine .c (f22_spec p s2) body_22 ?_
              refine .gt (g := 138) rfl rfl hg139 ?_
              refine .w (.move rfl) ?_
              refine .gt (g := 138) rfl rfl hg139 ?_
              refine .w (.bin rfl rfl BinR.eql_i) ?_
              refine .w (.pick1 rfl hg139 rfl) ?_
              refine .w (.move rfl) ?_
              refine .gn (g := 143) rfl (fun hg145 hg145' => ?_) (fun hg145 hg145' => ?_)
              · refine .gt (g := 144) rfl rfl hg145 ?_
                refine .w (.as (v' := dgV s2.lk.v) (.lda agg_24 rfl) rfl) ?_
                refine .gt (g := 144) rfl rfl hg145 ?_
                refine .w (.as (v' := dgV s1.lk.v) (.lda agg_24 rfl) rfl) ?_
                refine .gt (g := 144) rfl rfl hg145 ?_
                refine .w (.bin rfl rfl (eql_dig)) ?_
                refine .w (.pick1 rfl hg145 rfl) ?_
                refine .w (.move rfl) ?_
                refine .gn (g := 148) rfl (fun hg150 hg150' => ?_) (fun hg150 hg150' => ?_)
                · refine .gt (g := 149) rfl rfl hg150 ?_
                  refine .w (.move rfl) ?_
                  refine .gt (g := 149) rfl rfl hg150 ?_
                  refine .w (.move rfl) ?_
                  refine .gt (g := 149) rfl rfl hg150 ?_
                  refine .w (.bin rfl rfl BinR.eql_i) ?_
                  refine .w (.pick1 rfl hg150 rfl) ?_
                  refine .w (.move rfl) ?_
                  refine .gn (g := 153) rfl (fun hg155 hg155' => ?_) (fun hg155 hg155' => ?_)
                  · refine .gt (g := 154) rfl rfl hg155 ?_
                    refine .w (.as (v' := dgV s2.vd.v) (.lda agg_24 rfl) rfl) ?_
                    refine .gt (g := 154) rfl rfl hg155 ?_
                    refine .w (.as (v' := dgV s1.vd.v) (.lda agg_24 rfl) rfl) ?_
                    refine .gt (g := 154) rfl rfl hg155 ?_
                    refine .w (.bin rfl rfl (eql_dig)) ?_
                    refine .w (.pick1 rfl hg155 rfl) ?_
                    refine .w (.move rfl) ?_
                    refine .gn (g := 158) rfl (fun hg160 hg160' => ?_) (fun hg160 hg160' => ?_)
                    · refine .gt (g := 159) rfl rfl hg160 ?_
                      refine .w (.move rfl) ?_
                      refine .gt (g := 159) rfl rfl hg160 ?_
                      refine .w (.move rfl) ?_
                      refine .gt (g := 159) rfl rfl hg160 ?_
                      refine .w (.bin rfl rfl BinR.eql_i) ?_
                      refine .w (.pick1 rfl hg160 rfl) ?_
                      refine .w (.move rfl) ?_
                      refine .gn (g := 163) rfl (fun hg165 hg165' => ?_) (fun hg165 hg165' => ?_)
                      · refine .gt (g := 164) rfl rfl hg165 ?_
                        refine .w (.as (v' := dgV s2.dc.v) (.lda agg_24 rfl) rfl) ?_
                        refine .gt (g := 164) rfl rfl hg165 ?_
                        refine .w (.as (v' := dgV s1.dc.v) (.lda agg_24 rfl) rfl) ?_
                        refine .gt (g := 164) rfl rfl hg165 ?_
                        refine .w (.bin rfl rfl (eql_dig)) ?_
                        refine .w (.pick1 rfl hg165 rfl) ?_
                        refine .w (.move rfl) ?_
                        refine .gn (g := 168) rfl (fun hg170 hg170' => ?_) (fun hg170 hg170' => ?_)
                        · refine .gt (g := 169) rfl rfl hg170 ?_
                          refine .w (.move rfl) ?_
                          refine .gt (g := 169) rfl rfl hg170 ?_
                          refine .w (.move rfl) ?_
                          refine .gt (g := 169) rfl rfl hg170 ?_
                          refine .w (.bin rfl rfl (BinR.eql_b Tryd.underlying4)) ?_
                          refine .w (.pick1 rfl hg170 rfl) ?_
                          refine .nil ?_
                          refine .head () (by first | (refine ⟨by first | rfl | exact congrArg some (congrArg Value.bool (by first | (simp [*]; done) | simp_all)), ?_⟩; repeat (first | exact trivial | refine ⟨rfl, ?_⟩))) (fun _ h => h) (Picks.perm (by repeat (first | exact Picks.nil _ | apply Picks.cons | exact Pull.here _ _ | apply Pull.there))) ?_
                          trivial
                        · refine .gf (g := 169) rfl rfl hg170 (by decide) ?_
                          refine .gf (g := 169) rfl rfl hg170 (by decide) ?_
                          refine .gf (g := 169) rfl rfl hg170 (by decide) ?_
                          refine .w (.pick0 rfl hg170 rfl) ?_
                          refine .nil ?_
                          refine .head () (by first | (refine ⟨by first | rfl | exact congrArg some (congrArg Value.bool (by first | (simp [*]; done) | simp_all)), ?_⟩; repeat (first | exact trivial | refine ⟨rfl, ?_⟩))) (fun _ h => h) (Picks.perm (by repeat (first | exact Picks.nil _ | apply Picks.cons | exact Pull.here _ _ | apply Pull.there))) ?_
                          trivial
                      · refine .gf (g := 164) rfl rfl hg165 (by decide) ?_
                        refine .gf (g := 164) rfl rfl hg165 (by decide) ?_
                        refine .gf (g := 164) rfl rfl hg165 (by decide) ?_
                        refine .w (.pick0 rfl hg165 rfl) ?_
                        refine .w (.move rfl) ?_
                        refine .gf (g := 169) rfl rfl rfl (by decide) ?_
                        refine .gf (g := 169) rfl rfl rfl (by decide) ?_
                        refine .gf (g := 169) rfl rfl rfl (by decide) ?_
                        refine .w (.pick0 rfl rfl rfl) ?_
                        refine .nil ?_
                        refine .head () (by first | (refine ⟨by first | rfl | exact congrArg some (congrArg Value.bool (by first | (simp [*]; done) | simp_all)), ?_⟩; repeat (first | exact trivial | refine ⟨rfl, ?_⟩))) (fun _ h => h) (Picks.perm (by repeat (first | exact Picks.nil _ | apply Picks.cons | exact Pull.here _ _ | apply Pull.there))) ?_
                        trivial
                    · refine .gf (g := 159) rfl rfl hg160 (by decide) ?_
                      refine .gf (g := 159) rfl rfl hg160 (by decide) ?_
                      refine .gf (g := 159) rfl rfl hg160 (by decide) ?_
                      refine .w (.pick0 rfl hg160 rfl) ?_
                      refine .w (.move rfl) ?_
                      refine .gf (g := 164) rfl rfl rfl (by decide) ?_
                      refine .gf (g := 164) rfl rfl rfl (by decide) ?_
                      refine .gf (g := 164) rfl rfl rfl (by decide) ?_
                      refine .w (.pick0 rfl rfl rfl) ?_
                      refine .w (.move rfl) ?_
                      refine .gf (g := 169) rfl rfl rfl (by decide) ?_
                      refine .gf (g := 169) rfl rfl rfl (by decide) ?_
                      refine .gf (g := 169) rfl rfl rfl (by decide) ?_
                      refine .w (.pick0 rfl rfl rfl) ?_
                      refine .nil ?_
                      refine .head () (by first | (refine ⟨by first | rfl | exact congrArg some (congrArg Value.bool (by first | (simp [*]; done) | simp_all)), ?_⟩; repeat (first | exact trivial | refine ⟨rfl, ?_⟩))) (fun _ h => h) (Picks.perm (by repeat (first | exact Picks.nil _ | apply Picks.cons | exact Pull.here _ _ | apply Pull.there))) ?_
                      trivial
                  · refine .gf (g := 154) rfl rfl hg155 (by decide) ?_
                    refine .gf (g := 154) rfl rfl hg155 (by decide) ?_
                    refine .gf (g := 154) rfl rfl hg155 (by decide) ?_
                    refine .w (.pick0 rfl hg155 rfl) ?_
                    refine .w (.move rfl) ?_
                    refine .gf (g := 159) rfl rfl rfl (by decide) ?_
                    refine .gf (g := 159) rfl rfl rfl (by decide) ?_
                    refine .gf (g := 159) rfl rfl rfl (by decide) ?_
                    refine .w (.pick0 rfl rfl rfl) ?_
                    refine .w (.move rfl) ?_
                    refine .gf (g := 164) rfl rfl rfl (by decide) ?_
                    refine .gf (g := 164) rfl rfl rfl (by decide) ?_
                    refine .gf (g := 164) rfl rfl rfl (by decide) ?_
                    refine .w (.pick0 rfl rfl rfl) ?_
                    refine .w (.move rfl) ?_
                    refine .gf (g := 169) rfl rfl rfl (by decide) ?_
                    refine .gf (g := 169) rfl rfl rfl (by decide) ?_
                    refine .gf (g := 169) rfl rfl rfl (by decide) ?_
                    refine .w (.pick0 rfl rfl rfl) ?_
                    refine .nil ?_
                    refine .head () (by first | (refine ⟨by first | rfl | exact congrArg some (congrArg Value.bool (by first | (simp [*]; done) | simp_all)), ?_⟩; repeat (first | exact trivial | refine ⟨rfl, ?_⟩))) (fun _ h => h) (Picks.perm (by repeat (first | exact Picks.nil _ | apply Picks.cons | exact Pull.here _ _ | apply Pull.there))) ?_
                    trivial
                · refine .gf (g := 149) rfl rfl hg150 (by decide) ?_
                  refine .gf (g := 149) rfl rfl hg150 (by decide) ?_
                  refine .gf (g := 149) rfl rfl hg150 (by decide) ?_
                  refine .w (.pick0 rfl hg150 rfl) ?_
                  refine .w (.move rfl) ?_
                  refine .gf (g := 154) rfl rfl rfl (by decide) ?_
                  refine .gf (g := 154) rfl rfl rfl (by decide) ?_
                  refine .gf (g := 154) rfl rfl rfl (by decide) ?_
                  refine .w (.pick0 rfl rfl rfl) ?_
                  refine .w (.move rfl) ?_
                  refine .gf (g := 159) rfl rfl rfl (by decide) ?_
                  refine .gf (g := 159) rfl rfl rfl (by decide) ?_
                  refine .gf (g := 159) rfl rfl rfl (by decide) ?_
                  refine .w (.pick0 rfl rfl rfl) ?_
                  refine .w (.move rfl) ?_
                  refine .gf (g := 164) rfl rfl rfl (by decide) ?_
                  refine .gf (g := 164) rfl rfl rfl (by decide) ?_
                  refine .gf (g := 164) rfl rfl rfl (by decide) ?_
                  refine .w (.pick0 rfl rfl rfl) ?_
                  refine .w (.move rfl) ?_
                  refine .gf (g := 169) rfl rfl rfl (by decide) ?_
                  refine .gf (g := 169) rfl rfl rfl (by decide) ?_
                  refine .gf (g := 169) rfl rfl rfl (by decide) ?_
                  refine .w (.pick0 rfl rfl rfl) ?_
                  refine .nil ?_
                  refine .head () (by first | (refine ⟨by first | rfl | exact congrArg some (congrArg Value.bool (by first | (simp [*]; done) | simp_all)), ?_⟩; repeat (first | exact trivial | refine ⟨rfl, ?_⟩))) (fun _ h => h) (Picks.perm (by repeat (first | exact Picks.nil _ | apply Picks.cons | exact Pull.here _ _ | apply Pull.there))) ?_
                  trivial
              · refine .gf (g := 144) rfl rfl hg145 (by decide) ?_
                refine .gf (g := 144) rfl rfl hg145 (by decide) ?_
                refine .gf (g := 144) rfl rfl hg145 (by decide) ?_
                refine .w (.pick0 rfl hg145 rfl) ?_
                refine .w (.move rfl) ?_
                refine .gf (g := 149) rfl rfl rfl (by decide) ?_
                refine .gf (g := 149) rfl rfl rfl (by decide) ?_
                refine .gf (g := 149) rfl rfl rfl (by decide) ?_
                refine .w (.pick0 rfl rfl rfl) ?_
                refine .w (.move rfl) ?_
                refine .gf (g := 154) rfl rfl rfl (by decide) ?_
                refine .gf (g := 154) rfl rfl rfl (by decide) ?_
                refine .gf (g := 154) rfl rfl rfl (by decide) ?_
                refine .w (.pick0 rfl rfl rfl) ?_
                refine .w (.move rfl) ?_
                refine .gf (g := 159) rfl rfl rfl (by decide) ?_
                refine .gf (g := 159) rfl rfl rfl (by decide) ?_
                refine .gf (g := 159) rfl rfl rfl (by decide) ?_
                refine .w (.pick0 rfl rfl rfl) ?_
                refine .w (.move rfl) ?_
                refine .gf (g := 164) rfl rfl rfl (by decide) ?_
                refine .gf (g := 164) rfl rfl rfl (by decide) ?_
                refine .gf (g := 164) rfl rfl rfl (by decide) ?_
                refine .w (.pick0 rfl rfl rfl) ?_
                refine .w (.move rfl) ?_
                refine .gf (g := 169) rfl rfl rfl (by decide) ?_
                refine .gf (g := 169) rfl rfl rfl (by decide) ?_
                refine .gf (g := 169) rfl rfl rfl (by decide) ?_
                refine .w (.pick0 rfl rfl rfl) ?_
                refine .nil ?_
                refine .head () (by first | (refine ⟨by first | rfl | exact congrArg some (congrArg Value.bool (by first | (simp [*]; done) | simp_all)), ?_⟩; repeat (first | exact trivial | refine ⟨rfl, ?_⟩))) (fun _ h => h) (Picks.perm (by repeat (first | exact Picks.nil _ | apply Picks.cons | exact Pull.here _ _ | apply Pull.there))) ?_
                trivial
            · refine .gf (g := 138) rfl rfl hg139 (by decide) ?_
              refine .gf (g := 138) rfl rfl hg139 (by decide) ?_
              refine .gf (g := 138) rfl rfl hg139 (by decide) ?_
              refine .gf (g := 138) rfl rfl hg139 (by decide) ?_
              refine .w (.pick0 rfl hg139 rfl) ?_
              refine .w (.move rfl) ?_
              refine .gf (g := 144) rfl rfl rfl (by decide) ?_
              refine .gf (g := 144) rfl rfl rfl (by decide) ?_
              refine .gf (g := 144) rfl rfl rfl (by decide) ?_
              refine .w (.pick0 rfl rfl rfl) ?_
              refine .w (.move rfl) ?_
              refine .gf (g := 149) rfl rfl rfl (by decide) ?_
              refine .gf (g := 149) rfl rfl rfl (by decide) ?_
              refine .gf (g := 149) rfl rfl rfl (by decide) ?_
              refine .w (.pick0 rfl rfl rfl) ?_
              refine .w (.move rfl) ?_
              refine .gf (g := 154) rfl rfl rfl (by decide) ?_
              refine .gf (g := 154) rfl rfl rfl (by decide) ?_
              refine .gf (g := 154) rfl rfl rfl (by decide) ?_
              refine .w (.pick0 rfl rfl rfl) ?_
              refine .w (.move rfl) ?_
              refine .gf (g := 159) rfl rfl rfl (by decide) ?_
              refine .gf (g := 159) rfl rfl rfl (by decide) ?_
              refine .gf (g := 159) rfl rfl rfl (by decide) ?_
              refine .w (.pick0 rfl rfl rfl) ?_
              refine .w (.move rfl) ?_
              refine .gf (g := 164) rfl rfl rfl (by decide) ?_
              refine .gf (g := 164) rfl rfl rfl (by decide) ?_
              refine .gf (g := 164) rfl rfl rfl (by decide) ?_
              refine .w (.pick0 rfl rfl rfl) ?_
              refine .w (.move rfl) ?_
              refine .gf (g := 169) rfl rfl rfl (by decide) ?_
              refine .gf (g := 169) rfl rfl rfl (by decide) ?_
              refine .gf (g := 169) rfl rfl rfl (by decide) ?_
              refine .w (.pick0 rfl rfl rfl) ?_
              refine .nil ?_
              refine .head () (by first | (refine ⟨by first | rfl | exact congrArg some (congrArg Value.bool (by first | (simp [*]; done) | simp_all)), ?_⟩; repeat (first | exact trivial | refine ⟨rfl, ?_⟩))) (fun _ h => h) (Picks.perm (by repeat (first | exact Picks.nil _ | apply Picks.cons | exact Pull.here _ _ | apply Pull.there))) ?_
              trivial
          · refine .w (.assign rfl) ?_
            generalize hst : decide (s2.rd = s1.rd ∧ s2.st = s1.st ∧ s2.lk.v = s1.lk.v ∧ s2.lk.r = s1.lk.r ∧ s2.vd.v = s1.vd.v ∧ s2.vd.r = s1.vd.r ∧ s2.dc.v = s1.dc.v ∧ decide (0 ≤ s2.dc.r) = decide (0 ≤ s1.dc.r)) = still
            refine .nil (.tn (.seq (.region ?_)))
            refine .w (.move rfl) ?_
            refine .w (.move rfl) ?_
            refine .join 12 187 (.bool (decide ((0 ≤ s1.dc.r ∨ e2 ≠ 0) ∧ ((l2.length : Int) ≠ 0 ∨ still = false)))) ?_ ?_
            · refine .gn (g := 16) rfl (fun hg177 hg177' => ?_) (fun hg177 hg177' => ?_)
              · refine .gf (g := 175) rfl rfl hg177 (by decide) ?_
                refine .gf (g := 175) rfl rfl hg177 (by decide) ?_
                refine .w (.pick1 rfl hg177 rfl) ?_
                refine .w (.move rfl) ?_
                refine .gt (g := 179) rfl rfl rfl ?_
                refine .w (.move rfl) ?_
                refine .gt (g := 179) rfl rfl rfl ?_
                refine .w (.len Tryd.underlying31 rfl) ?_
                refine .gt (g := 179) rfl rfl rfl ?_
                refine .w (.bin rfl rfl BinR.neq_i) ?_
                refine .gt (g := 179) rfl rfl rfl ?_
                refine .w (.move rfl) ?_
                refine .gn (g := 182) rfl (fun hg185 hg185' => ?_) (fun hg185 hg185' => ?_)
                · refine .gf (g := 183) rfl rfl hg185 (by decide) ?_
                  refine .gf (g := 183) rfl rfl hg185 (by decide) ?_
                  refine .gt (g := 179) rfl rfl rfl ?_
                  refine .w (.pick1 rfl hg185 rfl) ?_
                  refine .w (.pick1 rfl rfl rfl) ?_
                  refine .nil ?_
                  refine .head () (by first | (refine ⟨by first | rfl | exact congrArg some (congrArg Value.bool (by cases still <;> first | (simp only [hg177', hg181', hg185', ne_eq, true_or, or_true, or_false, false_or, or_self, and_true, true_and, and_false, false_and, and_self, not_true_eq_false, not_false_eq_true, decide_true, decide_false, reduceCtorEq, Bool.not_true, Bool.not_false]; done) | (simp only [hg177', hg181', ne_eq, true_or, or_true, or_false, false_or, or_self, and_true, true_and, and_false, false_and, and_self, not_true_eq_false, not_false_eq_true, decide_true, decide_false, reduceCtorEq, Bool.not_true, Bool.not_false]; done) | (simp only [hg177', hg185', ne_eq, true_or, or_true, or_false, false_or, or_self, and_true, true_and, and_false, false_and, and_self, not_true_eq_false, not_false_eq_true, decide_true, decide_false, reduceCtorEq, Bool.not_true, Bool.not_false]; done) | (simp only [hg177', ne_eq, true_or, or_true, or_false, false_or, or_self, and_true, true_and, and_false, false_and, and_self, not_true_eq_false, not_false_eq_true, decide_true, decide_false, reduceCtorEq, Bool.not_true, Bool.not_false]; done) | fail)), ?_⟩; repeat (first | exact trivial | refine ⟨rfl, ?_⟩))) (fun _ h => h) (Picks.perm (by repeat (first | exact Picks.nil _ | apply Picks.cons | exact Pull.here _ _ | apply Pull.there))) ?_
                  trivial
                · refine .gt (g := 183) rfl rfl hg185 ?_
                  refine .w (.move rfl) ?_
                  refine .gt (g := 183) rfl rfl hg185 ?_
                  refine .w (.not rfl) ?_
                  refine .gt (g := 179) rfl rfl rfl ?_
                  refine .w (.pick0 rfl hg185 rfl) ?_
                  refine .w (.pick1 rfl rfl rfl) ?_
                  refine .nil ?_
                  refine .head () (by first | (refine ⟨by first | rfl | exact congrArg some (congrArg Value.bool (by cases still <;> first | (simp only [hg177', hg181', hg185', ne_eq, true_or, or_true, or_false, false_or, or_self, and_true, true_and, and_false, false_and, and_self, not_true_eq_false, not_false_eq_true, decide_true, decide_false, reduceCtorEq, Bool.not_true, Bool.not_false]; done) | (simp only [hg177', hg181', ne_eq, true_or, or_true, or_false, false_or, or_self, and_true, true_and, and_false, false_and, and_self, not_true_eq_false, not_false_eq_true, decide_true, decide_false, reduceCtorEq, Bool.not_true, Bool.not_false]; done) | (simp only [hg177', hg185', ne_eq, true_or, or_true, or_false, false_or, or_self, and_true, true_and, and_false, false_and, and_self, not_true_eq_false, not_false_eq_true, decide_true, decide_false, reduceCtorEq, Bool.not_true, Bool.not_false]; done) | (simp only [hg177', ne_eq, true_or, or_true, or_false, false_or, or_self, and_true, true_and, and_false, false_and, and_self, not_true_eq_false, not_false_eq_true, decide_true, decide_false, reduceCtorEq, Bool.not_true, Bool.not_false]; done) | fail)), ?_⟩; repeat (first | exact trivial | refine ⟨rfl, ?_⟩))) (fun _ h => h) (Picks.perm (by repeat (first | exact Picks.nil _ | apply Picks.cons | exact Pull.here _ _ | apply Pull.there))) ?_
                  trivial
              · refine .gt (g := 175) rfl rfl hg177 ?_
                refine .w (.move rfl) ?_
                refine .gt (g := 175) rfl rfl hg177 ?_
                refine .w (.bin rfl rfl BinR.neq_i) ?_
                refine .w (.pick0 rfl hg177 rfl) ?_
                refine .w (.move rfl) ?_
                refine .gn (g := 178) rfl (fun hg181 hg181' => ?_) (fun hg181 hg181' => ?_)
                · refine .gt (g := 179) rfl rfl hg181 ?_
                  refine .w (.move rfl) ?_
                  refine .gt (g := 179) rfl rfl hg181 ?_
                  refine .w (.len Tryd.underlying31 rfl) ?_
                  refine .gt (g := 179) rfl rfl hg181 ?_
                  refine .w (.bin rfl rfl BinR.neq_i) ?_
                  refine .gt (g := 179) rfl rfl hg181 ?_
                  refine .w (.move rfl) ?_
                  refine .gn (g := 182) rfl (fun hg185 hg185' => ?_) (fun hg185 hg185' => ?_)
                  · refine .gf (g := 183) rfl rfl hg185 (by decide) ?_
                    refine .gf (g := 183) rfl rfl hg185 (by decide) ?_
                    refine .gt (g := 179) rfl rfl hg181 ?_
                    refine .w (.pick1 rfl hg185 rfl) ?_
                    refine .w (.pick1 rfl hg181 rfl) ?_
                    refine .nil ?_
                    refine .head () (by first | (refine ⟨by first | rfl | exact congrArg some (congrArg Value.bool (by cases still <;> first | (simp only [hg177', hg181', hg185', ne_eq, true_or, or_true, or_false, false_or, or_self, and_true, true_and, and_false, false_and, and_self, not_true_eq_false, not_false_eq_true, decide_true, decide_false, reduceCtorEq, Bool.not_true, Bool.not_false]; done) | (simp only [hg177', hg181', ne_eq, true_or, or_true, or_false, false_or, or_self, and_true, true_and, and_false, false_and, and_self, not_true_eq_false, not_false_eq_true, decide_true, decide_false, reduceCtorEq, Bool.not_true, Bool.not_false]; done) | (simp only [hg177', hg185', ne_eq, true_or, or_true, or_false, false_or, or_self, and_true, true_and, and_false, false_and, and_self, not_true_eq_false, not_false_eq_true, decide_true, decide_false, reduceCtorEq, Bool.not_true, Bool.not_false]; done) | (simp only [hg177', ne_eq, true_or, or_true, or_false, false_or, or_self, and_true, true_and, and_false, false_and, and_self, not_true_eq_false, not_false_eq_true, decide_true, decide_false, reduceCtorEq, Bool.not_true, Bool.not_false]; done) | fail)), ?_⟩; repeat (first | exact trivial | refine ⟨rfl, ?_⟩))) (fun _ h => h) (Picks.perm (by repeat (first | exact Picks.nil _ | apply Picks.cons | exact Pull.here _ _ | apply Pull.there))) ?_
                    trivial
                  · refine .gt (g := 183) rfl rfl hg185 ?_
                    refine .w (.move rfl) ?_
                    refine .gt (g := 183) rfl rfl hg185 ?_
                    refine .w (.not rfl) ?_
                    refine .gt (g := 179) rfl rfl hg181 ?_
                    refine .w (.pick0 rfl hg185 rfl) ?_
                    refine .w (.pick1 rfl hg181 rfl) ?_
                    refine .nil ?_
                    refine .head () (by first | (refine ⟨by first | rfl | exact congrArg some (congrArg Value.bool (by cases still <;> first | (simp only [hg177', hg181', hg185', ne_eq, true_or, or_true, or_false, false_or, or_self, and_true, true_and, and_false, false_and, and_self, not_true_eq_false, not_false_eq_true, decide_true, decide_false, reduceCtorEq, Bool.not_true, Bool.not_false]; done) | (simp only [hg177', hg181', ne_eq, true_or, or_true, or_false, false_or, or_self, and_true, true_and, and_false, false_and, and_self, not_true_eq_false, not_false_eq_true, decide_true, decide_false, reduceCtorEq, Bool.not_true, Bool.not_false]; done) | (simp only [hg177', hg185', ne_eq, true_or, or_true, or_false, false_or, or_self, and_true, true_and, and_false, false_and, and_self, not_true_eq_false, not_false_eq_true, decide_true, decide_false, reduceCtorEq, Bool.not_true, Bool.not_false]; done) | (simp only [hg177', ne_eq, true_or, or_true, or_false, false_or, or_self, and_true, true_and, and_false, false_and, and_self, not_true_eq_false, not_false_eq_true, decide_true, decide_false, reduceCtorEq, Bool.not_true, Bool.not_false]; done) | fail)), ?_⟩; repeat (first | exact trivial | refine ⟨rfl, ?_⟩))) (fun _ h => h) (Picks.perm (by repeat (first | exact Picks.nil _ | apply Picks.cons | exact Pull.here _ _ | apply Pull.there))) ?_
                    trivial
                · refine .gf (g := 179) rfl rfl hg181 (by decide) ?_
                  refine .gf (g := 179) rfl rfl hg181 (by decide) ?_
                  refine .gf (g := 179) rfl rfl hg181 (by decide) ?_
                  refine .gf (g := 179) rfl rfl hg181 (by decide) ?_
                  refine .gu (g := 183) rfl rfl (by decide) ?_
                  refine .gu (g := 183) rfl rfl (by decide) ?_
                  refine .gf (g := 179) rfl rfl hg181 (by decide) ?_
                  refine .w (.pick0 rfl hg181 rfl) ?_
                  refine .nil ?_
                  refine .head () (by first | (refine ⟨by first | rfl | exact congrArg some (congrArg Value.bool (by cases still <;> first | (simp only [hg177', hg181', hg185', ne_eq, true_or, or_true, or_false, false_or, or_self, and_true, true_and, and_false, false_and, and_self, not_true_eq_false, not_false_eq_true, decide_true, decide_false, reduceCtorEq, Bool.not_true, Bool.not_false]; done) | (simp only [hg177', hg181', ne_eq, true_or, or_true, or_false, false_or, or_self, and_true, true_and, and_false, false_and, and_self, not_true_eq_false, not_false_eq_true, decide_true, decide_false, reduceCtorEq, Bool.not_true, Bool.not_false]; done) | (simp only [hg177', hg185', ne_eq, true_or, or_true, or_false, false_or, or_self, and_true, true_and, and_false, false_and, and_self, not_true_eq_false, not_false_eq_true, decide_true, decide_false, reduceCtorEq, Bool.not_true, Bool.not_false]; done) | (simp only [hg177', ne_eq, true_or, or_true, or_false, false_or, or_self, and_true, true_and, and_false, false_and, and_self, not_true_eq_false, not_false_eq_true, decide_true, decide_false, reduceCtorEq, Bool.not_true, Bool.not_false]; done) | fail)), ?_⟩; repeat (first | exact trivial | refine ⟨rfl, ?_⟩))) (fun _ h => h) (Picks.perm (by repeat (first | exact Picks.nil _ | apply Picks.cons | exact Pull.here _ _ | apply Pull.there))) ?_
                  trivial
            · refine .nil (.tn ?_)
              refine .cn rfl (fun hc6 => ?_) (fun hc6 => ?_)
              · exact absurd hc6 (by
                  rintro ⟨h1, h2⟩
                  obtain ⟨q0, q1, q2, q3, q4, q5⟩ := hQ h1
                  have q1 : s2.rd = s1.rd := q1
                  have q2 : s2.st = s1.st := q2
                  have q3 : s2.lk = s1.lk := q3
                  have q4 : s2.vd = s1.vd := q4
                  have q5 : s2.dc = s1.dc := q5
                  rw [q1, q2, q3, q4, q5] at hst
                  have hst : still = true := by rw [← hst]; simp
                  rw [q0, hst] at h2
                  simp at h2)
              · skip
                refine .skip (.block_normal (.tn (.region ?_)))
                refine .w (.move rfl) ?_
                refine .w (.asI ((i + 1 : Nat) : Int) (.bin rfl rfl (BinR.add_i (by first | (constructor <;> omega) | (constructor <;> simp <;> omega))))) ?_
                refine .w (.assign rfl) ?_
                refine .nil ?_
                refine .hd (i + 1, s2) ?_
                exact ⟨⟨by dsimp only; omega, hok2, by dsimp only; rw [hab2]; exact hO.1⟩, by dsimp only; omega⟩
      · skip
        refine .exit (.then_exit (.then_exit (.block_exit (.tn (.seq (.region ?_))))))
        refine .w (.move rfl) ?_
        refine .w (.assign rfl) ?_
        refine .nil (.tn (.ret ?_))
        exact .dn [] [] (res1 rfl (.tmp rfl)) ⟨rfl, rfl, rfl⟩

theorem f7b_spec (u vo : Value) (S : List W64) (me sh : Int) (own : D32) (os : List OpE) (hg : ¬ NewGood S me sh own) :
    Spec Tryd.prog 7 #[u, (it me), (it sh), (dgV own), vo] [Res.var 0 [u64 9223372036854775808, u64 0, u64 0, u64 0], Res.rd u S.length 1 (S.map u64), Res.rd vo os.length 40 (opsC os)] []
      (fun r Γ' H' => r = (.bool true) ∧ Γ' = [] ∧ H' = []) := by
  refine Spec.of_args Tryd.func7 rfl Tryd.ntmps7 (by simp) fun w => ?_
  refine JC.know (φ := os.length ≤ 9223372036854775807) (fun w hs => by obtain ⟨_, _, _, _, _, _, h⟩ := hs.rdForm (.tail _ (.tail _ (.head _))); unfold maxLen at h; omega) fun hlo => ?_
  refine JC.know (φ := S.length ≤ 9223372036854775807) (fun w hs => by obtain ⟨_, _, _, _, _, _, h⟩ := hs.rdForm (.tail _ (.head _)); unfold maxLen at h; omega) fun hls => ?_
  refine .seq (.region ?_)
  refine .bx fun b8 => ?_
  refine .w (.assign rfl) ?_
  refine .nil (.tn (.seq (.region ?_)))
  refine .c f8_spec body_8 ?_
  refine .w (.assign rfl) ?_
  refine .nil (.tn (.seq (.region ?_)))
  refine .w (.move rfl) ?_
  refine .w (.move rfl) ?_
  refine .w (.move rfl) ?_
  refine .w (.as (v' := dgV own) (.lda agg_24 rfl) rfl) ?_
  refine .cb (f9nil_spec u S me sh own hg) body_9 ?_ (h0 := by rintro _ _ _ ⟨_, _, h, _⟩; exact h)
  rintro _ _ ⟨e, rfl, _, rfl⟩
  refine .ap ?_
  refine .w (.move rfl) ?_
  refine .w (.extract rfl rfl) ?_
  refine .w (.extract rfl rfl) ?_
  refine .w (.assign rfl) ?_
  refine .w (.assign rfl) ?_
  refine .nil (.tn (.seq (.seq (.region ?_))))
  refine .w (.move rfl) ?_
  refine .w (.as (v' := .bool true) (.bin rfl rfl (BinR.eql_p Tryd.underlying27)) rfl) ?_
  refine .w (.move rfl) ?_
  refine .gf (g := 43) rfl rfl rfl (by decide) ?_
  refine .gf (g := 43) rfl rfl rfl (by decide) ?_
  refine .gf (g := 43) rfl rfl rfl (by decide) ?_
  refine .w (.pick1 rfl rfl rfl) ?_
  refine .w (.move rfl) ?_
  refine .gf (g := 48) rfl rfl rfl (by decide) ?_
  refine .gf (g := 48) rfl rfl rfl (by decide) ?_
  refine .gf (g := 48) rfl rfl rfl (by decide) ?_
  refine .w (.pick1 rfl rfl rfl) ?_
  refine .nil (.tn ?_)
  refine .ct rfl ?_
  refine .seq (.region ?_)
  refine .w (.move rfl) ?_
  refine .w (.assign rfl) ?_
  refine .nil (.tn (.ret (.then_ret ?_)))
  exact .dn [] [] (res1 rfl (.tmp rfl)) ⟨rfl, rfl, rfl⟩

theorem f7_spec (u vo : Value) (S : List W64) (me sh : Int) (own : D32) (os : List OpE) (hsh : sh ≤ 9223372036854775807) : Spec Tryd.prog 7 #[u, (it me), (it sh), (dgV own), vo] [Res.var 0 [u64 9223372036854775808, u64 0, u64 0, u64 0], Res.rd u S.length 1 (S.map u64), Res.rd vo os.length 40 (opsC os)] [] (fun r Γ' H' => r = (.bool true) ∧ Γ' = [] ∧ H' = []) := by
  by_cases h : NewGood S me sh own
  · exact f7a_spec u vo S me sh own os h hsh
  · exact f7b_spec u vo S me sh own os h
end Go.Proofs.YtncececcopalgaaDoor
