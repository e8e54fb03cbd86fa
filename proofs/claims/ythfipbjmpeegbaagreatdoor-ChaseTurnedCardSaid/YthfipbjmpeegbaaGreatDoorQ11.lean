/- Texts of ours, gathered: UR UV UK UH N19 AW T15 T19 LT. -/
import Derived.Test.YthfipbjmpeegbaaGreatDoorQ10
/- Walk: numbers sorted. -/
namespace Go.Proofs.YthfipbjmpeegbaaGreatDoor
open Go.RowKit
set_option maxRecDepth 100000
set_option linter.unusedVariables false
set_option linter.unusedSimpArgs false
set_option maxHeartbeats 1000000 in
theorem f80_spec (N : Nat) (g c n : Nat) (hn : n ≤ 49) (xs : List W64) (hl : xs.length = n) (a b lim : Nat) (hlm : lim ≤ 1000) (hab : a ≤ b) (hb : b ≤ n) (hN : b - a ≤ N) :
    Spec Tryz.prog 80 #[(.slice (some ⟨g, 0, none⟩) n c), (it (a : Int)), (it (b : Int)), (it (lim : Int))] [] [Res.row (.slice (some ⟨g, 0, none⟩) n c) n 30 1 (xs.map u64)]
      (fun r Γ' H' => ∃ ys : List W64, ys.Perm xs ∧ Γ' = [] ∧ H' = [Res.row (.slice (some ⟨g, 0, none⟩) n c) n 30 1 (ys.map u64)]) := by
  induction N using Nat.strongRecOn generalizing xs a b lim
  rename_i N ih
  refine Spec.of_args Tryz.func80 rfl Tryz.ntmps80 (by simp) fun w => ?_
  refine .seq (.region ?_)
  refine .w (.assign rfl) ?_
  refine .nil (.tn (.seq (.region ?_)))
  refine .w (.assign rfl) ?_
  refine .nil (.tn (.block ?_))
  refine .lp (ι := ((Nat × Nat) × Nat) × (Bool × Bool) × List W64) (fun x => (x.1.1.1 ≤ x.1.1.2 ∧ x.1.1.2 ≤ n ∧ x.1.1.2 - x.1.1.1 ≤ b - a) ∧ x.1.2 ≤ 1000 ∧ x.2.2.Perm xs) (fun T x => (1, it (x.1.1.1 : Int)) :: (2, it (x.1.1.2 : Int)) :: (3, it (x.1.2 : Int)) :: (8, .bool x.2.1.1) :: (9, .bool x.2.1.2) :: T) (fun T _ => T) (fun T x => Res.row (.slice (some ⟨g, 0, none⟩) n c) n 30 1 (x.2.2.map u64) :: T) (fun x => x.1.1.2 - x.1.1.1) (((a, b), lim), (true, true), xs) [0] ?_ (fun x hx => ?_)
  · exact ⟨⟨hab, hb, Nat.le_refl _⟩, hlm, .refl _⟩
  obtain ⟨⟨⟨a1, b1⟩, l1⟩, ⟨wb, wp⟩, zs⟩ := x
  obtain ⟨⟨h3, h4, h5⟩, h6, hp⟩ := hx
  dsimp only at h3 h4 h5 h6 hp ⊢
  have hzl : zs.length = n := hp.length_eq.trans hl
  refine .block (.seq (.region ?_))
  refine .w (.move rfl) ?_
  refine .w (.move rfl) ?_
  refine .w (.asI ((b1 - a1 : Nat) : Int) (.bin rfl rfl (BinR.sub_i (by first | (constructor <;> omega) | (constructor <;> simp <;> omega))))) ?_
  refine .w (.assign rfl) ?_
  refine .nil (.tn (.seq (.seq (.region ?_))))
  refine .w (.move rfl) ?_
  refine .w (.bin rfl rfl BinR.leq_i) ?_
  refine .nil (.tn ?_)
  refine .cn rfl (fun hc1 => ?_) (fun hc1 => ?_)
  · skip
    refine .seq (.region ?_)
    refine .w (.move rfl) ?_
    refine .w (.move rfl) ?_
    refine .w (.move rfl) ?_
    refine .cb (f99_spec g c n zs hzl (by omega) a1 b1 h3 h4) body_99 ?_ (h0 := by rintro _ _ _ ⟨_, _, h, _⟩; exact h)
    rintro _ _ ⟨ys, hy, _, rfl⟩
    refine .ap ?_
    refine .nil (.tn (.ret (.then_ret (.block_ret (.then_ret (.block_ret ?_))))))
    exact .dn [] [Res.row (.slice (some ⟨g, 0, none⟩) n c) n 30 1 (ys.map u64)] (res_none rfl) ⟨ys, hy.trans hp, rfl, rfl⟩
  · skip
    refine .skip (.tn (.seq (.seq (.region ?_))))
    refine .w (.move rfl) ?_
    refine .w (.bin rfl rfl BinR.eql_i) ?_
    refine .nil (.tn ?_)
    refine .cn rfl (fun hc2 => ?_) (fun hc2 => ?_)
    · skip
      refine .seq (.region ?_)
      refine .w (.move rfl) ?_
      refine .w (.move rfl) ?_
      refine .w (.move rfl) ?_
      refine .cb (f100_spec g c n zs hzl (by omega) a1 b1 (by omega) h4) body_100 ?_ (h0 := by rintro _ _ _ ⟨_, _, h, _⟩; exact h)
      rintro _ _ ⟨ys, hy, _, rfl⟩
      refine .ap ?_
      refine .nil (.tn (.ret (.then_ret (.block_ret (.then_ret (.block_ret ?_))))))
      exact .dn [] [Res.row (.slice (some ⟨g, 0, none⟩) n c) n 30 1 (ys.map u64)] (res_none rfl) ⟨ys, hy.trans hp, rfl, rfl⟩
    · skip
      refine .skip (.tn ?_)
      refine .mt (ι := Nat × List W64) (fun x => x.1 ≤ 1000 ∧ x.2.Perm xs) (fun T x => (3, it (x.1 : Int)) :: T) (fun T _ => T) (fun T x => Res.row (.slice (some ⟨g, 0, none⟩) n c) n 30 1 (x.2.map u64) :: T) [0, 1, 2, 8, 9, 10, 11, 12, 13, 14, 15, 16, 17, 18, 19, 20, 21, 22, 23, 24, 25, 26, 28, 29, 30, 31, 32, 42, 43, 44, 45, 46, 47, 48, 49, 50, 51, 52, 53, 55, 56, 57, 58, 59, 60, 61, 62, 63, 64, 65, 66, 67, 68, 69, 70, 71, 72, 73, 74, 75, 76, 77, 78, 79, 80, 81, 82, 83, 84, 85, 86, 87, 88, 89, 90, 91, 92, 93, 94, 95, 96, 97, 98, 99, 100, 101, 102, 103, 104, 105, 106, 107, 108, 109, 110, 111, 112, 113, 114, 115, 116, 117, 118, 119, 120, 122, 123, 124, 125, 126, 127, 128, 129, 130, 131, 133] [Res.row (.slice (some ⟨g, 0, none⟩) n c) n 30 1 (zs.map u64)] ?_ (fun x hx => ?_)
      · refine .seq (.region ?_)
        refine .w (.move rfl) ?_
        refine .w (.not rfl) ?_
        refine .nil (.tn ?_)
        refine .cn rfl (fun hc3 => ?_) (fun hc3 => ?_)
        · skip
          refine .seq (.region ?_)
          refine .w (.move rfl) ?_
          refine .w (.move rfl) ?_
          refine .w (.move rfl) ?_
          refine .cb (f101_spec g c n zs hzl (by omega) a1 b1 (by omega) h4 (by omega)) body_101 ?_ (h0 := by rintro _ _ _ ⟨_, _, h, _⟩; exact h)
          rintro _ _ ⟨ys, hy, _, rfl⟩
          refine .ap ?_
          refine .nil (.tn (.region ?_))
          refine .w (.move rfl) ?_
          refine .w (.asI ((l1 - 1 : Nat) : Int) (.bin rfl rfl (BinR.sub_i (by first | (constructor <;> omega) | (constructor <;> simp <;> omega))))) ?_
          refine .w (.assign rfl) ?_
          refine .nil ?_
          refine .hd (l1 - 1, ys) ?_
          first
          | exact ⟨by dsimp only; omega, hy.trans hp⟩
          | exact ⟨by dsimp only; omega, hp⟩
        · skip
          refine .skip ?_
          refine .hd (l1, zs) ?_
          first
          | exact ⟨by dsimp only; omega, hy.trans hp⟩
          | exact ⟨by dsimp only; omega, hp⟩
      · obtain ⟨l2, us⟩ := x
        obtain ⟨h7, hq⟩ := hx
        dsimp only at h7 hq ⊢
        have hul : us.length = n := hq.length_eq.trans hl
        refine .seq (.region ?_)
        refine .w (.move rfl) ?_
        refine .w (.move rfl) ?_
        refine .w (.move rfl) ?_
        refine .cb (f102_spec g c n us hul (by omega) a1 b1 (by omega) h4 (by omega)) body_102 ?_ (h0 := by rintro _ _ _ ⟨_, _, _, _, _, h, _⟩; exact h)
        rintro _ _ ⟨pv, q, rfl, hp1, hp2, _, rfl⟩
        refine .ap ?_
        refine .w (.move rfl) ?_
        refine .w (.extract rfl rfl) ?_
        refine .w (.extract rfl rfl) ?_
        refine .w (.assign rfl) ?_
        refine .w (.assign rfl) ?_
        refine .nil (.tn ?_)
        refine .mt (ι := (Nat × Int) × List W64) (fun x => (a1 ≤ x.1.1 ∧ x.1.1 < b1) ∧ x.2.Perm xs) (fun T x => (11, it (x.1.1 : Int)) :: (12, it x.1.2) :: T) (fun T _ => T) (fun T x => Res.row (.slice (some ⟨g, 0, none⟩) n c) n 30 1 (x.2.map u64) :: T) [0, 1, 2, 3, 8, 9, 10, 13, 14, 15, 16, 17, 18, 19, 20, 21, 22, 23, 24, 25, 26, 28, 29, 30, 31, 32, 34, 35, 36, 37, 38, 40, 41, 42, 43, 44, 45, 46, 47, 48, 61, 62, 63, 64, 65, 66, 67, 68, 69, 70, 71, 72, 73, 74, 75, 76, 77, 78, 79, 80, 81, 82, 83, 84, 85, 86, 87, 88, 89, 90, 91, 92, 93, 94, 95, 96, 97, 98, 99, 100, 101, 102, 103, 104, 105, 106, 107, 108, 109, 110, 111, 112, 113, 114, 115, 116, 117, 118, 119, 120, 122, 123, 124, 125, 126, 127, 128, 129, 130, 131, 133] [Res.row (.slice (some ⟨g, 0, none⟩) n c) n 30 1 (us.map u64)] ?_ (fun x hx => ?_)
        · refine .seq (.region ?_)
          refine .w (.move rfl) ?_
          refine .w (.bin rfl rfl BinR.eql_i) ?_
          refine .nil (.tn ?_)
          refine .cn rfl (fun hc4 => ?_) (fun hc4 => ?_)
          · skip
            refine .seq (.region ?_)
            refine .w (.move rfl) ?_
            refine .w (.move rfl) ?_
            refine .w (.move rfl) ?_
            refine .cb (f103_spec g c n us hul (by omega) a1 b1 h4) body_103 ?_ (h0 := by rintro _ _ _ ⟨_, _, h, _⟩; exact h)
            rintro _ _ ⟨ys, hy, _, rfl⟩
            refine .ap ?_
            refine .nil (.tn (.seq (.region ?_)))
            refine .w (.move rfl) ?_
            refine .w (.asI ((b1 - 1 : Nat) : Int) (.bin rfl rfl (BinR.sub_i (by first | (constructor <;> omega) | (constructor <;> simp <;> omega))))) ?_
            refine .w (.move rfl) ?_
            refine .w (.move rfl) ?_
            refine .w (.asI ((pv - a1 : Nat) : Int) (.bin rfl rfl (BinR.sub_i (by first | (constructor <;> omega) | (constructor <;> simp <;> omega))))) ?_
            refine .w (.asI ((b1 - 1 - (pv - a1) : Nat) : Int) (.bin rfl rfl (BinR.sub_i (by first | (constructor <;> omega) | (constructor <;> simp <;> omega))))) ?_
            refine .w (.assign rfl) ?_
            refine .nil (.tn (.region ?_))
            refine .w (.assign rfl) ?_
            refine .nil ?_
            refine .hd ((b1 - 1 - (pv - a1), 1), ys) ?_
            first
            | exact ⟨⟨by dsimp only; omega, by dsimp only; omega⟩, hy.trans hq⟩
            | exact ⟨⟨by dsimp only; omega, by dsimp only; omega⟩, hq⟩
          · skip
            refine .skip ?_
            refine .hd ((pv, q), us) ?_
            first
            | exact ⟨⟨by dsimp only; omega, by dsimp only; omega⟩, hy.trans hq⟩
            | exact ⟨⟨by dsimp only; omega, by dsimp only; omega⟩, hq⟩
        · obtain ⟨⟨pw, qw⟩, vs⟩ := x
          obtain ⟨⟨h8, h9⟩, hv⟩ := hx
          dsimp only at h8 h9 hv ⊢
          have hvl : vs.length = n := hv.length_eq.trans hl
          refine .mt (ι := Unit) (fun x => True) (fun T _ => T) (fun T _ => T) (fun T _ => T) [0, 1, 2, 3, 8, 9, 10, 11, 12, 13, 14, 15, 16, 17, 18, 19, 20, 21, 22, 23, 24, 25, 26, 28, 29, 30, 31, 32, 34, 35, 36, 37, 38, 40, 41, 42, 43, 44, 45, 46, 47, 48, 49, 50, 51, 52, 53, 55, 56, 57, 58, 59, 60, 73, 74, 75, 76, 77, 78, 79, 80, 81, 82, 83, 84, 85, 86, 87, 88, 89, 90, 91, 92, 93, 94, 95, 96, 97, 98, 99, 100, 101, 102, 103, 104, 105, 106, 107, 108, 109, 110, 111, 112, 113, 114, 115, 116, 117, 118, 119, 120, 122, 123, 124, 125, 126, 127, 128, 129, 130, 131, 133] [] ?_ (fun x hx => ?_)
          · refine .seq (.region ?_)
            refine .w (.move rfl) ?_
            refine .w (.move rfl) ?_
            refine .join 6 68 (.bool (wb && wp && decide (qw = 1))) ?_ ?_
            · refine .gn (g := 8) rfl (fun hg53 hg53' => ?_) (fun hg53 hg53' => ?_)
              · refine .gt (g := 62) rfl rfl hg53 ?_
                refine .w (.move rfl) ?_
                refine .w (.pick1 rfl hg53 rfl) ?_
                refine .w (.move rfl) ?_
                refine .gn (g := 64) rfl (fun hg56 hg56' => ?_) (fun hg56 hg56' => ?_)
                · refine .gt (g := 65) rfl rfl hg56 ?_
                  refine .w (.move rfl) ?_
                  refine .gt (g := 65) rfl rfl hg56 ?_
                  refine .w (.bin rfl rfl BinR.eql_i) ?_
                  refine .w (.pick1 rfl hg56 rfl) ?_
                  refine .nil ?_
                  refine .head () (by first | (refine ⟨by first | rfl | exact congrArg (fun b => some (Value.bool b)) (by simp_all; done), ?_⟩; repeat (first | exact trivial | refine ⟨rfl, ?_⟩))) (fun _ h => h) (Picks.perm (by repeat (first | exact Picks.nil _ | apply Picks.cons | exact Pull.here _ _ | apply Pull.there))) ?_
                  trivial
                · refine .gf (g := 65) rfl rfl hg56 (by decide) ?_
                  refine .gf (g := 65) rfl rfl hg56 (by decide) ?_
                  refine .w (.pick0 rfl hg56 rfl) ?_
                  refine .nil ?_
                  refine .head () (by first | (refine ⟨by first | rfl | exact congrArg (fun b => some (Value.bool b)) (by simp_all; done), ?_⟩; repeat (first | exact trivial | refine ⟨rfl, ?_⟩))) (fun _ h => h) (Picks.perm (by repeat (first | exact Picks.nil _ | apply Picks.cons | exact Pull.here _ _ | apply Pull.there))) ?_
                  trivial
              · refine .gf (g := 62) rfl rfl hg53 (by decide) ?_
                refine .w (.pick0 rfl hg53 rfl) ?_
                refine .w (.move rfl) ?_
                refine .gf (g := 65) rfl rfl rfl (by decide) ?_
                refine .gf (g := 65) rfl rfl rfl (by decide) ?_
                refine .w (.pick0 rfl rfl rfl) ?_
                refine .nil ?_
                refine .head () (by first | (refine ⟨by first | rfl | exact congrArg (fun b => some (Value.bool b)) (by simp_all; done), ?_⟩; repeat (first | exact trivial | refine ⟨rfl, ?_⟩))) (fun _ h => h) (Picks.perm (by repeat (first | exact Picks.nil _ | apply Picks.cons | exact Pull.here _ _ | apply Pull.there))) ?_
                trivial
            · refine .nil (.tn ?_)
              refine .cn rfl (fun hc5 => ?_) (fun hc5 => ?_)
              · skip
                refine .seq (.region ?_)
                refine .w (.move rfl) ?_
                refine .w (.move rfl) ?_
                refine .w (.move rfl) ?_
                refine .cb (f104_spec g c n vs hvl (by omega) a1 b1 (by omega) h4 (by omega)) body_104 ?_ (h0 := by rintro _ _ _ ⟨_, _, h, _⟩; exact h)
                rintro _ _ ⟨z, rfl, _, rfl⟩
                refine .ap ?_
                refine .nil (.tn ?_)
                refine .cn rfl (fun hc6 => ?_) (fun hc6 => ?_)
                · skip
                  refine .ret (.then_ret (.block_ret (.then_ret (.block_ret ?_))))
                  exact .dn [] [Res.row (.slice (some ⟨g, 0, none⟩) n c) n 30 1 (vs.map u64)] (res_none rfl) ⟨vs, hv, rfl, rfl⟩
                · skip
                  refine .skip ?_
                  refine .hd () ?_
                  trivial
              · skip
                refine .skip ?_
                refine .hd () ?_
                trivial
          · obtain ⟨⟩ := x
            refine .seq (.seq ?_)
            refine JC.draw (.one 0 (.one 1 (.one 2 (.one 3 (.one 4 (.one 5 (.one 6 (.one 7 (.one 8 (.one 9 (.one 10 (.one 11 (.one 12 (.one 13 (.one 14 .nil))))))))))))))) (fun i => ([12] : List Nat).contains i) (fun i => ([12] : List Nat).contains i) (fun i => ([0, 1, 2, 3, 4, 5, 6, 8, 9, 10, 13, 14] : List Nat).contains i) mixed (by kernel_rfl) (by decide) (by kernel_rfl) ?_
            refine .uw rfl (.move rfl) ?_
            refine .uw rfl (.bin rfl rfl BinR.gtr_i) ?_
            refine .uw rfl (.move rfl) ?_
            refine JR.gsplit (g := 74) rfl (fun hg66 => ?_) (fun hg66 => ?_)
            · have hg66' := hg66
              try simp only [decide_eq_true_eq, decide_eq_false_iff_not, Bool.not_eq_true', Bool.not_eq_false', ne_eq, Decidable.not_not, Bool.not_eq_true, Bool.and_eq_true, Bool.or_eq_true, BitVec.reduceToNat] at hg66'
              refine JR.ugt (g := 75) rfl rfl rfl rfl rfl hg66 (.move rfl) (by decide) ?_
              refine JR.ugt (g := 75) rfl rfl rfl rfl rfl hg66 (.move rfl) (by decide) ?_
              refine JR.ugt (g := 75) rfl rfl rfl rfl rfl hg66 (.asI ((a1 - 1 : Nat) : Int) (.bin rfl rfl (BinR.sub_i (by first | (constructor <;> omega) | (constructor <;> simp <;> omega))))) (by decide) ?_
              refine JR.ugt (g := 75) rfl rfl rfl rfl rfl hg66 (.as (v' := ptr (blk (.slice (some ⟨g, 0, none⟩) n c)) (a1 - 1)) (.indexSl0 Tryz.underlying22 sz_30 rfl rfl (by first | exact ltb rfl | (simp; done) | (simp; omega) | omega | (simp [*]; omega))) (congrArg (ptr g) (Nat.mul_one _))) (by decide) ?_
              refine JR.vgt (g := 75) rfl rfl rfl rfl rfl hg66 (.ld one_30 rfl) (by decide) ?_
              refine JR.ugt (g := 75) rfl rfl rfl rfl rfl hg66 (.move rfl) (by decide) ?_
              refine JR.ugt (g := 75) rfl rfl rfl rfl rfl hg66 (.move rfl) (by decide) ?_
              refine JR.ugt (g := 75) rfl rfl rfl rfl rfl hg66 (.as (v' := ptr (blk (.slice (some ⟨g, 0, none⟩) n c)) pw) (.indexSl0 Tryz.underlying22 sz_30 rfl rfl (by first | exact ltb rfl | (simp; done) | (simp; omega) | omega | (simp [*]; omega))) (congrArg (ptr g) (Nat.mul_one _))) (by decide) ?_
              refine JR.vgt (g := 75) rfl rfl rfl rfl rfl hg66 (.ld one_30 rfl) (by decide) ?_
              refine JR.mgt (g := 75) rfl rfl rfl rfl hg66 (.c (f105_spec (vs.getD (a1 - 1) 0) (vs.getD pw 0)) body_105) (by decide) ?_
              rintro _ _ _ ⟨rfl, rfl, rfl⟩
              refine kp ?_
              refine JR.ugt (g := 75) rfl rfl rfl rfl rfl hg66 (.not rfl) (by decide) ?_
              refine JR.u rfl rfl rfl (Yv.pick1 rfl hg66 rfl) (by decide) ?_
              refine .nil (.tn ?_)
              refine .cn rfl (fun hc7 => ?_) (fun hc7 => ?_)
              · skip
                refine .seq (.region ?_)
                refine .w (.move rfl) ?_
                refine .w (.move rfl) ?_
                refine .w (.move rfl) ?_
                refine .w (.move rfl) ?_
                refine .cb (f106_spec g c n vs hvl (by omega) a1 b1 pw h8 h9 h4) body_106 ?_ (h0 := by rintro _ _ _ ⟨_, _, _, _, _, _, h, _⟩; exact h)
                rintro _ _ ⟨m, ys, rfl, hm1, hm2, hy, _, rfl⟩
                refine .ap ?_
                refine .w (.assign rfl) ?_
                refine .nil (.tn (.seq (.region ?_)))
                refine .w (.move rfl) ?_
                refine .w (.assign rfl) ?_
                refine .nil (.tn (.exit (.then_exit (.block_exit ?_))))
                refine .hd (((m, b1), l2), (wb, wp), ys) ?_
                first
                | exact ⟨⟨⟨by dsimp only; omega, by dsimp only; omega, by dsimp only; omega⟩, by dsimp only; omega, ht.trans (hy.trans hv)⟩, by dsimp only; omega⟩
                | exact ⟨⟨⟨by dsimp only; omega, by dsimp only; omega, by dsimp only; omega⟩, by dsimp only; omega, hy.trans hv⟩, by dsimp only; omega⟩
              · skip
                refine .skip (.tn (.seq (.region ?_)))
                refine .w (.move rfl) ?_
                refine .w (.move rfl) ?_
                refine .w (.move rfl) ?_
                refine .w (.move rfl) ?_
                refine .cb (f107_spec g c n vs hvl (by omega) a1 b1 pw h8 h9 h4) body_107 ?_ (h0 := by rintro _ _ _ ⟨_, _, _, _, _, _, _, h, _⟩; exact h)
                rintro _ _ ⟨m, z2, ys, rfl, hm1, hm2, hy, _, rfl⟩
                refine .ap ?_
                have hyl : ys.length = n := (hy.trans hv).length_eq.trans hl
                refine .w (.move rfl) ?_
                refine .w (.extract rfl rfl) ?_
                refine .w (.extract rfl rfl) ?_
                refine .w (.assign rfl) ?_
                refine .w (.assign rfl) ?_
                refine .nil (.tn (.seq (.region ?_)))
                refine .w (.move rfl) ?_
                refine .w (.assign rfl) ?_
                refine .nil (.tn (.seq (.region ?_)))
                refine .w (.move rfl) ?_
                refine .w (.move rfl) ?_
                refine .w (.asI ((m - a1 : Nat) : Int) (.bin rfl rfl (BinR.sub_i (by first | (constructor <;> omega) | (constructor <;> simp <;> omega))))) ?_
                refine .w (.move rfl) ?_
                refine .w (.move rfl) ?_
                refine .w (.asI ((b1 - m : Nat) : Int) (.bin rfl rfl (BinR.sub_i (by first | (constructor <;> omega) | (constructor <;> simp <;> omega))))) ?_
                refine .w (.assign rfl) ?_
                refine .w (.assign rfl) ?_
                refine .nil (.tn (.seq (.region ?_)))
                refine .w (.move rfl) ?_
                refine .w (.asI (((b1 - a1) / 8 : Nat) : Int) (.bin rfl rfl (BinR.quo_i (by first | omega | decide | (simp; omega)) (by first | omega | decide | (simp; omega)) (by first | (constructor <;> omega) | (constructor <;> simp <;> omega))))) ?_
                refine .w (.assign rfl) ?_
                refine .nil (.tn (.seq (.region ?_)))
                refine .w (.move rfl) ?_
                refine .w (.move rfl) ?_
                refine .w (.bin rfl rfl BinR.lss_i) ?_
                refine .nil (.tn ?_)
                refine .cn rfl (fun hc8 => ?_) (fun hc8 => ?_)
                · skip
                  refine .seq (.region ?_)
                  refine .w (.move rfl) ?_
                  refine .w (.move rfl) ?_
                  refine .w (.bin rfl rfl BinR.geq_i) ?_
                  refine .w (.assign rfl) ?_
                  refine .nil (.tn (.seq (.region ?_)))
                  refine .w (.move rfl) ?_
                  refine .w (.move rfl) ?_
                  refine .w (.move rfl) ?_
                  refine .w (.move rfl) ?_
                  refine .cb (ih (m - a1) (by omega) ys hyl a1 m l2 (by omega) (by omega) (by omega) (Nat.le_refl _)) body_80 ?_ (h0 := by rintro _ _ _ ⟨_, _, h, _⟩; exact h)
                  rintro _ _ ⟨ts, ht, _, rfl⟩
                  refine .ap ?_
                  refine .nil (.tn (.region ?_))
                  refine .w (.move rfl) ?_
                  refine .w (.asI ((m + 1 : Nat) : Int) (.bin rfl rfl (BinR.add_i (by first | (constructor <;> omega) | (constructor <;> simp <;> omega))))) ?_
                  refine .w (.assign rfl) ?_
                  refine .nil (.block_normal ?_)
                  refine .hd (((m + 1, b1), l2), (_, z2), ts) ?_
                  first
                  | exact ⟨⟨⟨by dsimp only; omega, by dsimp only; omega, by dsimp only; omega⟩, by dsimp only; omega, ht.trans (hy.trans hv)⟩, by dsimp only; omega⟩
                  | exact ⟨⟨⟨by dsimp only; omega, by dsimp only; omega, by dsimp only; omega⟩, by dsimp only; omega, hy.trans hv⟩, by dsimp only; omega⟩
                · skip
                  refine .seq (.region ?_)
                  refine .w (.move rfl) ?_
                  refine .w (.move rfl) ?_
                  refine .w (.bin rfl rfl BinR.geq_i) ?_
                  refine .w (.assign rfl) ?_
                  refine .nil (.tn (.seq (.region ?_)))
                  refine .w (.move rfl) ?_
                  refine .w (.move rfl) ?_
                  refine .w (.asI ((m + 1 : Nat) : Int) (.bin rfl rfl (BinR.add_i (by first | (constructor <;> omega) | (constructor <;> simp <;> omega))))) ?_
                  refine .w (.move rfl) ?_
                  refine .w (.move rfl) ?_
                  refine .cb (ih (b1 - (m + 1)) (by omega) ys hyl (m + 1) b1 l2 (by omega) (by omega) (by omega) (Nat.le_refl _)) body_80 ?_ (h0 := by rintro _ _ _ ⟨_, _, h, _⟩; exact h)
                  rintro _ _ ⟨ts, ht, _, rfl⟩
                  refine .ap ?_
                  refine .nil (.tn (.region ?_))
                  refine .w (.move rfl) ?_
                  refine .w (.assign rfl) ?_
                  refine .nil (.block_normal ?_)
                  refine .hd (((a1, m), l2), (_, z2), ts) ?_
                  first
                  | exact ⟨⟨⟨by dsimp only; omega, by dsimp only; omega, by dsimp only; omega⟩, by dsimp only; omega, ht.trans (hy.trans hv)⟩, by dsimp only; omega⟩
                  | exact ⟨⟨⟨by dsimp only; omega, by dsimp only; omega, by dsimp only; omega⟩, by dsimp only; omega, hy.trans hv⟩, by dsimp only; omega⟩
            · have hg66' := hg66
              try simp only [decide_eq_true_eq, decide_eq_false_iff_not, Bool.not_eq_true', Bool.not_eq_false', ne_eq, Decidable.not_not, Bool.not_eq_true, Bool.and_eq_true, Bool.or_eq_true, BitVec.reduceToNat] at hg66'
              refine JR.gf (g := 75) rfl rfl rfl rfl hg66 (by decide) ?_
              refine JR.gf (g := 75) rfl rfl rfl rfl hg66 (by decide) ?_
              refine JR.gf (g := 75) rfl rfl rfl rfl hg66 (by decide) ?_
              refine JR.gf (g := 75) rfl rfl rfl rfl hg66 (by decide) ?_
              refine JR.gf (g := 75) rfl rfl rfl rfl hg66 (by decide) ?_
              refine JR.gf (g := 75) rfl rfl rfl rfl hg66 (by decide) ?_
              refine JR.gf (g := 75) rfl rfl rfl rfl hg66 (by decide) ?_
              refine JR.gf (g := 75) rfl rfl rfl rfl hg66 (by decide) ?_
              refine JR.gf (g := 75) rfl rfl rfl rfl hg66 (by decide) ?_
              refine JR.gfm (g := 75) rfl rfl rfl rfl hg66 (by decide) ?_ ?_
              · exact ⟨Subs.sub (by repeat (first | exact Subs.nil _ | apply Subs.cons | exact List.Mem.head _ | refine List.Mem.tail _ ?_)), .inl rfl⟩
              refine JR.gf (g := 75) rfl rfl rfl rfl hg66 (by decide) ?_
              refine JR.u rfl rfl rfl (Yv.pick0 rfl hg66 rfl) (by decide) ?_
              refine .nil (.tn ?_)
              refine .k0 rfl rfl ?_
              refine .skip (.tn (.seq (.region ?_)))
              refine .w (.move rfl) ?_
              refine .w (.move rfl) ?_
              refine .w (.move rfl) ?_
              refine .w (.move rfl) ?_
              refine .cb (f107_spec g c n vs hvl (by omega) a1 b1 pw h8 h9 h4) body_107 ?_ (h0 := by rintro _ _ _ ⟨_, _, _, _, _, _, _, h, _⟩; exact h)
              rintro _ _ ⟨m, z2, ys, rfl, hm1, hm2, hy, _, rfl⟩
              refine .ap ?_
              have hyl : ys.length = n := (hy.trans hv).length_eq.trans hl
              refine .w (.move rfl) ?_
              refine .w (.extract rfl rfl) ?_
              refine .w (.extract rfl rfl) ?_
              refine .w (.assign rfl) ?_
              refine .w (.assign rfl) ?_
              refine .nil (.tn (.seq (.region ?_)))
              refine .w (.move rfl) ?_
              refine .w (.assign rfl) ?_
              refine .nil (.tn (.seq (.region ?_)))
              refine .w (.move rfl) ?_
              refine .w (.move rfl) ?_
              refine .w (.asI ((m - a1 : Nat) : Int) (.bin rfl rfl (BinR.sub_i (by first | (constructor <;> omega) | (constructor <;> simp <;> omega))))) ?_
              refine .w (.move rfl) ?_
              refine .w (.move rfl) ?_
              refine .w (.asI ((b1 - m : Nat) : Int) (.bin rfl rfl (BinR.sub_i (by first | (constructor <;> omega) | (constructor <;> simp <;> omega))))) ?_
              refine .w (.assign rfl) ?_
              refine .w (.assign rfl) ?_
              refine .nil (.tn (.seq (.region ?_)))
              refine .w (.move rfl) ?_
              refine .w (.asI (((b1 - a1) / 8 : Nat) : Int) (.bin rfl rfl (BinR.quo_i (by first | omega | decide | (simp; omega)) (by first | omega | decide | (simp; omega)) (by first | (constructor <;> omega) | (constructor <;> simp <;> omega))))) ?_
              refine .w (.assign rfl) ?_
              refine .nil (.tn (.seq (.region ?_)))
              refine .w (.move rfl) ?_
              refine .w (.move rfl) ?_
              refine .w (.bin rfl rfl BinR.lss_i) ?_
              refine .nil (.tn ?_)
              refine .cn rfl (fun hc8 => ?_) (fun hc8 => ?_)
              · skip
                refine .seq (.region ?_)
                refine .w (.move rfl) ?_
                refine .w (.move rfl) ?_
                refine .w (.bin rfl rfl BinR.geq_i) ?_
                refine .w (.assign rfl) ?_
                refine .nil (.tn (.seq (.region ?_)))
                refine .w (.move rfl) ?_
                refine .w (.move rfl) ?_
                refine .w (.move rfl) ?_
                refine .w (.move rfl) ?_
                refine .cb (ih (m - a1) (by omega) ys hyl a1 m l2 (by omega) (by omega) (by omega) (Nat.le_refl _)) body_80 ?_ (h0 := by rintro _ _ _ ⟨_, _, h, _⟩; exact h)
                rintro _ _ ⟨ts, ht, _, rfl⟩
                refine .ap ?_
                refine .nil (.tn (.region ?_))
                refine .w (.move rfl) ?_
                refine .w (.asI ((m + 1 : Nat) : Int) (.bin rfl rfl (BinR.add_i (by first | (constructor <;> omega) | (constructor <;> simp <;> omega))))) ?_
                refine .w (.assign rfl) ?_
                refine .nil (.block_normal ?_)
                refine .hd (((m + 1, b1), l2), (_, z2), ts) ?_
                first
                | exact ⟨⟨⟨by dsimp only; omega, by dsimp only; omega, by dsimp only; omega⟩, by dsimp only; omega, ht.trans (hy.trans hv)⟩, by dsimp only; omega⟩
                | exact ⟨⟨⟨by dsimp only; omega, by dsimp only; omega, by dsimp only; omega⟩, by dsimp only; omega, hy.trans hv⟩, by dsimp only; omega⟩
              · skip
                refine .seq (.region ?_)
                refine .w (.move rfl) ?_
                refine .w (.move rfl) ?_
                refine .w (.bin rfl rfl BinR.geq_i) ?_
                refine .w (.assign rfl) ?_
                refine .nil (.tn (.seq (.region ?_)))
                refine .w (.move rfl) ?_
                refine .w (.move rfl) ?_
                refine .w (.asI ((m + 1 : Nat) : Int) (.bin rfl rfl (BinR.add_i (by first | (constructor <;> omega) | (constructor <;> simp <;> omega))))) ?_
                refine .w (.move rfl) ?_
                refine .w (.move rfl) ?_
                refine .cb (ih (b1 - (m + 1)) (by omega) ys hyl (m + 1) b1 l2 (by omega) (by omega) (by omega) (Nat.le_refl _)) body_80 ?_ (h0 := by rintro _ _ _ ⟨_, _, h, _⟩; exact h)
                rintro _ _ ⟨ts, ht, _, rfl⟩
                refine .ap ?_
                refine .nil (.tn (.region ?_))
                refine .w (.move rfl) ?_
                refine .w (.assign rfl) ?_
                refine .nil (.block_normal ?_)
                refine .hd (((a1, m), l2), (_, z2), ts) ?_
                first
                | exact ⟨⟨⟨by dsimp only; omega, by dsimp only; omega, by dsimp only; omega⟩, by dsimp only; omega, ht.trans (hy.trans hv)⟩, by dsimp only; omega⟩
                | exact ⟨⟨⟨by dsimp only; omega, by dsimp only; omega, by dsimp only; omega⟩, by dsimp only; omega, hy.trans hv⟩, by dsimp only; omega⟩
end Go.Proofs.YthfipbjmpeegbaaGreatDoor

/- Walks: numbers sorted, whole. -/
namespace Go.Proofs.YthfipbjmpeegbaaGreatDoor
open Go.RowKit
set_option maxRecDepth 100000
set_option linter.unusedVariables false
set_option linter.unusedSimpArgs false
theorem f99Z_spec (u : Value) :
    Spec Tryz.prog 99 #[u, (it 0), (it 0)] [] []
      (fun r Γ' H' => True ∧ Γ' = [] ∧ H' = []) := by
  refine Spec.of_args Tryz.func99 rfl Tryz.ntmps99 (by simp) fun w => ?_
  refine .seq (.region ?_)
  refine .w (.move rfl) ?_
  refine .w (.asI 1 (.bin rfl rfl (BinR.add_i (by first | (constructor <;> omega) | (constructor <;> simp <;> omega))))) ?_
  refine .w (.assign rfl) ?_
  refine .nil (.tn (.block ?_))
  refine .lp (ι := Unit) (fun x => True) (fun T x => (6, it 1) :: T) (fun T _ => T) (fun T _ => T) (fun x => 0) () [0, 1, 2] ?_ (fun x hx => ?_)
  · trivial
  obtain ⟨⟩ := x
  refine .seq (.seq (.region ?_))
  refine .w (.move rfl) ?_
  refine .w (.move rfl) ?_
  refine .w (.asF (.bin rfl rfl BinR.lss_i)) ?_
  refine .nil (.tn ?_)
  refine .cf rfl ?_
  refine .exit (.then_exit (.then_exit (.block_exit ?_)))
  exact .dn [] [] (res_none rfl) ⟨trivial, rfl, rfl⟩

theorem f80Z_spec (u : Value) (lim : Int) :
    Spec Tryz.prog 80 #[u, (it 0), (it 0), (it lim)] [] []
      (fun r Γ' H' => True ∧ Γ' = [] ∧ H' = []) := by
  refine Spec.of_args Tryz.func80 rfl Tryz.ntmps80 (by simp) fun w => ?_
  refine .seq (.region ?_)
  refine .w (.assign rfl) ?_
  refine .nil (.tn (.seq (.region ?_)))
  refine .w (.assign rfl) ?_
  refine .nil (.tn (.block ?_))
  refine .lp (ι := Unit) (fun x => True) (fun T x => (1, it 0) :: (2, it 0) :: (3, it lim) :: (8, .bool true) :: (9, .bool true) :: T) (fun T _ => T) (fun T _ => T) (fun x => 0) () [0] ?_ (fun x hx => ?_)
  · trivial
  obtain ⟨⟩ := x
  refine .block (.seq (.region ?_))
  refine .w (.move rfl) ?_
  refine .w (.move rfl) ?_
  refine .w (.asI 0 (.bin rfl rfl (BinR.sub_i (by first | (constructor <;> omega) | (constructor <;> simp <;> omega))))) ?_
  refine .w (.assign rfl) ?_
  refine .nil (.tn (.seq (.seq (.region ?_))))
  refine .w (.move rfl) ?_
  refine .w (.asT (.bin rfl rfl BinR.leq_i)) ?_
  refine .nil (.tn ?_)
  refine .ct rfl ?_
  refine .seq (.region ?_)
  refine .w (.move rfl) ?_
  refine .w (.move rfl) ?_
  refine .w (.move rfl) ?_
  refine .cb (f99Z_spec u) body_99 ?_ (h0 := by rintro _ _ _ ⟨_, h, _⟩; exact h)
  rintro _ _ ⟨_, _, rfl⟩
  refine .ap ?_
  refine .nil (.tn (.ret (.then_ret (.block_ret (.then_ret (.block_ret ?_))))))
  exact .dn [] [] (res_none rfl) ⟨trivial, rfl, rfl⟩

theorem f56Z_spec (u : Value) :
    Spec Tryz.prog 56 #[u] [] [Res.row u 0 30 1 []]
      (fun r Γ' H' => True ∧ Γ' = [] ∧ H' = [Res.row u 0 30 1 []]) := by
  refine Spec.of_args Tryz.func56 rfl Tryz.ntmps56 (by simp) fun w => ?_
  refine .seq (.region ?_)
  refine .w (.move rfl) ?_
  refine .w (.asI 0 (.len Tryz.underlying22 rfl)) ?_
  refine .w (.assign rfl) ?_
  refine .nil (.tn (.region ?_))
  refine .w (.move rfl) ?_
  refine .w (.move rfl) ?_
  refine .w (.move rfl) ?_
  refine .w (.as (v' := u64 0) (.conv_i_u64 Tryz.underlying3 Tryz.underlying130 rfl) (congrArg u64 (by decide))) ?_
  refine .c (f75_spec 0) body_75 ?_
  refine .cb (f80Z_spec u _) body_80 ?_ (h0 := by rintro _ _ _ ⟨_, h, _⟩; exact h)
  rintro _ _ ⟨_, _, rfl⟩
  refine .ap ?_
  refine .nil ?_
  exact .dn [] [Res.row u 0 30 1 []] (res_none rfl) ⟨trivial, rfl, rfl⟩

theorem f56N_spec (g c n : Nat) (hn : n ≤ 49) (xs : List W64) (hl : xs.length = n) :
    Spec Tryz.prog 56 #[(.slice (some ⟨g, 0, none⟩) n c)] [] [Res.row (.slice (some ⟨g, 0, none⟩) n c) n 30 1 (xs.map u64)]
      (fun r Γ' H' => ∃ ys : List W64, ys.Perm xs ∧ Γ' = [] ∧ H' = [Res.row (.slice (some ⟨g, 0, none⟩) n c) n 30 1 (ys.map u64)]) := by
  refine Spec.of_args Tryz.func56 rfl Tryz.ntmps56 (by simp) fun w => ?_
  refine .seq (.region ?_)
  refine .w (.move rfl) ?_
  refine .w (.len Tryz.underlying22 rfl) ?_
  refine .w (.assign rfl) ?_
  refine .nil (.tn (.region ?_))
  refine .w (.move rfl) ?_
  refine .w (.move rfl) ?_
  refine .w (.move rfl) ?_
  refine .w (.as (v' := u64 (BitVec.ofNat 64 n)) (.conv_i_u64 Tryz.underlying3 Tryz.underlying130 rfl) (congrArg u64 (BitVec.ofInt_natCast _ _))) ?_
  refine .c (f75_spec (BitVec.ofNat 64 n)) body_75 ?_
  have hl64 := len64_le (BitVec.ofNat 64 n)
  refine .cb (f80_spec n g c n hn xs hl 0 n (len64 (BitVec.ofNat 64 n)) (by omega) (Nat.zero_le _) (Nat.le_refl _) (Nat.le_refl _)) body_80 ?_ (h0 := by rintro _ _ _ ⟨_, _, h, _⟩; exact h)
  rintro _ _ ⟨ys, hy, _, rfl⟩
  refine .ap ?_
  refine .nil ?_
  exact .dn [] [Res.row (.slice (some ⟨g, 0, none⟩) n c) n 30 1 (ys.map u64)] (res_none rfl) ⟨ys, hy, rfl, rfl⟩

theorem f56_spec (v : Value) (xs : List W64) (hx : xs.length ≤ 49) : Spec Tryz.prog 56 #[v] [] [Res.row v xs.length 30 1 (xs.map u64)] (fun r Γ' H' => ∃ ys : List W64, ys.Perm xs ∧ Γ' = [] ∧ H' = [Res.row v xs.length 30 1 (ys.map u64)]) := by
  by_cases h0 : xs = []
  · subst h0
    exact (f56Z_spec v).mono fun r Γ' H' ⟨_, h1, h2⟩ => ⟨[], .refl _, h1, h2⟩
  · refine Spec.know (φ := ∃ g c, v = .slice (some ⟨g, 0, none⟩) xs.length c ∧ xs.length ≤ c) (fun w hs => hs.rowForm2 (.head _) (by cases xs with | nil => exact absurd rfl h0 | cons a l => simp)) ?_
    rintro ⟨g, c, rfl, _⟩
    exact f56N_spec g c xs.length hx xs rfl
end Go.Proofs.YthfipbjmpeegbaaGreatDoor

/- Walks: the heights. -/
namespace Go.Proofs.YthfipbjmpeegbaaGreatDoor
open Go.RowKit
set_option maxRecDepth 100000
set_option linter.unusedVariables false
set_option linter.unusedSimpArgs false
theorem f34_spec (a : Nat) :
    Spec Tryz.prog 34 #[(.map (some a))] [] []
      (fun r Γ' H' => ∃ q, r = .func (.func 57) #[] #[ptr q 0] ∧ Γ' = [] ∧ H' = [Res.cells q [.map (some a)] 60]) := by
  refine Spec.of_args Tryz.func34 rfl Tryz.ntmps34 (by simp) fun w => ?_
  refine .seq (.region ?_)
  refine .bx fun b1 => ?_
  refine .w (.assign rfl) ?_
  refine .nil (.tn (.seq (.region ?_)))
  refine .w (.makeFunc rfl rfl) ?_
  refine .w (.assign rfl) ?_
  refine .nil (.tn (.ret ?_))
  exact .dn [] [Res.cells b1 [.map (some a)] 60] (res1 rfl (.tmp rfl)) ⟨_, rfl, rfl, rfl⟩

theorem f57_spec (l : Nat) (X : Res) (R : List ((BitVec 64) × (HC) × Nat) → Res → Prop) (r0 : Res) (hR0 : R [] r0) (bx a : Nat) (m : MM (BitVec 64) (HC)) (hm : m.Ok)
    (hY : ∀ p vs Γy r y, kOk uK m p vs Γy y → R p r → YSpec Tryz.prog l vs.toArray (Γy ++ [X]) [r] (fun b Γ' H' => b = .bool true ∧ Γ' = [] ∧ ∃ r', R y r' ∧ H' = [r'])) :
    Spec Tryz.prog 57 #[(.func (.yield l) #[] #[]), (ptr bx 0)] [Res.cells bx [.map (some a)] 60, mpR a uK hcV m, X] [r0]
      (fun _ Γ' H' => True ∧ Γ' = [] ∧ ∃ p r', p.Perm m.es ∧ R p r' ∧ H' = [r']) := by
  refine Spec.of_argsX Tryz.func57 rfl Tryz.ntmps57 (by simp) fun w => ?_
  refine .seq (.region ?_)
  refine .w (.ld one_60 rfl) ?_
  refine .rg Tryz.underlying60 fun r5 => ?_
  refine .nil (.xtn (.block ?_))
  refine .lp (ι := List ((BitVec 64) × (HC) × Nat) × Res) (fun x => m.Walk x.1 ∧ R x.1 x.2) (fun T _ => T) (fun T _ => T) (fun T x => miR r5 a m x.1 :: x.2 :: T) (fun x => m.es.length - x.1.length) ([], r0) [0, 5] ?_ (fun x hx => ?_)
  · exact ⟨MM.Walk.nil, hR0⟩
  obtain ⟨p, r⟩ := x
  obtain ⟨hW, hRp⟩ := hx
  dsimp only at hW hRp ⊢
  refine .seq (.region ?_)
  refine .nx hm hW ?_ ?_
  · intro hp
    refine .w (.extract rfl rfl) ?_
    refine .nil (.xtn (.seq ?_))
    refine .cf rfl ?_
    refine .exit (.xthen_exit (.xthen_exit (.xblock_exit (.x0 ?_))))
    exact .dn [] [r] (res_none rfl) ⟨trivial, rfl, p, r, hp, hRp, rfl⟩
  · intro e he hnp hw2
    refine .w (.extract rfl rfl) ?_
    refine .nil (.xtn (.seq ?_))
    refine .ct rfl ?_
    refine .skip (.xtn (.block (.seq (.region ?_))))
    refine .w (.en hm he) ?_
    refine .w (.as (v' := uK e.1) (.extract rfl rfl) rfl) ?_
    refine .w (.assign rfl) ?_
    refine .nil (.xtn (.seq (.regionO (.pre 2 ?_))))
    refine .w (.move rfl) ?_
    refine .w (.move rfl) ?_
    refine .nil (.xpre ?_)
    refine .yield (hY p [uK e.1] [] r (p ++ [e]) ⟨e, hw2, rfl, rfl, rfl⟩ hRp) ?_
    rintro _ _ ⟨rfl, _, r', hR', rfl⟩
    refine .ap ?_
    refine .tail ?_
    refine .w (.as (v' := .bool false) (.not rfl) rfl) ?_
    refine .nil (.xtn ?_)
    refine .cf rfl ?_
    refine .skip (.xblock_normal ?_)
    refine .xhd (p ++ [e], r') ?_
    exact ⟨⟨hw2, hR'⟩, by have := walkLen hw2; simp at this ⊢; omega⟩
end Go.Proofs.YthfipbjmpeegbaaGreatDoor

/- Walks: the heights, sorted. -/
namespace Go.Proofs.YthfipbjmpeegbaaGreatDoor
open Go.RowKit
set_option maxRecDepth 100000
set_option linter.unusedVariables false
set_option linter.unusedSimpArgs false
theorem f79_spec (q a : Nat) (m : MM (BitVec 64) (HC)) (hm : m.Ok) (hl : m.es.length ≤ 1000000) :
    Spec Tryz.prog 79 #[(.slice none 0 0), (.func (.func 57) #[] #[ptr q 0])] [Res.cells q [.map (some a)] 60, mpR a uK hcV m] []
      (fun r Γ' H' => ∃ ds : List W64, ds.Perm (m.es.map (·.1)) ∧ Γ' = [] ∧ H' = [Res.row r ds.length 30 1 (bks uC ds)]) := by
  refine Spec.of_argsM Tryz.func79 rfl Tryz.ntmps79 (by simp) fun w => ?_
  refine .seq (.region ?_)
  refine .bx fun b2 => ?_
  refine JO.nilRow 30 1 ?_
  refine .w (.assign rfl) ?_
  refine .nil (.xtn (.seq (.seq (.region ?_))))
  refine .w (.move rfl) ?_
  refine .nil (.xtn (.block ?_))
  refine .rfg ([] : List (BitVec 64 × (HC) × Nat)) (fun p => p.Perm m.es) (fun p Lr => m.Walk p ∧ ∃ lv : Value, Lr = [Res.cells b2 [lv] 22, Res.row lv (p.map (·.1)).length 30 1 (bks uC (p.map (·.1)))]) (I0 := [Res.cells b2 [.slice none 0 0] 22, Res.row (.slice none 0 0) 0 30 1 []]) (Γi := [Res.cells q [.map (some a)] 60, mpR a uK hcV m]) (kOk uK m) rfl body_57 ⟨MM.Walk.nil, .slice none 0 0, rfl⟩ (fun l X R r0 h0 hy => f57_spec l X R r0 h0 q a m hm hy) (fun l D fn T w0 k vs Γy y L hok hI => ?_) (fun D xf L hfin hI => ?_) (fun k vs Γy y h => by obtain ⟨e, _, rfl, _⟩ := h; rfl) (by decide) (by decide) (by repeat (first | exact Picks.nil _ | apply Picks.cons | exact Pull.here _ _ | apply Pull.there)) (by repeat (first | exact Lends.nil _ | apply Lends.cons | exact Lend.same _ _ | exact Lend.row _ _ _ _ _ _ (by decide) | apply Lend.there))
  · obtain ⟨e, hw2, rfl, rfl, rfl⟩ := hok
    obtain ⟨hW, lv, rfl⟩ := hI
    have hlen := walkLen hw2
    rw [List.length_append, List.length_singleton] at hlen
    have hkl : (k.map (·.1)).length ≤ 1000000 := by rw [List.length_map]; omega
    change JX _ _ _ _ _ _ ((7, _) :: _) _ (_ :: _ :: _)
    refine .region ?_
    refine .w (.assign rfl) ?_
    refine .nil (.rk (.block (.region ?_)))
    refine .w (.ld one_22 rfl) ?_
    refine .w (.move rfl) ?_
    refine .l1 Tryz.underlying22 info_30 (fun v10 => ?_)
    refine .ap Tryz.underlying22 info_30 (fun v11 => ?_)
    rw [snocKU]
    first | refine .s1 sz_22 ?_ | refine .s1s sz_22 ?_ | refine .sr1 sz_22 ?_
    refine .nil (.xblock_normal ?_)
    exact .rend [Res.cells b2 [v11] 22, Res.row v11 ((k ++ [e]).map (·.1)).length 30 1 (bks uC ((k ++ [e]).map (·.1)))] ⟨hw2, v11, rfl⟩
  · obtain ⟨hW, lv, rfl⟩ := hI
    change JQ _ _ _ _ _ _ (_ :: _ :: _)
    refine .xblock_normal (.xtn (.seq (.region ?_)))
    refine .w (.ld one_22 rfl) ?_
    refine .w (.assign rfl) ?_
    refine .nil (.xtn (.ret ?_))
    exact .xdn (by repeat (first | exact Pull.here _ _ | apply Pull.there)) [] [Res.row lv (xf.map (·.1)).length 30 1 (bks uC (xf.map (·.1)))] (res1 rfl (.tmp rfl)) ⟨xf.map (·.1), hfin.map _, rfl, rfl⟩

theorem f55_spec (q a : Nat) (m : MM (BitVec 64) (HC)) (hm : m.Ok) (hl : m.es.length ≤ 1000000) :
    Spec Tryz.prog 55 #[(.func (.func 57) #[] #[ptr q 0])] [Res.cells q [.map (some a)] 60, mpR a uK hcV m] []
      (fun r Γ' H' => ∃ ds : List W64, ds.Perm (m.es.map (·.1)) ∧ Γ' = [] ∧ H' = [Res.row r ds.length 30 1 (bks uC ds)]) := by
  refine Spec.of_args Tryz.func55 rfl Tryz.ntmps55 (by simp) fun w => ?_
  refine .seq (.region ?_)
  refine .w (.assign rfl) ?_
  refine .nil (.tn (.seq (.region ?_)))
  refine .w (.move rfl) ?_
  refine .cb (f79_spec q a m hm hl) body_79 ?_ (h0 := by rintro _ _ _ ⟨_, _, h, _⟩; exact h)
  rintro v4 _ ⟨ds, hds, _, rfl⟩
  refine .ap ?_
  refine .w (.assign rfl) ?_
  refine .nil (.tn (.ret ?_))
  exact .dn [] [Res.row v4 ds.length 30 1 (bks uC ds)] (res1 rfl (.tmp rfl)) ⟨ds, hds, rfl, rfl⟩

theorem f33_spec (q a : Nat) (m : MM (BitVec 64) (HC)) (hm : m.Ok) (hl : m.es.length ≤ 49) :
    Spec Tryz.prog 33 #[(.func (.func 57) #[] #[ptr q 0])] [Res.cells q [.map (some a)] 60, mpR a uK hcV m] []
      (fun r Γ' H' => ∃ es : List W64, es.Perm (m.es.map (·.1)) ∧ Γ' = [] ∧ H' = [Res.row r es.length 30 1 (es.map u64)]) := by
  refine Spec.of_args Tryz.func33 rfl Tryz.ntmps33 (by simp) fun w => ?_
  refine .seq (.region ?_)
  refine .w (.assign rfl) ?_
  refine .nil (.tn (.seq (.region ?_)))
  refine .w (.move rfl) ?_
  refine .cb (f55_spec q a m hm (by omega)) body_55 ?_ (h0 := by rintro _ _ _ ⟨_, _, h, _⟩; exact h)
  rintro v5 _ ⟨ds, hds, _, rfl⟩
  refine .ap ?_
  rw [bks_uC]
  refine .w (.assign rfl) ?_
  refine .nil (.tn (.seq (.region ?_)))
  refine .w (.move rfl) ?_
  refine .cb (f56_spec v5 ds (by rw [hds.length_eq, List.length_map]; omega)) body_56 ?_ (h0 := by rintro _ _ _ ⟨_, _, h, _⟩; exact h)
  rintro _ _ ⟨ys, hy, _, rfl⟩
  refine .ap ?_
  refine .nil (.tn (.seq (.region ?_)))
  refine .w (.move rfl) ?_
  refine .w (.assign rfl) ?_
  refine .nil (.tn (.ret ?_))
  exact .dn [] [Res.row v5 ds.length 30 1 (ys.map u64)] (res1 rfl (.tmp rfl)) ⟨ys, hy.trans hds, rfl, by rw [hy.length_eq]⟩

theorem f15_spec (c am : Nat) (sv : Value) (S : List W64) (M : MM (BitVec 64) HC) (hM : COk S M) :
    Spec Tryz.prog 15 #[(ptr c 0)] [Res.cells c [sv, .map (some am)] 62, mpR am uK hcV M] []
      (fun r Γ' H' => ∃ es : List W64, es.Perm (M.es.map (·.1)) ∧ Γ' = [] ∧ H' = [Res.row r es.length 30 1 (es.map u64)]) := by
  refine Spec.of_args Tryz.func15 rfl Tryz.ntmps15 (by simp) fun w => ?_
  refine .seq (.region ?_)
  refine .w (.assign rfl) ?_
  refine .nil (.tn (.seq (.region ?_)))
  refine .w (.move rfl) ?_
  refine .w (.nilCheck rfl) ?_
  refine .w (.fieldAddr fa_62_1 rfl) ?_
  refine .w (.ld one_60 rfl) ?_
  refine .cb (f34_spec am) body_34 ?_ (h0 := by rintro _ _ _ ⟨_, _, h, _⟩; exact h)
  rintro _ _ ⟨q, rfl, _, rfl⟩
  refine .ap ?_
  refine .cb (f33_spec q am M hM.ok (by have := hM.le; omega)) body_33 ?_ (h0 := by rintro _ _ _ ⟨_, _, h, _⟩; exact h)
  rintro v7 _ ⟨es, hes, _, rfl⟩
  refine .ap ?_
  refine .w (.assign rfl) ?_
  refine .nil (.tn (.ret ?_))
  exact .dn [] [Res.row v7 es.length 30 1 (es.map u64)] (res1 rfl (.tmp rfl)) ⟨es, hes, rfl, rfl⟩
end Go.Proofs.YthfipbjmpeegbaaGreatDoor

/- The chapter's example of a chase, by what it says; names of small blocks. No program in sight. -/
namespace Go.Proofs.YthfipbjmpeegbaaGreatDoor
open Go.RowKit
set_option linter.unusedVariables false
set_option linter.unusedSimpArgs false
theorem nm_ne {a b : B8} (h : (nm a).1.getD 0 0 ≠ (nm b).1.getD 0 0) : nm a ≠ nm b := fun e => h (by rw [e])
abbrev bk0 : B8 := blockB 0 []
abbrev bk1 : B8 := blockB 0 [1#8]
theorem nm_01 : nm bk0 ≠ nm bk1 := nm_ne (by decide +kernel)
theorem blk_ok (h : BitVec 64) (b : B8) (hb : b.length ≤ 1000) : unE (blockB h b) = 0 ∧ unH (blockB h b) = h ∧ (blockB h b).length ≤ 20000 := by
  have hp : packE (blkL b) = 0 := by
    rw [packE_0]
    unfold blkL
    split
    · simp
    · rename_i hn
      refine ⟨by simp, fun c hc => ?_, by simp⟩
      obtain rfl := List.mem_singleton.1 hc
      omega
  have h1 := un_pack (h := h) hp
  have h2 : blockB h b = packB h (blkL b) := by unfold blockB packO; rw [if_pos hp]
  rw [h2]
  refine ⟨h1.1, h1.2.1, ?_⟩
  have := packO_len h (blkL b)
  rw [show packO h (blkL b) = packB h (blkL b) by unfold packO; rw [if_pos hp]] at this
  exact this
abbrev S4 : List W64 := [1#64, 1#64, 1#64, 1#64]
def X1 : AH := addAH AH0 0 bk0
def X2 : AH := addAH X1 1 bk0
def A1 : AC := putAC (fun _ => none) 0 X1
def A2 : AC := putAC A1 0 X2
theorem sum4 : sumS S4 = 4 := by decide
theorem abM_nil : abM (MM.nil : MM (BitVec 64) HC) = fun _ => none := rfl
theorem aw1 {M1 : MM (BitVec 64) HC} {e : Int} (h : HearP S4 MM.nil 0 0 bk0 M1 e) : e = 0 ∧ abM M1 = A1 ∧ M1.es.length = 1 := by
  have hk := blk_ok 0 [] (by decide)
  have hE : hearE S4 (abM MM.nil) (MM.nil : MM (BitVec 64) HC).es.length 0 0 bk0 = 0 := by
    rw [hearE, if_neg (fun x => x ⟨hk.1, hk.2.1⟩), if_neg (by rintro ⟨_, x⟩; simp [MM.nil] at x)]
    simp [voteE, acAt, abM_nil, AH0, stk]
  refine ⟨h.e.trans hE, ?_, ?_⟩
  · rw [h.ab, hearA, hE, if_pos rfl]; rfl
  · rw [h.n, hearN, hE, if_pos ⟨rfl, by simp [abM_nil]⟩]; rfl
theorem aw2 {M1 M2 : MM (BitVec 64) HC} {e : Int} (hM : abM M1 = A1) (hn : M1.es.length = 1) (h : HearP S4 M1 0 1 bk0 M2 e) : e = 0 ∧ abM M2 = A2 ∧ M2.es.length = 1 := by
  have hk := blk_ok 0 [] (by decide)
  have hA : A1 0 = some X1 := rfl
  have hE : hearE S4 (abM M1) M1.es.length 0 1 bk0 = 0 := by
    rw [hearE, if_neg (fun x => x ⟨hk.1, hk.2.1⟩), if_neg (by rintro ⟨x, _⟩; rw [hM, hA] at x; simp at x), hM, show acAt A1 0 = X1 from rfl]
    simp [voteE, X1, addAH, AH0, stk]
  refine ⟨h.e.trans hE, ?_, ?_⟩
  · rw [h.ab, hearA, hE, if_pos rfl, hM]; rfl
  · rw [h.n, hearN, hE, if_neg (by rintro ⟨_, x⟩; rw [hM, hA] at x; simp at x)]; exact hn
theorem aw3 {M2 M3 : MM (BitVec 64) HC} {e : Int} (hM : abM M2 = A2) (hn : M2.es.length = 1) (h : HearP S4 M2 0 0 bk1 M3 e) : e = 52 ∧ abM M3 = A2 ∧ M3.es.length = 1 := by
  have hk := blk_ok 0 [1#8] (by decide)
  have hA : A2 0 = some X2 := rfl
  have hE : hearE S4 (abM M2) M2.es.length 0 0 bk1 = 52 := by
    rw [hearE, if_neg (fun x => x ⟨hk.1, hk.2.1⟩), if_neg (by rintro ⟨x, _⟩; rw [hM, hA] at x; simp at x), hM, show acAt A2 0 = X2 from rfl]
    simp [voteE, X2, X1, addAH, AH0, stk, nm_01]
  refine ⟨h.e.trans hE, ?_, ?_⟩
  · rw [h.ab, hearA, hE, if_neg (by decide), hM]
  · rw [h.n, hearN, hE, if_neg (by rintro ⟨x, _⟩; exact absurd x (by decide))]; exact hn
theorem third1 (d : D32) : ¬ third S4 X1 d := by
  unfold third
  rw [sum4]
  have : forA S4 X1.g d ≤ 1 := by
    unfold forA byN
    simp [List.range_succ, X1, addAH, AH0]
    split <;> omega
  omega
theorem third2 (d : D32) : third S4 X2 d ↔ d = nm bk0 := by
  unfold third
  rw [sum4]
  unfold forA byN
  simp only [List.length_cons, List.length_nil, List.range_succ, List.range_zero, List.nil_append, List.cons_append, List.map_cons, List.map_nil, X2, X1, addAH, AH0]
  by_cases h : d = nm bk0
  · subst h; simp
  · have h2 : ¬ nm bk0 = d := fun e => h e.symm
    simp [h, h2]
theorem bel1 {o : Option B8} (h : BelR S4 (A1 0) o) : o = none := by
  cases o with
  | none => rfl
  | some b =>
    obtain ⟨x, d, hx, ht, _⟩ := h
    obtain rfl := Option.some.inj hx
    exact absurd ht (third1 d)
theorem bel2 {o : Option B8} (h : BelR S4 (A2 0) o) : o = some bk0 := by
  refine BelR.uniq h ⟨X2, nm bk0, rfl, (third2 _).2 rfl, fun d hd => ?_, ?_⟩
  · rw [(third2 d).1 hd, lexB_self]; decide
  · simp [X2, X1, addAH, AH0]
theorem run2 {l : List B8} (h : RunR S4 A2 0 l) : l = [bk0] := by
  refine RunR.uniq h ⟨fun i b hb => ?_, ?_⟩
  · cases i with
    | zero =>
      obtain rfl : bk0 = b := Option.some.inj hb
      refine ⟨X2, nm bk0, rfl, (third2 _).2 rfl, fun d hd => ?_, by simp [X2, X1, addAH, AH0]⟩
      rw [(third2 d).1 hd, lexB_self]; decide
    | succ i => simp at hb
  · intro x hx
    have : A2 (0 + BitVec.ofNat 64 [bk0].length) = none := by simp [A2, A1, putAC]
    rw [this] at hx; cases hx
theorem get_none_nil {α β : Type} [DecidableEq α] {m : MM α β} (h : ∀ k, m.get k = none) : m.es = [] := by
  cases hm : m.es with
  | nil => rfl
  | cons e l =>
    have := h e.1
    unfold MM.get at this
    rw [hm] at this
    simp [MM.findL] at this
theorem cut2 {M : MM (BitVec 64) HC} (hM : M.Ok) (ha : abM M = A2) : (cutM M 1).es = [] := by
  apply get_none_nil
  intro k
  rw [cut_get hM]
  split
  · rfl
  · rename_i hk
    have h1 : ¬ k = 0#64 := fun e => hk (by rw [e]; decide)
    have h2 : abM M k = none := by rw [ha]; simp [A2, A1, putAC, h1]
    unfold abM at h2
    cases hg : M.get k with
    | none => rfl
    | some x => rw [hg] at h2; cases h2
end Go.Proofs.YthfipbjmpeegbaaGreatDoor

/- Walk: the example. -/
namespace Go.Proofs.YthfipbjmpeegbaaGreatDoor
open Go.RowKit
set_option maxRecDepth 100000
set_option linter.unusedVariables false
set_option linter.unusedSimpArgs false
theorem f7_spec  :
    Spec Tryz.prog 7 #[] [Res.var 3 (sqr.map u32), Res.var 2 (cub.map u32), Res.var 0 [u64 9223372036854775808, u64 0, u64 0, u64 0]] []
      (fun r Γ' H' => r = (.bool true) ∧ Γ' = [] ∧ H' = []) := by
  refine Spec.of_args Tryz.func7 rfl Tryz.ntmps7 (by simp) fun w => ?_
  refine .seq (.region ?_)
  refine .w (.assign rfl) ?_
  refine .nil (.tn (.seq (.region ?_)))
  refine .l1 Tryz.underlying22 info_30 (fun v15 => ?_)
  refine .cb (f8ok_spec v15 S4 (by decide) (by decide) (by decide)) body_8 ?_ (h0 := by rintro _ _ _ ⟨_, _, _, _, h, _⟩; exact h)
  rintro _ _ ⟨c, am, sv, rfl, _, rfl⟩
  refine .ap ?_
  refine .sp0 ?_
  refine .w (.move rfl) ?_
  refine .w (.extract rfl rfl) ?_
  refine .w (.extract rfl rfl) ?_
  refine .w (.assign rfl) ?_
  refine .w (.assign rfl) ?_
  refine .nil (.tn (.seq (.seq (.region ?_))))
  refine .w (.move rfl) ?_
  refine .w (.bin rfl rfl (BinR.eql_p Tryz.underlying25)) ?_
  refine .w (.move rfl) ?_
  refine .gt (g := 21) rfl rfl rfl ?_
  refine .w (.move rfl) ?_
  refine .gt (g := 21) rfl rfl rfl ?_
  refine .w (.asF (.bin rfl rfl BinR.neq_i)) ?_
  refine .w (.pick0 rfl rfl rfl) ?_
  refine .nil (.tn ?_)
  refine .cf rfl ?_
  refine .skip (.tn (.seq (.region ?_)))
  refine JO.nilRd 1 ?_
  refine .cb (f9_spec 0 (.slice none 0 0) [] rfl) body_9 ?_ (h0 := by rintro _ _ _ ⟨_, h, _⟩; exact h)
  rintro v25 _ ⟨_, _, rfl⟩
  refine .ap ?_
  refine JO.know (φ := ∃ A n c, v25 = .slice A n c) (fun w hs => (by obtain ⟨A, c, rfl, _⟩ := row_rd (by decide) (Res.row_ok.1 (hs.hok _ (.head _))); exact ⟨_, _, _, rfl⟩)) fun ⟨A9, n9, c9, h_v25⟩ => ?_
  subst h_v25
  refine .w (.assign rfl) ?_
  refine .nil (.tn (.seq (.region ?_)))
  refine .w (.move rfl) ?_
  refine .w (.move rfl) ?_
  refine .w (.build (cs := [u64 0, it 0, .slice A9 n9 c9]) bld_33 rfl (by kernel_rfl)) ?_
  refine .cb (f10_spec c am sv S4 MM.nil (cok_nil _) (by decide) (by decide) (by decide) 0 0 (.slice A9 n9 c9) bk0 (Nat.le_trans (blk_ok 0 [] (by decide)).2.2 (by decide))) body_10 ?_ (h0 := by rintro _ _ _ ⟨_, _, _, _, h, _⟩; exact h)
  rintro _ _ ⟨M1, e1, hh1, rfl, _, rfl⟩
  refine .ap ?_
  obtain ⟨rfl, ha1, hn1⟩ := aw1 hh1
  refine .w (.assign rfl) ?_
  refine .nil (.tn (.seq (.region ?_)))
  refine .w (.move rfl) ?_
  refine .cb (f12_spec c am sv S4 M1 hh1.ok (by decide) (by decide) 0) body_12 ?_ (h0 := by rintro _ _ _ ⟨_, _, _, _, h, _⟩; exact h)
  rintro _ _ ⟨o1, rfl, hb1, _, _, rfl⟩
  refine .ap ?_
  rw [ha1] at hb1
  obtain rfl : o1 = none := by have := bel1 hb1; cases o1 <;> simp_all
  refine .w (.move rfl) ?_
  refine .w (.extract rfl rfl) ?_
  refine .w (.extract rfl rfl) ?_
  refine .w (.as (v' := .slice none 0 0) (.assign rfl) rfl) ?_
  refine .w (.as (v' := .bool false) (.assign rfl) rfl) ?_
  refine .nil (.tn (.seq (.region ?_)))
  refine .w (.move rfl) ?_
  refine .w (.move rfl) ?_
  refine .w (.build (cs := [u64 0, it 1, .slice A9 n9 c9]) bld_33 rfl (by kernel_rfl)) ?_
  refine .cb (f10_spec c am sv S4 M1 hh1.ok (by decide) (by decide) (by decide) 0 1 (.slice A9 n9 c9) bk0 (Nat.le_trans (blk_ok 0 [] (by decide)).2.2 (by decide))) body_10 ?_ (h0 := by rintro _ _ _ ⟨_, _, _, _, h, _⟩; exact h)
  rintro _ _ ⟨M2, e2, hh2, rfl, _, rfl⟩
  refine .ap ?_
  obtain ⟨rfl, ha2, hn2⟩ := aw2 ha1 hn1 hh2
  refine .w (.assign rfl) ?_
  refine .nil (.tn (.seq (.region ?_)))
  refine .w (.move rfl) ?_
  refine .cb (f12_spec c am sv S4 M2 hh2.ok (by decide) (by decide) 0) body_12 ?_ (h0 := by rintro _ _ _ ⟨_, _, _, _, h, _⟩; exact h)
  rintro _ _ ⟨o2, rfl, hb2, _, _, rfl⟩
  refine .ap ?_
  rw [ha2] at hb2
  obtain ⟨vb, rfl⟩ : ∃ vb, o2 = some (vb, bk0) := by have := bel2 hb2; cases o2 with | none => cases this | some x => exact ⟨x.1, by rw [show x = (x.1, x.2) from rfl, show x.2 = bk0 from Option.some.inj this]⟩
  refine .us (A := [Res.row vb bk0.length 5 1 (bk0.map u8)]) (B := []) (L := oR (some (vb, bk0))) (List.Perm.refl _) ?_
  refine .w (.move rfl) ?_
  refine .w (.extract rfl rfl) ?_
  refine .w (.extract rfl rfl) ?_
  refine .w (.as (v' := vb) (.assign rfl) rfl) ?_
  refine .w (.as (v' := .bool true) (.assign rfl) rfl) ?_
  refine .nil (.tn (.seq (.region ?_)))
  refine .w (.move rfl) ?_
  refine .l1 Tryz.underlying23 info_5 (fun v45 => ?_)
  refine JO.know (φ := v45.oneCell' = true) (fun w hs => (by obtain ⟨A, c, rfl, _⟩ := row_rd (by decide) (Res.row_ok.1 (hs.hok _ (.head _))); rfl)) fun hv45 => ?_
  refine .cb (f9_spec 0 v45 [1#8] hv45) body_9 ?_ (h0 := by rintro _ _ _ ⟨_, h, _⟩; exact h)
  rintro v46 _ ⟨_, _, rfl⟩
  refine .ap ?_
  refine JO.know (φ := ∃ A n c, v46 = .slice A n c) (fun w hs => (by obtain ⟨A, c, rfl, _⟩ := row_rd (by decide) (Res.row_ok.1 (hs.hok _ (.head _))); exact ⟨_, _, _, rfl⟩)) fun ⟨A8, n8, c8, h_v46⟩ => ?_
  subst h_v46
  refine .w (.build (cs := [u64 0, it 0, .slice A8 n8 c8]) bld_33 rfl (by kernel_rfl)) ?_
  refine .cb (f10_spec c am sv S4 M2 hh2.ok (by decide) (by decide) (by decide) 0 0 (.slice A8 n8 c8) bk1 (Nat.le_trans (blk_ok 0 [1#8] (by decide)).2.2 (by decide))) body_10 ?_ (h0 := by rintro _ _ _ ⟨_, _, _, _, h, _⟩; exact h)
  rintro _ _ ⟨M3, e3, hh3, rfl, _, rfl⟩
  refine .ap ?_
  obtain ⟨rfl, ha3, hn3⟩ := aw3 ha2 hn2 hh3
  refine .w (.assign rfl) ?_
  refine .nil (.tn (.seq (.region ?_)))
  refine .w (.move rfl) ?_
  refine .cb (f11_spec c am sv S4 M3 hh3.ok (by decide) (by decide) 0) body_11 ?_ (h0 := by rintro _ _ _ ⟨_, _, _, _, h, _⟩; exact h)
  rintro v50 _ ⟨Z, hrun, _, _, _, rfl⟩
  refine .ap ?_
  rw [ha3] at hrun
  have hZ := run2 hrun
  refine .w (.assign rfl) ?_
  refine .nil (.tn (.seq (.region ?_)))
  refine .w (.move rfl) ?_
  refine .cb (f16_spec c am sv S4 M3 hh3.ok 1) body_16 ?_
  rintro _ _ ⟨rfl, _, rfl⟩
  refine .ap ?_
  have hcut := cut2 hh3.ok.ok ha3
  refine .w (.as (v' := it 1) (.assign rfl) (congrArg it (by rw [hn3, hcut]; rfl))) ?_
  refine .nil (.tn (.seq (.region ?_)))
  refine .w (.move rfl) ?_
  refine .cb (f15_spec c am sv S4 (cutM M3 1) (cok_cut hh3.ok)) body_15 ?_ (h0 := by rintro _ _ _ ⟨_, _, h, _⟩; exact h)
  rintro v54 _ ⟨es, hes, _, rfl⟩
  refine .ap ?_
  rw [hcut] at hes
  obtain rfl : es = [] := by simpa using hes
  refine .w (.assign rfl) ?_
  refine .nil (.tn (.seq (.region ?_)))
  refine .w (.move rfl) ?_
  refine .w (.asT (.bin rfl rfl BinR.eql_i)) ?_
  refine .w (.move rfl) ?_
  refine .gt (g := 57) rfl rfl rfl ?_
  refine .w (.move rfl) ?_
  refine .gt (g := 57) rfl rfl rfl ?_
  refine .w (.as (v' := .bool true) (.not rfl) rfl) ?_
  refine .w (.pick1 rfl rfl rfl) ?_
  refine .w (.move rfl) ?_
  refine .gt (g := 61) rfl rfl rfl ?_
  refine .w (.move rfl) ?_
  refine .gt (g := 61) rfl rfl rfl ?_
  refine .w (.asT (.bin rfl rfl BinR.eql_i)) ?_
  refine .w (.pick1 rfl rfl rfl) ?_
  refine .w (.move rfl) ?_
  refine .gt (g := 65) rfl rfl rfl ?_
  refine .w (.move rfl) ?_
  refine .w (.pick1 rfl rfl rfl) ?_
  refine .w (.move rfl) ?_
  refine .gt (g := 68) rfl rfl rfl ?_
  refine .w (.move rfl) ?_
  refine .gt (g := 68) rfl rfl rfl ?_
  refine .w (.move rfl) ?_
  refine .gt (g := 68) rfl rfl rfl ?_
  refine .c (f14_spec _ _ bk0 bk0) body_14 ?_
  rw [show decide (bk0 = bk0) = true from decide_eq_true rfl]
  refine .w (.pick1 rfl rfl rfl) ?_
  refine .w (.move rfl) ?_
  refine .gt (g := 73) rfl rfl rfl ?_
  refine .w (.move rfl) ?_
  refine .gt (g := 73) rfl rfl rfl ?_
  refine .w (.asT (.bin rfl rfl BinR.eql_i)) ?_
  refine .w (.pick1 rfl rfl rfl) ?_
  refine .w (.move rfl) ?_
  refine .gt (g := 77) rfl rfl rfl ?_
  refine .w (.move rfl) ?_
  refine .gt (g := 77) rfl rfl rfl ?_
  refine .w (.move rfl) ?_
  refine .gt (g := 77) rfl rfl rfl ?_
  refine .l1 Tryz.underlying35 info_23 (fun v80 => ?_)
  refine .gt (g := 77) rfl rfl rfl ?_
  refine JO.frzP (by repeat (first | exact Pull.here _ _ | apply Pull.there)) ?_
  refine JO.freeze (v := (.slice A9 n9 c9)) (by repeat (first | exact Pull.here _ _ | apply Pull.there)) (by decide) ?_
  refine JO.bundle (pcRes [((.slice A9 n9 c9), bk0)]) (Subs.sub (by repeat (first | exact Subs.nil _ | apply Subs.cons | exact List.Mem.head _ | refine List.Mem.tail _ ?_))) ?_
  refine .c (f13_spec v50 v80 Z [((.slice A9 n9 c9), bk0)]) body_13 ?_
  rw [show decide (bytesP Z = bytesP [(Value.slice A9 n9 c9, bk0)]) = true from decide_eq_true hZ]
  refine .w (.pick1 rfl rfl rfl) ?_
  refine .w (.move rfl) ?_
  refine .gt (g := 83) rfl rfl rfl ?_
  refine .w (.move rfl) ?_
  refine .gt (g := 83) rfl rfl rfl ?_
  refine .w (.asT (.bin rfl rfl BinR.eql_i)) ?_
  refine .w (.pick1 rfl rfl rfl) ?_
  refine .w (.move rfl) ?_
  refine .gt (g := 87) rfl rfl rfl ?_
  refine .w (.move rfl) ?_
  refine .gt (g := 87) rfl rfl rfl ?_
  refine .w (.as (v' := it 0) (.len Tryz.underlying22 rfl) rfl) ?_
  refine .gt (g := 87) rfl rfl rfl ?_
  refine .w (.asT (.bin rfl rfl BinR.eql_i)) ?_
  refine .w (.pick1 rfl rfl rfl) ?_
  refine .w (.assign rfl) ?_
  refine .nil (.tn (.ret ?_))
  exact .dn [] [] (res1 rfl (.tmp rfl)) ⟨rfl, rfl, rfl⟩
end Go.Proofs.YthfipbjmpeegbaaGreatDoor

/- Votes: what a list of votes holds; how a tally grows. No program in sight. -/
namespace Go.Proofs.YthfipbjmpeegbaaGreatDoor
open Go.RowKit
set_option linter.unusedVariables false
set_option linter.unusedSimpArgs false
abbrev VtE := Int × D32
abbrev vtC (e : VtE) : List Value := it e.1 :: dgC e.2
instance : FS vtC 33 := ⟨fun e => by simp [e.2.2], fun e v hv => by
  rcases List.mem_cons.1 hv with rfl | hv
  · rfl
  · exact FS.one (f := dgC) e.2 v hv⟩
@[simp] theorem vts_len (l : List VtE) : (bks vtC l).length = l.length * 33 := bks_len l
/-! ### How a tally grows -/
def Grow (g g' : Int → Option D32) : Prop := ∀ k u, g k = some u → g' k = some u
theorem Grow.refl (g : Int → Option D32) : Grow g g := fun _ _ h => h
theorem Grow.trans {a b c : Int → Option D32} (h : Grow a b) (k : Grow b c) : Grow a c := fun x u hx => k x u (h x u hx)
theorem Grow.forA {S : List W64} {g g' : Int → Option D32} (h : Grow g g') (v : D32) : forA S g v ≤ forA S g' v :=
  byN_mono fun i _ hp => decide_eq_true (h _ _ (of_decide_eq_true hp))
theorem Grow.quo {S : List W64} {g g' : Int → Option D32} (h : Grow g g') {q : D32} (hq : Quo S g q) : Quo S g' q := by
  have := h.forA (S := S) q
  unfold Quo at *
  omega
theorem newE_ok {S : List W64} (h : newE S = 0) : 1 ≤ S.length ∧ S.length ≤ 40 ∧ sumS S < 9223372036854775808 := by
  unfold newE at h
  split at h
  · cases h
  · split at h
    · cases h
    · rename_i h1 h2
      refine ⟨by omega, by omega, ?_⟩
      have hl : S.length ≤ 40 := by omega
      have hb : ∀ l : List W64, sumS l ≤ l.length * 18446744073709551616 := fun l => by
        induction l with
        | nil => exact Nat.le_refl _
        | cons a l ih =>
          have := a.isLt
          have e : sumS (a :: l) = a.toNat + sumS l := rfl
          rw [e, List.length_cons, Nat.succ_mul]
          omega
      have := hb S
      have : S.length * 18446744073709551616 ≤ 40 * 18446744073709551616 := Nat.mul_le_mul_right _ hl
      rw [totN_sum (by omega)] at h2
      omega
/-! ### Who voted twice -/
structure TW (S : List W64) (tw : MM Int Bool) (n : Nat) : Prop where
  ok : tw.Ok
  rng : ∀ e ∈ tw.es, 0 ≤ e.1 ∧ e.1 < S.length
  len : tw.es.length ≤ n
theorem setL_len {α β : Type} [DecidableEq α] (k : α) (v : β) (c : Nat) : ∀ es : List (α × β × Nat), (MM.setL es k v c).length ≤ es.length + 1
  | [] => Nat.le_refl _
  | e :: es => by
    have := setL_len k v c es
    unfold MM.setL
    split
    · simp
    · simp only [List.length_cons]; omega
theorem TW.nil (S : List W64) : TW S MM.nil 0 := ⟨MM.ok_nil, by simp [MM.nil], Nat.le_refl _⟩
theorem TW.put {S : List W64} {tw : MM Int Bool} {n : Nat} (h : TW S tw n) {k : Int} (h0 : 0 ≤ k) (h1 : k < S.length) : TW S (tw.put k true) (n + 1) := by
  refine ⟨MM.ok_put h.ok k true, fun e he => ?_, Nat.le_trans (setL_len _ _ _ _) (by have := h.len; omega)⟩
  have hk := MM.ok_put h.ok k true
  have : (tw.put k true).get e.1 = some e.2.1 := (MM.get_iff hk).2 ⟨e.2.2, he⟩
  rw [MM.get_put] at this
  split at this
  · rename_i e1; rw [e1]; exact ⟨h0, h1⟩
  · obtain ⟨c, hc⟩ := (MM.get_iff h.ok).1 this
    have h2 := h.rng _ hc
    exact h2
theorem voteE_52 {S : List W64} {g : Int → Option D32} {who : Int} {v : D32} (h : voteE S g who v = 52) : 0 ≤ who ∧ who < S.length := by
  unfold voteE at h
  split at h
  · cases h
  · omega
theorem TW.vote {S : List W64} {g : Int → Option D32} {tw tw' : MM Int Bool} {n : Nat} {who : Int} {v : D32} (h : TW S tw n) (e : tw' = if voteE S g who v = 52 then tw.put who true else tw) : TW S tw' (n + 1) := by
  subst e
  split
  · rename_i h52
    exact h.put (voteE_52 h52).1 (voteE_52 h52).2
  · exact ⟨h.ok, h.rng, Nat.le_succ_of_le h.len⟩
theorem TW.wf {S : List W64} {tw : MM Int Bool} {n : Nat} (h : TW S tw n) (hS : S.length ≤ 1000000) : ∀ e ∈ tw.es, (Lit.int .i64 e.1).wf = true := fun e he => by
  have := h.rng e he
  have a1 : IntKind.min .i64 = -9223372036854775808 := by decide
  have a2 : IntKind.max .i64 = 9223372036854775807 := by decide
  simp only [Lit.wf, a1, a2, Bool.and_eq_true, decide_eq_true_eq]
  omega
/-! ### Two quorums -/
/-! ### Whatever the order -/
/-! ### The chapter's examples -/
end Go.Proofs.YthfipbjmpeegbaaGreatDoor

/- In which order claims come does not matter: the plain side. No program in sight. -/
namespace Go.Proofs.YthfipbjmpeegbaaGreatDoor
open Go.RowKit
set_option linter.unusedVariables false
set_option linter.unusedSimpArgs false
def obB : Option (Value × B8) → B8
  | none => []
  | some x => x.2
abbrev CLT := BitVec 64 × Int × B8
def valid (S : List W64) (i : Int) : Prop := 0 ≤ i ∧ i < S.length ∧ stk S i ≠ 0
/-- What a state is, of the claims that were heard. -/
structure QC (S : List W64) (l : List CLT) (a : AC) : Prop where
  no : ∀ h, a h = none → ∀ i b, (h, i, b) ∈ l → ¬ valid S i
  sm : ∀ h x, a h = some x → (∃ i b, (h, i, b) ∈ l ∧ valid S i) ∧ (∀ i v, x.g i = some v ↔ ∃ b, (h, i, b) ∈ l ∧ valid S i ∧ nm b = v) ∧ ∀ d b, x.bl d = some b ↔ ∃ i, (h, i, b) ∈ l ∧ valid S i ∧ nm b = d
theorem opt_ext {α : Type} {x y : Option α} (h : ∀ v, x = some v ↔ y = some v) : x = y := by
  cases x with
  | none => cases y with
    | none => rfl
    | some v => exact absurd ((h v).2 rfl) (by simp)
  | some v => exact ((h v).1 rfl).symm
theorem QC.uniq {S : List W64} {l l' : List CLT} {a a' : AC} (h : QC S l a) (h' : QC S l' a') (hl : ∀ c, c ∈ l ↔ c ∈ l') : a = a' := by
  funext k
  cases ha : a k with
  | none =>
    cases ha' : a' k with
    | none => rfl
    | some x =>
      obtain ⟨⟨i, b, h1, h2⟩, _⟩ := h'.sm k x ha'
      exact absurd h2 (h.no k ha i b ((hl _).2 h1))
  | some x =>
    cases ha' : a' k with
    | none =>
      obtain ⟨⟨i, b, h1, h2⟩, _⟩ := h.sm k x ha
      exact absurd h2 (h'.no k ha' i b ((hl _).1 h1))
    | some x' =>
      obtain ⟨_, h1, h2⟩ := h.sm k x ha
      obtain ⟨_, h3, h4⟩ := h'.sm k x' ha'
      congr 1
      obtain ⟨g, bl⟩ := x
      obtain ⟨g', bl'⟩ := x'
      have e1 : g = g' := by
        funext i
        refine opt_ext fun v => ?_
        rw [show g i = some v ↔ _ from h1 i v, show g' i = some v ↔ _ from h3 i v]
        simp only [hl]
      have e2 : bl = bl' := by
        funext d
        refine opt_ext fun v => ?_
        rw [show bl d = some v ↔ _ from h2 d v, show bl' d = some v ↔ _ from h4 d v]
        simp only [hl]
      rw [e1, e2]
theorem QC.nil (S : List W64) : QC S [] (fun _ => none) := ⟨fun _ _ _ _ h => (by cases h), fun _ _ h => (by cases h)⟩
theorem vote_0 {S : List W64} {g : Int → Option D32} {i : Int} {v : D32} (h : g i = none) : voteE S g i v = 0 ↔ valid S i := by
  unfold voteE valid
  rw [h]
  simp only [reduceCtorEq, if_false, Option.isSome_none, Bool.false_eq_true]
  constructor
  · intro hv
    split at hv
    · cases hv
    · split at hv
      · cases hv
      · exact ⟨by omega, by omega, by assumption⟩
  · rintro ⟨h1, h2, h3⟩
    rw [if_neg (by omega), if_neg h3]
theorem QC.step {S : List W64} {l : List CLT} {a : AC} (h : QC S l a) {n : Nat} {k : BitVec 64} {i : Int} {b : B8} (hu : unE b = 0 ∧ unH b = k) (hd : ∀ b', (k, i, b') ∉ l) (hn : ∀ j b', (k, j, b') ∈ l → nm b' = nm b → b' = b) (hf : n < 20) :
    QC S (l ++ [(k, i, b)]) (hearA S a n k i b) := by
  have hE : hearE S a n k i b = voteE S (acAt a k).g i (nm b) := by rw [hearE, if_neg (fun x => x hu), if_neg (fun x => absurd x.2 (by omega))]
  have hg : (acAt a k).g i = none := by
    unfold acAt
    cases ha : a k with
    | none => rfl
    | some x =>
      cases hx : x.g i with
      | none => exact hx
      | some v =>
        obtain ⟨b', hb', _⟩ := ((h.sm k x ha).2.1 i v).1 hx
        exact absurd hb' (hd b')
  by_cases hv : valid S i
  · have h0 : hearE S a n k i b = 0 := hE.trans ((vote_0 hg).2 hv)
    rw [hearA, if_pos h0]
    have hmem : ∀ (q : BitVec 64) (j : Int) (c : B8), (q, j, c) ∈ l ++ [(k, i, b)] ↔ (q, j, c) ∈ l ∨ (q = k ∧ j = i ∧ c = b) := fun q j c => by simp
    refine ⟨fun q hq j c hc => ?_, fun q x hx => ?_⟩
    · unfold putAC at hq
      split at hq
      · cases hq
      · rename_i hne
        rcases (hmem q j c).1 hc with hc | hc
        · exact h.no q hq j c hc
        · exact absurd hc.1 hne
    · unfold putAC at hx
      split at hx
      · rename_i e
        subst e
        obtain rfl := Option.some.inj hx
        refine ⟨⟨i, b, (hmem _ _ _).2 (.inr ⟨rfl, rfl, rfl⟩), hv⟩, fun j v => ?_, fun d c => ?_⟩
        · simp only [addAH]
          by_cases hj : j = i
          · subst hj
            simp only [if_true, Option.some.injEq]
            constructor
            · rintro rfl; exact ⟨b, (hmem _ _ _).2 (.inr ⟨rfl, rfl, rfl⟩), hv, rfl⟩
            · rintro ⟨c, h0, _, h2⟩
              rcases (hmem _ _ _).1 h0 with h1 | ⟨_, _, rfl⟩
              · exact absurd h1 (hd c)
              · exact h2
          · rw [if_neg hj]
            constructor
            · intro hgj
              unfold acAt at hgj
              cases ha : a q with
              | none => rw [ha] at hgj; cases hgj
              | some x =>
                rw [ha] at hgj
                obtain ⟨c, h1, h2, h3⟩ := ((h.sm q x ha).2.1 j v).1 hgj
                exact ⟨c, (hmem _ _ _).2 (.inl h1), h2, h3⟩
            · rintro ⟨c, h0, h2, h3⟩
              rcases (hmem _ _ _).1 h0 with h1 | ⟨_, h4, _⟩
              · unfold acAt
                cases ha : a q with
                | none => exact absurd h2 (h.no q ha j c h1)
                | some x => exact ((h.sm q x ha).2.1 j v).2 ⟨c, h1, h2, h3⟩
              · exact absurd h4 hj
        · simp only [addAH]
          have old : (acAt a q).bl d = some c ↔ ∃ j, (q, j, c) ∈ l ∧ valid S j ∧ nm c = d := by
            unfold acAt
            cases ha : a q with
            | none =>
              constructor
              · intro h1; cases h1
              · rintro ⟨j, h1, h2, _⟩; exact absurd h2 (h.no q ha j c h1)
            | some x => exact (h.sm q x ha).2.2 d c
          by_cases hdn : d = nm b
          · subst hdn
            rw [if_pos rfl]
            have hcb : (((acAt a q).bl (nm b)).getD b) = b := by
              cases hc : (acAt a q).bl (nm b) with
              | none => rfl
              | some c' =>
                have : ∃ j, (q, j, c') ∈ l ∧ valid S j ∧ nm c' = nm b := by
                  unfold acAt at hc
                  cases ha : a q with
                  | none => rw [ha] at hc; cases hc
                  | some x => rw [ha] at hc; exact ((h.sm q x ha).2.2 _ _).1 hc
                obtain ⟨j, h1, _, h3⟩ := this
                exact hn j c' h1 h3
            rw [hcb]
            constructor
            · intro e
              obtain rfl := Option.some.inj e
              exact ⟨i, (hmem _ _ _).2 (.inr ⟨rfl, rfl, rfl⟩), hv, rfl⟩
            · rintro ⟨j, h0, _, h3⟩
              rcases (hmem _ _ _).1 h0 with h1 | ⟨_, _, rfl⟩
              · rw [hn j c h1 h3]
              · rfl
          · rw [if_neg hdn, old]
            constructor
            · rintro ⟨j, h1, h2, h3⟩; exact ⟨j, (hmem _ _ _).2 (.inl h1), h2, h3⟩
            · rintro ⟨j, h0, h2, h3⟩
              rcases (hmem _ _ _).1 h0 with h1 | ⟨_, _, rfl⟩
              · exact ⟨j, h1, h2, h3⟩
              · exact absurd h3.symm hdn
      · rename_i hne
        obtain ⟨h1, h2, h3⟩ := h.sm q x hx
        have e : ∀ j c, (q, j, c) ∈ l ++ [(k, i, b)] ↔ (q, j, c) ∈ l := fun j c => by
          rw [hmem]
          constructor
          · rintro (h | ⟨h, _⟩)
            · exact h
            · exact absurd h hne
          · exact .inl
        refine ⟨?_, fun j v => ?_, fun d c => ?_⟩
        · obtain ⟨j, c, h4, h5⟩ := h1; exact ⟨j, c, (e j c).2 h4, h5⟩
        · rw [h2 j v]; simp only [e]
        · rw [h3 d c]; simp only [e]
  · have h0 : hearE S a n k i b ≠ 0 := by rw [hE]; exact fun e => hv ((vote_0 hg).1 e)
    rw [hearA, if_neg h0]
    have e : ∀ q j c, valid S j → ((q, j, c) ∈ l ++ [(k, i, b)] ↔ (q, j, c) ∈ l) := fun q j c hj => by
      simp only [List.mem_append, List.mem_singleton, Prod.mk.injEq]
      constructor
      · rintro (h | ⟨_, h, _⟩)
        · exact h
        · exact absurd (h ▸ hj) hv
      · exact .inl
    refine ⟨fun q hq j c hc hj => h.no q hq j c ((e q j c hj).1 hc) hj, fun q x hx => ?_⟩
    obtain ⟨⟨j, c, h4, h5⟩, h2, h3⟩ := h.sm q x hx
    refine ⟨⟨j, c, (e q j c h5).2 h4, h5⟩, fun j v => ?_, fun d c => ?_⟩
    · rw [h2 j v]
      exact ⟨fun ⟨c, h1, h2, h3⟩ => ⟨c, (e q j c h2).2 h1, h2, h3⟩, fun ⟨c, h1, h2, h3⟩ => ⟨c, (e q j c h2).1 h1, h2, h3⟩⟩
    · rw [h3 d c]
      exact ⟨fun ⟨j, h1, h2, h3⟩ => ⟨j, (e q j c h2).2 h1, h2, h3⟩, fun ⟨j, h1, h2, h3⟩ => ⟨j, (e q j c h2).1 h1, h2, h3⟩⟩
theorem two_keys {S : List W64} {l : List CLT} {M : MM (BitVec 64) HC} (hM : M.Ok) (h : QC S l (abM M)) (hl : ∀ c ∈ l, c.1 = 0 ∨ c.1 = 1) : M.es.length < 20 := by
  have h2 := nd_le (L := [0#64, 1#64]) hM.nk fun k hk => by
    obtain ⟨v, hv⟩ := key_get hM hk
    obtain ⟨⟨i, b, h1, _⟩, _⟩ := h.sm k v.ab (by unfold abM; rw [hv]; rfl)
    have := hl _ h1
    simpa using this
  rw [List.length_map] at h2
  simp at h2
  omega
/-! ### The claims of this law -/
def tb (x : BitVec 8) : B8 := [x % 2#8 + 1#8]
def tl (h : BitVec 64) (b : B8) (k : Nat) : List CLT := (List.range k).map fun j => (h, ((j : Nat) : Int), blockB h (tb (b.getD j 0)))
def tAll (b1 b2 : B8) : List CLT := tl 0 b1 b1.length ++ tl 1 b2 b2.length
theorem tl_succ (h : BitVec 64) (b : B8) (k : Nat) : tl h b (k + 1) = tl h b k ++ [(h, (k : Int), blockB h (tb (b.getD k 0)))] := by rw [tl, List.range_succ, List.map_append]; rfl
theorem tl_len (h : BitVec 64) (b : B8) (k : Nat) : (tl h b k).length = k := by simp [tl]
theorem tb_two (x : BitVec 8) : tb x = [1#8] ∨ tb x = [2#8] := by
  unfold tb
  have : ∀ x : BitVec 8, x % 2#8 + 1#8 = 1#8 ∨ x % 2#8 + 1#8 = 2#8 := by decide
  rcases this x with h | h <;> rw [h] <;> simp
theorem nm_12 : nm (blockB 0 [1#8]) ≠ nm (blockB 0 [2#8]) := nm_ne (by decide +kernel)
theorem nm_34 : nm (blockB 1 [1#8]) ≠ nm (blockB 1 [2#8]) := nm_ne (by decide +kernel)
theorem tb_inj {h : BitVec 64} (hh : h = 0 ∨ h = 1) {x y : BitVec 8} (e : nm (blockB h (tb x)) = nm (blockB h (tb y))) : blockB h (tb x) = blockB h (tb y) := by
  rcases hh with rfl | rfl <;> rcases tb_two x with h1 | h1 <;> rcases tb_two y with h2 | h2 <;> rw [h1, h2] at e ⊢
  · exact absurd e nm_12
  · exact absurd e.symm nm_12
  · exact absurd e nm_34
  · exact absurd e.symm nm_34
theorem tAll_mem {b1 b2 : B8} {c : CLT} (h : c ∈ tAll b1 b2) : (c.1 = 0 ∨ c.1 = 1) ∧ ∃ x, c.2.2 = blockB c.1 (tb x) := by
  rcases List.mem_append.1 h with h | h <;> obtain ⟨j, _, rfl⟩ := List.mem_map.1 h
  · exact ⟨.inl rfl, _, rfl⟩
  · exact ⟨.inr rfl, _, rfl⟩
theorem tAll_nd (b1 b2 : B8) : ((tAll b1 b2).map fun c => (c.1, c.2.1)).Nodup := by
  unfold tAll
  rw [List.map_append, List.nodup_append]
  have one : ∀ (h : BitVec 64) (b : B8) (k : Nat), ((tl h b k).map fun c => (c.1, c.2.1)).Nodup := by
    intro h b k
    unfold tl
    rw [List.map_map, List.nodup_iff_pairwise_ne, List.pairwise_map]
    refine (List.nodup_iff_pairwise_ne.1 List.nodup_range).imp ?_
    intro x y hxy he
    have := congrArg Prod.snd he
    dsimp only [Function.comp] at this
    exact hxy (by omega)
  refine ⟨one _ _ _, one _ _ _, fun x hx y hy e => ?_⟩
  obtain ⟨c, hc, rfl⟩ := List.mem_map.1 hx
  obtain ⟨d, hd, rfl⟩ := List.mem_map.1 hy
  obtain ⟨_, _, rfl⟩ := List.mem_map.1 hc
  obtain ⟨_, _, rfl⟩ := List.mem_map.1 hd
  have : (0#64) = 1#64 := congrArg Prod.fst e
  exact absurd this (by decide)
/-- The next claim, in whatever order all come. -/
theorem turned_step {S : List W64} {b1 b2 : B8} {l : List CLT} (hl : l.Perm (tAll b1 b2)) {k : Nat} {c : CLT} (hc : l[k]? = some c) {M M' : MM (BitVec 64) HC} (hM : COk S M) (hq : QC S (l.take k) (abM M)) {e : Int} (hh : HearP S M c.1 c.2.1 c.2.2 M' e) : QC S (l.take (k + 1)) (abM M') := by
  have hk : k < l.length := (List.getElem?_eq_some_iff.1 hc).1
  have hck : l[k] = c := (List.getElem?_eq_some_iff.1 hc).2
  have hmem : c ∈ tAll b1 b2 := hl.mem_iff.1 (List.mem_of_getElem? hc)
  obtain ⟨h01, x, hx⟩ := tAll_mem hmem
  have hok := blk_ok c.1 (tb x) (by simp [tb])
  rw [← hx] at hok
  have hsub : ∀ d ∈ l.take k, d ∈ tAll b1 b2 := fun d hd => hl.mem_iff.1 (List.mem_of_mem_take hd)
  have hnd : (l.map fun c => (c.1, c.2.1)).Nodup := (hl.map _).nodup_iff.2 (tAll_nd b1 b2)
  rw [List.take_add_one, hc]
  show QC S (l.take k ++ [c]) _
  rw [hh.ab]
  refine QC.step (k := c.1) (i := c.2.1) (b := c.2.2) hq ⟨hok.1, hok.2.1⟩ (fun b' hb' => ?_) (fun j b' hb' he => ?_) (two_keys hM.ok hq fun d hd => (tAll_mem (hsub d hd)).1)
  · obtain ⟨i, hi, hie⟩ := List.getElem_of_mem hb'
    rw [List.length_take] at hi
    rw [List.getElem_take] at hie
    have := (List.pairwise_iff_getElem.1 (List.nodup_iff_pairwise_ne.1 hnd)) i k (by rw [List.length_map]; omega) (by rw [List.length_map]; omega) (by omega)
    simp only [List.getElem_map, hie, hck] at this
    exact this rfl
  · obtain ⟨_, y, hy⟩ := tAll_mem (hsub _ hb')
    dsimp only at hy
    rw [hy, hx] at he ⊢
    exact tb_inj h01 he
/-! ### What was believed, to be read -/
section
variable {P : Program} {N : Nat} {C : Beg} {Q : Exit → Act → World → Prop} {E : Env} {Γ H : RL} {ops : Array Oper}
theorem St.oRd {o : Option (Value × B8)} {G : RL} {w : World} (h : St C Γ H w) (hp : Pull (Res.sep (oR o)) H G) : St C (Res.rd (bv o) (obB o).length 1 ((obB o).map u8) :: Γ) G w := by
  have h1 := St.sep.1 (h.perm hp.perm)
  cases o with
  | none => exact h1.nilRd 1
  | some x => exact St.freezeRow (H := Res.row x.1 x.2.length 5 1 (x.2.map u8) :: G) h1 (.here _ _) (by decide)
theorem JO.oRd {o : Option (Value × B8)} {G : RL} {l : List Oper} (k : JO P N C ops l Q E (Res.rd (bv o) (obB o).length 1 ((obB o).map u8) :: Γ) G) (hp : Pull (Res.sep (oR o)) H G := by (repeat (first | exact Pull.here _ _ | apply Pull.there)); first | done | fail) : JO P N C ops l Q E Γ H := fun hn a w he hs => k hn a w he (hs.oRd hp)
end
theorem obB_eq {o o' : Option (Value × B8)} (h : o.map (·.2) = o'.map (·.2)) : obB o = obB o' ∧ o.isSome = o'.isSome := by
  cases o <;> cases o' <;> simp_all [obB]
theorem cl_at {Z : List CLM} {k : Nat} (h : k < Z.length) : (clOf Z)[k]? = some ((clAt Z k).h, (clAt Z k).w, (clAt Z k).b) ∧ pcAt (clP Z) k = ((clAt Z k).v, (clAt Z k).b) := by
  unfold clOf clP clAt pcAt
  simp only [List.getElem?_map, List.getD_eq_getElem?_getD, List.getElem?_eq_getElem h, Option.map_some, Option.getD_some, and_self]
theorem clP_len (Z : List CLM) : (clP Z).length = Z.length := by simp [clP]
theorem turned_len {b1 b2 : B8} {l : List CLT} (hl : l.Perm (tAll b1 b2)) {k : Nat} {c : CLT} (hc : l[k]? = some c) : c.2.2.length ≤ 100000 := by
  obtain ⟨_, x, hx⟩ := tAll_mem (hl.mem_iff.1 (List.mem_of_getElem? hc))
  have := blk_ok c.1 (tb x) (by simp [tb])
  rw [hx]; omega
end Go.Proofs.YthfipbjmpeegbaaGreatDoor

/- Walk of the law: in which order claims come. -/
namespace Go.Proofs.YthfipbjmpeegbaaGreatDoor
open Go.RowKit
set_option maxRecDepth 100000
set_option linter.unusedVariables false
set_option linter.unusedSimpArgs false
set_option maxHeartbeats 2000000 in
theorem f3A_spec (u v1 v2 : Value) (S : List W64) (b1 b2 : B8) (hg : newE S = 0) :
    Spec Tryz.prog 3 #[u, v1, v2] [Res.var 3 (sqr.map u32), Res.var 2 (cub.map u32), Res.var 0 [u64 9223372036854775808, u64 0, u64 0, u64 0], Res.rd u S.length 1 (S.map u64), Res.rd v1 b1.length 1 (b1.map u8), Res.rd v2 b2.length 1 (b2.map u8)] []
      (fun r Γ' H' => r = .bool true ∧ Γ' = [] ∧ H' = []) := by
  refine Spec.of_args Tryz.func3 rfl Tryz.ntmps3 (by simp) fun w => ?_
  refine JC.know (φ := S.length ≤ 9223372036854775807) (fun w hs => by obtain ⟨_, _, _, _, _, _, h⟩ := hs.rdForm (.tail _ (.tail _ (.tail _ (.head _)))); unfold maxLen at h; omega) fun _ => ?_
  refine JC.know (φ := b1.length ≤ 9223372036854775807) (fun w hs => by obtain ⟨_, _, _, _, _, _, h⟩ := hs.rdForm (.tail _ (.tail _ (.tail _ (.tail _ (.head _))))); unfold maxLen at h; omega) fun _ => ?_
  refine JC.know (φ := b2.length ≤ 9223372036854775807) (fun w hs => by obtain ⟨_, _, _, _, _, _, h⟩ := hs.rdForm (.tail _ (.tail _ (.tail _ (.tail _ (.tail _ (.head _)))))); unfold maxLen at h; omega) fun _ => ?_
  obtain ⟨h1, h2, h3⟩ := newE_ok hg
  refine .seq (.region ?_)
  refine .w (.assign rfl) ?_
  refine .nil (.tn (.seq (.region ?_)))
  refine .c (f7_spec) body_7 ?_
  refine .w (.assign rfl) ?_
  refine .nil (.tn (.seq (.region ?_)))
  refine .w (.move rfl) ?_
  refine .cb (f8ok_spec u S h1 h2 h3) body_8 ?_ (h0 := by rintro _ _ _ ⟨_, _, _, _, h, _⟩; exact h)
  rintro _ _ ⟨c, am, sv, rfl, _, rfl⟩
  refine .ap ?_
  refine .sp0 ?_
  refine .w (.move rfl) ?_
  refine .w (.extract rfl rfl) ?_
  refine .w (.extract rfl rfl) ?_
  refine .w (.assign rfl) ?_
  refine .w (.assign rfl) ?_
  refine .nil (.tn (.seq (.region ?_)))
  refine .w (.move rfl) ?_
  refine .cb (f8ok_spec u S h1 h2 h3) body_8 ?_ (h0 := by rintro _ _ _ ⟨_, _, _, _, h, _⟩; exact h)
  rintro _ _ ⟨d, dm, sw, rfl, _, rfl⟩
  refine .ap ?_
  refine .sp0 ?_
  refine .w (.move rfl) ?_
  refine .w (.extract rfl rfl) ?_
  refine .w (.extract rfl rfl) ?_
  refine .w (.assign rfl) ?_
  refine .w (.assign rfl) ?_
  refine .nil (.tn (.seq (.seq (.region ?_))))
  refine .w (.move rfl) ?_
  refine .w (.as (v' := .bool false) (.bin rfl rfl (BinR.eql_p Tryz.underlying25)) rfl) ?_
  refine .join 19 53 (.bool (decide (S.length > 10 ∨ b1.length > 10 ∨ b2.length > 10))) ?_ ?_
  · refine .w (.move rfl) ?_
    refine .gt (g := 35) rfl rfl rfl ?_
    refine .w (.move rfl) ?_
    refine .gt (g := 35) rfl rfl rfl ?_
    refine .w (.as (v' := .bool false) (.bin rfl rfl (BinR.eql_p Tryz.underlying25)) rfl) ?_
    refine .w (.pick0 rfl rfl rfl) ?_
    refine .w (.move rfl) ?_
    refine .gt (g := 39) rfl rfl rfl ?_
    refine .w (.move rfl) ?_
    refine .gt (g := 39) rfl rfl rfl ?_
    refine .w (.len Tryz.underlying22 rfl) ?_
    refine .gt (g := 39) rfl rfl rfl ?_
    refine .w (.bin rfl rfl BinR.gtr_i) ?_
    refine .w (.pick0 rfl rfl rfl) ?_
    refine .w (.move rfl) ?_
    refine .gn (g := 43) rfl (fun hg30 hg30' => ?_) (fun hg30 hg30' => ?_)
    · refine .gf (g := 44) rfl rfl hg30 (by decide) ?_
      refine .gf (g := 44) rfl rfl hg30 (by decide) ?_
      refine .gf (g := 44) rfl rfl hg30 (by decide) ?_
      refine .w (.pick1 rfl hg30 rfl) ?_
      refine .w (.move rfl) ?_
      refine .gf (g := 49) rfl rfl rfl (by decide) ?_
      refine .gf (g := 49) rfl rfl rfl (by decide) ?_
      refine .gf (g := 49) rfl rfl rfl (by decide) ?_
      refine .w (.pick1 rfl rfl rfl) ?_
      refine .nil ?_
      refine .head () (by first | (refine ⟨by first | rfl | exact congrArg (fun b => some (Value.bool b)) (by first | exact (decide_eq_true (by omega)).symm | exact (decide_eq_false (by omega)).symm | exact decide_eq_decide.2 (by omega)) | (simp [*]; done) | (show some _ = some _; simp [*]; done), ?_⟩; repeat (first | exact trivial | refine ⟨rfl, ?_⟩))) (fun _ h => h) (Picks.perm (by repeat (first | exact Picks.nil _ | apply Picks.cons | exact Pull.here _ _ | apply Pull.there))) ?_
      trivial
    · refine .gt (g := 44) rfl rfl hg30 ?_
      refine .w (.move rfl) ?_
      refine .gt (g := 44) rfl rfl hg30 ?_
      refine .w (.len Tryz.underlying23 rfl) ?_
      refine .gt (g := 44) rfl rfl hg30 ?_
      refine .w (.bin rfl rfl BinR.gtr_i) ?_
      refine .w (.pick0 rfl hg30 rfl) ?_
      refine .w (.move rfl) ?_
      refine .gn (g := 48) rfl (fun hg35 hg35' => ?_) (fun hg35 hg35' => ?_)
      · refine .gf (g := 49) rfl rfl hg35 (by decide) ?_
        refine .gf (g := 49) rfl rfl hg35 (by decide) ?_
        refine .gf (g := 49) rfl rfl hg35 (by decide) ?_
        refine .w (.pick1 rfl hg35 rfl) ?_
        refine .nil ?_
        refine .head () (by first | (refine ⟨by first | rfl | exact congrArg (fun b => some (Value.bool b)) (by first | exact (decide_eq_true (by omega)).symm | exact (decide_eq_false (by omega)).symm | exact decide_eq_decide.2 (by omega)) | (simp [*]; done) | (show some _ = some _; simp [*]; done), ?_⟩; repeat (first | exact trivial | refine ⟨rfl, ?_⟩))) (fun _ h => h) (Picks.perm (by repeat (first | exact Picks.nil _ | apply Picks.cons | exact Pull.here _ _ | apply Pull.there))) ?_
        trivial
      · refine .gt (g := 49) rfl rfl hg35 ?_
        refine .w (.move rfl) ?_
        refine .gt (g := 49) rfl rfl hg35 ?_
        refine .w (.len Tryz.underlying23 rfl) ?_
        refine .gt (g := 49) rfl rfl hg35 ?_
        refine .w (.bin rfl rfl BinR.gtr_i) ?_
        refine .w (.pick0 rfl hg35 rfl) ?_
        refine .nil ?_
        refine .head () (by first | (refine ⟨by first | rfl | exact congrArg (fun b => some (Value.bool b)) (by first | exact (decide_eq_true (by omega)).symm | exact (decide_eq_false (by omega)).symm | exact decide_eq_decide.2 (by omega)) | (simp [*]; done) | (show some _ = some _; simp [*]; done), ?_⟩; repeat (first | exact trivial | refine ⟨rfl, ?_⟩))) (fun _ h => h) (Picks.perm (by repeat (first | exact Picks.nil _ | apply Picks.cons | exact Pull.here _ _ | apply Pull.there))) ?_
        trivial
  · refine .nil (.tn ?_)
    refine .cn rfl (fun hc1 => ?_) (fun hc1 => ?_)
    · skip
      refine .seq (.region ?_)
      refine .w (.move rfl) ?_
      refine .w (.assign rfl) ?_
      refine .nil (.tn (.ret (.then_ret ?_)))
      exact .dn [] [] (res1 rfl (.tmp rfl)) ⟨rfl, rfl, rfl⟩
    · have hs10 : S.length ≤ 10 ∧ b1.length ≤ 10 ∧ b2.length ≤ 10 := by omega
      refine .skip (.tn (.seq (.region ?_)))
      refine .w (.assign rfl) ?_
      refine .nil (.tn (.seq (.seq (.region ?_))))
      refine JO.nilRow 33 3 ?_
      refine JO.sp0 ?_
      refine .w (.assign rfl) ?_
      refine .nil (.tn (.block ?_))
      refine .lp (ι := Nat × Value × List CLM) (fun x => x.1 ≤ b1.length ∧ clOf x.2.2 = tl 0 b1 x.1) (fun T x => (13, it (x.1 : Int)) :: (12, x.2.1) :: T) (fun T _ => T) (fun T x => Res.row x.2.1 x.2.2.length 33 3 (bks clC x.2.2) :: Res.sep (rowsP (clP x.2.2) 5) :: T) (fun x => b1.length - x.1) (0, .slice none 0 0, []) [1, 2, 6, 7, 8, 10, 14, 15, 16, 17, 18, 19, 20, 21, 74, 75, 76, 77, 78, 79, 80, 81, 82, 83, 84, 85, 86, 87, 88, 89, 90, 91, 92, 93, 94, 95, 96, 97, 98, 99, 100, 101, 102, 103, 105, 106, 107, 108, 109, 110, 111, 112, 113, 115, 116, 117, 118, 119, 120, 121, 122, 123, 124, 125, 126, 127, 128, 129, 130, 131, 132, 133, 134, 135, 136, 137, 138, 139, 140, 141, 142, 143, 144] ?_ (fun x hx => ?_)
      · exact ⟨Nat.zero_le _, rfl⟩
      obtain ⟨i, vo, Z⟩ := x
      obtain ⟨hi, hZ⟩ := hx
      dsimp only at hi hZ ⊢
      have hZl := congrArg List.length hZ
      simp only [clOf_len, List.length_append, tl_len] at hZl
      refine .seq (.seq (.region ?_))
      refine .w (.move rfl) ?_
      refine .w (.move rfl) ?_
      refine .w (.len Tryz.underlying23 rfl) ?_
      refine .w (.bin rfl rfl BinR.lss_i) ?_
      refine .nil (.tn ?_)
      refine .cn rfl (fun hc2 => ?_) (fun hc2 => ?_)
      · skip
        refine .skip (.tn (.seq (.block (.region ?_))))
        refine .w (.move rfl) ?_
        refine .w (.move rfl) ?_
        refine .w (.move rfl) ?_
        refine .w (.move rfl) ?_
        refine .w (.ix1 Tryz.underlying23 sz_5 rfl rfl) ?_
        refine .w (.ld one_5 rfl (hj := by exact gm (d := 0) (by omega))) ?_
        refine .w (.bin rfl rfl (BinR.rem_u8 (b := 2#8) (by decide))) ?_
        refine .w (.bin rfl rfl (BinR.add_u8 (b := 1#8))) ?_
        refine .l1 Tryz.underlying23 info_5 (fun v69 => ?_)
        refine JO.know (φ := v69.oneCell' = true) (fun w hs => (by obtain ⟨A, c, rfl, _⟩ := row_rd (by decide) (Res.row_ok.1 (hs.hok _ (.head _))); rfl)) fun hv69 => ?_
        refine .cb (f9_spec 0 v69 (tb (b1.getD i 0)) hv69) body_9 ?_ (h0 := by rintro _ _ _ ⟨_, h, _⟩; exact h)
        rintro v70 _ ⟨_, _, rfl⟩
        refine .ap ?_
        refine JO.know (φ := ∃ A n c, v70 = .slice A n c) (fun w hs => (by obtain ⟨A, c, rfl, _⟩ := row_rd (by decide) (Res.row_ok.1 (hs.hok _ (.head _))); exact ⟨_, _, _, rfl⟩)) fun ⟨A9, n9, c9, h_v70⟩ => ?_
        subst h_v70
        have hsn : ∀ v e, Res.row v (Z.length + 1) e 3 (bks clC Z ++ List.flatMap (fun v => v.cells.toList) [Value.agg #[u64 0, it (i : Int), .slice A9 n9 c9]]) = Res.row v (Z ++ [(CLM.mk 0 (i : Int) A9 n9 c9 (blockB 0 (tb (b1.getD i 0))))]).length e 3 (bks clC (Z ++ [(CLM.mk 0 (i : Int) A9 n9 c9 (blockB 0 (tb (b1.getD i 0))))])) := fun v e => snocCl (x := (CLM.mk 0 (i : Int) A9 n9 c9 (blockB 0 (tb (b1.getD i 0)))))
        refine .w (.build (cs := [u64 0, it (i : Int), .slice A9 n9 c9]) bld_33 rfl (by kernel_rfl)) ?_
        refine .ls Tryz.underlying29 info_33 (fun v72 => ?_) (hsz := (by intro v hv; obtain rfl := List.mem_singleton.1 hv; rfl))
        refine .ap Tryz.underlying29 info_33 (fun v73 => ?_) (hone := (by intro a ha; simp [Value.cells] at ha; rcases ha with rfl | rfl | rfl <;> rfl))
        rw [hsn]
        refine .w (.assign rfl) ?_
        refine .nil (.block_normal (.tn (.region ?_)))
        refine .w (.move rfl) ?_
        refine .w (.bin rfl rfl (BinR.add_i (by first | (constructor <;> omega) | (constructor <;> simp <;> omega)))) ?_
        refine .w (.assign rfl) ?_
        refine .nil ?_
        refine .rs (A := [Res.row (.slice A9 n9 c9) (blockB 0 (tb (b1.getD i 0))).length 5 1 ((blockB 0 (tb (b1.getD i 0))).map u8)]) (B := rowsP (clP Z) 5) (L := rowsP (clP (Z ++ [(CLM.mk 0 (i : Int) A9 n9 c9 (blockB 0 (tb (b1.getD i 0))))])) 5) (by simp [rowsP, clP, CLM.v]) ?_
        refine .hd (i + 1, v73, Z ++ [(CLM.mk 0 (i : Int) A9 n9 c9 (blockB 0 (tb (b1.getD i 0))))]) ?_
        exact ⟨⟨by dsimp only; omega, by dsimp only; rw [clOf_snoc, hZ, tl_succ]⟩, by dsimp only; omega⟩
      · obtain rfl : i = b1.length := by omega
        refine .exit (.then_exit (.then_exit (.block_exit (.tn (.seq (.seq (.region ?_)))))))
        refine .w (.assign rfl) ?_
        refine .nil (.tn (.block ?_))
        refine .lp (ι := Nat × Value × List CLM) (fun x => x.1 ≤ b2.length ∧ clOf x.2.2 = tl 0 b1 b1.length ++ tl 1 b2 x.1) (fun T x => (14, it (x.1 : Int)) :: (12, x.2.1) :: T) (fun T _ => T) (fun T x => Res.row x.2.1 x.2.2.length 33 3 (bks clC x.2.2) :: Res.sep (rowsP (clP x.2.2) 5) :: T) (fun x => b2.length - x.1) (0, vo, Z) [2, 6, 7, 8, 10, 15, 16, 17, 18, 19, 20, 21, 93, 94, 95, 96, 97, 98, 99, 100, 101, 102, 103, 105, 106, 107, 108, 109, 110, 111, 112, 113, 115, 116, 117, 118, 119, 120, 121, 122, 123, 124, 125, 126, 127, 128, 129, 130, 131, 132, 133, 134, 135, 136, 137, 138, 139, 140, 141, 142, 143, 144] ?_ (fun x hx => ?_)
        · exact ⟨Nat.zero_le _, by dsimp only; rw [hZ]; simp [tl]⟩
        obtain ⟨j, vo, Z⟩ := x
        obtain ⟨hi, hZ⟩ := hx
        dsimp only at hi hZ ⊢
        have hZl := congrArg List.length hZ
        simp only [clOf_len, List.length_append, tl_len] at hZl
        refine .seq (.seq (.region ?_))
        refine .w (.move rfl) ?_
        refine .w (.move rfl) ?_
        refine .w (.len Tryz.underlying23 rfl) ?_
        refine .w (.bin rfl rfl BinR.lss_i) ?_
        refine .nil (.tn ?_)
        refine .cn rfl (fun hc3 => ?_) (fun hc3 => ?_)
        · skip
          refine .skip (.tn (.seq (.block (.region ?_))))
          refine .w (.move rfl) ?_
          refine .w (.move rfl) ?_
          refine .w (.move rfl) ?_
          refine .w (.move rfl) ?_
          refine .w (.ix1 Tryz.underlying23 sz_5 rfl rfl) ?_
          refine .w (.ld one_5 rfl (hj := by exact gm (d := 0) (by omega))) ?_
          refine .w (.bin rfl rfl (BinR.rem_u8 (b := 2#8) (by decide))) ?_
          refine .w (.bin rfl rfl (BinR.add_u8 (b := 1#8))) ?_
          refine .l1 Tryz.underlying23 info_5 (fun v88 => ?_)
          refine JO.know (φ := v88.oneCell' = true) (fun w hs => (by obtain ⟨A, c, rfl, _⟩ := row_rd (by decide) (Res.row_ok.1 (hs.hok _ (.head _))); rfl)) fun hv88 => ?_
          refine .cb (f9_spec 1 v88 (tb (b2.getD j 0)) hv88) body_9 ?_ (h0 := by rintro _ _ _ ⟨_, h, _⟩; exact h)
          rintro v89 _ ⟨_, _, rfl⟩
          refine .ap ?_
          refine JO.know (φ := ∃ A n c, v89 = .slice A n c) (fun w hs => (by obtain ⟨A, c, rfl, _⟩ := row_rd (by decide) (Res.row_ok.1 (hs.hok _ (.head _))); exact ⟨_, _, _, rfl⟩)) fun ⟨A9, n9, c9, h_v89⟩ => ?_
          subst h_v89
          have hsn : ∀ v e, Res.row v (Z.length + 1) e 3 (bks clC Z ++ List.flatMap (fun v => v.cells.toList) [Value.agg #[u64 1, it (j : Int), .slice A9 n9 c9]]) = Res.row v (Z ++ [(CLM.mk 1 (j : Int) A9 n9 c9 (blockB 1 (tb (b2.getD j 0))))]).length e 3 (bks clC (Z ++ [(CLM.mk 1 (j : Int) A9 n9 c9 (blockB 1 (tb (b2.getD j 0))))])) := fun v e => snocCl (x := (CLM.mk 1 (j : Int) A9 n9 c9 (blockB 1 (tb (b2.getD j 0)))))
          refine .w (.build (cs := [u64 1, it (j : Int), .slice A9 n9 c9]) bld_33 rfl (by kernel_rfl)) ?_
          refine .ls Tryz.underlying29 info_33 (fun v91 => ?_) (hsz := (by intro v hv; obtain rfl := List.mem_singleton.1 hv; rfl))
          refine .ap Tryz.underlying29 info_33 (fun v92 => ?_) (hone := (by intro a ha; simp [Value.cells] at ha; rcases ha with rfl | rfl | rfl <;> rfl))
          rw [hsn]
          refine .w (.assign rfl) ?_
          refine .nil (.block_normal (.tn (.region ?_)))
          refine .w (.move rfl) ?_
          refine .w (.bin rfl rfl (BinR.add_i (by first | (constructor <;> omega) | (constructor <;> simp <;> omega)))) ?_
          refine .w (.assign rfl) ?_
          refine .nil ?_
          refine .rs (A := [Res.row (.slice A9 n9 c9) (blockB 1 (tb (b2.getD j 0))).length 5 1 ((blockB 1 (tb (b2.getD j 0))).map u8)]) (B := rowsP (clP Z) 5) (L := rowsP (clP (Z ++ [(CLM.mk 1 (j : Int) A9 n9 c9 (blockB 1 (tb (b2.getD j 0))))])) 5) (by simp [rowsP, clP, CLM.v]) ?_
          refine .hd (j + 1, v92, Z ++ [(CLM.mk 1 (j : Int) A9 n9 c9 (blockB 1 (tb (b2.getD j 0))))]) ?_
          exact ⟨⟨by dsimp only; omega, by dsimp only; rw [clOf_snoc, hZ, tl_succ, List.append_assoc]⟩, by dsimp only; omega⟩
        · obtain rfl : j = b2.length := by omega
          refine .exit (.then_exit (.then_exit (.block_exit (.tn (.seq (.seq (.region ?_)))))))
          have hLl := hZl
          obtain ⟨L, hL⟩ : ∃ L, L = tAll b1 b2 := ⟨_, rfl⟩
          have hZL : clOf Z = L := by rw [hL]; exact hZ
          have hLn : L.length = Z.length := by rw [← hZL, clOf_len]
          have hLp : L.Perm (tAll b1 b2) := by rw [hL]
          have hLr : L.reverse.Perm (tAll b1 b2) := (List.reverse_perm _).trans hLp
          refine JO.frzP (by repeat (first | exact Pull.here _ _ | apply Pull.there)) ?_
          refine .w (.assign rfl) ?_
          refine .nil (.tn (.block ?_))
          refine .lp (ι := Nat × MM (BitVec 64) HC × MM (BitVec 64) HC) (fun x => x.1 ≤ Z.length ∧ (COk S x.2.1 ∧ QC S (L.take x.1) (abM x.2.1)) ∧ (COk S x.2.2 ∧ QC S (L.reverse.take x.1) (abM x.2.2))) (fun T x => (15, it (x.1 : Int)) :: T) (fun T _ => T) (fun T x => mpR am uK hcV x.2.1 :: Res.sep (hsL S x.2.1) :: mpR dm uK hcV x.2.2 :: Res.sep (hsL S x.2.2) :: T) (fun x => Z.length - x.1) (0, MM.nil, MM.nil) [6, 7, 8, 10, 12, 16, 17, 18, 19, 20, 21, 115, 116, 117, 118, 119, 120, 121, 122, 123, 124, 125, 126, 127, 128, 129, 130, 131, 132, 133, 134, 135, 136, 137, 138, 139, 140, 141, 142, 143, 144] ?_ (fun x hx => ?_)
          · exact ⟨Nat.zero_le _, ⟨cok_nil S, QC.nil S⟩, ⟨cok_nil S, QC.nil S⟩⟩
          obtain ⟨k, Mc, Md⟩ := x
          obtain ⟨hk, ⟨hMc, hQc⟩, ⟨hMd, hQd⟩⟩ := hx
          dsimp only at hk hMc hQc hMd hQd ⊢
          refine .seq (.seq (.region ?_))
          refine .w (.move rfl) ?_
          refine .w (.move rfl) ?_
          refine .w (.len Tryz.underlying29 rfl) ?_
          refine .w (.bin rfl rfl BinR.lss_i) ?_
          refine .nil (.tn ?_)
          refine .cn rfl (fun hc4 => ?_) (fun hc4 => ?_)
          · have hkl : k < Z.length := by omega
            have hcA : L[k]? = some ((clAt Z k).h, (clAt Z k).w, (clAt Z k).b) := by rw [← hZL]; exact (cl_at hkl).1
            have hcB : L.reverse[k]? = some ((clAt Z (Z.length - 1 - k)).h, (clAt Z (Z.length - 1 - k)).w, (clAt Z (Z.length - 1 - k)).b) := by rw [List.getElem?_reverse (by omega), hLn, ← hZL]; exact (cl_at (by omega)).1
            have hlA := turned_len hLp hcA
            have hlB := turned_len hLr hcB
            dsimp only at hlA hlB
            refine .skip (.tn (.seq (.block (.seq (.region ?_)))))
            refine .w (.move rfl) ?_
            refine .w (.move rfl) ?_
            refine .w (.move rfl) ?_
            refine .w (.ix Tryz.underlying29 sz_33 rfl rfl) ?_
            refine .w (.as (v' := (.agg #[u64 (clAt Z k).h, it (clAt Z k).w, (clAt Z k).v])) (.lda agg_33 rfl (hm := by first | exact AM.own (by (repeat (first | exact List.Mem.head _ | refine List.Mem.tail _ ?_)); first | done | fail) (by rw [bks_len]; omega) | exact AM.ro (by (repeat (first | exact List.Mem.head _ | refine List.Mem.tail _ ?_)); first | done | fail) (by rw [bks_len]; omega) | exact AM.ownAt (by (repeat (first | exact List.Mem.head _ | refine List.Mem.tail _ ?_)); first | done | fail) (by rw [bks_len]; omega) | exact AM.rd (by repeat (first | exact Lend.same _ _ | exact Lend.row _ _ _ _ _ _ (by decide) | apply Lend.there)) (by rw [bks_len]; omega) | exact AM.row (by repeat (first | exact List.Mem.head _ | refine List.Mem.tail _ ?_)) (by rw [bks_len]; omega))) (congrArg (fun l : List Value => Value.agg l.toArray) (bks_piece (f := clC) clD (by omega)))) ?_
            refine JO.open (r := Res.rd (pcAt (clP Z) k).1 (pcAt (clP Z) k).2.length 1 ((pcAt (clP Z) k).2.map u8)) (by repeat (first | exact List.Mem.head _ | refine List.Mem.tail _ ?_)) (pc_res (by rw [clP_len]; omega)) ?_
            rw [(cl_at (Z := Z) (k := k) (by omega)).2]
            refine .cb (f10_spec c am sv S Mc hMc h1 h2 h3 (clAt Z k).h (clAt Z k).w (clAt Z k).v (clAt Z k).b (by assumption)) body_10 ?_ (h0 := by rintro _ _ _ ⟨_, _, _, _, h, _⟩; exact h)
            rintro _ _ ⟨Mc2, ec, hhc, rfl, _, rfl⟩
            refine .ap ?_
            refine .nil (.tn (.region ?_))
            refine .w (.move rfl) ?_
            refine .w (.move rfl) ?_
            refine .w (.move rfl) ?_
            refine .w (.len Tryz.underlying29 rfl) ?_
            refine .w (.asI ((Z.length - 1 : Nat) : Int) (.bin rfl rfl (BinR.sub_i (by first | (constructor <;> omega) | (constructor <;> simp <;> omega))))) ?_
            refine .w (.move rfl) ?_
            refine .w (.asI ((Z.length - 1 - k : Nat) : Int) (.bin rfl rfl (BinR.sub_i (by first | (constructor <;> omega) | (constructor <;> simp <;> omega))))) ?_
            refine .w (.ix Tryz.underlying29 sz_33 rfl rfl) ?_
            refine .w (.as (v' := (.agg #[u64 (clAt Z (Z.length - 1 - k)).h, it (clAt Z (Z.length - 1 - k)).w, (clAt Z (Z.length - 1 - k)).v])) (.lda agg_33 rfl (hm := by first | exact AM.own (by (repeat (first | exact List.Mem.head _ | refine List.Mem.tail _ ?_)); first | done | fail) (by rw [bks_len]; omega) | exact AM.ro (by (repeat (first | exact List.Mem.head _ | refine List.Mem.tail _ ?_)); first | done | fail) (by rw [bks_len]; omega) | exact AM.ownAt (by (repeat (first | exact List.Mem.head _ | refine List.Mem.tail _ ?_)); first | done | fail) (by rw [bks_len]; omega) | exact AM.rd (by repeat (first | exact Lend.same _ _ | exact Lend.row _ _ _ _ _ _ (by decide) | apply Lend.there)) (by rw [bks_len]; omega) | exact AM.row (by repeat (first | exact List.Mem.head _ | refine List.Mem.tail _ ?_)) (by rw [bks_len]; omega))) (congrArg (fun l : List Value => Value.agg l.toArray) (bks_piece (f := clC) clD (by omega)))) ?_
            refine JO.open (r := Res.rd (pcAt (clP Z) (Z.length - 1 - k)).1 (pcAt (clP Z) (Z.length - 1 - k)).2.length 1 ((pcAt (clP Z) (Z.length - 1 - k)).2.map u8)) (by repeat (first | exact List.Mem.head _ | refine List.Mem.tail _ ?_)) (pc_res (by rw [clP_len]; omega)) ?_
            rw [(cl_at (Z := Z) (k := (Z.length - 1 - k)) (by omega)).2]
            refine .cb (f10_spec d dm sw S Md hMd h1 h2 h3 (clAt Z (Z.length - 1 - k)).h (clAt Z (Z.length - 1 - k)).w (clAt Z (Z.length - 1 - k)).v (clAt Z (Z.length - 1 - k)).b (by assumption)) body_10 ?_ (h0 := by rintro _ _ _ ⟨_, _, _, _, h, _⟩; exact h)
            rintro _ _ ⟨Md2, ed, hhd, rfl, _, rfl⟩
            refine .ap ?_
            refine .nil (.block_normal (.tn (.region ?_)))
            refine .w (.move rfl) ?_
            refine .w (.bin rfl rfl (BinR.add_i (by first | (constructor <;> omega) | (constructor <;> simp <;> omega)))) ?_
            refine .w (.assign rfl) ?_
            refine .nil ?_
            refine .hd (k + 1, Mc2, Md2) ?_
            exact ⟨⟨by dsimp only; omega, ⟨hhc.ok, turned_step hLp hcA hMc hQc hhc⟩, ⟨hhd.ok, turned_step hLr hcB hMd hQd hhd⟩⟩, by dsimp only; omega⟩
          · obtain rfl : k = Z.length := by omega
            rw [List.take_of_length_le (by omega)] at hQc
            rw [List.take_of_length_le (by rw [List.length_reverse]; omega)] at hQd
            have hac : abM Mc = abM Md := hQc.uniq hQd (fun c => by simp)
            refine .exit (.then_exit (.then_exit (.block_exit (.tn (.seq (.region ?_))))))
            refine .w (.move rfl) ?_
            refine .cb (f11_spec c am sv S Mc hMc h2 h3 0) body_11 ?_ (h0 := by rintro _ _ _ ⟨_, _, _, _, h, _⟩; exact h)
            rintro v116 _ ⟨Z1, hr1, hz1, hz2, _, rfl⟩
            refine .ap ?_
            refine .w (.assign rfl) ?_
            refine .nil (.tn (.seq (.region ?_)))
            refine .w (.move rfl) ?_
            refine .cb (f11_spec d dm sw S Md hMd h2 h3 0) body_11 ?_ (h0 := by rintro _ _ _ ⟨_, _, _, _, h, _⟩; exact h)
            rintro v118 _ ⟨Z2, hr2, hz3, hz4, _, rfl⟩
            refine .ap ?_
            refine .w (.assign rfl) ?_
            refine .nil (.tn (.seq (.region ?_)))
            refine .w (.move rfl) ?_
            refine .cb (f12_spec c am sv S Mc hMc h2 h3 1) body_12 ?_ (h0 := by rintro _ _ _ ⟨_, _, _, _, h, _⟩; exact h)
            rintro _ _ ⟨o1, rfl, hb1, hl1, _, rfl⟩
            refine .ap ?_
            refine .w (.move rfl) ?_
            refine .w (.extract rfl rfl) ?_
            refine .w (.extract rfl rfl) ?_
            refine .w (.as (v' := bv o1) (.assign rfl) rfl) ?_
            refine .w (.as (v' := .bool o1.isSome) (.assign rfl) rfl) ?_
            refine .nil (.tn (.seq (.region ?_)))
            refine .w (.move rfl) ?_
            refine .cb (f12_spec d dm sw S Md hMd h2 h3 1) body_12 ?_ (h0 := by rintro _ _ _ ⟨_, _, _, _, h, _⟩; exact h)
            rintro _ _ ⟨o2, rfl, hb2, hl2, _, rfl⟩
            refine .ap ?_
            rw [← hac] at hb2 hr2
            have hzz : bytesP Z1 = bytesP Z2 := hr1.uniq hr2
            obtain ⟨hoo, hos⟩ := obB_eq (hb1.uniq hb2)
            refine .oRd (o := o1) ?_
            refine .oRd (o := o2) ?_
            refine JO.frzP (A := Z1) (by repeat (first | exact Pull.here _ _ | apply Pull.there)) ?_
            refine JO.frzP (A := Z2) (by repeat (first | exact Pull.here _ _ | apply Pull.there)) ?_
            refine .w (.move rfl) ?_
            refine .w (.extract rfl rfl) ?_
            refine .w (.extract rfl rfl) ?_
            refine .w (.as (v' := bv o2) (.assign rfl) rfl) ?_
            refine .w (.as (v' := .bool o2.isSome) (.assign rfl) rfl) ?_
            refine .nil (.tn (.seq (.region ?_)))
            refine .w (.move rfl) ?_
            refine .w (.move rfl) ?_
            refine .gt (g := 130) rfl rfl rfl ?_
            refine .w (.move rfl) ?_
            refine .gt (g := 130) rfl rfl rfl ?_
            refine .w (.move rfl) ?_
            refine .gt (g := 130) rfl rfl rfl ?_
            refine .c (f13_spec v116 v118 Z1 Z2) body_13 ?_
            rw [show decide (bytesP Z1 = bytesP Z2) = true from decide_eq_true hzz]
            refine .w (.pick1 rfl rfl rfl) ?_
            refine .w (.move rfl) ?_
            refine .gt (g := 135) rfl rfl rfl ?_
            refine .w (.move rfl) ?_
            refine .gt (g := 135) rfl rfl rfl ?_
            refine .w (.move rfl) ?_
            refine .gt (g := 135) rfl rfl rfl ?_
            refine .w (.as (v' := .bool true) (.bin rfl rfl (BinR.eql_b Tryz.underlying4)) (congrArg Value.bool (by rw [hos]; exact beq_self_eq_true _))) ?_
            refine .w (.pick1 rfl rfl rfl) ?_
            refine .w (.move rfl) ?_
            refine .gt (g := 140) rfl rfl rfl ?_
            refine .w (.move rfl) ?_
            refine .gt (g := 140) rfl rfl rfl ?_
            refine .w (.move rfl) ?_
            refine .gt (g := 140) rfl rfl rfl ?_
            refine .c (f14_spec (bv o1) (bv o2) (obB o1) (obB o2)) body_14 ?_
            rw [show decide (obB o1 = obB o2) = true from decide_eq_true hoo]
            refine .w (.pick1 rfl rfl rfl) ?_
            refine .w (.assign rfl) ?_
            refine .nil (.tn (.ret ?_))
            exact .dn [] [] (res1 rfl (.tmp rfl)) ⟨rfl, rfl, rfl⟩

theorem f3B_spec (u v1 v2 : Value) (S : List W64) (b1 b2 : B8) (hg : newE S ≠ 0) :
    Spec Tryz.prog 3 #[u, v1, v2] [Res.var 3 (sqr.map u32), Res.var 2 (cub.map u32), Res.var 0 [u64 9223372036854775808, u64 0, u64 0, u64 0], Res.rd u S.length 1 (S.map u64), Res.rd v1 b1.length 1 (b1.map u8), Res.rd v2 b2.length 1 (b2.map u8)] []
      (fun r Γ' H' => r = .bool true ∧ Γ' = [] ∧ H' = []) := by
  refine Spec.of_args Tryz.func3 rfl Tryz.ntmps3 (by simp) fun w => ?_
  refine JC.know (φ := S.length ≤ 9223372036854775807) (fun w hs => by obtain ⟨_, _, _, _, _, _, h⟩ := hs.rdForm (.tail _ (.tail _ (.tail _ (.head _)))); unfold maxLen at h; omega) fun _ => ?_
  refine JC.know (φ := b1.length ≤ 9223372036854775807) (fun w hs => by obtain ⟨_, _, _, _, _, _, h⟩ := hs.rdForm (.tail _ (.tail _ (.tail _ (.tail _ (.head _))))); unfold maxLen at h; omega) fun _ => ?_
  refine JC.know (φ := b2.length ≤ 9223372036854775807) (fun w hs => by obtain ⟨_, _, _, _, _, _, h⟩ := hs.rdForm (.tail _ (.tail _ (.tail _ (.tail _ (.tail _ (.head _)))))); unfold maxLen at h; omega) fun _ => ?_
  refine .seq (.region ?_)
  refine .w (.assign rfl) ?_
  refine .nil (.tn (.seq (.region ?_)))
  refine .c (f7_spec) body_7 ?_
  refine .w (.assign rfl) ?_
  refine .nil (.tn (.seq (.region ?_)))
  refine .w (.move rfl) ?_
  refine .c (f8no_spec u S hg) body_8 ?_
  refine .w (.move rfl) ?_
  refine .w (.extract rfl rfl) ?_
  refine .w (.extract rfl rfl) ?_
  refine .w (.assign rfl) ?_
  refine .w (.assign rfl) ?_
  refine .nil (.tn (.seq (.region ?_)))
  refine .w (.move rfl) ?_
  refine .c (f8no_spec u S hg) body_8 ?_
  refine .w (.move rfl) ?_
  refine .w (.extract rfl rfl) ?_
  refine .w (.extract rfl rfl) ?_
  refine .w (.assign rfl) ?_
  refine .w (.assign rfl) ?_
  refine .nil (.tn (.seq (.seq (.region ?_))))
  refine .w (.move rfl) ?_
  refine .w (.as (v' := .bool true) (.bin rfl rfl (BinR.eql_p Tryz.underlying25)) rfl) ?_
  refine .w (.move rfl) ?_
  refine .gf (g := 35) rfl rfl rfl (by decide) ?_
  refine .gf (g := 35) rfl rfl rfl (by decide) ?_
  refine .w (.pick1 rfl rfl rfl) ?_
  refine .w (.move rfl) ?_
  refine .gf (g := 39) rfl rfl rfl (by decide) ?_
  refine .gf (g := 39) rfl rfl rfl (by decide) ?_
  refine .gf (g := 39) rfl rfl rfl (by decide) ?_
  refine .w (.pick1 rfl rfl rfl) ?_
  refine .w (.move rfl) ?_
  refine .gf (g := 44) rfl rfl rfl (by decide) ?_
  refine .gf (g := 44) rfl rfl rfl (by decide) ?_
  refine .gf (g := 44) rfl rfl rfl (by decide) ?_
  refine .w (.pick1 rfl rfl rfl) ?_
  refine .w (.move rfl) ?_
  refine .gf (g := 49) rfl rfl rfl (by decide) ?_
  refine .gf (g := 49) rfl rfl rfl (by decide) ?_
  refine .gf (g := 49) rfl rfl rfl (by decide) ?_
  refine .w (.pick1 rfl rfl rfl) ?_
  refine .nil (.tn ?_)
  refine .ct rfl ?_
  refine .seq (.region ?_)
  refine .w (.move rfl) ?_
  refine .w (.assign rfl) ?_
  refine .nil (.tn (.ret (.then_ret ?_)))
  exact .dn [] [] (res1 rfl (.tmp rfl)) ⟨rfl, rfl, rfl⟩

theorem f3_spec (u v1 v2 : Value) (S : List W64) (b1 b2 : B8) : Spec Tryz.prog 3 #[u, v1, v2] [Res.var 3 (sqr.map u32), Res.var 2 (cub.map u32), Res.var 0 [u64 9223372036854775808, u64 0, u64 0, u64 0], Res.rd u S.length 1 (S.map u64), Res.rd v1 b1.length 1 (b1.map u8), Res.rd v2 b2.length 1 (b2.map u8)] []
      (fun r Γ' H' => r = .bool true ∧ Γ' = [] ∧ H' = []) := by
  by_cases hg : newE S = 0
  · exact f3A_spec u v1 v2 S b1 b2 hg
  · exact f3B_spec u v1 v2 S b1 b2 hg
end Go.Proofs.YthfipbjmpeegbaaGreatDoor
