/- Texts of ours, gathered: UT UP UQ UR UV UK UH. -/
import Derived.Test.YthfipbjmpeegbaaGreatDoorX10
/- Walks: numbers sorted: heaps, pivots. -/
namespace Go.Proofs.YthfipbjmpeegbaaGreatDoor
open Go.RowKit
set_option maxRecDepth 100000
set_option linter.unusedVariables false
set_option linter.unusedSimpArgs false
theorem f116_spec (g c n : Nat) (xs : List W64) (hl : xs.length = n) (hn : n ≤ 1000) (lo hi first : Nat) (h1 : lo ≤ hi) (h2 : first + hi ≤ n) :
    Spec Tryz.prog 116 #[(.slice (some ⟨g, 0, none⟩) n c), (it (lo : Int)), (it (hi : Int)), (it (first : Int))] [] [Res.row (.slice (some ⟨g, 0, none⟩) n c) n 30 1 (xs.map u64)]
      (fun r Γ' H' => ∃ ys : List W64, ys.Perm xs ∧ Γ' = [] ∧ H' = [Res.row (.slice (some ⟨g, 0, none⟩) n c) n 30 1 (ys.map u64)]) := by
  refine Spec.of_args Tryz.func116 rfl Tryz.ntmps116 (by simp) fun w => ?_
  refine .seq (.region ?_)
  refine .w (.move rfl) ?_
  refine .w (.assign rfl) ?_
  refine .nil (.tn (.block ?_))
  refine .lp (ι := Nat × List W64) (fun x => x.1 ≤ hi ∧ x.2.Perm xs) (fun T x => (8, it (x.1 : Int)) :: T) (fun T _ => T) (fun T x => Res.row (.slice (some ⟨g, 0, none⟩) n c) n 30 1 (x.2.map u64) :: T) (fun x => hi - x.1) (lo, xs) [0, 2, 3] ?_ (fun x hx => ?_)
  · exact ⟨h1, .refl _⟩
  obtain ⟨r, zs⟩ := x
  obtain ⟨h3, hp⟩ := hx
  dsimp only at h3 hp ⊢
  have hzl : zs.length = n := hp.length_eq.trans hl
  refine .block (.seq (.region ?_))
  refine .w (.move rfl) ?_
  refine .w (.asI ((2 * r : Nat) : Int) (.bin rfl rfl (BinR.mul_i zqf))) ?_
  refine .w (.asI ((2 * r + 1 : Nat) : Int) (.bin rfl rfl (BinR.add_i zqf))) ?_
  refine .w (.assign rfl) ?_
  refine .nil (.tn (.seq (.seq (.region ?_))))
  refine .w (.move rfl) ?_
  refine .w (.move rfl) ?_
  refine .w (.bin rfl rfl BinR.geq_i) ?_
  refine .nil (.tn ?_)
  refine .cn rfl (fun hc1 => ?_) (fun hc1 => ?_)
  · skip
    refine .exit (.then_exit (.block_other (by decide) (.then_exit (.block_exit ?_))))
    exact .dn [] [Res.row (.slice (some ⟨g, 0, none⟩) n c) n 30 1 (zs.map u64)] (res_none rfl) ⟨zs, hp, rfl, rfl⟩
  · skip
    refine .skip (.tn ?_)
    refine .mt (ι := Nat) (fun x => x < hi ∧ r < x) (fun T x => (9, it (x : Int)) :: T) (fun T _ => T) (fun T _ => T) [0, 2, 3, 8, 11, 12, 13, 14, 15, 16, 39, 40, 41, 42, 43, 44, 45, 46, 47, 48, 49, 50, 51, 52, 53, 54, 55, 56, 57, 58, 59, 60, 61, 62, 63, 64, 65, 66, 67, 68, 69, 70, 71, 72, 73, 74, 75] [] ?_ (fun x hx => ?_)
    · refine .seq ?_
      refine JC.draw (.one 0 (.one 1 (.one 2 (.one 3 (.one 4 (.one 5 (.one 6 (.one 7 (.one 8 (.one 9 (.one 10 (.one 11 (.one 12 (.one 13 (.one 14 (.one 15 (.one 16 (.one 17 (.one 18 (.one 19 .nil)))))))))))))))))))) (fun i => ([18] : List Nat).contains i) (fun i => ([18] : List Nat).contains i) (fun i => ([0, 1, 2, 3, 4, 5, 6, 7, 8, 9, 11, 12, 13, 14, 15, 16, 19] : List Nat).contains i) mixed (by kernel_rfl) (by decide) (by kernel_rfl) ?_
      refine .uw rfl (.move rfl) ?_
      refine .uw rfl (.asI ((2 * r + 1 + 1 : Nat) : Int) (.bin rfl rfl (BinR.add_i zqf))) ?_
      refine .uw rfl (.move rfl) ?_
      refine .uw rfl (.bin rfl rfl BinR.lss_i) ?_
      refine .uw rfl (.move rfl) ?_
      refine JR.gsplit (g := 20) rfl (fun hg15 => ?_) (fun hg15 => ?_)
      · have hg15' := hg15
        try simp only [decide_eq_true_eq, decide_eq_false_iff_not, Bool.not_eq_true', Bool.not_eq_false', ne_eq, Decidable.not_not, Bool.not_eq_true, Bool.and_eq_true, Bool.or_eq_true, BitVec.reduceToNat] at hg15'
        refine JR.ugt (g := 21) rfl rfl rfl rfl rfl hg15 (.move rfl) (by decide) ?_
        refine JR.ugt (g := 21) rfl rfl rfl rfl rfl hg15 (.move rfl) (by decide) ?_
        refine JR.ugt (g := 21) rfl rfl rfl rfl rfl hg15 (.move rfl) (by decide) ?_
        refine JR.ugt (g := 21) rfl rfl rfl rfl rfl hg15 (.asI ((first + (2 * r + 1) : Nat) : Int) (.bin rfl rfl (BinR.add_i zqf))) (by decide) ?_
        refine JR.ugt (g := 21) rfl rfl rfl rfl rfl hg15 (.as (v' := ptr (blk (.slice (some ⟨g, 0, none⟩) n c)) (first + (2 * r + 1))) (.indexSl0 Tryz.underlying22 sz_30 rfl rfl zqb) (congrArg (ptr g) (Nat.mul_one _))) (by decide) ?_
        refine JR.vgt (g := 21) rfl rfl rfl rfl rfl hg15 (.ld one_30 rfl) (by decide) ?_
        refine JR.ugt (g := 21) rfl rfl rfl rfl rfl hg15 (.move rfl) (by decide) ?_
        refine JR.ugt (g := 21) rfl rfl rfl rfl rfl hg15 (.move rfl) (by decide) ?_
        refine JR.ugt (g := 21) rfl rfl rfl rfl rfl hg15 (.move rfl) (by decide) ?_
        refine JR.ugt (g := 21) rfl rfl rfl rfl rfl hg15 (.asI ((first + (2 * r + 1) : Nat) : Int) (.bin rfl rfl (BinR.add_i zqf))) (by decide) ?_
        refine JR.ugt (g := 21) rfl rfl rfl rfl rfl hg15 (.asI ((first + (2 * r + 1) + 1 : Nat) : Int) (.bin rfl rfl (BinR.add_i zqf))) (by decide) ?_
        refine JR.ugt (g := 21) rfl rfl rfl rfl rfl hg15 (.as (v' := ptr (blk (.slice (some ⟨g, 0, none⟩) n c)) (first + (2 * r + 1) + 1)) (.indexSl0 Tryz.underlying22 sz_30 rfl rfl zqb) (congrArg (ptr g) (Nat.mul_one _))) (by decide) ?_
        refine JR.vgt (g := 21) rfl rfl rfl rfl rfl hg15 (.ld one_30 rfl) (by decide) ?_
        refine JR.mgt (g := 21) rfl rfl rfl rfl hg15 (.c (f105_spec (zs.getD (first + (2 * r + 1)) 0) (zs.getD (first + (2 * r + 1) + 1) 0)) body_105) (by decide) ?_
        rintro _ _ _ ⟨rfl, rfl, rfl⟩
        refine kp ?_
        refine JR.u rfl rfl rfl (Yv.pick1 rfl hg15 rfl) (by decide) ?_
        refine .nil (.tn ?_)
        refine .cn rfl (fun hc2 => ?_) (fun hc2 => ?_)
        · skip
          refine .region ?_
          refine .w (.move rfl) ?_
          refine .w (.asI ((2 * r + 2 : Nat) : Int) (.bin rfl rfl (BinR.add_i zqf))) ?_
          refine .w (.assign rfl) ?_
          refine .nil ?_
          refine .hd (2 * r + 2) ?_
          exact ⟨by omega, by omega⟩
        · skip
          refine .skip ?_
          refine .hd (2 * r + 1) ?_
          exact ⟨by omega, by omega⟩
      · have hg15' := hg15
        try simp only [decide_eq_true_eq, decide_eq_false_iff_not, Bool.not_eq_true', Bool.not_eq_false', ne_eq, Decidable.not_not, Bool.not_eq_true, Bool.and_eq_true, Bool.or_eq_true, BitVec.reduceToNat] at hg15'
        refine JR.gf (g := 21) rfl rfl rfl rfl hg15 (by decide) ?_
        refine JR.gf (g := 21) rfl rfl rfl rfl hg15 (by decide) ?_
        refine JR.gf (g := 21) rfl rfl rfl rfl hg15 (by decide) ?_
        refine JR.gf (g := 21) rfl rfl rfl rfl hg15 (by decide) ?_
        refine JR.gf (g := 21) rfl rfl rfl rfl hg15 (by decide) ?_
        refine JR.gf (g := 21) rfl rfl rfl rfl hg15 (by decide) ?_
        refine JR.gf (g := 21) rfl rfl rfl rfl hg15 (by decide) ?_
        refine JR.gf (g := 21) rfl rfl rfl rfl hg15 (by decide) ?_
        refine JR.gf (g := 21) rfl rfl rfl rfl hg15 (by decide) ?_
        refine JR.gf (g := 21) rfl rfl rfl rfl hg15 (by decide) ?_
        refine JR.gf (g := 21) rfl rfl rfl rfl hg15 (by decide) ?_
        refine JR.gf (g := 21) rfl rfl rfl rfl hg15 (by decide) ?_
        refine JR.gf (g := 21) rfl rfl rfl rfl hg15 (by decide) ?_
        refine JR.gfm (g := 21) rfl rfl rfl rfl hg15 (by decide) ?_ ?_
        · exact ⟨Subs.sub zqe, .inl rfl⟩
        refine JR.u rfl rfl rfl (Yv.pick0 rfl hg15 rfl) (by decide) ?_
        refine .nil (.tn ?_)
        refine .k0 rfl rfl ?_
        refine .skip ?_
        refine .hd (2 * r + 1) ?_
        exact ⟨by omega, by omega⟩
    · obtain ⟨q, hq⟩ : ∃ q, q = x := ⟨_, rfl⟩
      subst hq
      obtain ⟨h5, h6⟩ := hx
      refine .seq (.seq ?_)
      refine JC.draw (.one 0 (.one 1 (.one 2 (.one 3 (.one 4 (.one 5 (.one 6 (.one 7 (.one 8 (.one 9 (.one 10 (.one 11 (.one 12 (.one 13 .nil)))))))))))))) (fun i => ([12] : List Nat).contains i) (fun i => ([12] : List Nat).contains i) (fun i => ([0, 1, 2, 3, 4, 6, 7, 8, 9, 10, 13] : List Nat).contains i) mixed (by kernel_rfl) (by decide) (by kernel_rfl) ?_
      refine .uw rfl (.move rfl) ?_
      refine .uw rfl (.move rfl) ?_
      refine .uw rfl (.move rfl) ?_
      refine .uw rfl (.asI ((first + r : Nat) : Int) (.bin rfl rfl (BinR.add_i zqf))) ?_
      refine .uw rfl (.as (v' := ptr (blk (.slice (some ⟨g, 0, none⟩) n c)) (first + r)) (.indexSl0 Tryz.underlying22 sz_30 rfl rfl zqb) (congrArg (ptr g) (Nat.mul_one _))) ?_
      refine .w rfl (.ld one_30 rfl) ?_
      refine .uw rfl (.move rfl) ?_
      refine .uw rfl (.move rfl) ?_
      refine .uw rfl (.move rfl) ?_
      refine .uw rfl (.asI ((first + q : Nat) : Int) (.bin rfl rfl (BinR.add_i zqf))) ?_
      refine .uw rfl (.as (v' := ptr (blk (.slice (some ⟨g, 0, none⟩) n c)) (first + q)) (.indexSl0 Tryz.underlying22 sz_30 rfl rfl zqb) (congrArg (ptr g) (Nat.mul_one _))) ?_
      refine .w rfl (.ld one_30 rfl) ?_
      refine .mw rfl (.c (f105_spec (zs.getD (first + r) 0) (zs.getD (first + q) 0)) body_105) ?_
      rintro _ _ _ ⟨rfl, rfl, rfl⟩
      refine kp ?_
      refine .uw rfl (.not rfl) ?_
      refine .nil (.tn ?_)
      refine .cn rfl (fun hc3 => ?_) (fun hc3 => ?_)
      · skip
        refine .ret (.then_ret (.block_ret (.then_ret (.block_ret ?_))))
        exact .dn [] [Res.row (.slice (some ⟨g, 0, none⟩) n c) n 30 1 (zs.map u64)] (res_none rfl) ⟨zs, hp, rfl, rfl⟩
      · skip
        refine .skip (.tn (.seq ?_))
        refine JC.draw (.one 0 (.one 1 (.one 2 (.one 3 (.one 4 (.one 5 (.one 6 (.one 7 (.one 8 (.one 9 (.one 10 (.one 11 (.one 12 (.one 13 (.one 14 (.one 15 (.one 16 (.one 17 (.one 18 (.one 19 (.one 20 (.one 21 (.one 22 (.one 23 .nil)))))))))))))))))))))))) (fun i => ([21, 23] : List Nat).contains i) (fun i => ([21, 23] : List Nat).contains i) (fun i => ([0, 1, 2, 3, 4, 5, 6, 7, 8, 9, 10, 11, 12, 14, 15, 16, 17, 18, 20, 22] : List Nat).contains i) mixed (by kernel_rfl) (by decide) (by kernel_rfl) ?_
        refine .uw rfl (.move rfl) ?_
        refine .uw rfl (.move rfl) ?_
        refine .uw rfl (.move rfl) ?_
        refine .uw rfl (.asI ((first + r : Nat) : Int) (.bin rfl rfl (BinR.add_i zqf))) ?_
        refine .uw rfl (.move rfl) ?_
        refine .uw rfl (.move rfl) ?_
        refine .uw rfl (.move rfl) ?_
        refine .uw rfl (.asI ((first + q : Nat) : Int) (.bin rfl rfl (BinR.add_i zqf))) ?_
        refine .uw rfl (.move rfl) ?_
        refine .uw rfl (.move rfl) ?_
        refine .uw rfl (.move rfl) ?_
        refine .uw rfl (.asI ((first + q : Nat) : Int) (.bin rfl rfl (BinR.add_i zqf))) ?_
        refine .uw rfl (.as (v' := ptr (blk (.slice (some ⟨g, 0, none⟩) n c)) (first + q)) (.indexSl0 Tryz.underlying22 sz_30 rfl rfl zqb) (congrArg (ptr g) (Nat.mul_one _))) ?_
        refine .w rfl (.ld one_30 rfl) ?_
        refine .uw rfl (.move rfl) ?_
        refine .uw rfl (.move rfl) ?_
        refine .uw rfl (.move rfl) ?_
        refine .uw rfl (.asI ((first + r : Nat) : Int) (.bin rfl rfl (BinR.add_i zqf))) ?_
        refine .uw rfl (.as (v' := ptr (blk (.slice (some ⟨g, 0, none⟩) n c)) (first + r)) (.indexSl0 Tryz.underlying22 sz_30 rfl rfl zqb) (congrArg (ptr g) (Nat.mul_one _))) ?_
        refine .w rfl (.ld one_30 rfl) ?_
        refine .uw rfl (.as (v' := ptr (blk (.slice (some ⟨g, 0, none⟩) n c)) (first + r)) (.indexSl0 Tryz.underlying22 sz_30 rfl rfl zqb) (congrArg (ptr g) (Nat.mul_one _))) ?_
        first | refine .mw0 rfl (.s1 sz_30) ?_ | refine .mw0 rfl (.sr1 sz_30) ?_
        rintro _ _ _ ⟨rfl, rfl⟩
        refine kp ?_
        refine .uw rfl (.as (v' := ptr (blk (.slice (some ⟨g, 0, none⟩) n c)) (first + q)) (.indexSl0 Tryz.underlying22 sz_30 rfl rfl zqb) (congrArg (ptr g) (Nat.mul_one _))) ?_
        first | refine .mw0 rfl (.s1 sz_30) ?_ | refine .mw0 rfl (.sr1 sz_30) ?_
        rintro _ _ _ ⟨rfl, rfl⟩
        refine kp ?_
        rw [swap_row]
        refine .nil (.tn (.region ?_))
        refine .w (.move rfl) ?_
        refine .w (.assign rfl) ?_
        refine .nil (.block_normal ?_)
        refine .hd (q, ((zs.set (first + r) (zs.getD (first + q) 0)).set (first + q) (zs.getD (first + r) 0))) ?_
        exact ⟨⟨by dsimp only; omega, (swap_perm (by omega) (by omega)).trans hp⟩, by dsimp only; omega⟩

theorem f100_spec (g c n : Nat) (xs : List W64) (hl : xs.length = n) (hn : n ≤ 1000) (a b : Nat) (h1 : a < b) (h2 : b ≤ n) :
    Spec Tryz.prog 100 #[(.slice (some ⟨g, 0, none⟩) n c), (it (a : Int)), (it (b : Int))] [] [Res.row (.slice (some ⟨g, 0, none⟩) n c) n 30 1 (xs.map u64)]
      (fun r Γ' H' => ∃ ys : List W64, ys.Perm xs ∧ Γ' = [] ∧ H' = [Res.row (.slice (some ⟨g, 0, none⟩) n c) n 30 1 (ys.map u64)]) := by
  refine Spec.of_args Tryz.func100 rfl Tryz.ntmps100 (by simp) fun w => ?_
  refine .seq (.region ?_)
  refine .w (.move rfl) ?_
  refine .w (.assign rfl) ?_
  refine .nil (.tn (.seq (.region ?_)))
  refine .w (.assign rfl) ?_
  refine .nil (.tn (.seq (.region ?_)))
  refine .w (.move rfl) ?_
  refine .w (.move rfl) ?_
  refine .w (.asI ((b - a : Nat) : Int) (.bin rfl rfl (BinR.sub_i zqf))) ?_
  refine .w (.assign rfl) ?_
  refine .nil (.tn (.seq (.seq (.region ?_))))
  refine .w (.move rfl) ?_
  refine .w (.asI ((b - a - 1 : Nat) : Int) (.bin rfl rfl (BinR.sub_i zqf))) ?_
  refine .w (.bin rfl rfl (BinR.quo_i (by first | omega | decide | (simp; omega)) (by first | omega | decide | (simp; omega)) zqf)) ?_
  refine .w (.asI (((b - a - 1) / 2 + 1 : Nat) - 1 : Int) (.assign rfl)) ?_
  refine .nil (.tn (.block ?_))
  refine .lp (ι := Nat × List W64) (fun x => x.1 ≤ b - a ∧ x.2.Perm xs) (fun T x => (9, it ((x.1 : Int) - 1)) :: T) (fun T _ => T) (fun T x => Res.row (.slice (some ⟨g, 0, none⟩) n c) n 30 1 (x.2.map u64) :: T) (fun x => x.1) ((b - a - 1) / 2 + 1, xs) [0, 6, 7, 8, 10, 27, 28, 29, 30, 31, 32, 33, 34, 35, 36, 37, 38, 39, 40, 41, 42, 43, 44, 45, 46, 47, 48, 49, 50, 51, 52, 53, 54] ?_ (fun x hx => ?_)
  · exact ⟨by dsimp only; omega, .refl _⟩
  obtain ⟨i, zs⟩ := x
  obtain ⟨h3, hp⟩ := hx
  dsimp only at h3 hp ⊢
  have hzl : zs.length = n := hp.length_eq.trans hl
  refine .seq (.seq (.region ?_))
  refine .w (.move rfl) ?_
  refine .w (.bin rfl rfl BinR.geq_i) ?_
  refine .nil (.tn ?_)
  refine .cn rfl (fun hc1 => ?_) (fun hc1 => ?_)
  · skip
    refine .skip (.tn (.seq (.block (.region ?_))))
    refine .w (.move rfl) ?_
    refine .w (.asI ((i - 1 : Nat) : Int) (.move rfl)) ?_
    refine .w (.move rfl) ?_
    refine .w (.move rfl) ?_
    refine .cb (f116_spec g c n zs hzl hn (i - 1) (b - a) a (by omega) (by omega)) body_116 ?_ (h0 := by rintro _ _ _ ⟨_, _, h, _⟩; exact h)
    rintro _ _ ⟨ys, hy, _, rfl⟩
    refine .ap ?_
    refine .nil (.block_normal (.tn (.region ?_)))
    refine .w (.move rfl) ?_
    refine .w (.asI (((i - 1 : Nat) : Int) - 1) (.bin rfl rfl (BinR.sub_i zqf))) ?_
    refine .w (.assign rfl) ?_
    refine .nil ?_
    refine .hd (i - 1, ys) ?_
    exact ⟨⟨by dsimp only; omega, hy.trans hp⟩, by dsimp only; omega⟩
  · skip
    refine .exit (.then_exit (.then_exit (.block_exit (.tn (.seq (.region ?_))))))
    refine .w (.move rfl) ?_
    refine .w (.bin rfl rfl (BinR.sub_i zqf)) ?_
    refine .w (.assign rfl) ?_
    refine .nil (.tn (.block ?_))
    refine .lp (ι := Nat × List W64) (fun x => x.1 ≤ b - a ∧ x.2.Perm xs) (fun T x => (10, it ((x.1 : Int) - 1)) :: T) (fun T _ => T) (fun T x => Res.row (.slice (some ⟨g, 0, none⟩) n c) n 30 1 (x.2.map u64) :: T) (fun x => x.1) (b - a, zs) [0, 6, 7] ?_ (fun x hx => ?_)
    · exact ⟨Nat.le_refl _, hp⟩
    obtain ⟨j, us⟩ := x
    obtain ⟨h4, hq⟩ := hx
    dsimp only at h4 hq ⊢
    have hul : us.length = n := hq.length_eq.trans hl
    refine .seq (.seq (.region ?_))
    refine .w (.move rfl) ?_
    refine .w (.bin rfl rfl BinR.geq_i) ?_
    refine .nil (.tn ?_)
    refine .cn rfl (fun hc2 => ?_) (fun hc2 => ?_)
    · skip
      refine .skip (.tn (.seq (.block (.seq ?_))))
      refine JC.draw (.one 0 (.one 1 (.one 2 (.one 3 (.one 4 (.one 5 (.one 6 (.one 7 (.one 8 (.one 9 (.one 10 (.one 11 (.one 12 (.one 13 (.one 14 (.one 15 (.one 16 (.one 17 (.one 18 (.one 19 .nil)))))))))))))))))))) (fun i => ([17, 19] : List Nat).contains i) (fun i => ([17, 19] : List Nat).contains i) (fun i => ([0, 1, 2, 3, 4, 5, 6, 7, 8, 9, 10, 12, 13, 14, 16, 18] : List Nat).contains i) mixed (by kernel_rfl) (by decide) (by kernel_rfl) ?_
      refine .uw rfl (.move rfl) ?_
      refine .uw rfl (.move rfl) ?_
      refine .uw rfl (.move rfl) ?_
      refine .uw rfl (.move rfl) ?_
      refine .uw rfl (.asI ((j - 1 : Nat) : Int) (.move rfl)) ?_
      refine .uw rfl (.asI ((a + (j - 1) : Nat) : Int) (.bin rfl rfl (BinR.add_i zqf))) ?_
      refine .uw rfl (.move rfl) ?_
      refine .uw rfl (.move rfl) ?_
      refine .uw rfl (.asI ((j - 1 : Nat) : Int) (.move rfl)) ?_
      refine .uw rfl (.asI ((a + (j - 1) : Nat) : Int) (.bin rfl rfl (BinR.add_i zqf))) ?_
      refine .uw rfl (.as (v' := ptr (blk (.slice (some ⟨g, 0, none⟩) n c)) (a + (j - 1))) (.indexSl0 Tryz.underlying22 sz_30 rfl rfl zqb) (congrArg (ptr g) (Nat.mul_one _))) ?_
      refine .w rfl (.ld one_30 rfl) ?_
      refine .uw rfl (.move rfl) ?_
      refine .uw rfl (.move rfl) ?_
      refine .uw rfl (.as (v' := ptr (blk (.slice (some ⟨g, 0, none⟩) n c)) a) (.indexSl0 Tryz.underlying22 sz_30 rfl rfl zqb) (congrArg (ptr g) (Nat.mul_one _))) ?_
      refine .w rfl (.ld one_30 rfl) ?_
      refine .uw rfl (.as (v' := ptr (blk (.slice (some ⟨g, 0, none⟩) n c)) a) (.indexSl0 Tryz.underlying22 sz_30 rfl rfl zqb) (congrArg (ptr g) (Nat.mul_one _))) ?_
      first | refine .mw0 rfl (.s1 sz_30) ?_ | refine .mw0 rfl (.sr1 sz_30) ?_
      rintro _ _ _ ⟨rfl, rfl⟩
      refine kp ?_
      refine .uw rfl (.as (v' := ptr (blk (.slice (some ⟨g, 0, none⟩) n c)) (a + (j - 1))) (.indexSl0 Tryz.underlying22 sz_30 rfl rfl zqb) (congrArg (ptr g) (Nat.mul_one _))) ?_
      first | refine .mw0 rfl (.s1 sz_30) ?_ | refine .mw0 rfl (.sr1 sz_30) ?_
      rintro _ _ _ ⟨rfl, rfl⟩
      refine kp ?_
      rw [swap_row]
      refine .nil (.tn (.region ?_))
      refine .w (.move rfl) ?_
      refine .w (.asI ((0 : Nat) : Int) (.move rfl)) ?_
      refine .w (.asI ((j - 1 : Nat) : Int) (.move rfl)) ?_
      refine .w (.move rfl) ?_
      refine .cb (f116_spec g c n ((us.set a (us.getD (a + (j - 1)) 0)).set (a + (j - 1)) (us.getD a 0)) (by rw [List.length_set, List.length_set]; exact hul) hn 0 (j - 1) a (by omega) (by omega)) body_116 ?_ (h0 := by rintro _ _ _ ⟨_, _, h, _⟩; exact h)
      rintro _ _ ⟨ys, hy, _, rfl⟩
      refine .ap ?_
      refine .nil (.block_normal (.tn (.region ?_)))
      refine .w (.move rfl) ?_
      refine .w (.asI (((j - 1 : Nat) : Int) - 1) (.bin rfl rfl (BinR.sub_i zqf))) ?_
      refine .w (.assign rfl) ?_
      refine .nil ?_
      refine .hd (j - 1, ys) ?_
      exact ⟨⟨by dsimp only; omega, (hy.trans (swap_perm (by omega) (by omega))).trans hq⟩, by dsimp only; omega⟩
    · skip
      refine .exit (.then_exit (.then_exit (.block_exit ?_)))
      exact .dn [] [Res.row (.slice (some ⟨g, 0, none⟩) n c) n 30 1 (us.map u64)] (res_none rfl) ⟨us, hq, rfl, rfl⟩

theorem f103_spec (g c n : Nat) (xs : List W64) (hl : xs.length = n) (hn : n ≤ 1000) (a b : Nat) (h2 : b ≤ n) :
    Spec Tryz.prog 103 #[(.slice (some ⟨g, 0, none⟩) n c), (it (a : Int)), (it (b : Int))] [] [Res.row (.slice (some ⟨g, 0, none⟩) n c) n 30 1 (xs.map u64)]
      (fun r Γ' H' => ∃ ys : List W64, ys.Perm xs ∧ Γ' = [] ∧ H' = [Res.row (.slice (some ⟨g, 0, none⟩) n c) n 30 1 (ys.map u64)]) := by
  refine Spec.of_args Tryz.func103 rfl Tryz.ntmps103 (by simp) fun w => ?_
  refine .seq (.region ?_)
  refine .w (.move rfl) ?_
  refine .w (.assign rfl) ?_
  refine .nil (.tn (.seq (.region ?_)))
  refine .w (.move rfl) ?_
  refine .w (.bin rfl rfl (BinR.sub_i zqf)) ?_
  refine .w (.assign rfl) ?_
  refine .nil (.tn (.block ?_))
  refine .lp (ι := (Nat × Nat) × List W64) (fun x => x.1.2 ≤ n ∧ x.2.Perm xs) (fun T x => (6, it (x.1.1 : Int)) :: (7, it ((x.1.2 : Int) - 1)) :: T) (fun T _ => T) (fun T x => Res.row (.slice (some ⟨g, 0, none⟩) n c) n 30 1 (x.2.map u64) :: T) (fun x => x.1.2) ((a, b), xs) [0] ?_ (fun x hx => ?_)
  · exact ⟨h2, .refl _⟩
  obtain ⟨⟨i, j⟩, zs⟩ := x
  obtain ⟨h3, hp⟩ := hx
  dsimp only at h3 hp ⊢
  have hzl : zs.length = n := hp.length_eq.trans hl
  refine .seq (.seq (.region ?_))
  refine .w (.move rfl) ?_
  refine .w (.move rfl) ?_
  refine .w (.bin rfl rfl BinR.lss_i) ?_
  refine .nil (.tn ?_)
  refine .cn rfl (fun hc1 => ?_) (fun hc1 => ?_)
  · skip
    refine .skip (.tn (.block (.seq ?_)))
    refine JC.draw (.one 0 (.one 1 (.one 2 (.one 3 (.one 4 (.one 5 (.one 6 (.one 7 (.one 8 (.one 9 (.one 10 (.one 11 (.one 12 (.one 13 (.one 14 (.one 15 .nil)))))))))))))))) (fun i => ([13, 15] : List Nat).contains i) (fun i => ([13, 15] : List Nat).contains i) (fun i => ([0, 1, 2, 3, 4, 5, 6, 8, 9, 10, 12, 14] : List Nat).contains i) mixed (by kernel_rfl) (by decide) (by kernel_rfl) ?_
    refine .uw rfl (.move rfl) ?_
    refine .uw rfl (.move rfl) ?_
    refine .uw rfl (.move rfl) ?_
    refine .uw rfl (.asI ((j - 1 : Nat) : Int) (.move rfl)) ?_
    refine .uw rfl (.move rfl) ?_
    refine .uw rfl (.asI ((j - 1 : Nat) : Int) (.move rfl)) ?_
    refine .uw rfl (.as (v' := ptr (blk (.slice (some ⟨g, 0, none⟩) n c)) (j - 1)) (.indexSl0 Tryz.underlying22 sz_30 rfl rfl zqb) (congrArg (ptr g) (Nat.mul_one _))) ?_
    refine .w rfl (.ld one_30 rfl) ?_
    refine .uw rfl (.move rfl) ?_
    refine .uw rfl (.move rfl) ?_
    refine .uw rfl (.as (v' := ptr (blk (.slice (some ⟨g, 0, none⟩) n c)) i) (.indexSl0 Tryz.underlying22 sz_30 rfl rfl zqb) (congrArg (ptr g) (Nat.mul_one _))) ?_
    refine .w rfl (.ld one_30 rfl) ?_
    refine .uw rfl (.as (v' := ptr (blk (.slice (some ⟨g, 0, none⟩) n c)) i) (.indexSl0 Tryz.underlying22 sz_30 rfl rfl zqb) (congrArg (ptr g) (Nat.mul_one _))) ?_
    first | refine .mw0 rfl (.s1 sz_30) ?_ | refine .mw0 rfl (.sr1 sz_30) ?_
    rintro _ _ _ ⟨rfl, rfl⟩
    refine kp ?_
    refine .uw rfl (.as (v' := ptr (blk (.slice (some ⟨g, 0, none⟩) n c)) (j - 1)) (.indexSl0 Tryz.underlying22 sz_30 rfl rfl zqb) (congrArg (ptr g) (Nat.mul_one _))) ?_
    first | refine .mw0 rfl (.s1 sz_30) ?_ | refine .mw0 rfl (.sr1 sz_30) ?_
    rintro _ _ _ ⟨rfl, rfl⟩
    refine kp ?_
    rw [swap_row]
    refine .nil (.tn (.seq (.region ?_)))
    refine .w (.move rfl) ?_
    refine .w (.asI ((i + 1 : Nat) : Int) (.bin rfl rfl (BinR.add_i zqf))) ?_
    refine .w (.assign rfl) ?_
    refine .nil (.tn (.region ?_))
    refine .w (.asI ((j - 1 : Nat) : Int) (.move rfl)) ?_
    refine .w (.asI (((j - 1 : Nat) : Int) - 1) (.bin rfl rfl (BinR.sub_i zqf))) ?_
    refine .w (.assign rfl) ?_
    refine .nil (.block_normal ?_)
    refine .hd ((i + 1, j - 1), ((zs.set i (zs.getD (j - 1) 0)).set (j - 1) (zs.getD i 0))) ?_
    exact ⟨⟨by dsimp only; omega, (swap_perm (by omega) (by omega)).trans hp⟩, by dsimp only; omega⟩
  · skip
    refine .exit (.then_exit (.then_exit (.block_exit ?_)))
    exact .dn [] [Res.row (.slice (some ⟨g, 0, none⟩) n c) n 30 1 (zs.map u64)] (res_none rfl) ⟨zs, hp, rfl, rfl⟩

theorem f122_spec (g c n : Nat) (xs : List W64) (hl : xs.length = n) (hn : n ≤ 1000) (i j s : Nat) (q : Nat) (hi : i < n) (hj : j < n) (hq : q ≤ 1000) :
    Spec Tryz.prog 122 #[(.slice (some ⟨g, 0, none⟩) n c), (it (i : Int)), (it (j : Int)), (ptr s 0)] [Res.rd (.slice (some ⟨g, 0, none⟩) n c) n 1 (xs.map u64)] [Res.cells s [it (q : Int)] 3]
      (fun r Γ' H' => ∃ (i' j' q' : Nat), r = .tuple #[it (i' : Int), it (j' : Int)] ∧ ((i' = i ∧ j' = j) ∨ (i' = j ∧ j' = i)) ∧ q' ≤ q + 1 ∧ Γ' = [] ∧ H' = [Res.cells s [it (q' : Int)] 3]) := by
  refine Spec.of_args Tryz.func122 rfl Tryz.ntmps122 (by simp) fun w => ?_
  refine .seq (.region ?_)
  refine .w (.assign rfl) ?_
  refine .w (.assign rfl) ?_
  refine .nil (.tn (.seq (.seq ?_)))
  refine JC.draw (.one 0 (.one 1 (.one 2 (.one 3 (.one 4 (.one 5 (.one 6 (.one 7 (.one 8 .nil))))))))) (fun i => ([8] : List Nat).contains i) (fun i => ([8] : List Nat).contains i) (fun i => ([0, 1, 2, 4, 5, 6] : List Nat).contains i) mixed (by kernel_rfl) (by decide) (by kernel_rfl) ?_
  refine .uw rfl (.move rfl) ?_
  refine .uw rfl (.move rfl) ?_
  refine .uw rfl (.ix1 Tryz.underlying22 sz_30 rfl rfl) ?_
  refine .w rfl (.ld one_30 rfl) ?_
  refine .uw rfl (.move rfl) ?_
  refine .uw rfl (.move rfl) ?_
  refine .uw rfl (.ix1 Tryz.underlying22 sz_30 rfl rfl) ?_
  refine .w rfl (.ld one_30 rfl) ?_
  refine .mw rfl (.c (f105_spec (xs.getD j 0) (xs.getD i 0)) body_105) ?_
  rintro _ _ _ ⟨rfl, rfl, rfl⟩
  refine kp ?_
  refine .nil (.tn ?_)
  refine .cn rfl (fun hc1 => ?_) (fun hc1 => ?_)
  · skip
    refine .seq (.region ?_)
    refine .w (.move rfl) ?_
    refine .w (.nilCheck rfl) ?_
    refine .w (.ld one_3 rfl) ?_
    refine .w (.asI ((q + 1 : Nat) : Int) (.bin rfl rfl (BinR.add_i zqf))) ?_
    refine .w (.nilCheck rfl) ?_
    first | refine .s1 sz_3 ?_ | refine .sr1 sz_3 ?_
    refine .nil (.tn (.seq (.region ?_)))
    refine .w (.move rfl) ?_
    refine .w (.move rfl) ?_
    refine .w (.assign rfl) ?_
    refine .w (.assign rfl) ?_
    refine .nil (.tn (.ret (.then_ret ?_)))
    exact .dn [] [Res.cells s [it ((q + 1 : Nat) : Int)] 3] (res2 rfl (.tmp rfl) (.tmp rfl)) ⟨j, i, q + 1, rfl, .inr ⟨rfl, rfl⟩, by omega, rfl, rfl⟩
  · skip
    refine .skip (.tn (.seq (.region ?_)))
    refine .w (.move rfl) ?_
    refine .w (.move rfl) ?_
    refine .w (.assign rfl) ?_
    refine .w (.assign rfl) ?_
    refine .nil (.tn (.ret ?_))
    exact .dn [] [Res.cells s [it (q : Int)] 3] (res2 rfl (.tmp rfl) (.tmp rfl)) ⟨i, j, q, rfl, .inl ⟨rfl, rfl⟩, by omega, rfl, rfl⟩

theorem f118_spec (g c n : Nat) (xs : List W64) (hl : xs.length = n) (hn : n ≤ 1000) (i j l s : Nat) (q : Nat) (hi : i < n) (hj : j < n) (hk : l < n) (hq : q ≤ 100) :
    Spec Tryz.prog 118 #[(.slice (some ⟨g, 0, none⟩) n c), (it (i : Int)), (it (j : Int)), (it (l : Int)), (ptr s 0)] [Res.rd (.slice (some ⟨g, 0, none⟩) n c) n 1 (xs.map u64)] [Res.cells s [it (q : Int)] 3]
      (fun r Γ' H' => ∃ (j' q' : Nat), r = it (j' : Int) ∧ (j' = i ∨ j' = j ∨ j' = l) ∧ Γ' = [] ∧ H' = [Res.cells s [it (q' : Int)] 3]) := by
  refine Spec.of_args Tryz.func118 rfl Tryz.ntmps118 (by simp) fun w => ?_
  refine .seq (.region ?_)
  refine .w (.assign rfl) ?_
  refine .nil (.tn (.seq (.region ?_)))
  refine .w (.move rfl) ?_
  refine .w (.move rfl) ?_
  refine .w (.move rfl) ?_
  refine .w (.move rfl) ?_
  refine .cb (f122_spec g c n xs hl hn i j s q hi hj (by omega)) body_122 ?_ (h0 := by rintro _ _ _ ⟨_, _, _, _, _, _, h, _⟩; exact h)
  rintro _ _ ⟨i1, j1, q1, rfl, ho1, hq1, _, rfl⟩
  refine .ap ?_
  refine .w (.move rfl) ?_
  refine .w (.extract rfl rfl) ?_
  refine .w (.extract rfl rfl) ?_
  refine .w (.assign rfl) ?_
  refine .w (.assign rfl) ?_
  refine .nil (.tn (.seq (.region ?_)))
  refine .w (.move rfl) ?_
  refine .w (.move rfl) ?_
  refine .w (.move rfl) ?_
  refine .w (.move rfl) ?_
  refine .cb (f122_spec g c n xs hl hn j1 l s q1 (by omega) hk (by omega)) body_122 ?_ (h0 := by rintro _ _ _ ⟨_, _, _, _, _, _, h, _⟩; exact h)
  rintro _ _ ⟨i2, j2, q2, rfl, ho2, hq2, _, rfl⟩
  refine .ap ?_
  refine .w (.move rfl) ?_
  refine .w (.extract rfl rfl) ?_
  refine .w (.extract rfl rfl) ?_
  refine .w (.assign rfl) ?_
  refine .w (.assign rfl) ?_
  refine .nil (.tn (.seq (.region ?_)))
  refine .w (.move rfl) ?_
  refine .w (.move rfl) ?_
  refine .w (.move rfl) ?_
  refine .w (.move rfl) ?_
  refine .cb (f122_spec g c n xs hl hn i1 i2 s q2 (by omega) (by omega) (by omega)) body_122 ?_ (h0 := by rintro _ _ _ ⟨_, _, _, _, _, _, h, _⟩; exact h)
  rintro _ _ ⟨i3, j3, q3, rfl, ho3, hq3, _, rfl⟩
  refine .ap ?_
  refine .w (.move rfl) ?_
  refine .w (.extract rfl rfl) ?_
  refine .w (.extract rfl rfl) ?_
  refine .w (.assign rfl) ?_
  refine .w (.assign rfl) ?_
  refine .nil (.tn (.seq (.region ?_)))
  refine .w (.move rfl) ?_
  refine .w (.assign rfl) ?_
  refine .nil (.tn (.ret ?_))
  exact .dn [] [Res.cells s [it (q3 : Int)] 3] (res1 rfl (.tmp rfl)) ⟨j3, q3, rfl, by omega, rfl, rfl⟩

theorem f102_spec (g c n : Nat) (xs : List W64) (hl : xs.length = n) (hn : n ≤ 1000) (a b : Nat) (h1 : a + 8 ≤ b) (h2 : b ≤ n) (h3 : b < a + 50) :
    Spec Tryz.prog 102 #[(.slice (some ⟨g, 0, none⟩) n c), (it (a : Int)), (it (b : Int))] [Res.rd (.slice (some ⟨g, 0, none⟩) n c) n 1 (xs.map u64)] []
      (fun r Γ' H' => ∃ (j : Nat) (q : Int), r = .tuple #[it (j : Int), it q] ∧ a ≤ j ∧ j < b ∧ Γ' = [] ∧ H' = []) := by
  refine Spec.of_args Tryz.func102 rfl Tryz.ntmps102 (by simp) fun w => ?_
  refine .seq (.region ?_)
  refine .w (.assign rfl) ?_
  refine .w (.assign rfl) ?_
  refine .nil (.tn (.seq (.region ?_)))
  refine .w (.move rfl) ?_
  refine .w (.move rfl) ?_
  refine .w (.asI ((b - a : Nat) : Int) (.bin rfl rfl (BinR.sub_i zqf))) ?_
  refine .w (.assign rfl) ?_
  refine .nil (.tn (.seq (.region ?_)))
  refine .al zero_3 fun b9 => ?_
  refine .nil (.tn (.seq (.region ?_)))
  refine .w (.move rfl) ?_
  refine .w (.move rfl) ?_
  refine .w (.asI (((b - a) / 4 : Nat) : Int) (.bin rfl rfl (BinR.quo_i (by first | omega | decide | (simp; omega)) (by first | omega | decide | (simp; omega)) zqf))) ?_
  refine .w (.asI (((b - a) / 4 : Nat) : Int) (.bin rfl rfl (BinR.mul_i zqf))) ?_
  refine .w (.asI ((a + (b - a) / 4 : Nat) : Int) (.bin rfl rfl (BinR.add_i zqf))) ?_
  refine .w (.assign rfl) ?_
  refine .nil (.tn (.seq (.region ?_)))
  refine .w (.move rfl) ?_
  refine .w (.move rfl) ?_
  refine .w (.asI (((b - a) / 4 : Nat) : Int) (.bin rfl rfl (BinR.quo_i (by first | omega | decide | (simp; omega)) (by first | omega | decide | (simp; omega)) zqf))) ?_
  refine .w (.asI (((b - a) / 4 * 2 : Nat) : Int) (.bin rfl rfl (BinR.mul_i zqf))) ?_
  refine .w (.asI ((a + (b - a) / 4 * 2 : Nat) : Int) (.bin rfl rfl (BinR.add_i zqf))) ?_
  refine .w (.assign rfl) ?_
  refine .nil (.tn (.seq (.region ?_)))
  refine .w (.move rfl) ?_
  refine .w (.move rfl) ?_
  refine .w (.asI (((b - a) / 4 : Nat) : Int) (.bin rfl rfl (BinR.quo_i (by first | omega | decide | (simp; omega)) (by first | omega | decide | (simp; omega)) zqf))) ?_
  refine .w (.asI (((b - a) / 4 * 3 : Nat) : Int) (.bin rfl rfl (BinR.mul_i zqf))) ?_
  refine .w (.asI ((a + (b - a) / 4 * 3 : Nat) : Int) (.bin rfl rfl (BinR.add_i zqf))) ?_
  refine .w (.assign rfl) ?_
  refine .nil (.tn (.seq (.seq (.region ?_))))
  refine .w (.move rfl) ?_
  refine .w (.asT (.bin rfl rfl BinR.geq_i)) ?_
  refine .nil (.tn ?_)
  refine .ct rfl ?_
  refine .seq (.seq (.region ?_))
  refine .w (.move rfl) ?_
  refine .w (.asF (.bin rfl rfl BinR.geq_i)) ?_
  refine .nil (.tn ?_)
  refine .cf rfl ?_
  refine .skip (.tn (.region ?_))
  refine .w (.move rfl) ?_
  refine .w (.move rfl) ?_
  refine .w (.move rfl) ?_
  refine .w (.move rfl) ?_
  refine .cb (f118_spec g c n xs hl hn (a + (b - a) / 4) (a + (b - a) / 4 * 2) (a + (b - a) / 4 * 3) b9 0 (by omega) (by omega) (by omega) (by omega)) body_118 ?_ (h0 := by rintro _ _ _ ⟨_, _, _, _, h, _⟩; exact h)
  rintro _ _ ⟨j, q, rfl, hj, _, rfl⟩
  refine .ap ?_
  refine .w (.assign rfl) ?_
  refine .nil (.tn (.seq (.region ?_)))
  refine .w (.ld one_3 rfl) ?_
  refine .nil (.tn (.block (.seq (.region ?_))))
  refine .w (.bin rfl rfl BinR.eql_i) ?_
  refine .w (.assign rfl) ?_
  refine .nil (.tn ?_)
  refine .cn rfl (fun hc3 => ?_) (fun hc3 => ?_)
  · skip
    refine .seq (.region ?_)
    refine .w (.move rfl) ?_
    refine .w (.assign rfl) ?_
    refine .w (.assign rfl) ?_
    refine .nil (.tn (.ret (.block_ret ?_)))
    exact .dn [] [] (res2 rfl (.tmp rfl) (.tmp rfl)) ⟨j, _, rfl, by omega, by omega, rfl, rfl⟩
  · skip
    refine .seq (.region ?_)
    refine .w (.bin rfl rfl BinR.eql_i) ?_
    refine .w (.assign rfl) ?_
    refine .nil (.tn ?_)
    refine .cn rfl (fun hc4 => ?_) (fun hc4 => ?_)
    · skip
      refine .seq (.region ?_)
      refine .w (.move rfl) ?_
      refine .w (.assign rfl) ?_
      refine .w (.assign rfl) ?_
      refine .nil (.tn (.ret (.block_ret ?_)))
      exact .dn [] [] (res2 rfl (.tmp rfl) (.tmp rfl)) ⟨j, _, rfl, by omega, by omega, rfl, rfl⟩
    · skip
      refine .seq (.region ?_)
      refine .w (.move rfl) ?_
      refine .w (.assign rfl) ?_
      refine .w (.assign rfl) ?_
      refine .nil (.tn (.ret (.block_ret ?_)))
      exact .dn [] [] (res2 rfl (.tmp rfl) (.tmp rfl)) ⟨j, _, rfl, by omega, by omega, rfl, rfl⟩

theorem f104_spec (g c n : Nat) (xs : List W64) (hl : xs.length = n) (hn : n ≤ 1000) (a b : Nat) (h1 : a < b) (h2 : b ≤ n) (h3 : b < a + 50) :
    Spec Tryz.prog 104 #[(.slice (some ⟨g, 0, none⟩) n c), (it (a : Int)), (it (b : Int))] [Res.rd (.slice (some ⟨g, 0, none⟩) n c) n 1 (xs.map u64)] []
      (fun r Γ' H' => ∃ q : Bool, r = .bool q ∧ Γ' = [] ∧ H' = []) := by
  refine Spec.of_args Tryz.func104 rfl Tryz.ntmps104 (by simp) fun w => ?_
  refine .seq (.region ?_)
  refine .w (.assign rfl) ?_
  refine .nil (.tn (.seq (.region ?_)))
  refine .w (.move rfl) ?_
  refine .w (.asI ((a + 1 : Nat) : Int) (.bin rfl rfl (BinR.add_i zqf))) ?_
  refine .w (.assign rfl) ?_
  refine .nil (.tn (.seq (.seq (.region ?_))))
  refine .w (.assign rfl) ?_
  refine .nil (.tn (.block ?_))
  refine .lp (ι := Unit) (fun x => True) (fun T x => (7, it ((a + 1 : Nat) : Int)) :: (8, it 0) :: T) (fun T _ => T) (fun T _ => T) (fun x => 0) () [0, 1, 2] ?_ (fun x hx => ?_)
  · trivial
  obtain ⟨⟩ := x
  refine .seq (.seq (.region ?_))
  refine .w (.move rfl) ?_
  refine .w (.asT (.bin rfl rfl BinR.lss_i)) ?_
  refine .nil (.tn ?_)
  refine .ct rfl ?_
  refine .skip (.tn (.seq (.block (.seq (.block ?_)))))
  refine .lp (ι := Nat) (fun x => a + 1 ≤ x ∧ x ≤ b) (fun T x => (7, it (x : Int)) :: T) (fun T _ => T) (fun T _ => T) (fun x => b - x) (a + 1) [0, 1, 2, 6, 8, 9, 10, 13, 14, 15, 16, 35, 36, 37, 38, 39, 40, 41, 42, 43, 44, 45, 46, 47, 48, 49, 50, 51, 52, 53, 54, 55, 56, 57, 58, 59, 60, 61, 62, 63, 64, 65, 66, 67, 68, 69, 70, 71, 72, 73, 74, 75, 76, 77, 78, 79, 80, 81, 82, 83, 84, 85, 86, 87, 88, 89, 90, 91, 92, 93, 94, 95, 96, 97, 98, 99, 100, 101, 102, 103, 104, 105, 106, 107, 108, 109, 110, 111, 112, 113, 114, 115, 116, 117, 118, 119, 120, 121, 122, 123, 124, 125, 126, 127, 128, 129, 130, 131, 132] ?_ (fun x hx => ?_)
  · exact ⟨Nat.le_refl _, by omega⟩
  obtain ⟨h4, h5⟩ := hx
  obtain ⟨i, hi⟩ : ∃ i, i = x := ⟨_, rfl⟩
  subst hi
  refine .seq (.seq ?_)
  refine JC.draw (.one 0 (.one 1 (.one 2 (.one 3 (.one 4 (.one 5 (.one 6 (.one 7 (.one 8 (.one 9 (.one 10 (.one 11 (.one 12 (.one 13 (.one 14 (.one 15 .nil)))))))))))))))) (fun i => ([13] : List Nat).contains i) (fun i => ([13] : List Nat).contains i) (fun i => ([0, 1, 2, 3, 4, 5, 6, 8, 9, 10, 11, 14, 15] : List Nat).contains i) mixed (by kernel_rfl) (by decide) (by kernel_rfl) ?_
  refine .uw rfl (.move rfl) ?_
  refine .uw rfl (.move rfl) ?_
  refine .uw rfl (.bin rfl rfl BinR.lss_i) ?_
  refine .uw rfl (.move rfl) ?_
  refine JR.gsplit (g := 19) rfl (fun hg12 => ?_) (fun hg12 => ?_)
  · have hg12' := hg12
    try simp only [decide_eq_true_eq, decide_eq_false_iff_not, Bool.not_eq_true', Bool.not_eq_false', ne_eq, Decidable.not_not, Bool.not_eq_true, Bool.and_eq_true, Bool.or_eq_true, BitVec.reduceToNat] at hg12'
    refine JR.ugt (g := 20) rfl rfl rfl rfl rfl hg12 (.move rfl) (by decide) ?_
    refine JR.ugt (g := 20) rfl rfl rfl rfl rfl hg12 (.move rfl) (by decide) ?_
    refine JR.ugt (g := 20) rfl rfl rfl rfl rfl hg12 (.ix1 Tryz.underlying22 sz_30 rfl rfl) (by decide) ?_
    refine JR.vgt (g := 20) rfl rfl rfl rfl rfl hg12 (.ld one_30 rfl) (by decide) ?_
    refine JR.ugt (g := 20) rfl rfl rfl rfl rfl hg12 (.move rfl) (by decide) ?_
    refine JR.ugt (g := 20) rfl rfl rfl rfl rfl hg12 (.move rfl) (by decide) ?_
    refine JR.ugt (g := 20) rfl rfl rfl rfl rfl hg12 (.asI ((i - 1 : Nat) : Int) (.bin rfl rfl (BinR.sub_i zqf))) (by decide) ?_
    refine JR.ugt (g := 20) rfl rfl rfl rfl rfl hg12 (.ix1 Tryz.underlying22 sz_30 rfl rfl) (by decide) ?_
    refine JR.vgt (g := 20) rfl rfl rfl rfl rfl hg12 (.ld one_30 rfl) (by decide) ?_
    refine JR.mgt (g := 20) rfl rfl rfl rfl hg12 (.c (f105_spec (xs.getD i 0) (xs.getD (i - 1) 0)) body_105) (by decide) ?_
    rintro _ _ _ ⟨rfl, rfl, rfl⟩
    refine kp ?_
    refine JR.ugt (g := 20) rfl rfl rfl rfl rfl hg12 (.not rfl) (by decide) ?_
    refine JR.u rfl rfl rfl (Yv.pick1 rfl hg12 rfl) (by decide) ?_
    refine .nil (.tn ?_)
    refine .cn rfl (fun hc2 => ?_) (fun hc2 => ?_)
    · skip
      refine .skip (.tn (.block (.region ?_)))
      refine .w (.move rfl) ?_
      refine .w (.asI ((i + 1 : Nat) : Int) (.bin rfl rfl (BinR.add_i zqf))) ?_
      refine .w (.assign rfl) ?_
      refine .nil (.block_normal ?_)
      refine .hd (i + 1) ?_
      have hib : i < b := by simp at hc2; omega
      exact ⟨⟨by omega, by omega⟩, by omega⟩
    · skip
      refine .exit (.then_exit (.then_exit (.block_exit (.tn (.seq (.seq (.region ?_)))))))
      refine .w (.move rfl) ?_
      refine .w (.move rfl) ?_
      refine .w (.bin rfl rfl BinR.eql_i) ?_
      refine .nil (.tn ?_)
      refine .cn rfl (fun hc3 => ?_) (fun hc3 => ?_)
      · skip
        refine .seq (.region ?_)
        refine .w (.assign rfl) ?_
        refine .nil (.tn (.ret (.then_ret (.block_ret (.then_ret (.then_ret (.block_ret (.then_ret ?_))))))))
        exact .dn [] [] (res1 rfl (.tmp rfl)) ⟨_, rfl, rfl, rfl⟩
      · skip
        refine .skip (.tn (.seq (.seq (.region ?_))))
        refine .w (.move rfl) ?_
        refine .w (.move rfl) ?_
        refine .w (.bin rfl rfl (BinR.sub_i zqf)) ?_
        refine .w (.asT (.bin rfl rfl BinR.lss_i)) ?_
        refine .nil (.tn ?_)
        refine .ct rfl ?_
        refine .seq (.region ?_)
        refine .w (.assign rfl) ?_
        refine .nil (.tn (.ret (.then_ret (.block_ret (.then_ret (.then_ret (.block_ret (.then_ret ?_))))))))
        exact .dn [] [] (res1 rfl (.tmp rfl)) ⟨_, rfl, rfl, rfl⟩
  · have hg12' := hg12
    try simp only [decide_eq_true_eq, decide_eq_false_iff_not, Bool.not_eq_true', Bool.not_eq_false', ne_eq, Decidable.not_not, Bool.not_eq_true, Bool.and_eq_true, Bool.or_eq_true, BitVec.reduceToNat] at hg12'
    refine JR.gf (g := 20) rfl rfl rfl rfl hg12 (by decide) ?_
    refine JR.gf (g := 20) rfl rfl rfl rfl hg12 (by decide) ?_
    refine JR.gf (g := 20) rfl rfl rfl rfl hg12 (by decide) ?_
    refine JR.gf (g := 20) rfl rfl rfl rfl hg12 (by decide) ?_
    refine JR.gf (g := 20) rfl rfl rfl rfl hg12 (by decide) ?_
    refine JR.gf (g := 20) rfl rfl rfl rfl hg12 (by decide) ?_
    refine JR.gf (g := 20) rfl rfl rfl rfl hg12 (by decide) ?_
    refine JR.gf (g := 20) rfl rfl rfl rfl hg12 (by decide) ?_
    refine JR.gf (g := 20) rfl rfl rfl rfl hg12 (by decide) ?_
    refine JR.gfm (g := 20) rfl rfl rfl rfl hg12 (by decide) ?_ ?_
    · exact ⟨Subs.sub zqe, .inl rfl⟩
    refine JR.gf (g := 20) rfl rfl rfl rfl hg12 (by decide) ?_
    refine JR.u rfl rfl rfl (Yv.pick0 rfl hg12 rfl) (by decide) ?_
    refine .nil (.tn ?_)
    refine .k0 rfl rfl ?_
    refine .exit (.then_exit (.then_exit (.block_exit (.tn (.seq (.seq (.region ?_)))))))
    refine .w (.move rfl) ?_
    refine .w (.move rfl) ?_
    refine .w (.bin rfl rfl BinR.eql_i) ?_
    refine .nil (.tn ?_)
    refine .cn rfl (fun hc3 => ?_) (fun hc3 => ?_)
    · skip
      refine .seq (.region ?_)
      refine .w (.assign rfl) ?_
      refine .nil (.tn (.ret (.then_ret (.block_ret (.then_ret (.then_ret (.block_ret (.then_ret ?_))))))))
      exact .dn [] [] (res1 rfl (.tmp rfl)) ⟨_, rfl, rfl, rfl⟩
    · skip
      refine .skip (.tn (.seq (.seq (.region ?_))))
      refine .w (.move rfl) ?_
      refine .w (.move rfl) ?_
      refine .w (.bin rfl rfl (BinR.sub_i zqf)) ?_
      refine .w (.asT (.bin rfl rfl BinR.lss_i)) ?_
      refine .nil (.tn ?_)
      refine .ct rfl ?_
      refine .seq (.region ?_)
      refine .w (.assign rfl) ?_
      refine .nil (.tn (.ret (.then_ret (.block_ret (.then_ret (.then_ret (.block_ret (.then_ret ?_))))))))
      exact .dn [] [] (res1 rfl (.tmp rfl)) ⟨_, rfl, rfl, rfl⟩
end Go.Proofs.YthfipbjmpeegbaaGreatDoor

/- Walks: numbers sorted: partitions. -/
namespace Go.Proofs.YthfipbjmpeegbaaGreatDoor
open Go.RowKit
set_option maxRecDepth 100000
set_option linter.unusedVariables false
set_option linter.unusedSimpArgs false
theorem f107_spec (g c n : Nat) (xs : List W64) (hl : xs.length = n) (hn : n ≤ 1000) (a b pv : Nat) (h1 : a ≤ pv) (h2 : pv < b) (h3 : b ≤ n) :
    Spec Tryz.prog 107 #[(.slice (some ⟨g, 0, none⟩) n c), (it (a : Int)), (it (b : Int)), (it (pv : Int))] [] [Res.row (.slice (some ⟨g, 0, none⟩) n c) n 30 1 (xs.map u64)]
      (fun r Γ' H' => ∃ (m : Nat) (q : Bool) (ys : List W64), r = .tuple #[it (m : Int), .bool q] ∧ a ≤ m ∧ m < b ∧ ys.Perm xs ∧ Γ' = [] ∧ H' = [Res.row (.slice (some ⟨g, 0, none⟩) n c) n 30 1 (ys.map u64)]) := by
  refine Spec.of_args Tryz.func107 rfl Tryz.ntmps107 (by simp) fun w => ?_
  refine .seq (.region ?_)
  refine .w (.assign rfl) ?_
  refine .w (.assign rfl) ?_
  refine .nil (.tn (.seq ?_))
  refine JC.draw (.one 0 (.one 1 (.one 2 (.one 3 (.one 4 (.one 5 (.one 6 (.one 7 (.one 8 (.one 9 (.one 10 (.one 11 (.one 12 (.one 13 (.one 14 (.one 15 .nil)))))))))))))))) (fun i => ([13, 15] : List Nat).contains i) (fun i => ([13, 15] : List Nat).contains i) (fun i => ([0, 1, 2, 3, 4, 5, 6, 8, 9, 10, 12, 14] : List Nat).contains i) mixed (by kernel_rfl) (by decide) (by kernel_rfl) ?_
  refine .uw rfl (.move rfl) ?_
  refine .uw rfl (.move rfl) ?_
  refine .uw rfl (.move rfl) ?_
  refine .uw rfl (.move rfl) ?_
  refine .uw rfl (.move rfl) ?_
  refine .uw rfl (.move rfl) ?_
  refine .uw rfl (.as (v' := ptr (blk (.slice (some ⟨g, 0, none⟩) n c)) pv) (.indexSl0 Tryz.underlying22 sz_30 rfl rfl zqb) (congrArg (ptr g) (Nat.mul_one _))) ?_
  refine .w rfl (.ld one_30 rfl) ?_
  refine .uw rfl (.move rfl) ?_
  refine .uw rfl (.move rfl) ?_
  refine .uw rfl (.as (v' := ptr (blk (.slice (some ⟨g, 0, none⟩) n c)) a) (.indexSl0 Tryz.underlying22 sz_30 rfl rfl zqb) (congrArg (ptr g) (Nat.mul_one _))) ?_
  refine .w rfl (.ld one_30 rfl) ?_
  refine .uw rfl (.as (v' := ptr (blk (.slice (some ⟨g, 0, none⟩) n c)) a) (.indexSl0 Tryz.underlying22 sz_30 rfl rfl zqb) (congrArg (ptr g) (Nat.mul_one _))) ?_
  first | refine .mw0 rfl (.s1 sz_30) ?_ | refine .mw0 rfl (.sr1 sz_30) ?_
  rintro _ _ _ ⟨rfl, rfl⟩
  refine kp ?_
  refine .uw rfl (.as (v' := ptr (blk (.slice (some ⟨g, 0, none⟩) n c)) pv) (.indexSl0 Tryz.underlying22 sz_30 rfl rfl zqb) (congrArg (ptr g) (Nat.mul_one _))) ?_
  first | refine .mw0 rfl (.s1 sz_30) ?_ | refine .mw0 rfl (.sr1 sz_30) ?_
  rintro _ _ _ ⟨rfl, rfl⟩
  refine kp ?_
  rw [swap_row]
  refine .nil (.tn (.seq (.region ?_)))
  have hp0 := swap_perm (ys := xs) (i := a) (j := pv) (by omega) (by omega)
  obtain ⟨zs, hzs⟩ : ∃ zs, zs = ((xs.set a (xs.getD pv 0)).set pv (xs.getD a 0)) := ⟨_, rfl⟩
  rw [← hzs] at hp0 ⊢
  have hzl : zs.length = n := hp0.length_eq.trans hl
  refine .w (.move rfl) ?_
  refine .w (.asI ((a + 1 : Nat) : Int) (.bin rfl rfl (BinR.add_i zqf))) ?_
  refine .w (.move rfl) ?_
  refine .w (.asI ((b - 1 : Nat) : Int) (.bin rfl rfl (BinR.sub_i zqf))) ?_
  refine .w (.assign rfl) ?_
  refine .w (.assign rfl) ?_
  refine .nil (.tn ?_)
  refine .mt (ι := Nat) (fun x => a + 1 ≤ x ∧ x ≤ b) (fun T x => (10, it (x : Int)) :: T) (fun T _ => T) (fun T _ => T) [0, 1, 8, 9, 11, 46, 47, 48, 49, 50, 51, 52, 53, 54, 55, 56, 57, 58, 59, 60, 61, 62, 63, 64, 65, 66, 67, 68, 69, 70, 71, 72, 73, 74, 75, 76, 77, 78, 79, 80, 81, 82, 83, 84, 85, 86, 87, 88, 89, 90, 91, 92, 93, 94, 95, 96, 97, 98, 99, 100, 101, 102, 103, 104, 105, 106, 107, 108, 109, 110, 111, 112, 113, 114, 115, 116, 117, 118, 119, 120, 121, 122, 123, 124, 125, 126, 127, 128, 129, 130, 131, 132, 133, 134, 135, 136, 137, 138, 139, 140, 141, 142, 143, 144, 145, 146, 147, 148, 149, 150, 151, 152, 153, 154, 155, 156, 157, 158, 159, 160, 161, 162, 163, 164, 165, 166, 167] [] ?_ (fun x hx => ?_)
  · refine .block ?_
    refine .lp (ι := Nat) (fun x => a + 1 ≤ x ∧ x ≤ b) (fun T x => (10, it (x : Int)) :: T) (fun T _ => T) (fun T _ => T) (fun x => b - x) (a + 1) [0, 1, 8, 9, 11, 46, 47, 48, 49, 50, 51, 52, 53, 54, 55, 56, 57, 58, 59, 60, 61, 62, 63, 64, 65, 66, 67, 68, 69, 70, 71, 72, 73, 74, 75, 76, 77, 78, 79, 80, 81, 82, 83, 84, 85, 86, 87, 88, 89, 90, 91, 92, 93, 94, 95, 96, 97, 98, 99, 100, 101, 102, 103, 104, 105, 106, 107, 108, 109, 110, 111, 112, 113, 114, 115, 116, 117, 118, 119, 120, 121, 122, 123, 124, 125, 126, 127, 128, 129, 130, 131, 132, 133, 134, 135, 136, 137, 138, 139, 140, 141, 142, 143, 144, 145, 146, 147, 148, 149, 150, 151, 152, 153, 154, 155, 156, 157, 158, 159, 160, 161, 162, 163, 164, 165, 166, 167] ?_ (fun x hx => ?_)
    · exact ⟨Nat.le_refl _, by omega⟩
    obtain ⟨i, hi⟩ : ∃ i, i = x := ⟨_, rfl⟩
    subst hi
    obtain ⟨h4, h5⟩ := hx
    refine .seq (.seq ?_)
    refine JC.draw (.one 0 (.one 1 (.one 2 (.one 3 (.one 4 (.one 5 (.one 6 (.one 7 (.one 8 (.one 9 (.one 10 (.one 11 (.one 12 (.one 13 .nil)))))))))))))) (fun i => ([12] : List Nat).contains i) (fun i => ([12] : List Nat).contains i) (fun i => ([0, 1, 2, 3, 4, 5, 6, 8, 9, 10, 13] : List Nat).contains i) mixed (by kernel_rfl) (by decide) (by kernel_rfl) ?_
    refine .uw rfl (.move rfl) ?_
    refine .uw rfl (.move rfl) ?_
    refine .uw rfl (.bin rfl rfl BinR.leq_i) ?_
    refine .uw rfl (.move rfl) ?_
    refine JR.gsplit (g := 32) rfl (fun hg29 => ?_) (fun hg29 => ?_)
    · have hg29' := hg29
      try simp only [decide_eq_true_eq, decide_eq_false_iff_not, Bool.not_eq_true', Bool.not_eq_false', ne_eq, Decidable.not_not, Bool.not_eq_true, Bool.and_eq_true, Bool.or_eq_true, BitVec.reduceToNat] at hg29'
      refine JR.ugt (g := 33) rfl rfl rfl rfl rfl hg29 (.move rfl) (by decide) ?_
      refine JR.ugt (g := 33) rfl rfl rfl rfl rfl hg29 (.move rfl) (by decide) ?_
      refine JR.ugt (g := 33) rfl rfl rfl rfl rfl hg29 (.as (v' := ptr (blk (.slice (some ⟨g, 0, none⟩) n c)) i) (.indexSl0 Tryz.underlying22 sz_30 rfl rfl zqb) (congrArg (ptr g) (Nat.mul_one _))) (by decide) ?_
      refine JR.vgt (g := 33) rfl rfl rfl rfl rfl hg29 (.ld one_30 rfl) (by decide) ?_
      refine JR.ugt (g := 33) rfl rfl rfl rfl rfl hg29 (.move rfl) (by decide) ?_
      refine JR.ugt (g := 33) rfl rfl rfl rfl rfl hg29 (.move rfl) (by decide) ?_
      refine JR.ugt (g := 33) rfl rfl rfl rfl rfl hg29 (.as (v' := ptr (blk (.slice (some ⟨g, 0, none⟩) n c)) a) (.indexSl0 Tryz.underlying22 sz_30 rfl rfl zqb) (congrArg (ptr g) (Nat.mul_one _))) (by decide) ?_
      refine JR.vgt (g := 33) rfl rfl rfl rfl rfl hg29 (.ld one_30 rfl) (by decide) ?_
      refine JR.mgt (g := 33) rfl rfl rfl rfl hg29 (.c (f105_spec (zs.getD i 0) (zs.getD a 0)) body_105) (by decide) ?_
      rintro _ _ _ ⟨rfl, rfl, rfl⟩
      refine kp ?_
      refine JR.u rfl rfl rfl (Yv.pick1 rfl hg29 rfl) (by decide) ?_
      refine .nil (.tn ?_)
      refine .cn rfl (fun hc1 => ?_) (fun hc1 => ?_)
      · skip
        refine .skip (.tn (.block (.region ?_)))
        refine .w (.move rfl) ?_
        refine .w (.asI ((i + 1 : Nat) : Int) (.bin rfl rfl (BinR.add_i zqf))) ?_
        refine .w (.assign rfl) ?_
        refine .nil (.block_normal ?_)
        refine .hd (i + 1) ?_
        exact ⟨⟨by omega, by omega⟩, by omega⟩
      · skip
        refine .exit (.then_exit (.then_exit (.block_exit ?_)))
        refine .hd i ?_
        exact ⟨h4, h5⟩
    · have hg29' := hg29
      try simp only [decide_eq_true_eq, decide_eq_false_iff_not, Bool.not_eq_true', Bool.not_eq_false', ne_eq, Decidable.not_not, Bool.not_eq_true, Bool.and_eq_true, Bool.or_eq_true, BitVec.reduceToNat] at hg29'
      refine JR.gf (g := 33) rfl rfl rfl rfl hg29 (by decide) ?_
      refine JR.gf (g := 33) rfl rfl rfl rfl hg29 (by decide) ?_
      refine JR.gf (g := 33) rfl rfl rfl rfl hg29 (by decide) ?_
      refine JR.gf (g := 33) rfl rfl rfl rfl hg29 (by decide) ?_
      refine JR.gf (g := 33) rfl rfl rfl rfl hg29 (by decide) ?_
      refine JR.gf (g := 33) rfl rfl rfl rfl hg29 (by decide) ?_
      refine JR.gf (g := 33) rfl rfl rfl rfl hg29 (by decide) ?_
      refine JR.gf (g := 33) rfl rfl rfl rfl hg29 (by decide) ?_
      refine JR.gfm (g := 33) rfl rfl rfl rfl hg29 (by decide) ?_ ?_
      · exact ⟨Subs.sub zqe, .inl rfl⟩
      refine JR.u rfl rfl rfl (Yv.pick0 rfl hg29 rfl) (by decide) ?_
      refine .nil (.tn ?_)
      refine .k0 rfl rfl ?_
      refine .exit (.then_exit (.then_exit (.block_exit ?_)))
      refine .hd i ?_
      exact ⟨h4, h5⟩
  · obtain ⟨i, hi⟩ : ∃ i, i = x := ⟨_, rfl⟩
    subst hi
    obtain ⟨h4, h5⟩ := hx
    refine .mt (ι := Nat) (fun x => a ≤ x ∧ x ≤ b - 1) (fun T x => (11, it (x : Int)) :: T) (fun T _ => T) (fun T _ => T) [0, 1, 8, 9, 10, 63, 64, 65, 66, 67, 68, 69, 70, 71, 72, 73, 74, 75, 76, 77, 78, 79, 80, 81, 82, 83, 84, 85, 86, 87, 88, 89, 90, 91, 92, 93, 94, 95, 96, 97, 98, 99, 100, 101, 102, 103, 104, 105, 106, 107, 108, 109, 110, 111, 112, 113, 114, 115, 116, 117, 118, 119, 120, 121, 122, 123, 124, 125, 126, 127, 128, 129, 130, 131, 132, 133, 134, 135, 136, 137, 138, 139, 140, 141, 142, 143, 144, 145, 146, 147, 148, 149, 150, 151, 152, 153, 154, 155, 156, 157, 158, 159, 160, 161, 162, 163, 164, 165, 166, 167] [] ?_ (fun x hx => ?_)
    · refine .block ?_
      refine .lp (ι := Nat) (fun x => a ≤ x ∧ x ≤ b - 1) (fun T x => (11, it (x : Int)) :: T) (fun T _ => T) (fun T _ => T) (fun x => x) (b - 1) [0, 1, 8, 9, 10, 63, 64, 65, 66, 67, 68, 69, 70, 71, 72, 73, 74, 75, 76, 77, 78, 79, 80, 81, 82, 83, 84, 85, 86, 87, 88, 89, 90, 91, 92, 93, 94, 95, 96, 97, 98, 99, 100, 101, 102, 103, 104, 105, 106, 107, 108, 109, 110, 111, 112, 113, 114, 115, 116, 117, 118, 119, 120, 121, 122, 123, 124, 125, 126, 127, 128, 129, 130, 131, 132, 133, 134, 135, 136, 137, 138, 139, 140, 141, 142, 143, 144, 145, 146, 147, 148, 149, 150, 151, 152, 153, 154, 155, 156, 157, 158, 159, 160, 161, 162, 163, 164, 165, 166, 167] ?_ (fun x hx => ?_)
      · exact ⟨by omega, Nat.le_refl _⟩
      obtain ⟨j, hj⟩ : ∃ j, j = x := ⟨_, rfl⟩
      subst hj
      obtain ⟨h6, h7⟩ := hx
      refine .seq (.seq ?_)
      refine JC.draw (.one 0 (.one 1 (.one 2 (.one 3 (.one 4 (.one 5 (.one 6 (.one 7 (.one 8 (.one 9 (.one 10 (.one 11 (.one 12 (.one 13 (.one 14 .nil))))))))))))))) (fun i => ([12] : List Nat).contains i) (fun i => ([12] : List Nat).contains i) (fun i => ([0, 1, 2, 3, 4, 5, 6, 8, 9, 10, 13, 14] : List Nat).contains i) mixed (by kernel_rfl) (by decide) (by kernel_rfl) ?_
      refine .uw rfl (.move rfl) ?_
      refine .uw rfl (.move rfl) ?_
      refine .uw rfl (.bin rfl rfl BinR.leq_i) ?_
      refine .uw rfl (.move rfl) ?_
      refine JR.gsplit (g := 48) rfl (fun hg46 => ?_) (fun hg46 => ?_)
      · have hg46' := hg46
        try simp only [decide_eq_true_eq, decide_eq_false_iff_not, Bool.not_eq_true', Bool.not_eq_false', ne_eq, Decidable.not_not, Bool.not_eq_true, Bool.and_eq_true, Bool.or_eq_true, BitVec.reduceToNat] at hg46'
        refine JR.ugt (g := 49) rfl rfl rfl rfl rfl hg46 (.move rfl) (by decide) ?_
        refine JR.ugt (g := 49) rfl rfl rfl rfl rfl hg46 (.move rfl) (by decide) ?_
        refine JR.ugt (g := 49) rfl rfl rfl rfl rfl hg46 (.as (v' := ptr (blk (.slice (some ⟨g, 0, none⟩) n c)) j) (.indexSl0 Tryz.underlying22 sz_30 rfl rfl zqb) (congrArg (ptr g) (Nat.mul_one _))) (by decide) ?_
        refine JR.vgt (g := 49) rfl rfl rfl rfl rfl hg46 (.ld one_30 rfl) (by decide) ?_
        refine JR.ugt (g := 49) rfl rfl rfl rfl rfl hg46 (.move rfl) (by decide) ?_
        refine JR.ugt (g := 49) rfl rfl rfl rfl rfl hg46 (.move rfl) (by decide) ?_
        refine JR.ugt (g := 49) rfl rfl rfl rfl rfl hg46 (.as (v' := ptr (blk (.slice (some ⟨g, 0, none⟩) n c)) a) (.indexSl0 Tryz.underlying22 sz_30 rfl rfl zqb) (congrArg (ptr g) (Nat.mul_one _))) (by decide) ?_
        refine JR.vgt (g := 49) rfl rfl rfl rfl rfl hg46 (.ld one_30 rfl) (by decide) ?_
        refine JR.mgt (g := 49) rfl rfl rfl rfl hg46 (.c (f105_spec (zs.getD j 0) (zs.getD a 0)) body_105) (by decide) ?_
        rintro _ _ _ ⟨rfl, rfl, rfl⟩
        refine kp ?_
        refine JR.ugt (g := 49) rfl rfl rfl rfl rfl hg46 (.not rfl) (by decide) ?_
        refine JR.u rfl rfl rfl (Yv.pick1 rfl hg46 rfl) (by decide) ?_
        refine .nil (.tn ?_)
        refine .cn rfl (fun hc2 => ?_) (fun hc2 => ?_)
        · skip
          refine .skip (.tn (.block (.region ?_)))
          refine .w (.move rfl) ?_
          refine .w (.asI ((j - 1 : Nat) : Int) (.bin rfl rfl (BinR.sub_i zqf))) ?_
          refine .w (.assign rfl) ?_
          refine .nil (.block_normal ?_)
          refine .hd (j - 1) ?_
          exact ⟨⟨by omega, by omega⟩, by omega⟩
        · skip
          refine .exit (.then_exit (.then_exit (.block_exit ?_)))
          refine .hd j ?_
          exact ⟨h6, h7⟩
      · have hg46' := hg46
        try simp only [decide_eq_true_eq, decide_eq_false_iff_not, Bool.not_eq_true', Bool.not_eq_false', ne_eq, Decidable.not_not, Bool.not_eq_true, Bool.and_eq_true, Bool.or_eq_true, BitVec.reduceToNat] at hg46'
        refine JR.gf (g := 49) rfl rfl rfl rfl hg46 (by decide) ?_
        refine JR.gf (g := 49) rfl rfl rfl rfl hg46 (by decide) ?_
        refine JR.gf (g := 49) rfl rfl rfl rfl hg46 (by decide) ?_
        refine JR.gf (g := 49) rfl rfl rfl rfl hg46 (by decide) ?_
        refine JR.gf (g := 49) rfl rfl rfl rfl hg46 (by decide) ?_
        refine JR.gf (g := 49) rfl rfl rfl rfl hg46 (by decide) ?_
        refine JR.gf (g := 49) rfl rfl rfl rfl hg46 (by decide) ?_
        refine JR.gf (g := 49) rfl rfl rfl rfl hg46 (by decide) ?_
        refine JR.gfm (g := 49) rfl rfl rfl rfl hg46 (by decide) ?_ ?_
        · exact ⟨Subs.sub zqe, .inl rfl⟩
        refine JR.gf (g := 49) rfl rfl rfl rfl hg46 (by decide) ?_
        refine JR.u rfl rfl rfl (Yv.pick0 rfl hg46 rfl) (by decide) ?_
        refine .nil (.tn ?_)
        refine .k0 rfl rfl ?_
        refine .exit (.then_exit (.then_exit (.block_exit ?_)))
        refine .hd j ?_
        exact ⟨h6, h7⟩
    · obtain ⟨j, hj⟩ : ∃ j, j = x := ⟨_, rfl⟩
      subst hj
      obtain ⟨h6, h7⟩ := hx
      refine .seq (.seq (.region ?_))
      refine .w (.move rfl) ?_
      refine .w (.move rfl) ?_
      refine .w (.bin rfl rfl BinR.gtr_i) ?_
      refine .nil (.tn ?_)
      refine .cn rfl (fun hc3 => ?_) (fun hc3 => ?_)
      · skip
        refine .seq ?_
        refine JC.draw (.one 0 (.one 1 (.one 2 (.one 3 (.one 4 (.one 5 (.one 6 (.one 7 (.one 8 (.one 9 (.one 10 (.one 11 (.one 12 (.one 13 (.one 14 (.one 15 .nil)))))))))))))))) (fun i => ([13, 15] : List Nat).contains i) (fun i => ([13, 15] : List Nat).contains i) (fun i => ([0, 1, 2, 3, 4, 5, 6, 8, 9, 10, 12, 14] : List Nat).contains i) mixed (by kernel_rfl) (by decide) (by kernel_rfl) ?_
        refine .uw rfl (.move rfl) ?_
        refine .uw rfl (.move rfl) ?_
        refine .uw rfl (.move rfl) ?_
        refine .uw rfl (.move rfl) ?_
        refine .uw rfl (.move rfl) ?_
        refine .uw rfl (.move rfl) ?_
        refine .uw rfl (.as (v' := ptr (blk (.slice (some ⟨g, 0, none⟩) n c)) a) (.indexSl0 Tryz.underlying22 sz_30 rfl rfl zqb) (congrArg (ptr g) (Nat.mul_one _))) ?_
        refine .w rfl (.ld one_30 rfl) ?_
        refine .uw rfl (.move rfl) ?_
        refine .uw rfl (.move rfl) ?_
        refine .uw rfl (.as (v' := ptr (blk (.slice (some ⟨g, 0, none⟩) n c)) j) (.indexSl0 Tryz.underlying22 sz_30 rfl rfl zqb) (congrArg (ptr g) (Nat.mul_one _))) ?_
        refine .w rfl (.ld one_30 rfl) ?_
        refine .uw rfl (.as (v' := ptr (blk (.slice (some ⟨g, 0, none⟩) n c)) j) (.indexSl0 Tryz.underlying22 sz_30 rfl rfl zqb) (congrArg (ptr g) (Nat.mul_one _))) ?_
        first | refine .mw0 rfl (.s1 sz_30) ?_ | refine .mw0 rfl (.sr1 sz_30) ?_
        rintro _ _ _ ⟨rfl, rfl⟩
        refine kp ?_
        refine .uw rfl (.as (v' := ptr (blk (.slice (some ⟨g, 0, none⟩) n c)) a) (.indexSl0 Tryz.underlying22 sz_30 rfl rfl zqb) (congrArg (ptr g) (Nat.mul_one _))) ?_
        first | refine .mw0 rfl (.s1 sz_30) ?_ | refine .mw0 rfl (.sr1 sz_30) ?_
        rintro _ _ _ ⟨rfl, rfl⟩
        refine kp ?_
        rw [swap_row]
        refine .nil (.tn (.seq (.region ?_)))
        refine .w (.move rfl) ?_
        refine .w (.assign rfl) ?_
        refine .w (.assign rfl) ?_
        refine .nil (.tn (.ret (.then_ret ?_)))
        exact .dn [] [Res.row (.slice (some ⟨g, 0, none⟩) n c) n 30 1 (((zs.set j (zs.getD a 0)).set a (zs.getD j 0)).map u64)] (res2 rfl (.tmp rfl) (.tmp rfl)) ⟨j, true, _, rfl, by omega, by omega, (swap_perm (by omega) (by omega)).trans hp0, rfl, rfl⟩
      · skip
        refine .skip (.tn (.seq ?_))
        refine JC.draw (.one 0 (.one 1 (.one 2 (.one 3 (.one 4 (.one 5 (.one 6 (.one 7 (.one 8 (.one 9 (.one 10 (.one 11 (.one 12 (.one 13 (.one 14 (.one 15 .nil)))))))))))))))) (fun i => ([13, 15] : List Nat).contains i) (fun i => ([13, 15] : List Nat).contains i) (fun i => ([0, 1, 2, 3, 4, 5, 6, 8, 9, 10, 12, 14] : List Nat).contains i) mixed (by kernel_rfl) (by decide) (by kernel_rfl) ?_
        refine .uw rfl (.move rfl) ?_
        refine .uw rfl (.move rfl) ?_
        refine .uw rfl (.move rfl) ?_
        refine .uw rfl (.move rfl) ?_
        refine .uw rfl (.move rfl) ?_
        refine .uw rfl (.move rfl) ?_
        refine .uw rfl (.as (v' := ptr (blk (.slice (some ⟨g, 0, none⟩) n c)) j) (.indexSl0 Tryz.underlying22 sz_30 rfl rfl zqb) (congrArg (ptr g) (Nat.mul_one _))) ?_
        refine .w rfl (.ld one_30 rfl) ?_
        refine .uw rfl (.move rfl) ?_
        refine .uw rfl (.move rfl) ?_
        refine .uw rfl (.as (v' := ptr (blk (.slice (some ⟨g, 0, none⟩) n c)) i) (.indexSl0 Tryz.underlying22 sz_30 rfl rfl zqb) (congrArg (ptr g) (Nat.mul_one _))) ?_
        refine .w rfl (.ld one_30 rfl) ?_
        refine .uw rfl (.as (v' := ptr (blk (.slice (some ⟨g, 0, none⟩) n c)) i) (.indexSl0 Tryz.underlying22 sz_30 rfl rfl zqb) (congrArg (ptr g) (Nat.mul_one _))) ?_
        first | refine .mw0 rfl (.s1 sz_30) ?_ | refine .mw0 rfl (.sr1 sz_30) ?_
        rintro _ _ _ ⟨rfl, rfl⟩
        refine kp ?_
        refine .uw rfl (.as (v' := ptr (blk (.slice (some ⟨g, 0, none⟩) n c)) j) (.indexSl0 Tryz.underlying22 sz_30 rfl rfl zqb) (congrArg (ptr g) (Nat.mul_one _))) ?_
        first | refine .mw0 rfl (.s1 sz_30) ?_ | refine .mw0 rfl (.sr1 sz_30) ?_
        rintro _ _ _ ⟨rfl, rfl⟩
        refine kp ?_
        rw [swap_row]
        refine .nil (.tn (.seq (.region ?_)))
        have hp1 := (swap_perm (ys := zs) (i := i) (j := j) (by omega) (by omega)).trans hp0
        obtain ⟨us, hus⟩ : ∃ us, us = ((zs.set i (zs.getD j 0)).set j (zs.getD i 0)) := ⟨_, rfl⟩
        rw [← hus] at hp1 ⊢
        refine .w (.move rfl) ?_
        refine .w (.asI ((i + 1 : Nat) : Int) (.bin rfl rfl (BinR.add_i zqf))) ?_
        refine .w (.assign rfl) ?_
        refine .nil (.tn (.seq (.region ?_)))
        refine .w (.move rfl) ?_
        refine .w (.asI ((j - 1 : Nat) : Int) (.bin rfl rfl (BinR.sub_i zqf))) ?_
        refine .w (.assign rfl) ?_
        refine .nil (.tn (.seq (.block ?_)))
        refine .lp (ι := (Nat × Nat) × List W64) (fun x => a + 1 ≤ x.1.1 ∧ a ≤ x.1.2 ∧ x.1.2 ≤ b - 1 ∧ x.2.Perm xs) (fun T x => (10, it (x.1.1 : Int)) :: (11, it (x.1.2 : Int)) :: T) (fun T _ => T) (fun T x => Res.row (.slice (some ⟨g, 0, none⟩) n c) n 30 1 (x.2.map u64) :: T) (fun x => x.1.2) ((i + 1, j - 1), us) [0, 1, 8, 9, 153, 154, 155, 156, 157, 158, 159, 160, 161, 162, 163, 164, 165, 166, 167] ?_ (fun x hx => ?_)
        · exact ⟨by dsimp only; omega, by dsimp only; omega, by dsimp only; omega, hp1⟩
        obtain ⟨⟨p, q⟩, vs⟩ := x
        obtain ⟨h8, h9, h10, hp2⟩ := hx
        dsimp only at h8 h9 h10 hp2 ⊢
        have hvl : vs.length = n := hp2.length_eq.trans hl
        refine .block ?_
        refine .mt (ι := Nat) (fun x => a + 1 ≤ x) (fun T x => (10, it (x : Int)) :: T) (fun T _ => T) (fun T _ => T) [0, 1, 8, 9, 11, 115, 116, 117, 118, 119, 120, 121, 122, 123, 124, 125, 126, 127, 128, 129, 130, 131, 132, 133, 134, 135, 136, 137, 138, 139, 140, 141, 142, 143, 144, 145, 146, 147, 148, 149, 150, 151, 152, 153, 154, 155, 156, 157, 158, 159, 160, 161, 162, 163, 164, 165, 166, 167] [] ?_ (fun x hx => ?_)
        · refine .block ?_
          refine .lp (ι := Nat) (fun x => a + 1 ≤ x) (fun T x => (10, it (x : Int)) :: T) (fun T _ => T) (fun T _ => T) (fun x => b - x) p [0, 1, 8, 9, 11, 115, 116, 117, 118, 119, 120, 121, 122, 123, 124, 125, 126, 127, 128, 129, 130, 131, 132, 133, 134, 135, 136, 137, 138, 139, 140, 141, 142, 143, 144, 145, 146, 147, 148, 149, 150, 151, 152, 153, 154, 155, 156, 157, 158, 159, 160, 161, 162, 163, 164, 165, 166, 167] ?_ (fun x hx => ?_)
          · exact h8
          obtain ⟨p2, hi⟩ : ∃ i, i = x := ⟨_, rfl⟩
          subst hi
          refine .seq (.seq ?_)
          refine JC.draw (.one 0 (.one 1 (.one 2 (.one 3 (.one 4 (.one 5 (.one 6 (.one 7 (.one 8 (.one 9 (.one 10 (.one 11 (.one 12 (.one 13 .nil)))))))))))))) (fun i => ([12] : List Nat).contains i) (fun i => ([12] : List Nat).contains i) (fun i => ([0, 1, 2, 3, 4, 5, 6, 8, 9, 10, 13] : List Nat).contains i) mixed (by kernel_rfl) (by decide) (by kernel_rfl) ?_
          refine .uw rfl (.move rfl) ?_
          refine .uw rfl (.move rfl) ?_
          refine .uw rfl (.bin rfl rfl BinR.leq_i) ?_
          refine .uw rfl (.move rfl) ?_
          refine JR.gsplit (g := 101) rfl (fun hg108 => ?_) (fun hg108 => ?_)
          · have hg108' := hg108
            try simp only [decide_eq_true_eq, decide_eq_false_iff_not, Bool.not_eq_true', Bool.not_eq_false', ne_eq, Decidable.not_not, Bool.not_eq_true, Bool.and_eq_true, Bool.or_eq_true, BitVec.reduceToNat] at hg108'
            refine JR.ugt (g := 102) rfl rfl rfl rfl rfl hg108 (.move rfl) (by decide) ?_
            refine JR.ugt (g := 102) rfl rfl rfl rfl rfl hg108 (.move rfl) (by decide) ?_
            refine JR.ugt (g := 102) rfl rfl rfl rfl rfl hg108 (.as (v' := ptr (blk (.slice (some ⟨g, 0, none⟩) n c)) p2) (.indexSl0 Tryz.underlying22 sz_30 rfl rfl zqb) (congrArg (ptr g) (Nat.mul_one _))) (by decide) ?_
            refine JR.vgt (g := 102) rfl rfl rfl rfl rfl hg108 (.ld one_30 rfl) (by decide) ?_
            refine JR.ugt (g := 102) rfl rfl rfl rfl rfl hg108 (.move rfl) (by decide) ?_
            refine JR.ugt (g := 102) rfl rfl rfl rfl rfl hg108 (.move rfl) (by decide) ?_
            refine JR.ugt (g := 102) rfl rfl rfl rfl rfl hg108 (.as (v' := ptr (blk (.slice (some ⟨g, 0, none⟩) n c)) a) (.indexSl0 Tryz.underlying22 sz_30 rfl rfl zqb) (congrArg (ptr g) (Nat.mul_one _))) (by decide) ?_
            refine JR.vgt (g := 102) rfl rfl rfl rfl rfl hg108 (.ld one_30 rfl) (by decide) ?_
            refine JR.mgt (g := 102) rfl rfl rfl rfl hg108 (.c (f105_spec (vs.getD p2 0) (vs.getD a 0)) body_105) (by decide) ?_
            rintro _ _ _ ⟨rfl, rfl, rfl⟩
            refine kp ?_
            refine JR.u rfl rfl rfl (Yv.pick1 rfl hg108 rfl) (by decide) ?_
            refine .nil (.tn ?_)
            refine .cn rfl (fun hc4 => ?_) (fun hc4 => ?_)
            · skip
              refine .skip (.tn (.block (.region ?_)))
              refine .w (.move rfl) ?_
              refine .w (.asI ((p2 + 1 : Nat) : Int) (.bin rfl rfl (BinR.add_i zqf))) ?_
              refine .w (.assign rfl) ?_
              refine .nil (.block_normal ?_)
              refine .hd (p2 + 1) ?_
              exact ⟨by omega, by omega⟩
            · skip
              refine .exit (.then_exit (.then_exit (.block_exit ?_)))
              refine .hd p2 ?_
              assumption
          · have hg108' := hg108
            try simp only [decide_eq_true_eq, decide_eq_false_iff_not, Bool.not_eq_true', Bool.not_eq_false', ne_eq, Decidable.not_not, Bool.not_eq_true, Bool.and_eq_true, Bool.or_eq_true, BitVec.reduceToNat] at hg108'
            refine JR.gf (g := 102) rfl rfl rfl rfl hg108 (by decide) ?_
            refine JR.gf (g := 102) rfl rfl rfl rfl hg108 (by decide) ?_
            refine JR.gf (g := 102) rfl rfl rfl rfl hg108 (by decide) ?_
            refine JR.gf (g := 102) rfl rfl rfl rfl hg108 (by decide) ?_
            refine JR.gf (g := 102) rfl rfl rfl rfl hg108 (by decide) ?_
            refine JR.gf (g := 102) rfl rfl rfl rfl hg108 (by decide) ?_
            refine JR.gf (g := 102) rfl rfl rfl rfl hg108 (by decide) ?_
            refine JR.gf (g := 102) rfl rfl rfl rfl hg108 (by decide) ?_
            refine JR.gfm (g := 102) rfl rfl rfl rfl hg108 (by decide) ?_ ?_
            · exact ⟨Subs.sub zqe, .inl rfl⟩
            refine JR.u rfl rfl rfl (Yv.pick0 rfl hg108 rfl) (by decide) ?_
            refine .nil (.tn ?_)
            refine .k0 rfl rfl ?_
            refine .exit (.then_exit (.then_exit (.block_exit ?_)))
            refine .hd p2 ?_
            assumption
        · obtain ⟨p2, hi⟩ : ∃ i, i = x := ⟨_, rfl⟩
          subst hi
          refine .mt (ι := Nat) (fun x => a ≤ x ∧ x ≤ q) (fun T x => (11, it (x : Int)) :: T) (fun T _ => T) (fun T _ => T) [0, 1, 8, 9, 10, 99, 100, 101, 102, 103, 104, 105, 106, 107, 108, 109, 110, 111, 112, 113, 114, 132, 133, 134, 135, 136, 137, 138, 139, 140, 141, 142, 143, 144, 145, 146, 147, 148, 149, 150, 151, 152, 153, 154, 155, 156, 157, 158, 159, 160, 161, 162, 163, 164, 165, 166, 167] [] ?_ (fun x hx => ?_)
          · refine .block ?_
            refine .lp (ι := Nat) (fun x => a ≤ x ∧ x ≤ q) (fun T x => (11, it (x : Int)) :: T) (fun T _ => T) (fun T _ => T) (fun x => x) q [0, 1, 8, 9, 10, 99, 100, 101, 102, 103, 104, 105, 106, 107, 108, 109, 110, 111, 112, 113, 114, 132, 133, 134, 135, 136, 137, 138, 139, 140, 141, 142, 143, 144, 145, 146, 147, 148, 149, 150, 151, 152, 153, 154, 155, 156, 157, 158, 159, 160, 161, 162, 163, 164, 165, 166, 167] ?_ (fun x hx => ?_)
            · exact ⟨h9, Nat.le_refl _⟩
            obtain ⟨q2, hj⟩ : ∃ j, j = x := ⟨_, rfl⟩
            subst hj
            obtain ⟨h11, h12⟩ := hx
            refine .seq (.seq ?_)
            refine JC.draw (.one 0 (.one 1 (.one 2 (.one 3 (.one 4 (.one 5 (.one 6 (.one 7 (.one 8 (.one 9 (.one 10 (.one 11 (.one 12 (.one 13 (.one 14 .nil))))))))))))))) (fun i => ([12] : List Nat).contains i) (fun i => ([12] : List Nat).contains i) (fun i => ([0, 1, 2, 3, 4, 5, 6, 8, 9, 10, 13, 14] : List Nat).contains i) mixed (by kernel_rfl) (by decide) (by kernel_rfl) ?_
            refine .uw rfl (.move rfl) ?_
            refine .uw rfl (.move rfl) ?_
            refine .uw rfl (.bin rfl rfl BinR.leq_i) ?_
            refine .uw rfl (.move rfl) ?_
            refine JR.gsplit (g := 117) rfl (fun hg125 => ?_) (fun hg125 => ?_)
            · have hg125' := hg125
              try simp only [decide_eq_true_eq, decide_eq_false_iff_not, Bool.not_eq_true', Bool.not_eq_false', ne_eq, Decidable.not_not, Bool.not_eq_true, Bool.and_eq_true, Bool.or_eq_true, BitVec.reduceToNat] at hg125'
              refine JR.ugt (g := 118) rfl rfl rfl rfl rfl hg125 (.move rfl) (by decide) ?_
              refine JR.ugt (g := 118) rfl rfl rfl rfl rfl hg125 (.move rfl) (by decide) ?_
              refine JR.ugt (g := 118) rfl rfl rfl rfl rfl hg125 (.as (v' := ptr (blk (.slice (some ⟨g, 0, none⟩) n c)) q2) (.indexSl0 Tryz.underlying22 sz_30 rfl rfl zqb) (congrArg (ptr g) (Nat.mul_one _))) (by decide) ?_
              refine JR.vgt (g := 118) rfl rfl rfl rfl rfl hg125 (.ld one_30 rfl) (by decide) ?_
              refine JR.ugt (g := 118) rfl rfl rfl rfl rfl hg125 (.move rfl) (by decide) ?_
              refine JR.ugt (g := 118) rfl rfl rfl rfl rfl hg125 (.move rfl) (by decide) ?_
              refine JR.ugt (g := 118) rfl rfl rfl rfl rfl hg125 (.as (v' := ptr (blk (.slice (some ⟨g, 0, none⟩) n c)) a) (.indexSl0 Tryz.underlying22 sz_30 rfl rfl zqb) (congrArg (ptr g) (Nat.mul_one _))) (by decide) ?_
              refine JR.vgt (g := 118) rfl rfl rfl rfl rfl hg125 (.ld one_30 rfl) (by decide) ?_
              refine JR.mgt (g := 118) rfl rfl rfl rfl hg125 (.c (f105_spec (vs.getD q2 0) (vs.getD a 0)) body_105) (by decide) ?_
              rintro _ _ _ ⟨rfl, rfl, rfl⟩
              refine kp ?_
              refine JR.ugt (g := 118) rfl rfl rfl rfl rfl hg125 (.not rfl) (by decide) ?_
              refine JR.u rfl rfl rfl (Yv.pick1 rfl hg125 rfl) (by decide) ?_
              refine .nil (.tn ?_)
              refine .cn rfl (fun hc5 => ?_) (fun hc5 => ?_)
              · skip
                refine .skip (.tn (.block (.region ?_)))
                refine .w (.move rfl) ?_
                refine .w (.asI ((q2 - 1 : Nat) : Int) (.bin rfl rfl (BinR.sub_i zqf))) ?_
                refine .w (.assign rfl) ?_
                refine .nil (.block_normal ?_)
                refine .hd (q2 - 1) ?_
                exact ⟨⟨by omega, by omega⟩, by omega⟩
              · skip
                refine .exit (.then_exit (.then_exit (.block_exit ?_)))
                refine .hd q2 ?_
                exact ⟨h11, h12⟩
            · have hg125' := hg125
              try simp only [decide_eq_true_eq, decide_eq_false_iff_not, Bool.not_eq_true', Bool.not_eq_false', ne_eq, Decidable.not_not, Bool.not_eq_true, Bool.and_eq_true, Bool.or_eq_true, BitVec.reduceToNat] at hg125'
              refine JR.gf (g := 118) rfl rfl rfl rfl hg125 (by decide) ?_
              refine JR.gf (g := 118) rfl rfl rfl rfl hg125 (by decide) ?_
              refine JR.gf (g := 118) rfl rfl rfl rfl hg125 (by decide) ?_
              refine JR.gf (g := 118) rfl rfl rfl rfl hg125 (by decide) ?_
              refine JR.gf (g := 118) rfl rfl rfl rfl hg125 (by decide) ?_
              refine JR.gf (g := 118) rfl rfl rfl rfl hg125 (by decide) ?_
              refine JR.gf (g := 118) rfl rfl rfl rfl hg125 (by decide) ?_
              refine JR.gf (g := 118) rfl rfl rfl rfl hg125 (by decide) ?_
              refine JR.gfm (g := 118) rfl rfl rfl rfl hg125 (by decide) ?_ ?_
              · exact ⟨Subs.sub zqe, .inl rfl⟩
              refine JR.gf (g := 118) rfl rfl rfl rfl hg125 (by decide) ?_
              refine JR.u rfl rfl rfl (Yv.pick0 rfl hg125 rfl) (by decide) ?_
              refine .nil (.tn ?_)
              refine .k0 rfl rfl ?_
              refine .exit (.then_exit (.then_exit (.block_exit ?_)))
              refine .hd q2 ?_
              exact ⟨h11, h12⟩
          · obtain ⟨q2, hj⟩ : ∃ j, j = x := ⟨_, rfl⟩
            subst hj
            obtain ⟨h11, h12⟩ := hx
            refine .seq (.seq (.region ?_))
            refine .w (.move rfl) ?_
            refine .w (.move rfl) ?_
            refine .w (.bin rfl rfl BinR.gtr_i) ?_
            refine .nil (.tn ?_)
            refine .cn rfl (fun hc6 => ?_) (fun hc6 => ?_)
            · skip
              refine .exit (.then_exit (.block_other (by decide) (.then_exit (.block_exit (.tn (.seq ?_))))))
              refine JC.draw (.one 0 (.one 1 (.one 2 (.one 3 (.one 4 (.one 5 (.one 6 (.one 7 (.one 8 (.one 9 (.one 10 (.one 11 (.one 12 (.one 13 (.one 14 (.one 15 .nil)))))))))))))))) (fun i => ([13, 15] : List Nat).contains i) (fun i => ([13, 15] : List Nat).contains i) (fun i => ([0, 1, 2, 3, 4, 5, 6, 8, 9, 10, 12, 14] : List Nat).contains i) mixed (by kernel_rfl) (by decide) (by kernel_rfl) ?_
              refine .uw rfl (.move rfl) ?_
              refine .uw rfl (.move rfl) ?_
              refine .uw rfl (.move rfl) ?_
              refine .uw rfl (.move rfl) ?_
              refine .uw rfl (.move rfl) ?_
              refine .uw rfl (.move rfl) ?_
              refine .uw rfl (.as (v' := ptr (blk (.slice (some ⟨g, 0, none⟩) n c)) a) (.indexSl0 Tryz.underlying22 sz_30 rfl rfl zqb) (congrArg (ptr g) (Nat.mul_one _))) ?_
              refine .w rfl (.ld one_30 rfl) ?_
              refine .uw rfl (.move rfl) ?_
              refine .uw rfl (.move rfl) ?_
              refine .uw rfl (.as (v' := ptr (blk (.slice (some ⟨g, 0, none⟩) n c)) q2) (.indexSl0 Tryz.underlying22 sz_30 rfl rfl zqb) (congrArg (ptr g) (Nat.mul_one _))) ?_
              refine .w rfl (.ld one_30 rfl) ?_
              refine .uw rfl (.as (v' := ptr (blk (.slice (some ⟨g, 0, none⟩) n c)) q2) (.indexSl0 Tryz.underlying22 sz_30 rfl rfl zqb) (congrArg (ptr g) (Nat.mul_one _))) ?_
              first | refine .mw0 rfl (.s1 sz_30) ?_ | refine .mw0 rfl (.sr1 sz_30) ?_
              rintro _ _ _ ⟨rfl, rfl⟩
              refine kp ?_
              refine .uw rfl (.as (v' := ptr (blk (.slice (some ⟨g, 0, none⟩) n c)) a) (.indexSl0 Tryz.underlying22 sz_30 rfl rfl zqb) (congrArg (ptr g) (Nat.mul_one _))) ?_
              first | refine .mw0 rfl (.s1 sz_30) ?_ | refine .mw0 rfl (.sr1 sz_30) ?_
              rintro _ _ _ ⟨rfl, rfl⟩
              refine kp ?_
              rw [swap_row]
              refine .nil (.tn (.seq (.region ?_)))
              refine .w (.move rfl) ?_
              refine .w (.assign rfl) ?_
              refine .w (.assign rfl) ?_
              refine .nil (.tn (.ret ?_))
              exact .dn [] [Res.row (.slice (some ⟨g, 0, none⟩) n c) n 30 1 (((vs.set q2 (vs.getD a 0)).set a (vs.getD q2 0)).map u64)] (res2 rfl (.tmp rfl) (.tmp rfl)) ⟨q2, false, _, rfl, by omega, by omega, (swap_perm (by omega) (by omega)).trans hp2, rfl, rfl⟩
            · skip
              refine .skip (.tn (.seq ?_))
              refine JC.draw (.one 0 (.one 1 (.one 2 (.one 3 (.one 4 (.one 5 (.one 6 (.one 7 (.one 8 (.one 9 (.one 10 (.one 11 (.one 12 (.one 13 (.one 14 (.one 15 .nil)))))))))))))))) (fun i => ([13, 15] : List Nat).contains i) (fun i => ([13, 15] : List Nat).contains i) (fun i => ([0, 1, 2, 3, 4, 5, 6, 8, 9, 10, 12, 14] : List Nat).contains i) mixed (by kernel_rfl) (by decide) (by kernel_rfl) ?_
              refine .uw rfl (.move rfl) ?_
              refine .uw rfl (.move rfl) ?_
              refine .uw rfl (.move rfl) ?_
              refine .uw rfl (.move rfl) ?_
              refine .uw rfl (.move rfl) ?_
              refine .uw rfl (.move rfl) ?_
              refine .uw rfl (.as (v' := ptr (blk (.slice (some ⟨g, 0, none⟩) n c)) q2) (.indexSl0 Tryz.underlying22 sz_30 rfl rfl zqb) (congrArg (ptr g) (Nat.mul_one _))) ?_
              refine .w rfl (.ld one_30 rfl) ?_
              refine .uw rfl (.move rfl) ?_
              refine .uw rfl (.move rfl) ?_
              refine .uw rfl (.as (v' := ptr (blk (.slice (some ⟨g, 0, none⟩) n c)) p2) (.indexSl0 Tryz.underlying22 sz_30 rfl rfl zqb) (congrArg (ptr g) (Nat.mul_one _))) ?_
              refine .w rfl (.ld one_30 rfl) ?_
              refine .uw rfl (.as (v' := ptr (blk (.slice (some ⟨g, 0, none⟩) n c)) p2) (.indexSl0 Tryz.underlying22 sz_30 rfl rfl zqb) (congrArg (ptr g) (Nat.mul_one _))) ?_
              first | refine .mw0 rfl (.s1 sz_30) ?_ | refine .mw0 rfl (.sr1 sz_30) ?_
              rintro _ _ _ ⟨rfl, rfl⟩
              refine kp ?_
              refine .uw rfl (.as (v' := ptr (blk (.slice (some ⟨g, 0, none⟩) n c)) q2) (.indexSl0 Tryz.underlying22 sz_30 rfl rfl zqb) (congrArg (ptr g) (Nat.mul_one _))) ?_
              first | refine .mw0 rfl (.s1 sz_30) ?_ | refine .mw0 rfl (.sr1 sz_30) ?_
              rintro _ _ _ ⟨rfl, rfl⟩
              refine kp ?_
              rw [swap_row]
              refine .nil (.tn (.seq (.region ?_)))
              refine .w (.move rfl) ?_
              refine .w (.asI ((p2 + 1 : Nat) : Int) (.bin rfl rfl (BinR.add_i zqf))) ?_
              refine .w (.assign rfl) ?_
              refine .nil (.tn (.region ?_))
              refine .w (.move rfl) ?_
              refine .w (.asI ((q2 - 1 : Nat) : Int) (.bin rfl rfl (BinR.sub_i zqf))) ?_
              refine .w (.assign rfl) ?_
              refine .nil (.block_normal ?_)
              refine .hd ((p2 + 1, q2 - 1), ((vs.set p2 (vs.getD q2 0)).set q2 (vs.getD p2 0))) ?_
              have hpq : p2 ≤ q2 := by omega
              exact ⟨⟨by dsimp only; omega, by dsimp only; omega, by dsimp only; omega, (swap_perm (by omega) (by omega)).trans hp2⟩, by dsimp only; omega⟩

theorem f106_spec (g c n : Nat) (xs : List W64) (hl : xs.length = n) (hn : n ≤ 1000) (a b pv : Nat) (h1 : a ≤ pv) (h2 : pv < b) (h3 : b ≤ n) :
    Spec Tryz.prog 106 #[(.slice (some ⟨g, 0, none⟩) n c), (it (a : Int)), (it (b : Int)), (it (pv : Int))] [] [Res.row (.slice (some ⟨g, 0, none⟩) n c) n 30 1 (xs.map u64)]
      (fun r Γ' H' => ∃ (m : Nat) (ys : List W64), r = it (m : Int) ∧ a < m ∧ m ≤ b ∧ ys.Perm xs ∧ Γ' = [] ∧ H' = [Res.row (.slice (some ⟨g, 0, none⟩) n c) n 30 1 (ys.map u64)]) := by
  refine Spec.of_args Tryz.func106 rfl Tryz.ntmps106 (by simp) fun w => ?_
  refine .seq (.region ?_)
  refine .w (.assign rfl) ?_
  refine .nil (.tn (.seq ?_))
  refine JC.draw (.one 0 (.one 1 (.one 2 (.one 3 (.one 4 (.one 5 (.one 6 (.one 7 (.one 8 (.one 9 (.one 10 (.one 11 (.one 12 (.one 13 (.one 14 (.one 15 .nil)))))))))))))))) (fun i => ([13, 15] : List Nat).contains i) (fun i => ([13, 15] : List Nat).contains i) (fun i => ([0, 1, 2, 3, 4, 5, 6, 8, 9, 10, 12, 14] : List Nat).contains i) mixed (by kernel_rfl) (by decide) (by kernel_rfl) ?_
  refine .uw rfl (.move rfl) ?_
  refine .uw rfl (.move rfl) ?_
  refine .uw rfl (.move rfl) ?_
  refine .uw rfl (.move rfl) ?_
  refine .uw rfl (.move rfl) ?_
  refine .uw rfl (.move rfl) ?_
  refine .uw rfl (.as (v' := ptr (blk (.slice (some ⟨g, 0, none⟩) n c)) pv) (.indexSl0 Tryz.underlying22 sz_30 rfl rfl zqb) (congrArg (ptr g) (Nat.mul_one _))) ?_
  refine .w rfl (.ld one_30 rfl) ?_
  refine .uw rfl (.move rfl) ?_
  refine .uw rfl (.move rfl) ?_
  refine .uw rfl (.as (v' := ptr (blk (.slice (some ⟨g, 0, none⟩) n c)) a) (.indexSl0 Tryz.underlying22 sz_30 rfl rfl zqb) (congrArg (ptr g) (Nat.mul_one _))) ?_
  refine .w rfl (.ld one_30 rfl) ?_
  refine .uw rfl (.as (v' := ptr (blk (.slice (some ⟨g, 0, none⟩) n c)) a) (.indexSl0 Tryz.underlying22 sz_30 rfl rfl zqb) (congrArg (ptr g) (Nat.mul_one _))) ?_
  first | refine .mw0 rfl (.s1 sz_30) ?_ | refine .mw0 rfl (.sr1 sz_30) ?_
  rintro _ _ _ ⟨rfl, rfl⟩
  refine kp ?_
  refine .uw rfl (.as (v' := ptr (blk (.slice (some ⟨g, 0, none⟩) n c)) pv) (.indexSl0 Tryz.underlying22 sz_30 rfl rfl zqb) (congrArg (ptr g) (Nat.mul_one _))) ?_
  first | refine .mw0 rfl (.s1 sz_30) ?_ | refine .mw0 rfl (.sr1 sz_30) ?_
  rintro _ _ _ ⟨rfl, rfl⟩
  refine kp ?_
  rw [swap_row]
  refine .nil (.tn (.seq (.region ?_)))
  have hp0 := swap_perm (ys := xs) (i := a) (j := pv) (by omega) (by omega)
  obtain ⟨zs, hzs⟩ : ∃ zs, zs = ((xs.set a (xs.getD pv 0)).set pv (xs.getD a 0)) := ⟨_, rfl⟩
  rw [← hzs] at hp0 ⊢
  have hzl : zs.length = n := hp0.length_eq.trans hl
  refine .w (.move rfl) ?_
  refine .w (.asI ((a + 1 : Nat) : Int) (.bin rfl rfl (BinR.add_i zqf))) ?_
  refine .w (.move rfl) ?_
  refine .w (.asI ((b - 1 : Nat) : Int) (.bin rfl rfl (BinR.sub_i zqf))) ?_
  refine .w (.assign rfl) ?_
  refine .w (.assign rfl) ?_
  refine .nil (.tn (.seq (.block ?_)))
  refine .lp (ι := (Nat × Nat) × List W64) (fun x => (a + 1 ≤ x.1.1 ∧ x.1.1 ≤ b) ∧ a ≤ x.1.2 ∧ x.1.2 ≤ b - 1 ∧ x.2.Perm xs) (fun T x => (9, it (x.1.1 : Int)) :: (10, it (x.1.2 : Int)) :: T) (fun T _ => T) (fun T x => Res.row (.slice (some ⟨g, 0, none⟩) n c) n 30 1 (x.2.map u64) :: T) (fun x => x.1.2) ((a + 1, b - 1), zs) [0, 1, 8, 83] ?_ (fun x hx => ?_)
  · exact ⟨⟨by dsimp only; omega, by dsimp only; omega⟩, by dsimp only; omega, by dsimp only; omega, hp0⟩
  obtain ⟨⟨p, q⟩, vs⟩ := x
  obtain ⟨⟨h8, h7⟩, h9, h10, hp2⟩ := hx
  dsimp only at h7 h8 h9 h10 hp2 ⊢
  have hvl : vs.length = n := hp2.length_eq.trans hl
  refine .block ?_
  refine .mt (ι := Nat) (fun x => a + 1 ≤ x ∧ x ≤ b) (fun T x => (9, it (x : Int)) :: T) (fun T _ => T) (fun T _ => T) [0, 1, 8, 10, 46, 47, 48, 49, 50, 51, 52, 53, 54, 55, 56, 57, 58, 59, 60, 61, 62, 63, 64, 65, 66, 67, 68, 69, 70, 71, 72, 73, 74, 75, 76, 77, 78, 79, 80, 81, 82, 83] [] ?_ (fun x hx => ?_)
  · refine .block ?_
    refine .lp (ι := Nat) (fun x => a + 1 ≤ x ∧ x ≤ b) (fun T x => (9, it (x : Int)) :: T) (fun T _ => T) (fun T _ => T) (fun x => b - x) p [0, 1, 8, 10, 46, 47, 48, 49, 50, 51, 52, 53, 54, 55, 56, 57, 58, 59, 60, 61, 62, 63, 64, 65, 66, 67, 68, 69, 70, 71, 72, 73, 74, 75, 76, 77, 78, 79, 80, 81, 82, 83] ?_ (fun x hx => ?_)
    · exact ⟨h8, h7⟩
    obtain ⟨p2, hi⟩ : ∃ i, i = x := ⟨_, rfl⟩
    subst hi
    obtain ⟨h13, h14⟩ := hx
    refine .seq (.seq ?_)
    refine JC.draw (.one 0 (.one 1 (.one 2 (.one 3 (.one 4 (.one 5 (.one 6 (.one 7 (.one 8 (.one 9 (.one 10 (.one 11 (.one 12 (.one 13 (.one 14 .nil))))))))))))))) (fun i => ([12] : List Nat).contains i) (fun i => ([12] : List Nat).contains i) (fun i => ([0, 1, 2, 3, 4, 5, 6, 8, 9, 10, 13, 14] : List Nat).contains i) mixed (by kernel_rfl) (by decide) (by kernel_rfl) ?_
    refine .uw rfl (.move rfl) ?_
    refine .uw rfl (.move rfl) ?_
    refine .uw rfl (.bin rfl rfl BinR.leq_i) ?_
    refine .uw rfl (.move rfl) ?_
    refine JR.gsplit (g := 31) rfl (fun hg28 => ?_) (fun hg28 => ?_)
    · have hg28' := hg28
      try simp only [decide_eq_true_eq, decide_eq_false_iff_not, Bool.not_eq_true', Bool.not_eq_false', ne_eq, Decidable.not_not, Bool.not_eq_true, Bool.and_eq_true, Bool.or_eq_true, BitVec.reduceToNat] at hg28'
      refine JR.ugt (g := 32) rfl rfl rfl rfl rfl hg28 (.move rfl) (by decide) ?_
      refine JR.ugt (g := 32) rfl rfl rfl rfl rfl hg28 (.move rfl) (by decide) ?_
      refine JR.ugt (g := 32) rfl rfl rfl rfl rfl hg28 (.as (v' := ptr (blk (.slice (some ⟨g, 0, none⟩) n c)) a) (.indexSl0 Tryz.underlying22 sz_30 rfl rfl zqb) (congrArg (ptr g) (Nat.mul_one _))) (by decide) ?_
      refine JR.vgt (g := 32) rfl rfl rfl rfl rfl hg28 (.ld one_30 rfl) (by decide) ?_
      refine JR.ugt (g := 32) rfl rfl rfl rfl rfl hg28 (.move rfl) (by decide) ?_
      refine JR.ugt (g := 32) rfl rfl rfl rfl rfl hg28 (.move rfl) (by decide) ?_
      refine JR.ugt (g := 32) rfl rfl rfl rfl rfl hg28 (.as (v' := ptr (blk (.slice (some ⟨g, 0, none⟩) n c)) p2) (.indexSl0 Tryz.underlying22 sz_30 rfl rfl zqb) (congrArg (ptr g) (Nat.mul_one _))) (by decide) ?_
      refine JR.vgt (g := 32) rfl rfl rfl rfl rfl hg28 (.ld one_30 rfl) (by decide) ?_
      refine JR.mgt (g := 32) rfl rfl rfl rfl hg28 (.c (f105_spec (vs.getD a 0) (vs.getD p2 0)) body_105) (by decide) ?_
      rintro _ _ _ ⟨rfl, rfl, rfl⟩
      refine kp ?_
      refine JR.ugt (g := 32) rfl rfl rfl rfl rfl hg28 (.not rfl) (by decide) ?_
      refine JR.u rfl rfl rfl (Yv.pick1 rfl hg28 rfl) (by decide) ?_
      refine .nil (.tn ?_)
      refine .cn rfl (fun hc1 => ?_) (fun hc1 => ?_)
      · skip
        refine .skip (.tn (.block (.region ?_)))
        refine .w (.move rfl) ?_
        refine .w (.asI ((p2 + 1 : Nat) : Int) (.bin rfl rfl (BinR.add_i zqf))) ?_
        refine .w (.assign rfl) ?_
        refine .nil (.block_normal ?_)
        refine .hd (p2 + 1) ?_
        exact ⟨⟨by omega, by omega⟩, by omega⟩
      · skip
        refine .exit (.then_exit (.then_exit (.block_exit ?_)))
        refine .hd p2 ?_
        exact ⟨h13, h14⟩
    · have hg28' := hg28
      try simp only [decide_eq_true_eq, decide_eq_false_iff_not, Bool.not_eq_true', Bool.not_eq_false', ne_eq, Decidable.not_not, Bool.not_eq_true, Bool.and_eq_true, Bool.or_eq_true, BitVec.reduceToNat] at hg28'
      refine JR.gf (g := 32) rfl rfl rfl rfl hg28 (by decide) ?_
      refine JR.gf (g := 32) rfl rfl rfl rfl hg28 (by decide) ?_
      refine JR.gf (g := 32) rfl rfl rfl rfl hg28 (by decide) ?_
      refine JR.gf (g := 32) rfl rfl rfl rfl hg28 (by decide) ?_
      refine JR.gf (g := 32) rfl rfl rfl rfl hg28 (by decide) ?_
      refine JR.gf (g := 32) rfl rfl rfl rfl hg28 (by decide) ?_
      refine JR.gf (g := 32) rfl rfl rfl rfl hg28 (by decide) ?_
      refine JR.gf (g := 32) rfl rfl rfl rfl hg28 (by decide) ?_
      refine JR.gfm (g := 32) rfl rfl rfl rfl hg28 (by decide) ?_ ?_
      · exact ⟨Subs.sub zqe, .inl rfl⟩
      refine JR.gf (g := 32) rfl rfl rfl rfl hg28 (by decide) ?_
      refine JR.u rfl rfl rfl (Yv.pick0 rfl hg28 rfl) (by decide) ?_
      refine .nil (.tn ?_)
      refine .k0 rfl rfl ?_
      refine .exit (.then_exit (.then_exit (.block_exit ?_)))
      refine .hd p2 ?_
      exact ⟨h13, h14⟩
  · obtain ⟨p2, hi⟩ : ∃ i, i = x := ⟨_, rfl⟩
    subst hi
    obtain ⟨h13, h14⟩ := hx
    refine .mt (ι := Nat) (fun x => a ≤ x ∧ x ≤ q) (fun T x => (10, it (x : Int)) :: T) (fun T _ => T) (fun T _ => T) [0, 1, 8, 9, 29, 30, 31, 32, 33, 34, 35, 36, 37, 38, 39, 40, 41, 42, 43, 44, 45, 62, 63, 64, 65, 66, 67, 68, 69, 70, 71, 72, 73, 74, 75, 76, 77, 78, 79, 80, 81, 82, 83] [] ?_ (fun x hx => ?_)
    · refine .block ?_
      refine .lp (ι := Nat) (fun x => a ≤ x ∧ x ≤ q) (fun T x => (10, it (x : Int)) :: T) (fun T _ => T) (fun T _ => T) (fun x => x) q [0, 1, 8, 9, 29, 30, 31, 32, 33, 34, 35, 36, 37, 38, 39, 40, 41, 42, 43, 44, 45, 62, 63, 64, 65, 66, 67, 68, 69, 70, 71, 72, 73, 74, 75, 76, 77, 78, 79, 80, 81, 82, 83] ?_ (fun x hx => ?_)
      · exact ⟨h9, Nat.le_refl _⟩
      obtain ⟨q2, hj⟩ : ∃ j, j = x := ⟨_, rfl⟩
      subst hj
      obtain ⟨h11, h12⟩ := hx
      refine .seq (.seq ?_)
      refine JC.draw (.one 0 (.one 1 (.one 2 (.one 3 (.one 4 (.one 5 (.one 6 (.one 7 (.one 8 (.one 9 (.one 10 (.one 11 (.one 12 (.one 13 .nil)))))))))))))) (fun i => ([12] : List Nat).contains i) (fun i => ([12] : List Nat).contains i) (fun i => ([0, 1, 2, 3, 4, 5, 6, 8, 9, 10, 13] : List Nat).contains i) mixed (by kernel_rfl) (by decide) (by kernel_rfl) ?_
      refine .uw rfl (.move rfl) ?_
      refine .uw rfl (.move rfl) ?_
      refine .uw rfl (.bin rfl rfl BinR.leq_i) ?_
      refine .uw rfl (.move rfl) ?_
      refine JR.gsplit (g := 48) rfl (fun hg46 => ?_) (fun hg46 => ?_)
      · have hg46' := hg46
        try simp only [decide_eq_true_eq, decide_eq_false_iff_not, Bool.not_eq_true', Bool.not_eq_false', ne_eq, Decidable.not_not, Bool.not_eq_true, Bool.and_eq_true, Bool.or_eq_true, BitVec.reduceToNat] at hg46'
        refine JR.ugt (g := 49) rfl rfl rfl rfl rfl hg46 (.move rfl) (by decide) ?_
        refine JR.ugt (g := 49) rfl rfl rfl rfl rfl hg46 (.move rfl) (by decide) ?_
        refine JR.ugt (g := 49) rfl rfl rfl rfl rfl hg46 (.as (v' := ptr (blk (.slice (some ⟨g, 0, none⟩) n c)) a) (.indexSl0 Tryz.underlying22 sz_30 rfl rfl zqb) (congrArg (ptr g) (Nat.mul_one _))) (by decide) ?_
        refine JR.vgt (g := 49) rfl rfl rfl rfl rfl hg46 (.ld one_30 rfl) (by decide) ?_
        refine JR.ugt (g := 49) rfl rfl rfl rfl rfl hg46 (.move rfl) (by decide) ?_
        refine JR.ugt (g := 49) rfl rfl rfl rfl rfl hg46 (.move rfl) (by decide) ?_
        refine JR.ugt (g := 49) rfl rfl rfl rfl rfl hg46 (.as (v' := ptr (blk (.slice (some ⟨g, 0, none⟩) n c)) q2) (.indexSl0 Tryz.underlying22 sz_30 rfl rfl zqb) (congrArg (ptr g) (Nat.mul_one _))) (by decide) ?_
        refine JR.vgt (g := 49) rfl rfl rfl rfl rfl hg46 (.ld one_30 rfl) (by decide) ?_
        refine JR.mgt (g := 49) rfl rfl rfl rfl hg46 (.c (f105_spec (vs.getD a 0) (vs.getD q2 0)) body_105) (by decide) ?_
        rintro _ _ _ ⟨rfl, rfl, rfl⟩
        refine kp ?_
        refine JR.u rfl rfl rfl (Yv.pick1 rfl hg46 rfl) (by decide) ?_
        refine .nil (.tn ?_)
        refine .cn rfl (fun hc2 => ?_) (fun hc2 => ?_)
        · skip
          refine .skip (.tn (.block (.region ?_)))
          refine .w (.move rfl) ?_
          refine .w (.asI ((q2 - 1 : Nat) : Int) (.bin rfl rfl (BinR.sub_i zqf))) ?_
          refine .w (.assign rfl) ?_
          refine .nil (.block_normal ?_)
          refine .hd (q2 - 1) ?_
          exact ⟨⟨by omega, by omega⟩, by omega⟩
        · skip
          refine .exit (.then_exit (.then_exit (.block_exit ?_)))
          refine .hd q2 ?_
          exact ⟨h11, h12⟩
      · have hg46' := hg46
        try simp only [decide_eq_true_eq, decide_eq_false_iff_not, Bool.not_eq_true', Bool.not_eq_false', ne_eq, Decidable.not_not, Bool.not_eq_true, Bool.and_eq_true, Bool.or_eq_true, BitVec.reduceToNat] at hg46'
        refine JR.gf (g := 49) rfl rfl rfl rfl hg46 (by decide) ?_
        refine JR.gf (g := 49) rfl rfl rfl rfl hg46 (by decide) ?_
        refine JR.gf (g := 49) rfl rfl rfl rfl hg46 (by decide) ?_
        refine JR.gf (g := 49) rfl rfl rfl rfl hg46 (by decide) ?_
        refine JR.gf (g := 49) rfl rfl rfl rfl hg46 (by decide) ?_
        refine JR.gf (g := 49) rfl rfl rfl rfl hg46 (by decide) ?_
        refine JR.gf (g := 49) rfl rfl rfl rfl hg46 (by decide) ?_
        refine JR.gf (g := 49) rfl rfl rfl rfl hg46 (by decide) ?_
        refine JR.gfm (g := 49) rfl rfl rfl rfl hg46 (by decide) ?_ ?_
        · exact ⟨Subs.sub zqe, .inl rfl⟩
        refine JR.u rfl rfl rfl (Yv.pick0 rfl hg46 rfl) (by decide) ?_
        refine .nil (.tn ?_)
        refine .k0 rfl rfl ?_
        refine .exit (.then_exit (.then_exit (.block_exit ?_)))
        refine .hd q2 ?_
        exact ⟨h11, h12⟩
    · obtain ⟨q2, hj⟩ : ∃ j, j = x := ⟨_, rfl⟩
      subst hj
      obtain ⟨h11, h12⟩ := hx
      refine .seq (.seq (.region ?_))
      refine .w (.move rfl) ?_
      refine .w (.move rfl) ?_
      refine .w (.bin rfl rfl BinR.gtr_i) ?_
      refine .nil (.tn ?_)
      refine .cn rfl (fun hc3 => ?_) (fun hc3 => ?_)
      · skip
        refine .exit (.then_exit (.block_other (by decide) (.then_exit (.block_exit (.tn (.seq (.region ?_)))))))
        refine .w (.move rfl) ?_
        refine .w (.assign rfl) ?_
        refine .nil (.tn (.ret ?_))
        exact .dn [] [Res.row (.slice (some ⟨g, 0, none⟩) n c) n 30 1 (vs.map u64)] (res1 rfl (.tmp rfl)) ⟨p2, vs, rfl, by omega, by omega, hp2, rfl, rfl⟩
      · skip
        refine .skip (.tn (.seq ?_))
        refine JC.draw (.one 0 (.one 1 (.one 2 (.one 3 (.one 4 (.one 5 (.one 6 (.one 7 (.one 8 (.one 9 (.one 10 (.one 11 (.one 12 (.one 13 (.one 14 (.one 15 .nil)))))))))))))))) (fun i => ([13, 15] : List Nat).contains i) (fun i => ([13, 15] : List Nat).contains i) (fun i => ([0, 1, 2, 3, 4, 5, 6, 8, 9, 10, 12, 14] : List Nat).contains i) mixed (by kernel_rfl) (by decide) (by kernel_rfl) ?_
        refine .uw rfl (.move rfl) ?_
        refine .uw rfl (.move rfl) ?_
        refine .uw rfl (.move rfl) ?_
        refine .uw rfl (.move rfl) ?_
        refine .uw rfl (.move rfl) ?_
        refine .uw rfl (.move rfl) ?_
        refine .uw rfl (.as (v' := ptr (blk (.slice (some ⟨g, 0, none⟩) n c)) q2) (.indexSl0 Tryz.underlying22 sz_30 rfl rfl zqb) (congrArg (ptr g) (Nat.mul_one _))) ?_
        refine .w rfl (.ld one_30 rfl) ?_
        refine .uw rfl (.move rfl) ?_
        refine .uw rfl (.move rfl) ?_
        refine .uw rfl (.as (v' := ptr (blk (.slice (some ⟨g, 0, none⟩) n c)) p2) (.indexSl0 Tryz.underlying22 sz_30 rfl rfl zqb) (congrArg (ptr g) (Nat.mul_one _))) ?_
        refine .w rfl (.ld one_30 rfl) ?_
        refine .uw rfl (.as (v' := ptr (blk (.slice (some ⟨g, 0, none⟩) n c)) p2) (.indexSl0 Tryz.underlying22 sz_30 rfl rfl zqb) (congrArg (ptr g) (Nat.mul_one _))) ?_
        first | refine .mw0 rfl (.s1 sz_30) ?_ | refine .mw0 rfl (.sr1 sz_30) ?_
        rintro _ _ _ ⟨rfl, rfl⟩
        refine kp ?_
        refine .uw rfl (.as (v' := ptr (blk (.slice (some ⟨g, 0, none⟩) n c)) q2) (.indexSl0 Tryz.underlying22 sz_30 rfl rfl zqb) (congrArg (ptr g) (Nat.mul_one _))) ?_
        first | refine .mw0 rfl (.s1 sz_30) ?_ | refine .mw0 rfl (.sr1 sz_30) ?_
        rintro _ _ _ ⟨rfl, rfl⟩
        refine kp ?_
        rw [swap_row]
        refine .nil (.tn (.seq (.region ?_)))
        refine .w (.move rfl) ?_
        refine .w (.asI ((p2 + 1 : Nat) : Int) (.bin rfl rfl (BinR.add_i zqf))) ?_
        refine .w (.assign rfl) ?_
        refine .nil (.tn (.region ?_))
        refine .w (.move rfl) ?_
        refine .w (.asI ((q2 - 1 : Nat) : Int) (.bin rfl rfl (BinR.sub_i zqf))) ?_
        refine .w (.assign rfl) ?_
        refine .nil (.block_normal ?_)
        refine .hd ((p2 + 1, q2 - 1), ((vs.set p2 (vs.getD q2 0)).set q2 (vs.getD p2 0))) ?_
        exact ⟨⟨⟨by dsimp only; omega, by dsimp only; omega⟩, by dsimp only; omega, by dsimp only; omega, (swap_perm (by omega) (by omega)).trans hp2⟩, by dsimp only; omega⟩
end Go.Proofs.YthfipbjmpeegbaaGreatDoor

/- Walks: numbers sorted: patterns broken. -/
namespace Go.Proofs.YthfipbjmpeegbaaGreatDoor
open Go.RowKit
set_option maxRecDepth 100000
set_option linter.unusedVariables false
set_option linter.unusedSimpArgs false
theorem f75_spec (x : BitVec 64) :
    Spec Tryz.prog 75 #[(u64 x)] [] []
      (fun r Γ' H' => r = (it (len64 x : Int)) ∧ Γ' = [] ∧ H' = []) := by
  refine Spec.of_args Tryz.func75 rfl Tryz.ntmps75 (by simp) fun w => ?_
  refine .seq (.region ?_)
  refine .w (.assign rfl) ?_
  refine .nil (.tn (.seq ?_))
  refine .cf rfl ?_
  refine .skip (.tn (.seq (.region ?_)))
  refine .w (.move rfl) ?_
  refine .c (f97_spec x) body_97 ?_
  refine .w (.assign rfl) ?_
  refine .nil (.tn (.ret ?_))
  exact .dn [] [] (res1 rfl (.tmp rfl)) ⟨rfl, rfl, rfl⟩

theorem f112_spec (l : Nat) (hl : l ≤ 50) :
    Spec Tryz.prog 112 #[(it (l : Int))] [] []
      (fun r Γ' H' => r = (u64 (BitVec.ofNat 64 (2 ^ bitlen l))) ∧ Γ' = [] ∧ H' = []) := by
  refine Spec.of_args Tryz.func112 rfl Tryz.ntmps112 (by simp) fun w => ?_
  refine .seq (.region ?_)
  refine .w (.assign rfl) ?_
  refine .nil (.tn (.seq (.region ?_)))
  refine .w (.move rfl) ?_
  refine .w (.as (v' := u64 (BitVec.ofNat 64 l)) (.conv_i_u64 Tryz.underlying3 Tryz.underlying130 rfl) (congrArg u64 (BitVec.ofInt_natCast _ _))) ?_
  refine .c (f75_spec (BitVec.ofNat 64 l)) body_75 ?_
  have h64 : len64 (BitVec.ofNat 64 l) = bitlen l := by unfold len64; rw [BitVec.toNat_ofNat, Nat.mod_eq_of_lt (by omega)]
  rw [h64]
  have hb6 : bitlen l ≤ 6 := (show ∀ k, k < 51 → bitlen k ≤ 6 by decide) l (by omega)
  refine .w (.as (v' := u64 (BitVec.ofNat 64 (2 ^ bitlen l))) (.bin rfl rfl (BinR.shl_u64_i (a := 1#64) (by first | omega | decide | (simp; omega)))) (congrArg u64 (by apply BitVec.eq_of_toNat_eq; simp [Nat.shiftLeft_eq]))) ?_
  refine .w (.assign rfl) ?_
  refine .nil (.tn (.ret ?_))
  exact .dn [] [] (res1 rfl (.tmp rfl)) ⟨rfl, rfl, rfl⟩

theorem f113_spec (s : Nat) (x : BitVec 64) :
    Spec Tryz.prog 113 #[(ptr s 0)] [] [Res.cells s [u64 x] 167]
      (fun r Γ' H' => ∃ y : BitVec 64, r = u64 y ∧ Γ' = [] ∧ H' = [Res.cells s [u64 y] 167]) := by
  refine Spec.of_args Tryz.func113 rfl Tryz.ntmps113 (by simp) fun w => ?_
  refine .seq (.region ?_)
  refine .w (.assign rfl) ?_
  refine .nil (.tn (.seq ?_))
  refine JC.draw (.one 0 (.one 1 (.one 2 (.one 3 (.one 4 (.one 5 (.one 6 (.one 7 (.one 8 (.one 9 .nil)))))))))) (fun i => ([9] : List Nat).contains i) (fun i => ([9] : List Nat).contains i) (fun i => ([0, 1, 3, 4, 6, 7, 8] : List Nat).contains i) mixed (by kernel_rfl) (by decide) (by kernel_rfl) ?_
  refine .uw rfl (.move rfl) ?_
  refine .uw rfl (.nilCheck rfl) ?_
  refine .w rfl (.ld one_167 rfl) ?_
  refine .uw rfl (.move rfl) ?_
  refine .uw rfl (.nilCheck rfl) ?_
  refine .w rfl (.ld one_167 rfl) ?_
  refine .uw rfl (.bin rfl rfl (BinR.shl_u64_u64 (n := 13#64))) ?_
  refine .uw rfl (.bin rfl rfl (BinR.xor_u64)) ?_
  refine .uw rfl (.nilCheck rfl) ?_
  first | refine .mw0 rfl (.s1 sz_167) ?_ | refine .mw0 rfl (.sr1 sz_167) ?_
  rintro _ _ _ ⟨rfl, rfl⟩
  refine kp ?_
  refine .nil (.tn (.seq ?_))
  refine JC.draw (.one 0 (.one 1 (.one 2 (.one 3 (.one 4 (.one 5 (.one 6 (.one 7 (.one 8 (.one 9 .nil)))))))))) (fun i => ([9] : List Nat).contains i) (fun i => ([9] : List Nat).contains i) (fun i => ([0, 1, 3, 4, 6, 7, 8] : List Nat).contains i) mixed (by kernel_rfl) (by decide) (by kernel_rfl) ?_
  refine .uw rfl (.move rfl) ?_
  refine .uw rfl (.nilCheck rfl) ?_
  refine .w rfl (.ld one_167 rfl) ?_
  refine .uw rfl (.move rfl) ?_
  refine .uw rfl (.nilCheck rfl) ?_
  refine .w rfl (.ld one_167 rfl) ?_
  refine .uw rfl (.bin rfl rfl (BinR.shr_u64_u64 (n := 7#64))) ?_
  refine .uw rfl (.bin rfl rfl (BinR.xor_u64)) ?_
  refine .uw rfl (.nilCheck rfl) ?_
  first | refine .mw0 rfl (.s1 sz_167) ?_ | refine .mw0 rfl (.sr1 sz_167) ?_
  rintro _ _ _ ⟨rfl, rfl⟩
  refine kp ?_
  refine .nil (.tn (.seq ?_))
  refine JC.draw (.one 0 (.one 1 (.one 2 (.one 3 (.one 4 (.one 5 (.one 6 (.one 7 (.one 8 (.one 9 .nil)))))))))) (fun i => ([9] : List Nat).contains i) (fun i => ([9] : List Nat).contains i) (fun i => ([0, 1, 3, 4, 6, 7, 8] : List Nat).contains i) mixed (by kernel_rfl) (by decide) (by kernel_rfl) ?_
  refine .uw rfl (.move rfl) ?_
  refine .uw rfl (.nilCheck rfl) ?_
  refine .w rfl (.ld one_167 rfl) ?_
  refine .uw rfl (.move rfl) ?_
  refine .uw rfl (.nilCheck rfl) ?_
  refine .w rfl (.ld one_167 rfl) ?_
  refine .uw rfl (.bin rfl rfl (BinR.shl_u64_u64 (n := 17#64))) ?_
  refine .uw rfl (.bin rfl rfl (BinR.xor_u64)) ?_
  refine .uw rfl (.nilCheck rfl) ?_
  first | refine .mw0 rfl (.s1 sz_167) ?_ | refine .mw0 rfl (.sr1 sz_167) ?_
  rintro _ _ _ ⟨rfl, rfl⟩
  refine kp ?_
  refine .nil (.tn (.seq (.region ?_)))
  refine .w (.move rfl) ?_
  refine .w (.nilCheck rfl) ?_
  refine .w (.ld one_167 rfl) ?_
  refine .w (.assign rfl) ?_
  refine .nil (.tn (.ret ?_))
  exact .dn [] [Res.cells s [u64 _] 167] (res1 rfl (.tmp rfl)) ⟨_, rfl, rfl, rfl⟩

theorem f101_spec (g c n : Nat) (xs : List W64) (hl : xs.length = n) (hn : n ≤ 1000) (a b : Nat) (h1 : a + 8 ≤ b) (h2 : b ≤ n) (h3 : b < a + 50) :
    Spec Tryz.prog 101 #[(.slice (some ⟨g, 0, none⟩) n c), (it (a : Int)), (it (b : Int))] [] [Res.row (.slice (some ⟨g, 0, none⟩) n c) n 30 1 (xs.map u64)]
      (fun r Γ' H' => ∃ ys : List W64, ys.Perm xs ∧ Γ' = [] ∧ H' = [Res.row (.slice (some ⟨g, 0, none⟩) n c) n 30 1 (ys.map u64)]) := by
  refine Spec.of_args Tryz.func101 rfl Tryz.ntmps101 (by simp) fun w => ?_
  refine .seq (.region ?_)
  refine .w (.move rfl) ?_
  refine .w (.move rfl) ?_
  refine .w (.asI ((b - a : Nat) : Int) (.bin rfl rfl (BinR.sub_i zqf))) ?_
  refine .w (.assign rfl) ?_
  refine .nil (.tn (.seq (.region ?_)))
  refine .w (.move rfl) ?_
  refine .w (.asT (.bin rfl rfl BinR.geq_i)) ?_
  refine .nil (.tn ?_)
  refine .ct rfl ?_
  refine .seq (.region ?_)
  refine .w (.move rfl) ?_
  refine .w (.as (v' := u64 (BitVec.ofNat 64 (b - a))) (.conv_i_u64 Tryz.underlying3 Tryz.underlying167 rfl) (congrArg u64 (BitVec.ofInt_natCast _ _))) ?_
  refine .al zero_167 fun b7 => ?_
  first | refine .s1 sz_167 ?_ | refine .sr1 sz_167 ?_
  refine .nil (.tn (.seq (.region ?_)))
  refine .w (.move rfl) ?_
  refine .c (f112_spec (b - a) (by omega)) body_112 ?_
  refine .w (.assign rfl) ?_
  refine .nil (.tn (.seq (.region ?_)))
  refine .w (.move rfl) ?_
  refine .w (.move rfl) ?_
  refine .w (.asI (((b - a) / 4 : Nat) : Int) (.bin rfl rfl (BinR.quo_i (by first | omega | decide | (simp; omega)) (by first | omega | decide | (simp; omega)) zqf))) ?_
  refine .w (.asI (((b - a) / 4 * 2 : Nat) : Int) (.bin rfl rfl (BinR.mul_i zqf))) ?_
  refine .w (.asI ((a + (b - a) / 4 * 2 : Nat) : Int) (.bin rfl rfl (BinR.add_i zqf))) ?_
  refine .w (.asI ((a + (b - a) / 4 * 2 - 1 : Nat) : Int) (.bin rfl rfl (BinR.sub_i zqf))) ?_
  refine .w (.assign rfl) ?_
  refine .nil (.tn (.block ?_))
  refine .lp (ι := (Nat × BitVec 64) × List W64) (fun x => a ≤ x.1.1 ∧ x.2.Perm xs) (fun T x => (9, it (x.1.1 : Int)) :: T) (fun T _ => T) (fun T x => Res.row (.slice (some ⟨g, 0, none⟩) n c) n 30 1 (x.2.map u64) :: Res.cells b7 [u64 x.1.2] 167 :: T) (fun x => b - x.1.1) ((a + (b - a) / 4 * 2 - 1, BitVec.ofNat 64 (b - a)), xs) [0, 1, 6, 7, 8] ?_ (fun x hx => ?_)
  · exact ⟨by dsimp only; omega, .refl _⟩
  obtain ⟨⟨i, rd⟩, zs⟩ := x
  obtain ⟨h4, hp⟩ := hx
  dsimp only at h4 hp ⊢
  have hzl : zs.length = n := hp.length_eq.trans hl
  refine .seq (.seq (.region ?_))
  refine .w (.move rfl) ?_
  refine .w (.move rfl) ?_
  refine .w (.move rfl) ?_
  refine .w (.asI (((b - a) / 4 : Nat) : Int) (.bin rfl rfl (BinR.quo_i (by first | omega | decide | (simp; omega)) (by first | omega | decide | (simp; omega)) zqf))) ?_
  refine .w (.asI (((b - a) / 4 * 2 : Nat) : Int) (.bin rfl rfl (BinR.mul_i zqf))) ?_
  refine .w (.asI ((a + (b - a) / 4 * 2 : Nat) : Int) (.bin rfl rfl (BinR.add_i zqf))) ?_
  refine .w (.asI ((a + (b - a) / 4 * 2 + 1 : Nat) : Int) (.bin rfl rfl (BinR.add_i zqf))) ?_
  refine .w (.bin rfl rfl BinR.leq_i) ?_
  refine .nil (.tn ?_)
  refine .cn rfl (fun hc2 => ?_) (fun hc2 => ?_)
  · have hib : i < b := by omega
    refine .skip (.tn (.seq (.block (.seq (.region ?_)))))
    refine .cb (f113_spec b7 rd) body_113 ?_ (h0 := by rintro _ _ _ ⟨_, _, h, _⟩; exact h)
    rintro _ _ ⟨y, rfl, _, rfl⟩
    refine .ap ?_
    obtain ⟨o, ho⟩ : ∃ o, o = (y &&& (BitVec.ofNat 64 (2 ^ bitlen (b - a)) - 1#64)).toNat := ⟨_, rfl⟩
    have ho2 : o < 2 * (b - a) := by
      rw [ho, BitVec.toNat_and]
      refine Nat.lt_of_le_of_lt Nat.and_le_right ?_
      exact (show ∀ k, k < 50 → 8 ≤ k → (BitVec.ofNat 64 (2 ^ bitlen k) - 1#64).toNat < 2 * k by decide) (b - a) (by omega) (by omega)
    refine .w (.move rfl) ?_
    refine .w (.bin rfl rfl (BinR.sub_u64 (b := 1#64))) ?_
    refine .w (.bin rfl rfl (BinR.and_u64)) ?_
    refine .w (.as (v' := it (o : Int)) (.conv_u64_i Tryz.underlying130 Tryz.underlying3 rfl (by first | omega | decide | (simp; omega))) (congrArg it (by rw [ho]))) ?_
    refine .w (.assign rfl) ?_
    refine .nil (.tn ?_)
    refine .mt (ι := Nat) (fun x => x < b - a) (fun T x => (10, it (x : Int)) :: T) (fun T _ => T) (fun T _ => T) [0, 1, 6, 7, 8, 9, 26, 27, 28, 29, 30, 31, 32, 33, 34, 35, 36, 37, 38, 39, 40, 47, 48, 49, 50, 51, 52, 53, 54, 55, 56, 57, 58, 59, 60, 61, 62, 63, 64] [] ?_ (fun x hx => ?_)
    · refine .seq (.region ?_)
      refine .w (.move rfl) ?_
      refine .w (.move rfl) ?_
      refine .w (.bin rfl rfl BinR.geq_i) ?_
      refine .nil (.tn ?_)
      refine .cn rfl (fun hc3 => ?_) (fun hc3 => ?_)
      · skip
        refine .region ?_
        refine .w (.move rfl) ?_
        refine .w (.move rfl) ?_
        refine .w (.asI ((o - (b - a) : Nat) : Int) (.bin rfl rfl (BinR.sub_i zqf))) ?_
        refine .w (.assign rfl) ?_
        refine .nil ?_
        refine .hd (o - (b - a)) ?_
        omega
      · skip
        refine .skip ?_
        refine .hd o ?_
        omega
    · obtain ⟨q, hq⟩ : ∃ q, q = x := ⟨_, rfl⟩
      subst hq
      refine JC.draw (.one 0 (.one 1 (.one 2 (.one 3 (.one 4 (.one 5 (.one 6 (.one 7 (.one 8 (.one 9 (.one 10 (.one 11 (.one 12 (.one 13 (.one 14 (.one 15 (.one 16 (.one 17 (.one 18 (.one 19 .nil)))))))))))))))))))) (fun i => ([17, 19] : List Nat).contains i) (fun i => ([17, 19] : List Nat).contains i) (fun i => ([0, 1, 2, 3, 4, 5, 6, 7, 8, 9, 10, 12, 13, 14, 16, 18] : List Nat).contains i) mixed (by kernel_rfl) (by decide) (by kernel_rfl) ?_
      refine .uw rfl (.move rfl) ?_
      refine .uw rfl (.move rfl) ?_
      refine .uw rfl (.move rfl) ?_
      refine .uw rfl (.move rfl) ?_
      refine .uw rfl (.move rfl) ?_
      refine .uw rfl (.asI ((a + q : Nat) : Int) (.bin rfl rfl (BinR.add_i zqf))) ?_
      refine .uw rfl (.move rfl) ?_
      refine .uw rfl (.move rfl) ?_
      refine .uw rfl (.move rfl) ?_
      refine .uw rfl (.asI ((a + q : Nat) : Int) (.bin rfl rfl (BinR.add_i zqf))) ?_
      refine .uw rfl (.as (v' := ptr (blk (.slice (some ⟨g, 0, none⟩) n c)) (a + q)) (.indexSl0 Tryz.underlying22 sz_30 rfl rfl zqb) (congrArg (ptr g) (Nat.mul_one _))) ?_
      refine .w rfl (.ld one_30 rfl) ?_
      refine .uw rfl (.move rfl) ?_
      refine .uw rfl (.move rfl) ?_
      refine .uw rfl (.as (v' := ptr (blk (.slice (some ⟨g, 0, none⟩) n c)) i) (.indexSl0 Tryz.underlying22 sz_30 rfl rfl zqb) (congrArg (ptr g) (Nat.mul_one _))) ?_
      refine .w rfl (.ld one_30 rfl) ?_
      refine .uw rfl (.as (v' := ptr (blk (.slice (some ⟨g, 0, none⟩) n c)) i) (.indexSl0 Tryz.underlying22 sz_30 rfl rfl zqb) (congrArg (ptr g) (Nat.mul_one _))) ?_
      first | refine .mw0 rfl (.s1 sz_30) ?_ | refine .mw0 rfl (.sr1 sz_30) ?_
      rintro _ _ _ ⟨rfl, rfl⟩
      refine kp ?_
      refine .uw rfl (.as (v' := ptr (blk (.slice (some ⟨g, 0, none⟩) n c)) (a + q)) (.indexSl0 Tryz.underlying22 sz_30 rfl rfl zqb) (congrArg (ptr g) (Nat.mul_one _))) ?_
      first | refine .mw0 rfl (.s1 sz_30) ?_ | refine .mw0 rfl (.sr1 sz_30) ?_
      rintro _ _ _ ⟨rfl, rfl⟩
      refine kp ?_
      rw [swap_row]
      refine .nil (.block_normal (.tn (.region ?_)))
      refine .w (.move rfl) ?_
      refine .w (.asI ((i + 1 : Nat) : Int) (.bin rfl rfl (BinR.add_i zqf))) ?_
      refine .w (.assign rfl) ?_
      refine .nil ?_
      refine .hd ((i + 1, y), ((zs.set i (zs.getD (a + q) 0)).set (a + q) (zs.getD i 0))) ?_
      exact ⟨⟨by dsimp only; omega, (swap_perm (by omega) (by omega)).trans hp⟩, by dsimp only; omega⟩
  · skip
    refine .exit (.then_exit (.then_exit (.block_exit ?_)))
    exact .dn [] [Res.row (.slice (some ⟨g, 0, none⟩) n c) n 30 1 (zs.map u64)] (res_none rfl) ⟨zs, hp, rfl, rfl⟩
end Go.Proofs.YthfipbjmpeegbaaGreatDoor

/- Walk: numbers sorted. -/
namespace Go.Proofs.YthfipbjmpeegbaaGreatDoor
open Go.RowKit
set_option maxRecDepth 100000
set_option linter.unusedVariables false
set_option linter.unusedSimpArgs false
set_option maxHeartbeats 1000000 in
theorem f80_spec (N : Nat) (g c n : Nat) (hn : n ≤ 49) (xs : List W64) (hl : xs.length = n) (a b lim : Nat) (hlm : lim ≤ 1000) (hab : a ≤ b) (hb : b ≤ n) (hN : b - a ≤ N) :
    Spec Tryz.prog 80 #[(.slice (some ⟨g, 0, none⟩) n c), (it (a : Int)), (it (b : Int)), (it (lim : Int))] [] [Res.row (.slice (some ⟨g, 0, none⟩) n c) n 30 1 (xs.map u64)]
      (fun r Γ' H' => ∃ ys : List W64, ys.Perm xs ∧ Γ' = [] ∧ H' = [Res.row (.slice (some ⟨g, 0, none⟩) n c) n 30 1 (ys.map u64)]) := by
  induction N using Nat.strongRecOn generalizing xs a b lim
  rename_i N ih
  refine Spec.of_args Tryz.func80 rfl Tryz.ntmps80 (by simp) fun w => ?_
  refine .seq (.region ?_)
  refine .w (.assign rfl) ?_
  refine .nil (.tn (.seq (.region ?_)))
  refine .w (.assign rfl) ?_
  refine .nil (.tn (.block ?_))
  refine .lp (ι := ((Nat × Nat) × Nat) × (Bool × Bool) × List W64) (fun x => (x.1.1.1 ≤ x.1.1.2 ∧ x.1.1.2 ≤ n ∧ x.1.1.2 - x.1.1.1 ≤ b - a) ∧ x.1.2 ≤ 1000 ∧ x.2.2.Perm xs) (fun T x => (1, it (x.1.1.1 : Int)) :: (2, it (x.1.1.2 : Int)) :: (3, it (x.1.2 : Int)) :: (8, .bool x.2.1.1) :: (9, .bool x.2.1.2) :: T) (fun T _ => T) (fun T x => Res.row (.slice (some ⟨g, 0, none⟩) n c) n 30 1 (x.2.2.map u64) :: T) (fun x => x.1.1.2 - x.1.1.1) (((a, b), lim), (true, true), xs) [0] ?_ (fun x hx => ?_)
  · exact ⟨⟨hab, hb, Nat.le_refl _⟩, hlm, .refl _⟩
  obtain ⟨⟨⟨a1, b1⟩, l1⟩, ⟨wb, wp⟩, zs⟩ := x
  obtain ⟨⟨h3, h4, h5⟩, h6, hp⟩ := hx
  dsimp only at h3 h4 h5 h6 hp ⊢
  have hzl : zs.length = n := hp.length_eq.trans hl
  refine .block (.seq (.region ?_))
  refine .w (.move rfl) ?_
  refine .w (.move rfl) ?_
  refine .w (.asI ((b1 - a1 : Nat) : Int) (.bin rfl rfl (BinR.sub_i zqf))) ?_
  refine .w (.assign rfl) ?_
  refine .nil (.tn (.seq (.seq (.region ?_))))
  refine .w (.move rfl) ?_
  refine .w (.bin rfl rfl BinR.leq_i) ?_
  refine .nil (.tn ?_)
  refine .cn rfl (fun hc1 => ?_) (fun hc1 => ?_)
  · skip
    refine .seq (.region ?_)
    refine .w (.move rfl) ?_
    refine .w (.move rfl) ?_
    refine .w (.move rfl) ?_
    refine .cb (f99_spec g c n zs hzl (by omega) a1 b1 h3 h4) body_99 ?_ (h0 := by rintro _ _ _ ⟨_, _, h, _⟩; exact h)
    rintro _ _ ⟨ys, hy, _, rfl⟩
    refine .ap ?_
    refine .nil (.tn (.ret (.then_ret (.block_ret (.then_ret (.block_ret ?_))))))
    exact .dn [] [Res.row (.slice (some ⟨g, 0, none⟩) n c) n 30 1 (ys.map u64)] (res_none rfl) ⟨ys, hy.trans hp, rfl, rfl⟩
  · skip
    refine .skip (.tn (.seq (.seq (.region ?_))))
    refine .w (.move rfl) ?_
    refine .w (.bin rfl rfl BinR.eql_i) ?_
    refine .nil (.tn ?_)
    refine .cn rfl (fun hc2 => ?_) (fun hc2 => ?_)
    · skip
      refine .seq (.region ?_)
      refine .w (.move rfl) ?_
      refine .w (.move rfl) ?_
      refine .w (.move rfl) ?_
      refine .cb (f100_spec g c n zs hzl (by omega) a1 b1 (by omega) h4) body_100 ?_ (h0 := by rintro _ _ _ ⟨_, _, h, _⟩; exact h)
      rintro _ _ ⟨ys, hy, _, rfl⟩
      refine .ap ?_
      refine .nil (.tn (.ret (.then_ret (.block_ret (.then_ret (.block_ret ?_))))))
      exact .dn [] [Res.row (.slice (some ⟨g, 0, none⟩) n c) n 30 1 (ys.map u64)] (res_none rfl) ⟨ys, hy.trans hp, rfl, rfl⟩
    · skip
      refine .skip (.tn ?_)
      refine .mt (ι := Nat × List W64) (fun x => x.1 ≤ 1000 ∧ x.2.Perm xs) (fun T x => (3, it (x.1 : Int)) :: T) (fun T _ => T) (fun T x => Res.row (.slice (some ⟨g, 0, none⟩) n c) n 30 1 (x.2.map u64) :: T) [0, 1, 2, 8, 9, 10, 11, 12, 13, 14, 15, 16, 17, 18, 19, 20, 21, 22, 23, 24, 25, 26, 28, 29, 30, 31, 32, 42, 43, 44, 45, 46, 47, 48, 49, 50, 51, 52, 53, 55, 56, 57, 58, 59, 60, 61, 62, 63, 64, 65, 66, 67, 68, 69, 70, 71, 72, 73, 74, 75, 76, 77, 78, 79, 80, 81, 82, 83, 84, 85, 86, 87, 88, 89, 90, 91, 92, 93, 94, 95, 96, 97, 98, 99, 100, 101, 102, 103, 104, 105, 106, 107, 108, 109, 110, 111, 112, 113, 114, 115, 116, 117, 118, 119, 120, 122, 123, 124, 125, 126, 127, 128, 129, 130, 131, 133] [Res.row (.slice (some ⟨g, 0, none⟩) n c) n 30 1 (zs.map u64)] ?_ (fun x hx => ?_)
      · refine .seq (.region ?_)
        refine .w (.move rfl) ?_
        refine .w (.not rfl) ?_
        refine .nil (.tn ?_)
        refine .cn rfl (fun hc3 => ?_) (fun hc3 => ?_)
        · skip
          refine .seq (.region ?_)
          refine .w (.move rfl) ?_
          refine .w (.move rfl) ?_
          refine .w (.move rfl) ?_
          refine .cb (f101_spec g c n zs hzl (by omega) a1 b1 (by omega) h4 (by omega)) body_101 ?_ (h0 := by rintro _ _ _ ⟨_, _, h, _⟩; exact h)
          rintro _ _ ⟨ys, hy, _, rfl⟩
          refine .ap ?_
          refine .nil (.tn (.region ?_))
          refine .w (.move rfl) ?_
          refine .w (.asI ((l1 - 1 : Nat) : Int) (.bin rfl rfl (BinR.sub_i zqf))) ?_
          refine .w (.assign rfl) ?_
          refine .nil ?_
          refine .hd (l1 - 1, ys) ?_
          first
          | exact ⟨by dsimp only; omega, hy.trans hp⟩
          | exact ⟨by dsimp only; omega, hp⟩
        · skip
          refine .skip ?_
          refine .hd (l1, zs) ?_
          first
          | exact ⟨by dsimp only; omega, hy.trans hp⟩
          | exact ⟨by dsimp only; omega, hp⟩
      · obtain ⟨l2, us⟩ := x
        obtain ⟨h7, hq⟩ := hx
        dsimp only at h7 hq ⊢
        have hul : us.length = n := hq.length_eq.trans hl
        refine .seq (.region ?_)
        refine .w (.move rfl) ?_
        refine .w (.move rfl) ?_
        refine .w (.move rfl) ?_
        refine .cb (f102_spec g c n us hul (by omega) a1 b1 (by omega) h4 (by omega)) body_102 ?_ (h0 := by rintro _ _ _ ⟨_, _, _, _, _, h, _⟩; exact h)
        rintro _ _ ⟨pv, q, rfl, hp1, hp2, _, rfl⟩
        refine .ap ?_
        refine .w (.move rfl) ?_
        refine .w (.extract rfl rfl) ?_
        refine .w (.extract rfl rfl) ?_
        refine .w (.assign rfl) ?_
        refine .w (.assign rfl) ?_
        refine .nil (.tn ?_)
        refine .mt (ι := (Nat × Int) × List W64) (fun x => (a1 ≤ x.1.1 ∧ x.1.1 < b1) ∧ x.2.Perm xs) (fun T x => (11, it (x.1.1 : Int)) :: (12, it x.1.2) :: T) (fun T _ => T) (fun T x => Res.row (.slice (some ⟨g, 0, none⟩) n c) n 30 1 (x.2.map u64) :: T) [0, 1, 2, 3, 8, 9, 10, 13, 14, 15, 16, 17, 18, 19, 20, 21, 22, 23, 24, 25, 26, 28, 29, 30, 31, 32, 34, 35, 36, 37, 38, 40, 41, 42, 43, 44, 45, 46, 47, 48, 61, 62, 63, 64, 65, 66, 67, 68, 69, 70, 71, 72, 73, 74, 75, 76, 77, 78, 79, 80, 81, 82, 83, 84, 85, 86, 87, 88, 89, 90, 91, 92, 93, 94, 95, 96, 97, 98, 99, 100, 101, 102, 103, 104, 105, 106, 107, 108, 109, 110, 111, 112, 113, 114, 115, 116, 117, 118, 119, 120, 122, 123, 124, 125, 126, 127, 128, 129, 130, 131, 133] [Res.row (.slice (some ⟨g, 0, none⟩) n c) n 30 1 (us.map u64)] ?_ (fun x hx => ?_)
        · refine .seq (.region ?_)
          refine .w (.move rfl) ?_
          refine .w (.bin rfl rfl BinR.eql_i) ?_
          refine .nil (.tn ?_)
          refine .cn rfl (fun hc4 => ?_) (fun hc4 => ?_)
          · skip
            refine .seq (.region ?_)
            refine .w (.move rfl) ?_
            refine .w (.move rfl) ?_
            refine .w (.move rfl) ?_
            refine .cb (f103_spec g c n us hul (by omega) a1 b1 h4) body_103 ?_ (h0 := by rintro _ _ _ ⟨_, _, h, _⟩; exact h)
            rintro _ _ ⟨ys, hy, _, rfl⟩
            refine .ap ?_
            refine .nil (.tn (.seq (.region ?_)))
            refine .w (.move rfl) ?_
            refine .w (.asI ((b1 - 1 : Nat) : Int) (.bin rfl rfl (BinR.sub_i zqf))) ?_
            refine .w (.move rfl) ?_
            refine .w (.move rfl) ?_
            refine .w (.asI ((pv - a1 : Nat) : Int) (.bin rfl rfl (BinR.sub_i zqf))) ?_
            refine .w (.asI ((b1 - 1 - (pv - a1) : Nat) : Int) (.bin rfl rfl (BinR.sub_i zqf))) ?_
            refine .w (.assign rfl) ?_
            refine .nil (.tn (.region ?_))
            refine .w (.assign rfl) ?_
            refine .nil ?_
            refine .hd ((b1 - 1 - (pv - a1), 1), ys) ?_
            first
            | exact ⟨⟨by dsimp only; omega, by dsimp only; omega⟩, hy.trans hq⟩
            | exact ⟨⟨by dsimp only; omega, by dsimp only; omega⟩, hq⟩
          · skip
            refine .skip ?_
            refine .hd ((pv, q), us) ?_
            first
            | exact ⟨⟨by dsimp only; omega, by dsimp only; omega⟩, hy.trans hq⟩
            | exact ⟨⟨by dsimp only; omega, by dsimp only; omega⟩, hq⟩
        · obtain ⟨⟨pw, qw⟩, vs⟩ := x
          obtain ⟨⟨h8, h9⟩, hv⟩ := hx
          dsimp only at h8 h9 hv ⊢
          have hvl : vs.length = n := hv.length_eq.trans hl
          refine .mt (ι := Unit) (fun x => True) (fun T _ => T) (fun T _ => T) (fun T _ => T) [0, 1, 2, 3, 8, 9, 10, 11, 12, 13, 14, 15, 16, 17, 18, 19, 20, 21, 22, 23, 24, 25, 26, 28, 29, 30, 31, 32, 34, 35, 36, 37, 38, 40, 41, 42, 43, 44, 45, 46, 47, 48, 49, 50, 51, 52, 53, 55, 56, 57, 58, 59, 60, 73, 74, 75, 76, 77, 78, 79, 80, 81, 82, 83, 84, 85, 86, 87, 88, 89, 90, 91, 92, 93, 94, 95, 96, 97, 98, 99, 100, 101, 102, 103, 104, 105, 106, 107, 108, 109, 110, 111, 112, 113, 114, 115, 116, 117, 118, 119, 120, 122, 123, 124, 125, 126, 127, 128, 129, 130, 131, 133] [] ?_ (fun x hx => ?_)
          · refine .seq (.region ?_)
            refine .w (.move rfl) ?_
            refine .w (.move rfl) ?_
            refine .join 6 68 (.bool (wb && wp && decide (qw = 1))) ?_ ?_
            · refine .gn (g := 8) rfl (fun hg53 hg53' => ?_) (fun hg53 hg53' => ?_)
              · refine .gt (g := 62) rfl rfl hg53 ?_
                refine .w (.move rfl) ?_
                refine .w (.pick1 rfl hg53 rfl) ?_
                refine .w (.move rfl) ?_
                refine .gn (g := 64) rfl (fun hg56 hg56' => ?_) (fun hg56 hg56' => ?_)
                · refine .gt (g := 65) rfl rfl hg56 ?_
                  refine .w (.move rfl) ?_
                  refine .gt (g := 65) rfl rfl hg56 ?_
                  refine .w (.bin rfl rfl BinR.eql_i) ?_
                  refine .w (.pick1 rfl hg56 rfl) ?_
                  refine .nil ?_
                  refine .head () (by first | (refine ⟨by first | rfl | exact congrArg (fun b => some (Value.bool b)) (by simp_all; done), ?_⟩; repeat (first | exact trivial | refine ⟨rfl, ?_⟩))) (fun _ h => h) (Picks.perm zqd) ?_
                  trivial
                · refine .gf (g := 65) rfl rfl hg56 (by decide) ?_
                  refine .gf (g := 65) rfl rfl hg56 (by decide) ?_
                  refine .w (.pick0 rfl hg56 rfl) ?_
                  refine .nil ?_
                  refine .head () (by first | (refine ⟨by first | rfl | exact congrArg (fun b => some (Value.bool b)) (by simp_all; done), ?_⟩; repeat (first | exact trivial | refine ⟨rfl, ?_⟩))) (fun _ h => h) (Picks.perm zqd) ?_
                  trivial
              · refine .gf (g := 62) rfl rfl hg53 (by decide) ?_
                refine .w (.pick0 rfl hg53 rfl) ?_
                refine .w (.move rfl) ?_
                refine .gf (g := 65) rfl rfl rfl (by decide) ?_
                refine .gf (g := 65) rfl rfl rfl (by decide) ?_
                refine .w (.pick0 rfl rfl rfl) ?_
                refine .nil ?_
                refine .head () (by first | (refine ⟨by first | rfl | exact congrArg (fun b => some (Value.bool b)) (by simp_all; done), ?_⟩; repeat (first | exact trivial | refine ⟨rfl, ?_⟩))) (fun _ h => h) (Picks.perm zqd) ?_
                trivial
            · refine .nil (.tn ?_)
              refine .cn rfl (fun hc5 => ?_) (fun hc5 => ?_)
              · skip
                refine .seq (.region ?_)
                refine .w (.move rfl) ?_
                refine .w (.move rfl) ?_
                refine .w (.move rfl) ?_
                refine .cb (f104_spec g c n vs hvl (by omega) a1 b1 (by omega) h4 (by omega)) body_104 ?_ (h0 := by rintro _ _ _ ⟨_, _, h, _⟩; exact h)
                rintro _ _ ⟨z, rfl, _, rfl⟩
                refine .ap ?_
                refine .nil (.tn ?_)
                refine .cn rfl (fun hc6 => ?_) (fun hc6 => ?_)
                · skip
                  refine .ret (.then_ret (.block_ret (.then_ret (.block_ret ?_))))
                  exact .dn [] [Res.row (.slice (some ⟨g, 0, none⟩) n c) n 30 1 (vs.map u64)] (res_none rfl) ⟨vs, hv, rfl, rfl⟩
                · skip
                  refine .skip ?_
                  refine .hd () ?_
                  trivial
              · skip
                refine .skip ?_
                refine .hd () ?_
                trivial
          · obtain ⟨⟩ := x
            refine .seq (.seq ?_)
            refine JC.draw (.one 0 (.one 1 (.one 2 (.one 3 (.one 4 (.one 5 (.one 6 (.one 7 (.one 8 (.one 9 (.one 10 (.one 11 (.one 12 (.one 13 (.one 14 .nil))))))))))))))) (fun i => ([12] : List Nat).contains i) (fun i => ([12] : List Nat).contains i) (fun i => ([0, 1, 2, 3, 4, 5, 6, 8, 9, 10, 13, 14] : List Nat).contains i) mixed (by kernel_rfl) (by decide) (by kernel_rfl) ?_
            refine .uw rfl (.move rfl) ?_
            refine .uw rfl (.bin rfl rfl BinR.gtr_i) ?_
            refine .uw rfl (.move rfl) ?_
            refine JR.gsplit (g := 74) rfl (fun hg66 => ?_) (fun hg66 => ?_)
            · have hg66' := hg66
              try simp only [decide_eq_true_eq, decide_eq_false_iff_not, Bool.not_eq_true', Bool.not_eq_false', ne_eq, Decidable.not_not, Bool.not_eq_true, Bool.and_eq_true, Bool.or_eq_true, BitVec.reduceToNat] at hg66'
              refine JR.ugt (g := 75) rfl rfl rfl rfl rfl hg66 (.move rfl) (by decide) ?_
              refine JR.ugt (g := 75) rfl rfl rfl rfl rfl hg66 (.move rfl) (by decide) ?_
              refine JR.ugt (g := 75) rfl rfl rfl rfl rfl hg66 (.asI ((a1 - 1 : Nat) : Int) (.bin rfl rfl (BinR.sub_i zqf))) (by decide) ?_
              refine JR.ugt (g := 75) rfl rfl rfl rfl rfl hg66 (.as (v' := ptr (blk (.slice (some ⟨g, 0, none⟩) n c)) (a1 - 1)) (.indexSl0 Tryz.underlying22 sz_30 rfl rfl zqb) (congrArg (ptr g) (Nat.mul_one _))) (by decide) ?_
              refine JR.vgt (g := 75) rfl rfl rfl rfl rfl hg66 (.ld one_30 rfl) (by decide) ?_
              refine JR.ugt (g := 75) rfl rfl rfl rfl rfl hg66 (.move rfl) (by decide) ?_
              refine JR.ugt (g := 75) rfl rfl rfl rfl rfl hg66 (.move rfl) (by decide) ?_
              refine JR.ugt (g := 75) rfl rfl rfl rfl rfl hg66 (.as (v' := ptr (blk (.slice (some ⟨g, 0, none⟩) n c)) pw) (.indexSl0 Tryz.underlying22 sz_30 rfl rfl zqb) (congrArg (ptr g) (Nat.mul_one _))) (by decide) ?_
              refine JR.vgt (g := 75) rfl rfl rfl rfl rfl hg66 (.ld one_30 rfl) (by decide) ?_
              refine JR.mgt (g := 75) rfl rfl rfl rfl hg66 (.c (f105_spec (vs.getD (a1 - 1) 0) (vs.getD pw 0)) body_105) (by decide) ?_
              rintro _ _ _ ⟨rfl, rfl, rfl⟩
              refine kp ?_
              refine JR.ugt (g := 75) rfl rfl rfl rfl rfl hg66 (.not rfl) (by decide) ?_
              refine JR.u rfl rfl rfl (Yv.pick1 rfl hg66 rfl) (by decide) ?_
              refine .nil (.tn ?_)
              refine .cn rfl (fun hc7 => ?_) (fun hc7 => ?_)
              · skip
                refine .seq (.region ?_)
                refine .w (.move rfl) ?_
                refine .w (.move rfl) ?_
                refine .w (.move rfl) ?_
                refine .w (.move rfl) ?_
                refine .cb (f106_spec g c n vs hvl (by omega) a1 b1 pw h8 h9 h4) body_106 ?_ (h0 := by rintro _ _ _ ⟨_, _, _, _, _, _, h, _⟩; exact h)
                rintro _ _ ⟨m, ys, rfl, hm1, hm2, hy, _, rfl⟩
                refine .ap ?_
                refine .w (.assign rfl) ?_
                refine .nil (.tn (.seq (.region ?_)))
                refine .w (.move rfl) ?_
                refine .w (.assign rfl) ?_
                refine .nil (.tn (.exit (.then_exit (.block_exit ?_))))
                refine .hd (((m, b1), l2), (wb, wp), ys) ?_
                first
                | exact ⟨⟨⟨by dsimp only; omega, by dsimp only; omega, by dsimp only; omega⟩, by dsimp only; omega, ht.trans (hy.trans hv)⟩, by dsimp only; omega⟩
                | exact ⟨⟨⟨by dsimp only; omega, by dsimp only; omega, by dsimp only; omega⟩, by dsimp only; omega, hy.trans hv⟩, by dsimp only; omega⟩
              · skip
                refine .skip (.tn (.seq (.region ?_)))
                refine .w (.move rfl) ?_
                refine .w (.move rfl) ?_
                refine .w (.move rfl) ?_
                refine .w (.move rfl) ?_
                refine .cb (f107_spec g c n vs hvl (by omega) a1 b1 pw h8 h9 h4) body_107 ?_ (h0 := by rintro _ _ _ ⟨_, _, _, _, _, _, _, h, _⟩; exact h)
                rintro _ _ ⟨m, z2, ys, rfl, hm1, hm2, hy, _, rfl⟩
                refine .ap ?_
                have hyl : ys.length = n := (hy.trans hv).length_eq.trans hl
                refine .w (.move rfl) ?_
                refine .w (.extract rfl rfl) ?_
                refine .w (.extract rfl rfl) ?_
                refine .w (.assign rfl) ?_
                refine .w (.assign rfl) ?_
                refine .nil (.tn (.seq (.region ?_)))
                refine .w (.move rfl) ?_
                refine .w (.assign rfl) ?_
                refine .nil (.tn (.seq (.region ?_)))
                refine .w (.move rfl) ?_
                refine .w (.move rfl) ?_
                refine .w (.asI ((m - a1 : Nat) : Int) (.bin rfl rfl (BinR.sub_i zqf))) ?_
                refine .w (.move rfl) ?_
                refine .w (.move rfl) ?_
                refine .w (.asI ((b1 - m : Nat) : Int) (.bin rfl rfl (BinR.sub_i zqf))) ?_
                refine .w (.assign rfl) ?_
                refine .w (.assign rfl) ?_
                refine .nil (.tn (.seq (.region ?_)))
                refine .w (.move rfl) ?_
                refine .w (.asI (((b1 - a1) / 8 : Nat) : Int) (.bin rfl rfl (BinR.quo_i (by first | omega | decide | (simp; omega)) (by first | omega | decide | (simp; omega)) zqf))) ?_
                refine .w (.assign rfl) ?_
                refine .nil (.tn (.seq (.region ?_)))
                refine .w (.move rfl) ?_
                refine .w (.move rfl) ?_
                refine .w (.bin rfl rfl BinR.lss_i) ?_
                refine .nil (.tn ?_)
                refine .cn rfl (fun hc8 => ?_) (fun hc8 => ?_)
                · skip
                  refine .seq (.region ?_)
                  refine .w (.move rfl) ?_
                  refine .w (.move rfl) ?_
                  refine .w (.bin rfl rfl BinR.geq_i) ?_
                  refine .w (.assign rfl) ?_
                  refine .nil (.tn (.seq (.region ?_)))
                  refine .w (.move rfl) ?_
                  refine .w (.move rfl) ?_
                  refine .w (.move rfl) ?_
                  refine .w (.move rfl) ?_
                  refine .cb (ih (m - a1) (by omega) ys hyl a1 m l2 (by omega) (by omega) (by omega) (Nat.le_refl _)) body_80 ?_ (h0 := by rintro _ _ _ ⟨_, _, h, _⟩; exact h)
                  rintro _ _ ⟨ts, ht, _, rfl⟩
                  refine .ap ?_
                  refine .nil (.tn (.region ?_))
                  refine .w (.move rfl) ?_
                  refine .w (.asI ((m + 1 : Nat) : Int) (.bin rfl rfl (BinR.add_i zqf))) ?_
                  refine .w (.assign rfl) ?_
                  refine .nil (.block_normal ?_)
                  refine .hd (((m + 1, b1), l2), (_, z2), ts) ?_
                  first
                  | exact ⟨⟨⟨by dsimp only; omega, by dsimp only; omega, by dsimp only; omega⟩, by dsimp only; omega, ht.trans (hy.trans hv)⟩, by dsimp only; omega⟩
                  | exact ⟨⟨⟨by dsimp only; omega, by dsimp only; omega, by dsimp only; omega⟩, by dsimp only; omega, hy.trans hv⟩, by dsimp only; omega⟩
                · skip
                  refine .seq (.region ?_)
                  refine .w (.move rfl) ?_
                  refine .w (.move rfl) ?_
                  refine .w (.bin rfl rfl BinR.geq_i) ?_
                  refine .w (.assign rfl) ?_
                  refine .nil (.tn (.seq (.region ?_)))
                  refine .w (.move rfl) ?_
                  refine .w (.move rfl) ?_
                  refine .w (.asI ((m + 1 : Nat) : Int) (.bin rfl rfl (BinR.add_i zqf))) ?_
                  refine .w (.move rfl) ?_
                  refine .w (.move rfl) ?_
                  refine .cb (ih (b1 - (m + 1)) (by omega) ys hyl (m + 1) b1 l2 (by omega) (by omega) (by omega) (Nat.le_refl _)) body_80 ?_ (h0 := by rintro _ _ _ ⟨_, _, h, _⟩; exact h)
                  rintro _ _ ⟨ts, ht, _, rfl⟩
                  refine .ap ?_
                  refine .nil (.tn (.region ?_))
                  refine .w (.move rfl) ?_
                  refine .w (.assign rfl) ?_
                  refine .nil (.block_normal ?_)
                  refine .hd (((a1, m), l2), (_, z2), ts) ?_
                  first
                  | exact ⟨⟨⟨by dsimp only; omega, by dsimp only; omega, by dsimp only; omega⟩, by dsimp only; omega, ht.trans (hy.trans hv)⟩, by dsimp only; omega⟩
                  | exact ⟨⟨⟨by dsimp only; omega, by dsimp only; omega, by dsimp only; omega⟩, by dsimp only; omega, hy.trans hv⟩, by dsimp only; omega⟩
            · have hg66' := hg66
              try simp only [decide_eq_true_eq, decide_eq_false_iff_not, Bool.not_eq_true', Bool.not_eq_false', ne_eq, Decidable.not_not, Bool.not_eq_true, Bool.and_eq_true, Bool.or_eq_true, BitVec.reduceToNat] at hg66'
              refine JR.gf (g := 75) rfl rfl rfl rfl hg66 (by decide) ?_
              refine JR.gf (g := 75) rfl rfl rfl rfl hg66 (by decide) ?_
              refine JR.gf (g := 75) rfl rfl rfl rfl hg66 (by decide) ?_
              refine JR.gf (g := 75) rfl rfl rfl rfl hg66 (by decide) ?_
              refine JR.gf (g := 75) rfl rfl rfl rfl hg66 (by decide) ?_
              refine JR.gf (g := 75) rfl rfl rfl rfl hg66 (by decide) ?_
              refine JR.gf (g := 75) rfl rfl rfl rfl hg66 (by decide) ?_
              refine JR.gf (g := 75) rfl rfl rfl rfl hg66 (by decide) ?_
              refine JR.gf (g := 75) rfl rfl rfl rfl hg66 (by decide) ?_
              refine JR.gfm (g := 75) rfl rfl rfl rfl hg66 (by decide) ?_ ?_
              · exact ⟨Subs.sub zqe, .inl rfl⟩
              refine JR.gf (g := 75) rfl rfl rfl rfl hg66 (by decide) ?_
              refine JR.u rfl rfl rfl (Yv.pick0 rfl hg66 rfl) (by decide) ?_
              refine .nil (.tn ?_)
              refine .k0 rfl rfl ?_
              refine .skip (.tn (.seq (.region ?_)))
              refine .w (.move rfl) ?_
              refine .w (.move rfl) ?_
              refine .w (.move rfl) ?_
              refine .w (.move rfl) ?_
              refine .cb (f107_spec g c n vs hvl (by omega) a1 b1 pw h8 h9 h4) body_107 ?_ (h0 := by rintro _ _ _ ⟨_, _, _, _, _, _, _, h, _⟩; exact h)
              rintro _ _ ⟨m, z2, ys, rfl, hm1, hm2, hy, _, rfl⟩
              refine .ap ?_
              have hyl : ys.length = n := (hy.trans hv).length_eq.trans hl
              refine .w (.move rfl) ?_
              refine .w (.extract rfl rfl) ?_
              refine .w (.extract rfl rfl) ?_
              refine .w (.assign rfl) ?_
              refine .w (.assign rfl) ?_
              refine .nil (.tn (.seq (.region ?_)))
              refine .w (.move rfl) ?_
              refine .w (.assign rfl) ?_
              refine .nil (.tn (.seq (.region ?_)))
              refine .w (.move rfl) ?_
              refine .w (.move rfl) ?_
              refine .w (.asI ((m - a1 : Nat) : Int) (.bin rfl rfl (BinR.sub_i zqf))) ?_
              refine .w (.move rfl) ?_
              refine .w (.move rfl) ?_
              refine .w (.asI ((b1 - m : Nat) : Int) (.bin rfl rfl (BinR.sub_i zqf))) ?_
              refine .w (.assign rfl) ?_
              refine .w (.assign rfl) ?_
              refine .nil (.tn (.seq (.region ?_)))
              refine .w (.move rfl) ?_
              refine .w (.asI (((b1 - a1) / 8 : Nat) : Int) (.bin rfl rfl (BinR.quo_i (by first | omega | decide | (simp; omega)) (by first | omega | decide | (simp; omega)) zqf))) ?_
              refine .w (.assign rfl) ?_
              refine .nil (.tn (.seq (.region ?_)))
              refine .w (.move rfl) ?_
              refine .w (.move rfl) ?_
              refine .w (.bin rfl rfl BinR.lss_i) ?_
              refine .nil (.tn ?_)
              refine .cn rfl (fun hc8 => ?_) (fun hc8 => ?_)
              · skip
                refine .seq (.region ?_)
                refine .w (.move rfl) ?_
                refine .w (.move rfl) ?_
                refine .w (.bin rfl rfl BinR.geq_i) ?_
                refine .w (.assign rfl) ?_
                refine .nil (.tn (.seq (.region ?_)))
                refine .w (.move rfl) ?_
                refine .w (.move rfl) ?_
                refine .w (.move rfl) ?_
                refine .w (.move rfl) ?_
                refine .cb (ih (m - a1) (by omega) ys hyl a1 m l2 (by omega) (by omega) (by omega) (Nat.le_refl _)) body_80 ?_ (h0 := by rintro _ _ _ ⟨_, _, h, _⟩; exact h)
                rintro _ _ ⟨ts, ht, _, rfl⟩
                refine .ap ?_
                refine .nil (.tn (.region ?_))
                refine .w (.move rfl) ?_
                refine .w (.asI ((m + 1 : Nat) : Int) (.bin rfl rfl (BinR.add_i zqf))) ?_
                refine .w (.assign rfl) ?_
                refine .nil (.block_normal ?_)
                refine .hd (((m + 1, b1), l2), (_, z2), ts) ?_
                first
                | exact ⟨⟨⟨by dsimp only; omega, by dsimp only; omega, by dsimp only; omega⟩, by dsimp only; omega, ht.trans (hy.trans hv)⟩, by dsimp only; omega⟩
                | exact ⟨⟨⟨by dsimp only; omega, by dsimp only; omega, by dsimp only; omega⟩, by dsimp only; omega, hy.trans hv⟩, by dsimp only; omega⟩
              · skip
                refine .seq (.region ?_)
                refine .w (.move rfl) ?_
                refine .w (.move rfl) ?_
                refine .w (.bin rfl rfl BinR.geq_i) ?_
                refine .w (.assign rfl) ?_
                refine .nil (.tn (.seq (.region ?_)))
                refine .w (.move rfl) ?_
                refine .w (.move rfl) ?_
                refine .w (.asI ((m + 1 : Nat) : Int) (.bin rfl rfl (BinR.add_i zqf))) ?_
                refine .w (.move rfl) ?_
                refine .w (.move rfl) ?_
                refine .cb (ih (b1 - (m + 1)) (by omega) ys hyl (m + 1) b1 l2 (by omega) (by omega) (by omega) (Nat.le_refl _)) body_80 ?_ (h0 := by rintro _ _ _ ⟨_, _, h, _⟩; exact h)
                rintro _ _ ⟨ts, ht, _, rfl⟩
                refine .ap ?_
                refine .nil (.tn (.region ?_))
                refine .w (.move rfl) ?_
                refine .w (.assign rfl) ?_
                refine .nil (.block_normal ?_)
                refine .hd (((a1, m), l2), (_, z2), ts) ?_
                first
                | exact ⟨⟨⟨by dsimp only; omega, by dsimp only; omega, by dsimp only; omega⟩, by dsimp only; omega, ht.trans (hy.trans hv)⟩, by dsimp only; omega⟩
                | exact ⟨⟨⟨by dsimp only; omega, by dsimp only; omega, by dsimp only; omega⟩, by dsimp only; omega, hy.trans hv⟩, by dsimp only; omega⟩
end Go.Proofs.YthfipbjmpeegbaaGreatDoor

/- Walks: numbers sorted, whole. -/
namespace Go.Proofs.YthfipbjmpeegbaaGreatDoor
open Go.RowKit
set_option maxRecDepth 100000
set_option linter.unusedVariables false
set_option linter.unusedSimpArgs false
theorem f99Z_spec (u : Value) :
    Spec Tryz.prog 99 #[u, (it 0), (it 0)] [] []
      (fun r Γ' H' => True ∧ Γ' = [] ∧ H' = []) := by
  refine Spec.of_args Tryz.func99 rfl Tryz.ntmps99 (by simp) fun w => ?_
  refine .seq (.region ?_)
  refine .w (.move rfl) ?_
  refine .w (.asI 1 (.bin rfl rfl (BinR.add_i zqf))) ?_
  refine .w (.assign rfl) ?_
  refine .nil (.tn (.block ?_))
  refine .lp (ι := Unit) (fun x => True) (fun T x => (6, it 1) :: T) (fun T _ => T) (fun T _ => T) (fun x => 0) () [0, 1, 2] ?_ (fun x hx => ?_)
  · trivial
  obtain ⟨⟩ := x
  refine .seq (.seq (.region ?_))
  refine .w (.move rfl) ?_
  refine .w (.move rfl) ?_
  refine .w (.asF (.bin rfl rfl BinR.lss_i)) ?_
  refine .nil (.tn ?_)
  refine .cf rfl ?_
  refine .exit (.then_exit (.then_exit (.block_exit ?_)))
  exact .dn [] [] (res_none rfl) ⟨trivial, rfl, rfl⟩

theorem f80Z_spec (u : Value) (lim : Int) :
    Spec Tryz.prog 80 #[u, (it 0), (it 0), (it lim)] [] []
      (fun r Γ' H' => True ∧ Γ' = [] ∧ H' = []) := by
  refine Spec.of_args Tryz.func80 rfl Tryz.ntmps80 (by simp) fun w => ?_
  refine .seq (.region ?_)
  refine .w (.assign rfl) ?_
  refine .nil (.tn (.seq (.region ?_)))
  refine .w (.assign rfl) ?_
  refine .nil (.tn (.block ?_))
  refine .lp (ι := Unit) (fun x => True) (fun T x => (1, it 0) :: (2, it 0) :: (3, it lim) :: (8, .bool true) :: (9, .bool true) :: T) (fun T _ => T) (fun T _ => T) (fun x => 0) () [0] ?_ (fun x hx => ?_)
  · trivial
  obtain ⟨⟩ := x
  refine .block (.seq (.region ?_))
  refine .w (.move rfl) ?_
  refine .w (.move rfl) ?_
  refine .w (.asI 0 (.bin rfl rfl (BinR.sub_i zqf))) ?_
  refine .w (.assign rfl) ?_
  refine .nil (.tn (.seq (.seq (.region ?_))))
  refine .w (.move rfl) ?_
  refine .w (.asT (.bin rfl rfl BinR.leq_i)) ?_
  refine .nil (.tn ?_)
  refine .ct rfl ?_
  refine .seq (.region ?_)
  refine .w (.move rfl) ?_
  refine .w (.move rfl) ?_
  refine .w (.move rfl) ?_
  refine .cb (f99Z_spec u) body_99 ?_ (h0 := by rintro _ _ _ ⟨_, h, _⟩; exact h)
  rintro _ _ ⟨_, _, rfl⟩
  refine .ap ?_
  refine .nil (.tn (.ret (.then_ret (.block_ret (.then_ret (.block_ret ?_))))))
  exact .dn [] [] (res_none rfl) ⟨trivial, rfl, rfl⟩

theorem f56Z_spec (u : Value) :
    Spec Tryz.prog 56 #[u] [] [Res.row u 0 30 1 []]
      (fun r Γ' H' => True ∧ Γ' = [] ∧ H' = [Res.row u 0 30 1 []]) := by
  refine Spec.of_args Tryz.func56 rfl Tryz.ntmps56 (by simp) fun w => ?_
  refine .seq (.region ?_)
  refine .w (.move rfl) ?_
  refine .w (.asI 0 (.len Tryz.underlying22 rfl)) ?_
  refine .w (.assign rfl) ?_
  refine .nil (.tn (.region ?_))
  refine .w (.move rfl) ?_
  refine .w (.move rfl) ?_
  refine .w (.move rfl) ?_
  refine .w (.as (v' := u64 0) (.conv_i_u64 Tryz.underlying3 Tryz.underlying130 rfl) (congrArg u64 (by decide))) ?_
  refine .c (f75_spec 0) body_75 ?_
  refine .cb (f80Z_spec u _) body_80 ?_ (h0 := by rintro _ _ _ ⟨_, h, _⟩; exact h)
  rintro _ _ ⟨_, _, rfl⟩
  refine .ap ?_
  refine .nil ?_
  exact .dn [] [Res.row u 0 30 1 []] (res_none rfl) ⟨trivial, rfl, rfl⟩

theorem f56N_spec (g c n : Nat) (hn : n ≤ 49) (xs : List W64) (hl : xs.length = n) :
    Spec Tryz.prog 56 #[(.slice (some ⟨g, 0, none⟩) n c)] [] [Res.row (.slice (some ⟨g, 0, none⟩) n c) n 30 1 (xs.map u64)]
      (fun r Γ' H' => ∃ ys : List W64, ys.Perm xs ∧ Γ' = [] ∧ H' = [Res.row (.slice (some ⟨g, 0, none⟩) n c) n 30 1 (ys.map u64)]) := by
  refine Spec.of_args Tryz.func56 rfl Tryz.ntmps56 (by simp) fun w => ?_
  refine .seq (.region ?_)
  refine .w (.move rfl) ?_
  refine .w (.len Tryz.underlying22 rfl) ?_
  refine .w (.assign rfl) ?_
  refine .nil (.tn (.region ?_))
  refine .w (.move rfl) ?_
  refine .w (.move rfl) ?_
  refine .w (.move rfl) ?_
  refine .w (.as (v' := u64 (BitVec.ofNat 64 n)) (.conv_i_u64 Tryz.underlying3 Tryz.underlying130 rfl) (congrArg u64 (BitVec.ofInt_natCast _ _))) ?_
  refine .c (f75_spec (BitVec.ofNat 64 n)) body_75 ?_
  have hl64 := len64_le (BitVec.ofNat 64 n)
  refine .cb (f80_spec n g c n hn xs hl 0 n (len64 (BitVec.ofNat 64 n)) (by omega) (Nat.zero_le _) (Nat.le_refl _) (Nat.le_refl _)) body_80 ?_ (h0 := by rintro _ _ _ ⟨_, _, h, _⟩; exact h)
  rintro _ _ ⟨ys, hy, _, rfl⟩
  refine .ap ?_
  refine .nil ?_
  exact .dn [] [Res.row (.slice (some ⟨g, 0, none⟩) n c) n 30 1 (ys.map u64)] (res_none rfl) ⟨ys, hy, rfl, rfl⟩

theorem f56_spec (v : Value) (xs : List W64) (hx : xs.length ≤ 49) : Spec Tryz.prog 56 #[v] [] [Res.row v xs.length 30 1 (xs.map u64)] (fun r Γ' H' => ∃ ys : List W64, ys.Perm xs ∧ Γ' = [] ∧ H' = [Res.row v xs.length 30 1 (ys.map u64)]) := by
  by_cases h0 : xs = []
  · subst h0
    exact (f56Z_spec v).mono fun r Γ' H' ⟨_, h1, h2⟩ => ⟨[], .refl _, h1, h2⟩
  · refine Spec.know (φ := ∃ g c, v = .slice (some ⟨g, 0, none⟩) xs.length c ∧ xs.length ≤ c) (fun w hs => hs.rowForm2 (.head _) (by cases xs with | nil => exact absurd rfl h0 | cons a l => simp)) ?_
    rintro ⟨g, c, rfl, _⟩
    exact f56N_spec g c xs.length hx xs rfl
end Go.Proofs.YthfipbjmpeegbaaGreatDoor

/- Walks: the heights. -/
namespace Go.Proofs.YthfipbjmpeegbaaGreatDoor
open Go.RowKit
set_option maxRecDepth 100000
set_option linter.unusedVariables false
set_option linter.unusedSimpArgs false
theorem f34_spec (a : Nat) :
    Spec Tryz.prog 34 #[(.map (some a))] [] []
      (fun r Γ' H' => ∃ q, r = .func (.func 57) #[] #[ptr q 0] ∧ Γ' = [] ∧ H' = [Res.cells q [.map (some a)] 60]) := by
  refine Spec.of_args Tryz.func34 rfl Tryz.ntmps34 (by simp) fun w => ?_
  refine .seq (.region ?_)
  refine .bx fun b1 => ?_
  refine .w (.assign rfl) ?_
  refine .nil (.tn (.seq (.region ?_)))
  refine .w (.makeFunc rfl rfl) ?_
  refine .w (.assign rfl) ?_
  refine .nil (.tn (.ret ?_))
  exact .dn [] [Res.cells b1 [.map (some a)] 60] (res1 rfl (.tmp rfl)) ⟨_, rfl, rfl, rfl⟩

theorem f57_spec (l : Nat) (X : Res) (R : List ((BitVec 64) × (HC) × Nat) → Res → Prop) (r0 : Res) (hR0 : R [] r0) (bx a : Nat) (m : MM (BitVec 64) (HC)) (hm : m.Ok)
    (hY : ∀ p vs Γy r y, kOk uK m p vs Γy y → R p r → YSpec Tryz.prog l vs.toArray (Γy ++ [X]) [r] (fun b Γ' H' => b = .bool true ∧ Γ' = [] ∧ ∃ r', R y r' ∧ H' = [r'])) :
    Spec Tryz.prog 57 #[(.func (.yield l) #[] #[]), (ptr bx 0)] [Res.cells bx [.map (some a)] 60, mpR a uK hcV m, X] [r0]
      (fun _ Γ' H' => True ∧ Γ' = [] ∧ ∃ p r', p.Perm m.es ∧ R p r' ∧ H' = [r']) := by
  refine Spec.of_argsX Tryz.func57 rfl Tryz.ntmps57 (by simp) fun w => ?_
  refine .seq (.region ?_)
  refine .w (.ld one_60 rfl) ?_
  refine .rg Tryz.underlying60 fun r5 => ?_
  refine .nil (.xtn (.block ?_))
  refine .lp (ι := List ((BitVec 64) × (HC) × Nat) × Res) (fun x => m.Walk x.1 ∧ R x.1 x.2) (fun T _ => T) (fun T _ => T) (fun T x => miR r5 a m x.1 :: x.2 :: T) (fun x => m.es.length - x.1.length) ([], r0) [0, 5] ?_ (fun x hx => ?_)
  · exact ⟨MM.Walk.nil, hR0⟩
  obtain ⟨p, r⟩ := x
  obtain ⟨hW, hRp⟩ := hx
  dsimp only at hW hRp ⊢
  refine .seq (.region ?_)
  refine .nx hm hW ?_ ?_
  · intro hp
    refine .w (.extract rfl rfl) ?_
    refine .nil (.xtn (.seq ?_))
    refine .cf rfl ?_
    refine .exit (.xthen_exit (.xthen_exit (.xblock_exit (.x0 ?_))))
    exact .dn [] [r] (res_none rfl) ⟨trivial, rfl, p, r, hp, hRp, rfl⟩
  · intro e he hnp hw2
    refine .w (.extract rfl rfl) ?_
    refine .nil (.xtn (.seq ?_))
    refine .ct rfl ?_
    refine .skip (.xtn (.block (.seq (.region ?_))))
    refine .w (.en hm he) ?_
    refine .w (.as (v' := uK e.1) (.extract rfl rfl) rfl) ?_
    refine .w (.assign rfl) ?_
    refine .nil (.xtn (.seq (.regionO (.pre 2 ?_))))
    refine .w (.move rfl) ?_
    refine .w (.move rfl) ?_
    refine .nil (.xpre ?_)
    refine .yield (hY p [uK e.1] [] r (p ++ [e]) ⟨e, hw2, rfl, rfl, rfl⟩ hRp) ?_
    rintro _ _ ⟨rfl, _, r', hR', rfl⟩
    refine .ap ?_
    refine .tail ?_
    refine .w (.as (v' := .bool false) (.not rfl) rfl) ?_
    refine .nil (.xtn ?_)
    refine .cf rfl ?_
    refine .skip (.xblock_normal ?_)
    refine .xhd (p ++ [e], r') ?_
    exact ⟨⟨hw2, hR'⟩, by have := walkLen hw2; simp at this ⊢; omega⟩
end Go.Proofs.YthfipbjmpeegbaaGreatDoor

/- Walks: the heights, sorted. -/
namespace Go.Proofs.YthfipbjmpeegbaaGreatDoor
open Go.RowKit
set_option maxRecDepth 100000
set_option linter.unusedVariables false
set_option linter.unusedSimpArgs false
theorem f79_spec (q a : Nat) (m : MM (BitVec 64) (HC)) (hm : m.Ok) (hl : m.es.length ≤ 1000000) :
    Spec Tryz.prog 79 #[(.slice none 0 0), (.func (.func 57) #[] #[ptr q 0])] [Res.cells q [.map (some a)] 60, mpR a uK hcV m] []
      (fun r Γ' H' => ∃ ds : List W64, ds.Perm (m.es.map (·.1)) ∧ Γ' = [] ∧ H' = [Res.row r ds.length 30 1 (bks uC ds)]) := by
  refine Spec.of_argsM Tryz.func79 rfl Tryz.ntmps79 (by simp) fun w => ?_
  refine .seq (.region ?_)
  refine .bx fun b2 => ?_
  refine JO.nilRow 30 1 ?_
  refine .w (.assign rfl) ?_
  refine .nil (.xtn (.seq (.seq (.region ?_))))
  refine .w (.move rfl) ?_
  refine .nil (.xtn (.block ?_))
  refine .rfg ([] : List (BitVec 64 × (HC) × Nat)) (fun p => p.Perm m.es) (fun p Lr => m.Walk p ∧ ∃ lv : Value, Lr = [Res.cells b2 [lv] 22, Res.row lv (p.map (·.1)).length 30 1 (bks uC (p.map (·.1)))]) (I0 := [Res.cells b2 [.slice none 0 0] 22, Res.row (.slice none 0 0) 0 30 1 []]) (Γi := [Res.cells q [.map (some a)] 60, mpR a uK hcV m]) (kOk uK m) rfl body_57 ⟨MM.Walk.nil, .slice none 0 0, rfl⟩ (fun l X R r0 h0 hy => f57_spec l X R r0 h0 q a m hm hy) (fun l D fn T w0 k vs Γy y L hok hI => ?_) (fun D xf L hfin hI => ?_) (fun k vs Γy y h => by obtain ⟨e, _, rfl, _⟩ := h; rfl) (by decide) (by decide) zqd (by repeat (first | exact Lends.nil _ | apply Lends.cons | exact Lend.same _ _ | exact Lend.row _ _ _ _ _ _ (by decide) | apply Lend.there))
  · obtain ⟨e, hw2, rfl, rfl, rfl⟩ := hok
    obtain ⟨hW, lv, rfl⟩ := hI
    have hlen := walkLen hw2
    rw [List.length_append, List.length_singleton] at hlen
    have hkl : (k.map (·.1)).length ≤ 1000000 := by rw [List.length_map]; omega
    change JX _ _ _ _ _ _ ((7, _) :: _) _ (_ :: _ :: _)
    refine .region ?_
    refine .w (.assign rfl) ?_
    refine .nil (.rk (.block (.region ?_)))
    refine .w (.ld one_22 rfl) ?_
    refine .w (.move rfl) ?_
    refine .l1 Tryz.underlying22 info_30 (fun v10 => ?_)
    refine .ap Tryz.underlying22 info_30 (fun v11 => ?_)
    rw [snocKU]
    first | refine .s1 sz_22 ?_ | refine .s1s sz_22 ?_ | refine .sr1 sz_22 ?_
    refine .nil (.xblock_normal ?_)
    exact .rend [Res.cells b2 [v11] 22, Res.row v11 ((k ++ [e]).map (·.1)).length 30 1 (bks uC ((k ++ [e]).map (·.1)))] ⟨hw2, v11, rfl⟩
  · obtain ⟨hW, lv, rfl⟩ := hI
    change JQ _ _ _ _ _ _ (_ :: _ :: _)
    refine .xblock_normal (.xtn (.seq (.region ?_)))
    refine .w (.ld one_22 rfl) ?_
    refine .w (.assign rfl) ?_
    refine .nil (.xtn (.ret ?_))
    exact .xdn (by repeat (first | exact Pull.here _ _ | apply Pull.there)) [] [Res.row lv (xf.map (·.1)).length 30 1 (bks uC (xf.map (·.1)))] (res1 rfl (.tmp rfl)) ⟨xf.map (·.1), hfin.map _, rfl, rfl⟩

theorem f55_spec (q a : Nat) (m : MM (BitVec 64) (HC)) (hm : m.Ok) (hl : m.es.length ≤ 1000000) :
    Spec Tryz.prog 55 #[(.func (.func 57) #[] #[ptr q 0])] [Res.cells q [.map (some a)] 60, mpR a uK hcV m] []
      (fun r Γ' H' => ∃ ds : List W64, ds.Perm (m.es.map (·.1)) ∧ Γ' = [] ∧ H' = [Res.row r ds.length 30 1 (bks uC ds)]) := by
  refine Spec.of_args Tryz.func55 rfl Tryz.ntmps55 (by simp) fun w => ?_
  refine .seq (.region ?_)
  refine .w (.assign rfl) ?_
  refine .nil (.tn (.seq (.region ?_)))
  refine .w (.move rfl) ?_
  refine .cb (f79_spec q a m hm hl) body_79 ?_ (h0 := by rintro _ _ _ ⟨_, _, h, _⟩; exact h)
  rintro v4 _ ⟨ds, hds, _, rfl⟩
  refine .ap ?_
  refine .w (.assign rfl) ?_
  refine .nil (.tn (.ret ?_))
  exact .dn [] [Res.row v4 ds.length 30 1 (bks uC ds)] (res1 rfl (.tmp rfl)) ⟨ds, hds, rfl, rfl⟩

theorem f33_spec (q a : Nat) (m : MM (BitVec 64) (HC)) (hm : m.Ok) (hl : m.es.length ≤ 49) :
    Spec Tryz.prog 33 #[(.func (.func 57) #[] #[ptr q 0])] [Res.cells q [.map (some a)] 60, mpR a uK hcV m] []
      (fun r Γ' H' => ∃ es : List W64, es.Perm (m.es.map (·.1)) ∧ Γ' = [] ∧ H' = [Res.row r es.length 30 1 (es.map u64)]) := by
  refine Spec.of_args Tryz.func33 rfl Tryz.ntmps33 (by simp) fun w => ?_
  refine .seq (.region ?_)
  refine .w (.assign rfl) ?_
  refine .nil (.tn (.seq (.region ?_)))
  refine .w (.move rfl) ?_
  refine .cb (f55_spec q a m hm (by omega)) body_55 ?_ (h0 := by rintro _ _ _ ⟨_, _, h, _⟩; exact h)
  rintro v5 _ ⟨ds, hds, _, rfl⟩
  refine .ap ?_
  rw [bks_uC]
  refine .w (.assign rfl) ?_
  refine .nil (.tn (.seq (.region ?_)))
  refine .w (.move rfl) ?_
  refine .cb (f56_spec v5 ds (by rw [hds.length_eq, List.length_map]; omega)) body_56 ?_ (h0 := by rintro _ _ _ ⟨_, _, h, _⟩; exact h)
  rintro _ _ ⟨ys, hy, _, rfl⟩
  refine .ap ?_
  refine .nil (.tn (.seq (.region ?_)))
  refine .w (.move rfl) ?_
  refine .w (.assign rfl) ?_
  refine .nil (.tn (.ret ?_))
  exact .dn [] [Res.row v5 ds.length 30 1 (ys.map u64)] (res1 rfl (.tmp rfl)) ⟨ys, hy.trans hds, rfl, by rw [hy.length_eq]⟩

theorem f15_spec (c am : Nat) (sv : Value) (S : List W64) (M : MM (BitVec 64) HC) (hM : COk S M) :
    Spec Tryz.prog 15 #[(ptr c 0)] [Res.cells c [sv, .map (some am)] 62, mpR am uK hcV M] []
      (fun r Γ' H' => ∃ es : List W64, es.Perm (M.es.map (·.1)) ∧ Γ' = [] ∧ H' = [Res.row r es.length 30 1 (es.map u64)]) := by
  refine Spec.of_args Tryz.func15 rfl Tryz.ntmps15 (by simp) fun w => ?_
  refine .seq (.region ?_)
  refine .w (.assign rfl) ?_
  refine .nil (.tn (.seq (.region ?_)))
  refine .w (.move rfl) ?_
  refine .w (.nilCheck rfl) ?_
  refine .w (.fieldAddr fa_62_1 rfl) ?_
  refine .w (.ld one_60 rfl) ?_
  refine .cb (f34_spec am) body_34 ?_ (h0 := by rintro _ _ _ ⟨_, _, h, _⟩; exact h)
  rintro _ _ ⟨q, rfl, _, rfl⟩
  refine .ap ?_
  refine .cb (f33_spec q am M hM.ok (by have := hM.le; omega)) body_33 ?_ (h0 := by rintro _ _ _ ⟨_, _, h, _⟩; exact h)
  rintro v7 _ ⟨es, hes, _, rfl⟩
  refine .ap ?_
  refine .w (.assign rfl) ?_
  refine .nil (.tn (.ret ?_))
  exact .dn [] [Res.row v7 es.length 30 1 (es.map u64)] (res1 rfl (.tmp rfl)) ⟨es, hes, rfl, rfl⟩
end Go.Proofs.YthfipbjmpeegbaaGreatDoor
