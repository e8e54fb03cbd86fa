/- Texts of ours, gathered: LR. -/
import Derived.Test.YthfipbjmpeegbaaGreatDoorW12
/- Walk of the law: nothing is believed but what one claims who does not lie. -/
namespace Go.Proofs.YthfipbjmpeegbaaGreatDoor
open Go.RowKit
set_option maxRecDepth 100000
set_option linter.unusedVariables false
set_option linter.unusedSimpArgs false
theorem name_digR (v : Value) (b : B8) (hb : b.length ≤ 100000) : Spec Tryz.prog 20 #[v] [Res.rd v b.length 1 (b.map u8)] [] (fun r Γ' H' => r = dgV (nm b) ∧ Γ' = [] ∧ H' = []) := f20_spec v b hb

set_option maxHeartbeats 4000000 in
theorem f6A_spec (u vl vt vc : Value) (S : List W64) (lies : List Bool) (T : Pcs) (l : List CLM) (hg : newE S = 0) :
    Spec Tryz.prog 6 #[u, vl, vt, vc] [Res.var 3 (sqr.map u32), Res.var 2 (cub.map u32), Res.var 0 [u64 9223372036854775808, u64 0, u64 0, u64 0], Res.rd u S.length 1 (S.map u64), Res.rd vl lies.length 1 (lies.map Value.bool), Res.rd vt T.length 1 (T.map Prod.fst), Res.all (pcRes T), Res.rd vc l.length 3 (bks clC l), Res.all (pcRes (clP l))] []
      (fun r Γ' H' => r = .bool true ∧ Γ' = [] ∧ H' = []) := by
  refine Spec.of_args Tryz.func6 rfl Tryz.ntmps6 (by simp) fun w => ?_
  refine JC.know (φ := S.length ≤ 9223372036854775807) (fun w hs => by obtain ⟨_, _, _, _, _, _, h⟩ := hs.rdForm (.tail _ (.tail _ (.tail _ (.head _)))); unfold maxLen at h; omega) fun _ => ?_
  refine JC.know (φ := lies.length ≤ 9223372036854775807) (fun w hs => by obtain ⟨_, _, _, _, _, _, h⟩ := hs.rdForm (.tail _ (.tail _ (.tail _ (.tail _ (.head _))))); unfold maxLen at h; omega) fun _ => ?_
  refine JC.know (φ := T.length ≤ 9223372036854775807) (fun w hs => by obtain ⟨_, _, _, _, _, _, h⟩ := hs.rdForm (.tail _ (.tail _ (.tail _ (.tail _ (.tail _ (.head _)))))); unfold maxLen at h; omega) fun _ => ?_
  refine JC.know (φ := l.length ≤ 9223372036854775807) (fun w hs => by obtain ⟨_, _, _, _, _, _, h⟩ := hs.rdForm (.tail _ (.tail _ (.tail _ (.tail _ (.tail _ (.tail _ (.tail _ (.head _)))))))); unfold maxLen at h; omega) fun _ => ?_
  obtain ⟨h1, h2, h3⟩ := newE_ok hg
  refine .seq (.region ?_)
  refine .w (.assign rfl) ?_
  refine .nil (.tn (.seq (.region ?_)))
  refine .c (f7_spec) body_7 ?_
  refine .w (.assign rfl) ?_
  refine .nil (.tn (.seq (.seq (.region ?_))))
  refine .w (.move rfl) ?_
  refine .w (.len Tryz.underlying22 rfl) ?_
  refine .w (.bin rfl rfl BinR.gtr_i) ?_
  refine .join 17 44 (.bool (decide (S.length > 10 ∨ lies.length ≠ S.length ∨ T.length > 8 ∨ l.length > 50))) ?_ ?_
  · refine .w (.move rfl) ?_
    refine .gn (g := 27) rfl (fun hg8 hg8' => ?_) (fun hg8 hg8' => ?_)
    · refine .gf (g := 28) rfl rfl hg8 (by decide) ?_
      refine .gf (g := 28) rfl rfl hg8 (by decide) ?_
      refine .gf (g := 28) rfl rfl hg8 (by decide) ?_
      refine .gf (g := 28) rfl rfl hg8 (by decide) ?_
      refine .gf (g := 28) rfl rfl hg8 (by decide) ?_
      refine .w (.pick1 rfl hg8 rfl) ?_
      refine .w (.move rfl) ?_
      refine .gf (g := 35) rfl rfl rfl (by decide) ?_
      refine .gf (g := 35) rfl rfl rfl (by decide) ?_
      refine .gf (g := 35) rfl rfl rfl (by decide) ?_
      refine .w (.pick1 rfl rfl rfl) ?_
      refine .w (.move rfl) ?_
      refine .gf (g := 40) rfl rfl rfl (by decide) ?_
      refine .gf (g := 40) rfl rfl rfl (by decide) ?_
      refine .gf (g := 40) rfl rfl rfl (by decide) ?_
      refine .w (.pick1 rfl rfl rfl) ?_
      refine .nil ?_
      refine .head () (by first | (refine ⟨by first | rfl | exact congrArg (fun b => some (Value.bool b)) (by first | exact (decide_eq_true (by omega)).symm | exact (decide_eq_false (by omega)).symm | exact decide_eq_decide.2 (by omega)) | (simp [*]; done) | (show some _ = some _; simp [*]; done), ?_⟩; repeat (first | exact trivial | refine ⟨rfl, ?_⟩))) (fun _ h => h) (Picks.perm zqd) ?_
      trivial
    · refine .gt (g := 28) rfl rfl hg8 ?_
      refine .w (.move rfl) ?_
      refine .gt (g := 28) rfl rfl hg8 ?_
      refine .w (.len Tryz.underlying50 rfl) ?_
      refine .gt (g := 28) rfl rfl hg8 ?_
      refine .w (.move rfl) ?_
      refine .gt (g := 28) rfl rfl hg8 ?_
      refine .w (.len Tryz.underlying22 rfl) ?_
      refine .gt (g := 28) rfl rfl hg8 ?_
      refine .w (.bin rfl rfl BinR.neq_i) ?_
      refine .w (.pick0 rfl hg8 rfl) ?_
      refine .w (.move rfl) ?_
      refine .gn (g := 34) rfl (fun hg15 hg15' => ?_) (fun hg15 hg15' => ?_)
      · refine .gf (g := 35) rfl rfl hg15 (by decide) ?_
        refine .gf (g := 35) rfl rfl hg15 (by decide) ?_
        refine .gf (g := 35) rfl rfl hg15 (by decide) ?_
        refine .w (.pick1 rfl hg15 rfl) ?_
        refine .w (.move rfl) ?_
        refine .gf (g := 40) rfl rfl rfl (by decide) ?_
        refine .gf (g := 40) rfl rfl rfl (by decide) ?_
        refine .gf (g := 40) rfl rfl rfl (by decide) ?_
        refine .w (.pick1 rfl rfl rfl) ?_
        refine .nil ?_
        refine .head () (by first | (refine ⟨by first | rfl | exact congrArg (fun b => some (Value.bool b)) (by first | exact (decide_eq_true (by omega)).symm | exact (decide_eq_false (by omega)).symm | exact decide_eq_decide.2 (by omega)) | (simp [*]; done) | (show some _ = some _; simp [*]; done), ?_⟩; repeat (first | exact trivial | refine ⟨rfl, ?_⟩))) (fun _ h => h) (Picks.perm zqd) ?_
        trivial
      · refine .gt (g := 35) rfl rfl hg15 ?_
        refine .w (.move rfl) ?_
        refine .gt (g := 35) rfl rfl hg15 ?_
        refine .w (.len Tryz.underlying35 rfl) ?_
        refine .gt (g := 35) rfl rfl hg15 ?_
        refine .w (.bin rfl rfl BinR.gtr_i) ?_
        refine .w (.pick0 rfl hg15 rfl) ?_
        refine .w (.move rfl) ?_
        refine .gn (g := 39) rfl (fun hg20 hg20' => ?_) (fun hg20 hg20' => ?_)
        · refine .gf (g := 40) rfl rfl hg20 (by decide) ?_
          refine .gf (g := 40) rfl rfl hg20 (by decide) ?_
          refine .gf (g := 40) rfl rfl hg20 (by decide) ?_
          refine .w (.pick1 rfl hg20 rfl) ?_
          refine .nil ?_
          refine .head () (by first | (refine ⟨by first | rfl | exact congrArg (fun b => some (Value.bool b)) (by first | exact (decide_eq_true (by omega)).symm | exact (decide_eq_false (by omega)).symm | exact decide_eq_decide.2 (by omega)) | (simp [*]; done) | (show some _ = some _; simp [*]; done), ?_⟩; repeat (first | exact trivial | refine ⟨rfl, ?_⟩))) (fun _ h => h) (Picks.perm zqd) ?_
          trivial
        · refine .gt (g := 40) rfl rfl hg20 ?_
          refine .w (.move rfl) ?_
          refine .gt (g := 40) rfl rfl hg20 ?_
          refine .w (.len Tryz.underlying29 rfl) ?_
          refine .gt (g := 40) rfl rfl hg20 ?_
          refine .w (.bin rfl rfl BinR.gtr_i) ?_
          refine .w (.pick0 rfl hg20 rfl) ?_
          refine .nil ?_
          refine .head () (by first | (refine ⟨by first | rfl | exact congrArg (fun b => some (Value.bool b)) (by first | exact (decide_eq_true (by omega)).symm | exact (decide_eq_false (by omega)).symm | exact decide_eq_decide.2 (by omega)) | (simp [*]; done) | (show some _ = some _; simp [*]; done), ?_⟩; repeat (first | exact trivial | refine ⟨rfl, ?_⟩))) (fun _ h => h) (Picks.perm zqd) ?_
          trivial
  · refine .nil (.tn ?_)
    refine .cn rfl (fun hc1 => ?_) (fun hc1 => ?_)
    · skip
      refine .seq (.region ?_)
      refine .w (.move rfl) ?_
      refine .w (.assign rfl) ?_
      refine .nil (.tn (.ret (.then_ret ?_)))
      exact .dn [] [] (res1 rfl (.tmp rfl)) ⟨rfl, rfl, rfl⟩
    · have hs10 : S.length ≤ 10 ∧ lies.length = S.length ∧ T.length ≤ 8 ∧ l.length ≤ 50 := by omega
      obtain ⟨hs1, hs2, hs3, hs4⟩ := hs10
      refine .skip (.tn (.seq (.region ?_)))
      refine .w (.assign rfl) ?_
      refine .nil (.tn (.seq (.seq (.region ?_))))
      refine .w (.assign rfl) ?_
      refine .nil (.tn (.block ?_))
      refine .lp (ι := Nat) (fun x => x ≤ S.length ∧ ∀ j, j < x → (S.getD j 0).toNat < 72057594037927936) (fun T x => (11, it (x : Int)) :: (10, u64 (BitVec.ofNat 64 (badK S lies x))) :: T) (fun T _ => T) (fun T _ => T) (fun x => S.length - x) 0 [0, 1, 2, 3, 9, 12, 14, 15, 16, 17, 18, 19, 20, 21, 22, 23, 68, 69, 70, 71, 72, 73, 74, 75, 76, 77, 78, 79, 80, 81, 82, 83, 84, 85, 86, 87, 88, 89, 90, 91, 92, 93, 94, 95, 96, 97, 98, 99, 100, 101, 102, 103, 104, 105, 106, 107, 108, 109, 110, 111, 112, 113, 114, 115, 116, 117, 118, 119, 120, 121, 122, 123, 124, 125, 126, 127, 128, 129, 130, 131, 132, 133, 134, 135, 136, 137, 138, 139, 140, 141, 142, 143, 144, 145, 146, 147, 149, 150, 151, 152, 153, 154, 155, 156, 157, 158, 159, 160, 161, 162, 163, 164, 165, 167, 168, 169, 170, 171, 172, 173, 174, 175, 176, 177, 178, 179, 180, 181, 182, 183, 184, 185, 186, 187, 188, 189, 190, 191, 192, 193, 194, 195, 196, 197, 198, 199, 200, 201, 202, 203, 204, 205, 206, 207, 208] ?_ (fun x hx => ?_)
      · exact ⟨Nat.zero_le _, fun j hj => absurd hj (Nat.not_lt_zero _)⟩
      obtain ⟨i, hi⟩ : ∃ i, i = x := ⟨_, rfl⟩
      subst hi
      obtain ⟨hi, hS56⟩ := hx
      refine .seq (.seq (.region ?_))
      refine .w (.move rfl) ?_
      refine .w (.move rfl) ?_
      refine .w (.len Tryz.underlying22 rfl) ?_
      refine .w (.bin rfl rfl BinR.lss_i) ?_
      refine .nil (.tn ?_)
      refine .cn rfl (fun hc2 => ?_) (fun hc2 => ?_)
      · skip
        refine .skip (.tn (.seq (.block (.seq (.seq (.region ?_))))))
        refine .w (.move rfl) ?_
        refine .w (.move rfl) ?_
        refine .w (.ix1 Tryz.underlying22 sz_30 rfl rfl) ?_
        refine .w (.ld one_30 rfl (hj := by exact gm (d := 0) (by omega))) ?_
        refine .w (.bin rfl rfl (BinR.geq_u64 (b := 72057594037927936#64))) ?_
        refine .nil (.tn ?_)
        refine .cn rfl (fun hc3 => ?_) (fun hc3 => ?_)
        · try simp only [BitVec.reduceToNat] at hc3
          skip
          refine .seq (.region ?_)
          refine .w (.move rfl) ?_
          refine .w (.assign rfl) ?_
          refine .nil (.tn (.ret (.then_ret (.block_ret (.then_ret (.then_ret (.block_ret (.then_ret ?_))))))))
          exact .dn [] [] (res1 rfl (.tmp rfl)) ⟨rfl, rfl, rfl⟩
        · try simp only [BitVec.reduceToNat] at hc3
          have h56 : (S.getD i 0).toNat < 72057594037927936 := by omega
          refine .skip (.tn (.seq (.region ?_)))
          refine .w (.move rfl) ?_
          refine .w (.move rfl) ?_
          refine .w (.ix1 Tryz.underlying50 sz_4 rfl rfl) ?_
          refine .w (.ld one_4 rfl (hj := by exact gm (d := false) (by omega))) ?_
          refine .nil (.tn ?_)
          refine .cn rfl (fun hc4 => ?_) (fun hc4 => ?_)
          · have hbk := badK_bv (S := S) hc4
            refine .region ?_
            refine .w (.move rfl) ?_
            refine .w (.move rfl) ?_
            refine .w (.move rfl) ?_
            refine .w (.ix1 Tryz.underlying22 sz_30 rfl rfl) ?_
            refine .w (.ld one_30 rfl (hj := by exact gm (d := 0) (by omega))) ?_
            refine .w (.as (v' := u64 (BitVec.ofNat 64 (badK S lies (i + 1)))) (.bin rfl rfl (BinR.add_u64)) (congrArg u64 hbk)) ?_
            refine .w (.assign rfl) ?_
            refine .nil (.block_normal (.tn (.region ?_)))
            refine .w (.move rfl) ?_
            refine .w (.asI ((i + 1 : Nat) : Int) (.bin rfl rfl (BinR.add_i zqf))) ?_
            refine .w (.assign rfl) ?_
            refine .nil ?_
            refine .hd (i + 1) ?_
            exact ⟨⟨by omega, fun j hj => by rcases Nat.lt_succ_iff_lt_or_eq.1 hj with h | rfl; exact hS56 j h; exact h56⟩, by omega⟩
          · have hbk : badK S lies i = badK S lies (i + 1) := by rw [badK_succ, if_neg (by rw [hc4]; decide)]; rfl
            rw [hbk]
            refine .skip (.block_normal (.tn (.region ?_)))
            refine .w (.move rfl) ?_
            refine .w (.asI ((i + 1 : Nat) : Int) (.bin rfl rfl (BinR.add_i zqf))) ?_
            refine .w (.assign rfl) ?_
            refine .nil ?_
            refine .hd (i + 1) ?_
            exact ⟨⟨by omega, fun j hj => by rcases Nat.lt_succ_iff_lt_or_eq.1 hj with h | rfl; exact hS56 j h; exact h56⟩, by omega⟩
      · obtain rfl : i = S.length := by omega
        refine .exit (.then_exit (.then_exit (.block_exit (.tn (.seq (.region ?_))))))
        refine .w (.move rfl) ?_
        refine .cb (f8ok_spec u S h1 h2 h3) body_8 ?_ (h0 := by rintro _ _ _ ⟨_, _, _, _, h, _⟩; exact h)
        rintro _ _ ⟨c, am, sv, rfl, _, rfl⟩
        refine .ap ?_
        refine .sp0 ?_
        refine .w (.move rfl) ?_
        refine .w (.extract rfl rfl) ?_
        refine .w (.extract rfl rfl) ?_
        refine .w (.assign rfl) ?_
        refine .w (.assign rfl) ?_
        refine .nil (.tn (.seq (.seq (.region ?_))))
        refine .w (.move rfl) ?_
        refine .w (.as (v' := .bool false) (.bin rfl rfl (BinR.eql_p Tryz.underlying25)) rfl) ?_
        refine .w (.move rfl) ?_
        refine .gt (g := 75) rfl rfl rfl ?_
        refine .w (.move rfl) ?_
        refine .gt (g := 75) rfl rfl rfl ?_
        refine .w (.bin rfl rfl (BinR.mul_u64 (a := 3#64))) ?_
        refine .gt (g := 75) rfl rfl rfl ?_
        refine .w (.move rfl) ?_
        refine .gt (g := 75) rfl rfl rfl ?_
        refine .c (f19_spec u S) body_19 ?_
        refine .gt (g := 75) rfl rfl rfl ?_
        refine .w (.as (v' := .bool (decide (sumS S ≤ 3 * badK S lies S.length))) (.bin rfl rfl (BinR.geq_u64)) (congrArg Value.bool (decide_eq_decide.2 (true_cmp hs1 hS56)))) ?_
        refine .w (.pick0 rfl rfl rfl) ?_
        refine .nil (.tn ?_)
        refine .cn rfl (fun hc5 => ?_) (fun hc5 => ?_)
        · skip
          refine .seq (.region ?_)
          refine .w (.move rfl) ?_
          refine .w (.assign rfl) ?_
          refine .nil (.tn (.ret (.then_ret ?_)))
          exact .dn [] [] (res1 rfl (.tmp rfl)) ⟨rfl, rfl, rfl⟩
        · have hbad : 3 * byN S (fun i => lies.getD i false) < sumS S := by rw [← badK_all]; omega
          refine .skip (.tn (.seq (.region ?_)))
          refine JO.nilRow 23 1 ?_
          refine JO.sp0 ?_
          refine .w (.assign rfl) ?_
          refine .nil (.tn (.seq (.seq (.region ?_))))
          refine .w (.assign rfl) ?_
          refine .nil (.tn (.block ?_))
          refine .lp (ι := Nat × Value × Pcs) (fun x => x.1 ≤ T.length ∧ bytesP x.2.2 = logK (bytesP T) x.1 ∧ ∀ j, j < x.1 → (pcAt T j).2.length ≤ 200) (fun T x => (15, it (x.1 : Int)) :: (14, x.2.1) :: T) (fun T _ => T) (fun T x => Res.row x.2.1 x.2.2.length 23 1 (x.2.2.map Prod.fst) :: Res.sep (rowsP x.2.2 5) :: T) (fun x => T.length - x.1) (0, .slice none 0 0, []) [1, 2, 3, 9, 12, 16, 17, 18, 19, 20, 21, 22, 23, 106, 107, 108, 109, 110, 111, 112, 113, 114, 115, 116, 117, 118, 119, 120, 121, 122, 123, 124, 125, 126, 127, 128, 129, 130, 131, 132, 133, 134, 135, 136, 137, 138, 139, 140, 141, 142, 143, 144, 145, 146, 147, 149, 150, 151, 152, 153, 154, 155, 156, 157, 158, 159, 160, 161, 162, 163, 164, 165, 167, 168, 169, 170, 171, 172, 173, 174, 175, 176, 177, 178, 179, 180, 181, 182, 183, 184, 185, 186, 187, 188, 189, 190, 191, 192, 193, 194, 195, 196, 197, 198, 199, 200, 201, 202, 203, 204, 205, 206, 207, 208] ?_ (fun x hx => ?_)
          · exact ⟨Nat.zero_le _, rfl, fun j hj => absurd hj (Nat.not_lt_zero _)⟩
          obtain ⟨i, vo, Z⟩ := x
          obtain ⟨hi, hZ, hT2⟩ := hx
          dsimp only at hi hZ hT2 ⊢
          have hZl : Z.length = i := by have := congrArg List.length hZ; rwa [bytesP_len, logK_len] at this
          refine .seq (.seq (.region ?_))
          refine .w (.move rfl) ?_
          refine .w (.move rfl) ?_
          refine .w (.len Tryz.underlying35 rfl) ?_
          refine .w (.bin rfl rfl BinR.lss_i) ?_
          refine .nil (.tn ?_)
          refine .cn rfl (fun hc6 => ?_) (fun hc6 => ?_)
          · skip
            refine .skip (.tn (.seq (.block (.seq (.seq (.region ?_))))))
            refine .w (.move rfl) ?_
            refine JO.open (r := Res.rd (pcAt T i).1 (pcAt T i).2.length 1 ((pcAt T i).2.map u8)) zqa (pc_res (by omega)) ?_
            refine JO.know (φ := (pcAt T i).1.oneCell' = true) (fun w hs => (by obtain ⟨A, c, h, _⟩ := Res.rd_ok.1 (hs.gok _ (.head _)); rw [h]; rfl)) fun hq => ?_
            refine .w (.move rfl) ?_
            refine .w (.ix1 Tryz.underlying35 sz_23 rfl rfl) ?_
            refine .w (.ld one_23 rfl (hj := by exact pc_get (by omega))) ?_
            refine .w (.len Tryz.underlying23 rfl (hn := LM.rd (by (repeat (first | exact Lend.same _ _ | exact Lend.row _ _ _ _ _ _ (by decide) | apply Lend.there))))) ?_
            refine .w (.bin rfl rfl BinR.gtr_i) ?_
            refine .nil (.tn ?_)
            refine .cn rfl (fun hc7 => ?_) (fun hc7 => ?_)
            · skip
              refine .seq (.region ?_)
              refine .w (.move rfl) ?_
              refine .w (.assign rfl) ?_
              refine .nil (.tn (.ret (.then_ret (.block_ret (.then_ret (.then_ret (.block_ret (.then_ret ?_))))))))
              exact .dn [] [] (res1 rfl (.tmp rfl)) ⟨rfl, rfl, rfl⟩
            · skip
              refine .skip (.tn (.region ?_))
              refine .w (.move rfl) ?_
              refine .w (.move rfl) ?_
              refine .w (.as (v' := u64 (BitVec.ofNat 64 i)) (.conv_i_u64 Tryz.underlying3 Tryz.underlying30 rfl) (congrArg u64 (BitVec.ofInt_natCast _ _))) ?_
              refine .w (.move rfl) ?_
              refine .w (.move rfl) ?_
              refine .w (.ix1 Tryz.underlying35 sz_23 rfl rfl) ?_
              refine .w (.ld one_23 rfl (hj := by exact pc_get (by omega))) ?_
              refine .cb (f9_spec (BitVec.ofNat 64 i) (pcAt T i).1 (pcAt T i).2 hq) body_9 ?_ (h0 := by rintro _ _ _ ⟨_, h, _⟩; exact h)
              rintro v103 _ ⟨_, _, rfl⟩
              refine .ap ?_
              refine JO.know (φ := v103.oneCell' = true) (fun w hs => (by obtain ⟨A, c, rfl, _⟩ := row_rd (by decide) (Res.row_ok.1 (hs.hok _ (.head _))); rfl)) fun hv103 => ?_
              refine .l1 Tryz.underlying35 info_23 (fun v104 => ?_) (h1 := (one_sing hv103))
              refine .ap Tryz.underlying35 info_23 (fun v105 => ?_) (hone := (one_sing hv103))
              rw [snoc_row (b := (blockB (BitVec.ofNat 64 i) (pcAt T i).2))]
              refine .w (.assign rfl) ?_
              refine .nil (.block_normal (.tn (.region ?_)))
              refine .w (.move rfl) ?_
              refine .w (.asI ((i + 1 : Nat) : Int) (.bin rfl rfl (BinR.add_i zqf))) ?_
              refine .w (.assign rfl) ?_
              refine .nil ?_
              refine .rs (A := [Res.row v103 (blockB (BitVec.ofNat 64 i) (pcAt T i).2).length 5 1 ((blockB (BitVec.ofNat 64 i) (pcAt T i).2).map u8)]) (B := rowsP Z 5) (L := rowsP (Z ++ [(v103, (blockB (BitVec.ofNat 64 i) (pcAt T i).2))]) 5) (by simp [rowsP]) ?_
              refine .hd (i + 1, v105, Z ++ [(v103, (blockB (BitVec.ofNat 64 i) (pcAt T i).2))]) ?_
              exact ⟨⟨by dsimp only; omega, by dsimp only; rw [logK_succ, ← hZ, bytesP_at]; simp [bytesP], fun j hj => by rcases Nat.lt_succ_iff_lt_or_eq.1 hj with h | rfl; exact hT2 j h; omega⟩, by dsimp only; omega⟩
          · obtain rfl : i = T.length := by omega
            refine .exit (.then_exit (.then_exit (.block_exit (.tn (.seq (.seq (.region ?_)))))))
            have hlog := logK_le (T := bytesP T) (fun b hb => by obtain ⟨x, hx, rfl⟩ := List.mem_map.1 hb; obtain ⟨j, hj, rfl⟩ := List.getElem_of_mem hx; rw [pc_eq hj]; exact hT2 j hj) T.length
            rw [← hZ] at hlog
            have hzl2 : (bytesP Z).length ≤ 8 := by rw [bytesP_len, hZl]; omega
            refine JO.freeze (v := vo) (by repeat (first | exact Pull.here _ _ | apply Pull.there)) (by decide) ?_
            refine JO.frzP (A := Z) (by repeat (first | exact Pull.here _ _ | apply Pull.there)) ?_
            refine .w (.assign rfl) ?_
            refine .nil (.tn (.block ?_))
            refine .lp (ι := Nat × MM (BitVec 64) HC) (fun x => x.1 ≤ l.length ∧ COk S x.2 ∧ TrueI lies (bytesP Z) (abM x.2)) (fun T x => (16, it (x.1 : Int)) :: T) (fun T _ => T) (fun T x => mpR am uK hcV x.2 :: Res.sep (hsL S x.2) :: T) (fun x => l.length - x.1) (0, MM.nil) [1, 3, 8, 9, 12, 14, 20, 21, 22, 23, 167, 168, 169, 170, 171, 172, 173, 174, 175, 176, 177, 178, 179, 180, 181, 182, 183, 184, 185, 186, 187, 188, 189, 190, 191, 192, 193, 194, 195, 196, 197, 198, 199, 200, 201, 202, 203, 204, 205, 206, 207, 208] ?_ (fun x hx => ?_)
            · exact ⟨Nat.zero_le _, cok_nil S, TrueI.nil _ _⟩
            obtain ⟨i, M⟩ := x
            obtain ⟨hi, hM, hI⟩ := hx
            dsimp only at hi hM hI ⊢
            refine .seq (.seq (.region ?_))
            refine .w (.move rfl) ?_
            refine .w (.move rfl) ?_
            refine .w (.len Tryz.underlying29 rfl) ?_
            refine .w (.bin rfl rfl BinR.lss_i) ?_
            refine .nil (.tn ?_)
            refine .cn rfl (fun hc8 => ?_) (fun hc8 => ?_)
            · skip
              refine .skip (.tn ?_)
              refine .mt (ι := MM (BitVec 64) HC) (fun x => COk S x ∧ TrueI lies (bytesP Z) (abM x)) (fun T _ => T) (fun T _ => T) (fun T x => mpR am uK hcV x :: Res.sep (hsL S x) :: T) [1, 3, 8, 9, 12, 14, 16, 20, 21, 22, 23, 106, 107, 108, 109, 110, 111, 167, 168, 169, 170, 171, 172, 173, 174, 175, 176, 177, 178, 179, 180, 181, 182, 183, 184, 185, 186, 187, 188, 189, 190, 191, 192, 193, 194, 195, 196, 197, 198, 199, 200, 201, 202, 203, 204, 205, 206, 207, 208] [mpR am uK hcV M, Res.sep (hsL S M)] ?_ (fun x hx => ?_)
              · refine .block (.seq (.region ?_))
                refine .w (.move rfl) ?_
                refine .w (.move rfl) ?_
                refine .w (.ix Tryz.underlying29 sz_33 rfl rfl) ?_
                refine .w (.as (v' := (.agg #[u64 (clAt l i).h, it (clAt l i).w, (clAt l i).v])) (.lda agg_33 rfl (hm := by first | exact AM.own (by (repeat (first | exact List.Mem.head _ | refine List.Mem.tail _ ?_)); first | done | fail) (by rw [bks_len]; omega) | exact AM.ro (by (repeat (first | exact List.Mem.head _ | refine List.Mem.tail _ ?_)); first | done | fail) (by rw [bks_len]; omega) | exact AM.ownAt (by (repeat (first | exact List.Mem.head _ | refine List.Mem.tail _ ?_)); first | done | fail) (by rw [bks_len]; omega) | exact AM.rd zqc (by rw [bks_len]; omega) | exact AM.row zqa (by rw [bks_len]; omega))) (congrArg (fun l : List Value => Value.agg l.toArray) (bks_piece (f := clC) clD (by omega)))) ?_
                refine .al zero_33 fun b17 => ?_
                first | refine .sa sz_33 ?_ (h1 := (by intro a ha; simp only [List.mem_cons, List.not_mem_nil, or_false] at ha; rcases ha with rfl | rfl | rfl <;> rfl)) | refine .so sz_33 ?_ (h1 := (by intro a ha; simp only [List.mem_cons, List.not_mem_nil, or_false] at ha; rcases ha with rfl | rfl | rfl <;> rfl)) | refine .sr sz_33 ?_ (h1 := (by intro a ha; simp only [List.mem_cons, List.not_mem_nil, or_false] at ha; rcases ha with rfl | rfl | rfl <;> rfl))
                refine JO.frz (r := Res.cells b17 _ _) (by repeat (first | exact Pull.here _ _ | apply Pull.there)) ?_
                refine .nil (.tn (.seq (.seq (.region ?_))))
                refine JO.open (r := Res.rd (pcAt (clP l) i).1 (pcAt (clP l) i).2.length 1 ((pcAt (clP l) i).2.map u8)) zqa (pc_res (by rw [clP_len]; omega)) ?_
                rw [(cl_at (Z := l) (k := i) (by omega)).2]
                refine .w (.fieldAddr fa_33_1 rfl) ?_
                refine .w (.ld one_3 rfl) ?_
                refine .w (.bin rfl rfl BinR.lss_i) ?_
                refine .join 13 131 (.bool (decide ((clAt l i).w < 0 ∨ (lies.length : Int) ≤ (clAt l i).w ∨ (clAt l i).b.length > 200))) ?_ ?_
                · refine .w (.move rfl) ?_
                  refine .gn (g := 118) rfl (fun hg114 hg114' => ?_) (fun hg114 hg114' => ?_)
                  · refine .gf (g := 119) rfl rfl hg114 (by decide) ?_
                    refine .gf (g := 119) rfl rfl hg114 (by decide) ?_
                    refine .gf (g := 119) rfl rfl hg114 (by decide) ?_
                    refine .gf (g := 119) rfl rfl hg114 (by decide) ?_
                    refine .gf (g := 119) rfl rfl hg114 (by decide) ?_
                    refine .w (.pick1 rfl hg114 rfl) ?_
                    refine .w (.move rfl) ?_
                    refine .gf (g := 126) rfl rfl rfl (by decide) ?_
                    refine .gf (g := 126) rfl rfl rfl (by decide) ?_
                    refine .gf (g := 126) rfl rfl rfl (by decide) ?_
                    refine .gf (g := 126) rfl rfl rfl (by decide) ?_
                    refine .w (.pick1 rfl rfl rfl) ?_
                    refine .nil ?_
                    refine .head () (by first | (refine ⟨by first | rfl | exact congrArg (fun b => some (Value.bool b)) (by (try dsimp only); first | exact decide_eq_decide.2 (by omega) | exact (decide_eq_true (by omega)).symm | exact (decide_eq_false (by omega)).symm), ?_⟩; repeat (first | exact trivial | refine ⟨rfl, ?_⟩))) (fun _ h => h) (Picks.perm zqd) ?_
                    trivial
                  · refine .gt (g := 119) rfl rfl hg114 ?_
                    refine .w (.fieldAddr fa_33_1 rfl) ?_
                    refine .gt (g := 119) rfl rfl hg114 ?_
                    refine .w (.ld one_3 rfl) ?_
                    refine .gt (g := 119) rfl rfl hg114 ?_
                    refine .w (.move rfl) ?_
                    refine .gt (g := 119) rfl rfl hg114 ?_
                    refine .w (.len Tryz.underlying50 rfl) ?_
                    refine .gt (g := 119) rfl rfl hg114 ?_
                    refine .w (.bin rfl rfl BinR.geq_i) ?_
                    refine .w (.pick0 rfl hg114 rfl) ?_
                    refine .w (.move rfl) ?_
                    refine .gn (g := 125) rfl (fun hg121 hg121' => ?_) (fun hg121 hg121' => ?_)
                    · refine .gf (g := 126) rfl rfl hg121 (by decide) ?_
                      refine .gf (g := 126) rfl rfl hg121 (by decide) ?_
                      refine .gf (g := 126) rfl rfl hg121 (by decide) ?_
                      refine .gf (g := 126) rfl rfl hg121 (by decide) ?_
                      refine .w (.pick1 rfl hg121 rfl) ?_
                      refine .nil ?_
                      refine .head () (by first | (refine ⟨by first | rfl | exact congrArg (fun b => some (Value.bool b)) (by (try dsimp only); first | exact decide_eq_decide.2 (by omega) | exact (decide_eq_true (by omega)).symm | exact (decide_eq_false (by omega)).symm), ?_⟩; repeat (first | exact trivial | refine ⟨rfl, ?_⟩))) (fun _ h => h) (Picks.perm zqd) ?_
                      trivial
                    · refine .gt (g := 126) rfl rfl hg121 ?_
                      refine .w (.fieldAddr fa_33_2 rfl) ?_
                      refine .gt (g := 126) rfl rfl hg121 ?_
                      refine .w (.ld one_23 rfl) ?_
                      refine .gt (g := 126) rfl rfl hg121 ?_
                      refine .w (.len Tryz.underlying23 rfl (hn := LM.rd (by (repeat (first | exact Lend.same _ _ | exact Lend.row _ _ _ _ _ _ (by decide) | apply Lend.there))))) ?_
                      refine .gt (g := 126) rfl rfl hg121 ?_
                      refine .w (.bin rfl rfl BinR.gtr_i) ?_
                      refine .w (.pick0 rfl hg121 rfl) ?_
                      refine .nil ?_
                      refine .head () (by first | (refine ⟨by first | rfl | exact congrArg (fun b => some (Value.bool b)) (by (try dsimp only); first | exact decide_eq_decide.2 (by omega) | exact (decide_eq_true (by omega)).symm | exact (decide_eq_false (by omega)).symm), ?_⟩; repeat (first | exact trivial | refine ⟨rfl, ?_⟩))) (fun _ h => h) (Picks.perm zqd) ?_
                      trivial
                · refine .nil (.tn ?_)
                  refine .cn rfl (fun hc9 => ?_) (fun hc9 => ?_)
                  · skip
                    refine .exit (.then_exit (.block_exit ?_))
                    refine .hd M ?_
                    first | exact ⟨hM, hI⟩ | exact ⟨hh.ok, hh.ab ▸ hI.step (.inl (by rw [hwt]; exact hc10))⟩ | exact ⟨hM5, hI5⟩
                  · obtain ⟨wn, hwn⟩ : ∃ n : Nat, (clAt l i).w = n := ⟨(clAt l i).w.toNat, by omega⟩
                    have hwl : wn < lies.length := by omega
                    have hwt : (clAt l i).w.toNat = wn := by omega
                    refine .skip (.tn (.seq (.seq (.region ?_))))
                    refine .w (.move rfl) ?_
                    refine .w (.fieldAddr fa_33_1 rfl) ?_
                    refine .w (.as (v' := it (wn : Int)) (.ld one_3 rfl) (congrArg it hwn)) ?_
                    refine .w (.ix1 Tryz.underlying50 sz_4 rfl rfl) ?_
                    refine .w (.ld one_4 rfl (hj := by exact gm (d := false) (by omega))) ?_
                    refine .nil (.tn ?_)
                    refine .cn rfl (fun hc10 => ?_) (fun hc10 => ?_)
                    · skip
                      refine .seq ?_
                      refine JC.draw (.one 0 (.one 1 (.one 2 (.one 3 (.one 4 (.one 5 (.one 6 (.one 7 (.one 8 (.one 9 (.one 10 (.one 11 .nil)))))))))))) (fun i => ([9, 11] : List Nat).contains i) (fun i => ([9, 11] : List Nat).contains i) (fun i => ([0, 1, 2, 3, 4, 5, 6, 7, 8, 10] : List Nat).contains i) mixed (by kernel_rfl) (by decide) (by kernel_rfl) ?_
                      refine .uw rfl (.move rfl) ?_
                      refine .uw rfl (.fieldAddr fa_33_0 rfl) ?_
                      refine .uw rfl (.ld one_30 rfl) ?_
                      refine .uw rfl (.fieldAddr fa_33_1 rfl) ?_
                      refine .uw rfl (.ld one_3 rfl) ?_
                      refine .uw rfl (.fieldAddr fa_33_0 rfl) ?_
                      refine .uw rfl (.ld one_30 rfl) ?_
                      refine .uw rfl (.fieldAddr fa_33_2 rfl) ?_
                      refine .uw rfl (.ld one_23 rfl) ?_
                      refine .mw rfl (.cb (f9_spec (clAt l i).h (clAt l i).v (clAt l i).b rfl) body_9 (h0 := by rintro _ _ _ ⟨_, h, _⟩; exact h)) ?_
                      rintro v146 _ _ ⟨_, ⟨_, _, rfl⟩, hΓ, hH⟩
                      simp only [List.cons_append, List.nil_append] at hH; subst hΓ hH
                      refine kp ?_
                      refine JR.know (φ := ∃ A n c, v146 = .slice A n c) (fun w hs => (by obtain ⟨A, c, rfl, _⟩ := row_rd (by decide) (Res.row_ok.1 (hs.hok _ (.head _))); exact ⟨_, _, _, rfl⟩)) fun ⟨A9, n9, c9, h_v146⟩ => ?_
                      subst h_v146
                      refine .uw rfl (.build (cs := [u64 (clAt l i).h, it (clAt l i).w, .slice A9 n9 c9]) bld_33 rfl (by kernel_rfl)) ?_
                      refine .mw rfl (.cb (f10_spec c am sv S M hM h1 h2 h3 (clAt l i).h (clAt l i).w (.slice A9 n9 c9) (blockB (clAt l i).h (clAt l i).b) (by have := (blk_ok (clAt l i).h (clAt l i).b (by omega)).2.2; omega)) body_10 (h0 := by rintro _ _ _ ⟨_, _, _, _, h, _⟩; exact h)) ?_
                      rintro _ _ _ ⟨_, ⟨M2, e2, hh, rfl, _, rfl⟩, hΓ, hH⟩
                      simp only [List.cons_append, List.nil_append] at hH; subst hΓ hH
                      refine kp ?_
                      refine .nil (.tn (.exit (.then_exit (.block_exit ?_))))
                      refine .hd M2 ?_
                      first | exact ⟨hM, hI⟩ | exact ⟨hh.ok, hh.ab ▸ hI.step (.inl (by rw [hwt]; exact hc10))⟩ | exact ⟨hM5, hI5⟩
                    · skip
                      refine .skip (.tn (.seq (.region ?_)))
                      refine .w (.move rfl) ?_
                      refine .w (.fieldAddr fa_33_1 rfl) ?_
                      refine .w (.ld one_3 rfl) ?_
                      refine .w (.fieldAddr fa_33_0 rfl) ?_
                      refine .w (.ld one_30 rfl) ?_
                      refine .cb (f17_spec vo Z (clAt l i).w (clAt l i).h (by omega) (fun b hb => Nat.le_trans (hlog b hb) (by decide))) body_17 ?_ (h0 := by rintro _ _ _ ⟨_, _, h, _⟩; exact h)
                      rintro v154 _ ⟨Za, hZa, _, rfl⟩
                      refine .ap ?_
                      have hZal : Za.length ≤ 4 := by have := congrArg List.length hZa; rw [clOf_len] at this; rw [this]; unfold ans; rw [ansK_len]; omega
                      refine JO.freeze (v := v154) (by repeat (first | exact Pull.here _ _ | apply Pull.there)) (by decide) ?_
                      refine JO.frzP (A := clP Za) (by repeat (first | exact Pull.here _ _ | apply Pull.there)) ?_
                      refine .w (.assign rfl) ?_
                      refine .nil (.tn (.seq (.region ?_)))
                      refine .w (.assign rfl) ?_
                      refine .nil (.tn (.block ?_))
                      refine .lp (ι := Nat × MM (BitVec 64) HC) (fun x => x.1 ≤ Za.length ∧ COk S x.2 ∧ TrueI lies (bytesP Z) (abM x.2)) (fun T x => (19, it (x.1 : Int)) :: T) (fun T _ => T) (fun T x => mpR am uK hcV x.2 :: Res.sep (hsL S x.2) :: T) (fun x => Za.length - x.1) (0, M) [1, 3, 8, 9, 12, 14, 16, 17, 18, 20, 21, 22, 23, 106, 107, 108, 109, 110, 111, 112, 113, 114, 115, 116, 117, 118, 119, 120, 121, 122, 123, 124, 125, 126, 127, 128, 129, 130, 131, 132, 133, 134, 135, 136, 137, 138, 139, 140, 141, 142, 143, 144, 145, 146, 147, 149, 150, 151, 152, 153, 154, 167, 168, 169, 170, 171, 172, 173, 174, 175, 176, 177, 178, 179, 180, 181, 182, 183, 184, 185, 186, 187, 188, 189, 190, 191, 192, 193, 194, 195, 196, 197, 198, 199, 200, 201, 202, 203, 204, 205, 206, 207, 208] ?_ (fun x hx => ?_)
                      · exact ⟨Nat.zero_le _, hM, hI⟩
                      obtain ⟨q, M5⟩ := x
                      obtain ⟨hq5, hM5, hI5⟩ := hx
                      dsimp only at hq5 hM5 hI5 ⊢
                      refine .seq (.seq (.region ?_))
                      refine .w (.move rfl) ?_
                      refine .w (.move rfl) ?_
                      refine .w (.len Tryz.underlying29 rfl) ?_
                      refine .w (.bin rfl rfl BinR.lss_i) ?_
                      refine .nil (.tn ?_)
                      refine .cn rfl (fun hc11 => ?_) (fun hc11 => ?_)
                      · have hcl := ans_mem (by omega) (hZa ▸ List.mem_of_getElem? (cl_at (Z := Za) (k := q) (by omega)).1)
                        have hbq : (clAt Za q).b.length ≤ 100000 := by
                          rw [show (clAt Za q).b = (bytesP Z).getD (clAt Za q).h.toNat [] from hcl.2.2, List.getD_eq_getElem?_getD, List.getElem?_eq_getElem hcl.2.1]
                          exact Nat.le_trans (hlog _ (List.getElem_mem _)) (by decide)
                        refine .skip (.tn (.seq (.block (.region ?_))))
                        refine .w (.move rfl) ?_
                        refine .w (.move rfl) ?_
                        refine .w (.move rfl) ?_
                        refine .w (.ix Tryz.underlying29 sz_33 rfl rfl) ?_
                        refine .w (.as (v' := (.agg #[u64 (clAt Za q).h, it (clAt Za q).w, (clAt Za q).v])) (.lda agg_33 rfl (hm := by first | exact AM.own (by (repeat (first | exact List.Mem.head _ | refine List.Mem.tail _ ?_)); first | done | fail) (by rw [bks_len]; omega) | exact AM.ro (by (repeat (first | exact List.Mem.head _ | refine List.Mem.tail _ ?_)); first | done | fail) (by rw [bks_len]; omega) | exact AM.ownAt (by (repeat (first | exact List.Mem.head _ | refine List.Mem.tail _ ?_)); first | done | fail) (by rw [bks_len]; omega) | exact AM.rd zqc (by rw [bks_len]; omega) | exact AM.row zqa (by rw [bks_len]; omega))) (congrArg (fun l : List Value => Value.agg l.toArray) (bks_piece (f := clC) clD (by omega)))) ?_
                        refine JO.open (r := Res.rd (pcAt (clP Za) q).1 (pcAt (clP Za) q).2.length 1 ((pcAt (clP Za) q).2.map u8)) zqa (pc_res (by rw [clP_len]; omega)) ?_
                        rw [(cl_at (Z := Za) (k := q) (by omega)).2]
                        refine .cb (f10_spec c am sv S M5 hM5 h1 h2 h3 (clAt Za q).h (clAt Za q).w (clAt Za q).v (clAt Za q).b hbq) body_10 ?_ (h0 := by rintro _ _ _ ⟨_, _, _, _, h, _⟩; exact h)
                        rintro _ _ ⟨M6, e6, hh, rfl, _, rfl⟩
                        refine .ap ?_
                        refine .nil (.block_normal (.tn (.region ?_)))
                        refine .w (.move rfl) ?_
                        refine .w (.asI ((q + 1 : Nat) : Int) (.bin rfl rfl (BinR.add_i zqf))) ?_
                        refine .w (.assign rfl) ?_
                        refine .nil ?_
                        refine .hd (q + 1, M6) ?_
                        exact ⟨⟨by dsimp only; omega, hh.ok, hh.ab ▸ hI5.step (.inr hcl.2)⟩, by dsimp only; omega⟩
                      · skip
                        refine .exit (.then_exit (.then_exit (.block_exit (.block_normal ?_))))
                        refine .hd M5 ?_
                        first | exact ⟨hM, hI⟩ | exact ⟨hh.ok, hh.ab ▸ hI.step (.inl (by rw [hwt]; exact hc10))⟩ | exact ⟨hM5, hI5⟩
              · obtain ⟨M9, hM9e⟩ : ∃ m, m = x := ⟨_, rfl⟩
                subst hM9e
                obtain ⟨hM9, hI9⟩ := hx
                refine .region ?_
                refine .w (.move rfl) ?_
                refine .w (.asI ((i + 1 : Nat) : Int) (.bin rfl rfl (BinR.add_i zqf))) ?_
                refine .w (.assign rfl) ?_
                refine .nil ?_
                refine .hd (i + 1, M9) ?_
                exact ⟨⟨by dsimp only; omega, hM9, hI9⟩, by dsimp only; omega⟩
            · skip
              refine .exit (.then_exit (.then_exit (.block_exit (.tn (.seq (.region ?_))))))
              refine .w (.move rfl) ?_
              refine .cb (f15_spec c am sv S M hM) body_15 ?_ (h0 := by rintro _ _ _ ⟨_, _, h, _⟩; exact h)
              rintro v168 _ ⟨es, hes, _, rfl⟩
              refine .ap ?_
              have hel : es.length = M.es.length := by rw [hes.length_eq, List.length_map]
              have hml := hM.le
              refine JO.freeze (v := v168) (by repeat (first | exact Pull.here _ _ | apply Pull.there)) (by decide) ?_
              refine .w (.assign rfl) ?_
              refine .nil (.tn (.seq (.seq (.region ?_))))
              refine .w (.assign rfl) ?_
              refine .nil (.tn (.block ?_))
              refine .lp (ι := Nat) (fun x => x ≤ es.length) (fun T x => (21, it (x : Int)) :: T) (fun T _ => T) (fun T _ => T) (fun x => es.length - x) 0 [9, 12, 14, 20, 208] ?_ (fun x hx => ?_)
              · exact Nat.zero_le _
              obtain ⟨k, hk⟩ : ∃ k, k = x := ⟨_, rfl⟩
              subst hk
              refine .seq (.seq (.region ?_))
              refine .w (.move rfl) ?_
              refine .w (.move rfl) ?_
              refine .w (.len Tryz.underlying22 rfl) ?_
              refine .w (.bin rfl rfl BinR.lss_i) ?_
              refine .nil (.tn ?_)
              refine .cn rfl (fun hc12 => ?_) (fun hc12 => ?_)
              · skip
                refine .skip (.tn (.seq (.block (.seq (.region ?_)))))
                refine .w (.move rfl) ?_
                refine .w (.move rfl) ?_
                refine .w (.move rfl) ?_
                refine .w (.ix1 Tryz.underlying22 sz_30 rfl rfl) ?_
                refine .w (.ld one_30 rfl (hj := by exact gm (d := 0) (by omega))) ?_
                refine .cb (f12_spec c am sv S M hM h2 h3 (es.getD k 0)) body_12 ?_ (h0 := by rintro _ _ _ ⟨_, _, _, _, h, _⟩; exact h)
                rintro _ _ ⟨o, rfl, hbel, hlo, _, rfl⟩
                refine .ap ?_
                refine .oRd (o := o) ?_
                refine .w (.move rfl) ?_
                refine .w (.as (v' := bv o) (.extract rfl rfl) rfl) ?_
                refine .w (.as (v' := .bool o.isSome) (.extract rfl rfl) rfl) ?_
                refine .w (.assign rfl) ?_
                refine .w (.assign rfl) ?_
                refine .nil (.tn (.seq ?_))
                refine JC.draw (.one 0 (.one 1 (.one 2 (.one 3 (.one 4 (.one 5 (.one 6 (.one 7 (.one 8 (.one 9 (.one 10 (.one 11 (.one 13 (.one 14 (.one 15 (.one 16 (.one 17 (.one 18 (.one 19 (.one 12 (.one 20 (.one 21 (.one 22 (.one 23 .nil)))))))))))))))))))))))) (fun i => ([12, 20] : List Nat).contains i) (fun i => ([12, 20] : List Nat).contains i) (fun i => ([0, 1, 2, 3, 4, 5, 6, 7, 8, 9, 10, 11, 13, 14, 15, 16, 17, 18, 19, 21, 22, 23] : List Nat).contains i) mixed (by kernel_rfl) (by decide) (by kernel_rfl) ?_
                refine .uw rfl (.move rfl) ?_
                refine .uw rfl (.move rfl) ?_
                refine JR.gsplit (g := 23) rfl (fun hg188 => ?_) (fun hg188 => ?_)
                · have hg188' := hg188
                  try simp only [decide_eq_true_eq, decide_eq_false_iff_not, Bool.not_eq_true', Bool.not_eq_false', ne_eq, Decidable.not_not, Bool.not_eq_true, Bool.and_eq_true, Bool.or_eq_true, BitVec.reduceToNat] at hg188'
                  obtain ⟨⟨vb, bb⟩, rfl⟩ : ∃ x, o = some x := Option.isSome_iff_exists.1 hg188
                  have hf := true_fin hM hI hbad hbel
                  have hf1 := hf.1
                  rw [bytesP_len] at hf1
                  have hf2 : nm (obB (some (vb, bb))) = nm (pcAt Z (es.getD k 0).toNat).2 := by rw [← bytesP_at]; exact hf.2
                  have hlb := hlo _ rfl
                  have hlz : (pcAt Z (es.getD k 0).toNat).2.length ≤ 100000 := Nat.le_trans (hlog _ (by rw [← bytesP_at, List.getD_eq_getElem?_getD, List.getElem?_eq_getElem hf.1]; exact List.getElem_mem _)) (by decide)
                  refine JR.ugt (g := 185) rfl rfl rfl rfl rfl hg188 (.move rfl) (by decide) ?_
                  refine JR.ugt (g := 185) rfl rfl rfl rfl rfl hg188 (.move rfl) (by decide) ?_
                  refine JR.ugt (g := 185) rfl rfl rfl rfl rfl hg188 (.ix1 Tryz.underlying22 sz_30 rfl rfl) (by decide) ?_
                  refine JR.ugt (g := 185) rfl rfl rfl rfl rfl hg188 (.ld one_30 rfl (hj := by exact gm (d := 0) (by omega))) (by decide) ?_
                  refine JR.ugt (g := 185) rfl rfl rfl rfl rfl hg188 (.move rfl) (by decide) ?_
                  refine JR.ugt (g := 185) rfl rfl rfl rfl rfl hg188 (.len Tryz.underlying35 rfl) (by decide) ?_
                  refine JR.ugt (g := 185) rfl rfl rfl rfl rfl hg188 (.as (v' := u64 (BitVec.ofNat 64 Z.length)) (.conv_i_u64 Tryz.underlying3 Tryz.underlying30 rfl) (congrArg u64 (BitVec.ofInt_natCast _ _))) (by decide) ?_
                  refine JR.ugt (g := 185) rfl rfl rfl rfl rfl hg188 (.as (v' := .bool false) (.bin rfl rfl (BinR.geq_u64)) (congrArg Value.bool (decide_eq_false (by rw [BitVec.toNat_ofNat, Nat.mod_eq_of_lt (by omega)]; omega)))) (by decide) ?_
                  refine JR.ugt (g := 185) rfl rfl rfl rfl rfl hg188 (.move rfl) (by decide) ?_
                  refine JR.open (r := Res.rd (pcAt Z (es.getD k 0).toNat).1 (pcAt Z (es.getD k 0).toNat).2.length 1 ((pcAt Z (es.getD k 0).toNat).2.map u8)) zqa (pc_res (by omega)) ?_
                  refine JR.ugt (g := 194) rfl rfl rfl rfl rfl rfl (.move rfl) (by decide) ?_
                  refine JR.ugt (g := 194) rfl rfl rfl rfl rfl rfl (.move rfl) (by decide) ?_
                  refine JR.ugt (g := 194) rfl rfl rfl rfl rfl rfl (.move rfl) (by decide) ?_
                  refine JR.ugt (g := 194) rfl rfl rfl rfl rfl rfl (.move rfl) (by decide) ?_
                  refine JR.ugt (g := 194) rfl rfl rfl rfl rfl rfl (.ix1 Tryz.underlying22 sz_30 rfl rfl) (by decide) ?_
                  refine JR.ugt (g := 194) rfl rfl rfl rfl rfl rfl (.ld one_30 rfl (hj := by exact gm (d := 0) (by omega))) (by decide) ?_
                  refine JR.ugt (g := 194) rfl rfl rfl rfl rfl rfl (.ix1 Tryz.underlying35 sz_23 rfl rfl) (by decide) ?_
                  refine JR.ugt (g := 194) rfl rfl rfl rfl rfl rfl (.ld one_23 rfl (hj := by exact pc_get (by omega))) (by decide) ?_
                  refine JR.mgt (g := 194) rfl rfl rfl rfl rfl (.c (name_digR (bv (some (vb, bb))) (obB (some (vb, bb))) hlb) body_20) (by decide) ?_
                  rintro _ _ _ ⟨rfl, rfl, rfl⟩
                  refine kp ?_
                  refine JR.mgt (g := 194) rfl rfl rfl rfl rfl (.c (name_digR (pcAt Z (es.getD k 0).toNat).1 (pcAt Z (es.getD k 0).toNat).2 hlz) body_20) (by decide) ?_
                  rintro _ _ _ ⟨rfl, rfl, rfl⟩
                  refine kp ?_
                  refine JR.ugt (g := 194) rfl rfl rfl rfl rfl rfl (.as (v' := .bool false) (.bin rfl rfl (neq_dig)) (congrArg Value.bool (by rw [hf2]; simp))) (by decide) ?_
                  refine JR.ugt (g := 185) rfl rfl rfl rfl rfl hg188 (Yv.pick0 rfl rfl rfl) (by decide) ?_
                  refine JR.u rfl rfl rfl (Yv.pick1 rfl hg188 rfl) (by decide) ?_
                  refine .nil (.tn ?_)
                  refine .cf rfl ?_
                  refine .skip (.block_normal (.tn (.region ?_)))
                  refine .w (.move rfl) ?_
                  refine .w (.asI ((k + 1 : Nat) : Int) (.bin rfl rfl (BinR.add_i zqf))) ?_
                  refine .w (.assign rfl) ?_
                  refine .nil ?_
                  refine .hd (k + 1) ?_
                  exact ⟨by omega, by omega⟩
                · have hg188' := hg188
                  try simp only [decide_eq_true_eq, decide_eq_false_iff_not, Bool.not_eq_true', Bool.not_eq_false', ne_eq, Decidable.not_not, Bool.not_eq_true, Bool.and_eq_true, Bool.or_eq_true, BitVec.reduceToNat] at hg188'
                  refine JR.gf (g := 185) rfl rfl rfl rfl hg188 (by decide) ?_
                  refine JR.gf (g := 185) rfl rfl rfl rfl hg188 (by decide) ?_
                  refine JR.gf (g := 185) rfl rfl rfl rfl hg188 (by decide) ?_
                  refine JR.gf (g := 185) rfl rfl rfl rfl hg188 (by decide) ?_
                  refine JR.gf (g := 185) rfl rfl rfl rfl hg188 (by decide) ?_
                  refine JR.gf (g := 185) rfl rfl rfl rfl hg188 (by decide) ?_
                  refine JR.gf (g := 185) rfl rfl rfl rfl hg188 (by decide) ?_
                  refine JR.gf (g := 185) rfl rfl rfl rfl hg188 (by decide) ?_
                  refine JR.gf (g := 185) rfl rfl rfl rfl hg188 (by decide) ?_
                  refine JR.gu (g := 194) rfl rfl rfl rfl (by decide) ?_
                  refine JR.gu (g := 194) rfl rfl rfl rfl (by decide) ?_
                  refine JR.gu (g := 194) rfl rfl rfl rfl (by decide) ?_
                  refine JR.gu (g := 194) rfl rfl rfl rfl (by decide) ?_
                  refine JR.gu (g := 194) rfl rfl rfl rfl (by decide) ?_
                  refine JR.gu (g := 194) rfl rfl rfl rfl (by decide) ?_
                  refine JR.gu (g := 194) rfl rfl rfl rfl (by decide) ?_
                  refine JR.gu (g := 194) rfl rfl rfl rfl (by decide) ?_
                  refine JR.gum (g := 194) rfl rfl rfl rfl (by decide) ?_ ?_
                  · exact ⟨Subs.sub zqe, .inl rfl⟩
                  refine JR.gum (g := 194) rfl rfl rfl rfl (by decide) ?_ ?_
                  · exact ⟨Subs.sub zqe, .inl rfl⟩
                  refine JR.gu (g := 194) rfl rfl rfl rfl (by decide) ?_
                  refine JR.gf (g := 185) rfl rfl rfl rfl hg188 (by decide) ?_
                  refine JR.u rfl rfl rfl (Yv.pick0 rfl hg188 rfl) (by decide) ?_
                  refine .nil (.tn ?_)
                  refine .cf rfl ?_
                  refine .skip (.block_normal (.tn (.region ?_)))
                  refine .w (.move rfl) ?_
                  refine .w (.asI ((k + 1 : Nat) : Int) (.bin rfl rfl (BinR.add_i zqf))) ?_
                  refine .w (.assign rfl) ?_
                  refine .nil ?_
                  refine .hd (k + 1) ?_
                  exact ⟨by omega, by omega⟩
              · skip
                refine .exit (.then_exit (.then_exit (.block_exit (.tn (.seq (.region ?_))))))
                refine .w (.move rfl) ?_
                refine .w (.assign rfl) ?_
                refine .nil (.tn (.ret ?_))
                exact .dn [] [] (res1 rfl (.tmp rfl)) ⟨rfl, rfl, rfl⟩

set_option maxHeartbeats 4000000 in
theorem f6B_spec (u vl vt vc : Value) (S : List W64) (lies : List Bool) (T : Pcs) (l : List CLM) (hg : newE S ≠ 0) :
    Spec Tryz.prog 6 #[u, vl, vt, vc] [Res.var 3 (sqr.map u32), Res.var 2 (cub.map u32), Res.var 0 [u64 9223372036854775808, u64 0, u64 0, u64 0], Res.rd u S.length 1 (S.map u64), Res.rd vl lies.length 1 (lies.map Value.bool), Res.rd vt T.length 1 (T.map Prod.fst), Res.all (pcRes T), Res.rd vc l.length 3 (bks clC l), Res.all (pcRes (clP l))] []
      (fun r Γ' H' => r = .bool true ∧ Γ' = [] ∧ H' = []) := by
  refine Spec.of_args Tryz.func6 rfl Tryz.ntmps6 (by simp) fun w => ?_
  refine JC.know (φ := S.length ≤ 9223372036854775807) (fun w hs => by obtain ⟨_, _, _, _, _, _, h⟩ := hs.rdForm (.tail _ (.tail _ (.tail _ (.head _)))); unfold maxLen at h; omega) fun _ => ?_
  refine JC.know (φ := lies.length ≤ 9223372036854775807) (fun w hs => by obtain ⟨_, _, _, _, _, _, h⟩ := hs.rdForm (.tail _ (.tail _ (.tail _ (.tail _ (.head _))))); unfold maxLen at h; omega) fun _ => ?_
  refine JC.know (φ := T.length ≤ 9223372036854775807) (fun w hs => by obtain ⟨_, _, _, _, _, _, h⟩ := hs.rdForm (.tail _ (.tail _ (.tail _ (.tail _ (.tail _ (.head _)))))); unfold maxLen at h; omega) fun _ => ?_
  refine JC.know (φ := l.length ≤ 9223372036854775807) (fun w hs => by obtain ⟨_, _, _, _, _, _, h⟩ := hs.rdForm (.tail _ (.tail _ (.tail _ (.tail _ (.tail _ (.tail _ (.tail _ (.head _)))))))); unfold maxLen at h; omega) fun _ => ?_
  skip
  refine .seq (.region ?_)
  refine .w (.assign rfl) ?_
  refine .nil (.tn (.seq (.region ?_)))
  refine .c (f7_spec) body_7 ?_
  refine .w (.assign rfl) ?_
  refine .nil (.tn (.seq (.seq (.region ?_))))
  refine .w (.move rfl) ?_
  refine .w (.len Tryz.underlying22 rfl) ?_
  refine .w (.bin rfl rfl BinR.gtr_i) ?_
  refine .join 17 44 (.bool (decide (S.length > 10 ∨ lies.length ≠ S.length ∨ T.length > 8 ∨ l.length > 50))) ?_ ?_
  · refine .w (.move rfl) ?_
    refine .gn (g := 27) rfl (fun hg8 hg8' => ?_) (fun hg8 hg8' => ?_)
    · refine .gf (g := 28) rfl rfl hg8 (by decide) ?_
      refine .gf (g := 28) rfl rfl hg8 (by decide) ?_
      refine .gf (g := 28) rfl rfl hg8 (by decide) ?_
      refine .gf (g := 28) rfl rfl hg8 (by decide) ?_
      refine .gf (g := 28) rfl rfl hg8 (by decide) ?_
      refine .w (.pick1 rfl hg8 rfl) ?_
      refine .w (.move rfl) ?_
      refine .gf (g := 35) rfl rfl rfl (by decide) ?_
      refine .gf (g := 35) rfl rfl rfl (by decide) ?_
      refine .gf (g := 35) rfl rfl rfl (by decide) ?_
      refine .w (.pick1 rfl rfl rfl) ?_
      refine .w (.move rfl) ?_
      refine .gf (g := 40) rfl rfl rfl (by decide) ?_
      refine .gf (g := 40) rfl rfl rfl (by decide) ?_
      refine .gf (g := 40) rfl rfl rfl (by decide) ?_
      refine .w (.pick1 rfl rfl rfl) ?_
      refine .nil ?_
      refine .head () (by first | (refine ⟨by first | rfl | exact congrArg (fun b => some (Value.bool b)) (by first | exact (decide_eq_true (by omega)).symm | exact (decide_eq_false (by omega)).symm | exact decide_eq_decide.2 (by omega)) | (simp [*]; done) | (show some _ = some _; simp [*]; done), ?_⟩; repeat (first | exact trivial | refine ⟨rfl, ?_⟩))) (fun _ h => h) (Picks.perm zqd) ?_
      trivial
    · refine .gt (g := 28) rfl rfl hg8 ?_
      refine .w (.move rfl) ?_
      refine .gt (g := 28) rfl rfl hg8 ?_
      refine .w (.len Tryz.underlying50 rfl) ?_
      refine .gt (g := 28) rfl rfl hg8 ?_
      refine .w (.move rfl) ?_
      refine .gt (g := 28) rfl rfl hg8 ?_
      refine .w (.len Tryz.underlying22 rfl) ?_
      refine .gt (g := 28) rfl rfl hg8 ?_
      refine .w (.bin rfl rfl BinR.neq_i) ?_
      refine .w (.pick0 rfl hg8 rfl) ?_
      refine .w (.move rfl) ?_
      refine .gn (g := 34) rfl (fun hg15 hg15' => ?_) (fun hg15 hg15' => ?_)
      · refine .gf (g := 35) rfl rfl hg15 (by decide) ?_
        refine .gf (g := 35) rfl rfl hg15 (by decide) ?_
        refine .gf (g := 35) rfl rfl hg15 (by decide) ?_
        refine .w (.pick1 rfl hg15 rfl) ?_
        refine .w (.move rfl) ?_
        refine .gf (g := 40) rfl rfl rfl (by decide) ?_
        refine .gf (g := 40) rfl rfl rfl (by decide) ?_
        refine .gf (g := 40) rfl rfl rfl (by decide) ?_
        refine .w (.pick1 rfl rfl rfl) ?_
        refine .nil ?_
        refine .head () (by first | (refine ⟨by first | rfl | exact congrArg (fun b => some (Value.bool b)) (by first | exact (decide_eq_true (by omega)).symm | exact (decide_eq_false (by omega)).symm | exact decide_eq_decide.2 (by omega)) | (simp [*]; done) | (show some _ = some _; simp [*]; done), ?_⟩; repeat (first | exact trivial | refine ⟨rfl, ?_⟩))) (fun _ h => h) (Picks.perm zqd) ?_
        trivial
      · refine .gt (g := 35) rfl rfl hg15 ?_
        refine .w (.move rfl) ?_
        refine .gt (g := 35) rfl rfl hg15 ?_
        refine .w (.len Tryz.underlying35 rfl) ?_
        refine .gt (g := 35) rfl rfl hg15 ?_
        refine .w (.bin rfl rfl BinR.gtr_i) ?_
        refine .w (.pick0 rfl hg15 rfl) ?_
        refine .w (.move rfl) ?_
        refine .gn (g := 39) rfl (fun hg20 hg20' => ?_) (fun hg20 hg20' => ?_)
        · refine .gf (g := 40) rfl rfl hg20 (by decide) ?_
          refine .gf (g := 40) rfl rfl hg20 (by decide) ?_
          refine .gf (g := 40) rfl rfl hg20 (by decide) ?_
          refine .w (.pick1 rfl hg20 rfl) ?_
          refine .nil ?_
          refine .head () (by first | (refine ⟨by first | rfl | exact congrArg (fun b => some (Value.bool b)) (by first | exact (decide_eq_true (by omega)).symm | exact (decide_eq_false (by omega)).symm | exact decide_eq_decide.2 (by omega)) | (simp [*]; done) | (show some _ = some _; simp [*]; done), ?_⟩; repeat (first | exact trivial | refine ⟨rfl, ?_⟩))) (fun _ h => h) (Picks.perm zqd) ?_
          trivial
        · refine .gt (g := 40) rfl rfl hg20 ?_
          refine .w (.move rfl) ?_
          refine .gt (g := 40) rfl rfl hg20 ?_
          refine .w (.len Tryz.underlying29 rfl) ?_
          refine .gt (g := 40) rfl rfl hg20 ?_
          refine .w (.bin rfl rfl BinR.gtr_i) ?_
          refine .w (.pick0 rfl hg20 rfl) ?_
          refine .nil ?_
          refine .head () (by first | (refine ⟨by first | rfl | exact congrArg (fun b => some (Value.bool b)) (by first | exact (decide_eq_true (by omega)).symm | exact (decide_eq_false (by omega)).symm | exact decide_eq_decide.2 (by omega)) | (simp [*]; done) | (show some _ = some _; simp [*]; done), ?_⟩; repeat (first | exact trivial | refine ⟨rfl, ?_⟩))) (fun _ h => h) (Picks.perm zqd) ?_
          trivial
  · refine .nil (.tn ?_)
    refine .cn rfl (fun hc1 => ?_) (fun hc1 => ?_)
    · skip
      refine .seq (.region ?_)
      refine .w (.move rfl) ?_
      refine .w (.assign rfl) ?_
      refine .nil (.tn (.ret (.then_ret ?_)))
      exact .dn [] [] (res1 rfl (.tmp rfl)) ⟨rfl, rfl, rfl⟩
    · have hs10 : S.length ≤ 10 ∧ lies.length = S.length ∧ T.length ≤ 8 ∧ l.length ≤ 50 := by omega
      obtain ⟨hs1, hs2, hs3, hs4⟩ := hs10
      refine .skip (.tn (.seq (.region ?_)))
      refine .w (.assign rfl) ?_
      refine .nil (.tn (.seq (.seq (.region ?_))))
      refine .w (.assign rfl) ?_
      refine .nil (.tn (.block ?_))
      refine .lp (ι := Nat) (fun x => x ≤ S.length ∧ ∀ j, j < x → (S.getD j 0).toNat < 72057594037927936) (fun T x => (11, it (x : Int)) :: (10, u64 (BitVec.ofNat 64 (badK S lies x))) :: T) (fun T _ => T) (fun T _ => T) (fun x => S.length - x) 0 [0, 1, 2, 3, 9, 12, 14, 15, 16, 17, 18, 19, 20, 21, 22, 23, 68, 69, 70, 71, 72, 73, 74, 75, 76, 77, 78, 79, 80, 81, 82, 83, 84, 85, 86, 87, 88, 89, 90, 91, 92, 93, 94, 95, 96, 97, 98, 99, 100, 101, 102, 103, 104, 105, 106, 107, 108, 109, 110, 111, 112, 113, 114, 115, 116, 117, 118, 119, 120, 121, 122, 123, 124, 125, 126, 127, 128, 129, 130, 131, 132, 133, 134, 135, 136, 137, 138, 139, 140, 141, 142, 143, 144, 145, 146, 147, 149, 150, 151, 152, 153, 154, 155, 156, 157, 158, 159, 160, 161, 162, 163, 164, 165, 167, 168, 169, 170, 171, 172, 173, 174, 175, 176, 177, 178, 179, 180, 181, 182, 183, 184, 185, 186, 187, 188, 189, 190, 191, 192, 193, 194, 195, 196, 197, 198, 199, 200, 201, 202, 203, 204, 205, 206, 207, 208] ?_ (fun x hx => ?_)
      · exact ⟨Nat.zero_le _, fun j hj => absurd hj (Nat.not_lt_zero _)⟩
      obtain ⟨i, hi⟩ : ∃ i, i = x := ⟨_, rfl⟩
      subst hi
      obtain ⟨hi, hS56⟩ := hx
      refine .seq (.seq (.region ?_))
      refine .w (.move rfl) ?_
      refine .w (.move rfl) ?_
      refine .w (.len Tryz.underlying22 rfl) ?_
      refine .w (.bin rfl rfl BinR.lss_i) ?_
      refine .nil (.tn ?_)
      refine .cn rfl (fun hc2 => ?_) (fun hc2 => ?_)
      · skip
        refine .skip (.tn (.seq (.block (.seq (.seq (.region ?_))))))
        refine .w (.move rfl) ?_
        refine .w (.move rfl) ?_
        refine .w (.ix1 Tryz.underlying22 sz_30 rfl rfl) ?_
        refine .w (.ld one_30 rfl (hj := by exact gm (d := 0) (by omega))) ?_
        refine .w (.bin rfl rfl (BinR.geq_u64 (b := 72057594037927936#64))) ?_
        refine .nil (.tn ?_)
        refine .cn rfl (fun hc3 => ?_) (fun hc3 => ?_)
        · try simp only [BitVec.reduceToNat] at hc3
          skip
          refine .seq (.region ?_)
          refine .w (.move rfl) ?_
          refine .w (.assign rfl) ?_
          refine .nil (.tn (.ret (.then_ret (.block_ret (.then_ret (.then_ret (.block_ret (.then_ret ?_))))))))
          exact .dn [] [] (res1 rfl (.tmp rfl)) ⟨rfl, rfl, rfl⟩
        · try simp only [BitVec.reduceToNat] at hc3
          have h56 : (S.getD i 0).toNat < 72057594037927936 := by omega
          refine .skip (.tn (.seq (.region ?_)))
          refine .w (.move rfl) ?_
          refine .w (.move rfl) ?_
          refine .w (.ix1 Tryz.underlying50 sz_4 rfl rfl) ?_
          refine .w (.ld one_4 rfl (hj := by exact gm (d := false) (by omega))) ?_
          refine .nil (.tn ?_)
          refine .cn rfl (fun hc4 => ?_) (fun hc4 => ?_)
          · have hbk := badK_bv (S := S) hc4
            refine .region ?_
            refine .w (.move rfl) ?_
            refine .w (.move rfl) ?_
            refine .w (.move rfl) ?_
            refine .w (.ix1 Tryz.underlying22 sz_30 rfl rfl) ?_
            refine .w (.ld one_30 rfl (hj := by exact gm (d := 0) (by omega))) ?_
            refine .w (.as (v' := u64 (BitVec.ofNat 64 (badK S lies (i + 1)))) (.bin rfl rfl (BinR.add_u64)) (congrArg u64 hbk)) ?_
            refine .w (.assign rfl) ?_
            refine .nil (.block_normal (.tn (.region ?_)))
            refine .w (.move rfl) ?_
            refine .w (.asI ((i + 1 : Nat) : Int) (.bin rfl rfl (BinR.add_i zqf))) ?_
            refine .w (.assign rfl) ?_
            refine .nil ?_
            refine .hd (i + 1) ?_
            exact ⟨⟨by omega, fun j hj => by rcases Nat.lt_succ_iff_lt_or_eq.1 hj with h | rfl; exact hS56 j h; exact h56⟩, by omega⟩
          · have hbk : badK S lies i = badK S lies (i + 1) := by rw [badK_succ, if_neg (by rw [hc4]; decide)]; rfl
            rw [hbk]
            refine .skip (.block_normal (.tn (.region ?_)))
            refine .w (.move rfl) ?_
            refine .w (.asI ((i + 1 : Nat) : Int) (.bin rfl rfl (BinR.add_i zqf))) ?_
            refine .w (.assign rfl) ?_
            refine .nil ?_
            refine .hd (i + 1) ?_
            exact ⟨⟨by omega, fun j hj => by rcases Nat.lt_succ_iff_lt_or_eq.1 hj with h | rfl; exact hS56 j h; exact h56⟩, by omega⟩
      · obtain rfl : i = S.length := by omega
        refine .exit (.then_exit (.then_exit (.block_exit (.tn (.seq (.region ?_))))))
        refine .w (.move rfl) ?_
        refine .c (f8no_spec u S hg) body_8 ?_
        refine .w (.move rfl) ?_
        refine .w (.extract rfl rfl) ?_
        refine .w (.extract rfl rfl) ?_
        refine .w (.assign rfl) ?_
        refine .w (.assign rfl) ?_
        refine .nil (.tn (.seq (.seq (.region ?_))))
        refine .w (.move rfl) ?_
        refine .w (.as (v' := .bool true) (.bin rfl rfl (BinR.eql_p Tryz.underlying25)) rfl) ?_
        refine .w (.move rfl) ?_
        refine .gf (g := 75) rfl rfl rfl (by decide) ?_
        refine .gf (g := 75) rfl rfl rfl (by decide) ?_
        refine .gf (g := 75) rfl rfl rfl (by decide) ?_
        refine .gf (g := 75) rfl rfl rfl (by decide) ?_
        refine .gf (g := 75) rfl rfl rfl (by decide) ?_
        refine .w (.pick1 rfl rfl rfl) ?_
        refine .nil (.tn ?_)
        refine .ct rfl ?_
        refine .seq (.region ?_)
        refine .w (.move rfl) ?_
        refine .w (.assign rfl) ?_
        refine .nil (.tn (.ret (.then_ret ?_)))
        exact .dn [] [] (res1 rfl (.tmp rfl)) ⟨rfl, rfl, rfl⟩

theorem f6_spec (u vl vt vc : Value) (S : List W64) (lies : List Bool) (T : Pcs) (l : List CLM) : Spec Tryz.prog 6 #[u, vl, vt, vc] [Res.var 3 (sqr.map u32), Res.var 2 (cub.map u32), Res.var 0 [u64 9223372036854775808, u64 0, u64 0, u64 0], Res.rd u S.length 1 (S.map u64), Res.rd vl lies.length 1 (lies.map Value.bool), Res.rd vt T.length 1 (T.map Prod.fst), Res.all (pcRes T), Res.rd vc l.length 3 (bks clC l), Res.all (pcRes (clP l))] []
      (fun r Γ' H' => r = .bool true ∧ Γ' = [] ∧ H' = []) := by
  by_cases hg : newE S = 0
  · exact f6A_spec u vl vt vc S lies T l hg
  · exact f6B_spec u vl vt vc S lies T l hg
end Go.Proofs.YthfipbjmpeegbaaGreatDoor
