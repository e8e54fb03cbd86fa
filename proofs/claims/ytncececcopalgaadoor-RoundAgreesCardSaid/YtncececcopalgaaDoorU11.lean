/- Walk: RoundAgrees. -/
import Derived.Test.YtncececcopalgaaDoorU8
import Derived.Test.YtncececcopalgaaDoorT16
namespace Go.Proofs.YtncececcopalgaaDoor
open Go.RowKit
set_option maxRecDepth 100000
set_option linter.unusedVariables false
set_option linter.unusedSimpArgs false
theorem f5b_spec (u cb vo : Value) (S : List W64) (bad : List Bool) (sh : Int) (os : List PickE) (h1 : 1 ≤ S.length) (hneg : sh < 0) :
    Spec Tryd.prog 5 #[u, cb, (it sh), vo] [Res.var 0 [u64 9223372036854775808, u64 0, u64 0, u64 0], Res.rd u S.length 1 (S.map u64), Res.rd cb bad.length 1 (bad.map Value.bool), Res.rd vo os.length 40 (piC os)] []
      (fun r Γ' H' => r = (.bool true) ∧ Γ' = [] ∧ H' = []) := by
  refine Spec.of_args Tryd.func5 rfl Tryd.ntmps5 (by simp) fun w => ?_
  refine JC.know (φ := S.length ≤ 9223372036854775807) (fun w hs => by obtain ⟨_, _, _, _, _, _, h⟩ := hs.rdForm (.tail _ (.head _)); unfold maxLen at h; omega) fun hl0 => ?_
  refine JC.know (φ := bad.length ≤ 9223372036854775807) (fun w hs => by obtain ⟨_, _, _, _, _, _, h⟩ := hs.rdForm (.tail _ (.tail _ (.head _))); unfold maxLen at h; omega) fun hl1 => ?_
  refine JC.know (φ := os.length ≤ 9223372036854775807) (fun w hs => by obtain ⟨_, _, _, _, _, _, h⟩ := hs.rdForm (.tail _ (.tail _ (.tail _ (.head _)))); unfold maxLen at h; omega) fun hl2 => ?_
  refine .seq (.region ?_)
  refine .w (.assign rfl) ?_
  refine .nil (.tn (.seq (.region ?_)))
  refine .c f8_spec body_8 ?_
  refine .w (.assign rfl) ?_
  refine .nil (.tn (.seq (.seq (.region ?_))))
  refine .w (.move rfl) ?_
  refine .w (.len Tryd.underlying22 rfl) ?_
  refine .w (.bin rfl rfl BinR.gtr_i) ?_
  refine .w (.move rfl) ?_
  refine .join 11 35 (.bool (decide (7 < (S.length : Int) ∨ (bad.length : Int) ≠ S.length ∨ 150 < (os.length : Int)))) ?_ ?_
  · refine .gn (g := 23) rfl (fun hg8 hg8' => ?_) (fun hg8 hg8' => ?_)
    · refine .gf (g := 24) rfl rfl hg8 (by decide) ?_
      refine .gf (g := 24) rfl rfl hg8 (by decide) ?_
      refine .gf (g := 24) rfl rfl hg8 (by decide) ?_
      refine .gf (g := 24) rfl rfl hg8 (by decide) ?_
      refine .gf (g := 24) rfl rfl hg8 (by decide) ?_
      refine .w (.pick1 rfl hg8 rfl) ?_
      refine .w (.move rfl) ?_
      refine .gf (g := 31) rfl rfl rfl (by decide) ?_
      refine .gf (g := 31) rfl rfl rfl (by decide) ?_
      refine .gf (g := 31) rfl rfl rfl (by decide) ?_
      refine .w (.pick1 rfl rfl rfl) ?_
      refine .nil ?_
      refine .head () (by first | (refine ⟨by first | rfl | exact congrArg (fun b => some (Value.bool b)) (by first | exact (decide_eq_true (by omega)).symm | exact (decide_eq_false (by omega)).symm | exact decide_eq_decide.2 (by omega)) | (simp [*]; done) | (show some _ = some _; simp [*]; done), ?_⟩; repeat (first | exact trivial | refine ⟨rfl, ?_⟩))) (fun _ h => h) (Picks.perm (by repeat (first | exact Picks.nil _ | apply Picks.cons | exact Pull.here _ _ | apply Pull.there))) ?_
      trivial
    · refine .gt (g := 24) rfl rfl hg8 ?_
      refine .w (.move rfl) ?_
      refine .gt (g := 24) rfl rfl hg8 ?_
      refine .w (.len Tryd.underlying46 rfl) ?_
      refine .gt (g := 24) rfl rfl hg8 ?_
      refine .w (.move rfl) ?_
      refine .gt (g := 24) rfl rfl hg8 ?_
      refine .w (.len Tryd.underlying22 rfl) ?_
      refine .gt (g := 24) rfl rfl hg8 ?_
      refine .w (.bin rfl rfl BinR.neq_i) ?_
      refine .w (.pick0 rfl hg8 rfl) ?_
      refine .w (.move rfl) ?_
      refine .gn (g := 30) rfl (fun hg15 hg15' => ?_) (fun hg15 hg15' => ?_)
      · refine .gf (g := 31) rfl rfl hg15 (by decide) ?_
        refine .gf (g := 31) rfl rfl hg15 (by decide) ?_
        refine .gf (g := 31) rfl rfl hg15 (by decide) ?_
        refine .w (.pick1 rfl hg15 rfl) ?_
        refine .nil ?_
        refine .head () (by first | (refine ⟨by first | rfl | exact congrArg (fun b => some (Value.bool b)) (by first | exact (decide_eq_true (by omega)).symm | exact (decide_eq_false (by omega)).symm | exact decide_eq_decide.2 (by omega)) | (simp [*]; done) | (show some _ = some _; simp [*]; done), ?_⟩; repeat (first | exact trivial | refine ⟨rfl, ?_⟩))) (fun _ h => h) (Picks.perm (by repeat (first | exact Picks.nil _ | apply Picks.cons | exact Pull.here _ _ | apply Pull.there))) ?_
        trivial
      · refine .gt (g := 31) rfl rfl hg15 ?_
        refine .w (.move rfl) ?_
        refine .gt (g := 31) rfl rfl hg15 ?_
        refine .w (.len Tryd.underlying47 rfl) ?_
        refine .gt (g := 31) rfl rfl hg15 ?_
        refine .w (.bin rfl rfl BinR.gtr_i) ?_
        refine .w (.pick0 rfl hg15 rfl) ?_
        refine .nil ?_
        refine .head () (by first | (refine ⟨by first | rfl | exact congrArg (fun b => some (Value.bool b)) (by first | exact (decide_eq_true (by omega)).symm | exact (decide_eq_false (by omega)).symm | exact decide_eq_decide.2 (by omega)) | (simp [*]; done) | (show some _ = some _; simp [*]; done), ?_⟩; repeat (first | exact trivial | refine ⟨rfl, ?_⟩))) (fun _ h => h) (Picks.perm (by repeat (first | exact Picks.nil _ | apply Picks.cons | exact Pull.here _ _ | apply Pull.there))) ?_
        trivial
  · refine .nil (.tn ?_)
    refine .cn rfl (fun hc1 => ?_) (fun hc1 => ?_)
    · skip
      refine .seq (.region ?_)
      refine .w (.move rfl) ?_
      refine .w (.assign rfl) ?_
      refine .nil (.tn (.ret (.then_ret ?_)))
      exact .dn [] [] (res1 rfl (.tmp rfl)) ⟨rfl, rfl, rfl⟩
    · skip
      refine .skip (.tn (.seq (.seq (.region ?_))))
      refine .w (.assign rfl) ?_
      refine .nil (.tn (.block ?_))
      refine .lp (ι := Nat) (fun x => x ≤ S.length ∧ ∀ j : Nat, j < x → (S.getD j 0).toNat < 72057594037927936) (fun T x => (10, it (x : Int)) :: T) (fun T _ => T) (fun T _ => T) (fun x => S.length - x) 0 [0, 1, 2, 3, 9, 11, 12, 13, 14, 15, 16, 17, 18, 19, 49, 50, 51, 52, 53, 54, 55, 56, 57, 58, 59, 60, 61, 62, 63, 64, 65, 66, 67, 68, 69, 70, 71, 72, 73, 74, 75, 76, 77, 78, 79, 80, 81, 82, 83, 84, 85, 86, 87, 88, 89, 90, 91, 92, 93, 94, 95, 96, 97, 98, 99, 100, 102, 103, 104, 105, 106, 107, 108, 109, 110, 111, 112, 113, 114, 115, 116, 117, 118, 119, 120, 121, 122, 123, 124, 125, 126, 127, 128, 129, 130, 131, 132, 133, 134, 135, 136, 137, 138, 139, 140, 141] ?_ (fun x hx => ?_)
      · exact ⟨Nat.zero_le _, fun j hj => absurd hj (Nat.not_lt_zero _)⟩
      obtain ⟨hx, hj⟩ := hx
      refine .seq (.seq (.region ?_))
      refine .w (.move rfl) ?_
      refine .w (.move rfl) ?_
      refine .w (.len Tryd.underlying22 rfl) ?_
      refine .w (.bin rfl rfl BinR.lss_i) ?_
      refine .nil (.tn ?_)
      refine .cn rfl (fun hc2 => ?_) (fun hc2 => ?_)
      · skip
        refine .skip (.tn (.seq (.block (.seq (.region ?_)))))
        refine .w (.move rfl) ?_
        refine .w (.move rfl) ?_
        refine .w (.ix1 Tryd.underlying22 sz_48 rfl rfl) ?_
        refine .w (.as (v' := u64 (S.getD x 0)) (.ld one_48 rfl) rfl) ?_
        refine .w (.bin rfl rfl (BinR.geq_u64 (b := 72057594037927936#64))) ?_
        refine .nil (.tn ?_)
        refine .cn rfl (fun hc3 => ?_) (fun hc3 => ?_)
        · try simp only [BitVec.reduceToNat] at hc3
          skip
          refine .seq (.region ?_)
          refine .w (.move rfl) ?_
          refine .w (.assign rfl) ?_
          refine .nil (.tn (.ret (.block_ret (.then_ret (.then_ret (.block_ret (.then_ret ?_)))))))
          exact .dn [] [] (res1 rfl (.tmp rfl)) ⟨rfl, rfl, rfl⟩
        · try simp only [BitVec.reduceToNat] at hc3
          skip
          refine .skip (.block_normal (.tn (.region ?_)))
          refine .w (.move rfl) ?_
          refine .w (.asI ((x + 1 : Nat) : Int) (.bin rfl rfl (BinR.add_i (by first | (constructor <;> omega) | (constructor <;> simp <;> omega))))) ?_
          refine .w (.assign rfl) ?_
          refine .nil ?_
          refine .hd (x + 1) ?_
          exact ⟨⟨by omega, fun j h => by
            rcases Nat.lt_succ_iff_lt_or_eq.1 h with h | h
            · exact hj j h
            · subst h; first | omega | (simp only [BitVec.reduceToNat] at hc3; omega)⟩, by omega⟩
      · have hx' : x = S.length := by omega
        have hs1 := sum_56 (S := S) (fun j h => hj j (by omega))
        refine .exit (.then_exit (.then_exit (.block_exit (.tn (.seq (.region ?_))))))
        refine .w (.move rfl) ?_
        refine .w (.move rfl) ?_
        refine .c (f15_spec u cb S bad (by omega) (by omega) (fun j h => hj j (by omega))) body_15 ?_
        refine .w (.assign rfl) ?_
        refine .nil (.tn (.seq (.region ?_)))
        refine .w (.move rfl) ?_
        refine .w (.move rfl) ?_
        refine .c (f16n_spec u S sh h1 (by omega) hneg) body_16 ?_
        refine .w (.assign rfl) ?_
        refine .nil (.tn (.seq (.seq (.region ?_))))
        refine .w (.move rfl) ?_
        refine .w (.as (v' := .bool true) (.bin rfl rfl (BinR.eql_p Tryd.underlying50)) rfl) ?_
        refine .w (.move rfl) ?_
        refine .gf (g := 57) rfl rfl rfl (by decide) ?_
        refine .gf (g := 57) rfl rfl rfl (by decide) ?_
        refine .w (.pick1 rfl rfl rfl) ?_
        refine .nil (.tn ?_)
        refine .ct rfl ?_
        refine .seq (.region ?_)
        refine .w (.move rfl) ?_
        refine .w (.assign rfl) ?_
        refine .nil (.tn (.ret (.then_ret ?_)))
        exact .dn [] [] (res1 rfl (.tmp rfl)) ⟨rfl, rfl, rfl⟩

theorem f5a_spec (u cb vo : Value) (S : List W64) (bad : List Bool) (sh : Int) (os : List PickE) (h0 : 1 ≤ S.length → 0 ≤ sh) (hsh : sh ≤ 9223372036854775807) :
    Spec Tryd.prog 5 #[u, cb, (it sh), vo] [Res.var 0 [u64 9223372036854775808, u64 0, u64 0, u64 0], Res.rd u S.length 1 (S.map u64), Res.rd cb bad.length 1 (bad.map Value.bool), Res.rd vo os.length 40 (piC os)] []
      (fun r Γ' H' => r = (.bool true) ∧ Γ' = [] ∧ H' = []) := by
  refine Spec.of_args Tryd.func5 rfl Tryd.ntmps5 (by simp) fun w => ?_
  refine JC.know (φ := S.length ≤ 9223372036854775807) (fun w hs => by obtain ⟨_, _, _, _, _, _, h⟩ := hs.rdForm (.tail _ (.head _)); unfold maxLen at h; omega) fun hl0 => ?_
  refine JC.know (φ := bad.length ≤ 9223372036854775807) (fun w hs => by obtain ⟨_, _, _, _, _, _, h⟩ := hs.rdForm (.tail _ (.tail _ (.head _))); unfold maxLen at h; omega) fun hl1 => ?_
  refine JC.know (φ := os.length ≤ 9223372036854775807) (fun w hs => by obtain ⟨_, _, _, _, _, _, h⟩ := hs.rdForm (.tail _ (.tail _ (.tail _ (.head _)))); unfold maxLen at h; omega) fun hl2 => ?_
  refine .seq (.region ?_)
  refine .w (.assign rfl) ?_
  refine .nil (.tn (.seq (.region ?_)))
  refine .c f8_spec body_8 ?_
  refine .w (.assign rfl) ?_
  refine .nil (.tn (.seq (.seq (.region ?_))))
  refine .w (.move rfl) ?_
  refine .w (.len Tryd.underlying22 rfl) ?_
  refine .w (.bin rfl rfl BinR.gtr_i) ?_
  refine .w (.move rfl) ?_
  refine .join 11 35 (.bool (decide (7 < (S.length : Int) ∨ (bad.length : Int) ≠ S.length ∨ 150 < (os.length : Int)))) ?_ ?_
  · refine .gn (g := 23) rfl (fun hg8 hg8' => ?_) (fun hg8 hg8' => ?_)
    · refine .gf (g := 24) rfl rfl hg8 (by decide) ?_
      refine .gf (g := 24) rfl rfl hg8 (by decide) ?_
      refine .gf (g := 24) rfl rfl hg8 (by decide) ?_
      refine .gf (g := 24) rfl rfl hg8 (by decide) ?_
      refine .gf (g := 24) rfl rfl hg8 (by decide) ?_
      refine .w (.pick1 rfl hg8 rfl) ?_
      refine .w (.move rfl) ?_
      refine .gf (g := 31) rfl rfl rfl (by decide) ?_
      refine .gf (g := 31) rfl rfl rfl (by decide) ?_
      refine .gf (g := 31) rfl rfl rfl (by decide) ?_
      refine .w (.pick1 rfl rfl rfl) ?_
      refine .nil ?_
      refine .head () (by first | (refine ⟨by first | rfl | exact congrArg (fun b => some (Value.bool b)) (by first | exact (decide_eq_true (by omega)).symm | exact (decide_eq_false (by omega)).symm | exact decide_eq_decide.2 (by omega)) | (simp [*]; done) | (show some _ = some _; simp [*]; done), ?_⟩; repeat (first | exact trivial | refine ⟨rfl, ?_⟩))) (fun _ h => h) (Picks.perm (by repeat (first | exact Picks.nil _ | apply Picks.cons | exact Pull.here _ _ | apply Pull.there))) ?_
      trivial
    · refine .gt (g := 24) rfl rfl hg8 ?_
      refine .w (.move rfl) ?_
      refine .gt (g := 24) rfl rfl hg8 ?_
      refine .w (.len Tryd.underlying46 rfl) ?_
      refine .gt (g := 24) rfl rfl hg8 ?_
      refine .w (.move rfl) ?_
      refine .gt (g := 24) rfl rfl hg8 ?_
      refine .w (.len Tryd.underlying22 rfl) ?_
      refine .gt (g := 24) rfl rfl hg8 ?_
      refine .w (.bin rfl rfl BinR.neq_i) ?_
      refine .w (.pick0 rfl hg8 rfl) ?_
      refine .w (.move rfl) ?_
      refine .gn (g := 30) rfl (fun hg15 hg15' => ?_) (fun hg15 hg15' => ?_)
      · refine .gf (g := 31) rfl rfl hg15 (by decide) ?_
        refine .gf (g := 31) rfl rfl hg15 (by decide) ?_
        refine .gf (g := 31) rfl rfl hg15 (by decide) ?_
        refine .w (.pick1 rfl hg15 rfl) ?_
        refine .nil ?_
        refine .head () (by first | (refine ⟨by first | rfl | exact congrArg (fun b => some (Value.bool b)) (by first | exact (decide_eq_true (by omega)).symm | exact (decide_eq_false (by omega)).symm | exact decide_eq_decide.2 (by omega)) | (simp [*]; done) | (show some _ = some _; simp [*]; done), ?_⟩; repeat (first | exact trivial | refine ⟨rfl, ?_⟩))) (fun _ h => h) (Picks.perm (by repeat (first | exact Picks.nil _ | apply Picks.cons | exact Pull.here _ _ | apply Pull.there))) ?_
        trivial
      · refine .gt (g := 31) rfl rfl hg15 ?_
        refine .w (.move rfl) ?_
        refine .gt (g := 31) rfl rfl hg15 ?_
        refine .w (.len Tryd.underlying47 rfl) ?_
        refine .gt (g := 31) rfl rfl hg15 ?_
        refine .w (.bin rfl rfl BinR.gtr_i) ?_
        refine .w (.pick0 rfl hg15 rfl) ?_
        refine .nil ?_
        refine .head () (by first | (refine ⟨by first | rfl | exact congrArg (fun b => some (Value.bool b)) (by first | exact (decide_eq_true (by omega)).symm | exact (decide_eq_false (by omega)).symm | exact decide_eq_decide.2 (by omega)) | (simp [*]; done) | (show some _ = some _; simp [*]; done), ?_⟩; repeat (first | exact trivial | refine ⟨rfl, ?_⟩))) (fun _ h => h) (Picks.perm (by repeat (first | exact Picks.nil _ | apply Picks.cons | exact Pull.here _ _ | apply Pull.there))) ?_
        trivial
  · refine .nil (.tn ?_)
    refine .cn rfl (fun hc1 => ?_) (fun hc1 => ?_)
    · skip
      refine .seq (.region ?_)
      refine .w (.move rfl) ?_
      refine .w (.assign rfl) ?_
      refine .nil (.tn (.ret (.then_ret ?_)))
      exact .dn [] [] (res1 rfl (.tmp rfl)) ⟨rfl, rfl, rfl⟩
    · skip
      refine .skip (.tn (.seq (.seq (.region ?_))))
      refine .w (.assign rfl) ?_
      refine .nil (.tn (.block ?_))
      refine .lp (ι := Nat) (fun x => x ≤ S.length ∧ ∀ j : Nat, j < x → (S.getD j 0).toNat < 72057594037927936) (fun T x => (10, it (x : Int)) :: T) (fun T _ => T) (fun T _ => T) (fun x => S.length - x) 0 [0, 1, 2, 3, 9, 11, 12, 13, 14, 15, 16, 17, 18, 19, 49, 50, 51, 52, 53, 54, 55, 56, 57, 58, 59, 60, 61, 62, 63, 64, 65, 66, 67, 68, 69, 70, 71, 72, 73, 74, 75, 76, 77, 78, 79, 80, 81, 82, 83, 84, 85, 86, 87, 88, 89, 90, 91, 92, 93, 94, 95, 96, 97, 98, 99, 100, 102, 103, 104, 105, 106, 107, 108, 109, 110, 111, 112, 113, 114, 115, 116, 117, 118, 119, 120, 121, 122, 123, 124, 125, 126, 127, 128, 129, 130, 131, 132, 133, 134, 135, 136, 137, 138, 139, 140, 141] ?_ (fun x hx => ?_)
      · exact ⟨Nat.zero_le _, fun j hj => absurd hj (Nat.not_lt_zero _)⟩
      obtain ⟨hx, hj⟩ := hx
      refine .seq (.seq (.region ?_))
      refine .w (.move rfl) ?_
      refine .w (.move rfl) ?_
      refine .w (.len Tryd.underlying22 rfl) ?_
      refine .w (.bin rfl rfl BinR.lss_i) ?_
      refine .nil (.tn ?_)
      refine .cn rfl (fun hc2 => ?_) (fun hc2 => ?_)
      · skip
        refine .skip (.tn (.seq (.block (.seq (.region ?_)))))
        refine .w (.move rfl) ?_
        refine .w (.move rfl) ?_
        refine .w (.ix1 Tryd.underlying22 sz_48 rfl rfl) ?_
        refine .w (.as (v' := u64 (S.getD x 0)) (.ld one_48 rfl (hj := by first | exact RA.get_rd _ | exact RA.get_st _ | exact RA.get_me _ | exact RA.get_sh _ | exact RA.get_sv _ | exact RA.get_lkr _ | exact RA.get_vdr _ | exact RA.get_dcr _ | exact RA.get_bp _ | exact RA.get_bt _ | exact RA.get_bd _ | rfl | exact tab_get (by first | omega | (simp; omega)) | exact gm (d := 0) (by first | omega | (simp; omega)))) rfl) ?_
        refine .w (.bin rfl rfl (BinR.geq_u64 (b := 72057594037927936#64))) ?_
        refine .nil (.tn ?_)
        refine .cn rfl (fun hc3 => ?_) (fun hc3 => ?_)
        · try simp only [BitVec.reduceToNat] at hc3
          skip
          refine .seq (.region ?_)
          refine .w (.move rfl) ?_
          refine .w (.assign rfl) ?_
          refine .nil (.tn (.ret (.block_ret (.then_ret (.then_ret (.block_ret (.then_ret ?_)))))))
          exact .dn [] [] (res1 rfl (.tmp rfl)) ⟨rfl, rfl, rfl⟩
        · try simp only [BitVec.reduceToNat] at hc3
          skip
          refine .skip (.block_normal (.tn (.region ?_)))
          refine .w (.move rfl) ?_
          refine .w (.asI ((x + 1 : Nat) : Int) (.bin rfl rfl (BinR.add_i (by first | (constructor <;> omega) | (constructor <;> simp <;> omega))))) ?_
          refine .w (.assign rfl) ?_
          refine .nil ?_
          refine .hd (x + 1) ?_
          exact ⟨⟨by omega, fun j h => by
            rcases Nat.lt_succ_iff_lt_or_eq.1 h with h | h
            · exact hj j h
            · subst h; first | omega | (simp only [BitVec.reduceToNat] at hc3; omega)⟩, by omega⟩
      · have hx' : x = S.length := by omega
        have hs1 := sum_56 (S := S) (fun j h => hj j (by omega))
        refine .exit (.then_exit (.then_exit (.block_exit (.tn (.seq (.region ?_))))))
        refine .w (.move rfl) ?_
        refine .w (.move rfl) ?_
        refine .c (f15_spec u cb S bad (by omega) (by omega) (fun j h => hj j (by omega))) body_15 ?_
        refine .w (.assign rfl) ?_
        refine .nil (.tn (.seq (.region ?_)))
        refine .w (.move rfl) ?_
        refine .w (.move rfl) ?_
        refine .cb (f16_spec u S sh (by omega) (by omega) h0 hsh) body_16 ?_ (h0 := by rintro _ _ _ ⟨_, _, _, _, _, _, h, _⟩; exact h)
        rintro _ _ ⟨pw, xm, rfl, hokm, hlenm, habm, _, rfl⟩
        refine .ap ?_
        refine .w (.assign rfl) ?_
        refine .nil (.tn (.seq (.seq (.region ?_))))
        refine .w (.move rfl) ?_
        refine .w (.as (v' := .bool false) (.bin rfl rfl (BinR.eql_p Tryd.underlying50)) rfl) ?_
        refine .w (.move rfl) ?_
        refine .join 3 60 (.bool (decide (¬ 3 * badN S bad < sumS S))) ?_ ?_
        · refine .gt (g := 57) rfl rfl rfl ?_
          refine .w (.move rfl) ?_
          refine .gt (g := 57) rfl rfl rfl ?_
          refine .w (.not rfl) ?_
          refine .w (.pick0 rfl rfl rfl) ?_
          refine .nil ?_
          refine .head () (by first | (refine ⟨by first | rfl | exact congrArg some (congrArg Value.bool (by first | rfl | exact decide_not.symm | (simp; done))), ?_⟩; repeat (first | exact trivial | refine ⟨rfl, ?_⟩))) (fun _ h => h) (Picks.perm (by repeat (first | exact Picks.nil _ | apply Picks.cons | exact Pull.here _ _ | apply Pull.there))) ?_
          trivial
        · refine .nil (.tn ?_)
          refine .cn rfl (fun hc4 => ?_) (fun hc4 => ?_)
          · skip
            refine .seq (.region ?_)
            refine .w (.move rfl) ?_
            refine .w (.assign rfl) ?_
            refine .nil (.tn (.ret (.then_ret ?_)))
            exact .dn [] [] (res1 rfl (.tmp rfl)) ⟨rfl, rfl, rfl⟩
          · have hfew : 3 * badN S bad < sumS S := by omega
            refine .skip (.tn (.seq (.seq (.region ?_))))
            refine .w (.assign rfl) ?_
            refine .nil (.tn (.block ?_))
            refine .lp (ι := Nat × WA) (fun x => x.1 ≤ os.length ∧ x.2.Ok ∧ x.2.es.length = S.length ∧ ∃ hs, WI S bad x.2.abs hs) (fun T x => (13, it (x.1 : Int)) :: T) (fun T _ => T) (fun T x => Res.cells pw [x.2.stv, x.2.sdv] 59 :: Res.row x.2.stv x.2.es.length 27 1 (x.2.es.map fun e => ptr e.1 0) :: Res.row x.2.sdv x.2.said.length 33 36 (msC x.2.said) :: Res.sep (stsH x.2.es) :: T) (fun x => os.length - x.1) (0, xm) [0, 1, 3, 8, 9, 12, 14, 15, 16, 17, 18, 19, 102, 103, 104, 105, 106, 107, 108, 109, 110, 111, 112, 113, 114, 115, 116, 117, 118, 119, 120, 121, 122, 123, 124, 125, 126, 127, 128, 129, 130, 131, 132, 133, 134, 135, 136, 137, 138, 139, 140, 141] ?_ (fun x hx => ?_)
            · exact ⟨Nat.zero_le _, hokm, hlenm, _, by dsimp only; rw [habm]; exact made_WI S bad sh⟩
            obtain ⟨k, x1⟩ := x
            obtain ⟨hk, hok1, hlen1, hs, hWI⟩ := hx
            dsimp only at hk hok1 hlen1 hWI ⊢
            refine .seq (.seq (.region ?_))
            refine .w (.move rfl) ?_
            refine .w (.move rfl) ?_
            refine .w (.len Tryd.underlying47 rfl) ?_
            refine .w (.bin rfl rfl BinR.lss_i) ?_
            refine .nil (.tn ?_)
            refine .cn rfl (fun hc5 => ?_) (fun hc5 => ?_)
            · skip
              refine .skip (.tn (.seq (.block (.seq (.region ?_)))))
              refine .w (.move rfl) ?_
              refine .w (.move rfl) ?_
              refine .w (.ix Tryd.underlying47 sz_53 rfl rfl) ?_
              refine .w (.fieldAddr fa_53_1 rfl) ?_
              refine .w (.ld one_3 rfl (hj := by exact pi_who (by omega))) ?_
              refine .w (.bin rfl rfl BinR.geq_i) ?_
              refine .w (.move rfl) ?_
              refine .join 20 94 (.bool (decide (0 ≤ (piAt os k).who ∧ (piAt os k).who < bad.length ∧ bad.getD (piAt os k).who.toNat false = false))) ?_ ?_
              · refine .gn (g := 73) rfl (fun hg64 hg64' => ?_) (fun hg64 hg64' => ?_)
                · refine .gt (g := 74) rfl rfl hg64 ?_
                  refine .w (.move rfl) ?_
                  refine .gt (g := 74) rfl rfl hg64 ?_
                  refine .w (.move rfl) ?_
                  refine .gt (g := 74) rfl rfl hg64 ?_
                  refine .w (.ix Tryd.underlying47 sz_53 rfl rfl) ?_
                  refine .gt (g := 74) rfl rfl hg64 ?_
                  refine .w (.fieldAddr fa_53_1 rfl) ?_
                  refine .gt (g := 74) rfl rfl hg64 ?_
                  refine .w (.ld one_3 rfl (hj := by exact pi_who (by omega))) ?_
                  refine .gt (g := 74) rfl rfl hg64 ?_
                  refine .w (.move rfl) ?_
                  refine .gt (g := 74) rfl rfl hg64 ?_
                  refine .w (.len Tryd.underlying46 rfl) ?_
                  refine .gt (g := 74) rfl rfl hg64 ?_
                  refine .w (.bin rfl rfl BinR.lss_i) ?_
                  refine .w (.pick1 rfl hg64 rfl) ?_
                  refine .w (.move rfl) ?_
                  refine .gn (g := 83) rfl (fun hg74 hg74' => ?_) (fun hg74 hg74' => ?_)
                  · obtain ⟨fr, hfr⟩ : ∃ fr : Nat, (piAt os k).who = fr := ⟨(piAt os k).who.toNat, by omega⟩
                    refine .gt (g := 84) rfl rfl hg74 ?_
                    refine .w (.move rfl) ?_
                    refine .gt (g := 84) rfl rfl hg74 ?_
                    refine .w (.move rfl) ?_
                    refine .gt (g := 84) rfl rfl hg74 ?_
                    refine .w (.move rfl) ?_
                    refine .gt (g := 84) rfl rfl hg74 ?_
                    refine .w (.ix Tryd.underlying47 sz_53 rfl rfl) ?_
                    refine .gt (g := 84) rfl rfl hg74 ?_
                    refine .w (.fieldAddr fa_53_1 rfl) ?_
                    refine .gt (g := 84) rfl rfl hg74 ?_
                    refine .w (.as (v' := it (fr : Int)) (.ld one_3 rfl (hj := by exact pi_who (by omega))) (congrArg it hfr)) ?_
                    refine .gt (g := 84) rfl rfl hg74 ?_
                    refine .w (.ix1 Tryd.underlying46 sz_4 rfl rfl) ?_
                    refine .gt (g := 84) rfl rfl hg74 ?_
                    refine .w (.as (v' := .bool (bad.getD fr false)) (.ld one_4 rfl (hj := by exact gm (d := false) (by omega))) rfl) ?_
                    refine .gt (g := 84) rfl rfl hg74 ?_
                    refine .w (.not rfl) ?_
                    refine .w (.pick1 rfl hg74 rfl) ?_
                    refine .nil ?_
                    refine .head () (by first | (refine ⟨by first | rfl | exact congrArg some (congrArg Value.bool (by first | exact from_join2 hfr hg74' | exact (decide_eq_false (fun h => absurd h.1 (by omega))).symm | exact (decide_eq_false (fun h => absurd h.2.1 (by omega))).symm)), ?_⟩; repeat (first | exact trivial | refine ⟨rfl, ?_⟩))) (fun _ h => h) (Picks.perm (by repeat (first | exact Picks.nil _ | apply Picks.cons | exact Pull.here _ _ | apply Pull.there))) ?_
                    trivial
                  · refine .gf (g := 84) rfl rfl hg74 (by decide) ?_
                    refine .gf (g := 84) rfl rfl hg74 (by decide) ?_
                    refine .gf (g := 84) rfl rfl hg74 (by decide) ?_
                    refine .gf (g := 84) rfl rfl hg74 (by decide) ?_
                    refine .gf (g := 84) rfl rfl hg74 (by decide) ?_
                    refine .gf (g := 84) rfl rfl hg74 (by decide) ?_
                    refine .gf (g := 84) rfl rfl hg74 (by decide) ?_
                    refine .gf (g := 84) rfl rfl hg74 (by decide) ?_
                    refine .gf (g := 84) rfl rfl hg74 (by decide) ?_
                    refine .w (.pick0 rfl hg74 rfl) ?_
                    refine .nil ?_
                    refine .head () (by first | (refine ⟨by first | rfl | exact congrArg some (congrArg Value.bool (by first | exact from_join2 hfr hg74' | exact (decide_eq_false (fun h => absurd h.1 (by omega))).symm | exact (decide_eq_false (fun h => absurd h.2.1 (by omega))).symm)), ?_⟩; repeat (first | exact trivial | refine ⟨rfl, ?_⟩))) (fun _ h => h) (Picks.perm (by repeat (first | exact Picks.nil _ | apply Picks.cons | exact Pull.here _ _ | apply Pull.there))) ?_
                    trivial
                · refine .gf (g := 74) rfl rfl hg64 (by decide) ?_
                  refine .gf (g := 74) rfl rfl hg64 (by decide) ?_
                  refine .gf (g := 74) rfl rfl hg64 (by decide) ?_
                  refine .gf (g := 74) rfl rfl hg64 (by decide) ?_
                  refine .gf (g := 74) rfl rfl hg64 (by decide) ?_
                  refine .gf (g := 74) rfl rfl hg64 (by decide) ?_
                  refine .gf (g := 74) rfl rfl hg64 (by decide) ?_
                  refine .gf (g := 74) rfl rfl hg64 (by decide) ?_
                  refine .w (.pick0 rfl hg64 rfl) ?_
                  refine .w (.move rfl) ?_
                  refine .gf (g := 84) rfl rfl rfl (by decide) ?_
                  refine .gf (g := 84) rfl rfl rfl (by decide) ?_
                  refine .gf (g := 84) rfl rfl rfl (by decide) ?_
                  refine .gf (g := 84) rfl rfl rfl (by decide) ?_
                  refine .gf (g := 84) rfl rfl rfl (by decide) ?_
                  refine .gf (g := 84) rfl rfl rfl (by decide) ?_
                  refine .gf (g := 84) rfl rfl rfl (by decide) ?_
                  refine .gf (g := 84) rfl rfl rfl (by decide) ?_
                  refine .gf (g := 84) rfl rfl rfl (by decide) ?_
                  refine .w (.pick0 rfl rfl rfl) ?_
                  refine .nil ?_
                  refine .head () (by first | (refine ⟨by first | rfl | exact congrArg some (congrArg Value.bool (by first | exact from_join2 hfr hg74' | exact (decide_eq_false (fun h => absurd h.1 (by omega))).symm | exact (decide_eq_false (fun h => absurd h.2.1 (by omega))).symm)), ?_⟩; repeat (first | exact trivial | refine ⟨rfl, ?_⟩))) (fun _ h => h) (Picks.perm (by repeat (first | exact Picks.nil _ | apply Picks.cons | exact Pull.here _ _ | apply Pull.there))) ?_
                  trivial
              · refine .nil (.tn ?_)
                refine .cn rfl (fun hc6 => ?_) (fun hc6 => ?_)
                · skip
                  refine .region ?_
                  refine .w (.move rfl) ?_
                  refine .w (.move rfl) ?_
                  refine .w (.move rfl) ?_
                  refine .w (.ix Tryd.underlying47 sz_53 rfl rfl) ?_
                  refine .w (.as (v' := .agg (piAt os k).cells.toArray) (.lda agg_53 rfl) (congrArg (fun l : List Value => Value.agg l.toArray) (pi_all (by omega)))) ?_
                  refine .w (.move rfl) ?_
                  refine .cb (f17_spec pw x1 hok1 (piAt os k) cb bad (by omega)) body_17 ?_ (h0 := by rintro _ _ _ ⟨_, _, _, _, h, _⟩; exact h)
                  rintro _ _ ⟨x9, hok9, hlen9, hab9, _, rfl⟩
                  refine .ap ?_
                  refine .nil (.block_normal (.tn (.region ?_)))
                  refine .w (.move rfl) ?_
                  refine .w (.asI ((k + 1 : Nat) : Int) (.bin rfl rfl (BinR.add_i (by first | (constructor <;> omega) | (constructor <;> simp <;> omega))))) ?_
                  refine .w (.assign rfl) ?_
                  refine .nil ?_
                  first | refine .hd (k + 1, x9) ?_ | refine .hd (k + 1, x1) ?_
                  first | exact ⟨⟨by dsimp only; omega, hok9, by dsimp only; omega, by dsimp only; rw [hab9]; exact hWI.pick (piAt os k) (fun _ => hc6.2.2)⟩, by dsimp only; omega⟩ | exact ⟨⟨by dsimp only; omega, hok1, hlen1, hs, hWI⟩, by dsimp only; omega⟩
                · skip
                  refine .skip (.block_normal (.tn (.region ?_)))
                  refine .w (.move rfl) ?_
                  refine .w (.asI ((k + 1 : Nat) : Int) (.bin rfl rfl (BinR.add_i (by first | (constructor <;> omega) | (constructor <;> simp <;> omega))))) ?_
                  refine .w (.assign rfl) ?_
                  refine .nil ?_
                  first | refine .hd (k + 1, x9) ?_ | refine .hd (k + 1, x1) ?_
                  first | exact ⟨⟨by dsimp only; omega, hok9, by dsimp only; omega, by dsimp only; rw [hab9]; exact hWI.pick (piAt os k) (fun _ => hc6.2.2)⟩, by dsimp only; omega⟩ | exact ⟨⟨by dsimp only; omega, hok1, hlen1, hs, hWI⟩, by dsimp only; omega⟩
            · skip
              refine .exit (.then_exit (.then_exit (.block_exit (.tn (.seq (.region ?_))))))
              refine .w (.as (v' := dgV D0) (.build bld_24 rfl rfl) rfl) ?_
              refine .al zero_24 fun b14 => ?_
              refine .sa sz_24 ?_ (h1 := (dg_one _))
              refine .nil (.tn (.seq (.region ?_)))
              refine .w (.assign rfl) ?_
              refine .nil (.tn (.seq (.seq (.region ?_))))
              refine .w (.assign rfl) ?_
              refine .nil (.tn (.block ?_))
              refine .lp (ι := Nat × Bool × D32) (fun x => x.1 ≤ S.length ∧ (x.2.1 = true → ∃ j : Nat, j < S.length ∧ bad.getD j false = false ∧ 0 ≤ (x1.at_ j).2.dc.r ∧ (x1.at_ j).2.dc.v = x.2.2)) (fun T x => (16, it (x.1 : Int)) :: (15, .bool x.2.1) :: T) (fun T _ => T) (fun T x => Res.cells b14 (dgC x.2.2) 24 :: T) (fun x => S.length - x.1) (0, false, D0) [0, 1, 9, 12, 14, 141] ?_ (fun x hx => ?_)
              · exact ⟨Nat.zero_le _, fun h => nomatch h⟩
              obtain ⟨i, any, fst⟩ := x
              obtain ⟨hi, hany⟩ := hx
              dsimp only at hi hany ⊢
              refine .seq (.seq (.region ?_))
              refine .w (.move rfl) ?_
              refine .w (.move rfl) ?_
              refine .w (.len Tryd.underlying22 rfl) ?_
              refine .w (.bin rfl rfl BinR.lss_i) ?_
              refine .nil (.tn ?_)
              refine .cn rfl (fun hc7 => ?_) (fun hc7 => ?_)
              · have hil : i < x1.es.length := by omega
                obtain ⟨B, hB, _⟩ := x1.split hil
                refine .us hB ?_
                refine .skip (.tn (.seq (.block (.seq (.region ?_)))))
                refine .w (.move rfl) ?_
                refine .w (.nilCheck rfl) ?_
                refine .w (.fieldAddr fa_59_0 rfl) ?_
                refine .w (.ld one_56 rfl (hj := by first | exact RA.get_rd _ | exact RA.get_st _ | exact RA.get_me _ | exact RA.get_sh _ | exact RA.get_sv _ | exact RA.get_lkr _ | exact RA.get_vdr _ | exact RA.get_dcr _ | exact RA.get_bp _ | exact RA.get_bt _ | exact RA.get_bd _ | rfl | exact tab_get (by first | omega | (simp; omega)) | exact gm (d := 0) (by first | omega | (simp; omega)))) ?_
                refine .w (.move rfl) ?_
                refine .w (.ix1 Tryd.underlying56 sz_27 rfl rfl) ?_
                refine .w (.ld one_27 rfl (hj := by exact WA.at_ptr (by omega))) ?_
                refine .c (f18_spec (x1.at_ i).1 (x1.at_ i).2) body_18 ?_
                refine .rs hB ?_
                refine .w (.move rfl) ?_
                refine .w (.extract rfl rfl) ?_
                refine .w (.extract rfl rfl) ?_
                refine .al zero_24 fun b17 => ?_
                refine .sa sz_24 ?_ (h1 := (dg_one _))
                refine .w (.assign rfl) ?_
                refine .nil (.tn (.seq (.seq (.region ?_))))
                refine .w (.move rfl) ?_
                refine .w (.not rfl) ?_
                refine .w (.move rfl) ?_
                refine .join 5 127 (.bool (decide ((x1.at_ i).2.dc.r < 0 ∨ bad.getD i false = true))) ?_ ?_
                · refine .gn (g := 121) rfl (fun hg120 hg120' => ?_) (fun hg120 hg120' => ?_)
                  · refine .gf (g := 122) rfl rfl hg120 (by decide) ?_
                    refine .gf (g := 122) rfl rfl hg120 (by decide) ?_
                    refine .gf (g := 122) rfl rfl hg120 (by decide) ?_
                    refine .gf (g := 122) rfl rfl hg120 (by decide) ?_
                    refine .w (.pick1 rfl hg120 rfl) ?_
                    refine .nil ?_
                    refine .head () (by first | (refine ⟨by first | rfl | exact congrArg some (congrArg Value.bool (by first | exact (decide_eq_true (.inl (by omega))).symm | (cases hb : bad.getD i false <;> first | exact (decide_eq_true (.inr rfl)).symm | exact (decide_eq_false (fun h => h.elim (by omega) (fun h => by cases h))).symm))), ?_⟩; repeat (first | exact trivial | refine ⟨rfl, ?_⟩))) (fun _ h => h) (Picks.perm (by repeat (first | exact Picks.nil _ | apply Picks.cons | exact Pull.here _ _ | apply Pull.there))) ?_
                    trivial
                  · refine .gt (g := 122) rfl rfl hg120 ?_
                    refine .w (.move rfl) ?_
                    refine .gt (g := 122) rfl rfl hg120 ?_
                    refine .w (.move rfl) ?_
                    refine .gt (g := 122) rfl rfl hg120 ?_
                    refine .w (.ix1 Tryd.underlying46 sz_4 rfl rfl) ?_
                    refine .gt (g := 122) rfl rfl hg120 ?_
                    refine .w (.as (v' := .bool (bad.getD i false)) (.ld one_4 rfl (hj := by exact gm (d := false) (by omega))) rfl) ?_
                    refine .w (.pick0 rfl hg120 rfl) ?_
                    refine .nil ?_
                    refine .head () (by first | (refine ⟨by first | rfl | exact congrArg some (congrArg Value.bool (by first | exact (decide_eq_true (.inl (by omega))).symm | (cases hb : bad.getD i false <;> first | exact (decide_eq_true (.inr rfl)).symm | exact (decide_eq_false (fun h => h.elim (by omega) (fun h => by cases h))).symm))), ?_⟩; repeat (first | exact trivial | refine ⟨rfl, ?_⟩))) (fun _ h => h) (Picks.perm (by repeat (first | exact Picks.nil _ | apply Picks.cons | exact Pull.here _ _ | apply Pull.there))) ?_
                    trivial
                · refine .nil (.tn ?_)
                  refine .cn rfl (fun hc8 => ?_) (fun hc8 => ?_)
                  · skip
                    refine .exit (.then_exit (.block_exit (.tn (.region ?_))))
                    refine .w (.move rfl) ?_
                    refine .w (.asI ((i + 1 : Nat) : Int) (.bin rfl rfl (BinR.add_i (by first | (constructor <;> omega) | (constructor <;> simp <;> omega))))) ?_
                    refine .w (.assign rfl) ?_
                    refine .nil ?_
                    first | refine .hd (i + 1, true, (x1.at_ i).2.dc.v) ?_ | refine .hd (i + 1, any, fst) ?_
                    first | exact ⟨⟨by dsimp only; omega, fun _ => ⟨i, by omega, hbi, hdi, rfl⟩⟩, by dsimp only; omega⟩ | exact ⟨⟨by dsimp only; omega, hany⟩, by dsimp only; omega⟩
                  · have hbi : bad.getD i false = false := by
                      cases h : bad.getD i false with
                      | false => rfl
                      | true => exact absurd (.inr h) hc8
                    have hdi : 0 ≤ (x1.at_ i).2.dc.r := by
                      have : ¬ (x1.at_ i).2.dc.r < 0 := fun h => hc8 (.inl h)
                      omega
                    have hat := WA.at_abs (x := x1) hil
                    refine .skip (.tn (.seq (.region ?_)))
                    refine .w (.as (v' := dgV (x1.at_ i).2.dc.v) (.lda agg_24 rfl) rfl) ?_
                    refine .c (f19_spec (x1.at_ i).2.dc.v) body_19 ?_
                    refine .w (.assign rfl) ?_
                    refine .nil (.tn (.seq (.seq (.region ?_))))
                    refine .w (.move rfl) ?_
                    refine .w (.move rfl) ?_
                    refine .join 8 139 (.bool (decide ((any = true ∧ (x1.at_ i).2.dc.v ≠ fst) ∨ goodV (x1.at_ i).2.dc.v = false))) ?_ ?_
                    · refine .gn (g := 15) rfl (fun hg130 hg130' => ?_) (fun hg130 hg130' => ?_)
                      · refine .gt (g := 131) rfl rfl hg130 ?_
                        refine .w (.as (v' := dgV (x1.at_ i).2.dc.v) (.lda agg_24 rfl) rfl) ?_
                        refine .gt (g := 131) rfl rfl hg130 ?_
                        refine .w (.as (v' := dgV fst) (.lda agg_24 rfl) rfl) ?_
                        refine .gt (g := 131) rfl rfl hg130 ?_
                        refine .w (.bin rfl rfl (neq_dig)) ?_
                        refine .w (.pick1 rfl hg130 rfl) ?_
                        refine .w (.move rfl) ?_
                        refine .gn (g := 135) rfl (fun hg135 hg135' => ?_) (fun hg135 hg135' => ?_)
                        · refine .gf (g := 136) rfl rfl hg135 (by decide) ?_
                          refine .gf (g := 136) rfl rfl hg135 (by decide) ?_
                          refine .w (.pick1 rfl hg135 rfl) ?_
                          refine .nil ?_
                          refine .head () (by first | (refine ⟨by first | rfl | exact congrArg some (congrArg Value.bool (by first | (simp [hg130', hg135']; done) | (simp [hg130']; done))), ?_⟩; repeat (first | exact trivial | refine ⟨rfl, ?_⟩))) (fun _ h => h) (Picks.perm (by repeat (first | exact Picks.nil _ | apply Picks.cons | exact Pull.here _ _ | apply Pull.there))) ?_
                          trivial
                        · refine .gt (g := 136) rfl rfl hg135 ?_
                          refine .w (.move rfl) ?_
                          refine .gt (g := 136) rfl rfl hg135 ?_
                          refine .w (.not rfl) ?_
                          refine .w (.pick0 rfl hg135 rfl) ?_
                          refine .nil ?_
                          refine .head () (by first | (refine ⟨by first | rfl | exact congrArg some (congrArg Value.bool (by first | (simp [hg130', hg135']; done) | (simp [hg130']; done))), ?_⟩; repeat (first | exact trivial | refine ⟨rfl, ?_⟩))) (fun _ h => h) (Picks.perm (by repeat (first | exact Picks.nil _ | apply Picks.cons | exact Pull.here _ _ | apply Pull.there))) ?_
                          trivial
                      · refine .gf (g := 131) rfl rfl hg130 (by decide) ?_
                        refine .gf (g := 131) rfl rfl hg130 (by decide) ?_
                        refine .gf (g := 131) rfl rfl hg130 (by decide) ?_
                        refine .w (.pick0 rfl hg130 rfl) ?_
                        refine .w (.move rfl) ?_
                        refine .gt (g := 136) rfl rfl rfl ?_
                        refine .w (.move rfl) ?_
                        refine .gt (g := 136) rfl rfl rfl ?_
                        refine .w (.not rfl) ?_
                        refine .w (.pick0 rfl rfl rfl) ?_
                        refine .nil ?_
                        refine .head () (by first | (refine ⟨by first | rfl | exact congrArg some (congrArg Value.bool (by first | (simp [hg130', hg135']; done) | (simp [hg130']; done))), ?_⟩; repeat (first | exact trivial | refine ⟨rfl, ?_⟩))) (fun _ h => h) (Picks.perm (by repeat (first | exact Picks.nil _ | apply Picks.cons | exact Pull.here _ _ | apply Pull.there))) ?_
                        trivial
                    · refine .nil (.tn ?_)
                      refine .cn rfl (fun hc9 => ?_) (fun hc9 => ?_)
                      · exact absurd hc9 (by
                          rintro (⟨ha, hv⟩ | hg)
                          · obtain ⟨j, j1, j2, j3, j4⟩ := hany ha
                            have haj := WA.at_abs (x := x1) (i := j) (by omega)
                            have hh := (hWI.agree hfew (i := i) (j := j) (by omega) hbi j1 j2 (by rw [hat]; exact hdi) (by rw [haj]; exact j3)).1
                            rw [hat, haj] at hh
                            exact hv (Eq.trans hh j4)
                          · have hh := (hWI.agree hfew (i := i) (j := i) (by omega) hbi (by omega) hbi (by rw [hat]; exact hdi) (by rw [hat]; exact hdi)).2
                            rw [hat] at hh
                            rw [show goodV (x1.at_ i).2.dc.v = true from hh] at hg
                            cases hg)
                      · skip
                        refine .skip (.tn (.seq (.region ?_)))
                        refine .w (.as (v' := dgV (x1.at_ i).2.dc.v) (.lda agg_24 rfl) rfl) ?_
                        refine .sa sz_24 ?_ (h1 := (dg_one _))
                        refine .nil (.tn (.region ?_))
                        refine .w (.assign rfl) ?_
                        refine .nil (.block_normal (.tn (.region ?_)))
                        refine .w (.move rfl) ?_
                        refine .w (.asI ((i + 1 : Nat) : Int) (.bin rfl rfl (BinR.add_i (by first | (constructor <;> omega) | (constructor <;> simp <;> omega))))) ?_
                        refine .w (.assign rfl) ?_
                        refine .nil ?_
                        first | refine .hd (i + 1, true, (x1.at_ i).2.dc.v) ?_ | refine .hd (i + 1, any, fst) ?_
                        first | exact ⟨⟨by dsimp only; omega, fun _ => ⟨i, by omega, hbi, hdi, rfl⟩⟩, by dsimp only; omega⟩ | exact ⟨⟨by dsimp only; omega, hany⟩, by dsimp only; omega⟩
              · skip
                refine .exit (.then_exit (.then_exit (.block_exit (.tn (.seq (.region ?_))))))
                refine .w (.move rfl) ?_
                refine .w (.assign rfl) ?_
                refine .nil (.tn (.ret ?_))
                exact .dn [] [] (res1 rfl (.tmp rfl)) ⟨rfl, rfl, rfl⟩

theorem f5_spec (u cb vo : Value) (S : List W64) (bad : List Bool) (sh : Int) (os : List PickE) (hsh : sh ≤ 9223372036854775807) : Spec Tryd.prog 5 #[u, cb, (it sh), vo] [Res.var 0 [u64 9223372036854775808, u64 0, u64 0, u64 0], Res.rd u S.length 1 (S.map u64), Res.rd cb bad.length 1 (bad.map Value.bool), Res.rd vo os.length 40 (piC os)] [] (fun r Γ' H' => r = (.bool true) ∧ Γ' = [] ∧ H' = []) := by
  by_cases h : 1 ≤ S.length ∧ sh < 0
  · exact f5b_spec u cb vo S bad sh os h.1 h.2
  · exact f5a_spec u cb vo S bad sh os (fun h1 => by omega) hsh
end Go.Proofs.YtncececcopalgaaDoor
