/- Walks: the document's comparisons; lists of numbers. -/
import Derived.Test.YtmbpngnamnoiaaaDoorF2
namespace Go.Proofs.YtmbpngnamnoiaaaDoor
open Go.RowKit
set_option maxRecDepth 100000
set_option linter.unusedVariables false
set_option linter.unusedSimpArgs false
theorem f40_spec (x y : W64) :
    Spec Tryd.prog 40 #[u64 x, u64 y] [] []
      (fun r Γ' H' => r = (.agg (dgs (x.toNat * y.toNat)).toArray) ∧ Γ' = [] ∧ H' = []) := by
  refine Spec.of_args Tryd.func40 rfl Tryd.ntmps40 (by simp) fun w => ?_
  refine .seq (.region ?_)
  refine .al zero_78 fun b4 => ?_
  refine .nil (.tn (.seq (.region ?_)))
  refine .w (.move rfl) ?_
  refine .w (.as (v' := .agg ((wd x.toNat).map u64).toArray) (.build bld_60 rfl rfl) (by rw [wd_small]; rfl)) ?_
  refine .c (f49_spec x.toNat (w_lt x)) body_49 ?_
  refine .w (.move rfl) ?_
  refine .w (.as (v' := .agg ((wd y.toNat).map u64).toArray) (.build bld_60 rfl rfl) (by rw [wd_small]; rfl)) ?_
  refine .c (f49_spec y.toNat (w_lt y)) body_49 ?_
  refine .c (f48_spec x.toNat y.toNat (small_big (w_lt x))) body_48 ?_
  first | refine .sa sz_78 ?_ | refine .so sz_78 ?_ | refine .sr sz_78 ?_
  refine .nil (.tn (.ret ?_))
  exact .dn [] [] (res1 rfl (.cl agg_78)) ⟨rfl, rfl, rfl⟩

theorem f21_spec (px al : W64) :
    Spec Tryd.prog 21 #[u64 px, u64 al] [] []
      (fun r Γ' H' => r = (.bool (decide (2 * al.toNat < 3 * px.toNat))) ∧ Γ' = [] ∧ H' = []) := by
  refine Spec.of_args Tryd.func21 rfl Tryd.ntmps21 (by simp) fun w => ?_
  refine .seq (.region ?_)
  refine .w (.assign rfl) ?_
  refine .nil (.tn (.seq (.region ?_)))
  refine .w (.move rfl) ?_
  refine .c (f40_spec al 2) body_40 ?_
  refine .w (.move rfl) ?_
  refine .c (f40_spec px 3) body_40 ?_
  refine .c (f39_spec (al.toNat * (2 : W64).toNat) (px.toNat * (3 : W64).toNat) (lt_big (by have := al.isLt; simp; omega)) (lt_big (by have := px.isLt; simp; omega))) body_39 ?_
  refine .w (.move rfl) ?_
  refine .w (.extract rfl rfl) ?_
  refine .w (.as (v' := .bool (decide (2 * al.toNat < 3 * px.toNat))) (.extract rfl rfl) (congrArg Value.bool (decide_eq_decide.2 (by simp; omega)))) ?_
  refine .al zero_78 fun b5 => ?_
  first | refine .sa sz_78 ?_ | refine .so sz_78 ?_ | refine .sr sz_78 ?_
  refine .w (.assign rfl) ?_
  refine .nil (.tn (.seq (.region ?_)))
  refine .w (.move rfl) ?_
  refine .w (.assign rfl) ?_
  refine .nil (.tn (.ret ?_))
  exact .dn [] [] (res1 rfl (.tmp rfl)) ⟨rfl, rfl, rfl⟩

theorem f22_spec (px al : W64) :
    Spec Tryd.prog 22 #[u64 px, u64 al] [] []
      (fun r Γ' H' => r = (.bool (decide (al.toNat < 3 * px.toNat))) ∧ Γ' = [] ∧ H' = []) := by
  refine Spec.of_args Tryd.func22 rfl Tryd.ntmps22 (by simp) fun w => ?_
  refine .seq (.region ?_)
  refine .w (.assign rfl) ?_
  refine .nil (.tn (.seq (.region ?_)))
  refine .w (.move rfl) ?_
  refine .c (f40_spec al 1) body_40 ?_
  refine .w (.move rfl) ?_
  refine .c (f40_spec px 3) body_40 ?_
  refine .c (f39_spec (al.toNat * (1 : W64).toNat) (px.toNat * (3 : W64).toNat) (lt_big (by have := al.isLt; simp; omega)) (lt_big (by have := px.isLt; simp; omega))) body_39 ?_
  refine .w (.move rfl) ?_
  refine .w (.extract rfl rfl) ?_
  refine .w (.as (v' := .bool (decide (al.toNat < 3 * px.toNat))) (.extract rfl rfl) (congrArg Value.bool (decide_eq_decide.2 (by simp; omega)))) ?_
  refine .al zero_78 fun b5 => ?_
  first | refine .sa sz_78 ?_ | refine .so sz_78 ?_ | refine .sr sz_78 ?_
  refine .w (.assign rfl) ?_
  refine .nil (.tn (.seq (.region ?_)))
  refine .w (.move rfl) ?_
  refine .w (.assign rfl) ?_
  refine .nil (.tn (.ret ?_))
  exact .dn [] [] (res1 rfl (.tmp rfl)) ⟨rfl, rfl, rfl⟩

theorem f41_spec (u : Value) (l : List W64) :
    Spec Tryd.prog 41 #[u] [Res.rd u l.length 1 (l.map u64)] []
      (fun r Γ' H' => r = (it (newR l)) ∧ Γ' = [] ∧ H' = []) := by
  refine Spec.of_args Tryd.func41 rfl Tryd.ntmps41 (by simp) fun w => ?_
  refine .seq (.region ?_)
  refine .w (.assign rfl) ?_
  refine .nil (.tn (.seq (.seq (.region ?_))))
  refine .w (.move rfl) ?_
  refine .w (.len Tryd.underlying22 rfl) ?_
  refine .w (.bin rfl rfl BinR.gtr_i) ?_
  refine .nil (.tn ?_)
  refine .cn rfl (fun hc1 => ?_) (fun hc1 => ?_)
  · skip
    refine .seq (.region ?_)
    refine .w (.as (v' := it (newR l)) (.assign rfl) (by rw [newR_eq, if_pos (by omega)])) ?_
    refine .nil (.tn (.ret (.then_ret ?_)))
    exact .dn [] [] (res1 rfl (.tmp rfl)) ⟨rfl, rfl, rfl⟩
  · skip
    refine .skip (.tn (.seq (.region ?_)))
    refine .w (.move rfl) ?_
    refine .c (f50_spec u l) body_50 ?_
    refine .al zero_60 fun b3 => ?_
    first | refine .sa sz_60 ?_ | refine .so sz_60 ?_ | refine .sr sz_60 ?_
    refine .nil (.tn (.seq (.seq (.region ?_))))
    refine .w (.ixA (j := 1) Tryd.underlying60 sz_34 rfl rfl) ?_
    refine .w (.ld one_34 rfl (hj := by first | exact wd_get _ (by decide) | rfl | exact tab_get (by first | omega | (simp; omega)) | exact gm (d := 0) (by first | omega | (simp; omega)))) ?_
    refine .w (.bin rfl rfl (BinR.gtr_u64 (b := 0#64))) ?_
    refine .w (.move rfl) ?_
    refine .join 14 26 (.bool (decide (9223372036854775808 ≤ totN l))) ?_ ?_
    · refine .gn (g := 11) rfl (fun hg14 hg14' => ?_) (fun hg14 hg14' => ?_)
      · try simp only [BitVec.reduceToNat] at hg14'
        have hge : 9223372036854775808 ≤ totN l := by have := big1 hg14'; omega
        refine .gf (g := 12) rfl rfl hg14 (by decide) ?_
        refine .gf (g := 12) rfl rfl hg14 (by decide) ?_
        refine .gf (g := 12) rfl rfl hg14 (by decide) ?_
        refine .w (.pick1 rfl hg14 rfl) ?_
        refine .w (.move rfl) ?_
        refine .gf (g := 17) rfl rfl rfl (by decide) ?_
        refine .gf (g := 17) rfl rfl rfl (by decide) ?_
        refine .gf (g := 17) rfl rfl rfl (by decide) ?_
        refine .w (.pick1 rfl rfl rfl) ?_
        refine .w (.move rfl) ?_
        refine .gf (g := 22) rfl rfl rfl (by decide) ?_
        refine .gf (g := 22) rfl rfl rfl (by decide) ?_
        refine .gf (g := 22) rfl rfl rfl (by decide) ?_
        refine .w (.pick1 rfl rfl rfl) ?_
        refine .nil ?_
        refine .head () (by first | (refine ⟨by first | rfl | (show some _ = some _; exact congrArg (fun b => some (Value.bool b)) (decide_eq_true hge).symm), ?_⟩; repeat (first | exact trivial | refine ⟨rfl, ?_⟩))) (fun _ h => h) (Picks.perm (by repeat (first | exact Picks.nil _ | apply Picks.cons | exact Pull.here _ _ | apply Pull.there))) ?_
        trivial
      · try simp only [BitVec.reduceToNat] at hg14'
        refine .gt (g := 12) rfl rfl hg14 ?_
        refine .w (.ixA (j := 2) Tryd.underlying60 sz_34 rfl rfl) ?_
        refine .gt (g := 12) rfl rfl hg14 ?_
        refine .w (.ld one_34 rfl (hj := by first | exact wd_get _ (by decide) | rfl | exact tab_get (by first | omega | (simp; omega)) | exact gm (d := 0) (by first | omega | (simp; omega)))) ?_
        refine .gt (g := 12) rfl rfl hg14 ?_
        refine .w (.bin rfl rfl (BinR.gtr_u64 (b := 0#64))) ?_
        refine .w (.pick0 rfl hg14 rfl) ?_
        refine .w (.move rfl) ?_
        refine .gn (g := 16) rfl (fun hg19 hg19' => ?_) (fun hg19 hg19' => ?_)
        · have hge : 9223372036854775808 ≤ totN l := by have := big2 hg19'; omega
          refine .gf (g := 17) rfl rfl hg19 (by decide) ?_
          refine .gf (g := 17) rfl rfl hg19 (by decide) ?_
          refine .gf (g := 17) rfl rfl hg19 (by decide) ?_
          refine .w (.pick1 rfl hg19 rfl) ?_
          refine .w (.move rfl) ?_
          refine .gf (g := 22) rfl rfl rfl (by decide) ?_
          refine .gf (g := 22) rfl rfl rfl (by decide) ?_
          refine .gf (g := 22) rfl rfl rfl (by decide) ?_
          refine .w (.pick1 rfl rfl rfl) ?_
          refine .nil ?_
          refine .head () (by first | (refine ⟨by first | rfl | (show some _ = some _; exact congrArg (fun b => some (Value.bool b)) (decide_eq_true hge).symm), ?_⟩; repeat (first | exact trivial | refine ⟨rfl, ?_⟩))) (fun _ h => h) (Picks.perm (by repeat (first | exact Picks.nil _ | apply Picks.cons | exact Pull.here _ _ | apply Pull.there))) ?_
          trivial
        · refine .gt (g := 17) rfl rfl hg19 ?_
          refine .w (.ixA (j := 3) Tryd.underlying60 sz_34 rfl rfl) ?_
          refine .gt (g := 17) rfl rfl hg19 ?_
          refine .w (.ld one_34 rfl (hj := by first | exact wd_get _ (by decide) | rfl | exact tab_get (by first | omega | (simp; omega)) | exact gm (d := 0) (by first | omega | (simp; omega)))) ?_
          refine .gt (g := 17) rfl rfl hg19 ?_
          refine .w (.bin rfl rfl (BinR.gtr_u64 (b := 0#64))) ?_
          refine .w (.pick0 rfl hg19 rfl) ?_
          refine .w (.move rfl) ?_
          refine .gn (g := 21) rfl (fun hg24 hg24' => ?_) (fun hg24 hg24' => ?_)
          · have hge : 9223372036854775808 ≤ totN l := by have := (big3 (tot_lt l) hg14' hg19').1 hg24'; omega
            refine .gf (g := 22) rfl rfl hg24 (by decide) ?_
            refine .gf (g := 22) rfl rfl hg24 (by decide) ?_
            refine .gf (g := 22) rfl rfl hg24 (by decide) ?_
            refine .w (.pick1 rfl hg24 rfl) ?_
            refine .nil ?_
            refine .head () (by first | (refine ⟨by first | rfl | (show some _ = some _; exact congrArg (fun b => some (Value.bool b)) (decide_eq_true hge).symm), ?_⟩; repeat (first | exact trivial | refine ⟨rfl, ?_⟩))) (fun _ h => h) (Picks.perm (by repeat (first | exact Picks.nil _ | apply Picks.cons | exact Pull.here _ _ | apply Pull.there))) ?_
            trivial
          · refine .gt (g := 22) rfl rfl hg24 ?_
            refine .w (.ixA (j := 0) Tryd.underlying60 sz_34 rfl rfl) ?_
            refine .gt (g := 22) rfl rfl hg24 ?_
            refine .w (.ld one_34 rfl (hj := by first | exact wd_get _ (by decide) | rfl | exact tab_get (by first | omega | (simp; omega)) | exact gm (d := 0) (by first | omega | (simp; omega)))) ?_
            refine .gt (g := 22) rfl rfl hg24 ?_
            refine .w (.as (v' := .bool (decide (9223372036854775808 ≤ totN l))) (.bin rfl rfl (BinR.geq_u64 (b := 9223372036854775808#64))) (congrArg Value.bool (decide_eq_decide.2 (newT (tot_lt l) hg14' hg19' hg24')))) ?_
            refine .w (.pick0 rfl hg24 rfl) ?_
            refine .nil ?_
            refine .head () (by first | (refine ⟨by first | rfl | (show some _ = some _; exact congrArg (fun b => some (Value.bool b)) (decide_eq_true hge).symm), ?_⟩; repeat (first | exact trivial | refine ⟨rfl, ?_⟩))) (fun _ h => h) (Picks.perm (by repeat (first | exact Picks.nil _ | apply Picks.cons | exact Pull.here _ _ | apply Pull.there))) ?_
            trivial
    · refine .nil (.tn ?_)
      refine .cn rfl (fun hc2 => ?_) (fun hc2 => ?_)
      · skip
        refine .seq (.region ?_)
        refine .w (.as (v' := it (newR l)) (.assign rfl) (by rw [newR_eq, if_neg (by omega), if_pos hc2])) ?_
        refine .nil (.tn (.ret (.then_ret ?_)))
        exact .dn [] [] (res1 rfl (.tmp rfl)) ⟨rfl, rfl, rfl⟩
      · skip
        refine .skip (.tn (.seq (.region ?_)))
        refine .w (.as (v' := it (newR l)) (.assign rfl) (by rw [newR_eq, if_neg (by omega), if_neg hc2])) ?_
        refine .nil (.tn (.ret ?_))
        exact .dn [] [] (res1 rfl (.tmp rfl)) ⟨rfl, rfl, rfl⟩

theorem f17_spec (v : Value) (l : List W64) :
    Spec Tryd.prog 17 #[v] [Res.rd v l.length 1 (l.map u64)] []
      (fun r Γ' H' => r = (u64 l.sum) ∧ Γ' = [] ∧ H' = []) := by
  refine Spec.of_args Tryd.func17 rfl Tryd.ntmps17 (by simp) fun w => ?_
  refine JC.know (φ := l.length ≤ 9223372036854775807) (fun w hs => by obtain ⟨_, _, _, _, _, _, h⟩ := hs.rdForm (.head _); unfold maxLen at h; omega) fun hll => ?_
  refine .seq (.region ?_)
  refine .w (.assign rfl) ?_
  refine .nil (.tn (.seq (.region ?_)))
  refine .w (.as (v' := (u64 (l.take 0).sum)) (.assign rfl) rfl) ?_
  refine .nil (.tn (.seq (.seq (.region ?_))))
  refine .w (.assign rfl) ?_
  refine .nil (.tn (.block ?_))
  refine .lp (ι := Nat) (fun x => x ≤ l.length) (fun T x => (3, u64 (l.take x).sum) :: (4, it (x : Int)) :: T) (fun T _ => T) (fun T _ => T) (fun x => l.length - x) 0 [0, 2, 17] ?_ (fun x hx => ?_)
  · exact Nat.zero_le _
  refine .seq (.seq (.region ?_))
  refine .w (.move rfl) ?_
  refine .w (.move rfl) ?_
  refine .w (.len Tryd.underlying22 rfl) ?_
  refine .w (.bin rfl rfl BinR.lss_i) ?_
  refine .nil (.tn ?_)
  refine .cn rfl (fun hc1 => ?_) (fun hc1 => ?_)
  · skip
    refine .skip (.tn (.seq (.block (.region ?_))))
    refine .w (.move rfl) ?_
    refine .w (.move rfl) ?_
    refine .w (.move rfl) ?_
    refine .w (.ix1 Tryd.underlying22 sz_34 rfl rfl) ?_
    refine .w (.ld one_34 rfl) ?_
    refine .w (.as (v' := (u64 (l.take (x + 1)).sum)) (.bin rfl rfl (BinR.add_u64)) (congrArg u64 (sum_succ (by omega)))) ?_
    refine .w (.assign rfl) ?_
    refine .nil (.block_normal (.tn (.region ?_)))
    refine .w (.move rfl) ?_
    refine .w (.asI ((x + 1 : Nat) : Int) (.bin rfl rfl (BinR.add_i (by first | (constructor <;> omega) | (constructor <;> simp <;> omega))))) ?_
    refine .w (.assign rfl) ?_
    refine .nil ?_
    refine .hd (x + 1) ?_
    exact ⟨by omega, by omega⟩
  · obtain rfl : x = l.length := by omega
    rw [List.take_length]
    refine .exit (.then_exit (.then_exit (.block_exit (.tn (.seq (.region ?_))))))
    refine .w (.move rfl) ?_
    refine .w (.assign rfl) ?_
    refine .nil (.tn (.ret ?_))
    exact .dn [] [] (res1 rfl (.tmp rfl)) ⟨rfl, rfl, rfl⟩

theorem f28_spec (u v : Value) (l k : List Int) :
    Spec Tryd.prog 28 #[u, v] [Res.rd u l.length 1 (l.map it), Res.rd v k.length 1 (k.map it)] []
      (fun r Γ' H' => r = (.bool (decide (l = k))) ∧ Γ' = [] ∧ H' = []) := by
  refine Spec.of_args Tryd.func28 rfl Tryd.ntmps28 (by simp) fun w => ?_
  refine JC.know (φ := l.length ≤ 9223372036854775807) (fun w hs => by obtain ⟨_, _, _, _, _, _, h⟩ := hs.rdForm (.head _); unfold maxLen at h; omega) fun hll => ?_
  refine .seq (.region ?_)
  refine .w (.assign rfl) ?_
  refine .nil (.tn (.seq (.seq (.region ?_))))
  refine .w (.move rfl) ?_
  refine .w (.len Tryd.underlying37 rfl) ?_
  refine .w (.move rfl) ?_
  refine .w (.len Tryd.underlying37 rfl) ?_
  refine .w (.bin rfl rfl BinR.neq_i) ?_
  refine .nil (.tn ?_)
  refine .cn rfl (fun hc1 => ?_) (fun hc1 => ?_)
  · have hr : decide (l = k) = false := decide_eq_false (fun h => hc1 (by rw [h]))
    refine .seq (.region ?_)
    refine .w (.assign rfl) ?_
    refine .nil (.tn (.ret (.then_ret ?_)))
    exact .dn [] [] (res1 rfl (.tmp rfl)) ⟨by rw [hr], rfl, rfl⟩
  · have hlk : l.length = k.length := by omega
    refine .skip (.tn (.seq (.seq (.region ?_))))
    refine .w (.assign rfl) ?_
    refine .nil (.tn (.block ?_))
    refine .lp (ι := Nat) (fun x => x ≤ l.length ∧ ∀ j : Nat, j < x → l.getD j 0 = k.getD j 0) (fun T x => (5, it (x : Int)) :: T) (fun T _ => T) (fun T _ => T) (fun x => l.length - x) 0 [0, 1] ?_ (fun x hx => ?_)
    · exact ⟨Nat.zero_le _, fun j hj => absurd hj (Nat.not_lt_zero _)⟩
    obtain ⟨hx, hj⟩ := hx
    refine .seq (.seq (.region ?_))
    refine .w (.move rfl) ?_
    refine .w (.move rfl) ?_
    refine .w (.len Tryd.underlying37 rfl) ?_
    refine .w (.bin rfl rfl BinR.lss_i) ?_
    refine .nil (.tn ?_)
    refine .cn rfl (fun hc2 => ?_) (fun hc2 => ?_)
    · skip
      refine .skip (.tn (.seq (.block (.seq ?_))))
      refine JC.draw (.one 0 (.one 1 (.one 2 (.one 3 (.one 4 (.one 5 (.one 6 (.one 7 (.one 8 .nil))))))))) (fun i => ([] : List Nat).contains i) (fun i => ([] : List Nat).contains i) (fun i => ([0, 1, 2, 4, 5, 6, 8] : List Nat).contains i) mixed (by kernel_rfl) (by decide) (by kernel_rfl) ?_
      refine .uw rfl (.move rfl) ?_
      refine .uw rfl (.move rfl) ?_
      refine .uw rfl (.ix1 Tryd.underlying37 sz_3 rfl rfl) ?_
      refine .w rfl (.ld one_3 rfl (hj := by first | exact gm (d := 0) (by omega) | rfl | exact tab_get (by first | omega | (simp; omega)) | exact gm (d := 0) (by first | omega | (simp; omega)))) ?_
      refine .uw rfl (.move rfl) ?_
      refine .uw rfl (.move rfl) ?_
      refine .uw rfl (.ix1 Tryd.underlying37 sz_3 rfl rfl) ?_
      refine .w rfl (.ld one_3 rfl (hj := by first | exact gm (d := 0) (by omega) | rfl | exact tab_get (by first | omega | (simp; omega)) | exact gm (d := 0) (by first | omega | (simp; omega)))) ?_
      refine .uw rfl (.bin rfl rfl BinR.neq_i) ?_
      refine .nil (.tn ?_)
      refine .cn rfl (fun hc3 => ?_) (fun hc3 => ?_)
      · have hr : decide (l = k) = false := decide_eq_false (fun h => hc3 (by rw [h]))
        refine .seq (.region ?_)
        refine .w (.assign rfl) ?_
        refine .nil (.tn (.ret (.block_ret (.then_ret (.then_ret (.block_ret (.then_ret ?_)))))))
        exact .dn [] [] (res1 rfl (.tmp rfl)) ⟨by rw [hr], rfl, rfl⟩
      · skip
        refine .skip (.block_normal (.tn (.region ?_)))
        refine .w (.move rfl) ?_
        refine .w (.asI ((x + 1 : Nat) : Int) (.bin rfl rfl (BinR.add_i (by first | (constructor <;> omega) | (constructor <;> simp <;> omega))))) ?_
        refine .w (.assign rfl) ?_
        refine .nil ?_
        refine .hd (x + 1) ?_
        exact ⟨⟨by omega, fun j h => by
          rcases Nat.lt_succ_iff_lt_or_eq.1 h with h | h
          · exact hj j h
          · subst h; exact hc3⟩, by omega⟩
    · have hr : decide (l = k) = true := decide_eq_true (getD_ext hlk (fun j h => hj j (by omega)))
      refine .exit (.then_exit (.then_exit (.block_exit (.tn (.seq (.region ?_))))))
      refine .w (.assign rfl) ?_
      refine .nil (.tn (.ret ?_))
      exact .dn [] [] (res1 rfl (.tmp rfl)) ⟨by rw [hr], rfl, rfl⟩
end Go.Proofs.YtmbpngnamnoiaaaDoor
