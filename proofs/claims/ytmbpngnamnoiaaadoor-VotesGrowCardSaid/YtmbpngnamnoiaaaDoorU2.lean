/- Walk: VotesGrow. -/
import Derived.Test.YtmbpngnamnoiaaaDoorU1
namespace Go.Proofs.YtmbpngnamnoiaaaDoor
open Go.RowKit
set_option maxRecDepth 100000
set_option linter.unusedVariables false
set_option linter.unusedSimpArgs false
set_option maxHeartbeats 2000000 in
theorem f5a_spec (u vl : Value) (S : List W64) (l : List VtE) (v : D32) (hg : newE S = 0) :
    Spec Tryd.prog 5 #[u, vl, (dgV v)] [Res.var 0 [u64 9223372036854775808, u64 0, u64 0, u64 0], Res.rd u S.length 1 (S.map u64), Res.rd vl l.length 33 (bks vtC l)] []
      (fun r Γ' H' => r = (.bool true) ∧ Γ' = [] ∧ H' = []) := by
  refine Spec.of_args Tryd.func5 rfl Tryd.ntmps5 (by simp) fun w => ?_
  refine JC.know (φ := l.length ≤ 9223372036854775807) (fun w hs => by obtain ⟨_, _, _, _, _, _, h⟩ := hs.rdForm (.tail _ (.tail _ (.head _))); unfold maxLen at h; omega) fun _ => ?_
  obtain ⟨hg1, hg2, hg3⟩ := newE_ok hg
  have hsb : sumS S < 18446744073709551616 := by omega
  have hal : (BitVec.ofNat 64 (sumS S)).toNat = sumS S := ofW hsb
  refine .seq (.region ?_)
  refine .bx fun b5 => ?_
  refine .w (.assign rfl) ?_
  refine .nil (.tn (.seq (.region ?_)))
  refine .c f8_spec body_8 ?_
  refine .w (.assign rfl) ?_
  refine .nil (.tn (.seq (.region ?_)))
  refine .w (.move rfl) ?_
  refine .cb (f9ok_spec u S hg1 hg2 hg3) body_9 ?_ (h0 := by rintro _ _ _ ⟨_, _, _, _, _, h, _⟩; exact h)
  rintro _ _ ⟨p, a, b, sv, rfl, _, rfl⟩
  refine .ap ?_
  refine .w (.move rfl) ?_
  refine .w (.extract rfl rfl) ?_
  refine .w (.extract rfl rfl) ?_
  refine .w (.assign rfl) ?_
  refine .w (.assign rfl) ?_
  refine .nil (.tn (.seq (.seq (.region ?_))))
  refine .w (.move rfl) ?_
  refine .w (.as (v' := .bool false) (.bin rfl rfl (BinR.eql_p Tryd.underlying25)) rfl) ?_
  refine .w (.move rfl) ?_
  refine .gt (g := 29) rfl rfl rfl ?_
  refine .w (.move rfl) ?_
  refine .gt (g := 29) rfl rfl rfl ?_
  refine .w (.len Tryd.underlying40 rfl) ?_
  refine .gt (g := 29) rfl rfl rfl ?_
  refine .w (.bin rfl rfl BinR.gtr_i) ?_
  refine .w (.pick0 rfl rfl rfl) ?_
  refine .nil (.tn ?_)
  refine .cn rfl (fun hc1 => ?_) (fun hc1 => ?_)
  · skip
    refine .seq (.region ?_)
    refine .w (.move rfl) ?_
    refine .w (.assign rfl) ?_
    refine .nil (.tn (.ret (.then_ret ?_)))
    exact .dn [] [] (res1 rfl (.tmp rfl)) ⟨rfl, rfl, rfl⟩
  · skip
    refine .skip (.tn (.seq (.seq (.region ?_))))
    refine .w (.assign rfl) ?_
    refine .nil (.tn (.block ?_))
    refine .lp (ι := Nat × MM Int D32 × MM Int Bool) (fun x => x.1 ≤ l.length ∧ TOk S x.2.1) (fun T x => (10, it (x.1 : Int)) :: T) (fun T _ => T) (fun T x => mpR a itK dgV x.2.1 :: mpR b itK blV x.2.2 :: T) (fun x => l.length - x.1) (0, MM.nil, MM.nil) [1, 5, 7, 8, 119] ?_ (fun x hx => ?_)
    · exact ⟨Nat.zero_le _, tok_nil S⟩
    obtain ⟨k, m, tw⟩ := x
    obtain ⟨hk, hT⟩ := hx
    dsimp only at hk hT ⊢
    refine .seq (.seq (.region ?_))
    refine .w (.move rfl) ?_
    refine .w (.move rfl) ?_
    refine .w (.len Tryd.underlying40 rfl) ?_
    refine .w (.bin rfl rfl BinR.lss_i) ?_
    refine .nil (.tn ?_)
    refine .cn rfl (fun hc2 => ?_) (fun hc2 => ?_)
    · skip
      refine .skip (.tn (.seq (.block (.seq (.region ?_)))))
      refine .w (.move rfl) ?_
      refine .w (.as (v' := dgV v) (.lda agg_31 rfl) rfl) ?_
      refine .c (f12_spec p a b sv (BitVec.ofNat 64 (sumS S)) S m v hT hsb) body_12 ?_
      refine .w (.assign rfl) ?_
      refine .nil (.tn (.seq (.region ?_)))
      refine .w (.move rfl) ?_
      refine .c (f13_spec p a b sv (BitVec.ofNat 64 (sumS S)) S m hT hsb) body_13 ?_
      refine .w (.assign rfl) ?_
      refine .nil (.tn (.seq (.region ?_)))
      refine .w (.move rfl) ?_
      refine .w (.as (v' := dgV v) (.lda agg_31 rfl) rfl) ?_
      refine .c (f18_spec p a b sv (BitVec.ofNat 64 (sumS S)) S m v hT hsb hal) body_18 ?_
      refine .w (.assign rfl) ?_
      refine .nil (.tn (.seq (.region ?_)))
      refine .w (.move rfl) ?_
      refine .cb (f11_spec p a b sv (BitVec.ofNat 64 (sumS S)) S m hT hsb hal) body_11 ?_ (h0 := by rintro _ _ _ ⟨_, _, _, h, _⟩; exact h)
      rintro _ _ ⟨o, hq, rfl, _, rfl⟩
      refine .ap ?_
      refine .w (.move rfl) ?_
      refine .w (.as (v' := dgV (o.getD D0)) (.extract rfl rfl) rfl) ?_
      refine .w (.as (v' := .bool o.isSome) (.extract rfl rfl) rfl) ?_
      refine .al zero_31 fun b14 => ?_
      first | refine .sa sz_31 ?_ | refine .so sz_31 ?_ | refine .sr sz_31 ?_
      refine .w (.assign rfl) ?_
      refine .nil (.tn (.seq ?_))
      refine JC.draw (.one 0 (.one 1 (.one 2 (.one 3 (.one 4 (.one 5 (.one 6 (.one 7 (.one 8 (.one 9 (.one 10 (.one 11 (.one 12 .nil))))))))))))) (fun i => ([11] : List Nat).contains i) (fun i => ([11] : List Nat).contains i) (fun i => ([0, 1, 2, 3, 4, 6, 7, 8, 9, 12] : List Nat).contains i) mixed (by kernel_rfl) (by decide) (by kernel_rfl) ?_
      refine .uw rfl (.move rfl) ?_
      refine .uw rfl (.move rfl) ?_
      refine .uw rfl (.move rfl) ?_
      refine .uw rfl (.ix Tryd.underlying40 sz_42 rfl rfl) ?_
      refine .uw rfl (.fieldAddr fa_42_0 rfl) ?_
      refine .w rfl (.as (v' := it (vtAt l k).1) (.ld one_3 rfl (hj := by exact vt_who' (by omega))) rfl) ?_
      refine .uw rfl (.move rfl) ?_
      refine .uw rfl (.move rfl) ?_
      refine .uw rfl (.ix Tryd.underlying40 sz_42 rfl rfl) ?_
      refine .uw rfl (.fieldAddr fa_42_1 rfl) ?_
      refine .w rfl (.as (v' := dgV (vtAt l k).2) (.lda agg_31 rfl) (congrArg (fun l : List Value => Value.agg l.toArray) (vt_dig (by omega)))) ?_
      refine .mw rfl (.cb (f10_spec p a b sv (BitVec.ofNat 64 (sumS S)) S m tw (vtAt l k).1 (vtAt l k).2 hT (by omega)) body_10 (h0 := by rintro _ _ _ ⟨_, _, _, _, _, _, _, h, _⟩; exact h)) ?_
      rintro _ _ _ ⟨_, ⟨m2, t2, rfl, hT2, hm2, _, ht2, _, rfl⟩, hΓ, hH⟩
      simp only [List.cons_append, List.nil_append] at hH; subst hΓ hH
      have hgr := vote_grow hm2
      have hfm := hgr.forA (S := S) v
      have ham := hgr.anyA (S := S)
      have hl1 := forA_le S m.get v
      have hl2 := forA_le S m2.get v
      have hl3 := anyA_le S m.get
      have hl4 := anyA_le S m2.get
      refine kp ?_
      refine .uw rfl (.assign rfl) ?_
      refine .nil (.tn (.seq (.region ?_)))
      refine .w (.move rfl) ?_
      refine .w (.as (v' := dgV v) (.lda agg_31 rfl) rfl) ?_
      refine .c (f12_spec p a b sv (BitVec.ofNat 64 (sumS S)) S m2 v hT2 hsb) body_12 ?_
      refine .w (.assign rfl) ?_
      refine .nil (.tn (.seq (.region ?_)))
      refine .w (.move rfl) ?_
      refine .c (f13_spec p a b sv (BitVec.ofNat 64 (sumS S)) S m2 hT2 hsb) body_13 ?_
      refine .w (.assign rfl) ?_
      refine .nil (.tn (.seq (.region ?_)))
      refine .w (.move rfl) ?_
      refine .cb (f11_spec p a b sv (BitVec.ofNat 64 (sumS S)) S m2 hT2 hsb hal) body_11 ?_ (h0 := by rintro _ _ _ ⟨_, _, _, h, _⟩; exact h)
      rintro _ _ ⟨o2, hq2, rfl, _, rfl⟩
      refine .ap ?_
      refine .w (.move rfl) ?_
      refine .w (.as (v' := dgV (o2.getD D0)) (.extract rfl rfl) rfl) ?_
      refine .w (.as (v' := .bool o2.isSome) (.extract rfl rfl) rfl) ?_
      refine .al zero_31 fun b19 => ?_
      first | refine .sa sz_31 ?_ | refine .so sz_31 ?_ | refine .sr sz_31 ?_
      refine .w (.assign rfl) ?_
      refine .nil (.tn (.seq (.region ?_)))
      refine .w (.move rfl) ?_
      refine .w (.move rfl) ?_
      refine .w (.as (v' := .bool false) (.bin rfl rfl (BinR.lss_u64)) (congrArg Value.bool (decide_eq_false (by rw [ofW (by omega), ofW (by omega)]; omega)))) ?_
      refine .w (.move rfl) ?_
      refine .gt (g := 79) rfl rfl rfl ?_
      refine .w (.move rfl) ?_
      refine .gt (g := 79) rfl rfl rfl ?_
      refine .w (.move rfl) ?_
      refine .gt (g := 79) rfl rfl rfl ?_
      refine .w (.as (v' := .bool false) (.bin rfl rfl (BinR.lss_u64)) (congrArg Value.bool (decide_eq_false (by rw [ofW (by omega), ofW (by omega)]; omega)))) ?_
      refine .w (.pick0 rfl rfl rfl) ?_
      refine .w (.move rfl) ?_
      refine .join 7 91 (.bool false) ?_ ?_
      · refine .gt (g := 84) rfl rfl rfl ?_
        refine .w (.move rfl) ?_
        refine .gt (g := 84) rfl rfl rfl ?_
        refine .w (.move rfl) ?_
        refine .gn (g := 13) rfl (fun hg84 hg84' => ?_) (fun hg84 hg84' => ?_)
        · refine .gt (g := 86) rfl rfl hg84 ?_
          refine .w (.move rfl) ?_
          refine .gt (g := 86) rfl rfl hg84 ?_
          refine .w (.as (v' := dgV v) (.lda agg_31 rfl) rfl) ?_
          refine .gt (g := 86) rfl rfl hg84 ?_
          refine .c (f18_spec p a b sv (BitVec.ofNat 64 (sumS S)) S m2 v hT2 hsb hal) body_18 ?_
          refine .gt (g := 86) rfl rfl hg84 ?_
          refine .w (.as (v' := .bool false) (.not rfl) (congrArg Value.bool (by rw [decide_eq_true (show sumS S < 3 * forA S m2.get v by omega)]; rfl))) ?_
          refine .gt (g := 84) rfl rfl rfl ?_
          refine .w (.pick1 rfl hg84 rfl) ?_
          refine .nil ?_
          refine .head () (by first | (refine ⟨by first | rfl | exact congrArg (fun b => some (Value.bool b)) (by first | exact (decide_eq_true (by omega)).symm | exact (decide_eq_false (by omega)).symm | exact decide_eq_decide.2 (by omega)) | (simp [*]; done) | (show some _ = some _; simp [*]; done), ?_⟩; repeat (first | exact trivial | refine ⟨rfl, ?_⟩))) (fun _ h => h) (Picks.perm (by repeat (first | exact Picks.nil _ | apply Picks.cons | exact Pull.here _ _ | apply Pull.there))) ?_
          trivial
        · refine .gf (g := 86) rfl rfl hg84 (by decide) ?_
          refine .gf (g := 86) rfl rfl hg84 (by decide) ?_
          refine .gf (g := 86) rfl rfl hg84 (by decide) ?_
          refine .gf (g := 86) rfl rfl hg84 (by decide) ?_
          refine .gt (g := 84) rfl rfl rfl ?_
          refine .w (.pick0 rfl hg84 rfl) ?_
          refine .nil ?_
          refine .head () (by first | (refine ⟨by first | rfl | exact congrArg (fun b => some (Value.bool b)) (by first | exact (decide_eq_true (by omega)).symm | exact (decide_eq_false (by omega)).symm | exact decide_eq_decide.2 (by omega)) | (simp [*]; done) | (show some _ = some _; simp [*]; done), ?_⟩; repeat (first | exact trivial | refine ⟨rfl, ?_⟩))) (fun _ h => h) (Picks.perm (by repeat (first | exact Picks.nil _ | apply Picks.cons | exact Pull.here _ _ | apply Pull.there))) ?_
          trivial
      · refine .w (.pick rfl rfl rfl) ?_
        refine .w (.move rfl) ?_
        refine .join 10 103 (.bool false) ?_ ?_
        · refine .gt (g := 93) rfl rfl rfl ?_
          refine .w (.move rfl) ?_
          refine .gt (g := 93) rfl rfl rfl ?_
          refine .w (.move rfl) ?_
          refine .gn (g := 15) rfl (fun hg93 hg93' => ?_) (fun hg93 hg93' => ?_)
          · obtain ⟨q, hoq⟩ := Option.isSome_iff_exists.1 hg93'
            have ho2 := hgr.quoR hq hq2 hoq
            refine .gt (g := 95) rfl rfl hg93 ?_
            refine .w (.move rfl) ?_
            refine .gt (g := 95) rfl rfl hg93 ?_
            refine .w (.as (v' := .bool false) (.not rfl) (congrArg Value.bool (by rw [ho2]; rfl))) ?_
            refine .gt (g := 95) rfl rfl hg93 ?_
            refine .w (.move rfl) ?_
            refine .gt (g := 98) rfl rfl rfl ?_
            refine .w (.as (v' := dgV (o2.getD D0)) (.lda agg_31 rfl) rfl) ?_
            refine .gt (g := 98) rfl rfl rfl ?_
            refine .w (.as (v' := dgV (o.getD D0)) (.lda agg_31 rfl) rfl) ?_
            refine .gt (g := 98) rfl rfl rfl ?_
            refine .w (.as (v' := .bool false) (.bin rfl rfl (neq_dig)) (congrArg Value.bool (by rw [ho2, hoq]; simp))) ?_
            refine .gt (g := 95) rfl rfl hg93 ?_
            refine .w (.pick0 rfl rfl rfl) ?_
            refine .gt (g := 93) rfl rfl rfl ?_
            refine .w (.pick1 rfl hg93 rfl) ?_
            refine .nil ?_
            refine .head () (by first | (refine ⟨by first | rfl | exact congrArg (fun b => some (Value.bool b)) (by first | exact (decide_eq_true (by omega)).symm | exact (decide_eq_false (by omega)).symm | exact decide_eq_decide.2 (by omega)) | (simp [*]; done) | (show some _ = some _; simp [*]; done), ?_⟩; repeat (first | exact trivial | refine ⟨rfl, ?_⟩))) (fun _ h => h) (Picks.perm (by repeat (first | exact Picks.nil _ | apply Picks.cons | exact Pull.here _ _ | apply Pull.there))) ?_
            trivial
          · refine .gf (g := 95) rfl rfl hg93 (by decide) ?_
            refine .gf (g := 95) rfl rfl hg93 (by decide) ?_
            refine .gf (g := 95) rfl rfl hg93 (by decide) ?_
            refine .gu (g := 98) rfl rfl (by decide) ?_
            refine .gu (g := 98) rfl rfl (by decide) ?_
            refine .gu (g := 98) rfl rfl (by decide) ?_
            refine .gf (g := 95) rfl rfl hg93 (by decide) ?_
            refine .gt (g := 93) rfl rfl rfl ?_
            refine .w (.pick0 rfl hg93 rfl) ?_
            refine .nil ?_
            refine .head () (by first | (refine ⟨by first | rfl | exact congrArg (fun b => some (Value.bool b)) (by first | exact (decide_eq_true (by omega)).symm | exact (decide_eq_false (by omega)).symm | exact decide_eq_decide.2 (by omega)) | (simp [*]; done) | (show some _ = some _; simp [*]; done), ?_⟩; repeat (first | exact trivial | refine ⟨rfl, ?_⟩))) (fun _ h => h) (Picks.perm (by repeat (first | exact Picks.nil _ | apply Picks.cons | exact Pull.here _ _ | apply Pull.there))) ?_
            trivial
        · refine .w (.pick rfl rfl rfl) ?_
          refine .w (.move rfl) ?_
          refine .join 12 117 (.bool false) ?_ ?_
          · refine .gt (g := 105) rfl rfl rfl ?_
            refine .w (.move rfl) ?_
            refine .gt (g := 105) rfl rfl rfl ?_
            refine .w (.bin rfl rfl BinR.neq_i) ?_
            refine .gt (g := 105) rfl rfl rfl ?_
            refine .w (.move rfl) ?_
            refine .gn (g := 107) rfl (fun hg106 hg106' => ?_) (fun hg106 hg106' => ?_)
            · have hme : m2 = m := by rw [hm2, if_neg hg106']
              refine .gt (g := 108) rfl rfl hg106 ?_
              refine .w (.move rfl) ?_
              refine .gt (g := 108) rfl rfl hg106 ?_
              refine .w (.move rfl) ?_
              refine .gt (g := 108) rfl rfl hg106 ?_
              refine .w (.as (v' := .bool false) (.bin rfl rfl (BinR.neq_u64)) (congrArg Value.bool (by rw [hme]; simp))) ?_
              refine .gt (g := 108) rfl rfl hg106 ?_
              refine .w (.move rfl) ?_
              refine .gt (g := 112) rfl rfl rfl ?_
              refine .w (.move rfl) ?_
              refine .gt (g := 112) rfl rfl rfl ?_
              refine .w (.move rfl) ?_
              refine .gt (g := 112) rfl rfl rfl ?_
              refine .w (.as (v' := .bool false) (.bin rfl rfl (BinR.neq_u64)) (congrArg Value.bool (by rw [hme]; simp))) ?_
              refine .gt (g := 108) rfl rfl hg106 ?_
              refine .w (.pick0 rfl rfl rfl) ?_
              refine .gt (g := 105) rfl rfl rfl ?_
              refine .w (.pick1 rfl hg106 rfl) ?_
              refine .nil ?_
              refine .head () (by first | (refine ⟨by first | rfl | exact congrArg (fun b => some (Value.bool b)) (by first | exact (decide_eq_true (by omega)).symm | exact (decide_eq_false (by omega)).symm | exact decide_eq_decide.2 (by omega)) | (simp [*]; done) | (show some _ = some _; simp [*]; done), ?_⟩; repeat (first | exact trivial | refine ⟨rfl, ?_⟩))) (fun _ h => h) (Picks.perm (by repeat (first | exact Picks.nil _ | apply Picks.cons | exact Pull.here _ _ | apply Pull.there))) ?_
              trivial
            · refine .gf (g := 108) rfl rfl hg106 (by decide) ?_
              refine .gf (g := 108) rfl rfl hg106 (by decide) ?_
              refine .gf (g := 108) rfl rfl hg106 (by decide) ?_
              refine .gf (g := 108) rfl rfl hg106 (by decide) ?_
              refine .gu (g := 112) rfl rfl (by decide) ?_
              refine .gu (g := 112) rfl rfl (by decide) ?_
              refine .gu (g := 112) rfl rfl (by decide) ?_
              refine .gf (g := 108) rfl rfl hg106 (by decide) ?_
              refine .gt (g := 105) rfl rfl rfl ?_
              refine .w (.pick0 rfl hg106 rfl) ?_
              refine .nil ?_
              refine .head () (by first | (refine ⟨by first | rfl | exact congrArg (fun b => some (Value.bool b)) (by first | exact (decide_eq_true (by omega)).symm | exact (decide_eq_false (by omega)).symm | exact decide_eq_decide.2 (by omega)) | (simp [*]; done) | (show some _ = some _; simp [*]; done), ?_⟩; repeat (first | exact trivial | refine ⟨rfl, ?_⟩))) (fun _ h => h) (Picks.perm (by repeat (first | exact Picks.nil _ | apply Picks.cons | exact Pull.here _ _ | apply Pull.there))) ?_
              trivial
          · refine .w (.pick rfl rfl rfl) ?_
            refine .nil (.tn ?_)
            refine .cf rfl ?_
            refine .skip (.block_normal (.tn (.region ?_)))
            refine .w (.move rfl) ?_
            refine .w (.asI ((k + 1 : Nat) : Int) (.bin rfl rfl (BinR.add_i (by first | (constructor <;> omega) | (constructor <;> simp <;> omega))))) ?_
            refine .w (.assign rfl) ?_
            refine .nil ?_
            refine .hd (k + 1, m2, t2) ?_
            exact ⟨⟨by dsimp only; omega, hT2⟩, by dsimp only; omega⟩
    · skip
      refine .exit (.then_exit (.then_exit (.block_exit (.tn (.seq (.region ?_))))))
      refine .w (.move rfl) ?_
      refine .w (.assign rfl) ?_
      refine .nil (.tn (.ret ?_))
      exact .dn [] [] (res1 rfl (.tmp rfl)) ⟨rfl, rfl, rfl⟩

theorem f5b_spec (u vl : Value) (S : List W64) (l : List VtE) (v : D32) (hg : ¬ newE S = 0) :
    Spec Tryd.prog 5 #[u, vl, (dgV v)] [Res.var 0 [u64 9223372036854775808, u64 0, u64 0, u64 0], Res.rd u S.length 1 (S.map u64), Res.rd vl l.length 33 (bks vtC l)] []
      (fun r Γ' H' => r = (.bool true) ∧ Γ' = [] ∧ H' = []) := by
  refine Spec.of_args Tryd.func5 rfl Tryd.ntmps5 (by simp) fun w => ?_
  refine JC.know (φ := l.length ≤ 9223372036854775807) (fun w hs => by obtain ⟨_, _, _, _, _, _, h⟩ := hs.rdForm (.tail _ (.tail _ (.head _))); unfold maxLen at h; omega) fun _ => ?_
  refine .seq (.region ?_)
  refine .bx fun b5 => ?_
  refine .w (.assign rfl) ?_
  refine .nil (.tn (.seq (.region ?_)))
  refine .c f8_spec body_8 ?_
  refine .w (.assign rfl) ?_
  refine .nil (.tn (.seq (.region ?_)))
  refine .w (.move rfl) ?_
  refine .c (f9no_spec u S hg) body_9 ?_
  refine .w (.move rfl) ?_
  refine .w (.extract rfl rfl) ?_
  refine .w (.extract rfl rfl) ?_
  refine .w (.assign rfl) ?_
  refine .w (.assign rfl) ?_
  refine .nil (.tn (.seq (.seq (.region ?_))))
  refine .w (.move rfl) ?_
  refine .w (.as (v' := .bool true) (.bin rfl rfl (BinR.eql_p Tryd.underlying25)) rfl) ?_
  refine .w (.move rfl) ?_
  refine .gf (g := 29) rfl rfl rfl (by decide) ?_
  refine .gf (g := 29) rfl rfl rfl (by decide) ?_
  refine .gf (g := 29) rfl rfl rfl (by decide) ?_
  refine .w (.pick1 rfl rfl rfl) ?_
  refine .nil (.tn ?_)
  refine .ct rfl ?_
  refine .seq (.region ?_)
  refine .w (.move rfl) ?_
  refine .w (.assign rfl) ?_
  refine .nil (.tn (.ret (.then_ret ?_)))
  exact .dn [] [] (res1 rfl (.tmp rfl)) ⟨rfl, rfl, rfl⟩

theorem f5_spec (u vl : Value) (S : List W64) (l : List VtE) (v : D32) :
    Spec Tryd.prog 5 #[u, vl, (dgV v)] [Res.var 0 [u64 9223372036854775808, u64 0, u64 0, u64 0], Res.rd u S.length 1 (S.map u64), Res.rd vl l.length 33 (bks vtC l)] [] (fun r Γ' H' => r = (.bool true) ∧ Γ' = [] ∧ H' = []) := by
  by_cases hg : newE S = 0
  · exact f5a_spec u vl S l v hg
  · exact f5b_spec u vl S l v hg
end Go.Proofs.YtmbpngnamnoiaaaDoor
