/- Walk: VotesOne. -/
import Derived.Test.YtmbpngnamnoiaaaDoorU1
namespace Go.Proofs.YtmbpngnamnoiaaaDoor
open Go.RowKit
set_option maxRecDepth 100000
set_option linter.unusedVariables false
set_option linter.unusedSimpArgs false
set_option maxHeartbeats 2000000 in
theorem f6a_spec (u vl vk : Value) (S : List W64) (l k : List VtE) (v : D32) (hg : newE S = 0) :
    Spec Tryd.prog 6 #[u, vl, vk, (dgV v)] [Res.var 0 [u64 9223372036854775808, u64 0, u64 0, u64 0], Res.rd u S.length 1 (S.map u64), Res.rd vl l.length 33 (bks vtC l), Res.rd vk k.length 33 (bks vtC k)] []
      (fun r Γ' H' => r = (.bool true) ∧ Γ' = [] ∧ H' = []) := by
  refine Spec.of_args Tryd.func6 rfl Tryd.ntmps6 (by simp) fun w => ?_
  refine JC.know (φ := l.length ≤ 9223372036854775807) (fun w hs => by obtain ⟨_, _, _, _, _, _, h⟩ := hs.rdForm (.tail _ (.tail _ (.head _))); unfold maxLen at h; omega) fun _ => ?_
  refine JC.know (φ := k.length ≤ 9223372036854775807) (fun w hs => by obtain ⟨_, _, _, _, _, _, h⟩ := hs.rdForm (.tail _ (.tail _ (.tail _ (.head _)))); unfold maxLen at h; omega) fun _ => ?_
  obtain ⟨hg1, hg2, hg3⟩ := newE_ok hg
  have hsb : sumS S < 18446744073709551616 := by omega
  have hal : (BitVec.ofNat 64 (sumS S)).toNat = sumS S := ofW hsb
  refine .seq (.region ?_)
  refine .bx fun b7 => ?_
  refine .w (.assign rfl) ?_
  refine .nil (.tn (.seq (.region ?_)))
  refine .c f8_spec body_8 ?_
  refine .w (.assign rfl) ?_
  refine .nil (.tn (.seq (.region ?_)))
  refine .w (.move rfl) ?_
  refine .cb (f9ok_spec u S hg1 hg2 hg3) body_9 ?_ (h0 := by rintro _ _ _ ⟨_, _, _, _, _, h, _⟩; exact h)
  rintro _ _ ⟨p, a, b, sv, rfl, _, rfl⟩
  refine .ap ?_
  refine .w (.move rfl) ?_
  refine .w (.extract rfl rfl) ?_
  refine .w (.extract rfl rfl) ?_
  refine .w (.assign rfl) ?_
  refine .w (.assign rfl) ?_
  refine .nil (.tn (.seq (.seq (.region ?_))))
  refine .w (.move rfl) ?_
  refine .w (.as (v' := .bool false) (.bin rfl rfl (BinR.eql_p Tryd.underlying25)) rfl) ?_
  refine .w (.move rfl) ?_
  refine .gt (g := 29) rfl rfl rfl ?_
  refine .w (.move rfl) ?_
  refine .gt (g := 29) rfl rfl rfl ?_
  refine .w (.len Tryd.underlying40 rfl) ?_
  refine .gt (g := 29) rfl rfl rfl ?_
  refine .w (.bin rfl rfl BinR.gtr_i) ?_
  refine .w (.pick0 rfl rfl rfl) ?_
  refine .w (.move rfl) ?_
  refine .gn (g := 33) rfl (fun hg20 hg20' => ?_) (fun hg20 hg20' => ?_)
  · refine .gf (g := 34) rfl rfl hg20 (by decide) ?_
    refine .gf (g := 34) rfl rfl hg20 (by decide) ?_
    refine .gf (g := 34) rfl rfl hg20 (by decide) ?_
    refine .w (.pick1 rfl hg20 rfl) ?_
    refine .nil (.tn ?_)
    refine .k1 rfl rfl ?_
    refine .seq (.region ?_)
    refine .w (.move rfl) ?_
    refine .w (.assign rfl) ?_
    refine .nil (.tn (.ret (.then_ret ?_)))
    exact .dn [] [] (res1 rfl (.tmp rfl)) ⟨rfl, rfl, rfl⟩
  · refine .gt (g := 34) rfl rfl hg20 ?_
    refine .w (.move rfl) ?_
    refine .gt (g := 34) rfl rfl hg20 ?_
    refine .w (.len Tryd.underlying40 rfl) ?_
    refine .gt (g := 34) rfl rfl hg20 ?_
    refine .w (.bin rfl rfl BinR.gtr_i) ?_
    refine .w (.pick0 rfl hg20 rfl) ?_
    refine .nil (.tn ?_)
    refine .cn rfl (fun hc1 => ?_) (fun hc1 => ?_)
    · skip
      refine .seq (.region ?_)
      refine .w (.move rfl) ?_
      refine .w (.assign rfl) ?_
      refine .nil (.tn (.ret (.then_ret ?_)))
      exact .dn [] [] (res1 rfl (.tmp rfl)) ⟨rfl, rfl, rfl⟩
    · skip
      refine .skip (.tn (.seq (.seq (.region ?_))))
      refine .w (.assign rfl) ?_
      refine .nil (.tn (.block ?_))
      refine .lp (ι := Nat × MM Int D32 × MM Int Bool) (fun x => x.1 ≤ l.length ∧ TOk S x.2.1) (fun T x => (12, it (x.1 : Int)) :: T) (fun T _ => T) (fun T x => mpR a itK dgV x.2.1 :: mpR b itK blV x.2.2 :: T) (fun x => l.length - x.1) (0, MM.nil, MM.nil) [1, 2, 7, 8, 9, 10, 13, 14, 15, 16, 17, 18, 19, 20, 58, 59, 60, 61, 62, 63, 64, 65, 66, 67, 68, 69, 70, 71, 72, 73, 74, 75, 76, 77, 78, 79, 80, 81, 82, 83, 84, 86, 87, 88, 89, 90, 91, 92, 93, 94, 95, 96, 97, 98, 99, 100, 101, 102, 103, 104, 105, 106, 107, 108, 109, 110, 111, 112, 113, 114, 115, 116, 117, 118, 119, 120] ?_ (fun x hx => ?_)
      · exact ⟨Nat.zero_le _, tok_nil S⟩
      obtain ⟨i, m, tw⟩ := x
      obtain ⟨hi, hT⟩ := hx
      dsimp only at hi hT ⊢
      refine .seq (.seq (.region ?_))
      refine .w (.move rfl) ?_
      refine .w (.move rfl) ?_
      refine .w (.len Tryd.underlying40 rfl) ?_
      refine .w (.bin rfl rfl BinR.lss_i) ?_
      refine .nil (.tn ?_)
      refine .cn rfl (fun hc2 => ?_) (fun hc2 => ?_)
      · skip
        refine .skip (.tn (.seq (.block ?_)))
        refine JC.draw (.one 0 (.one 1 (.one 2 (.one 3 (.one 4 (.one 5 (.one 6 (.one 7 (.one 8 (.one 9 (.one 10 (.one 11 .nil)))))))))))) (fun i => ([11] : List Nat).contains i) (fun i => ([11] : List Nat).contains i) (fun i => ([0, 1, 2, 3, 4, 6, 7, 8, 9] : List Nat).contains i) mixed (by kernel_rfl) (by decide) (by kernel_rfl) ?_
        refine .uw rfl (.move rfl) ?_
        refine .uw rfl (.move rfl) ?_
        refine .uw rfl (.move rfl) ?_
        refine .uw rfl (.ix Tryd.underlying40 sz_42 rfl rfl) ?_
        refine .uw rfl (.fieldAddr fa_42_0 rfl) ?_
        refine .w rfl (.as (v' := it (vtAt l i).1) (.ld one_3 rfl (hj := by exact vt_who' (by omega))) rfl) ?_
        refine .uw rfl (.move rfl) ?_
        refine .uw rfl (.move rfl) ?_
        refine .uw rfl (.ix Tryd.underlying40 sz_42 rfl rfl) ?_
        refine .uw rfl (.fieldAddr fa_42_1 rfl) ?_
        refine .w rfl (.as (v' := dgV (vtAt l i).2) (.lda agg_31 rfl) (congrArg (fun l : List Value => Value.agg l.toArray) (vt_dig (by omega)))) ?_
        refine .mw rfl (.cb (f10_spec p a b sv (BitVec.ofNat 64 (sumS S)) S m tw (vtAt l i).1 (vtAt l i).2 hT (by omega)) body_10 (h0 := by rintro _ _ _ ⟨_, _, _, _, _, _, _, h, _⟩; exact h)) ?_
        rintro _ _ _ ⟨_, ⟨m2, t2, rfl, hT2, hm2, _, ht2, _, rfl⟩, hΓ, hH⟩
        simp only [List.cons_append, List.nil_append] at hH; subst hΓ hH
        refine kp ?_
        refine .nil (.block_normal (.tn (.region ?_)))
        refine .w (.move rfl) ?_
        refine .w (.asI ((i + 1 : Nat) : Int) (.bin rfl rfl (BinR.add_i (by first | (constructor <;> omega) | (constructor <;> simp <;> omega))))) ?_
        refine .w (.assign rfl) ?_
        refine .nil ?_
        refine .hd (i + 1, m2, t2) ?_
        exact ⟨⟨by dsimp only; omega, hT2⟩, by dsimp only; omega⟩
      · skip
        refine .exit (.then_exit (.then_exit (.block_exit (.tn (.seq (.region ?_))))))
        refine .w (.move rfl) ?_
        refine .cb (f11_spec p a b sv (BitVec.ofNat 64 (sumS S)) S m hT hsb hal) body_11 ?_ (h0 := by rintro _ _ _ ⟨_, _, _, h, _⟩; exact h)
        rintro _ _ ⟨o, hq, rfl, _, rfl⟩
        refine .ap ?_
        refine .w (.move rfl) ?_
        refine .w (.as (v' := dgV (o.getD D0)) (.extract rfl rfl) rfl) ?_
        refine .w (.as (v' := .bool o.isSome) (.extract rfl rfl) rfl) ?_
        refine .al zero_31 fun b13 => ?_
        first | refine .sa sz_31 ?_ | refine .so sz_31 ?_ | refine .sr sz_31 ?_
        refine .w (.assign rfl) ?_
        refine .nil (.tn (.seq (.region ?_)))
        refine .w (.move rfl) ?_
        refine .w (.as (v' := dgV (o.getD D0)) (.lda agg_31 rfl) rfl) ?_
        refine .c (f18_spec p a b sv (BitVec.ofNat 64 (sumS S)) S m (o.getD D0) hT hsb hal) body_18 ?_
        refine .w (.assign rfl) ?_
        refine .nil (.tn (.seq (.region ?_)))
        refine .w (.move rfl) ?_
        refine .c (f19_spec p a b sv (BitVec.ofNat 64 (sumS S)) S m hT hsb hal) body_19 ?_
        refine .w (.assign rfl) ?_
        refine .nil (.tn (.seq (.seq (.region ?_))))
        refine .w (.assign rfl) ?_
        refine .nil (.tn (.block ?_))
        refine .lp (ι := Nat × MM Int D32 × MM Int Bool) (fun x => x.1 ≤ k.length ∧ TOk S x.2.1 ∧ Grow m.get x.2.1.get) (fun T x => (17, it (x.1 : Int)) :: T) (fun T _ => T) (fun T x => mpR a itK dgV x.2.1 :: mpR b itK blV x.2.2 :: T) (fun x => k.length - x.1) (0, m, tw) [2, 7, 8, 9, 10, 13, 14, 15, 16, 18, 19, 20, 86, 87, 88, 89, 90, 91, 92, 93, 94, 95, 96, 97, 98, 99, 100, 101, 102, 103, 104, 105, 106, 107, 108, 109, 110, 111, 112, 113, 114, 115, 116, 117, 118, 119, 120] ?_ (fun x hx => ?_)
        · exact ⟨Nat.zero_le _, hT, Grow.refl _⟩
        obtain ⟨j, mx, tx⟩ := x
        obtain ⟨hj, hTx, hgx⟩ := hx
        dsimp only at hj hTx hgx ⊢
        refine .seq (.seq (.region ?_))
        refine .w (.move rfl) ?_
        refine .w (.move rfl) ?_
        refine .w (.len Tryd.underlying40 rfl) ?_
        refine .w (.bin rfl rfl BinR.lss_i) ?_
        refine .nil (.tn ?_)
        refine .cn rfl (fun hc3 => ?_) (fun hc3 => ?_)
        · skip
          refine .skip (.tn (.seq (.block ?_)))
          refine JC.draw (.one 0 (.one 1 (.one 2 (.one 3 (.one 4 (.one 5 (.one 6 (.one 7 (.one 8 (.one 9 (.one 10 (.one 11 .nil)))))))))))) (fun i => ([11] : List Nat).contains i) (fun i => ([11] : List Nat).contains i) (fun i => ([0, 1, 2, 3, 4, 6, 7, 8, 9] : List Nat).contains i) mixed (by kernel_rfl) (by decide) (by kernel_rfl) ?_
          refine .uw rfl (.move rfl) ?_
          refine .uw rfl (.move rfl) ?_
          refine .uw rfl (.move rfl) ?_
          refine .uw rfl (.ix Tryd.underlying40 sz_42 rfl rfl) ?_
          refine .uw rfl (.fieldAddr fa_42_0 rfl) ?_
          refine .w rfl (.as (v' := it (vtAt k j).1) (.ld one_3 rfl (hj := by exact vt_who' (by omega))) rfl) ?_
          refine .uw rfl (.move rfl) ?_
          refine .uw rfl (.move rfl) ?_
          refine .uw rfl (.ix Tryd.underlying40 sz_42 rfl rfl) ?_
          refine .uw rfl (.fieldAddr fa_42_1 rfl) ?_
          refine .w rfl (.as (v' := dgV (vtAt k j).2) (.lda agg_31 rfl) (congrArg (fun l : List Value => Value.agg l.toArray) (vt_dig (by omega)))) ?_
          refine .mw rfl (.cb (f10_spec p a b sv (BitVec.ofNat 64 (sumS S)) S mx tx (vtAt k j).1 (vtAt k j).2 hTx (by omega)) body_10 (h0 := by rintro _ _ _ ⟨_, _, _, _, _, _, _, h, _⟩; exact h)) ?_
          rintro _ _ _ ⟨_, ⟨m2, t2, rfl, hT2, hm2, _, ht2, _, rfl⟩, hΓ, hH⟩
          simp only [List.cons_append, List.nil_append] at hH; subst hΓ hH
          refine kp ?_
          refine .nil (.block_normal (.tn (.region ?_)))
          refine .w (.move rfl) ?_
          refine .w (.asI ((j + 1 : Nat) : Int) (.bin rfl rfl (BinR.add_i (by first | (constructor <;> omega) | (constructor <;> simp <;> omega))))) ?_
          refine .w (.assign rfl) ?_
          refine .nil ?_
          refine .hd (j + 1, m2, t2) ?_
          exact ⟨⟨by dsimp only; omega, hT2, hgx.trans (vote_grow hm2)⟩, by dsimp only; omega⟩
        · skip
          refine .exit (.then_exit (.then_exit (.block_exit (.tn (.seq (.region ?_))))))
          refine .w (.move rfl) ?_
          refine .cb (f11_spec p a b sv (BitVec.ofNat 64 (sumS S)) S mx hTx hsb hal) body_11 ?_ (h0 := by rintro _ _ _ ⟨_, _, _, h, _⟩; exact h)
          rintro _ _ ⟨o2, hq2, rfl, _, rfl⟩
          refine .ap ?_
          refine .w (.move rfl) ?_
          refine .w (.as (v' := dgV (o2.getD D0)) (.extract rfl rfl) rfl) ?_
          refine .w (.as (v' := .bool o2.isSome) (.extract rfl rfl) rfl) ?_
          refine .al zero_31 fun b18 => ?_
          first | refine .sa sz_31 ?_ | refine .so sz_31 ?_ | refine .sr sz_31 ?_
          refine .w (.assign rfl) ?_
          refine .nil (.tn (.seq (.region ?_)))
          refine .w (.move rfl) ?_
          refine .w (.as (v' := dgV v) (.lda agg_31 rfl) rfl) ?_
          refine .c (f18_spec p a b sv (BitVec.ofNat 64 (sumS S)) S mx v hTx hsb hal) body_18 ?_
          refine .w (.assign rfl) ?_
          refine .nil (.tn (.seq (.seq (.region ?_))))
          refine .join 26 119 (.bool false) ?_ ?_
          · refine .w (.move rfl) ?_
            refine .w (.move rfl) ?_
            refine .gn (g := 14) rfl (fun hg95 hg95' => ?_) (fun hg95 hg95' => ?_)
            · obtain ⟨q, hoq⟩ := Option.isSome_iff_exists.1 hg95'
              have ho2 := hgx.quoR hq hq2 hoq
              have hqq : Quo S m.get q := by rw [hoq] at hq; exact hq
              have hqx : Quo S mx.get q := by rw [ho2] at hq2; exact hq2
              have hfa := for_any S m.get q
              unfold Quo at hqq hqx
              refine .gt (g := 95) rfl rfl hg95 ?_
              refine .w (.move rfl) ?_
              refine .gt (g := 95) rfl rfl hg95 ?_
              refine .w (.as (v' := .bool false) (.not rfl) (congrArg Value.bool (by rw [ho2]; rfl))) ?_
              refine .gt (g := 95) rfl rfl hg95 ?_
              refine .w (.move rfl) ?_
              refine .gt (g := 98) rfl rfl rfl ?_
              refine .w (.as (v' := dgV (o2.getD D0)) (.lda agg_31 rfl) rfl) ?_
              refine .gt (g := 98) rfl rfl rfl ?_
              refine .w (.as (v' := dgV (o.getD D0)) (.lda agg_31 rfl) rfl) ?_
              refine .gt (g := 98) rfl rfl rfl ?_
              refine .w (.as (v' := .bool false) (.bin rfl rfl (neq_dig)) (congrArg Value.bool (by rw [ho2, hoq]; simp))) ?_
              refine .gt (g := 95) rfl rfl hg95 ?_
              refine .w (.pick0 rfl rfl rfl) ?_
              refine .gt (g := 95) rfl rfl hg95 ?_
              refine .w (.move rfl) ?_
              refine .gt (g := 103) rfl rfl rfl ?_
              refine .w (.move rfl) ?_
              refine .gt (g := 103) rfl rfl rfl ?_
              refine .w (.as (v' := .bool false) (.not rfl) (congrArg Value.bool (by rw [hoq, decide_eq_true (show sumS S < 3 * forA S m.get ((some q).getD D0) by show sumS S < 3 * forA S m.get q; omega)]; rfl))) ?_
              refine .gt (g := 95) rfl rfl hg95 ?_
              refine .w (.pick0 rfl rfl rfl) ?_
              refine .gt (g := 95) rfl rfl hg95 ?_
              refine .w (.move rfl) ?_
              refine .gt (g := 107) rfl rfl rfl ?_
              refine .w (.move rfl) ?_
              refine .gt (g := 107) rfl rfl rfl ?_
              refine .w (.as (v' := .bool false) (.not rfl) (congrArg Value.bool (by rw [decide_eq_true (by omega)]; rfl))) ?_
              refine .gt (g := 95) rfl rfl hg95 ?_
              refine .w (.pick0 rfl rfl rfl) ?_
              refine .gt (g := 95) rfl rfl hg95 ?_
              refine .w (.move rfl) ?_
              refine .gt (g := 111) rfl rfl rfl ?_
              refine .w (.as (v' := dgV v) (.lda agg_31 rfl) rfl) ?_
              refine .gt (g := 111) rfl rfl rfl ?_
              refine .w (.as (v' := dgV (o.getD D0)) (.lda agg_31 rfl) rfl) ?_
              refine .gt (g := 111) rfl rfl rfl ?_
              refine .w (.bin rfl rfl (neq_dig)) ?_
              refine .gt (g := 111) rfl rfl rfl ?_
              refine .w (.move rfl) ?_
              refine .gn (g := 114) rfl (fun hg115 hg115' => ?_) (fun hg115 hg115' => ?_)
              · have hne : v ≠ q := by rw [hoq] at hg115'; exact hg115'
                have hap := for_apart (S := S) (g := mx.get) hne
                refine .gt (g := 115) rfl rfl hg115 ?_
                refine .w (.asF (.move rfl)) ?_
                refine .gt (g := 111) rfl rfl rfl ?_
                refine .w (.pick1 rfl hg115 rfl) ?_
                refine .gt (g := 95) rfl rfl hg95 ?_
                refine .w (.pick0 rfl rfl rfl) ?_
                refine .w (.pick1 rfl hg95 rfl) ?_
                refine .nil ?_
                refine .head () (by first | (refine ⟨by first | rfl | exact congrArg (fun b => some (Value.bool b)) (by first | exact (decide_eq_true (by omega)).symm | exact (decide_eq_false (by omega)).symm | exact decide_eq_decide.2 (by omega)) | (simp [*]; done) | (show some _ = some _; simp [*]; done), ?_⟩; repeat (first | exact trivial | refine ⟨rfl, ?_⟩))) (fun _ h => h) (Picks.perm (by repeat (first | exact Picks.nil _ | apply Picks.cons | exact Pull.here _ _ | apply Pull.there))) ?_
                trivial
              · refine .gf (g := 115) rfl rfl hg115 (by decide) ?_
                refine .gt (g := 111) rfl rfl rfl ?_
                refine .w (.pick0 rfl hg115 rfl) ?_
                refine .gt (g := 95) rfl rfl hg95 ?_
                refine .w (.pick0 rfl rfl rfl) ?_
                refine .w (.pick1 rfl hg95 rfl) ?_
                refine .nil ?_
                refine .head () (by first | (refine ⟨by first | rfl | exact congrArg (fun b => some (Value.bool b)) (by first | exact (decide_eq_true (by omega)).symm | exact (decide_eq_false (by omega)).symm | exact decide_eq_decide.2 (by omega)) | (simp [*]; done) | (show some _ = some _; simp [*]; done), ?_⟩; repeat (first | exact trivial | refine ⟨rfl, ?_⟩))) (fun _ h => h) (Picks.perm (by repeat (first | exact Picks.nil _ | apply Picks.cons | exact Pull.here _ _ | apply Pull.there))) ?_
                trivial
            · refine .gf (g := 95) rfl rfl hg95 (by decide) ?_
              refine .gf (g := 95) rfl rfl hg95 (by decide) ?_
              refine .gf (g := 95) rfl rfl hg95 (by decide) ?_
              refine .gu (g := 98) rfl rfl (by decide) ?_
              refine .gu (g := 98) rfl rfl (by decide) ?_
              refine .gu (g := 98) rfl rfl (by decide) ?_
              refine .gf (g := 95) rfl rfl hg95 (by decide) ?_
              refine .gf (g := 95) rfl rfl hg95 (by decide) ?_
              refine .gu (g := 103) rfl rfl (by decide) ?_
              refine .gu (g := 103) rfl rfl (by decide) ?_
              refine .gf (g := 95) rfl rfl hg95 (by decide) ?_
              refine .gf (g := 95) rfl rfl hg95 (by decide) ?_
              refine .gu (g := 107) rfl rfl (by decide) ?_
              refine .gu (g := 107) rfl rfl (by decide) ?_
              refine .gf (g := 95) rfl rfl hg95 (by decide) ?_
              refine .gf (g := 95) rfl rfl hg95 (by decide) ?_
              refine .gu (g := 111) rfl rfl (by decide) ?_
              refine .gu (g := 111) rfl rfl (by decide) ?_
              refine .gu (g := 111) rfl rfl (by decide) ?_
              refine .gu (g := 111) rfl rfl (by decide) ?_
              refine .gu (g := 115) rfl rfl (by decide) ?_
              refine .gu (g := 111) rfl rfl (by decide) ?_
              refine .gf (g := 95) rfl rfl hg95 (by decide) ?_
              refine .w (.pick0 rfl hg95 rfl) ?_
              refine .nil ?_
              refine .head () (by first | (refine ⟨by first | rfl | exact congrArg (fun b => some (Value.bool b)) (by first | exact (decide_eq_true (by omega)).symm | exact (decide_eq_false (by omega)).symm | exact decide_eq_decide.2 (by omega)) | (simp [*]; done) | (show some _ = some _; simp [*]; done), ?_⟩; repeat (first | exact trivial | refine ⟨rfl, ?_⟩))) (fun _ h => h) (Picks.perm (by repeat (first | exact Picks.nil _ | apply Picks.cons | exact Pull.here _ _ | apply Pull.there))) ?_
              trivial
          · refine .nil (.tn ?_)
            refine .cf rfl ?_
            refine .skip (.tn (.seq (.region ?_)))
            refine .w (.move rfl) ?_
            refine .w (.assign rfl) ?_
            refine .nil (.tn (.ret ?_))
            exact .dn [] [] (res1 rfl (.tmp rfl)) ⟨rfl, rfl, rfl⟩

theorem f6b_spec (u vl vk : Value) (S : List W64) (l k : List VtE) (v : D32) (hg : ¬ newE S = 0) :
    Spec Tryd.prog 6 #[u, vl, vk, (dgV v)] [Res.var 0 [u64 9223372036854775808, u64 0, u64 0, u64 0], Res.rd u S.length 1 (S.map u64), Res.rd vl l.length 33 (bks vtC l), Res.rd vk k.length 33 (bks vtC k)] []
      (fun r Γ' H' => r = (.bool true) ∧ Γ' = [] ∧ H' = []) := by
  refine Spec.of_args Tryd.func6 rfl Tryd.ntmps6 (by simp) fun w => ?_
  refine JC.know (φ := l.length ≤ 9223372036854775807) (fun w hs => by obtain ⟨_, _, _, _, _, _, h⟩ := hs.rdForm (.tail _ (.tail _ (.head _))); unfold maxLen at h; omega) fun _ => ?_
  refine JC.know (φ := k.length ≤ 9223372036854775807) (fun w hs => by obtain ⟨_, _, _, _, _, _, h⟩ := hs.rdForm (.tail _ (.tail _ (.tail _ (.head _)))); unfold maxLen at h; omega) fun _ => ?_
  refine .seq (.region ?_)
  refine .bx fun b7 => ?_
  refine .w (.assign rfl) ?_
  refine .nil (.tn (.seq (.region ?_)))
  refine .c f8_spec body_8 ?_
  refine .w (.assign rfl) ?_
  refine .nil (.tn (.seq (.region ?_)))
  refine .w (.move rfl) ?_
  refine .c (f9no_spec u S hg) body_9 ?_
  refine .w (.move rfl) ?_
  refine .w (.extract rfl rfl) ?_
  refine .w (.extract rfl rfl) ?_
  refine .w (.assign rfl) ?_
  refine .w (.assign rfl) ?_
  refine .nil (.tn (.seq (.seq (.region ?_))))
  refine .w (.move rfl) ?_
  refine .w (.as (v' := .bool true) (.bin rfl rfl (BinR.eql_p Tryd.underlying25)) rfl) ?_
  refine .w (.move rfl) ?_
  refine .gf (g := 29) rfl rfl rfl (by decide) ?_
  refine .gf (g := 29) rfl rfl rfl (by decide) ?_
  refine .gf (g := 29) rfl rfl rfl (by decide) ?_
  refine .w (.pick1 rfl rfl rfl) ?_
  refine .w (.move rfl) ?_
  refine .gf (g := 34) rfl rfl rfl (by decide) ?_
  refine .gf (g := 34) rfl rfl rfl (by decide) ?_
  refine .gf (g := 34) rfl rfl rfl (by decide) ?_
  refine .w (.pick1 rfl rfl rfl) ?_
  refine .nil (.tn ?_)
  refine .ct rfl ?_
  refine .seq (.region ?_)
  refine .w (.move rfl) ?_
  refine .w (.assign rfl) ?_
  refine .nil (.tn (.ret (.then_ret ?_)))
  exact .dn [] [] (res1 rfl (.tmp rfl)) ⟨rfl, rfl, rfl⟩

theorem f6_spec (u vl vk : Value) (S : List W64) (l k : List VtE) (v : D32) :
    Spec Tryd.prog 6 #[u, vl, vk, (dgV v)] [Res.var 0 [u64 9223372036854775808, u64 0, u64 0, u64 0], Res.rd u S.length 1 (S.map u64), Res.rd vl l.length 33 (bks vtC l), Res.rd vk k.length 33 (bks vtC k)] [] (fun r Γ' H' => r = (.bool true) ∧ Γ' = [] ∧ H' = []) := by
  by_cases hg : newE S = 0
  · exact f6a_spec u vl vk S l k v hg
  · exact f6b_spec u vl vk S l k v hg
end Go.Proofs.YtmbpngnamnoiaaaDoor
