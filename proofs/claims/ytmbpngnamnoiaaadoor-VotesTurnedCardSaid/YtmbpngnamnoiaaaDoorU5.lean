/- Walk: VotesTurned. -/
import Derived.Test.YtmbpngnamnoiaaaDoorU1
namespace Go.Proofs.YtmbpngnamnoiaaaDoor
open Go.RowKit
set_option maxRecDepth 100000
set_option linter.unusedVariables false
set_option linter.unusedSimpArgs false
set_option maxHeartbeats 2000000 in
theorem f3a_spec (u vl : Value) (S : List W64) (l : List (BitVec 8)) (v : BitVec 8) (hg : newE S = 0) :
    Spec Tryd.prog 3 #[u, vl, (u8 v)] [Res.var 0 [u64 9223372036854775808, u64 0, u64 0, u64 0], Res.rd u S.length 1 (S.map u64), Res.rd vl l.length 1 (l.map u8)] []
      (fun r Γ' H' => r = (.bool true) ∧ Γ' = [] ∧ H' = []) := by
  refine Spec.of_args Tryd.func3 rfl Tryd.ntmps3 (by simp) fun w => ?_
  refine JC.know (φ := l.length ≤ 9223372036854775807) (fun w hs => by obtain ⟨_, _, _, _, _, _, h⟩ := hs.rdForm (.tail _ (.tail _ (.head _))); unfold maxLen at h; omega) fun _ => ?_
  obtain ⟨hg1, hg2, hg3⟩ := newE_ok hg
  have hsb : sumS S < 18446744073709551616 := by omega
  have hal : (BitVec.ofNat 64 (sumS S)).toNat = sumS S := ofW hsb
  refine .seq (.region ?_)
  refine .w (.assign rfl) ?_
  refine .nil (.tn (.seq (.region ?_)))
  refine .c f8_spec body_8 ?_
  refine .w (.assign rfl) ?_
  refine .nil (.tn (.seq (.region ?_)))
  refine .w (.move rfl) ?_
  refine .cb (f9ok_spec u S hg1 hg2 hg3) body_9 ?_ (h0 := by rintro _ _ _ ⟨_, _, _, _, _, h, _⟩; exact h)
  rintro _ _ ⟨p, a, b, sv, rfl, _, rfl⟩
  refine .ap ?_
  refine .w (.move rfl) ?_
  refine .w (.extract rfl rfl) ?_
  refine .w (.extract rfl rfl) ?_
  refine .w (.assign rfl) ?_
  refine .w (.assign rfl) ?_
  refine .nil (.tn (.seq (.region ?_)))
  refine .w (.move rfl) ?_
  refine .cb (f9ok_spec u S hg1 hg2 hg3) body_9 ?_ (h0 := by rintro _ _ _ ⟨_, _, _, _, _, h, _⟩; exact h)
  rintro _ _ ⟨p2, a2, b2, sv2, rfl, _, rfl⟩
  refine .ap ?_
  refine .w (.move rfl) ?_
  refine .w (.extract rfl rfl) ?_
  refine .w (.extract rfl rfl) ?_
  refine .w (.assign rfl) ?_
  refine .w (.assign rfl) ?_
  refine .nil (.tn (.seq (.seq (.region ?_))))
  refine .w (.move rfl) ?_
  refine .w (.as (v' := .bool false) (.bin rfl rfl (BinR.eql_p Tryd.underlying25)) rfl) ?_
  refine .w (.move rfl) ?_
  refine .gn (g := 32) rfl (fun hg21 hg21' => ?_) (fun hg21 hg21' => ?_)
  · refine .gf (g := 33) rfl rfl hg21 (by decide) ?_
    refine .gf (g := 33) rfl rfl hg21 (by decide) ?_
    refine .w (.pick1 rfl hg21 rfl) ?_
    refine .w (.move rfl) ?_
    refine .gf (g := 37) rfl rfl rfl (by decide) ?_
    refine .gf (g := 37) rfl rfl rfl (by decide) ?_
    refine .gf (g := 37) rfl rfl rfl (by decide) ?_
    refine .w (.pick1 rfl rfl rfl) ?_
    refine .nil (.tn ?_)
    refine .k1 rfl rfl ?_
    refine .seq (.region ?_)
    refine .w (.move rfl) ?_
    refine .w (.assign rfl) ?_
    refine .nil (.tn (.ret (.then_ret ?_)))
    exact .dn [] [] (res1 rfl (.tmp rfl)) ⟨rfl, rfl, rfl⟩
  · refine .gt (g := 33) rfl rfl hg21 ?_
    refine .w (.move rfl) ?_
    refine .gt (g := 33) rfl rfl hg21 ?_
    refine .w (.as (v' := .bool false) (.bin rfl rfl (BinR.eql_p Tryd.underlying25)) rfl) ?_
    refine .w (.pick0 rfl hg21 rfl) ?_
    refine .w (.move rfl) ?_
    refine .gt (g := 37) rfl rfl rfl ?_
    refine .w (.move rfl) ?_
    refine .gt (g := 37) rfl rfl rfl ?_
    refine .w (.len Tryd.underlying23 rfl) ?_
    refine .gt (g := 37) rfl rfl rfl ?_
    refine .w (.bin rfl rfl BinR.gtr_i) ?_
    refine .w (.pick0 rfl rfl rfl) ?_
    refine .nil (.tn ?_)
    refine .cn rfl (fun hc1 => ?_) (fun hc1 => ?_)
    · skip
      refine .seq (.region ?_)
      refine .w (.move rfl) ?_
      refine .w (.assign rfl) ?_
      refine .nil (.tn (.ret (.then_ret ?_)))
      exact .dn [] [] (res1 rfl (.tmp rfl)) ⟨rfl, rfl, rfl⟩
    · skip
      refine .skip (.tn (.seq (.seq (.region ?_))))
      refine .w (.assign rfl) ?_
      refine .nil (.tn (.block ?_))
      refine .lp (ι := Nat × MM Int D32 × MM Int D32) (fun x => x.1 ≤ l.length ∧ TOk S x.2.1 ∧ TOk S x.2.2 ∧ x.2.1.get = inG S l 0 x.1 ∧ x.2.2.get = inG S l (l.length - x.1) l.length) (fun T x => (12, it (x.1 : Int)) :: T) (fun T _ => T) (fun T x => mpR a itK dgV x.2.1 :: mpR b itK blV MM.nil :: mpR a2 itK dgV x.2.2 :: mpR b2 itK blV MM.nil :: T) (fun x => l.length - x.1) (0, MM.nil, MM.nil) [1, 2, 6, 7, 8, 10, 14, 15, 16, 17, 18, 19, 70, 71, 72, 73, 74, 75, 76, 77, 78, 79, 80, 81, 82, 83, 84, 85, 86, 87, 88, 89, 90, 91, 92, 93, 94, 95, 96, 97, 98, 99, 100, 101, 102, 103, 104, 105, 106, 107, 108, 109, 110, 111, 112, 113, 114, 115, 116] ?_ (fun x hx => ?_)
      · exact ⟨Nat.zero_le _, tok_nil S, tok_nil S, (inG_nil S l 0).symm, (inG_nil S l l.length).symm⟩
      obtain ⟨x, m, mx⟩ := x
      obtain ⟨hx, hT, hTx, hgm, hgx⟩ := hx
      dsimp only at hx hT hTx hgm hgx ⊢
      refine .seq (.seq (.region ?_))
      refine .w (.move rfl) ?_
      refine .w (.move rfl) ?_
      refine .w (.len Tryd.underlying23 rfl) ?_
      refine .w (.bin rfl rfl BinR.lss_i) ?_
      refine .nil (.tn ?_)
      refine .cn rfl (fun hc2 => ?_) (fun hc2 => ?_)
      · skip
        refine .skip (.tn (.seq (.block (.seq (.region ?_)))))
        refine .w (.move rfl) ?_
        refine .w (.len Tryd.underlying23 rfl) ?_
        refine .w (.asI ((l.length : Int) - 1) (.bin rfl rfl (BinR.sub_i (by first | (constructor <;> omega) | (constructor <;> simp <;> omega))))) ?_
        refine .w (.move rfl) ?_
        refine .w (.asI (((l.length - 1 - x) : Nat) : Int) (.bin rfl rfl (BinR.sub_i (by first | (constructor <;> omega) | (constructor <;> simp <;> omega))))) ?_
        refine .w (.assign rfl) ?_
        refine .nil (.tn (.seq (.region ?_)))
        refine .w (.move rfl) ?_
        refine .w (.move rfl) ?_
        refine .w (.move rfl) ?_
        refine .w (.move rfl) ?_
        refine .w (.ix1 Tryd.underlying23 sz_5 rfl rfl) ?_
        refine .w (.as (v' := u8 (l.getD x 0)) (.ld one_5 rfl (hj := by exact gm (d := 0) (by omega))) rfl) ?_
        refine .w (.as (v' := dgV (dg1 (l.getD x 0))) (.build bld_31 rfl rfl) rfl) ?_
        refine .cb (f10_spec p a b sv (BitVec.ofNat 64 (sumS S)) S m MM.nil (x : Int) (dg1 (l.getD x 0)) hT (by omega)) body_10 ?_ (h0 := by rintro _ _ _ ⟨_, _, _, _, _, _, _, h, _⟩; exact h)
        rintro _ _ ⟨m2, t2, rfl, hT2, hm2, _, ht2, _, rfl⟩
        refine .ap ?_
        obtain ⟨hmu, hne⟩ := up_vote hgm hm2
        rw [if_neg hne] at ht2
        subst ht2
        refine .nil (.tn (.region ?_))
        refine .w (.move rfl) ?_
        refine .w (.move rfl) ?_
        refine .w (.move rfl) ?_
        refine .w (.move rfl) ?_
        refine .w (.ix1 Tryd.underlying23 sz_5 rfl rfl) ?_
        refine .w (.as (v' := u8 (l.getD (l.length - 1 - x) 0)) (.ld one_5 rfl (hj := by exact gm (d := 0) (by omega))) rfl) ?_
        refine .w (.as (v' := dgV (dg1 (l.getD (l.length - 1 - x) 0))) (.build bld_31 rfl rfl) rfl) ?_
        refine .cb (f10_spec p2 a2 b2 sv2 (BitVec.ofNat 64 (sumS S)) S mx MM.nil ((l.length - 1 - x) : Nat) (dg1 (l.getD (l.length - 1 - x) 0)) hTx (by omega)) body_10 ?_ (h0 := by rintro _ _ _ ⟨_, _, _, _, _, _, _, h, _⟩; exact h)
        rintro _ _ ⟨m4, t4, rfl, hT4, hm4, _, ht4, _, rfl⟩
        refine .ap ?_
        obtain ⟨hmu2, hne2⟩ := dn_vote (x := (l.length - 1 - x)) (n := l.length) (by rw [show (l.length - 1 - x) + 1 = l.length - x by omega]; exact hgx) (by omega) hm4
        rw [if_neg hne2] at ht4
        subst ht4
        refine .nil (.block_normal (.tn (.region ?_)))
        refine .w (.move rfl) ?_
        refine .w (.asI ((x + 1 : Nat) : Int) (.bin rfl rfl (BinR.add_i (by first | (constructor <;> omega) | (constructor <;> simp <;> omega))))) ?_
        refine .w (.assign rfl) ?_
        refine .nil ?_
        refine .hd (x + 1, m2, m4) ?_
        exact ⟨⟨by dsimp only; omega, hT2, hT4, hmu, by dsimp only; rw [show l.length - (x + 1) = (l.length - 1 - x) by omega]; exact hmu2⟩, by dsimp only; omega⟩
      · obtain rfl : x = l.length := by omega
        have hmm : mx.get = m.get := by rw [hgm, hgx, Nat.sub_self]
        refine .exit (.then_exit (.then_exit (.block_exit (.tn (.seq (.region ?_))))))
        refine .w (.move rfl) ?_
        refine .cb (f11_spec p a b sv (BitVec.ofNat 64 (sumS S)) S m hT hsb hal) body_11 ?_ (h0 := by rintro _ _ _ ⟨_, _, _, h, _⟩; exact h)
        rintro _ _ ⟨o, hq, rfl, _, rfl⟩
        refine .ap ?_
        refine .w (.move rfl) ?_
        refine .w (.as (v' := dgV (o.getD D0)) (.extract rfl rfl) rfl) ?_
        refine .w (.as (v' := .bool o.isSome) (.extract rfl rfl) rfl) ?_
        refine .al zero_31 fun b14 => ?_
        first | refine .sa sz_31 ?_ | refine .so sz_31 ?_ | refine .sr sz_31 ?_
        refine .w (.assign rfl) ?_
        refine .nil (.tn (.seq (.region ?_)))
        refine .w (.move rfl) ?_
        refine .cb (f11_spec p2 a2 b2 sv2 (BitVec.ofNat 64 (sumS S)) S mx hTx hsb hal) body_11 ?_ (h0 := by rintro _ _ _ ⟨_, _, _, h, _⟩; exact h)
        rintro _ _ ⟨o2, hq2, rfl, _, rfl⟩
        refine .ap ?_
        rw [hmm] at hq2
        obtain rfl := QuoR.uniq hq hq2
        refine .w (.move rfl) ?_
        refine .w (.as (v' := dgV (o.getD D0)) (.extract rfl rfl) rfl) ?_
        refine .w (.as (v' := .bool o.isSome) (.extract rfl rfl) rfl) ?_
        refine .al zero_31 fun b16 => ?_
        first | refine .sa sz_31 ?_ | refine .so sz_31 ?_ | refine .sr sz_31 ?_
        refine .w (.assign rfl) ?_
        refine .nil (.tn (.seq (.region ?_)))
        refine .w (.move rfl) ?_
        refine .w (.move rfl) ?_
        refine .w (.as (v' := dgV (dg1 v)) (.build bld_31 rfl rfl) rfl) ?_
        refine .c (f12_spec p a b sv (BitVec.ofNat 64 (sumS S)) S m (dg1 v) hT hsb) body_12 ?_
        refine .w (.assign rfl) ?_
        refine .nil (.tn (.seq (.region ?_)))
        refine .w (.move rfl) ?_
        refine .w (.move rfl) ?_
        refine .w (.as (v' := dgV (dg1 v)) (.build bld_31 rfl rfl) rfl) ?_
        refine .c (f12_spec p2 a2 b2 sv2 (BitVec.ofNat 64 (sumS S)) S mx (dg1 v) hTx hsb) body_12 ?_
        rw [hmm]
        refine .w (.assign rfl) ?_
        refine .nil (.tn (.seq (.region ?_)))
        refine .w (.move rfl) ?_
        refine .w (.move rfl) ?_
        refine .gt (g := 89) rfl rfl rfl ?_
        refine .w (.as (v' := dgV (o.getD D0)) (.lda agg_31 rfl) rfl) ?_
        refine .gt (g := 89) rfl rfl rfl ?_
        refine .w (.as (v' := dgV (o.getD D0)) (.lda agg_31 rfl) rfl) ?_
        refine .gt (g := 89) rfl rfl rfl ?_
        refine .w (.as (v' := .bool true) (.bin rfl rfl (eql_dig)) (congrArg Value.bool (by simp))) ?_
        refine .w (.pick1 rfl rfl rfl) ?_
        refine .w (.move rfl) ?_
        refine .gt (g := 94) rfl rfl rfl ?_
        refine .w (.move rfl) ?_
        refine .gt (g := 94) rfl rfl rfl ?_
        refine .w (.move rfl) ?_
        refine .gt (g := 94) rfl rfl rfl ?_
        refine .w (.as (v' := .bool true) (.bin rfl rfl (BinR.eql_b Tryd.underlying4)) (congrArg Value.bool (by simp))) ?_
        refine .w (.pick1 rfl rfl rfl) ?_
        refine .w (.move rfl) ?_
        refine .gt (g := 99) rfl rfl rfl ?_
        refine .w (.move rfl) ?_
        refine .gt (g := 99) rfl rfl rfl ?_
        refine .w (.move rfl) ?_
        refine .gt (g := 99) rfl rfl rfl ?_
        refine .w (.as (v' := .bool true) (.bin rfl rfl (BinR.eql_u64)) (congrArg Value.bool (by simp))) ?_
        refine .w (.pick1 rfl rfl rfl) ?_
        refine .w (.move rfl) ?_
        refine .gt (g := 104) rfl rfl rfl ?_
        refine .w (.move rfl) ?_
        refine .gt (g := 104) rfl rfl rfl ?_
        refine .c (f13_spec p a b sv (BitVec.ofNat 64 (sumS S)) S m hT hsb) body_13 ?_
        refine .gt (g := 104) rfl rfl rfl ?_
        refine .w (.move rfl) ?_
        refine .gt (g := 104) rfl rfl rfl ?_
        refine .c (f13_spec p2 a2 b2 sv2 (BitVec.ofNat 64 (sumS S)) S mx hTx hsb) body_13 ?_
        rw [hmm]
        refine .gt (g := 104) rfl rfl rfl ?_
        refine .w (.as (v' := .bool true) (.bin rfl rfl (BinR.eql_u64)) (congrArg Value.bool (by simp))) ?_
        refine .w (.pick1 rfl rfl rfl) ?_
        refine .w (.move rfl) ?_
        refine .gt (g := 111) rfl rfl rfl ?_
        refine .w (.move rfl) ?_
        refine .gt (g := 111) rfl rfl rfl ?_
        refine .cb (f14_spec p a b sv (BitVec.ofNat 64 (sumS S)) MM.nil MM.ok_nil (by simp [MM.nil]) (by simp [MM.nil])) body_14 ?_
        rintro vt _ ⟨_, _, rfl⟩
        refine .ap ?_
        rw [show sortK ((MM.nil : MM Int Bool).es.map (·.1)) = [] from by simp [sortK, MM.nil]]
        refine .gt (g := 111) rfl rfl rfl ?_
        refine .w (.as (v' := it 0) (.len Tryd.underlying37 rfl) rfl) ?_
        refine .gt (g := 111) rfl rfl rfl ?_
        refine .w (.as (v' := .bool true) (.bin rfl rfl BinR.eql_i) (congrArg Value.bool (by simp))) ?_
        refine .w (.pick1 rfl rfl rfl) ?_
        refine .w (.assign rfl) ?_
        refine .nil (.tn (.ret ?_))
        exact .dn [] [] (res1 rfl (.tmp rfl)) ⟨rfl, rfl, rfl⟩

theorem f3b_spec (u vl : Value) (S : List W64) (l : List (BitVec 8)) (v : BitVec 8) (hg : ¬ newE S = 0) :
    Spec Tryd.prog 3 #[u, vl, (u8 v)] [Res.var 0 [u64 9223372036854775808, u64 0, u64 0, u64 0], Res.rd u S.length 1 (S.map u64), Res.rd vl l.length 1 (l.map u8)] []
      (fun r Γ' H' => r = (.bool true) ∧ Γ' = [] ∧ H' = []) := by
  refine Spec.of_args Tryd.func3 rfl Tryd.ntmps3 (by simp) fun w => ?_
  refine JC.know (φ := l.length ≤ 9223372036854775807) (fun w hs => by obtain ⟨_, _, _, _, _, _, h⟩ := hs.rdForm (.tail _ (.tail _ (.head _))); unfold maxLen at h; omega) fun _ => ?_
  refine .seq (.region ?_)
  refine .w (.assign rfl) ?_
  refine .nil (.tn (.seq (.region ?_)))
  refine .c f8_spec body_8 ?_
  refine .w (.assign rfl) ?_
  refine .nil (.tn (.seq (.region ?_)))
  refine .w (.move rfl) ?_
  refine .c (f9no_spec u S hg) body_9 ?_
  refine .w (.move rfl) ?_
  refine .w (.extract rfl rfl) ?_
  refine .w (.extract rfl rfl) ?_
  refine .w (.assign rfl) ?_
  refine .w (.assign rfl) ?_
  refine .nil (.tn (.seq (.region ?_)))
  refine .w (.move rfl) ?_
  refine .c (f9no_spec u S hg) body_9 ?_
  refine .w (.move rfl) ?_
  refine .w (.extract rfl rfl) ?_
  refine .w (.extract rfl rfl) ?_
  refine .w (.assign rfl) ?_
  refine .w (.assign rfl) ?_
  refine .nil (.tn (.seq (.seq (.region ?_))))
  refine .w (.move rfl) ?_
  refine .w (.as (v' := .bool true) (.bin rfl rfl (BinR.eql_p Tryd.underlying25)) rfl) ?_
  refine .w (.move rfl) ?_
  refine .gn (g := 32) rfl (fun hg21 hg21' => ?_) (fun hg21 hg21' => ?_)
  · refine .gf (g := 33) rfl rfl hg21 (by decide) ?_
    refine .gf (g := 33) rfl rfl hg21 (by decide) ?_
    refine .w (.pick1 rfl hg21 rfl) ?_
    refine .w (.move rfl) ?_
    refine .gf (g := 37) rfl rfl rfl (by decide) ?_
    refine .gf (g := 37) rfl rfl rfl (by decide) ?_
    refine .gf (g := 37) rfl rfl rfl (by decide) ?_
    refine .w (.pick1 rfl rfl rfl) ?_
    refine .nil (.tn ?_)
    refine .ct rfl ?_
    refine .seq (.region ?_)
    refine .w (.move rfl) ?_
    refine .w (.assign rfl) ?_
    refine .nil (.tn (.ret (.then_ret ?_)))
    exact .dn [] [] (res1 rfl (.tmp rfl)) ⟨rfl, rfl, rfl⟩
  · refine .gt (g := 33) rfl rfl hg21 ?_
    refine .w (.move rfl) ?_
    refine .gt (g := 33) rfl rfl hg21 ?_
    refine .w (.bin rfl rfl (BinR.eql_p Tryd.underlying25)) ?_
    refine .w (.pick0 rfl hg21 rfl) ?_
    refine .w (.move rfl) ?_
    refine .gf (g := 37) rfl rfl rfl (by decide) ?_
    refine .gf (g := 37) rfl rfl rfl (by decide) ?_
    refine .gf (g := 37) rfl rfl rfl (by decide) ?_
    refine .w (.pick1 rfl rfl rfl) ?_
    refine .nil (.tn ?_)
    refine .ct rfl ?_
    refine .seq (.region ?_)
    refine .w (.move rfl) ?_
    refine .w (.assign rfl) ?_
    refine .nil (.tn (.ret (.then_ret ?_)))
    exact .dn [] [] (res1 rfl (.tmp rfl)) ⟨rfl, rfl, rfl⟩

theorem f3_spec (u vl : Value) (S : List W64) (l : List (BitVec 8)) (v : BitVec 8) :
    Spec Tryd.prog 3 #[u, vl, (u8 v)] [Res.var 0 [u64 9223372036854775808, u64 0, u64 0, u64 0], Res.rd u S.length 1 (S.map u64), Res.rd vl l.length 1 (l.map u8)] [] (fun r Γ' H' => r = (.bool true) ∧ Γ' = [] ∧ H' = []) := by
  by_cases hg : newE S = 0
  · exact f3a_spec u vl S l v hg
  · exact f3b_spec u vl S l v hg
end Go.Proofs.YtmbpngnamnoiaaaDoor
