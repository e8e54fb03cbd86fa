/- Walk: VotesCross. -/
import Derived.Test.YtmbpngnamnoiaaaDoorU1
namespace Go.Proofs.YtmbpngnamnoiaaaDoor
open Go.RowKit
set_option maxRecDepth 100000
set_option linter.unusedVariables false
set_option linter.unusedSimpArgs false
set_option maxHeartbeats 2000000 in
theorem f4a_spec (u vl vk : Value) (S : List W64) (l k : List VtE) (hg : newE S = 0) :
    Spec Tryd.prog 4 #[u, vl, vk] [Res.var 0 [u64 9223372036854775808, u64 0, u64 0, u64 0], Res.rd u S.length 1 (S.map u64), Res.rd vl l.length 33 (bks vtC l), Res.rd vk k.length 33 (bks vtC k)] []
      (fun r Γ' H' => r = (.bool true) ∧ Γ' = [] ∧ H' = []) := by
  refine Spec.of_args Tryd.func4 rfl Tryd.ntmps4 (by simp) fun w => ?_
  refine JC.know (φ := l.length ≤ 9223372036854775807) (fun w hs => by obtain ⟨_, _, _, _, _, _, h⟩ := hs.rdForm (.tail _ (.tail _ (.head _))); unfold maxLen at h; omega) fun _ => ?_
  refine JC.know (φ := k.length ≤ 9223372036854775807) (fun w hs => by obtain ⟨_, _, _, _, _, _, h⟩ := hs.rdForm (.tail _ (.tail _ (.tail _ (.head _)))); unfold maxLen at h; omega) fun _ => ?_
  refine JC.know (φ := S.length ≤ 9223372036854775807) (fun w hs => by obtain ⟨_, _, _, _, _, _, h⟩ := hs.rdForm (.tail _ (.head _)); unfold maxLen at h; omega) fun _ => ?_
  obtain ⟨hg1, hg2, hg3⟩ := newE_ok hg
  have hsb : sumS S < 18446744073709551616 := by omega
  have hal : (BitVec.ofNat 64 (sumS S)).toNat = sumS S := ofW hsb
  refine .seq (.region ?_)
  refine .w (.assign rfl) ?_
  refine .nil (.tn (.seq (.region ?_)))
  refine .c f8_spec body_8 ?_
  refine .w (.assign rfl) ?_
  refine .nil (.tn (.seq (.region ?_)))
  refine .w (.move rfl) ?_
  refine .cb (f9ok_spec u S hg1 hg2 hg3) body_9 ?_ (h0 := by rintro _ _ _ ⟨_, _, _, _, _, h, _⟩; exact h)
  rintro _ _ ⟨p, a, b, sv, rfl, _, rfl⟩
  refine .ap ?_
  refine .w (.move rfl) ?_
  refine .w (.extract rfl rfl) ?_
  refine .w (.extract rfl rfl) ?_
  refine .w (.assign rfl) ?_
  refine .w (.assign rfl) ?_
  refine .nil (.tn (.seq (.region ?_)))
  refine .w (.move rfl) ?_
  refine .cb (f9ok_spec u S hg1 hg2 hg3) body_9 ?_ (h0 := by rintro _ _ _ ⟨_, _, _, _, _, h, _⟩; exact h)
  rintro _ _ ⟨p2, a2, b2, sv2, rfl, _, rfl⟩
  refine .ap ?_
  refine .w (.move rfl) ?_
  refine .w (.extract rfl rfl) ?_
  refine .w (.extract rfl rfl) ?_
  refine .w (.assign rfl) ?_
  refine .w (.assign rfl) ?_
  refine .nil (.tn (.seq (.seq (.region ?_))))
  refine .w (.move rfl) ?_
  refine .w (.as (v' := .bool false) (.bin rfl rfl (BinR.eql_p Tryd.underlying25)) rfl) ?_
  refine .w (.move rfl) ?_
  refine .gn (g := 36) rfl (fun hg21 hg21' => ?_) (fun hg21 hg21' => ?_)
  · refine .gf (g := 37) rfl rfl hg21 (by decide) ?_
    refine .gf (g := 37) rfl rfl hg21 (by decide) ?_
    refine .w (.pick1 rfl hg21 rfl) ?_
    refine .w (.move rfl) ?_
    refine .gf (g := 41) rfl rfl rfl (by decide) ?_
    refine .gf (g := 41) rfl rfl rfl (by decide) ?_
    refine .gf (g := 41) rfl rfl rfl (by decide) ?_
    refine .w (.pick1 rfl rfl rfl) ?_
    refine .w (.move rfl) ?_
    refine .gf (g := 46) rfl rfl rfl (by decide) ?_
    refine .gf (g := 46) rfl rfl rfl (by decide) ?_
    refine .gf (g := 46) rfl rfl rfl (by decide) ?_
    refine .w (.pick1 rfl rfl rfl) ?_
    refine .nil (.tn ?_)
    refine .k1 rfl rfl ?_
    refine .seq (.region ?_)
    refine .w (.move rfl) ?_
    refine .w (.assign rfl) ?_
    refine .nil (.tn (.ret (.then_ret ?_)))
    exact .dn [] [] (res1 rfl (.tmp rfl)) ⟨rfl, rfl, rfl⟩
  · refine .gt (g := 37) rfl rfl hg21 ?_
    refine .w (.move rfl) ?_
    refine .gt (g := 37) rfl rfl hg21 ?_
    refine .w (.as (v' := .bool false) (.bin rfl rfl (BinR.eql_p Tryd.underlying25)) rfl) ?_
    refine .w (.pick0 rfl hg21 rfl) ?_
    refine .w (.move rfl) ?_
    refine .gt (g := 41) rfl rfl rfl ?_
    refine .w (.move rfl) ?_
    refine .gt (g := 41) rfl rfl rfl ?_
    refine .w (.len Tryd.underlying40 rfl) ?_
    refine .gt (g := 41) rfl rfl rfl ?_
    refine .w (.bin rfl rfl BinR.gtr_i) ?_
    refine .w (.pick0 rfl rfl rfl) ?_
    refine .w (.move rfl) ?_
    refine .gn (g := 45) rfl (fun hg30 hg30' => ?_) (fun hg30 hg30' => ?_)
    · refine .gf (g := 46) rfl rfl hg30 (by decide) ?_
      refine .gf (g := 46) rfl rfl hg30 (by decide) ?_
      refine .gf (g := 46) rfl rfl hg30 (by decide) ?_
      refine .w (.pick1 rfl hg30 rfl) ?_
      refine .nil (.tn ?_)
      refine .k1 rfl rfl ?_
      refine .seq (.region ?_)
      refine .w (.move rfl) ?_
      refine .w (.assign rfl) ?_
      refine .nil (.tn (.ret (.then_ret ?_)))
      exact .dn [] [] (res1 rfl (.tmp rfl)) ⟨rfl, rfl, rfl⟩
    · refine .gt (g := 46) rfl rfl hg30 ?_
      refine .w (.move rfl) ?_
      refine .gt (g := 46) rfl rfl hg30 ?_
      refine .w (.len Tryd.underlying40 rfl) ?_
      refine .gt (g := 46) rfl rfl hg30 ?_
      refine .w (.bin rfl rfl BinR.gtr_i) ?_
      refine .w (.pick0 rfl hg30 rfl) ?_
      refine .nil (.tn ?_)
      refine .cn rfl (fun hc1 => ?_) (fun hc1 => ?_)
      · skip
        refine .seq (.region ?_)
        refine .w (.move rfl) ?_
        refine .w (.assign rfl) ?_
        refine .nil (.tn (.ret (.then_ret ?_)))
        exact .dn [] [] (res1 rfl (.tmp rfl)) ⟨rfl, rfl, rfl⟩
      · skip
        refine .skip (.tn (.seq (.seq (.region ?_))))
        refine .w (.assign rfl) ?_
        refine .nil (.tn (.block ?_))
        refine .lp (ι := Nat × MM Int D32 × MM Int Bool) (fun x => x.1 ≤ l.length ∧ TOk S x.2.1) (fun T x => (12, it (x.1 : Int)) :: T) (fun T _ => T) (fun T x => mpR a itK dgV x.2.1 :: mpR b itK blV x.2.2 :: T) (fun x => l.length - x.1) (0, MM.nil, MM.nil) [0, 1, 2, 6, 7, 8, 10, 13, 14, 15, 16, 17, 18, 19, 20, 21, 22, 23, 70, 71, 72, 73, 74, 75, 76, 77, 78, 79, 80, 81, 82, 83, 84, 85, 86, 88, 89, 90, 91, 92, 93, 94, 95, 96, 97, 98, 99, 100, 101, 102, 103, 104, 105, 106, 107, 108, 109, 110, 111, 112, 113, 114, 115, 116, 117, 118, 119, 120, 121, 122, 123, 124, 125, 126, 127, 128, 129, 130, 131, 132, 133, 134, 135, 136, 137, 138, 139, 140, 141, 142, 143, 144, 145, 146, 147, 148, 149] ?_ (fun x hx => ?_)
        · exact ⟨Nat.zero_le _, tok_nil S⟩
        obtain ⟨i, m, tw⟩ := x
        obtain ⟨hi, hT⟩ := hx
        dsimp only at hi hT ⊢
        refine .seq (.seq (.region ?_))
        refine .w (.move rfl) ?_
        refine .w (.move rfl) ?_
        refine .w (.len Tryd.underlying40 rfl) ?_
        refine .w (.bin rfl rfl BinR.lss_i) ?_
        refine .nil (.tn ?_)
        refine .cn rfl (fun hc2 => ?_) (fun hc2 => ?_)
        · skip
          refine .skip (.tn (.seq (.block ?_)))
          refine JC.draw (.one 0 (.one 1 (.one 2 (.one 3 (.one 4 (.one 5 (.one 6 (.one 7 (.one 8 (.one 9 (.one 10 (.one 11 .nil)))))))))))) (fun i => ([11] : List Nat).contains i) (fun i => ([11] : List Nat).contains i) (fun i => ([0, 1, 2, 3, 4, 6, 7, 8, 9] : List Nat).contains i) mixed (by kernel_rfl) (by decide) (by kernel_rfl) ?_
          refine .uw rfl (.move rfl) ?_
          refine .uw rfl (.move rfl) ?_
          refine .uw rfl (.move rfl) ?_
          refine .uw rfl (.ix Tryd.underlying40 sz_42 rfl rfl) ?_
          refine .uw rfl (.fieldAddr fa_42_0 rfl) ?_
          refine .w rfl (.as (v' := it (vtAt l i).1) (.ld one_3 rfl (hj := by exact vt_who' (by omega))) rfl) ?_
          refine .uw rfl (.move rfl) ?_
          refine .uw rfl (.move rfl) ?_
          refine .uw rfl (.ix Tryd.underlying40 sz_42 rfl rfl) ?_
          refine .uw rfl (.fieldAddr fa_42_1 rfl) ?_
          refine .w rfl (.as (v' := dgV (vtAt l i).2) (.lda agg_31 rfl) (congrArg (fun l : List Value => Value.agg l.toArray) (vt_dig (by omega)))) ?_
          refine .mw rfl (.cb (f10_spec p a b sv (BitVec.ofNat 64 (sumS S)) S m tw (vtAt l i).1 (vtAt l i).2 hT (by omega)) body_10 (h0 := by rintro _ _ _ ⟨_, _, _, _, _, _, _, h, _⟩; exact h)) ?_
          rintro _ _ _ ⟨_, ⟨m2, t2, rfl, hT2, hm2, _, ht2, _, rfl⟩, hΓ, hH⟩
          simp only [List.cons_append, List.nil_append] at hH; subst hΓ hH
          refine kp ?_
          refine .nil (.block_normal (.tn (.region ?_)))
          refine .w (.move rfl) ?_
          refine .w (.asI ((i + 1 : Nat) : Int) (.bin rfl rfl (BinR.add_i (by first | (constructor <;> omega) | (constructor <;> simp <;> omega))))) ?_
          refine .w (.assign rfl) ?_
          refine .nil ?_
          refine .hd (i + 1, m2, t2) ?_
          exact ⟨⟨by dsimp only; omega, hT2⟩, by dsimp only; omega⟩
        · skip
          refine .exit (.then_exit (.then_exit (.block_exit (.tn (.seq (.seq (.region ?_)))))))
          refine .w (.assign rfl) ?_
          refine .nil (.tn (.block ?_))
          refine .lp (ι := Nat × MM Int D32 × MM Int Bool) (fun x => x.1 ≤ k.length ∧ TOk S x.2.1) (fun T x => (13, it (x.1 : Int)) :: T) (fun T _ => T) (fun T x => mpR a2 itK dgV x.2.1 :: mpR b2 itK blV x.2.2 :: T) (fun x => k.length - x.1) (0, MM.nil, MM.nil) [0, 2, 6, 7, 8, 10, 14, 15, 16, 17, 18, 19, 20, 21, 22, 23, 88, 89, 90, 91, 92, 93, 94, 95, 96, 97, 98, 99, 100, 101, 102, 103, 104, 105, 106, 107, 108, 109, 110, 111, 112, 113, 114, 115, 116, 117, 118, 119, 120, 121, 122, 123, 124, 125, 126, 127, 128, 129, 130, 131, 132, 133, 134, 135, 136, 137, 138, 139, 140, 141, 142, 143, 144, 145, 146, 147, 148, 149] ?_ (fun x hx => ?_)
          · exact ⟨Nat.zero_le _, tok_nil S⟩
          obtain ⟨j, mx, tx⟩ := x
          obtain ⟨hj, hTx⟩ := hx
          dsimp only at hj hTx ⊢
          refine .seq (.seq (.region ?_))
          refine .w (.move rfl) ?_
          refine .w (.move rfl) ?_
          refine .w (.len Tryd.underlying40 rfl) ?_
          refine .w (.bin rfl rfl BinR.lss_i) ?_
          refine .nil (.tn ?_)
          refine .cn rfl (fun hc3 => ?_) (fun hc3 => ?_)
          · skip
            refine .skip (.tn (.seq (.block ?_)))
            refine JC.draw (.one 0 (.one 1 (.one 2 (.one 3 (.one 4 (.one 5 (.one 6 (.one 7 (.one 8 (.one 9 (.one 10 (.one 11 .nil)))))))))))) (fun i => ([11] : List Nat).contains i) (fun i => ([11] : List Nat).contains i) (fun i => ([0, 1, 2, 3, 4, 6, 7, 8, 9] : List Nat).contains i) mixed (by kernel_rfl) (by decide) (by kernel_rfl) ?_
            refine .uw rfl (.move rfl) ?_
            refine .uw rfl (.move rfl) ?_
            refine .uw rfl (.move rfl) ?_
            refine .uw rfl (.ix Tryd.underlying40 sz_42 rfl rfl) ?_
            refine .uw rfl (.fieldAddr fa_42_0 rfl) ?_
            refine .w rfl (.as (v' := it (vtAt k j).1) (.ld one_3 rfl (hj := by exact vt_who' (by omega))) rfl) ?_
            refine .uw rfl (.move rfl) ?_
            refine .uw rfl (.move rfl) ?_
            refine .uw rfl (.ix Tryd.underlying40 sz_42 rfl rfl) ?_
            refine .uw rfl (.fieldAddr fa_42_1 rfl) ?_
            refine .w rfl (.as (v' := dgV (vtAt k j).2) (.lda agg_31 rfl) (congrArg (fun l : List Value => Value.agg l.toArray) (vt_dig (by omega)))) ?_
            refine .mw rfl (.cb (f10_spec p2 a2 b2 sv2 (BitVec.ofNat 64 (sumS S)) S mx tx (vtAt k j).1 (vtAt k j).2 hTx (by omega)) body_10 (h0 := by rintro _ _ _ ⟨_, _, _, _, _, _, _, h, _⟩; exact h)) ?_
            rintro _ _ _ ⟨_, ⟨m2, t2, rfl, hT2, hm2, _, ht2, _, rfl⟩, hΓ, hH⟩
            simp only [List.cons_append, List.nil_append] at hH; subst hΓ hH
            refine kp ?_
            refine .nil (.block_normal (.tn (.region ?_)))
            refine .w (.move rfl) ?_
            refine .w (.asI ((j + 1 : Nat) : Int) (.bin rfl rfl (BinR.add_i (by first | (constructor <;> omega) | (constructor <;> simp <;> omega))))) ?_
            refine .w (.assign rfl) ?_
            refine .nil ?_
            refine .hd (j + 1, m2, t2) ?_
            exact ⟨⟨by dsimp only; omega, hT2⟩, by dsimp only; omega⟩
          · skip
            refine .exit (.then_exit (.then_exit (.block_exit (.tn (.seq (.region ?_))))))
            refine .w (.move rfl) ?_
            refine .cb (f11_spec p a b sv (BitVec.ofNat 64 (sumS S)) S m hT hsb hal) body_11 ?_ (h0 := by rintro _ _ _ ⟨_, _, _, h, _⟩; exact h)
            rintro _ _ ⟨o, hq, rfl, _, rfl⟩
            refine .ap ?_
            refine .w (.move rfl) ?_
            refine .w (.as (v' := dgV (o.getD D0)) (.extract rfl rfl) rfl) ?_
            refine .w (.as (v' := .bool o.isSome) (.extract rfl rfl) rfl) ?_
            refine .al zero_31 fun b14 => ?_
            first | refine .sa sz_31 ?_ | refine .so sz_31 ?_ | refine .sr sz_31 ?_
            refine .w (.assign rfl) ?_
            refine .nil (.tn (.seq (.region ?_)))
            refine .w (.move rfl) ?_
            refine .cb (f11_spec p2 a2 b2 sv2 (BitVec.ofNat 64 (sumS S)) S mx hTx hsb hal) body_11 ?_ (h0 := by rintro _ _ _ ⟨_, _, _, h, _⟩; exact h)
            rintro _ _ ⟨o2, hq2, rfl, _, rfl⟩
            refine .ap ?_
            refine .w (.move rfl) ?_
            refine .w (.as (v' := dgV (o2.getD D0)) (.extract rfl rfl) rfl) ?_
            refine .w (.as (v' := .bool o2.isSome) (.extract rfl rfl) rfl) ?_
            refine .al zero_31 fun b16 => ?_
            first | refine .sa sz_31 ?_ | refine .so sz_31 ?_ | refine .sr sz_31 ?_
            refine .w (.assign rfl) ?_
            refine .nil (.tn (.seq (.seq (.region ?_))))
            refine .w (.move rfl) ?_
            refine .w (.not rfl) ?_
            refine .w (.move rfl) ?_
            refine .gn (g := 99) rfl (fun hg95 hg95' => ?_) (fun hg95 hg95' => ?_)
            · refine .gf (g := 100) rfl rfl hg95 (by decide) ?_
              refine .gf (g := 100) rfl rfl hg95 (by decide) ?_
              refine .w (.pick1 rfl hg95 rfl) ?_
              refine .nil (.tn ?_)
              refine .k1 rfl rfl ?_
              refine .seq (.region ?_)
              refine .w (.move rfl) ?_
              refine .w (.assign rfl) ?_
              refine .nil (.tn (.ret (.then_ret ?_)))
              exact .dn [] [] (res1 rfl (.tmp rfl)) ⟨rfl, rfl, rfl⟩
            · refine .gt (g := 100) rfl rfl hg95 ?_
              refine .w (.move rfl) ?_
              refine .gt (g := 100) rfl rfl hg95 ?_
              refine .w (.not rfl) ?_
              refine .w (.pick0 rfl hg95 rfl) ?_
              refine .nil (.tn ?_)
              refine .cn rfl (fun hc4 => ?_) (fun hc4 => ?_)
              · skip
                refine .seq (.region ?_)
                refine .w (.move rfl) ?_
                refine .w (.assign rfl) ?_
                refine .nil (.tn (.ret (.then_ret ?_)))
                exact .dn [] [] (res1 rfl (.tmp rfl)) ⟨rfl, rfl, rfl⟩
              · obtain ⟨q, hoq⟩ := Option.isSome_iff_exists.1 hg95'
                obtain ⟨q2, hoq2⟩ := Option.isSome_iff_exists.1 hc4
                subst hoq hoq2
                refine .skip (.tn (.seq (.region ?_)))
                refine .w (.as (v' := u64 (BitVec.ofNat 64 (byTo S (fun i : Nat => decide (m.get (i : Int) = some q ∧ mx.get (i : Int) = some q2)) 0))) (.assign rfl) rfl) ?_
                refine .nil (.tn (.seq (.seq (.region ?_))))
                refine .w (.assign rfl) ?_
                refine .nil (.tn (.block ?_))
                refine .lp (ι := Nat) (fun x => x ≤ S.length) (fun T x => (18, u64 (BitVec.ofNat 64 (byTo S (fun i : Nat => decide (m.get (i : Int) = some q ∧ mx.get (i : Int) = some q2)) x))) :: (19, it (x : Int)) :: T) (fun T _ => T) (fun T _ => T) (fun x => S.length - x) 0 [0, 6, 7, 8, 10, 14, 16, 143, 144, 145, 146, 147, 148, 149] ?_ (fun x hx => ?_)
                · exact Nat.zero_le _
                refine .seq (.seq (.region ?_))
                refine .w (.move rfl) ?_
                refine .w (.move rfl) ?_
                refine .w (.len Tryd.underlying22 rfl) ?_
                refine .w (.bin rfl rfl BinR.lss_i) ?_
                refine .nil (.tn ?_)
                refine .cn rfl (fun hc5 => ?_) (fun hc5 => ?_)
                · skip
                  refine .skip (.tn (.seq (.block (.seq (.region ?_)))))
                  refine .w (.move rfl) ?_
                  refine .w (.move rfl) ?_
                  refine .c (f15_spec p a b sv (BitVec.ofNat 64 (sumS S)) S m (x : Int)) body_15 ?_
                  refine .w (.move rfl) ?_
                  refine .w (.as (v' := dgV ((m.get (x : Int)).getD D0)) (.extract rfl rfl) rfl) ?_
                  refine .w (.as (v' := .bool (m.get (x : Int)).isSome) (.extract rfl rfl) rfl) ?_
                  refine .al zero_31 fun b20 => ?_
                  first | refine .sa sz_31 ?_ | refine .so sz_31 ?_ | refine .sr sz_31 ?_
                  refine .w (.assign rfl) ?_
                  refine .nil (.tn (.seq (.region ?_)))
                  refine .w (.move rfl) ?_
                  refine .w (.move rfl) ?_
                  refine .c (f15_spec p2 a2 b2 sv2 (BitVec.ofNat 64 (sumS S)) S mx (x : Int)) body_15 ?_
                  refine .w (.move rfl) ?_
                  refine .w (.as (v' := dgV ((mx.get (x : Int)).getD D0)) (.extract rfl rfl) rfl) ?_
                  refine .w (.as (v' := .bool (mx.get (x : Int)).isSome) (.extract rfl rfl) rfl) ?_
                  refine .al zero_31 fun b22 => ?_
                  first | refine .sa sz_31 ?_ | refine .so sz_31 ?_ | refine .sr sz_31 ?_
                  refine .w (.assign rfl) ?_
                  refine .nil (.tn (.seq (.region ?_)))
                  refine .join 14 136 (.bool (decide (m.get (x : Int) = some q ∧ mx.get (x : Int) = some q2))) ?_ ?_
                  · refine .w (.move rfl) ?_
                    refine .w (.move rfl) ?_
                    refine .gn (g := 21) rfl (fun hg126 hg126' => ?_) (fun hg126 hg126' => ?_)
                    · refine .gt (g := 124) rfl rfl hg126 ?_
                      refine .w (.move rfl) ?_
                      refine .w (.pick1 rfl hg126 rfl) ?_
                      refine .w (.move rfl) ?_
                      refine .gn (g := 126) rfl (fun hg129 hg129' => ?_) (fun hg129 hg129' => ?_)
                      · refine .gt (g := 127) rfl rfl hg129 ?_
                        refine .w (.as (v' := dgV ((m.get (x : Int)).getD D0)) (.lda agg_31 rfl) rfl) ?_
                        refine .gt (g := 127) rfl rfl hg129 ?_
                        refine .w (.as (v' := dgV q) (.lda agg_31 rfl) rfl) ?_
                        refine .gt (g := 127) rfl rfl hg129 ?_
                        refine .w (.bin rfl rfl (eql_dig)) ?_
                        refine .w (.pick1 rfl hg129 rfl) ?_
                        refine .w (.move rfl) ?_
                        refine .gn (g := 131) rfl (fun hg134 hg134' => ?_) (fun hg134 hg134' => ?_)
                        · refine .gt (g := 132) rfl rfl hg134 ?_
                          refine .w (.as (v' := dgV ((mx.get (x : Int)).getD D0)) (.lda agg_31 rfl) rfl) ?_
                          refine .gt (g := 132) rfl rfl hg134 ?_
                          refine .w (.as (v' := dgV q2) (.lda agg_31 rfl) rfl) ?_
                          refine .gt (g := 132) rfl rfl hg134 ?_
                          refine .w (.bin rfl rfl (eql_dig)) ?_
                          refine .w (.pick1 rfl hg134 rfl) ?_
                          refine .nil ?_
                          refine .head () (by first | (refine ⟨by first | rfl | exact congrArg some (congrArg Value.bool (by cases h1 : m.get (x : Int) <;> cases h2 : mx.get (x : Int) <;> simp_all; done)), ?_⟩; repeat (first | exact trivial | refine ⟨rfl, ?_⟩))) (fun _ h => h) (Picks.perm (by repeat (first | exact Picks.nil _ | apply Picks.cons | exact Pull.here _ _ | apply Pull.there))) ?_
                          trivial
                        · refine .gf (g := 132) rfl rfl hg134 (by decide) ?_
                          refine .gf (g := 132) rfl rfl hg134 (by decide) ?_
                          refine .gf (g := 132) rfl rfl hg134 (by decide) ?_
                          refine .w (.pick0 rfl hg134 rfl) ?_
                          refine .nil ?_
                          refine .head () (by first | (refine ⟨by first | rfl | exact congrArg some (congrArg Value.bool (by cases h1 : m.get (x : Int) <;> cases h2 : mx.get (x : Int) <;> simp_all; done)), ?_⟩; repeat (first | exact trivial | refine ⟨rfl, ?_⟩))) (fun _ h => h) (Picks.perm (by repeat (first | exact Picks.nil _ | apply Picks.cons | exact Pull.here _ _ | apply Pull.there))) ?_
                          trivial
                      · refine .gf (g := 127) rfl rfl hg129 (by decide) ?_
                        refine .gf (g := 127) rfl rfl hg129 (by decide) ?_
                        refine .gf (g := 127) rfl rfl hg129 (by decide) ?_
                        refine .w (.pick0 rfl hg129 rfl) ?_
                        refine .w (.move rfl) ?_
                        refine .gf (g := 132) rfl rfl rfl (by decide) ?_
                        refine .gf (g := 132) rfl rfl rfl (by decide) ?_
                        refine .gf (g := 132) rfl rfl rfl (by decide) ?_
                        refine .w (.pick0 rfl rfl rfl) ?_
                        refine .nil ?_
                        refine .head () (by first | (refine ⟨by first | rfl | exact congrArg some (congrArg Value.bool (by cases h1 : m.get (x : Int) <;> cases h2 : mx.get (x : Int) <;> simp_all; done)), ?_⟩; repeat (first | exact trivial | refine ⟨rfl, ?_⟩))) (fun _ h => h) (Picks.perm (by repeat (first | exact Picks.nil _ | apply Picks.cons | exact Pull.here _ _ | apply Pull.there))) ?_
                        trivial
                    · refine .gf (g := 124) rfl rfl hg126 (by decide) ?_
                      refine .w (.pick0 rfl hg126 rfl) ?_
                      refine .w (.move rfl) ?_
                      refine .gf (g := 127) rfl rfl rfl (by decide) ?_
                      refine .gf (g := 127) rfl rfl rfl (by decide) ?_
                      refine .gf (g := 127) rfl rfl rfl (by decide) ?_
                      refine .w (.pick0 rfl rfl rfl) ?_
                      refine .w (.move rfl) ?_
                      refine .gf (g := 132) rfl rfl rfl (by decide) ?_
                      refine .gf (g := 132) rfl rfl rfl (by decide) ?_
                      refine .gf (g := 132) rfl rfl rfl (by decide) ?_
                      refine .w (.pick0 rfl rfl rfl) ?_
                      refine .nil ?_
                      refine .head () (by first | (refine ⟨by first | rfl | exact congrArg some (congrArg Value.bool (by cases h1 : m.get (x : Int) <;> cases h2 : mx.get (x : Int) <;> simp_all; done)), ?_⟩; repeat (first | exact trivial | refine ⟨rfl, ?_⟩))) (fun _ h => h) (Picks.perm (by repeat (first | exact Picks.nil _ | apply Picks.cons | exact Pull.here _ _ | apply Pull.there))) ?_
                      trivial
                  · refine .nil (.tn ?_)
                    refine .cn rfl (fun hc6 => ?_) (fun hc6 => ?_)
                    · skip
                      refine .region ?_
                      refine .w (.move rfl) ?_
                      refine .w (.move rfl) ?_
                      refine .w (.move rfl) ?_
                      refine .w (.ix1 Tryd.underlying22 sz_34 rfl rfl) ?_
                      refine .w (.ld one_34 rfl (hj := by exact gm (d := 0) (by omega))) ?_
                      refine .w (.as (v' := u64 (BitVec.ofNat 64 (byTo S (fun i : Nat => decide (m.get (i : Int) = some q ∧ mx.get (i : Int) = some q2)) (x + 1)))) (.bin rfl rfl (BinR.add_u64)) (congrArg u64 (byTo_u64 S (fun i : Nat => decide (m.get (i : Int) = some q ∧ mx.get (i : Int) = some q2)) x (decide_eq_true hc6)))) ?_
                      refine .w (.assign rfl) ?_
                      refine .nil (.block_normal (.tn (.region ?_)))
                      refine .w (.move rfl) ?_
                      refine .w (.asI ((x + 1 : Nat) : Int) (.bin rfl rfl (BinR.add_i (by first | (constructor <;> omega) | (constructor <;> simp <;> omega))))) ?_
                      refine .w (.assign rfl) ?_
                      refine .nil ?_
                      refine .hd (x + 1) ?_
                      exact ⟨by omega, by omega⟩
                    · rw [byTo_skip S (fun i : Nat => decide (m.get (i : Int) = some q ∧ mx.get (i : Int) = some q2)) x (decide_eq_false hc6)]
                      refine .skip (.block_normal (.tn (.region ?_)))
                      refine .w (.move rfl) ?_
                      refine .w (.asI ((x + 1 : Nat) : Int) (.bin rfl rfl (BinR.add_i (by first | (constructor <;> omega) | (constructor <;> simp <;> omega))))) ?_
                      refine .w (.assign rfl) ?_
                      refine .nil ?_
                      refine .hd (x + 1) ?_
                      exact ⟨by omega, by omega⟩
                · obtain rfl : x = S.length := by omega
                  rw [byTo_len]
                  have hcr := cross (g := m.get) (g' := mx.get) hq hq2
                  refine .exit (.then_exit (.then_exit (.block_exit (.tn (.seq (.region ?_))))))
                  refine .w (.move rfl) ?_
                  refine .w (.move rfl) ?_
                  refine .gt (g := 144) rfl rfl rfl ?_
                  refine .w (.move rfl) ?_
                  refine .gt (g := 144) rfl rfl rfl ?_
                  refine .w (.move rfl) ?_
                  refine .gt (g := 144) rfl rfl rfl ?_
                  refine .c (f17_spec u S) body_17 ?_
                  refine .gt (g := 144) rfl rfl rfl ?_
                  refine .c (f16_spec (BitVec.ofNat 64 (byN S (fun i : Nat => decide (m.get (i : Int) = some q ∧ mx.get (i : Int) = some q2)))) S.sum) body_16 ?_
                  rw [decide_eq_true (show (S.sum).toNat < 3 * (BitVec.ofNat 64 (byN S (fun i : Nat => decide (m.get (i : Int) = some q ∧ mx.get (i : Int) = some q2)))).toNat by rw [sumW, ofW hsb, ofW (by have := byN_le (S := S) (fun i : Nat => decide (m.get (i : Int) = some q ∧ mx.get (i : Int) = some q2)); omega)]; exact hcr)]
                  refine .w (.pick1 rfl rfl rfl) ?_
                  refine .w (.assign rfl) ?_
                  refine .nil (.tn (.ret ?_))
                  exact .dn [] [] (res1 rfl (.tmp rfl)) ⟨rfl, rfl, rfl⟩

theorem f4b_spec (u vl vk : Value) (S : List W64) (l k : List VtE) (hg : ¬ newE S = 0) :
    Spec Tryd.prog 4 #[u, vl, vk] [Res.var 0 [u64 9223372036854775808, u64 0, u64 0, u64 0], Res.rd u S.length 1 (S.map u64), Res.rd vl l.length 33 (bks vtC l), Res.rd vk k.length 33 (bks vtC k)] []
      (fun r Γ' H' => r = (.bool true) ∧ Γ' = [] ∧ H' = []) := by
  refine Spec.of_args Tryd.func4 rfl Tryd.ntmps4 (by simp) fun w => ?_
  refine JC.know (φ := l.length ≤ 9223372036854775807) (fun w hs => by obtain ⟨_, _, _, _, _, _, h⟩ := hs.rdForm (.tail _ (.tail _ (.head _))); unfold maxLen at h; omega) fun _ => ?_
  refine JC.know (φ := k.length ≤ 9223372036854775807) (fun w hs => by obtain ⟨_, _, _, _, _, _, h⟩ := hs.rdForm (.tail _ (.tail _ (.tail _ (.head _)))); unfold maxLen at h; omega) fun _ => ?_
  refine JC.know (φ := S.length ≤ 9223372036854775807) (fun w hs => by obtain ⟨_, _, _, _, _, _, h⟩ := hs.rdForm (.tail _ (.head _)); unfold maxLen at h; omega) fun _ => ?_
  refine .seq (.region ?_)
  refine .w (.assign rfl) ?_
  refine .nil (.tn (.seq (.region ?_)))
  refine .c f8_spec body_8 ?_
  refine .w (.assign rfl) ?_
  refine .nil (.tn (.seq (.region ?_)))
  refine .w (.move rfl) ?_
  refine .c (f9no_spec u S hg) body_9 ?_
  refine .w (.move rfl) ?_
  refine .w (.extract rfl rfl) ?_
  refine .w (.extract rfl rfl) ?_
  refine .w (.assign rfl) ?_
  refine .w (.assign rfl) ?_
  refine .nil (.tn (.seq (.region ?_)))
  refine .w (.move rfl) ?_
  refine .c (f9no_spec u S hg) body_9 ?_
  refine .w (.move rfl) ?_
  refine .w (.extract rfl rfl) ?_
  refine .w (.extract rfl rfl) ?_
  refine .w (.assign rfl) ?_
  refine .w (.assign rfl) ?_
  refine .nil (.tn (.seq (.seq (.region ?_))))
  refine .w (.move rfl) ?_
  refine .w (.as (v' := .bool true) (.bin rfl rfl (BinR.eql_p Tryd.underlying25)) rfl) ?_
  refine .w (.move rfl) ?_
  refine .gn (g := 36) rfl (fun hg21 hg21' => ?_) (fun hg21 hg21' => ?_)
  · refine .gf (g := 37) rfl rfl hg21 (by decide) ?_
    refine .gf (g := 37) rfl rfl hg21 (by decide) ?_
    refine .w (.pick1 rfl hg21 rfl) ?_
    refine .w (.move rfl) ?_
    refine .gf (g := 41) rfl rfl rfl (by decide) ?_
    refine .gf (g := 41) rfl rfl rfl (by decide) ?_
    refine .gf (g := 41) rfl rfl rfl (by decide) ?_
    refine .w (.pick1 rfl rfl rfl) ?_
    refine .w (.move rfl) ?_
    refine .gf (g := 46) rfl rfl rfl (by decide) ?_
    refine .gf (g := 46) rfl rfl rfl (by decide) ?_
    refine .gf (g := 46) rfl rfl rfl (by decide) ?_
    refine .w (.pick1 rfl rfl rfl) ?_
    refine .nil (.tn ?_)
    refine .ct rfl ?_
    refine .seq (.region ?_)
    refine .w (.move rfl) ?_
    refine .w (.assign rfl) ?_
    refine .nil (.tn (.ret (.then_ret ?_)))
    exact .dn [] [] (res1 rfl (.tmp rfl)) ⟨rfl, rfl, rfl⟩
  · refine .gt (g := 37) rfl rfl hg21 ?_
    refine .w (.move rfl) ?_
    refine .gt (g := 37) rfl rfl hg21 ?_
    refine .w (.bin rfl rfl (BinR.eql_p Tryd.underlying25)) ?_
    refine .w (.pick0 rfl hg21 rfl) ?_
    refine .w (.move rfl) ?_
    refine .gf (g := 41) rfl rfl rfl (by decide) ?_
    refine .gf (g := 41) rfl rfl rfl (by decide) ?_
    refine .gf (g := 41) rfl rfl rfl (by decide) ?_
    refine .w (.pick1 rfl rfl rfl) ?_
    refine .w (.move rfl) ?_
    refine .gf (g := 46) rfl rfl rfl (by decide) ?_
    refine .gf (g := 46) rfl rfl rfl (by decide) ?_
    refine .gf (g := 46) rfl rfl rfl (by decide) ?_
    refine .w (.pick1 rfl rfl rfl) ?_
    refine .nil (.tn ?_)
    refine .ct rfl ?_
    refine .seq (.region ?_)
    refine .w (.move rfl) ?_
    refine .w (.assign rfl) ?_
    refine .nil (.tn (.ret (.then_ret ?_)))
    exact .dn [] [] (res1 rfl (.tmp rfl)) ⟨rfl, rfl, rfl⟩

theorem f4_spec (u vl vk : Value) (S : List W64) (l k : List VtE) :
    Spec Tryd.prog 4 #[u, vl, vk] [Res.var 0 [u64 9223372036854775808, u64 0, u64 0, u64 0], Res.rd u S.length 1 (S.map u64), Res.rd vl l.length 33 (bks vtC l), Res.rd vk k.length 33 (bks vtC k)] [] (fun r Γ' H' => r = (.bool true) ∧ Γ' = [] ∧ H' = []) := by
  by_cases hg : newE S = 0
  · exact f4a_spec u vl vk S l k hg
  · exact f4b_spec u vl vk S l k hg
end Go.Proofs.YtmbpngnamnoiaaaDoor
