/- Walk: VotesCount. -/
import Derived.Test.YtmbpngnamnoiaaaDoorU1
import Derived.Test.YtmbpngnamnoiaaaDoorT15b
import Derived.Test.YtmbpngnamnoiaaaDoorF5
import Derived.Test.YtmbpngnamnoiaaaDoorF6
namespace Go.Proofs.YtmbpngnamnoiaaaDoor
open Go.RowKit
set_option maxRecDepth 100000
set_option linter.unusedVariables false
set_option linter.unusedSimpArgs false
set_option maxHeartbeats 4000000 in
theorem f7a_spec (u vl : Value) (S : List W64) (l : List VtE) (v : D32) (pt al : W64) (hg : newE S = 0) :
    Spec Tryd.prog 7 #[u, vl, (dgV v), (u64 pt), (u64 al)] [Res.var 0 [u64 9223372036854775808, u64 0, u64 0, u64 0], Res.rd u S.length 1 (S.map u64), Res.rd vl l.length 33 (bks vtC l)] []
      (fun r Γ' H' => r = (.bool true) ∧ Γ' = [] ∧ H' = []) := by
  refine Spec.of_args Tryd.func7 rfl Tryd.ntmps7 (by simp) fun w => ?_
  refine JC.know (φ := l.length ≤ 9223372036854775807) (fun w hs => by obtain ⟨_, _, _, _, _, _, h⟩ := hs.rdForm (.tail _ (.tail _ (.head _))); unfold maxLen at h; omega) fun _ => ?_
  refine JC.know (φ := S.length ≤ 9223372036854775807) (fun w hs => by obtain ⟨_, _, _, _, _, _, h⟩ := hs.rdForm (.tail _ (.head _)); unfold maxLen at h; omega) fun _ => ?_
  obtain ⟨hg1, hg2, hg3⟩ := newE_ok hg
  have hsb : sumS S < 18446744073709551616 := by omega
  have hal : (BitVec.ofNat 64 (sumS S)).toNat = sumS S := ofW hsb
  refine .seq (.region ?_)
  refine .bx fun b7 => ?_
  refine .w (.assign rfl) ?_
  refine .nil (.tn (.seq (.region ?_)))
  refine .c f8_spec body_8 ?_
  refine .w (.assign rfl) ?_
  refine .nil (.tn (.seq (.seq (.region ?_))))
  refine .w (.move rfl) ?_
  refine .w (.len Tryd.underlying22 rfl) ?_
  refine .w (.bin rfl rfl BinR.gtr_i) ?_
  refine .w (.move rfl) ?_
  refine .gn (g := 36) rfl (fun hg9 hg9' => ?_) (fun hg9 hg9' => ?_)
  · refine .gf (g := 37) rfl rfl hg9 (by decide) ?_
    refine .gf (g := 37) rfl rfl hg9 (by decide) ?_
    refine .gf (g := 37) rfl rfl hg9 (by decide) ?_
    refine .w (.pick1 rfl hg9 rfl) ?_
    refine .nil (.tn ?_)
    refine .k1 rfl rfl ?_
    refine .seq (.region ?_)
    refine .w (.move rfl) ?_
    refine .w (.assign rfl) ?_
    refine .nil (.tn (.ret (.then_ret ?_)))
    exact .dn [] [] (res1 rfl (.tmp rfl)) ⟨rfl, rfl, rfl⟩
  · refine .gt (g := 37) rfl rfl hg9 ?_
    refine .w (.move rfl) ?_
    refine .gt (g := 37) rfl rfl hg9 ?_
    refine .w (.len Tryd.underlying40 rfl) ?_
    refine .gt (g := 37) rfl rfl hg9 ?_
    refine .w (.bin rfl rfl BinR.gtr_i) ?_
    refine .w (.pick0 rfl hg9 rfl) ?_
    refine .nil (.tn ?_)
    refine .cn rfl (fun hc1 => ?_) (fun hc1 => ?_)
    · skip
      refine .seq (.region ?_)
      refine .w (.move rfl) ?_
      refine .w (.assign rfl) ?_
      refine .nil (.tn (.ret (.then_ret ?_)))
      exact .dn [] [] (res1 rfl (.tmp rfl)) ⟨rfl, rfl, rfl⟩
    · skip
      refine .skip (.tn (.seq (.region ?_)))
      refine .w (.move rfl) ?_
      refine .w (.move rfl) ?_
      refine .c (f20_spec pt al) body_20 ?_
      refine .w (.assign rfl) ?_
      refine .nil (.tn (.seq (.region ?_)))
      refine .w (.move rfl) ?_
      refine .w (.move rfl) ?_
      refine .c (f16_spec pt al) body_16 ?_
      refine .w (.assign rfl) ?_
      refine .nil (.tn (.seq (.seq (.region ?_))))
      refine .w (.move rfl) ?_
      refine .w (.move rfl) ?_
      refine .w (.move rfl) ?_
      refine .c (f21_spec pt al) body_21 ?_
      refine .w (.as (v' := .bool false) (.bin rfl rfl (BinR.neq_b Tryd.underlying4)) (congrArg Value.bool (by simp))) ?_
      refine .w (.move rfl) ?_
      refine .gt (g := 54) rfl rfl rfl ?_
      refine .w (.move rfl) ?_
      refine .gt (g := 54) rfl rfl rfl ?_
      refine .w (.move rfl) ?_
      refine .gt (g := 54) rfl rfl rfl ?_
      refine .w (.move rfl) ?_
      refine .gt (g := 54) rfl rfl rfl ?_
      refine .c (f22_spec pt al) body_22 ?_
      refine .gt (g := 54) rfl rfl rfl ?_
      refine .w (.as (v' := .bool false) (.bin rfl rfl (BinR.neq_b Tryd.underlying4)) (congrArg Value.bool (by simp))) ?_
      refine .w (.pick0 rfl rfl rfl) ?_
      refine .nil (.tn ?_)
      refine .cf rfl ?_
      refine .skip (.tn (.seq (.region ?_)))
      refine .w (.move rfl) ?_
      refine .cb (f9ok_spec u S hg1 hg2 hg3) body_9 ?_ (h0 := by rintro _ _ _ ⟨_, _, _, _, _, h, _⟩; exact h)
      rintro _ _ ⟨p, a, b, sv, rfl, _, rfl⟩
      refine .ap ?_
      refine .w (.move rfl) ?_
      refine .w (.extract rfl rfl) ?_
      refine .w (.extract rfl rfl) ?_
      refine .w (.assign rfl) ?_
      refine .w (.assign rfl) ?_
      refine .nil (.tn (.seq (.region ?_)))
      refine .w (.move rfl) ?_
      refine .cb (f23ok_spec u S hg1 hg2 hg3) body_23 ?_ (h0 := by rintro _ _ _ ⟨_, _, _, _, _, _, h, _⟩; exact h)
      rintro _ _ ⟨rp, rs, iv, vv, av, rfl, _, rfl⟩
      refine .ap ?_
      rw [show (fun _ => none) = (MM.nil : MM Int D32).get from rfl, show (fun _ => false) = isK MM.nil from rfl]
      refine .w (.move rfl) ?_
      refine .w (.extract rfl rfl) ?_
      refine .w (.extract rfl rfl) ?_
      refine .w (.assign rfl) ?_
      refine .w (.assign rfl) ?_
      refine .nil (.tn (.seq (.seq (.region ?_))))
      refine .w (.move rfl) ?_
      refine .w (.as (v' := .bool false) (.bin rfl rfl (BinR.eql_p Tryd.underlying25)) rfl) ?_
      refine .w (.move rfl) ?_
      refine .gt (g := 73) rfl rfl rfl ?_
      refine .w (.move rfl) ?_
      refine .gt (g := 73) rfl rfl rfl ?_
      refine .w (.as (v' := .bool false) (.bin rfl rfl (BinR.eql_p Tryd.underlying50)) rfl) ?_
      refine .w (.pick0 rfl rfl rfl) ?_
      refine .nil (.tn ?_)
      refine .cf rfl ?_
      refine .skip (.tn (.seq (.region ?_)))
      refine .w (.move rfl) ?_
      refine .c (f17_spec u S) body_17 ?_
      refine .w (.assign rfl) ?_
      refine .nil (.tn (.seq (.seq (.region ?_))))
      refine .w (.assign rfl) ?_
      refine .nil (.tn (.block ?_))
      refine .lp (ι := Nat × MM Int D32 × MM Int Bool) (fun x => x.1 ≤ l.length ∧ TOk S x.2.1 ∧ TW S x.2.2 x.1) (fun T x => (19, it (x.1 : Int)) :: T) (fun T _ => T) (fun T x => mpR a itK dgV x.2.1 :: mpR b itK blV x.2.2 :: Res.row iv S.length 4 1 (isT S.length x.2.1.get) :: Res.row vv S.length 31 32 (bks dgC (vvL S.length x.2.1.get)) :: Res.row av S.length 4 1 (agT S.length (isK x.2.2)) :: T) (fun x => l.length - x.1) (0, MM.nil, MM.nil) [0, 1, 7, 11, 14, 15, 16, 17, 18, 29, 30, 31, 32, 183, 184, 185, 186, 187, 188, 189, 190, 191, 192, 193, 194, 195, 196, 197, 198, 199, 200, 201, 202, 203, 204, 205, 206, 207, 208, 209, 210, 211, 212, 213, 214, 215, 216, 217, 218, 219, 220, 221, 222, 223, 224, 225, 226, 227, 228, 229, 230, 231, 232, 233, 234, 235, 236, 237, 238, 239, 240, 241, 242] ?_ (fun x hx => ?_)
      · exact ⟨Nat.zero_le _, tok_nil S, TW.nil S⟩
      obtain ⟨k, m, tw⟩ := x
      obtain ⟨hk, hT, hTw⟩ := hx
      dsimp only at hk hT hTw ⊢
      refine .seq (.seq (.region ?_))
      refine .w (.move rfl) ?_
      refine .w (.move rfl) ?_
      refine .w (.len Tryd.underlying40 rfl) ?_
      refine .w (.bin rfl rfl BinR.lss_i) ?_
      refine .nil (.tn ?_)
      refine .cn rfl (fun hc4 => ?_) (fun hc4 => ?_)
      · skip
        refine .skip (.tn (.seq (.block (.seq ?_))))
        refine JC.draw (.one 0 (.one 1 (.one 2 (.one 3 (.one 4 (.one 5 (.one 6 (.one 7 (.one 8 (.one 9 (.one 10 (.one 11 (.one 12 .nil))))))))))))) (fun i => ([11] : List Nat).contains i) (fun i => ([11] : List Nat).contains i) (fun i => ([0, 1, 2, 3, 4, 6, 7, 8, 9, 12] : List Nat).contains i) mixed (by kernel_rfl) (by decide) (by kernel_rfl) ?_
        refine .uw rfl (.move rfl) ?_
        refine .uw rfl (.move rfl) ?_
        refine .uw rfl (.move rfl) ?_
        refine .uw rfl (.ix Tryd.underlying40 sz_42 rfl rfl) ?_
        refine .uw rfl (.fieldAddr fa_42_0 rfl) ?_
        refine .w rfl (.as (v' := it (vtAt l k).1) (.ld one_3 rfl (hj := by exact vt_who' (by omega))) rfl) ?_
        refine .uw rfl (.move rfl) ?_
        refine .uw rfl (.move rfl) ?_
        refine .uw rfl (.ix Tryd.underlying40 sz_42 rfl rfl) ?_
        refine .uw rfl (.fieldAddr fa_42_1 rfl) ?_
        refine .w rfl (.as (v' := dgV (vtAt l k).2) (.lda agg_31 rfl) (congrArg (fun l : List Value => Value.agg l.toArray) (vt_dig (by omega)))) ?_
        refine .mw rfl (.cb (f10_spec p a b sv (BitVec.ofNat 64 (sumS S)) S m tw (vtAt l k).1 (vtAt l k).2 hT (by omega)) body_10 (h0 := by rintro _ _ _ ⟨_, _, _, _, _, _, _, h, _⟩; exact h)) ?_
        rintro _ _ _ ⟨_, ⟨m2, t2, rfl, hT2, hm2, _, ht2, _, rfl⟩, hΓ, hH⟩
        simp only [List.cons_append, List.nil_append] at hH; subst hΓ hH
        have hTw2 := hTw.vote ht2
        refine kp ?_
        refine .uw rfl (.assign rfl) ?_
        refine .nil (.tn (.seq (.seq ?_)))
        refine JC.draw (.one 0 (.one 1 (.one 2 (.one 3 (.one 4 (.one 5 (.one 6 (.one 7 (.one 8 (.one 9 (.one 10 (.one 11 (.one 12 (.one 13 .nil)))))))))))))) (fun i => ([12] : List Nat).contains i) (fun i => ([12] : List Nat).contains i) (fun i => ([0, 1, 2, 3, 4, 5, 7, 8, 9, 10, 13] : List Nat).contains i) mixed (by kernel_rfl) (by decide) (by kernel_rfl) ?_
        refine .uw rfl (.move rfl) ?_
        refine .uw rfl (.move rfl) ?_
        refine .uw rfl (.move rfl) ?_
        refine .uw rfl (.move rfl) ?_
        refine .uw rfl (.ix Tryd.underlying40 sz_42 rfl rfl) ?_
        refine .uw rfl (.fieldAddr fa_42_0 rfl) ?_
        refine .w rfl (.as (v' := it (vtAt l k).1) (.ld one_3 rfl (hj := by exact vt_who' (by omega))) rfl) ?_
        refine .uw rfl (.move rfl) ?_
        refine .uw rfl (.move rfl) ?_
        refine .uw rfl (.ix Tryd.underlying40 sz_42 rfl rfl) ?_
        refine .uw rfl (.fieldAddr fa_42_1 rfl) ?_
        refine .w rfl (.as (v' := dgV (vtAt l k).2) (.lda agg_31 rfl) (congrArg (fun l : List Value => Value.agg l.toArray) (vt_dig (by omega)))) ?_
        refine .mw rfl (.c (f24_spec rp rs iv vv av S m.get (isK tw) (vtAt l k).1 (vtAt l k).2 (by omega)) body_24) ?_
        rintro _ _ _ ⟨rfl, rfl, rfl⟩
        rw [vote_ref1 hm2, vote_ref2 ht2]
        refine kp ?_
        refine .uw rfl (.as (v' := .bool false) (.bin rfl rfl BinR.neq_i) (congrArg Value.bool (by simp))) ?_
        refine .nil (.tn ?_)
        refine .cf rfl ?_
        refine .skip (.tn (.seq (.region ?_)))
        refine .w (.move rfl) ?_
        refine .cb (f11_spec p a b sv (BitVec.ofNat 64 (sumS S)) S m2 hT2 hsb hal) body_11 ?_ (h0 := by rintro _ _ _ ⟨_, _, _, h, _⟩; exact h)
        rintro _ _ ⟨o, hq, rfl, _, rfl⟩
        refine .ap ?_
        refine .w (.move rfl) ?_
        refine .w (.as (v' := dgV (o.getD D0)) (.extract rfl rfl) rfl) ?_
        refine .w (.as (v' := .bool o.isSome) (.extract rfl rfl) rfl) ?_
        refine .al zero_31 fun b21 => ?_
        first | refine .sa sz_31 ?_ | refine .so sz_31 ?_ | refine .sr sz_31 ?_
        refine .w (.assign rfl) ?_
        refine .nil (.tn (.seq (.region ?_)))
        refine .w (.move rfl) ?_
        refine .cb (f25_spec rp rs iv vv av S m2.get hsb) body_25 ?_ (h0 := by rintro _ _ _ ⟨_, _, _, h, _⟩; exact h)
        rintro _ _ ⟨o2, hq2, rfl, _, rfl⟩
        refine .ap ?_
        obtain rfl := QuoR.uniq hq hq2
        have hl2 := forA_le S m2.get v
        have hl4 := anyA_le S m2.get
        refine .w (.move rfl) ?_
        refine .w (.as (v' := dgV (o.getD D0)) (.extract rfl rfl) rfl) ?_
        refine .w (.as (v' := .bool o.isSome) (.extract rfl rfl) rfl) ?_
        refine .al zero_31 fun b23 => ?_
        first | refine .sa sz_31 ?_ | refine .so sz_31 ?_ | refine .sr sz_31 ?_
        refine .w (.assign rfl) ?_
        refine .nil (.tn (.seq (.region ?_)))
        refine .w (.move rfl) ?_
        refine .w (.as (v' := dgV v) (.lda agg_31 rfl) rfl) ?_
        refine .c (f12_spec p a b sv (BitVec.ofNat 64 (sumS S)) S m2 v hT2 hsb) body_12 ?_
        refine .w (.assign rfl) ?_
        refine .nil (.tn (.seq (.region ?_)))
        refine .w (.move rfl) ?_
        refine .c (f13_spec p a b sv (BitVec.ofNat 64 (sumS S)) S m2 hT2 hsb) body_13 ?_
        refine .w (.assign rfl) ?_
        refine .nil (.tn (.seq (.region ?_)))
        refine .w (.move rfl) ?_
        refine .c (f19_spec p a b sv (BitVec.ofNat 64 (sumS S)) S m2 hT2 hsb hal) body_19 ?_
        refine .w (.assign rfl) ?_
        refine .nil (.tn (.seq (.region ?_)))
        refine .w (.move rfl) ?_
        refine .w (.as (v' := dgV v) (.lda agg_31 rfl) rfl) ?_
        refine .c (f18_spec p a b sv (BitVec.ofNat 64 (sumS S)) S m2 v hT2 hsb hal) body_18 ?_
        refine .w (.assign rfl) ?_
        refine .nil (.tn (.seq (.region ?_)))
        refine .w (.as (v' := dgV (o.getD D0)) (.lda agg_31 rfl) rfl) ?_
        refine .w (.as (v' := dgV (o.getD D0)) (.lda agg_31 rfl) rfl) ?_
        refine .w (.as (v' := .bool false) (.bin rfl rfl (neq_dig)) (congrArg Value.bool (by simp))) ?_
        refine .w (.move rfl) ?_
        refine .gt (g := 148) rfl rfl rfl ?_
        refine .w (.move rfl) ?_
        refine .gt (g := 148) rfl rfl rfl ?_
        refine .w (.move rfl) ?_
        refine .gt (g := 148) rfl rfl rfl ?_
        refine .w (.as (v' := .bool false) (.bin rfl rfl (BinR.neq_b Tryd.underlying4)) (congrArg Value.bool (by simp))) ?_
        refine .w (.pick0 rfl rfl rfl) ?_
        refine .w (.move rfl) ?_
        refine .gt (g := 153) rfl rfl rfl ?_
        refine .w (.move rfl) ?_
        refine .gt (g := 153) rfl rfl rfl ?_
        refine .w (.move rfl) ?_
        refine .gt (g := 153) rfl rfl rfl ?_
        refine .w (.as (v' := dgV v) (.lda agg_31 rfl) rfl) ?_
        refine .gt (g := 153) rfl rfl rfl ?_
        refine .c (f26_spec rp rs iv vv av S m2.get v) body_26 ?_
        refine .gt (g := 153) rfl rfl rfl ?_
        refine .w (.as (v' := .bool false) (.bin rfl rfl (BinR.neq_u64)) (congrArg Value.bool (by simp))) ?_
        refine .w (.pick0 rfl rfl rfl) ?_
        refine .w (.move rfl) ?_
        refine .gt (g := 160) rfl rfl rfl ?_
        refine .w (.move rfl) ?_
        refine .gt (g := 160) rfl rfl rfl ?_
        refine .w (.move rfl) ?_
        refine .gt (g := 160) rfl rfl rfl ?_
        refine .c (f27_spec rp rs iv vv av S m2.get) body_27 ?_
        refine .gt (g := 160) rfl rfl rfl ?_
        refine .w (.as (v' := .bool false) (.bin rfl rfl (BinR.neq_u64)) (congrArg Value.bool (by simp))) ?_
        refine .w (.pick0 rfl rfl rfl) ?_
        refine .w (.move rfl) ?_
        refine .gt (g := 166) rfl rfl rfl ?_
        refine .w (.move rfl) ?_
        refine .gt (g := 166) rfl rfl rfl ?_
        refine .w (.move rfl) ?_
        refine .gt (g := 166) rfl rfl rfl ?_
        refine .c (f27_spec rp rs iv vv av S m2.get) body_27 ?_
        refine .gt (g := 166) rfl rfl rfl ?_
        refine .w (.move rfl) ?_
        refine .gt (g := 166) rfl rfl rfl ?_
        refine .c (f21_spec (BitVec.ofNat 64 (anyA S m2.get)) S.sum) body_21 ?_
        rw [sumW, ofW hsb, ofW (show anyA S m2.get < 18446744073709551616 by omega)]
        refine .gt (g := 166) rfl rfl rfl ?_
        refine .w (.as (v' := .bool false) (.bin rfl rfl (BinR.neq_b Tryd.underlying4)) (congrArg Value.bool (by simp))) ?_
        refine .w (.pick0 rfl rfl rfl) ?_
        refine .w (.move rfl) ?_
        refine .gt (g := 174) rfl rfl rfl ?_
        refine .w (.move rfl) ?_
        refine .gt (g := 174) rfl rfl rfl ?_
        refine .w (.move rfl) ?_
        refine .gt (g := 174) rfl rfl rfl ?_
        refine .w (.as (v' := dgV v) (.lda agg_31 rfl) rfl) ?_
        refine .gt (g := 174) rfl rfl rfl ?_
        refine .c (f26_spec rp rs iv vv av S m2.get v) body_26 ?_
        refine .gt (g := 174) rfl rfl rfl ?_
        refine .w (.move rfl) ?_
        refine .gt (g := 174) rfl rfl rfl ?_
        refine .c (f22_spec (BitVec.ofNat 64 (forA S m2.get v)) (BitVec.ofNat 64 (sumS S))) body_22 ?_
        rw [ofW hsb, ofW (show forA S m2.get v < 18446744073709551616 by omega)]
        refine .gt (g := 174) rfl rfl rfl ?_
        refine .w (.as (v' := .bool false) (.bin rfl rfl (BinR.neq_b Tryd.underlying4)) (congrArg Value.bool (by simp))) ?_
        refine .w (.pick0 rfl rfl rfl) ?_
        refine .nil (.tn ?_)
        refine .cf rfl ?_
        refine .skip (.block_normal (.tn (.region ?_)))
        refine .w (.move rfl) ?_
        refine .w (.asI ((k + 1 : Nat) : Int) (.bin rfl rfl (BinR.add_i (by first | (constructor <;> omega) | (constructor <;> simp <;> omega))))) ?_
        refine .w (.assign rfl) ?_
        refine .nil ?_
        refine .hd (k + 1, m2, t2) ?_
        exact ⟨⟨by dsimp only; omega, hT2, hTw2⟩, by dsimp only; omega⟩
      · skip
        refine .exit (.then_exit (.then_exit (.block_exit (.tn (.seq (.seq (.region ?_)))))))
        refine .w (.as (v' := it (((0 : Nat) : Int) - 1)) (.assign rfl) rfl) ?_
        refine .nil (.tn (.block ?_))
        refine .lp (ι := Nat) (fun x => x ≤ S.length + 2) (fun T x => (29, it ((x : Int) - 1)) :: T) (fun T _ => T) (fun T _ => T) (fun x => S.length + 2 - x) 0 [0, 11, 14, 15, 16, 17, 32, 229, 230, 231, 232, 233, 234, 235, 236, 237, 238, 239, 240, 241, 242] ?_ (fun x hx => ?_)
        · exact Nat.zero_le _
        refine .seq (.seq (.region ?_))
        refine .w (.move rfl) ?_
        refine .w (.move rfl) ?_
        refine .w (.len Tryd.underlying22 rfl) ?_
        refine .w (.bin rfl rfl BinR.leq_i) ?_
        refine .nil (.tn ?_)
        refine .cn rfl (fun hc7 => ?_) (fun hc7 => ?_)
        · skip
          refine .skip (.tn (.seq (.block (.seq (.region ?_)))))
          refine .w (.move rfl) ?_
          refine .w (.move rfl) ?_
          refine .c (f15_spec p a b sv (BitVec.ofNat 64 (sumS S)) S m ((x : Int) - 1)) body_15 ?_
          refine .w (.move rfl) ?_
          refine .w (.as (v' := dgV ((m.get ((x : Int) - 1)).getD D0)) (.extract rfl rfl) rfl) ?_
          refine .w (.as (v' := .bool (m.get ((x : Int) - 1)).isSome) (.extract rfl rfl) rfl) ?_
          refine .al zero_31 fun b30 => ?_
          first | refine .sa sz_31 ?_ | refine .so sz_31 ?_ | refine .sr sz_31 ?_
          refine .w (.assign rfl) ?_
          refine .nil (.tn (.seq (.region ?_)))
          refine .w (.move rfl) ?_
          refine .w (.bin rfl rfl BinR.lss_i) ?_
          refine .w (.move rfl) ?_
          refine .gn (g := 196) rfl (fun hg196 hg196' => ?_) (fun hg196 hg196' => ?_)
          · refine .gf (g := 197) rfl rfl hg196 (by decide) ?_
            refine .gf (g := 197) rfl rfl hg196 (by decide) ?_
            refine .gf (g := 197) rfl rfl hg196 (by decide) ?_
            refine .gf (g := 197) rfl rfl hg196 (by decide) ?_
            refine .w (.pick1 rfl hg196 rfl) ?_
            refine .nil (.tn ?_)
            refine .k1 rfl rfl ?_
            have hno : m.get ((x : Int) - 1) = none := tok_out hT (by omega)
            rw [hno]
            refine .seq (.region ?_)
            refine .w (.move rfl) ?_
            refine .w (.move rfl) ?_
            refine .gt (g := 204) rfl rfl rfl ?_
            refine .w (.as (v' := dgV D0) (.lda agg_31 rfl) rfl) ?_
            refine .gt (g := 204) rfl rfl rfl ?_
            refine .w (.as (v' := dgV D0) (.build bld_31 rfl rfl) rfl) ?_
            refine .gt (g := 204) rfl rfl rfl ?_
            refine .w (.as (v' := .bool false) (.bin rfl rfl (neq_dig)) (congrArg Value.bool (by simp))) ?_
            refine .w (.pick0 rfl rfl rfl) ?_
            refine .nil (.tn ?_)
            refine .cf rfl ?_
            refine .skip (.block_normal (.tn (.region ?_)))
            refine .w (.move rfl) ?_
            refine .w (.asI (((x + 1 : Nat) : Int) - 1) (.bin rfl rfl (BinR.add_i (by first | (constructor <;> omega) | (constructor <;> simp <;> omega))))) ?_
            refine .w (.assign rfl) ?_
            refine .nil ?_
            refine .hd (x + 1) ?_
            exact ⟨by omega, by omega⟩
          · refine .gt (g := 197) rfl rfl hg196 ?_
            refine .w (.move rfl) ?_
            refine .gt (g := 197) rfl rfl hg196 ?_
            refine .w (.move rfl) ?_
            refine .gt (g := 197) rfl rfl hg196 ?_
            refine .w (.len Tryd.underlying22 rfl) ?_
            refine .gt (g := 197) rfl rfl hg196 ?_
            refine .w (.bin rfl rfl BinR.geq_i) ?_
            refine .w (.pick0 rfl hg196 rfl) ?_
            refine .nil (.tn ?_)
            refine .cn rfl (fun hc8 => ?_) (fun hc8 => ?_)
            · have hno : m.get ((x : Int) - 1) = none := tok_out hT (by omega)
              rw [hno]
              refine .seq (.region ?_)
              refine .w (.move rfl) ?_
              refine .w (.move rfl) ?_
              refine .gt (g := 204) rfl rfl rfl ?_
              refine .w (.as (v' := dgV D0) (.lda agg_31 rfl) rfl) ?_
              refine .gt (g := 204) rfl rfl rfl ?_
              refine .w (.as (v' := dgV D0) (.build bld_31 rfl rfl) rfl) ?_
              refine .gt (g := 204) rfl rfl rfl ?_
              refine .w (.as (v' := .bool false) (.bin rfl rfl (neq_dig)) (congrArg Value.bool (by simp))) ?_
              refine .w (.pick0 rfl rfl rfl) ?_
              refine .nil (.tn ?_)
              refine .cf rfl ?_
              refine .skip (.block_normal (.tn (.region ?_)))
              refine .w (.move rfl) ?_
              refine .w (.asI (((x + 1 : Nat) : Int) - 1) (.bin rfl rfl (BinR.add_i (by first | (constructor <;> omega) | (constructor <;> simp <;> omega))))) ?_
              refine .w (.assign rfl) ?_
              refine .nil ?_
              refine .hd (x + 1) ?_
              exact ⟨by omega, by omega⟩
            · rw [show ((x : Int) - 1) = ((x - 1 : Nat) : Int) by omega]
              refine .seq ?_
              refine JC.draw (.one 0 (.one 1 (.one 2 (.one 3 (.one 4 (.one 5 (.one 6 (.one 7 (.one 8 (.one 9 (.one 10 (.one 11 (.one 12 (.one 13 (.one 14 (.one 15 (.one 16 (.one 17 (.one 18 (.one 19 .nil)))))))))))))))))))) (fun i => ([] : List Nat).contains i) (fun i => ([] : List Nat).contains i) (fun i => ([0, 1, 2, 3, 5, 8, 9, 11, 12, 13, 15, 18, 19] : List Nat).contains i) mixed (by kernel_rfl) (by decide) (by kernel_rfl) ?_
              refine .uw rfl (.move rfl) ?_
              refine .uw rfl (.move rfl) ?_
              refine .uw rfl (.nilCheck rfl) ?_
              refine .uw rfl (.fieldAddr fa_56_1 rfl) ?_
              refine .w rfl (.ld one_53 rfl) ?_
              refine .uw rfl (.move rfl) ?_
              refine .w rfl (.ix1 Tryd.underlying53 sz_4 rfl rfl) ?_
              refine .w rfl (.ld one_4 rfl (hj := by exact isT_get _ (by omega))) ?_
              refine .uw rfl (.as (v' := .bool false) (.bin rfl rfl (BinR.neq_b Tryd.underlying4)) (congrArg Value.bool (by simp))) ?_
              refine .uw rfl (.move rfl) ?_
              refine JR.vgt (g := 218) rfl rfl rfl rfl rfl rfl (.as (v' := dgV ((m.get ((x - 1 : Nat) : Int)).getD D0)) (.lda agg_31 rfl) rfl) (by decide) ?_
              refine JR.ugt (g := 218) rfl rfl rfl rfl rfl rfl (.move rfl) (by decide) ?_
              refine JR.ugt (g := 218) rfl rfl rfl rfl rfl rfl (.nilCheck rfl) (by decide) ?_
              refine JR.ugt (g := 218) rfl rfl rfl rfl rfl rfl (.fieldAddr fa_56_2 rfl) (by decide) ?_
              refine JR.vgt (g := 218) rfl rfl rfl rfl rfl rfl (.ld one_54 rfl) (by decide) ?_
              refine JR.ugt (g := 218) rfl rfl rfl rfl rfl rfl (.move rfl) (by decide) ?_
              refine JR.vgt (g := 218) rfl rfl rfl rfl rfl rfl (.ix Tryd.underlying54 sz_31 rfl rfl) (by decide) ?_
              refine JR.vgt (g := 218) rfl rfl rfl rfl rfl rfl (.as (v' := dgV ((m.get ((x - 1 : Nat) : Int)).getD D0)) (.lda agg_31 rfl) (congrArg (fun l : List Value => Value.agg l.toArray) (vv_load (n := S.length) m.get (j := x - 1) (by omega)))) (by decide) ?_
              refine JR.ugt (g := 218) rfl rfl rfl rfl rfl rfl (.as (v' := .bool false) (.bin rfl rfl (neq_dig)) (congrArg Value.bool (by simp))) (by decide) ?_
              refine JR.u rfl rfl rfl (Yv.pick0 rfl rfl rfl) (by decide) ?_
              refine .nil (.tn ?_)
              refine .cf rfl ?_
              refine .skip (.block_normal (.tn (.region ?_)))
              refine .w (.move rfl) ?_
              refine .w (.asI (((x + 1 : Nat) : Int) - 1) (.bin rfl rfl (BinR.add_i (by first | (constructor <;> omega) | (constructor <;> simp <;> omega))))) ?_
              refine .w (.assign rfl) ?_
              refine .nil ?_
              refine .hd (x + 1) ?_
              exact ⟨by omega, by omega⟩
        · skip
          refine .exit (.then_exit (.then_exit (.block_exit (.tn (.seq (.region ?_))))))
          refine .w (.move rfl) ?_
          refine .cb (f14_spec p a b sv (BitVec.ofNat 64 (sumS S)) tw hTw.ok (hTw.wf (by omega)) (by have := hTw.len; omega)) body_14 ?_
          rintro vt _ ⟨_, _, rfl⟩
          refine .ap ?_
          refine .w (.assign rfl) ?_
          refine .nil (.tn (.seq (.region ?_)))
          refine .w (.move rfl) ?_
          refine .w (.move rfl) ?_
          refine .gt (g := 232) rfl rfl rfl ?_
          refine .w (.move rfl) ?_
          refine .gt (g := 232) rfl rfl rfl ?_
          refine .w (.move rfl) ?_
          refine .gt (g := 232) rfl rfl rfl ?_
          refine .w (.as (v' := .bool true) (.bin rfl rfl BinR.eql_i) (congrArg Value.bool (by simp))) ?_
          refine .w (.pick1 rfl rfl rfl) ?_
          refine .w (.move rfl) ?_
          refine .gt (g := 237) rfl rfl rfl ?_
          refine .w (.move rfl) ?_
          refine .gt (g := 237) rfl rfl rfl ?_
          refine .w (.move rfl) ?_
          refine .gt (g := 237) rfl rfl rfl ?_
          refine .cb (f29_spec rp rs iv vv av S (isK tw) (by omega)) body_29 ?_
          rintro vr _ ⟨_, _, rfl⟩
          refine .ap ?_
          refine .gt (g := 237) rfl rfl rfl ?_
          refine .c (f28_spec vt vr (sortK (tw.es.map (·.1))) (twL (isK tw) S.length)) body_28 ?_
          rw [decide_eq_true (twice_eq hTw)]
          refine .w (.pick1 rfl rfl rfl) ?_
          refine .w (.assign rfl) ?_
          refine .nil (.tn (.ret ?_))
          exact .dn [] [] (res1 rfl (.tmp rfl)) ⟨rfl, rfl, rfl⟩

theorem f7b_spec (u vl : Value) (S : List W64) (l : List VtE) (v : D32) (pt al : W64) (hg : ¬ newE S = 0) :
    Spec Tryd.prog 7 #[u, vl, (dgV v), (u64 pt), (u64 al)] [Res.var 0 [u64 9223372036854775808, u64 0, u64 0, u64 0], Res.rd u S.length 1 (S.map u64), Res.rd vl l.length 33 (bks vtC l)] []
      (fun r Γ' H' => r = (.bool true) ∧ Γ' = [] ∧ H' = []) := by
  refine Spec.of_args Tryd.func7 rfl Tryd.ntmps7 (by simp) fun w => ?_
  refine JC.know (φ := l.length ≤ 9223372036854775807) (fun w hs => by obtain ⟨_, _, _, _, _, _, h⟩ := hs.rdForm (.tail _ (.tail _ (.head _))); unfold maxLen at h; omega) fun _ => ?_
  refine JC.know (φ := S.length ≤ 9223372036854775807) (fun w hs => by obtain ⟨_, _, _, _, _, _, h⟩ := hs.rdForm (.tail _ (.head _)); unfold maxLen at h; omega) fun _ => ?_
  refine .seq (.region ?_)
  refine .bx fun b7 => ?_
  refine .w (.assign rfl) ?_
  refine .nil (.tn (.seq (.region ?_)))
  refine .c f8_spec body_8 ?_
  refine .w (.assign rfl) ?_
  refine .nil (.tn (.seq (.seq (.region ?_))))
  refine .w (.move rfl) ?_
  refine .w (.len Tryd.underlying22 rfl) ?_
  refine .w (.bin rfl rfl BinR.gtr_i) ?_
  refine .w (.move rfl) ?_
  refine .gn (g := 36) rfl (fun hg9 hg9' => ?_) (fun hg9 hg9' => ?_)
  · refine .gf (g := 37) rfl rfl hg9 (by decide) ?_
    refine .gf (g := 37) rfl rfl hg9 (by decide) ?_
    refine .gf (g := 37) rfl rfl hg9 (by decide) ?_
    refine .w (.pick1 rfl hg9 rfl) ?_
    refine .nil (.tn ?_)
    refine .k1 rfl rfl ?_
    refine .seq (.region ?_)
    refine .w (.move rfl) ?_
    refine .w (.assign rfl) ?_
    refine .nil (.tn (.ret (.then_ret ?_)))
    exact .dn [] [] (res1 rfl (.tmp rfl)) ⟨rfl, rfl, rfl⟩
  · refine .gt (g := 37) rfl rfl hg9 ?_
    refine .w (.move rfl) ?_
    refine .gt (g := 37) rfl rfl hg9 ?_
    refine .w (.len Tryd.underlying40 rfl) ?_
    refine .gt (g := 37) rfl rfl hg9 ?_
    refine .w (.bin rfl rfl BinR.gtr_i) ?_
    refine .w (.pick0 rfl hg9 rfl) ?_
    refine .nil (.tn ?_)
    refine .cn rfl (fun hc1 => ?_) (fun hc1 => ?_)
    · skip
      refine .seq (.region ?_)
      refine .w (.move rfl) ?_
      refine .w (.assign rfl) ?_
      refine .nil (.tn (.ret (.then_ret ?_)))
      exact .dn [] [] (res1 rfl (.tmp rfl)) ⟨rfl, rfl, rfl⟩
    · skip
      refine .skip (.tn (.seq (.region ?_)))
      refine .w (.move rfl) ?_
      refine .w (.move rfl) ?_
      refine .c (f20_spec pt al) body_20 ?_
      refine .w (.assign rfl) ?_
      refine .nil (.tn (.seq (.region ?_)))
      refine .w (.move rfl) ?_
      refine .w (.move rfl) ?_
      refine .c (f16_spec pt al) body_16 ?_
      refine .w (.assign rfl) ?_
      refine .nil (.tn (.seq (.seq (.region ?_))))
      refine .w (.move rfl) ?_
      refine .w (.move rfl) ?_
      refine .w (.move rfl) ?_
      refine .c (f21_spec pt al) body_21 ?_
      refine .w (.as (v' := .bool false) (.bin rfl rfl (BinR.neq_b Tryd.underlying4)) (congrArg Value.bool (by simp))) ?_
      refine .w (.move rfl) ?_
      refine .gt (g := 54) rfl rfl rfl ?_
      refine .w (.move rfl) ?_
      refine .gt (g := 54) rfl rfl rfl ?_
      refine .w (.move rfl) ?_
      refine .gt (g := 54) rfl rfl rfl ?_
      refine .w (.move rfl) ?_
      refine .gt (g := 54) rfl rfl rfl ?_
      refine .c (f22_spec pt al) body_22 ?_
      refine .gt (g := 54) rfl rfl rfl ?_
      refine .w (.as (v' := .bool false) (.bin rfl rfl (BinR.neq_b Tryd.underlying4)) (congrArg Value.bool (by simp))) ?_
      refine .w (.pick0 rfl rfl rfl) ?_
      refine .nil (.tn ?_)
      refine .cf rfl ?_
      refine .skip (.tn (.seq (.region ?_)))
      refine .w (.move rfl) ?_
      refine .c (f9no_spec u S hg) body_9 ?_
      refine .w (.move rfl) ?_
      refine .w (.extract rfl rfl) ?_
      refine .w (.extract rfl rfl) ?_
      refine .w (.assign rfl) ?_
      refine .w (.assign rfl) ?_
      refine .nil (.tn (.seq (.region ?_)))
      refine .w (.move rfl) ?_
      refine .c (f23no_spec u S hg) body_23 ?_
      refine .w (.move rfl) ?_
      refine .w (.extract rfl rfl) ?_
      refine .w (.extract rfl rfl) ?_
      refine .w (.assign rfl) ?_
      refine .w (.assign rfl) ?_
      refine .nil (.tn (.seq (.seq (.region ?_))))
      refine .w (.move rfl) ?_
      refine .w (.as (v' := .bool true) (.bin rfl rfl (BinR.eql_p Tryd.underlying25)) rfl) ?_
      refine .w (.move rfl) ?_
      refine .gf (g := 73) rfl rfl rfl (by decide) ?_
      refine .gf (g := 73) rfl rfl rfl (by decide) ?_
      refine .w (.pick1 rfl rfl rfl) ?_
      refine .nil (.tn ?_)
      refine .ct rfl ?_
      refine .seq (.region ?_)
      refine .w (.move rfl) ?_
      refine .w (.move rfl) ?_
      refine .gt (g := 78) rfl rfl rfl ?_
      refine .w (.move rfl) ?_
      refine .gt (g := 78) rfl rfl rfl ?_
      refine .w (.as (v' := .bool true) (.bin rfl rfl (BinR.eql_p Tryd.underlying25)) rfl) ?_
      refine .w (.pick1 rfl rfl rfl) ?_
      refine .w (.move rfl) ?_
      refine .gt (g := 82) rfl rfl rfl ?_
      refine .w (.move rfl) ?_
      refine .gt (g := 82) rfl rfl rfl ?_
      refine .w (.as (v' := .bool true) (.bin rfl rfl (BinR.eql_p Tryd.underlying50)) rfl) ?_
      refine .w (.pick1 rfl rfl rfl) ?_
      refine .w (.move rfl) ?_
      refine .gt (g := 86) rfl rfl rfl ?_
      refine .w (.move rfl) ?_
      refine .gt (g := 86) rfl rfl rfl ?_
      refine .w (.move rfl) ?_
      refine .gt (g := 86) rfl rfl rfl ?_
      refine .w (.as (v' := .bool true) (.bin rfl rfl BinR.eql_i) (congrArg Value.bool (by simp))) ?_
      refine .w (.pick1 rfl rfl rfl) ?_
      refine .w (.assign rfl) ?_
      refine .nil (.tn (.ret (.then_ret ?_)))
      exact .dn [] [] (res1 rfl (.tmp rfl)) ⟨rfl, rfl, rfl⟩

theorem f7_spec (u vl : Value) (S : List W64) (l : List VtE) (v : D32) (pt al : W64) :
    Spec Tryd.prog 7 #[u, vl, (dgV v), (u64 pt), (u64 al)] [Res.var 0 [u64 9223372036854775808, u64 0, u64 0, u64 0], Res.rd u S.length 1 (S.map u64), Res.rd vl l.length 33 (bks vtC l)] [] (fun r Γ' H' => r = (.bool true) ∧ Γ' = [] ∧ H' = []) := by
  by_cases hg : newE S = 0
  · exact f7a_spec u vl S l v pt al hg
  · exact f7b_spec u vl S l v pt al hg
end Go.Proofs.YtmbpngnamnoiaaaDoor
