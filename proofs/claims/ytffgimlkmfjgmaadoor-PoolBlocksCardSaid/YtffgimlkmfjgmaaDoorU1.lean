/- Walk: PoolBlocks. -/
import Derived.Test.YtffgimlkmfjgmaaDoorR1
import Derived.Test.YtffgimlkmfjgmaaDoorT1
namespace Go.Proofs.YtffgimlkmfjgmaaDoor
open Go.RowKit
set_option maxRecDepth 100000
set_option linter.unusedVariables false
set_option linter.unusedSimpArgs false
theorem eql_dg {x y : Operand} {us vs : B8} (ha : us.length = 32) (hb : vs.length = 32) : BinR Tryd.prog .eql 33 x y (.agg (us.map u8).toArray) (.agg (vs.map u8).toArray) (.bool (decide (us = vs))) :=
  BinR.eql_arr (f := u8) (g := fun x => (x.toNat : Int)) (k := .u8) Tryd.underlying33 Tryd.underlying5 sz_5 (by kernel_rfl) (fun _ => rfl) (fun _ _ h => u8_inj h) us vs ha hb

set_option maxHeartbeats 1000000 in
theorem f3_spec (lv bv : Value) (h : BitVec 64) (L : Pcs) (b : B8) :
    Spec Tryd.prog 3 #[(u64 h), lv, bv] [Res.var 1 (sqr.map u32), Res.var 0 (cub.map u32), Res.rd lv L.length 1 (L.map Prod.fst), Res.all (pcRes L), Res.rd bv b.length 1 (b.map u8)] []
      (fun r Γ' H' => r = .bool true ∧ Γ' = [] ∧ H' = []) := by
  refine Spec.of_args Tryd.func3 rfl Tryd.ntmps3 (by simp) fun w => ?_
  refine JC.know (φ := b.length ≤ 9223372036854775807) (fun w hs => by obtain ⟨_, _, _, _, _, _, h⟩ := hs.rdForm (.tail _ (.tail _ (.tail _ (.tail _ (.head _))))); unfold maxLen at h; omega) fun hlb => ?_
  refine .seq (.region ?_)
  refine .w (.assign rfl) ?_
  refine .nil (.tn (.seq (.region ?_)))
  refine .c f4_spec body_4 ?_
  refine .w (.assign rfl) ?_
  refine .nil (.tn (.seq (.region ?_)))
  refine .w (.move rfl) ?_
  refine .c (f5_spec lv L) body_5 ?_
  refine .w (.assign rfl) ?_
  refine .nil (.tn (.seq (.seq (.region ?_))))
  refine .w (.move rfl) ?_
  refine .w (.not rfl) ?_
  refine .join 5 29 (.bool (decide (¬ shB (bytesP L) ∨ b.length > 3000))) ?_ ?_
  · refine .w (.move rfl) ?_
    refine .gn (g := 24) rfl (fun hg10 hg10' => ?_) (fun hg10 hg10' => ?_)
    · refine .gf (g := 25) rfl rfl hg10 (by decide) ?_
      refine .gf (g := 25) rfl rfl hg10 (by decide) ?_
      refine .gf (g := 25) rfl rfl hg10 (by decide) ?_
      refine .w (.pick1 rfl hg10 rfl) ?_
      refine .nil ?_
      refine .head () (by first | (refine ⟨by first | rfl | exact congrArg (fun b => some (Value.bool b)) (decide_eq_true (.inl (by simpa using hg10))).symm | exact congrArg (fun b => some (Value.bool b)) (decide_eq_decide.2 ⟨fun h => .inr (by omega), fun h => h.elim (fun h1 => absurd (by simpa using hg10) h1) (fun h1 => by omega)⟩), ?_⟩; repeat (first | exact trivial | refine ⟨rfl, ?_⟩))) (fun _ h => h) (Picks.perm (by repeat (first | exact Picks.nil _ | apply Picks.cons | exact Pull.here _ _ | apply Pull.there))) ?_
      trivial
    · refine .gt (g := 25) rfl rfl hg10 ?_
      refine .w (.move rfl) ?_
      refine .gt (g := 25) rfl rfl hg10 ?_
      refine .w (.len Tryd.underlying24 rfl) ?_
      refine .gt (g := 25) rfl rfl hg10 ?_
      refine .w (.bin rfl rfl BinR.gtr_i) ?_
      refine .w (.pick0 rfl hg10 rfl) ?_
      refine .nil ?_
      refine .head () (by first | (refine ⟨by first | rfl | exact congrArg (fun b => some (Value.bool b)) (decide_eq_true (.inl (by simpa using hg10))).symm | exact congrArg (fun b => some (Value.bool b)) (decide_eq_decide.2 ⟨fun h => .inr (by omega), fun h => h.elim (fun h1 => absurd (by simpa using hg10) h1) (fun h1 => by omega)⟩), ?_⟩; repeat (first | exact trivial | refine ⟨rfl, ?_⟩))) (fun _ h => h) (Picks.perm (by repeat (first | exact Picks.nil _ | apply Picks.cons | exact Pull.here _ _ | apply Pull.there))) ?_
      trivial
  · refine .nil (.tn ?_)
    refine .cn rfl (fun hc1 => ?_) (fun hc1 => ?_)
    · refine .seq (.region ?_)
      refine .w (.move rfl) ?_
      refine .w (.assign rfl) ?_
      refine .nil (.tn (.ret (.then_ret ?_)))
      exact .dn [] [] (res1 rfl (.tmp rfl)) ⟨rfl, rfl, rfl⟩
    · have hb3 : b.length ≤ 3000 := by have := fun h1 => hc1 (.inr h1); omega
      refine .skip (.tn (.seq (.region ?_)))
      refine .w (.move rfl) ?_
      refine .w (.move rfl) ?_
      refine .cb (f6_spec h lv L) body_6 ?_ (h0 := by rintro _ _ _ ⟨_, _, h, _⟩; exact h)
      rintro _ _ ⟨x1, rfl, _, rfl⟩
      refine .ap ?_
      refine .w (.move rfl) ?_
      refine .w (.extract rfl rfl) ?_
      refine .w (.extract rfl rfl) ?_
      refine .w (.assign rfl) ?_
      refine .w (.assign rfl) ?_
      refine .nil (.tn (.seq (.region ?_)))
      refine .w (.move rfl) ?_
      refine .w (.move rfl) ?_
      refine .cb (f7_spec h lv L) body_7 ?_ (h0 := by rintro _ _ _ ⟨_, _, h, _⟩; exact h)
      rintro _ _ ⟨x2, rfl, _, rfl⟩
      refine .ap ?_
      refine .w (.move rfl) ?_
      refine .w (.extract rfl rfl) ?_
      refine .w (.extract rfl rfl) ?_
      refine .w (.assign rfl) ?_
      refine .w (.assign rfl) ?_
      refine .nil (.tn (.seq (.region ?_)))
      refine .w (.move rfl) ?_
      refine .cs (f8_spec bv b (by omega)) body_8 ?_
      rintro _ _ _ ⟨x3, N3, hN3, rfl, rfl, rfl⟩
      refine .ap ?_
      refine .ap ?_
      refine .w (.move rfl) ?_
      refine .w (.extract rfl rfl) ?_
      refine .w (.extract rfl rfl) ?_
      refine .w (.extract rfl rfl) ?_
      refine .w (.assign rfl) ?_
      refine .w (.assign rfl) ?_
      refine .w (.assign rfl) ?_
      refine .nil (.tn (.seq (.region ?_)))
      refine .w (.move rfl) ?_
      refine .cs (f9_spec bv b (by omega)) body_9 ?_
      rintro _ _ _ ⟨x4, N4, hN4, rfl, rfl, rfl⟩
      refine .ap ?_
      refine .ap ?_
      refine .w (.move rfl) ?_
      refine .w (.extract rfl rfl) ?_
      refine .w (.extract rfl rfl) ?_
      refine .w (.extract rfl rfl) ?_
      refine .w (.assign rfl) ?_
      refine .w (.assign rfl) ?_
      refine .w (.assign rfl) ?_
      refine .nil (.tn (.seq (.region ?_)))
      refine .w (.move rfl) ?_
      refine .c (f10_spec bv b (by omega)) body_10 ?_
      refine .al zero_33 fun b19 => ?_
      refine .sa sz_33 ?_ (h1 := one_u8s)
      refine JO.frz (r := Res.cells b19 _ _) (by repeat (first | exact Pull.here _ _ | apply Pull.there)) ?_
      refine .nil (.tn (.seq ?_))
      refine JC.draw (.one 0 (.one 1 (.one 2 (.one 3 (.one 4 (.one 5 (.one 6 (.one 7 (.one 8 (.one 9 (.one 10 (.one 11 (.one 12 (.one 13 (.one 14 (.one 15 (.one 16 (.one 17 (.one 18 (.one 19 (.one 20 (.one 21 (.one 22 (.one 23 (.one 24 (.one 25 (.one 26 (.one 27 (.one 28 (.one 29 (.one 30 (.one 31 (.one 32 .nil))))))))))))))))))))))))))))))))) (fun i => ([9, 24, 29] : List Nat).contains i) (fun i => ([9, 24, 29] : List Nat).contains i) (fun i => ([0, 1, 2, 3, 4, 5, 6, 7, 8, 10, 11, 12, 13, 14, 15, 16, 17, 18, 19, 20, 21, 22, 23, 25, 26, 27, 28, 30, 31, 32] : List Nat).contains i) mixed (by kernel_rfl) (by decide) (by kernel_rfl) ?_
      refine .uw rfl (.move rfl) ?_
      refine .uw rfl (.move rfl) ?_
      refine JR.ugt (g := 58) rfl rfl rfl rfl rfl rfl (.move rfl) (by decide) ?_
      refine JR.ugt (g := 58) rfl rfl rfl rfl rfl rfl (.move rfl) (by decide) ?_
      refine JR.ugt (g := 58) rfl rfl rfl rfl rfl rfl (.as (v' := .bool true) (.bin rfl rfl BinR.eql_i) (congrArg Value.bool (decide_eq_true rfl))) (by decide) ?_
      refine JR.u rfl rfl rfl (Yv.pick1 rfl rfl rfl) (by decide) ?_
      refine .uw rfl (.move rfl) ?_
      refine JR.ugt (g := 63) rfl rfl rfl rfl rfl rfl (.move rfl) (by decide) ?_
      refine JR.ugt (g := 63) rfl rfl rfl rfl rfl rfl (.move rfl) (by decide) ?_
      refine JR.mgt (g := 63) rfl rfl rfl rfl rfl (.c (f11_spec x1 x2 (packO h (bytesP L)) (packO h (bytesP L))) body_11) (by decide) ?_
      rintro _ _ _ ⟨rfl, rfl, rfl⟩
      rw [decide_eq_true rfl]
      refine kp ?_
      refine JR.u rfl rfl rfl (Yv.pick1 rfl rfl rfl) (by decide) ?_
      refine .uw rfl (.move rfl) ?_
      refine JR.ugt (g := 68) rfl rfl rfl rfl rfl rfl (.move rfl) (by decide) ?_
      refine JR.ugt (g := 68) rfl rfl rfl rfl rfl rfl (.move rfl) (by decide) ?_
      refine JR.ugt (g := 68) rfl rfl rfl rfl rfl rfl (.as (v' := .bool true) (.bin rfl rfl (BinR.eql_u64)) (congrArg Value.bool (decide_eq_true rfl))) (by decide) ?_
      refine JR.u rfl rfl rfl (Yv.pick1 rfl rfl rfl) (by decide) ?_
      refine .uw rfl (.move rfl) ?_
      refine JR.ugt (g := 73) rfl rfl rfl rfl rfl rfl (.move rfl) (by decide) ?_
      refine JR.ugt (g := 73) rfl rfl rfl rfl rfl rfl (.move rfl) (by decide) ?_
      refine JR.ugt (g := 73) rfl rfl rfl rfl rfl rfl (.as (v' := .bool true) (.bin rfl rfl BinR.eql_i) (congrArg Value.bool (decide_eq_true rfl))) (by decide) ?_
      refine JR.u rfl rfl rfl (Yv.pick1 rfl rfl rfl) (by decide) ?_
      refine .uw rfl (.move rfl) ?_
      refine JR.ugt (g := 78) rfl rfl rfl rfl rfl rfl (.move rfl) (by decide) ?_
      refine JR.ugt (g := 78) rfl rfl rfl rfl rfl rfl (.move rfl) (by decide) ?_
      refine JR.mgt (g := 78) rfl rfl rfl rfl rfl (.c (f12_spec x3 x4 N3 N4) body_12) (by decide) ?_
      rintro _ _ _ ⟨rfl, rfl, rfl⟩
      rw [decide_eq_true (show bytesP N3 = bytesP N4 by rw [hN3, hN4])]
      refine kp ?_
      refine JR.u rfl rfl rfl (Yv.pick1 rfl rfl rfl) (by decide) ?_
      refine .uw rfl (.move rfl) ?_
      refine JR.ugt (g := 83) rfl rfl rfl rfl rfl rfl (.as (v' := (.agg ((sha (inB [98#8, 108#8, 111#8, 99#8, 107#8] [b])).map u8).toArray)) (.lda agg_33 rfl) rfl) (by decide) ?_
      refine JR.ugt (g := 83) rfl rfl rfl rfl rfl rfl (.move rfl) (by decide) ?_
      refine JR.mgt (g := 83) rfl rfl rfl rfl rfl (.c (f13_spec bv b (by omega)) body_13) (by decide) ?_
      rintro _ _ _ ⟨rfl, rfl, rfl⟩
      refine kp ?_
      refine JR.ugt (g := 83) rfl rfl rfl rfl rfl rfl (.as (v' := .bool true) (.bin rfl rfl (eql_dg (sha_len _) (sha_len _))) (congrArg Value.bool (decide_eq_true rfl))) (by decide) ?_
      refine JR.u rfl rfl rfl (Yv.pick1 rfl rfl rfl) (by decide) ?_
      refine .uw rfl (.assign rfl) ?_
      refine .nil (.tn (.ret ?_))
      exact .dn [] [] (res1 rfl (.tmp rfl)) ⟨rfl, rfl, rfl⟩
end Go.Proofs.YtffgimlkmfjgmaaDoor
