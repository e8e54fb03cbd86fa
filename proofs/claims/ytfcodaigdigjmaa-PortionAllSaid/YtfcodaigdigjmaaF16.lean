/- Walk: PortionAll. -/
import Derived.Test.YtfcodaigdigjmaaT9
import Derived.Test.YtfcodaigdigjmaaF8
namespace Go.Proofs.Ytfcodaigdigjmaa
open Go.RowKit
set_option maxRecDepth 100000
set_option linter.unusedVariables false
set_option linter.unusedSimpArgs false
set_option maxHeartbeats 2000000 in
theorem f5a_spec (u : Value) (ws : List W64) (n0 : Int) (hE : shareE ws n0 = 0) :
    Spec Try.prog 5 #[u, (it n0)] [Res.rd u ws.length 1 (ws.map u64)] []
      (fun r Γ' H' => r = (.bool true) ∧ Γ' = [] ∧ H' = []) := by
  refine Spec.of_args Try.func5 rfl Try.ntmps5 (by simp) fun w => ?_
  obtain ⟨n, rfl, hn, hl, hT⟩ := share_0 hE
  have htl := tot_lt ws
  refine JC.seq ?_
  refine JC.region ?_
  refine JO.v (Yv.assign rfl) (by decide) ?_
  refine JO.nil ?_
  refine JQ.then_normal ?_
  refine JC.seq ?_
  refine JC.region ?_
  refine JO.callB f8_spec body_8 rfl (by repeat (first | exact Picks.nil _ | apply Picks.cons | exact Pull.here _ _ | apply Pull.there)) (by repeat (first | exact Lends.nil _ | apply Lends.cons | exact Lend.same _ _ | exact Lend.row _ _ _ _ _ _ (by decide) | apply Lend.there)) (by rintro _ _ _ ⟨_, h, _⟩; exact h) (by decide) ?_
  rintro _ _ ⟨_, ⟨rfl, _, rfl⟩, hH⟩
  simp only [List.cons_append, List.nil_append] at hH; subst hH
  refine JO.v (Yv.assign rfl) (by decide) ?_
  refine JO.nil ?_
  refine JQ.then_normal ?_
  refine JC.seq ?_
  refine JC.seq ?_
  refine JC.region ?_
  refine JO.v (Yv.move rfl) (by decide) ?_
  first | refine JO.v (Yv.len_s Try.underlying22 rfl) (by decide) ?_ | refine JO.v (Yv.lenRd Try.underlying22 rfl (by repeat (first | exact Lend.same _ _ | exact Lend.row _ _ _ _ _ _ (by decide) | apply Lend.there))) (by decide) ?_
  refine JO.v (Yv.as (v' := .bool (decide (ws.length > 40))) (Yv.bin rfl rfl BinR.gtr_i) (congrArg Value.bool (decide_eq_decide.2 (by omega)))) (by decide) ?_
  refine JO.v (Yv.move rfl) (by decide) ?_
  refine JO.join 3 20 (.bool (decide (ws.length > 40 ∨ (n : Int) < 1))) ?_ ?_
  · skip
    refine JO.gsplit (g := 16) rfl (fun hg8 => ?_) (fun hg8 => ?_)
    · have hg8' := hg8
      try simp only [decide_eq_true_eq, decide_eq_false_iff_not, Bool.not_eq_true', Bool.not_eq_false', ne_eq, Decidable.not_not, Bool.not_eq_true, Bool.and_eq_true, Bool.or_eq_true, BitVec.reduceToNat] at hg8'
      refine JO.gf (g := 17) rfl rfl hg8 (by decide) ?_
      refine JO.gf (g := 17) rfl rfl hg8 (by decide) ?_
      refine JO.v (Yv.pick1 rfl hg8 rfl) (by decide) ?_
      refine JO.nil ?_
      refine JQ.head () (by first | (refine ⟨by first | rfl | (simp [*]; done) | (show some _ = some _; simp [*]; done), ?_⟩; repeat (first | exact trivial | refine ⟨rfl, ?_⟩))) (Subs.sub (by repeat (first | exact Subs.nil _ | apply Subs.cons | exact List.Mem.head _ | refine List.Mem.tail _ ?_))) (Picks.perm (by repeat (first | exact Picks.nil _ | apply Picks.cons | exact Pull.here _ _ | apply Pull.there))) ?_
      trivial
    · have hg8' := hg8
      try simp only [decide_eq_true_eq, decide_eq_false_iff_not, Bool.not_eq_true', Bool.not_eq_false', ne_eq, Decidable.not_not, Bool.not_eq_true, Bool.and_eq_true, Bool.or_eq_true, BitVec.reduceToNat] at hg8'
      refine JO.gt (g := 17) rfl rfl hg8 ?_
      refine JO.v (Yv.move rfl) (by decide) ?_
      refine JO.gt (g := 17) rfl rfl hg8 ?_
      refine JO.v (Yv.bin rfl rfl BinR.lss_i) (by decide) ?_
      refine JO.v (Yv.pick0 rfl hg8 rfl) (by decide) ?_
      refine JO.nil ?_
      refine JQ.head () (by first | (refine ⟨by first | rfl | (simp [*]; done) | (show some _ = some _; simp [*]; done), ?_⟩; repeat (first | exact trivial | refine ⟨rfl, ?_⟩))) (Subs.sub (by repeat (first | exact Subs.nil _ | apply Subs.cons | exact List.Mem.head _ | refine List.Mem.tail _ ?_))) (Picks.perm (by repeat (first | exact Picks.nil _ | apply Picks.cons | exact Pull.here _ _ | apply Pull.there))) ?_
      trivial
  · skip
    refine JO.v (Yv.move rfl) (by decide) ?_
    refine JO.join 3 24 (.bool (decide (ws.length > 40 ∨ (n : Int) < 1 ∨ (n : Int) > 200))) ?_ ?_
    · skip
      refine JO.gsplit (g := 20) rfl (fun hg12 => ?_) (fun hg12 => ?_)
      · have hg12' := hg12
        try simp only [decide_eq_true_eq, decide_eq_false_iff_not, Bool.not_eq_true', Bool.not_eq_false', ne_eq, Decidable.not_not, Bool.not_eq_true, Bool.and_eq_true, Bool.or_eq_true, BitVec.reduceToNat] at hg12'
        refine JO.gf (g := 21) rfl rfl hg12 (by decide) ?_
        refine JO.gf (g := 21) rfl rfl hg12 (by decide) ?_
        refine JO.v (Yv.pick1 rfl hg12 rfl) (by decide) ?_
        refine JO.nil ?_
        refine JQ.head () (by first | (refine ⟨by first | rfl | (show some _ = some _; exact congrArg (fun b => some (Value.bool b)) (by first | exact (decide_eq_true (by omega)).symm | exact decide_eq_decide.2 (by omega))), ?_⟩; repeat (first | exact trivial | refine ⟨rfl, ?_⟩))) (Subs.sub (by repeat (first | exact Subs.nil _ | apply Subs.cons | exact List.Mem.head _ | refine List.Mem.tail _ ?_))) (Picks.perm (by repeat (first | exact Picks.nil _ | apply Picks.cons | exact Pull.here _ _ | apply Pull.there))) ?_
        trivial
      · have hg12' := hg12
        try simp only [decide_eq_true_eq, decide_eq_false_iff_not, Bool.not_eq_true', Bool.not_eq_false', ne_eq, Decidable.not_not, Bool.not_eq_true, Bool.and_eq_true, Bool.or_eq_true, BitVec.reduceToNat] at hg12'
        refine JO.gt (g := 21) rfl rfl hg12 ?_
        refine JO.v (Yv.move rfl) (by decide) ?_
        refine JO.gt (g := 21) rfl rfl hg12 ?_
        refine JO.v (Yv.bin rfl rfl BinR.gtr_i) (by decide) ?_
        refine JO.v (Yv.pick0 rfl hg12 rfl) (by decide) ?_
        refine JO.nil ?_
        refine JQ.head () (by first | (refine ⟨by first | rfl | (show some _ = some _; exact congrArg (fun b => some (Value.bool b)) (by first | exact (decide_eq_true (by omega)).symm | exact decide_eq_decide.2 (by omega))), ?_⟩; repeat (first | exact trivial | refine ⟨rfl, ?_⟩))) (Subs.sub (by repeat (first | exact Subs.nil _ | apply Subs.cons | exact List.Mem.head _ | refine List.Mem.tail _ ?_))) (Picks.perm (by repeat (first | exact Picks.nil _ | apply Picks.cons | exact Pull.here _ _ | apply Pull.there))) ?_
        trivial
    · skip
      refine JO.nil ?_
      refine JQ.then_normal ?_
      refine JC.cond rfl (fun hc1 => ?_) (fun hc1 => ?_)
      · try simp only [decide_eq_true_eq, decide_eq_false_iff_not, Bool.not_eq_true', Bool.not_eq_false', ne_eq, Decidable.not_not, Bool.not_eq_true, Bool.and_eq_true, Bool.or_eq_true, BitVec.reduceToNat] at hc1
        skip
        refine JC.seq ?_
        refine JC.region ?_
        refine JO.v (Yv.move rfl) (by decide) ?_
        refine JO.v (Yv.assign rfl) (by decide) ?_
        refine JO.nil ?_
        refine JQ.then_normal ?_
        refine JC.ret ?_
        refine JQ.then_ret ?_
        exact JQ.done (.inr rfl) (Γ' := []) (H' := []) (res1 rfl (RV.tmp rfl)) (Subs.sub (by repeat (first | exact Subs.nil _ | apply Subs.cons | exact List.Mem.head _ | refine List.Mem.tail _ ?_))) (Picks.perm (by repeat (first | exact Picks.nil _ | apply Picks.cons | exact Pull.here _ _ | apply Pull.there))) ⟨rfl, rfl, rfl⟩
      · try simp only [decide_eq_true_eq, decide_eq_false_iff_not, Bool.not_eq_true', Bool.not_eq_false', ne_eq, Decidable.not_not, Bool.not_eq_true, Bool.and_eq_true, Bool.or_eq_true, BitVec.reduceToNat] at hc1
        have hn1 : 0 < n := by omega
        have hT' : 0 < totN ws := by omega
        refine JC.skip ?_
        refine JQ.then_normal ?_
        refine JC.seq ?_
        refine JC.region ?_
        refine JO.v (Yv.move rfl) (by decide) ?_
        refine JO.v (Yv.move rfl) (by decide) ?_
        refine JO.callB (f9a_spec u ws n hE) body_9 rfl (by repeat (first | exact Picks.nil _ | apply Picks.cons | exact Pull.here _ _ | apply Pull.there)) (by repeat (first | exact Lends.nil _ | apply Lends.cons | exact Lend.same _ _ | exact Lend.row _ _ _ _ _ _ (by decide) | apply Lend.there)) (by rintro _ _ _ ⟨_, _, h, _⟩; exact h) (by decide) ?_
        rintro _ _ ⟨_, ⟨v6, rfl, _, rfl⟩, hH⟩
        simp only [List.cons_append, List.nil_append] at hH; subst hH
        rw [show ((n : Int)).toNat = n from rfl]
        refine JO.v (Yv.move rfl) (by decide) ?_
        refine JO.v (Yv.as (v' := v6) (Yv.extract rfl rfl) rfl) (by decide) ?_
        refine JO.v (Yv.as (v' := it 0) (Yv.extract rfl rfl) rfl) (by decide) ?_
        refine JO.v (Yv.assign rfl) (by decide) ?_
        refine JO.v (Yv.assign rfl) (by decide) ?_
        refine JO.nil ?_
        refine JQ.then_normal ?_
        refine JC.seq ?_
        refine JC.region ?_
        refine JO.v (Yv.move rfl) (by decide) ?_
        refine JO.callB (f12_spec u ws) body_12 rfl (by repeat (first | exact Picks.nil _ | apply Picks.cons | exact Pull.here _ _ | apply Pull.there)) (by repeat (first | exact Lends.nil _ | apply Lends.cons | exact Lend.same _ _ | exact Lend.row _ _ _ _ _ _ (by decide) | apply Lend.there)) (by rintro _ _ _ ⟨_, h, _⟩; exact h) (by decide) ?_
        rintro _ _ ⟨_, ⟨rfl, _, rfl⟩, hH⟩
        simp only [List.cons_append, List.nil_append] at hH; subst hH
        refine JO.alloc _ zero_32 rfl (by decide) fun b8 => ?_
        first | refine JO.storeAll sz_32 rfl rfl rfl (by first | rfl | (simp; done) | (simp; omega)) (by first | (simp; done) | exact one_map (fun _ => rfl) | exact one_tab (fun _ => rfl) | exact one_tab (fun _ => by split <;> rfl)) (by repeat (first | exact Upd.here _ _ _ | apply Upd.there)) (by first | rfl | (simp; done) | (simp; omega)) ?_ | refine JO.store sz_32 rfl rfl rfl (by first | rfl | (simp; done) | (simp; omega)) (by first | (simp; done) | exact one_sing rfl | exact one_map (fun _ => rfl) | exact one_piece (one_map (fun _ => rfl)) | exact one_tab (fun _ => rfl) | exact one_tab (fun _ => by split <;> rfl)) (by repeat (first | exact Upd.here _ _ _ | apply Upd.there)) (by first | exact ltb rfl | (simp; done) | (simp; omega) | omega | (simp [*]; omega)) ?_ | refine JO.storeRow sz_32 rfl rfl rfl (by first | rfl | simp) (by first | (simp; done) | exact one_map (fun _ => rfl) | exact one_tab (fun _ => rfl) | exact one_tab (fun _ => by split <;> rfl)) (by repeat (first | exact Upd.here _ _ _ | apply Upd.there)) (by first | exact ltb rfl | (simp; done) | (simp; omega) | omega | (simp [*]; omega)) (by first | exact ltb rfl | (simp; done) | (simp; omega) | omega | (simp [*]; omega)) ?_
        refine JO.nil ?_
        refine JQ.then_normal ?_
        refine JC.seq ?_
        refine JC.seq ?_
        refine JC.region ?_
        first | refine JO.v (Yv.loadOwn agg_32 (by repeat (first | exact List.Mem.head _ | refine List.Mem.tail _ ?_)) rfl (by first | rfl | (simp; done) | (simp; omega) | (simp [*]; done))) (by decide) ?_ | refine JO.v (Yv.loadOwnAt agg_32 (by repeat (first | exact List.Mem.head _ | refine List.Mem.tail _ ?_)) rfl (by first | rfl | (simp; done) | (simp; omega) | (simp [*]; done))) (by decide) ?_ | refine JO.v (Yv.loadRow agg_32 (by repeat (first | exact List.Mem.head _ | refine List.Mem.tail _ ?_)) rfl (by first | rfl | (simp; done) | (simp; omega) | (simp [*]; done))) (by decide) ?_ | refine JO.v (Yv.loadRd agg_32 (by repeat (first | exact Lend.same _ _ | exact Lend.row _ _ _ _ _ _ (by decide) | apply Lend.there)) rfl (by first | rfl | (simp; done) | (simp; omega) | (simp [*]; done))) (by decide) ?_ | refine JO.v (Yv.loadRo agg_32 (by repeat (first | exact List.Mem.head _ | refine List.Mem.tail _ ?_)) rfl (by first | rfl | (simp; done) | (simp; omega) | (simp [*]; done))) (by decide) ?_
        refine JO.v (Yv.as (v' := .agg ((wd 0).map u64).toArray) (Yv.build bld_32 rfl rfl) rfl) (by decide) ?_
        refine JO.v (Yv.as (v' := .bool (decide (totN ws = 0))) (Yv.bin rfl rfl (eql_nat wd_len' wd_len')) (congrArg Value.bool (decide_eq_decide.2 (by rw [wd_eq htl (by decide)])))) (by decide) ?_
        refine JO.nil ?_
        refine JQ.then_normal ?_
        refine JC.cond rfl (fun hc2 => ?_) (fun hc2 => ?_)
        · try simp only [decide_eq_true_eq, decide_eq_false_iff_not, Bool.not_eq_true', Bool.not_eq_false', ne_eq, Decidable.not_not, Bool.not_eq_true, Bool.and_eq_true, Bool.or_eq_true, BitVec.reduceToNat] at hc2
          exact absurd hc2 (by omega)
        · try simp only [decide_eq_true_eq, decide_eq_false_iff_not, Bool.not_eq_true', Bool.not_eq_false', ne_eq, Decidable.not_not, Bool.not_eq_true, Bool.and_eq_true, Bool.or_eq_true, BitVec.reduceToNat] at hc2
          refine JC.skip ?_
          refine JQ.then_normal ?_
          refine JC.seq ?_
          refine JC.seq ?_
          refine JC.region ?_
          refine JO.v (Yv.move rfl) (by decide) ?_
          refine JO.v (Yv.as (v' := .bool false) (Yv.bin rfl rfl BinR.neq_i) (congrArg Value.bool (by decide +kernel))) (by decide) ?_
          refine JO.v (Yv.move rfl) (by decide) ?_
          refine JO.gt (g := 44) rfl rfl rfl ?_
          refine JO.v (Yv.move rfl) (by decide) ?_
          refine JO.gt (g := 44) rfl rfl rfl ?_
          first | refine JO.v (Yv.len_s Try.underlying25 rfl) (by decide) ?_ | refine JO.v (Yv.lenRd Try.underlying25 rfl (by repeat (first | exact Lend.same _ _ | exact Lend.row _ _ _ _ _ _ (by decide) | apply Lend.there))) (by decide) ?_
          refine JO.gt (g := 44) rfl rfl rfl ?_
          refine JO.v (Yv.move rfl) (by decide) ?_
          refine JO.gt (g := 44) rfl rfl rfl ?_
          first | refine JO.v (Yv.len_s Try.underlying22 rfl) (by decide) ?_ | refine JO.v (Yv.lenRd Try.underlying22 rfl (by repeat (first | exact Lend.same _ _ | exact Lend.row _ _ _ _ _ _ (by decide) | apply Lend.there))) (by decide) ?_
          refine JO.gt (g := 44) rfl rfl rfl ?_
          refine JO.v (Yv.as (v' := .bool false) (Yv.bin rfl rfl BinR.neq_i) (congrArg Value.bool (by simp))) (by decide) ?_
          refine JO.v (Yv.pick0 rfl rfl rfl) (by decide) ?_
          refine JO.nil ?_
          refine JQ.then_normal ?_
          refine JC.cond rfl (fun hc3 => ?_) (fun hc3 => ?_)
          · try simp only [decide_eq_true_eq, decide_eq_false_iff_not, Bool.not_eq_true', Bool.not_eq_false', ne_eq, Decidable.not_not, Bool.not_eq_true, Bool.and_eq_true, Bool.or_eq_true, BitVec.reduceToNat] at hc3
            exact absurd hc3 (by decide)
          · try simp only [decide_eq_true_eq, decide_eq_false_iff_not, Bool.not_eq_true', Bool.not_eq_false', ne_eq, Decidable.not_not, Bool.not_eq_true, Bool.and_eq_true, Bool.or_eq_true, BitVec.reduceToNat] at hc3
            refine JC.skip ?_
            refine JQ.then_normal ?_
            refine JC.seq ?_
            refine JC.region ?_
            refine JO.v (Yv.as (v' := it (sumC (shareL ws n) 0)) (Yv.assign rfl) rfl) (by decide) ?_
            refine JO.nil ?_
            refine JQ.then_normal ?_
            refine JC.seq ?_
            refine JC.seq ?_
            refine JC.region ?_
            refine JO.v (Yv.assign rfl) (by decide) ?_
            refine JO.nil ?_
            refine JQ.then_normal ?_
            refine JC.block ?_
            refine JC.loop (ι := Nat) (fun x => x ≤ ws.length) (fun x => [(0, u), (1, it (n : Int)), (5, .bool true), (6, v6), (8, ptr b8 0), (9, it (sumC (shareL ws n) x)), (10, it (x : Int))]) (fun x => [Res.rd u ws.length 1 (ws.map u64)]) (fun x => [Res.cells b8 ((wd (totN ws)).map u64) 32, Res.row v6 (shareL ws n).length 3 1 ((shareL ws n).map it)]) (fun x => ws.length - x) 0 (by repeat (first | exact trivial | refine ⟨by first | rfl | (simp; done), ?_⟩)) (Subs.sub (by repeat (first | exact Subs.nil _ | apply Subs.cons | exact List.Mem.head _ | refine List.Mem.tail _ ?_))) (Picks.perm (by repeat (first | exact Picks.nil _ | apply Picks.cons | exact Pull.here _ _ | apply Pull.there))) ?_ (fun x hx => ?_)
            · exact Nat.zero_le _
            revert hx
            generalize x = i
            intro hi
            refine JC.seq ?_
            refine JC.seq ?_
            refine JC.region ?_
            refine JO.v (Yv.move rfl) (by decide) ?_
            refine JO.v (Yv.move rfl) (by decide) ?_
            first | refine JO.v (Yv.len_s Try.underlying25 rfl) (by decide) ?_ | refine JO.v (Yv.lenRd Try.underlying25 rfl (by repeat (first | exact Lend.same _ _ | exact Lend.row _ _ _ _ _ _ (by decide) | apply Lend.there))) (by decide) ?_
            refine JO.v (Yv.bin rfl rfl BinR.lss_i) (by decide) ?_
            refine JO.nil ?_
            refine JQ.then_normal ?_
            refine JC.cond rfl (fun hc4 => ?_) (fun hc4 => ?_)
            · try simp only [decide_eq_true_eq, decide_eq_false_iff_not, Bool.not_eq_true', Bool.not_eq_false', ne_eq, Decidable.not_not, Bool.not_eq_true, Bool.and_eq_true, Bool.or_eq_true, BitVec.reduceToNat] at hc4
              have hil : i < ws.length := by simpa using hc4
              have hst := share_step (n := n) hl hil
              have hqb := qN_le (n := n) hl hil
              have hps := share_pos (n := n) hl hn hi
              refine JC.skip ?_
              refine JQ.then_normal ?_
              refine JC.seq ?_
              refine JC.block ?_
              refine JC.seq ?_
              refine JC.draw (.one 0 (.one 1 (.one 2 (.one 3 (.one 4 (.one 5 (.one 6 (.one 7 (.one 8 (.one 9 .nil)))))))))) (fun i => ([7] : List Nat).contains i) (fun i => ([7] : List Nat).contains i) (fun i => ([0, 1, 2, 3, 4, 8, 9] : List Nat).contains i) mixed (by kernel_rfl) (by decide) (by kernel_rfl) ?_
              refine JR.u rfl rfl rfl (Yv.move rfl) (by decide) ?_
              refine JR.u rfl rfl rfl (Yv.as (v' := u64 (BitVec.ofNat 64 n)) (Yv.conv_i_u64 Try.underlying3 Try.underlying24 rfl) (congrArg u64 (by simp))) (by decide) ?_
              refine JR.u rfl rfl rfl (Yv.move rfl) (by decide) ?_
              refine JR.u rfl rfl rfl (Yv.move rfl) (by decide) ?_
              first | refine JR.u rfl rfl rfl (Yv.indexRow1 Try.underlying22 sz_24 rfl rfl (by repeat (first | exact List.Mem.head _ | refine List.Mem.tail _ ?_)) (by first | exact ltb rfl | (simp; done) | (simp; omega) | omega | (simp [*]; omega))) (by decide) ?_ | refine JR.u rfl rfl rfl (Yv.indexRd1 Try.underlying22 sz_24 rfl rfl (by repeat (first | exact Lend.same _ _ | exact Lend.row _ _ _ _ _ _ (by decide) | apply Lend.there)) (by first | exact ltb rfl | (simp; done) | (simp; omega) | omega | (simp [*]; omega))) (by decide) ?_
              refine JR.v rfl rfl rfl (Yv.load1 one_24 rfl (by first | exact Kn.own (by repeat (first | exact List.Mem.head _ | refine List.Mem.tail _ ?_)) (by first  | rfl | exact tab_get (by first | omega | (simp; omega)) | exact gm (d := 0) (by first | omega | (simp; omega))) | exact Kn.ro (by repeat (first | exact List.Mem.head _ | refine List.Mem.tail _ ?_)) (by first  | rfl | exact tab_get (by first | omega | (simp; omega)) | exact gm (d := 0) (by first | omega | (simp; omega))) | exact Kn.row (by repeat (first | exact List.Mem.head _ | refine List.Mem.tail _ ?_)) (by first  | rfl | exact tab_get (by first | omega | (simp; omega)) | exact gm (d := 0) (by first | omega | (simp; omega))) | exact Kn.rd (by repeat (first | exact Lend.same _ _ | exact Lend.row _ _ _ _ _ _ (by decide) | apply Lend.there)) (by first  | rfl | exact tab_get (by first | omega | (simp; omega)) | exact gm (d := 0) (by first | omega | (simp; omega))) | exact Kn.rd2 (by repeat (first | exact Lend.same _ _ | exact Lend.row _ _ _ _ _ _ (by decide) | apply Lend.there)) (by first  | rfl | exact tab_get (by first | omega | (simp; omega)) | exact gm (d := 0) (by first | omega | (simp; omega))))) (by decide) ?_
              first | refine JR.v rfl rfl rfl (Yv.loadOwn agg_32 (by repeat (first | exact List.Mem.head _ | refine List.Mem.tail _ ?_)) rfl (by first | rfl | (simp; done) | (simp; omega) | (simp [*]; done))) (by decide) ?_ | refine JR.v rfl rfl rfl (Yv.loadOwnAt agg_32 (by repeat (first | exact List.Mem.head _ | refine List.Mem.tail _ ?_)) rfl (by first | rfl | (simp; done) | (simp; omega) | (simp [*]; done))) (by decide) ?_ | refine JR.v rfl rfl rfl (Yv.loadRow agg_32 (by repeat (first | exact List.Mem.head _ | refine List.Mem.tail _ ?_)) rfl (by first | rfl | (simp; done) | (simp; omega) | (simp [*]; done))) (by decide) ?_ | refine JR.v rfl rfl rfl (Yv.loadRd agg_32 (by repeat (first | exact Lend.same _ _ | exact Lend.row _ _ _ _ _ _ (by decide) | apply Lend.there)) rfl (by first | rfl | (simp; done) | (simp; omega) | (simp [*]; done))) (by decide) ?_ | refine JR.v rfl rfl rfl (Yv.loadRo agg_32 (by repeat (first | exact List.Mem.head _ | refine List.Mem.tail _ ?_)) rfl (by first | rfl | (simp; done) | (simp; omega) | (simp [*]; done))) (by decide) ?_
              refine JR.m rfl rfl (Mv.callB body_13 rfl (f13_spec (BitVec.ofNat 64 n) (ws.getD i 0) (totN ws) htl) (by repeat (first | exact Picks.nil _ | apply Picks.cons | exact Pull.here _ _ | apply Pull.there)) (by repeat (first | exact Lends.nil _ | apply Lends.cons | exact Lend.same _ _ | exact Lend.row _ _ _ _ _ _ (by decide) | apply Lend.there)) (by rintro _ _ _ ⟨_, h, _⟩; exact h)) (by decide) ?_
              rintro _ _ _ ⟨_, ⟨rfl, _, rfl⟩, hΓ, hH⟩
              simp only [List.cons_append, List.nil_append] at hH; subst hΓ hH
              rw [part_q hl hn hT' (by omega)]
              refine ⟨⟨Subs.sub (by repeat (first | exact Subs.nil _ | apply Subs.cons | exact List.Mem.head _ | refine List.Mem.tail _ ?_)), .inl rfl⟩, ?_⟩
              refine JR.u rfl rfl rfl (Yv.as (v' := it ((qN ws n i : Nat) : Int)) (Yv.conv_u64_i Try.underlying24 Try.underlying3 rfl (by rw [BitVec.toNat_ofNat]; omega)) (congrArg (fun k : Nat => it (k : Int)) (by rw [BitVec.toNat_ofNat]; omega))) (by decide) ?_
              refine JR.u rfl rfl rfl (Yv.assign rfl) (by decide) ?_
              refine JR.nil ?_
              refine JQ.then_normal ?_
              refine JC.seq ?_
              refine JC.seq ?_
              refine JC.region ?_
              refine JO.v (Yv.move rfl) (by decide) ?_
              refine JO.v (Yv.move rfl) (by decide) ?_
              first | refine JO.v (Yv.indexRow1 Try.underlying25 sz_3 rfl rfl (by repeat (first | exact List.Mem.head _ | refine List.Mem.tail _ ?_)) (by first | exact ltb rfl | (simp; done) | (simp; omega) | omega | (simp [*]; omega))) (by decide) ?_ | refine JO.v (Yv.indexRd1 Try.underlying25 sz_3 rfl rfl (by repeat (first | exact Lend.same _ _ | exact Lend.row _ _ _ _ _ _ (by decide) | apply Lend.there)) (by first | exact ltb rfl | (simp; done) | (simp; omega) | omega | (simp [*]; omega))) (by decide) ?_
              refine JO.v (Yv.load1 one_3 rfl (by first | exact Kn.own (by repeat (first | exact List.Mem.head _ | refine List.Mem.tail _ ?_)) (by first  | rfl | exact tab_get (by first | omega | (simp; omega)) | exact gm (d := 0) (by first | omega | (simp; omega))) | exact Kn.ro (by repeat (first | exact List.Mem.head _ | refine List.Mem.tail _ ?_)) (by first  | rfl | exact tab_get (by first | omega | (simp; omega)) | exact gm (d := 0) (by first | omega | (simp; omega))) | exact Kn.row (by repeat (first | exact List.Mem.head _ | refine List.Mem.tail _ ?_)) (by first  | rfl | exact tab_get (by first | omega | (simp; omega)) | exact gm (d := 0) (by first | omega | (simp; omega))) | exact Kn.rd (by repeat (first | exact Lend.same _ _ | exact Lend.row _ _ _ _ _ _ (by decide) | apply Lend.there)) (by first  | rfl | exact tab_get (by first | omega | (simp; omega)) | exact gm (d := 0) (by first | omega | (simp; omega))) | exact Kn.rd2 (by repeat (first | exact Lend.same _ _ | exact Lend.row _ _ _ _ _ _ (by decide) | apply Lend.there)) (by first  | rfl | exact tab_get (by first | omega | (simp; omega)) | exact gm (d := 0) (by first | omega | (simp; omega))))) (by decide) ?_
              refine JO.v (Yv.move rfl) (by decide) ?_
              refine JO.v (Yv.bin rfl rfl BinR.neq_i) (by decide) ?_
              refine JO.v (Yv.move rfl) (by decide) ?_
              refine JO.join 8 80 (.bool false) ?_ ?_
              · skip
                refine JO.gsplit (g := 71) rfl (fun hg71 => ?_) (fun hg71 => ?_)
                · have hg71' := hg71
                  try simp only [decide_eq_true_eq, decide_eq_false_iff_not, Bool.not_eq_true', Bool.not_eq_false', ne_eq, Decidable.not_not, Bool.not_eq_true, Bool.and_eq_true, Bool.or_eq_true, BitVec.reduceToNat] at hg71'
                  refine JO.gt (g := 72) rfl rfl hg71 ?_
                  refine JO.v (Yv.move rfl) (by decide) ?_
                  refine JO.gt (g := 72) rfl rfl hg71 ?_
                  refine JO.v (Yv.move rfl) (by decide) ?_
                  refine JO.gt (g := 72) rfl rfl hg71 ?_
                  first | refine JO.v (Yv.indexRow1 Try.underlying25 sz_3 rfl rfl (by repeat (first | exact List.Mem.head _ | refine List.Mem.tail _ ?_)) (by first | exact ltb rfl | (simp; done) | (simp; omega) | omega | (simp [*]; omega))) (by decide) ?_ | refine JO.v (Yv.indexRd1 Try.underlying25 sz_3 rfl rfl (by repeat (first | exact Lend.same _ _ | exact Lend.row _ _ _ _ _ _ (by decide) | apply Lend.there)) (by first | exact ltb rfl | (simp; done) | (simp; omega) | omega | (simp [*]; omega))) (by decide) ?_
                  refine JO.gt (g := 72) rfl rfl hg71 ?_
                  refine JO.v (Yv.load1 one_3 rfl (by first | exact Kn.own (by repeat (first | exact List.Mem.head _ | refine List.Mem.tail _ ?_)) (by first  | rfl | exact tab_get (by first | omega | (simp; omega)) | exact gm (d := 0) (by first | omega | (simp; omega))) | exact Kn.ro (by repeat (first | exact List.Mem.head _ | refine List.Mem.tail _ ?_)) (by first  | rfl | exact tab_get (by first | omega | (simp; omega)) | exact gm (d := 0) (by first | omega | (simp; omega))) | exact Kn.row (by repeat (first | exact List.Mem.head _ | refine List.Mem.tail _ ?_)) (by first  | rfl | exact tab_get (by first | omega | (simp; omega)) | exact gm (d := 0) (by first | omega | (simp; omega))) | exact Kn.rd (by repeat (first | exact Lend.same _ _ | exact Lend.row _ _ _ _ _ _ (by decide) | apply Lend.there)) (by first  | rfl | exact tab_get (by first | omega | (simp; omega)) | exact gm (d := 0) (by first | omega | (simp; omega))) | exact Kn.rd2 (by repeat (first | exact Lend.same _ _ | exact Lend.row _ _ _ _ _ _ (by decide) | apply Lend.there)) (by first  | rfl | exact tab_get (by first | omega | (simp; omega)) | exact gm (d := 0) (by first | omega | (simp; omega))))) (by decide) ?_
                  refine JO.gt (g := 72) rfl rfl hg71 ?_
                  refine JO.v (Yv.move rfl) (by decide) ?_
                  refine JO.gt (g := 72) rfl rfl hg71 ?_
                  refine JO.v (Yv.bin rfl rfl (BinR.add_i (by first | (constructor <;> omega) | (constructor <;> simp <;> omega)))) (by decide) ?_
                  refine JO.gt (g := 72) rfl rfl hg71 ?_
                  refine JO.v (Yv.as (v' := .bool false) (Yv.bin rfl rfl BinR.neq_i) (congrArg Value.bool (decide_eq_false (by omega)))) (by decide) ?_
                  refine JO.v (Yv.pick1 rfl hg71 rfl) (by decide) ?_
                  refine JO.nil ?_
                  refine JQ.head () (by first | (refine ⟨by first | rfl | (simp [*]; done) | (show some _ = some _; simp [*]; done), ?_⟩; repeat (first | exact trivial | refine ⟨rfl, ?_⟩))) (Subs.sub (by repeat (first | exact Subs.nil _ | apply Subs.cons | exact List.Mem.head _ | refine List.Mem.tail _ ?_))) (Picks.perm (by repeat (first | exact Picks.nil _ | apply Picks.cons | exact Pull.here _ _ | apply Pull.there))) ?_
                  trivial
                · have hg71' := hg71
                  try simp only [decide_eq_true_eq, decide_eq_false_iff_not, Bool.not_eq_true', Bool.not_eq_false', ne_eq, Decidable.not_not, Bool.not_eq_true, Bool.and_eq_true, Bool.or_eq_true, BitVec.reduceToNat] at hg71'
                  refine JO.gf (g := 72) rfl rfl hg71 (by decide) ?_
                  refine JO.gf (g := 72) rfl rfl hg71 (by decide) ?_
                  refine JO.gf (g := 72) rfl rfl hg71 (by decide) ?_
                  refine JO.gf (g := 72) rfl rfl hg71 (by decide) ?_
                  refine JO.gf (g := 72) rfl rfl hg71 (by decide) ?_
                  refine JO.gf (g := 72) rfl rfl hg71 (by decide) ?_
                  refine JO.gf (g := 72) rfl rfl hg71 (by decide) ?_
                  refine JO.v (Yv.pick0 rfl hg71 rfl) (by decide) ?_
                  refine JO.nil ?_
                  refine JQ.head () (by first | (refine ⟨by first | rfl | (simp [*]; done) | (show some _ = some _; simp [*]; done), ?_⟩; repeat (first | exact trivial | refine ⟨rfl, ?_⟩))) (Subs.sub (by repeat (first | exact Subs.nil _ | apply Subs.cons | exact List.Mem.head _ | refine List.Mem.tail _ ?_))) (Picks.perm (by repeat (first | exact Picks.nil _ | apply Picks.cons | exact Pull.here _ _ | apply Pull.there))) ?_
                  trivial
              · skip
                refine JO.v (Yv.move rfl) (by decide) ?_
                refine JO.gt (g := 81) rfl rfl rfl ?_
                refine JO.v (Yv.move rfl) (by decide) ?_
                refine JO.gt (g := 81) rfl rfl rfl ?_
                refine JO.v (Yv.move rfl) (by decide) ?_
                refine JO.gt (g := 81) rfl rfl rfl ?_
                first | refine JO.v (Yv.indexRow1 Try.underlying22 sz_24 rfl rfl (by repeat (first | exact List.Mem.head _ | refine List.Mem.tail _ ?_)) (by first | exact ltb rfl | (simp; done) | (simp; omega) | omega | (simp [*]; omega))) (by decide) ?_ | refine JO.v (Yv.indexRd1 Try.underlying22 sz_24 rfl rfl (by repeat (first | exact Lend.same _ _ | exact Lend.row _ _ _ _ _ _ (by decide) | apply Lend.there)) (by first | exact ltb rfl | (simp; done) | (simp; omega) | omega | (simp [*]; omega))) (by decide) ?_
                refine JO.gt (g := 81) rfl rfl rfl ?_
                refine JO.v (Yv.load1 one_24 rfl (by first | exact Kn.own (by repeat (first | exact List.Mem.head _ | refine List.Mem.tail _ ?_)) (by first  | rfl | exact tab_get (by first | omega | (simp; omega)) | exact gm (d := 0) (by first | omega | (simp; omega))) | exact Kn.ro (by repeat (first | exact List.Mem.head _ | refine List.Mem.tail _ ?_)) (by first  | rfl | exact tab_get (by first | omega | (simp; omega)) | exact gm (d := 0) (by first | omega | (simp; omega))) | exact Kn.row (by repeat (first | exact List.Mem.head _ | refine List.Mem.tail _ ?_)) (by first  | rfl | exact tab_get (by first | omega | (simp; omega)) | exact gm (d := 0) (by first | omega | (simp; omega))) | exact Kn.rd (by repeat (first | exact Lend.same _ _ | exact Lend.row _ _ _ _ _ _ (by decide) | apply Lend.there)) (by first  | rfl | exact tab_get (by first | omega | (simp; omega)) | exact gm (d := 0) (by first | omega | (simp; omega))) | exact Kn.rd2 (by repeat (first | exact Lend.same _ _ | exact Lend.row _ _ _ _ _ _ (by decide) | apply Lend.there)) (by first  | rfl | exact tab_get (by first | omega | (simp; omega)) | exact gm (d := 0) (by first | omega | (simp; omega))))) (by decide) ?_
                refine JO.gt (g := 81) rfl rfl rfl ?_
                refine JO.v (Yv.bin rfl rfl (BinR.eql_u64 (b := 0#64))) (by decide) ?_
                refine JO.gt (g := 81) rfl rfl rfl ?_
                refine JO.v (Yv.move rfl) (by decide) ?_
                refine JO.join 6 93 (.bool false) ?_ ?_
                · skip
                  refine JO.gsplit (g := 86) rfl (fun hg86 => ?_) (fun hg86 => ?_)
                  · have hg86' := hg86
                    try simp only [decide_eq_true_eq, decide_eq_false_iff_not, Bool.not_eq_true', Bool.not_eq_false', ne_eq, Decidable.not_not, Bool.not_eq_true, Bool.and_eq_true, Bool.or_eq_true, BitVec.reduceToNat] at hg86'
                    refine JO.gt (g := 87) rfl rfl hg86 ?_
                    refine JO.v (Yv.move rfl) (by decide) ?_
                    refine JO.gt (g := 87) rfl rfl hg86 ?_
                    refine JO.v (Yv.move rfl) (by decide) ?_
                    refine JO.gt (g := 87) rfl rfl hg86 ?_
                    first | refine JO.v (Yv.indexRow1 Try.underlying25 sz_3 rfl rfl (by repeat (first | exact List.Mem.head _ | refine List.Mem.tail _ ?_)) (by first | exact ltb rfl | (simp; done) | (simp; omega) | omega | (simp [*]; omega))) (by decide) ?_ | refine JO.v (Yv.indexRd1 Try.underlying25 sz_3 rfl rfl (by repeat (first | exact Lend.same _ _ | exact Lend.row _ _ _ _ _ _ (by decide) | apply Lend.there)) (by first | exact ltb rfl | (simp; done) | (simp; omega) | omega | (simp [*]; omega))) (by decide) ?_
                    refine JO.gt (g := 87) rfl rfl hg86 ?_
                    refine JO.v (Yv.load1 one_3 rfl (by first | exact Kn.own (by repeat (first | exact List.Mem.head _ | refine List.Mem.tail _ ?_)) (by first  | rfl | exact tab_get (by first | omega | (simp; omega)) | exact gm (d := 0) (by first | omega | (simp; omega))) | exact Kn.ro (by repeat (first | exact List.Mem.head _ | refine List.Mem.tail _ ?_)) (by first  | rfl | exact tab_get (by first | omega | (simp; omega)) | exact gm (d := 0) (by first | omega | (simp; omega))) | exact Kn.row (by repeat (first | exact List.Mem.head _ | refine List.Mem.tail _ ?_)) (by first  | rfl | exact tab_get (by first | omega | (simp; omega)) | exact gm (d := 0) (by first | omega | (simp; omega))) | exact Kn.rd (by repeat (first | exact Lend.same _ _ | exact Lend.row _ _ _ _ _ _ (by decide) | apply Lend.there)) (by first  | rfl | exact tab_get (by first | omega | (simp; omega)) | exact gm (d := 0) (by first | omega | (simp; omega))) | exact Kn.rd2 (by repeat (first | exact Lend.same _ _ | exact Lend.row _ _ _ _ _ _ (by decide) | apply Lend.there)) (by first  | rfl | exact tab_get (by first | omega | (simp; omega)) | exact gm (d := 0) (by first | omega | (simp; omega))))) (by decide) ?_
                    refine JO.gt (g := 87) rfl rfl hg86 ?_
                    refine JO.v (Yv.as (v' := .bool false) (Yv.bin rfl rfl BinR.neq_i) (congrArg Value.bool (decide_eq_false fun h => h (share_none hl hT' hil (by rw [hg86']; rfl))))) (by decide) ?_
                    refine JO.gt (g := 81) rfl rfl rfl ?_
                    refine JO.v (Yv.pick1 rfl hg86 rfl) (by decide) ?_
                    refine JO.nil ?_
                    refine JQ.head () (by first | (refine ⟨by first | rfl | (simp [*]; done) | (show some _ = some _; simp [*]; done), ?_⟩; repeat (first | exact trivial | refine ⟨rfl, ?_⟩))) (Subs.sub (by repeat (first | exact Subs.nil _ | apply Subs.cons | exact List.Mem.head _ | refine List.Mem.tail _ ?_))) (Picks.perm (by repeat (first | exact Picks.nil _ | apply Picks.cons | exact Pull.here _ _ | apply Pull.there))) ?_
                    trivial
                  · have hg86' := hg86
                    try simp only [decide_eq_true_eq, decide_eq_false_iff_not, Bool.not_eq_true', Bool.not_eq_false', ne_eq, Decidable.not_not, Bool.not_eq_true, Bool.and_eq_true, Bool.or_eq_true, BitVec.reduceToNat] at hg86'
                    refine JO.gf (g := 87) rfl rfl hg86 (by decide) ?_
                    refine JO.gf (g := 87) rfl rfl hg86 (by decide) ?_
                    refine JO.gf (g := 87) rfl rfl hg86 (by decide) ?_
                    refine JO.gf (g := 87) rfl rfl hg86 (by decide) ?_
                    refine JO.gf (g := 87) rfl rfl hg86 (by decide) ?_
                    refine JO.gt (g := 81) rfl rfl rfl ?_
                    refine JO.v (Yv.pick0 rfl hg86 rfl) (by decide) ?_
                    refine JO.nil ?_
                    refine JQ.head () (by first | (refine ⟨by first | rfl | (simp [*]; done) | (show some _ = some _; simp [*]; done), ?_⟩; repeat (first | exact trivial | refine ⟨rfl, ?_⟩))) (Subs.sub (by repeat (first | exact Subs.nil _ | apply Subs.cons | exact List.Mem.head _ | refine List.Mem.tail _ ?_))) (Picks.perm (by repeat (first | exact Picks.nil _ | apply Picks.cons | exact Pull.here _ _ | apply Pull.there))) ?_
                    trivial
                · skip
                  refine JO.v (Yv.pick0 rfl rfl rfl) (by decide) ?_
                  refine JO.nil ?_
                  refine JQ.then_normal ?_
                  refine JC.cond rfl (fun hc5 => ?_) (fun hc5 => ?_)
                  · try simp only [decide_eq_true_eq, decide_eq_false_iff_not, Bool.not_eq_true', Bool.not_eq_false', ne_eq, Decidable.not_not, Bool.not_eq_true, Bool.and_eq_true, Bool.or_eq_true, BitVec.reduceToNat] at hc5
                    exact absurd hc5 (by decide)
                  · try simp only [decide_eq_true_eq, decide_eq_false_iff_not, Bool.not_eq_true', Bool.not_eq_false', ne_eq, Decidable.not_not, Bool.not_eq_true, Bool.and_eq_true, Bool.or_eq_true, BitVec.reduceToNat] at hc5
                    refine JC.skip ?_
                    refine JQ.then_normal ?_
                    refine JC.seq ?_
                    refine JC.seq ?_
                    refine JC.region ?_
                    refine JO.v (Yv.assign rfl) (by decide) ?_
                    refine JO.nil ?_
                    refine JQ.then_normal ?_
                    refine JC.block ?_
                    refine JC.loop (ι := Nat) (fun x => x ≤ i) (fun x => [(0, u), (1, it (n : Int)), (5, .bool true), (6, v6), (8, ptr b8 0), (9, it (sumC (shareL ws n) i)), (10, it (i : Int)), (12, it (x : Int))]) (fun x => [Res.rd u ws.length 1 (ws.map u64)]) (fun x => [Res.cells b8 ((wd (totN ws)).map u64) 32, Res.row v6 (shareL ws n).length 3 1 ((shareL ws n).map it)]) (fun x => i - x) 0 (by repeat (first | exact trivial | refine ⟨by first | rfl | (simp; done), ?_⟩)) (Subs.sub (by repeat (first | exact Subs.nil _ | apply Subs.cons | exact List.Mem.head _ | refine List.Mem.tail _ ?_))) (Picks.perm (by repeat (first | exact Picks.nil _ | apply Picks.cons | exact Pull.here _ _ | apply Pull.there))) ?_ (fun x hx => ?_)
                    · exact Nat.zero_le _
                    revert hx
                    generalize x = j
                    intro hj
                    refine JC.seq ?_
                    refine JC.seq ?_
                    refine JC.region ?_
                    refine JO.v (Yv.move rfl) (by decide) ?_
                    refine JO.v (Yv.move rfl) (by decide) ?_
                    refine JO.v (Yv.bin rfl rfl BinR.lss_i) (by decide) ?_
                    refine JO.nil ?_
                    refine JQ.then_normal ?_
                    refine JC.cond rfl (fun hc6 => ?_) (fun hc6 => ?_)
                    · try simp only [decide_eq_true_eq, decide_eq_false_iff_not, Bool.not_eq_true', Bool.not_eq_false', ne_eq, Decidable.not_not, Bool.not_eq_true, Bool.and_eq_true, Bool.or_eq_true, BitVec.reduceToNat] at hc6
                      skip
                      refine JC.skip ?_
                      refine JQ.then_normal ?_
                      refine JC.seq ?_
                      refine JC.block ?_
                      refine JC.seq ?_
                      refine JC.draw (.one 0 (.one 1 (.one 2 (.one 3 (.one 4 (.one 5 (.one 6 (.one 7 (.one 8 (.one 9 (.one 10 (.one 11 (.one 12 (.one 13 (.one 14 (.one 15 (.one 16 (.one 17 (.one 18 (.one 19 (.one 20 (.one 21 (.one 22 (.one 23 (.one 24 (.one 25 (.one 26 (.one 27 (.one 28 (.one 29 (.one 30 (.one 31 (.one 32 (.one 33 (.one 34 (.one 35 (.one 36 (.one 37 (.one 38 (.one 39 (.one 40 (.one 41 .nil)))))))))))))))))))))))))))))))))))))))))) (fun i => ([] : List Nat).contains i) (fun i => ([] : List Nat).contains i) (fun i => ([0, 1, 2, 4, 5, 6, 8, 9, 10, 11, 14, 15, 18, 19, 20, 21, 22, 23, 25, 26, 27, 29, 30, 31, 32, 35, 36, 39, 40, 41] : List Nat).contains i) mixed (by kernel_rfl) (by decide) (by kernel_rfl) ?_
                      refine JR.u rfl rfl rfl (Yv.move rfl) (by decide) ?_
                      refine JR.u rfl rfl rfl (Yv.move rfl) (by decide) ?_
                      first | refine JR.u rfl rfl rfl (Yv.indexRow1 Try.underlying22 sz_24 rfl rfl (by repeat (first | exact List.Mem.head _ | refine List.Mem.tail _ ?_)) (by first | exact ltb rfl | (simp; done) | (simp; omega) | omega | (simp [*]; omega))) (by decide) ?_ | refine JR.u rfl rfl rfl (Yv.indexRd1 Try.underlying22 sz_24 rfl rfl (by repeat (first | exact Lend.same _ _ | exact Lend.row _ _ _ _ _ _ (by decide) | apply Lend.there)) (by first | exact ltb rfl | (simp; done) | (simp; omega) | omega | (simp [*]; omega))) (by decide) ?_
                      refine JR.v rfl rfl rfl (Yv.load1 one_24 rfl (by first | exact Kn.own (by repeat (first | exact List.Mem.head _ | refine List.Mem.tail _ ?_)) (by first  | rfl | exact tab_get (by first | omega | (simp; omega)) | exact gm (d := 0) (by first | omega | (simp; omega))) | exact Kn.ro (by repeat (first | exact List.Mem.head _ | refine List.Mem.tail _ ?_)) (by first  | rfl | exact tab_get (by first | omega | (simp; omega)) | exact gm (d := 0) (by first | omega | (simp; omega))) | exact Kn.row (by repeat (first | exact List.Mem.head _ | refine List.Mem.tail _ ?_)) (by first  | rfl | exact tab_get (by first | omega | (simp; omega)) | exact gm (d := 0) (by first | omega | (simp; omega))) | exact Kn.rd (by repeat (first | exact Lend.same _ _ | exact Lend.row _ _ _ _ _ _ (by decide) | apply Lend.there)) (by first  | rfl | exact tab_get (by first | omega | (simp; omega)) | exact gm (d := 0) (by first | omega | (simp; omega))) | exact Kn.rd2 (by repeat (first | exact Lend.same _ _ | exact Lend.row _ _ _ _ _ _ (by decide) | apply Lend.there)) (by first  | rfl | exact tab_get (by first | omega | (simp; omega)) | exact gm (d := 0) (by first | omega | (simp; omega))))) (by decide) ?_
                      refine JR.u rfl rfl rfl (Yv.move rfl) (by decide) ?_
                      refine JR.u rfl rfl rfl (Yv.move rfl) (by decide) ?_
                      first | refine JR.u rfl rfl rfl (Yv.indexRow1 Try.underlying22 sz_24 rfl rfl (by repeat (first | exact List.Mem.head _ | refine List.Mem.tail _ ?_)) (by first | exact ltb rfl | (simp; done) | (simp; omega) | omega | (simp [*]; omega))) (by decide) ?_ | refine JR.u rfl rfl rfl (Yv.indexRd1 Try.underlying22 sz_24 rfl rfl (by repeat (first | exact Lend.same _ _ | exact Lend.row _ _ _ _ _ _ (by decide) | apply Lend.there)) (by first | exact ltb rfl | (simp; done) | (simp; omega) | omega | (simp [*]; omega))) (by decide) ?_
                      refine JR.v rfl rfl rfl (Yv.load1 one_24 rfl (by first | exact Kn.own (by repeat (first | exact List.Mem.head _ | refine List.Mem.tail _ ?_)) (by first  | rfl | exact tab_get (by first | omega | (simp; omega)) | exact gm (d := 0) (by first | omega | (simp; omega))) | exact Kn.ro (by repeat (first | exact List.Mem.head _ | refine List.Mem.tail _ ?_)) (by first  | rfl | exact tab_get (by first | omega | (simp; omega)) | exact gm (d := 0) (by first | omega | (simp; omega))) | exact Kn.row (by repeat (first | exact List.Mem.head _ | refine List.Mem.tail _ ?_)) (by first  | rfl | exact tab_get (by first | omega | (simp; omega)) | exact gm (d := 0) (by first | omega | (simp; omega))) | exact Kn.rd (by repeat (first | exact Lend.same _ _ | exact Lend.row _ _ _ _ _ _ (by decide) | apply Lend.there)) (by first  | rfl | exact tab_get (by first | omega | (simp; omega)) | exact gm (d := 0) (by first | omega | (simp; omega))) | exact Kn.rd2 (by repeat (first | exact Lend.same _ _ | exact Lend.row _ _ _ _ _ _ (by decide) | apply Lend.there)) (by first  | rfl | exact tab_get (by first | omega | (simp; omega)) | exact gm (d := 0) (by first | omega | (simp; omega))))) (by decide) ?_
                      refine JR.u rfl rfl rfl (Yv.bin rfl rfl (BinR.gtr_u64)) (by decide) ?_
                      refine JR.u rfl rfl rfl (Yv.move rfl) (by decide) ?_
                      refine JR.gsplit (g := 108) rfl (fun hg108 => ?_) (fun hg108 => ?_)
                      · have hg108' := hg108
                        try simp only [decide_eq_true_eq, decide_eq_false_iff_not, Bool.not_eq_true', Bool.not_eq_false', ne_eq, Decidable.not_not, Bool.not_eq_true, Bool.and_eq_true, Bool.or_eq_true, BitVec.reduceToNat] at hg108'
                        refine JR.ugt (g := 109) rfl rfl rfl rfl rfl hg108 (Yv.move rfl) (by decide) ?_
                        refine JR.ugt (g := 109) rfl rfl rfl rfl rfl hg108 (Yv.move rfl) (by decide) ?_
                        first | refine JR.vgt (g := 109) rfl rfl rfl rfl rfl hg108 (Yv.indexRow1 Try.underlying25 sz_3 rfl rfl (by repeat (first | exact List.Mem.head _ | refine List.Mem.tail _ ?_)) (by first | exact ltb rfl | (simp; done) | (simp; omega) | omega | (simp [*]; omega))) (by decide) ?_ | refine JR.vgt (g := 109) rfl rfl rfl rfl rfl hg108 (Yv.indexRd1 Try.underlying25 sz_3 rfl rfl (by repeat (first | exact Lend.same _ _ | exact Lend.row _ _ _ _ _ _ (by decide) | apply Lend.there)) (by first | exact ltb rfl | (simp; done) | (simp; omega) | omega | (simp [*]; omega))) (by decide) ?_
                        refine JR.vgt (g := 109) rfl rfl rfl rfl rfl hg108 (Yv.load1 one_3 rfl (by first | exact Kn.own (by repeat (first | exact List.Mem.head _ | refine List.Mem.tail _ ?_)) (by first  | rfl | exact tab_get (by first | omega | (simp; omega)) | exact gm (d := 0) (by first | omega | (simp; omega))) | exact Kn.ro (by repeat (first | exact List.Mem.head _ | refine List.Mem.tail _ ?_)) (by first  | rfl | exact tab_get (by first | omega | (simp; omega)) | exact gm (d := 0) (by first | omega | (simp; omega))) | exact Kn.row (by repeat (first | exact List.Mem.head _ | refine List.Mem.tail _ ?_)) (by first  | rfl | exact tab_get (by first | omega | (simp; omega)) | exact gm (d := 0) (by first | omega | (simp; omega))) | exact Kn.rd (by repeat (first | exact Lend.same _ _ | exact Lend.row _ _ _ _ _ _ (by decide) | apply Lend.there)) (by first  | rfl | exact tab_get (by first | omega | (simp; omega)) | exact gm (d := 0) (by first | omega | (simp; omega))) | exact Kn.rd2 (by repeat (first | exact Lend.same _ _ | exact Lend.row _ _ _ _ _ _ (by decide) | apply Lend.there)) (by first  | rfl | exact tab_get (by first | omega | (simp; omega)) | exact gm (d := 0) (by first | omega | (simp; omega))))) (by decide) ?_
                        refine JR.ugt (g := 109) rfl rfl rfl rfl rfl hg108 (Yv.move rfl) (by decide) ?_
                        refine JR.ugt (g := 109) rfl rfl rfl rfl rfl hg108 (Yv.move rfl) (by decide) ?_
                        first | refine JR.vgt (g := 109) rfl rfl rfl rfl rfl hg108 (Yv.indexRow1 Try.underlying25 sz_3 rfl rfl (by repeat (first | exact List.Mem.head _ | refine List.Mem.tail _ ?_)) (by first | exact ltb rfl | (simp; done) | (simp; omega) | omega | (simp [*]; omega))) (by decide) ?_ | refine JR.vgt (g := 109) rfl rfl rfl rfl rfl hg108 (Yv.indexRd1 Try.underlying25 sz_3 rfl rfl (by repeat (first | exact Lend.same _ _ | exact Lend.row _ _ _ _ _ _ (by decide) | apply Lend.there)) (by first | exact ltb rfl | (simp; done) | (simp; omega) | omega | (simp [*]; omega))) (by decide) ?_
                        refine JR.vgt (g := 109) rfl rfl rfl rfl rfl hg108 (Yv.load1 one_3 rfl (by first | exact Kn.own (by repeat (first | exact List.Mem.head _ | refine List.Mem.tail _ ?_)) (by first  | rfl | exact tab_get (by first | omega | (simp; omega)) | exact gm (d := 0) (by first | omega | (simp; omega))) | exact Kn.ro (by repeat (first | exact List.Mem.head _ | refine List.Mem.tail _ ?_)) (by first  | rfl | exact tab_get (by first | omega | (simp; omega)) | exact gm (d := 0) (by first | omega | (simp; omega))) | exact Kn.row (by repeat (first | exact List.Mem.head _ | refine List.Mem.tail _ ?_)) (by first  | rfl | exact tab_get (by first | omega | (simp; omega)) | exact gm (d := 0) (by first | omega | (simp; omega))) | exact Kn.rd (by repeat (first | exact Lend.same _ _ | exact Lend.row _ _ _ _ _ _ (by decide) | apply Lend.there)) (by first  | rfl | exact tab_get (by first | omega | (simp; omega)) | exact gm (d := 0) (by first | omega | (simp; omega))) | exact Kn.rd2 (by repeat (first | exact Lend.same _ _ | exact Lend.row _ _ _ _ _ _ (by decide) | apply Lend.there)) (by first  | rfl | exact tab_get (by first | omega | (simp; omega)) | exact gm (d := 0) (by first | omega | (simp; omega))))) (by decide) ?_
                        refine JR.ugt (g := 109) rfl rfl rfl rfl rfl hg108 (Yv.as (v' := .bool false) (Yv.bin rfl rfl BinR.lss_i) (congrArg Value.bool (decide_eq_false (by have := share_mono hl hT' hn1 (a := i) (b := j) (by omega) (by omega) hg108'; omega)))) (by decide) ?_
                        refine JR.u rfl rfl rfl (Yv.pick1 rfl hg108 rfl) (by decide) ?_
                        refine JR.u rfl rfl rfl (Yv.move rfl) (by decide) ?_
                        refine JR.ugt (g := 120) rfl rfl rfl rfl rfl rfl (Yv.move rfl) (by decide) ?_
                        refine JR.ugt (g := 120) rfl rfl rfl rfl rfl rfl (Yv.move rfl) (by decide) ?_
                        first | refine JR.ugt (g := 120) rfl rfl rfl rfl rfl rfl (Yv.indexRow1 Try.underlying22 sz_24 rfl rfl (by repeat (first | exact List.Mem.head _ | refine List.Mem.tail _ ?_)) (by first | exact ltb rfl | (simp; done) | (simp; omega) | omega | (simp [*]; omega))) (by decide) ?_ | refine JR.ugt (g := 120) rfl rfl rfl rfl rfl rfl (Yv.indexRd1 Try.underlying22 sz_24 rfl rfl (by repeat (first | exact Lend.same _ _ | exact Lend.row _ _ _ _ _ _ (by decide) | apply Lend.there)) (by first | exact ltb rfl | (simp; done) | (simp; omega) | omega | (simp [*]; omega))) (by decide) ?_
                        refine JR.vgt (g := 120) rfl rfl rfl rfl rfl rfl (Yv.load1 one_24 rfl (by first | exact Kn.own (by repeat (first | exact List.Mem.head _ | refine List.Mem.tail _ ?_)) (by first  | rfl | exact tab_get (by first | omega | (simp; omega)) | exact gm (d := 0) (by first | omega | (simp; omega))) | exact Kn.ro (by repeat (first | exact List.Mem.head _ | refine List.Mem.tail _ ?_)) (by first  | rfl | exact tab_get (by first | omega | (simp; omega)) | exact gm (d := 0) (by first | omega | (simp; omega))) | exact Kn.row (by repeat (first | exact List.Mem.head _ | refine List.Mem.tail _ ?_)) (by first  | rfl | exact tab_get (by first | omega | (simp; omega)) | exact gm (d := 0) (by first | omega | (simp; omega))) | exact Kn.rd (by repeat (first | exact Lend.same _ _ | exact Lend.row _ _ _ _ _ _ (by decide) | apply Lend.there)) (by first  | rfl | exact tab_get (by first | omega | (simp; omega)) | exact gm (d := 0) (by first | omega | (simp; omega))) | exact Kn.rd2 (by repeat (first | exact Lend.same _ _ | exact Lend.row _ _ _ _ _ _ (by decide) | apply Lend.there)) (by first  | rfl | exact tab_get (by first | omega | (simp; omega)) | exact gm (d := 0) (by first | omega | (simp; omega))))) (by decide) ?_
                        refine JR.ugt (g := 120) rfl rfl rfl rfl rfl rfl (Yv.move rfl) (by decide) ?_
                        refine JR.ugt (g := 120) rfl rfl rfl rfl rfl rfl (Yv.move rfl) (by decide) ?_
                        first | refine JR.ugt (g := 120) rfl rfl rfl rfl rfl rfl (Yv.indexRow1 Try.underlying22 sz_24 rfl rfl (by repeat (first | exact List.Mem.head _ | refine List.Mem.tail _ ?_)) (by first | exact ltb rfl | (simp; done) | (simp; omega) | omega | (simp [*]; omega))) (by decide) ?_ | refine JR.ugt (g := 120) rfl rfl rfl rfl rfl rfl (Yv.indexRd1 Try.underlying22 sz_24 rfl rfl (by repeat (first | exact Lend.same _ _ | exact Lend.row _ _ _ _ _ _ (by decide) | apply Lend.there)) (by first | exact ltb rfl | (simp; done) | (simp; omega) | omega | (simp [*]; omega))) (by decide) ?_
                        refine JR.vgt (g := 120) rfl rfl rfl rfl rfl rfl (Yv.load1 one_24 rfl (by first | exact Kn.own (by repeat (first | exact List.Mem.head _ | refine List.Mem.tail _ ?_)) (by first  | rfl | exact tab_get (by first | omega | (simp; omega)) | exact gm (d := 0) (by first | omega | (simp; omega))) | exact Kn.ro (by repeat (first | exact List.Mem.head _ | refine List.Mem.tail _ ?_)) (by first  | rfl | exact tab_get (by first | omega | (simp; omega)) | exact gm (d := 0) (by first | omega | (simp; omega))) | exact Kn.row (by repeat (first | exact List.Mem.head _ | refine List.Mem.tail _ ?_)) (by first  | rfl | exact tab_get (by first | omega | (simp; omega)) | exact gm (d := 0) (by first | omega | (simp; omega))) | exact Kn.rd (by repeat (first | exact Lend.same _ _ | exact Lend.row _ _ _ _ _ _ (by decide) | apply Lend.there)) (by first  | rfl | exact tab_get (by first | omega | (simp; omega)) | exact gm (d := 0) (by first | omega | (simp; omega))) | exact Kn.rd2 (by repeat (first | exact Lend.same _ _ | exact Lend.row _ _ _ _ _ _ (by decide) | apply Lend.there)) (by first  | rfl | exact tab_get (by first | omega | (simp; omega)) | exact gm (d := 0) (by first | omega | (simp; omega))))) (by decide) ?_
                        refine JR.ugt (g := 120) rfl rfl rfl rfl rfl rfl (Yv.bin rfl rfl (BinR.lss_u64)) (by decide) ?_
                        refine JR.ugt (g := 120) rfl rfl rfl rfl rfl rfl (Yv.move rfl) (by decide) ?_
                        refine JR.gsplit (g := 129) rfl (fun hg129 => ?_) (fun hg129 => ?_)
                        · have hg129' := hg129
                          try simp only [decide_eq_true_eq, decide_eq_false_iff_not, Bool.not_eq_true', Bool.not_eq_false', ne_eq, Decidable.not_not, Bool.not_eq_true, Bool.and_eq_true, Bool.or_eq_true, BitVec.reduceToNat] at hg129'
                          refine JR.ugt (g := 130) rfl rfl rfl rfl rfl hg129 (Yv.move rfl) (by decide) ?_
                          refine JR.ugt (g := 130) rfl rfl rfl rfl rfl hg129 (Yv.move rfl) (by decide) ?_
                          first | refine JR.vgt (g := 130) rfl rfl rfl rfl rfl hg129 (Yv.indexRow1 Try.underlying25 sz_3 rfl rfl (by repeat (first | exact List.Mem.head _ | refine List.Mem.tail _ ?_)) (by first | exact ltb rfl | (simp; done) | (simp; omega) | omega | (simp [*]; omega))) (by decide) ?_ | refine JR.vgt (g := 130) rfl rfl rfl rfl rfl hg129 (Yv.indexRd1 Try.underlying25 sz_3 rfl rfl (by repeat (first | exact Lend.same _ _ | exact Lend.row _ _ _ _ _ _ (by decide) | apply Lend.there)) (by first | exact ltb rfl | (simp; done) | (simp; omega) | omega | (simp [*]; omega))) (by decide) ?_
                          refine JR.vgt (g := 130) rfl rfl rfl rfl rfl hg129 (Yv.load1 one_3 rfl (by first | exact Kn.own (by repeat (first | exact List.Mem.head _ | refine List.Mem.tail _ ?_)) (by first  | rfl | exact tab_get (by first | omega | (simp; omega)) | exact gm (d := 0) (by first | omega | (simp; omega))) | exact Kn.ro (by repeat (first | exact List.Mem.head _ | refine List.Mem.tail _ ?_)) (by first  | rfl | exact tab_get (by first | omega | (simp; omega)) | exact gm (d := 0) (by first | omega | (simp; omega))) | exact Kn.row (by repeat (first | exact List.Mem.head _ | refine List.Mem.tail _ ?_)) (by first  | rfl | exact tab_get (by first | omega | (simp; omega)) | exact gm (d := 0) (by first | omega | (simp; omega))) | exact Kn.rd (by repeat (first | exact Lend.same _ _ | exact Lend.row _ _ _ _ _ _ (by decide) | apply Lend.there)) (by first  | rfl | exact tab_get (by first | omega | (simp; omega)) | exact gm (d := 0) (by first | omega | (simp; omega))) | exact Kn.rd2 (by repeat (first | exact Lend.same _ _ | exact Lend.row _ _ _ _ _ _ (by decide) | apply Lend.there)) (by first  | rfl | exact tab_get (by first | omega | (simp; omega)) | exact gm (d := 0) (by first | omega | (simp; omega))))) (by decide) ?_
                          refine JR.ugt (g := 130) rfl rfl rfl rfl rfl hg129 (Yv.move rfl) (by decide) ?_
                          refine JR.ugt (g := 130) rfl rfl rfl rfl rfl hg129 (Yv.move rfl) (by decide) ?_
                          first | refine JR.vgt (g := 130) rfl rfl rfl rfl rfl hg129 (Yv.indexRow1 Try.underlying25 sz_3 rfl rfl (by repeat (first | exact List.Mem.head _ | refine List.Mem.tail _ ?_)) (by first | exact ltb rfl | (simp; done) | (simp; omega) | omega | (simp [*]; omega))) (by decide) ?_ | refine JR.vgt (g := 130) rfl rfl rfl rfl rfl hg129 (Yv.indexRd1 Try.underlying25 sz_3 rfl rfl (by repeat (first | exact Lend.same _ _ | exact Lend.row _ _ _ _ _ _ (by decide) | apply Lend.there)) (by first | exact ltb rfl | (simp; done) | (simp; omega) | omega | (simp [*]; omega))) (by decide) ?_
                          refine JR.vgt (g := 130) rfl rfl rfl rfl rfl hg129 (Yv.load1 one_3 rfl (by first | exact Kn.own (by repeat (first | exact List.Mem.head _ | refine List.Mem.tail _ ?_)) (by first  | rfl | exact tab_get (by first | omega | (simp; omega)) | exact gm (d := 0) (by first | omega | (simp; omega))) | exact Kn.ro (by repeat (first | exact List.Mem.head _ | refine List.Mem.tail _ ?_)) (by first  | rfl | exact tab_get (by first | omega | (simp; omega)) | exact gm (d := 0) (by first | omega | (simp; omega))) | exact Kn.row (by repeat (first | exact List.Mem.head _ | refine List.Mem.tail _ ?_)) (by first  | rfl | exact tab_get (by first | omega | (simp; omega)) | exact gm (d := 0) (by first | omega | (simp; omega))) | exact Kn.rd (by repeat (first | exact Lend.same _ _ | exact Lend.row _ _ _ _ _ _ (by decide) | apply Lend.there)) (by first  | rfl | exact tab_get (by first | omega | (simp; omega)) | exact gm (d := 0) (by first | omega | (simp; omega))) | exact Kn.rd2 (by repeat (first | exact Lend.same _ _ | exact Lend.row _ _ _ _ _ _ (by decide) | apply Lend.there)) (by first  | rfl | exact tab_get (by first | omega | (simp; omega)) | exact gm (d := 0) (by first | omega | (simp; omega))))) (by decide) ?_
                          refine JR.ugt (g := 130) rfl rfl rfl rfl rfl hg129 (Yv.as (v' := .bool false) (Yv.bin rfl rfl BinR.gtr_i) (congrArg Value.bool (decide_eq_false (by have := share_mono hl hT' hn1 (a := j) (b := i) (by omega) (by omega) hg129'; omega)))) (by decide) ?_
                          refine JR.ugt (g := 120) rfl rfl rfl rfl rfl rfl (Yv.pick1 rfl hg129 rfl) (by decide) ?_
                          refine JR.u rfl rfl rfl (Yv.pick0 rfl rfl rfl) (by decide) ?_
                          refine JR.nil ?_
                          refine JQ.then_normal ?_
                          refine JC.cond rfl (fun hc7 => ?_) (fun hc7 => ?_)
                          · try simp only [decide_eq_true_eq, decide_eq_false_iff_not, Bool.not_eq_true', Bool.not_eq_false', ne_eq, Decidable.not_not, Bool.not_eq_true, Bool.and_eq_true, Bool.or_eq_true, BitVec.reduceToNat] at hc7
                            first | exact absurd hc7 (by decide) | (exfalso; revert hc7; decide)
                          · try simp only [decide_eq_true_eq, decide_eq_false_iff_not, Bool.not_eq_true', Bool.not_eq_false', ne_eq, Decidable.not_not, Bool.not_eq_true, Bool.and_eq_true, Bool.or_eq_true, BitVec.reduceToNat] at hc7
                            refine JC.skip ?_
                            refine JQ.block_normal ?_
                            refine JQ.then_normal ?_
                            refine JC.region ?_
                            refine JO.v (Yv.move rfl) (by decide) ?_
                            refine JO.v (Yv.as (v' := it ((j + 1 : Nat) : Int)) (Yv.bin rfl rfl (BinR.add_i (by first | (constructor <;> omega) | (constructor <;> simp <;> omega)))) (congrArg it (by omega))) (by decide) ?_
                            refine JO.v (Yv.assign rfl) (by decide) ?_
                            refine JO.nil ?_
                            refine JQ.head (j + 1) (by repeat (first | exact trivial | refine ⟨by first | rfl | (simp; done), ?_⟩)) (Subs.sub (by repeat (first | exact Subs.nil _ | apply Subs.cons | exact List.Mem.head _ | refine List.Mem.tail _ ?_))) (Picks.perm (by repeat (first | exact Picks.nil _ | apply Picks.cons | exact Pull.here _ _ | apply Pull.there))) ?_
                            exact ⟨by omega, by omega⟩
                        · have hg129' := hg129
                          try simp only [decide_eq_true_eq, decide_eq_false_iff_not, Bool.not_eq_true', Bool.not_eq_false', ne_eq, Decidable.not_not, Bool.not_eq_true, Bool.and_eq_true, Bool.or_eq_true, BitVec.reduceToNat] at hg129'
                          refine JR.gf (g := 130) rfl rfl rfl rfl hg129 (by decide) ?_
                          refine JR.gf (g := 130) rfl rfl rfl rfl hg129 (by decide) ?_
                          refine JR.gf (g := 130) rfl rfl rfl rfl hg129 (by decide) ?_
                          refine JR.gf (g := 130) rfl rfl rfl rfl hg129 (by decide) ?_
                          refine JR.gf (g := 130) rfl rfl rfl rfl hg129 (by decide) ?_
                          refine JR.gf (g := 130) rfl rfl rfl rfl hg129 (by decide) ?_
                          refine JR.gf (g := 130) rfl rfl rfl rfl hg129 (by decide) ?_
                          refine JR.gf (g := 130) rfl rfl rfl rfl hg129 (by decide) ?_
                          refine JR.gf (g := 130) rfl rfl rfl rfl hg129 (by decide) ?_
                          refine JR.ugt (g := 120) rfl rfl rfl rfl rfl rfl (Yv.pick0 rfl hg129 rfl) (by decide) ?_
                          refine JR.u rfl rfl rfl (Yv.pick0 rfl rfl rfl) (by decide) ?_
                          refine JR.nil ?_
                          refine JQ.then_normal ?_
                          refine JC.cond rfl (fun hc7 => ?_) (fun hc7 => ?_)
                          · try simp only [decide_eq_true_eq, decide_eq_false_iff_not, Bool.not_eq_true', Bool.not_eq_false', ne_eq, Decidable.not_not, Bool.not_eq_true, Bool.and_eq_true, Bool.or_eq_true, BitVec.reduceToNat] at hc7
                            first | exact absurd hc7 (by decide) | (exfalso; revert hc7; decide)
                          · try simp only [decide_eq_true_eq, decide_eq_false_iff_not, Bool.not_eq_true', Bool.not_eq_false', ne_eq, Decidable.not_not, Bool.not_eq_true, Bool.and_eq_true, Bool.or_eq_true, BitVec.reduceToNat] at hc7
                            refine JC.skip ?_
                            refine JQ.block_normal ?_
                            refine JQ.then_normal ?_
                            refine JC.region ?_
                            refine JO.v (Yv.move rfl) (by decide) ?_
                            refine JO.v (Yv.as (v' := it ((j + 1 : Nat) : Int)) (Yv.bin rfl rfl (BinR.add_i (by first | (constructor <;> omega) | (constructor <;> simp <;> omega)))) (congrArg it (by omega))) (by decide) ?_
                            refine JO.v (Yv.assign rfl) (by decide) ?_
                            refine JO.nil ?_
                            refine JQ.head (j + 1) (by repeat (first | exact trivial | refine ⟨by first | rfl | (simp; done), ?_⟩)) (Subs.sub (by repeat (first | exact Subs.nil _ | apply Subs.cons | exact List.Mem.head _ | refine List.Mem.tail _ ?_))) (Picks.perm (by repeat (first | exact Picks.nil _ | apply Picks.cons | exact Pull.here _ _ | apply Pull.there))) ?_
                            exact ⟨by omega, by omega⟩
                      · have hg108' := hg108
                        try simp only [decide_eq_true_eq, decide_eq_false_iff_not, Bool.not_eq_true', Bool.not_eq_false', ne_eq, Decidable.not_not, Bool.not_eq_true, Bool.and_eq_true, Bool.or_eq_true, BitVec.reduceToNat] at hg108'
                        refine JR.gf (g := 109) rfl rfl rfl rfl hg108 (by decide) ?_
                        refine JR.gf (g := 109) rfl rfl rfl rfl hg108 (by decide) ?_
                        refine JR.gf (g := 109) rfl rfl rfl rfl hg108 (by decide) ?_
                        refine JR.gf (g := 109) rfl rfl rfl rfl hg108 (by decide) ?_
                        refine JR.gf (g := 109) rfl rfl rfl rfl hg108 (by decide) ?_
                        refine JR.gf (g := 109) rfl rfl rfl rfl hg108 (by decide) ?_
                        refine JR.gf (g := 109) rfl rfl rfl rfl hg108 (by decide) ?_
                        refine JR.gf (g := 109) rfl rfl rfl rfl hg108 (by decide) ?_
                        refine JR.gf (g := 109) rfl rfl rfl rfl hg108 (by decide) ?_
                        refine JR.u rfl rfl rfl (Yv.pick0 rfl hg108 rfl) (by decide) ?_
                        refine JR.u rfl rfl rfl (Yv.move rfl) (by decide) ?_
                        refine JR.ugt (g := 120) rfl rfl rfl rfl rfl rfl (Yv.move rfl) (by decide) ?_
                        refine JR.ugt (g := 120) rfl rfl rfl rfl rfl rfl (Yv.move rfl) (by decide) ?_
                        first | refine JR.ugt (g := 120) rfl rfl rfl rfl rfl rfl (Yv.indexRow1 Try.underlying22 sz_24 rfl rfl (by repeat (first | exact List.Mem.head _ | refine List.Mem.tail _ ?_)) (by first | exact ltb rfl | (simp; done) | (simp; omega) | omega | (simp [*]; omega))) (by decide) ?_ | refine JR.ugt (g := 120) rfl rfl rfl rfl rfl rfl (Yv.indexRd1 Try.underlying22 sz_24 rfl rfl (by repeat (first | exact Lend.same _ _ | exact Lend.row _ _ _ _ _ _ (by decide) | apply Lend.there)) (by first | exact ltb rfl | (simp; done) | (simp; omega) | omega | (simp [*]; omega))) (by decide) ?_
                        refine JR.vgt (g := 120) rfl rfl rfl rfl rfl rfl (Yv.load1 one_24 rfl (by first | exact Kn.own (by repeat (first | exact List.Mem.head _ | refine List.Mem.tail _ ?_)) (by first  | rfl | exact tab_get (by first | omega | (simp; omega)) | exact gm (d := 0) (by first | omega | (simp; omega))) | exact Kn.ro (by repeat (first | exact List.Mem.head _ | refine List.Mem.tail _ ?_)) (by first  | rfl | exact tab_get (by first | omega | (simp; omega)) | exact gm (d := 0) (by first | omega | (simp; omega))) | exact Kn.row (by repeat (first | exact List.Mem.head _ | refine List.Mem.tail _ ?_)) (by first  | rfl | exact tab_get (by first | omega | (simp; omega)) | exact gm (d := 0) (by first | omega | (simp; omega))) | exact Kn.rd (by repeat (first | exact Lend.same _ _ | exact Lend.row _ _ _ _ _ _ (by decide) | apply Lend.there)) (by first  | rfl | exact tab_get (by first | omega | (simp; omega)) | exact gm (d := 0) (by first | omega | (simp; omega))) | exact Kn.rd2 (by repeat (first | exact Lend.same _ _ | exact Lend.row _ _ _ _ _ _ (by decide) | apply Lend.there)) (by first  | rfl | exact tab_get (by first | omega | (simp; omega)) | exact gm (d := 0) (by first | omega | (simp; omega))))) (by decide) ?_
                        refine JR.ugt (g := 120) rfl rfl rfl rfl rfl rfl (Yv.move rfl) (by decide) ?_
                        refine JR.ugt (g := 120) rfl rfl rfl rfl rfl rfl (Yv.move rfl) (by decide) ?_
                        first | refine JR.ugt (g := 120) rfl rfl rfl rfl rfl rfl (Yv.indexRow1 Try.underlying22 sz_24 rfl rfl (by repeat (first | exact List.Mem.head _ | refine List.Mem.tail _ ?_)) (by first | exact ltb rfl | (simp; done) | (simp; omega) | omega | (simp [*]; omega))) (by decide) ?_ | refine JR.ugt (g := 120) rfl rfl rfl rfl rfl rfl (Yv.indexRd1 Try.underlying22 sz_24 rfl rfl (by repeat (first | exact Lend.same _ _ | exact Lend.row _ _ _ _ _ _ (by decide) | apply Lend.there)) (by first | exact ltb rfl | (simp; done) | (simp; omega) | omega | (simp [*]; omega))) (by decide) ?_
                        refine JR.vgt (g := 120) rfl rfl rfl rfl rfl rfl (Yv.load1 one_24 rfl (by first | exact Kn.own (by repeat (first | exact List.Mem.head _ | refine List.Mem.tail _ ?_)) (by first  | rfl | exact tab_get (by first | omega | (simp; omega)) | exact gm (d := 0) (by first | omega | (simp; omega))) | exact Kn.ro (by repeat (first | exact List.Mem.head _ | refine List.Mem.tail _ ?_)) (by first  | rfl | exact tab_get (by first | omega | (simp; omega)) | exact gm (d := 0) (by first | omega | (simp; omega))) | exact Kn.row (by repeat (first | exact List.Mem.head _ | refine List.Mem.tail _ ?_)) (by first  | rfl | exact tab_get (by first | omega | (simp; omega)) | exact gm (d := 0) (by first | omega | (simp; omega))) | exact Kn.rd (by repeat (first | exact Lend.same _ _ | exact Lend.row _ _ _ _ _ _ (by decide) | apply Lend.there)) (by first  | rfl | exact tab_get (by first | omega | (simp; omega)) | exact gm (d := 0) (by first | omega | (simp; omega))) | exact Kn.rd2 (by repeat (first | exact Lend.same _ _ | exact Lend.row _ _ _ _ _ _ (by decide) | apply Lend.there)) (by first  | rfl | exact tab_get (by first | omega | (simp; omega)) | exact gm (d := 0) (by first | omega | (simp; omega))))) (by decide) ?_
                        refine JR.ugt (g := 120) rfl rfl rfl rfl rfl rfl (Yv.bin rfl rfl (BinR.lss_u64)) (by decide) ?_
                        refine JR.ugt (g := 120) rfl rfl rfl rfl rfl rfl (Yv.move rfl) (by decide) ?_
                        refine JR.gsplit (g := 129) rfl (fun hg129 => ?_) (fun hg129 => ?_)
                        · have hg129' := hg129
                          try simp only [decide_eq_true_eq, decide_eq_false_iff_not, Bool.not_eq_true', Bool.not_eq_false', ne_eq, Decidable.not_not, Bool.not_eq_true, Bool.and_eq_true, Bool.or_eq_true, BitVec.reduceToNat] at hg129'
                          refine JR.ugt (g := 130) rfl rfl rfl rfl rfl hg129 (Yv.move rfl) (by decide) ?_
                          refine JR.ugt (g := 130) rfl rfl rfl rfl rfl hg129 (Yv.move rfl) (by decide) ?_
                          first | refine JR.vgt (g := 130) rfl rfl rfl rfl rfl hg129 (Yv.indexRow1 Try.underlying25 sz_3 rfl rfl (by repeat (first | exact List.Mem.head _ | refine List.Mem.tail _ ?_)) (by first | exact ltb rfl | (simp; done) | (simp; omega) | omega | (simp [*]; omega))) (by decide) ?_ | refine JR.vgt (g := 130) rfl rfl rfl rfl rfl hg129 (Yv.indexRd1 Try.underlying25 sz_3 rfl rfl (by repeat (first | exact Lend.same _ _ | exact Lend.row _ _ _ _ _ _ (by decide) | apply Lend.there)) (by first | exact ltb rfl | (simp; done) | (simp; omega) | omega | (simp [*]; omega))) (by decide) ?_
                          refine JR.vgt (g := 130) rfl rfl rfl rfl rfl hg129 (Yv.load1 one_3 rfl (by first | exact Kn.own (by repeat (first | exact List.Mem.head _ | refine List.Mem.tail _ ?_)) (by first  | rfl | exact tab_get (by first | omega | (simp; omega)) | exact gm (d := 0) (by first | omega | (simp; omega))) | exact Kn.ro (by repeat (first | exact List.Mem.head _ | refine List.Mem.tail _ ?_)) (by first  | rfl | exact tab_get (by first | omega | (simp; omega)) | exact gm (d := 0) (by first | omega | (simp; omega))) | exact Kn.row (by repeat (first | exact List.Mem.head _ | refine List.Mem.tail _ ?_)) (by first  | rfl | exact tab_get (by first | omega | (simp; omega)) | exact gm (d := 0) (by first | omega | (simp; omega))) | exact Kn.rd (by repeat (first | exact Lend.same _ _ | exact Lend.row _ _ _ _ _ _ (by decide) | apply Lend.there)) (by first  | rfl | exact tab_get (by first | omega | (simp; omega)) | exact gm (d := 0) (by first | omega | (simp; omega))) | exact Kn.rd2 (by repeat (first | exact Lend.same _ _ | exact Lend.row _ _ _ _ _ _ (by decide) | apply Lend.there)) (by first  | rfl | exact tab_get (by first | omega | (simp; omega)) | exact gm (d := 0) (by first | omega | (simp; omega))))) (by decide) ?_
                          refine JR.ugt (g := 130) rfl rfl rfl rfl rfl hg129 (Yv.move rfl) (by decide) ?_
                          refine JR.ugt (g := 130) rfl rfl rfl rfl rfl hg129 (Yv.move rfl) (by decide) ?_
                          first | refine JR.vgt (g := 130) rfl rfl rfl rfl rfl hg129 (Yv.indexRow1 Try.underlying25 sz_3 rfl rfl (by repeat (first | exact List.Mem.head _ | refine List.Mem.tail _ ?_)) (by first | exact ltb rfl | (simp; done) | (simp; omega) | omega | (simp [*]; omega))) (by decide) ?_ | refine JR.vgt (g := 130) rfl rfl rfl rfl rfl hg129 (Yv.indexRd1 Try.underlying25 sz_3 rfl rfl (by repeat (first | exact Lend.same _ _ | exact Lend.row _ _ _ _ _ _ (by decide) | apply Lend.there)) (by first | exact ltb rfl | (simp; done) | (simp; omega) | omega | (simp [*]; omega))) (by decide) ?_
                          refine JR.vgt (g := 130) rfl rfl rfl rfl rfl hg129 (Yv.load1 one_3 rfl (by first | exact Kn.own (by repeat (first | exact List.Mem.head _ | refine List.Mem.tail _ ?_)) (by first  | rfl | exact tab_get (by first | omega | (simp; omega)) | exact gm (d := 0) (by first | omega | (simp; omega))) | exact Kn.ro (by repeat (first | exact List.Mem.head _ | refine List.Mem.tail _ ?_)) (by first  | rfl | exact tab_get (by first | omega | (simp; omega)) | exact gm (d := 0) (by first | omega | (simp; omega))) | exact Kn.row (by repeat (first | exact List.Mem.head _ | refine List.Mem.tail _ ?_)) (by first  | rfl | exact tab_get (by first | omega | (simp; omega)) | exact gm (d := 0) (by first | omega | (simp; omega))) | exact Kn.rd (by repeat (first | exact Lend.same _ _ | exact Lend.row _ _ _ _ _ _ (by decide) | apply Lend.there)) (by first  | rfl | exact tab_get (by first | omega | (simp; omega)) | exact gm (d := 0) (by first | omega | (simp; omega))) | exact Kn.rd2 (by repeat (first | exact Lend.same _ _ | exact Lend.row _ _ _ _ _ _ (by decide) | apply Lend.there)) (by first  | rfl | exact tab_get (by first | omega | (simp; omega)) | exact gm (d := 0) (by first | omega | (simp; omega))))) (by decide) ?_
                          refine JR.ugt (g := 130) rfl rfl rfl rfl rfl hg129 (Yv.as (v' := .bool false) (Yv.bin rfl rfl BinR.gtr_i) (congrArg Value.bool (decide_eq_false (by have := share_mono hl hT' hn1 (a := j) (b := i) (by omega) (by omega) hg129'; omega)))) (by decide) ?_
                          refine JR.ugt (g := 120) rfl rfl rfl rfl rfl rfl (Yv.pick1 rfl hg129 rfl) (by decide) ?_
                          refine JR.u rfl rfl rfl (Yv.pick0 rfl rfl rfl) (by decide) ?_
                          refine JR.nil ?_
                          refine JQ.then_normal ?_
                          refine JC.cond rfl (fun hc7 => ?_) (fun hc7 => ?_)
                          · try simp only [decide_eq_true_eq, decide_eq_false_iff_not, Bool.not_eq_true', Bool.not_eq_false', ne_eq, Decidable.not_not, Bool.not_eq_true, Bool.and_eq_true, Bool.or_eq_true, BitVec.reduceToNat] at hc7
                            first | exact absurd hc7 (by decide) | (exfalso; revert hc7; decide)
                          · try simp only [decide_eq_true_eq, decide_eq_false_iff_not, Bool.not_eq_true', Bool.not_eq_false', ne_eq, Decidable.not_not, Bool.not_eq_true, Bool.and_eq_true, Bool.or_eq_true, BitVec.reduceToNat] at hc7
                            refine JC.skip ?_
                            refine JQ.block_normal ?_
                            refine JQ.then_normal ?_
                            refine JC.region ?_
                            refine JO.v (Yv.move rfl) (by decide) ?_
                            refine JO.v (Yv.as (v' := it ((j + 1 : Nat) : Int)) (Yv.bin rfl rfl (BinR.add_i (by first | (constructor <;> omega) | (constructor <;> simp <;> omega)))) (congrArg it (by omega))) (by decide) ?_
                            refine JO.v (Yv.assign rfl) (by decide) ?_
                            refine JO.nil ?_
                            refine JQ.head (j + 1) (by repeat (first | exact trivial | refine ⟨by first | rfl | (simp; done), ?_⟩)) (Subs.sub (by repeat (first | exact Subs.nil _ | apply Subs.cons | exact List.Mem.head _ | refine List.Mem.tail _ ?_))) (Picks.perm (by repeat (first | exact Picks.nil _ | apply Picks.cons | exact Pull.here _ _ | apply Pull.there))) ?_
                            exact ⟨by omega, by omega⟩
                        · have hg129' := hg129
                          try simp only [decide_eq_true_eq, decide_eq_false_iff_not, Bool.not_eq_true', Bool.not_eq_false', ne_eq, Decidable.not_not, Bool.not_eq_true, Bool.and_eq_true, Bool.or_eq_true, BitVec.reduceToNat] at hg129'
                          refine JR.gf (g := 130) rfl rfl rfl rfl hg129 (by decide) ?_
                          refine JR.gf (g := 130) rfl rfl rfl rfl hg129 (by decide) ?_
                          refine JR.gf (g := 130) rfl rfl rfl rfl hg129 (by decide) ?_
                          refine JR.gf (g := 130) rfl rfl rfl rfl hg129 (by decide) ?_
                          refine JR.gf (g := 130) rfl rfl rfl rfl hg129 (by decide) ?_
                          refine JR.gf (g := 130) rfl rfl rfl rfl hg129 (by decide) ?_
                          refine JR.gf (g := 130) rfl rfl rfl rfl hg129 (by decide) ?_
                          refine JR.gf (g := 130) rfl rfl rfl rfl hg129 (by decide) ?_
                          refine JR.gf (g := 130) rfl rfl rfl rfl hg129 (by decide) ?_
                          refine JR.ugt (g := 120) rfl rfl rfl rfl rfl rfl (Yv.pick0 rfl hg129 rfl) (by decide) ?_
                          refine JR.u rfl rfl rfl (Yv.pick0 rfl rfl rfl) (by decide) ?_
                          refine JR.nil ?_
                          refine JQ.then_normal ?_
                          refine JC.cond rfl (fun hc7 => ?_) (fun hc7 => ?_)
                          · try simp only [decide_eq_true_eq, decide_eq_false_iff_not, Bool.not_eq_true', Bool.not_eq_false', ne_eq, Decidable.not_not, Bool.not_eq_true, Bool.and_eq_true, Bool.or_eq_true, BitVec.reduceToNat] at hc7
                            first | exact absurd hc7 (by decide) | (exfalso; revert hc7; decide)
                          · try simp only [decide_eq_true_eq, decide_eq_false_iff_not, Bool.not_eq_true', Bool.not_eq_false', ne_eq, Decidable.not_not, Bool.not_eq_true, Bool.and_eq_true, Bool.or_eq_true, BitVec.reduceToNat] at hc7
                            refine JC.skip ?_
                            refine JQ.block_normal ?_
                            refine JQ.then_normal ?_
                            refine JC.region ?_
                            refine JO.v (Yv.move rfl) (by decide) ?_
                            refine JO.v (Yv.as (v' := it ((j + 1 : Nat) : Int)) (Yv.bin rfl rfl (BinR.add_i (by first | (constructor <;> omega) | (constructor <;> simp <;> omega)))) (congrArg it (by omega))) (by decide) ?_
                            refine JO.v (Yv.assign rfl) (by decide) ?_
                            refine JO.nil ?_
                            refine JQ.head (j + 1) (by repeat (first | exact trivial | refine ⟨by first | rfl | (simp; done), ?_⟩)) (Subs.sub (by repeat (first | exact Subs.nil _ | apply Subs.cons | exact List.Mem.head _ | refine List.Mem.tail _ ?_))) (Picks.perm (by repeat (first | exact Picks.nil _ | apply Picks.cons | exact Pull.here _ _ | apply Pull.there))) ?_
                            exact ⟨by omega, by omega⟩
                    · try simp only [decide_eq_true_eq, decide_eq_false_iff_not, Bool.not_eq_true', Bool.not_eq_false', ne_eq, Decidable.not_not, Bool.not_eq_true, Bool.and_eq_true, Bool.or_eq_true, BitVec.reduceToNat] at hc6
                      skip
                      refine JC.exit ?_
                      refine JQ.then_exit ?_
                      refine JQ.then_exit ?_
                      refine JQ.block_exit ?_
                      refine JQ.then_normal ?_
                      refine JC.region ?_
                      refine JO.v (Yv.move rfl) (by decide) ?_
                      refine JO.v (Yv.move rfl) (by decide) ?_
                      refine JO.v (Yv.move rfl) (by decide) ?_
                      first | refine JO.v (Yv.indexRow1 Try.underlying25 sz_3 rfl rfl (by repeat (first | exact List.Mem.head _ | refine List.Mem.tail _ ?_)) (by first | exact ltb rfl | (simp; done) | (simp; omega) | omega | (simp [*]; omega))) (by decide) ?_ | refine JO.v (Yv.indexRd1 Try.underlying25 sz_3 rfl rfl (by repeat (first | exact Lend.same _ _ | exact Lend.row _ _ _ _ _ _ (by decide) | apply Lend.there)) (by first | exact ltb rfl | (simp; done) | (simp; omega) | omega | (simp [*]; omega))) (by decide) ?_
                      refine JO.v (Yv.load1 one_3 rfl (by first | exact Kn.own (by repeat (first | exact List.Mem.head _ | refine List.Mem.tail _ ?_)) (by first  | rfl | exact tab_get (by first | omega | (simp; omega)) | exact gm (d := 0) (by first | omega | (simp; omega))) | exact Kn.ro (by repeat (first | exact List.Mem.head _ | refine List.Mem.tail _ ?_)) (by first  | rfl | exact tab_get (by first | omega | (simp; omega)) | exact gm (d := 0) (by first | omega | (simp; omega))) | exact Kn.row (by repeat (first | exact List.Mem.head _ | refine List.Mem.tail _ ?_)) (by first  | rfl | exact tab_get (by first | omega | (simp; omega)) | exact gm (d := 0) (by first | omega | (simp; omega))) | exact Kn.rd (by repeat (first | exact Lend.same _ _ | exact Lend.row _ _ _ _ _ _ (by decide) | apply Lend.there)) (by first  | rfl | exact tab_get (by first | omega | (simp; omega)) | exact gm (d := 0) (by first | omega | (simp; omega))) | exact Kn.rd2 (by repeat (first | exact Lend.same _ _ | exact Lend.row _ _ _ _ _ _ (by decide) | apply Lend.there)) (by first  | rfl | exact tab_get (by first | omega | (simp; omega)) | exact gm (d := 0) (by first | omega | (simp; omega))))) (by decide) ?_
                      refine JO.v (Yv.as (v' := it (sumC (shareL ws n) (i + 1))) (Yv.bin rfl rfl (BinR.add_i (by first | (constructor <;> omega) | (constructor <;> simp <;> omega)))) (congrArg it (sumC_succ (by simpa using hil)).symm)) (by decide) ?_
                      refine JO.v (Yv.assign rfl) (by decide) ?_
                      refine JO.nil ?_
                      refine JQ.block_normal ?_
                      refine JQ.then_normal ?_
                      refine JC.region ?_
                      refine JO.v (Yv.move rfl) (by decide) ?_
                      refine JO.v (Yv.as (v' := it ((i + 1 : Nat) : Int)) (Yv.bin rfl rfl (BinR.add_i (by first | (constructor <;> omega) | (constructor <;> simp <;> omega)))) (congrArg it (by omega))) (by decide) ?_
                      refine JO.v (Yv.assign rfl) (by decide) ?_
                      refine JO.nil ?_
                      refine JQ.head (i + 1) (by repeat (first | exact trivial | refine ⟨by first | rfl | (simp; done), ?_⟩)) (Subs.sub (by repeat (first | exact Subs.nil _ | apply Subs.cons | exact List.Mem.head _ | refine List.Mem.tail _ ?_))) (Picks.perm (by repeat (first | exact Picks.nil _ | apply Picks.cons | exact Pull.here _ _ | apply Pull.there))) ?_
                      exact ⟨by omega, by omega⟩
            · try simp only [decide_eq_true_eq, decide_eq_false_iff_not, Bool.not_eq_true', Bool.not_eq_false', ne_eq, Decidable.not_not, Bool.not_eq_true, Bool.and_eq_true, Bool.or_eq_true, BitVec.reduceToNat] at hc4
              obtain rfl : i = ws.length := by have : ws.length ≤ i := by simpa using hc4
                                               omega
              refine JC.exit ?_
              refine JQ.then_exit ?_
              refine JQ.then_exit ?_
              refine JQ.block_exit ?_
              refine JQ.then_normal ?_
              refine JC.seq ?_
              refine JC.region ?_
              refine JO.v (Yv.move rfl) (by decide) ?_
              refine JO.v (Yv.move rfl) (by decide) ?_
              refine JO.gt (g := 149) rfl rfl rfl ?_
              refine JO.v (Yv.move rfl) (by decide) ?_
              refine JO.gt (g := 149) rfl rfl rfl ?_
              refine JO.v (Yv.move rfl) (by decide) ?_
              refine JO.gt (g := 149) rfl rfl rfl ?_
              refine JO.v (Yv.as (v' := .bool true) (Yv.bin rfl rfl BinR.eql_i) (congrArg Value.bool (decide_eq_true (share_sum hl hT')))) (by decide) ?_
              refine JO.v (Yv.pick1 rfl rfl rfl) (by decide) ?_
              refine JO.v (Yv.assign rfl) (by decide) ?_
              refine JO.nil ?_
              refine JQ.then_normal ?_
              refine JC.ret ?_
              exact JQ.done (.inr rfl) (Γ' := []) (H' := []) (res1 rfl (RV.tmp rfl)) (Subs.sub (by repeat (first | exact Subs.nil _ | apply Subs.cons | exact List.Mem.head _ | refine List.Mem.tail _ ?_))) (Picks.perm (by repeat (first | exact Picks.nil _ | apply Picks.cons | exact Pull.here _ _ | apply Pull.there))) ⟨rfl, rfl, rfl⟩


theorem f5b_spec (u : Value) (ws : List W64) (n0 : Int) (hE : shareE ws n0 ≠ 0) :
    Spec Try.prog 5 #[u, (it n0)] [Res.rd u ws.length 1 (ws.map u64)] []
      (fun r Γ' H' => r = (.bool true) ∧ Γ' = [] ∧ H' = []) := by
  refine Spec.of_args Try.func5 rfl Try.ntmps5 (by simp) fun w => ?_
  have htl := tot_lt ws
  refine JC.seq ?_
  refine JC.region ?_
  refine JO.v (Yv.assign rfl) (by decide) ?_
  refine JO.nil ?_
  refine JQ.then_normal ?_
  refine JC.seq ?_
  refine JC.region ?_
  refine JO.callB f8_spec body_8 rfl (by repeat (first | exact Picks.nil _ | apply Picks.cons | exact Pull.here _ _ | apply Pull.there)) (by repeat (first | exact Lends.nil _ | apply Lends.cons | exact Lend.same _ _ | exact Lend.row _ _ _ _ _ _ (by decide) | apply Lend.there)) (by rintro _ _ _ ⟨_, h, _⟩; exact h) (by decide) ?_
  rintro _ _ ⟨_, ⟨rfl, _, rfl⟩, hH⟩
  simp only [List.cons_append, List.nil_append] at hH; subst hH
  refine JO.v (Yv.assign rfl) (by decide) ?_
  refine JO.nil ?_
  refine JQ.then_normal ?_
  refine JC.seq ?_
  refine JC.seq ?_
  refine JC.region ?_
  refine JO.v (Yv.move rfl) (by decide) ?_
  first | refine JO.v (Yv.len_s Try.underlying22 rfl) (by decide) ?_ | refine JO.v (Yv.lenRd Try.underlying22 rfl (by repeat (first | exact Lend.same _ _ | exact Lend.row _ _ _ _ _ _ (by decide) | apply Lend.there))) (by decide) ?_
  refine JO.v (Yv.as (v' := .bool (decide (ws.length > 40))) (Yv.bin rfl rfl BinR.gtr_i) (congrArg Value.bool (decide_eq_decide.2 (by omega)))) (by decide) ?_
  refine JO.v (Yv.move rfl) (by decide) ?_
  refine JO.join 3 20 (.bool (decide (ws.length > 40 ∨ n0 < 1))) ?_ ?_
  · skip
    refine JO.gsplit (g := 16) rfl (fun hg8 => ?_) (fun hg8 => ?_)
    · have hg8' := hg8
      try simp only [decide_eq_true_eq, decide_eq_false_iff_not, Bool.not_eq_true', Bool.not_eq_false', ne_eq, Decidable.not_not, Bool.not_eq_true, Bool.and_eq_true, Bool.or_eq_true, BitVec.reduceToNat] at hg8'
      refine JO.gf (g := 17) rfl rfl hg8 (by decide) ?_
      refine JO.gf (g := 17) rfl rfl hg8 (by decide) ?_
      refine JO.v (Yv.pick1 rfl hg8 rfl) (by decide) ?_
      refine JO.nil ?_
      refine JQ.head () (by first | (refine ⟨by first | rfl | (simp [*]; done) | (show some _ = some _; simp [*]; done), ?_⟩; repeat (first | exact trivial | refine ⟨rfl, ?_⟩))) (Subs.sub (by repeat (first | exact Subs.nil _ | apply Subs.cons | exact List.Mem.head _ | refine List.Mem.tail _ ?_))) (Picks.perm (by repeat (first | exact Picks.nil _ | apply Picks.cons | exact Pull.here _ _ | apply Pull.there))) ?_
      trivial
    · have hg8' := hg8
      try simp only [decide_eq_true_eq, decide_eq_false_iff_not, Bool.not_eq_true', Bool.not_eq_false', ne_eq, Decidable.not_not, Bool.not_eq_true, Bool.and_eq_true, Bool.or_eq_true, BitVec.reduceToNat] at hg8'
      refine JO.gt (g := 17) rfl rfl hg8 ?_
      refine JO.v (Yv.move rfl) (by decide) ?_
      refine JO.gt (g := 17) rfl rfl hg8 ?_
      refine JO.v (Yv.bin rfl rfl BinR.lss_i) (by decide) ?_
      refine JO.v (Yv.pick0 rfl hg8 rfl) (by decide) ?_
      refine JO.nil ?_
      refine JQ.head () (by first | (refine ⟨by first | rfl | (simp [*]; done) | (show some _ = some _; simp [*]; done), ?_⟩; repeat (first | exact trivial | refine ⟨rfl, ?_⟩))) (Subs.sub (by repeat (first | exact Subs.nil _ | apply Subs.cons | exact List.Mem.head _ | refine List.Mem.tail _ ?_))) (Picks.perm (by repeat (first | exact Picks.nil _ | apply Picks.cons | exact Pull.here _ _ | apply Pull.there))) ?_
      trivial
  · skip
    refine JO.v (Yv.move rfl) (by decide) ?_
    refine JO.join 3 24 (.bool (decide (ws.length > 40 ∨ n0 < 1 ∨ n0 > 200))) ?_ ?_
    · skip
      refine JO.gsplit (g := 20) rfl (fun hg12 => ?_) (fun hg12 => ?_)
      · have hg12' := hg12
        try simp only [decide_eq_true_eq, decide_eq_false_iff_not, Bool.not_eq_true', Bool.not_eq_false', ne_eq, Decidable.not_not, Bool.not_eq_true, Bool.and_eq_true, Bool.or_eq_true, BitVec.reduceToNat] at hg12'
        refine JO.gf (g := 21) rfl rfl hg12 (by decide) ?_
        refine JO.gf (g := 21) rfl rfl hg12 (by decide) ?_
        refine JO.v (Yv.pick1 rfl hg12 rfl) (by decide) ?_
        refine JO.nil ?_
        refine JQ.head () (by first | (refine ⟨by first | rfl | (show some _ = some _; exact congrArg (fun b => some (Value.bool b)) (by first | exact (decide_eq_true (by omega)).symm | exact decide_eq_decide.2 (by omega))), ?_⟩; repeat (first | exact trivial | refine ⟨rfl, ?_⟩))) (Subs.sub (by repeat (first | exact Subs.nil _ | apply Subs.cons | exact List.Mem.head _ | refine List.Mem.tail _ ?_))) (Picks.perm (by repeat (first | exact Picks.nil _ | apply Picks.cons | exact Pull.here _ _ | apply Pull.there))) ?_
        trivial
      · have hg12' := hg12
        try simp only [decide_eq_true_eq, decide_eq_false_iff_not, Bool.not_eq_true', Bool.not_eq_false', ne_eq, Decidable.not_not, Bool.not_eq_true, Bool.and_eq_true, Bool.or_eq_true, BitVec.reduceToNat] at hg12'
        refine JO.gt (g := 21) rfl rfl hg12 ?_
        refine JO.v (Yv.move rfl) (by decide) ?_
        refine JO.gt (g := 21) rfl rfl hg12 ?_
        refine JO.v (Yv.bin rfl rfl BinR.gtr_i) (by decide) ?_
        refine JO.v (Yv.pick0 rfl hg12 rfl) (by decide) ?_
        refine JO.nil ?_
        refine JQ.head () (by first | (refine ⟨by first | rfl | (show some _ = some _; exact congrArg (fun b => some (Value.bool b)) (by first | exact (decide_eq_true (by omega)).symm | exact decide_eq_decide.2 (by omega))), ?_⟩; repeat (first | exact trivial | refine ⟨rfl, ?_⟩))) (Subs.sub (by repeat (first | exact Subs.nil _ | apply Subs.cons | exact List.Mem.head _ | refine List.Mem.tail _ ?_))) (Picks.perm (by repeat (first | exact Picks.nil _ | apply Picks.cons | exact Pull.here _ _ | apply Pull.there))) ?_
        trivial
    · skip
      refine JO.nil ?_
      refine JQ.then_normal ?_
      refine JC.cond rfl (fun hc1 => ?_) (fun hc1 => ?_)
      · try simp only [decide_eq_true_eq, decide_eq_false_iff_not, Bool.not_eq_true', Bool.not_eq_false', ne_eq, Decidable.not_not, Bool.not_eq_true, Bool.and_eq_true, Bool.or_eq_true, BitVec.reduceToNat] at hc1
        skip
        refine JC.seq ?_
        refine JC.region ?_
        refine JO.v (Yv.move rfl) (by decide) ?_
        refine JO.v (Yv.assign rfl) (by decide) ?_
        refine JO.nil ?_
        refine JQ.then_normal ?_
        refine JC.ret ?_
        refine JQ.then_ret ?_
        exact JQ.done (.inr rfl) (Γ' := []) (H' := []) (res1 rfl (RV.tmp rfl)) (Subs.sub (by repeat (first | exact Subs.nil _ | apply Subs.cons | exact List.Mem.head _ | refine List.Mem.tail _ ?_))) (Picks.perm (by repeat (first | exact Picks.nil _ | apply Picks.cons | exact Pull.here _ _ | apply Pull.there))) ⟨rfl, rfl, rfl⟩
      · try simp only [decide_eq_true_eq, decide_eq_false_iff_not, Bool.not_eq_true', Bool.not_eq_false', ne_eq, Decidable.not_not, Bool.not_eq_true, Bool.and_eq_true, Bool.or_eq_true, BitVec.reduceToNat] at hc1
        have hz : n0 > 0 ∧ totN ws = 0 := by
          by_cases h : n0 > 0 ∧ totN ws = 0
          · exact h
          · exact absurd (by rw [shareE, if_neg (by omega), if_neg h]) hE
        have he : shareE ws n0 = 11 := by rw [shareE, if_neg (by omega), if_pos hz]
        refine JC.skip ?_
        refine JQ.then_normal ?_
        refine JC.seq ?_
        refine JC.region ?_
        refine JO.v (Yv.move rfl) (by decide) ?_
        refine JO.v (Yv.move rfl) (by decide) ?_
        refine JO.callB (f9b_spec u ws n0 hE) body_9 rfl (by repeat (first | exact Picks.nil _ | apply Picks.cons | exact Pull.here _ _ | apply Pull.there)) (by repeat (first | exact Lends.nil _ | apply Lends.cons | exact Lend.same _ _ | exact Lend.row _ _ _ _ _ _ (by decide) | apply Lend.there)) (by rintro _ _ _ ⟨_, h, _⟩; exact h) (by decide) ?_
        rintro _ _ ⟨_, ⟨rfl, _, rfl⟩, hH⟩
        simp only [List.cons_append, List.nil_append] at hH; subst hH
        rw [he]
        refine JO.v (Yv.move rfl) (by decide) ?_
        refine JO.v (Yv.as (v' := .slice none 0 0) (Yv.extract rfl rfl) rfl) (by decide) ?_
        refine JO.v (Yv.as (v' := it 11) (Yv.extract rfl rfl) rfl) (by decide) ?_
        refine JO.v (Yv.assign rfl) (by decide) ?_
        refine JO.v (Yv.assign rfl) (by decide) ?_
        refine JO.nil ?_
        refine JQ.then_normal ?_
        refine JC.seq ?_
        refine JC.region ?_
        refine JO.v (Yv.move rfl) (by decide) ?_
        refine JO.callB (f12_spec u ws) body_12 rfl (by repeat (first | exact Picks.nil _ | apply Picks.cons | exact Pull.here _ _ | apply Pull.there)) (by repeat (first | exact Lends.nil _ | apply Lends.cons | exact Lend.same _ _ | exact Lend.row _ _ _ _ _ _ (by decide) | apply Lend.there)) (by rintro _ _ _ ⟨_, h, _⟩; exact h) (by decide) ?_
        rintro _ _ ⟨_, ⟨rfl, _, rfl⟩, hH⟩
        simp only [List.cons_append, List.nil_append] at hH; subst hH
        refine JO.alloc _ zero_32 rfl (by decide) fun b8 => ?_
        first | refine JO.storeAll sz_32 rfl rfl rfl (by first | rfl | (simp; done) | (simp; omega)) (by first | (simp; done) | exact one_map (fun _ => rfl) | exact one_tab (fun _ => rfl) | exact one_tab (fun _ => by split <;> rfl)) (by repeat (first | exact Upd.here _ _ _ | apply Upd.there)) (by first | rfl | (simp; done) | (simp; omega)) ?_ | refine JO.store sz_32 rfl rfl rfl (by first | rfl | (simp; done) | (simp; omega)) (by first | (simp; done) | exact one_sing rfl | exact one_map (fun _ => rfl) | exact one_piece (one_map (fun _ => rfl)) | exact one_tab (fun _ => rfl) | exact one_tab (fun _ => by split <;> rfl)) (by repeat (first | exact Upd.here _ _ _ | apply Upd.there)) (by first | exact ltb rfl | (simp; done) | (simp; omega) | omega | (simp [*]; omega)) ?_ | refine JO.storeRow sz_32 rfl rfl rfl (by first | rfl | simp) (by first | (simp; done) | exact one_map (fun _ => rfl) | exact one_tab (fun _ => rfl) | exact one_tab (fun _ => by split <;> rfl)) (by repeat (first | exact Upd.here _ _ _ | apply Upd.there)) (by first | exact ltb rfl | (simp; done) | (simp; omega) | omega | (simp [*]; omega)) (by first | exact ltb rfl | (simp; done) | (simp; omega) | omega | (simp [*]; omega)) ?_
        refine JO.nil ?_
        refine JQ.then_normal ?_
        refine JC.seq ?_
        refine JC.seq ?_
        refine JC.region ?_
        first | refine JO.v (Yv.loadOwn agg_32 (by repeat (first | exact List.Mem.head _ | refine List.Mem.tail _ ?_)) rfl (by first | rfl | (simp; done) | (simp; omega) | (simp [*]; done))) (by decide) ?_ | refine JO.v (Yv.loadOwnAt agg_32 (by repeat (first | exact List.Mem.head _ | refine List.Mem.tail _ ?_)) rfl (by first | rfl | (simp; done) | (simp; omega) | (simp [*]; done))) (by decide) ?_ | refine JO.v (Yv.loadRow agg_32 (by repeat (first | exact List.Mem.head _ | refine List.Mem.tail _ ?_)) rfl (by first | rfl | (simp; done) | (simp; omega) | (simp [*]; done))) (by decide) ?_ | refine JO.v (Yv.loadRd agg_32 (by repeat (first | exact Lend.same _ _ | exact Lend.row _ _ _ _ _ _ (by decide) | apply Lend.there)) rfl (by first | rfl | (simp; done) | (simp; omega) | (simp [*]; done))) (by decide) ?_ | refine JO.v (Yv.loadRo agg_32 (by repeat (first | exact List.Mem.head _ | refine List.Mem.tail _ ?_)) rfl (by first | rfl | (simp; done) | (simp; omega) | (simp [*]; done))) (by decide) ?_
        refine JO.v (Yv.as (v' := .agg ((wd 0).map u64).toArray) (Yv.build bld_32 rfl rfl) rfl) (by decide) ?_
        refine JO.v (Yv.as (v' := .bool (decide (totN ws = 0))) (Yv.bin rfl rfl (eql_nat wd_len' wd_len')) (congrArg Value.bool (decide_eq_decide.2 (by rw [wd_eq htl (by decide)])))) (by decide) ?_
        refine JO.nil ?_
        refine JQ.then_normal ?_
        refine JC.cond rfl (fun hc2 => ?_) (fun hc2 => ?_)
        · try simp only [decide_eq_true_eq, decide_eq_false_iff_not, Bool.not_eq_true', Bool.not_eq_false', ne_eq, Decidable.not_not, Bool.not_eq_true, Bool.and_eq_true, Bool.or_eq_true, BitVec.reduceToNat] at hc2
          skip
          refine JC.seq ?_
          refine JC.region ?_
          refine JO.v (Yv.move rfl) (by decide) ?_
          refine JO.v (Yv.move rfl) (by decide) ?_
          refine JO.gt (g := 38) rfl rfl rfl ?_
          refine JO.v (Yv.move rfl) (by decide) ?_
          refine JO.gt (g := 38) rfl rfl rfl ?_
          refine JO.v (Yv.as (v' := .bool true) (Yv.bin rfl rfl BinR.eql_i) (congrArg Value.bool (by decide +kernel))) (by decide) ?_
          refine JO.v (Yv.pick1 rfl rfl rfl) (by decide) ?_
          refine JO.v (Yv.assign rfl) (by decide) ?_
          refine JO.nil ?_
          refine JQ.then_normal ?_
          refine JC.ret ?_
          refine JQ.then_ret ?_
          exact JQ.done (.inr rfl) (Γ' := []) (H' := []) (res1 rfl (RV.tmp rfl)) (Subs.sub (by repeat (first | exact Subs.nil _ | apply Subs.cons | exact List.Mem.head _ | refine List.Mem.tail _ ?_))) (Picks.perm (by repeat (first | exact Picks.nil _ | apply Picks.cons | exact Pull.here _ _ | apply Pull.there))) ⟨rfl, rfl, rfl⟩
        · try simp only [decide_eq_true_eq, decide_eq_false_iff_not, Bool.not_eq_true', Bool.not_eq_false', ne_eq, Decidable.not_not, Bool.not_eq_true, Bool.and_eq_true, Bool.or_eq_true, BitVec.reduceToNat] at hc2
          exact absurd hz.2 hc2

theorem f5_spec (u : Value) (ws : List W64) (n0 : Int) : Spec Try.prog 5 #[u, it n0] [Res.rd u ws.length 1 (ws.map u64)] [] (fun r Γ' H' => r = (.bool true) ∧ Γ' = [] ∧ H' = []) := by
  by_cases h : shareE ws n0 = 0
  · exact f5a_spec u ws n0 h
  · exact f5b_spec u ws n0 h
end Go.Proofs.Ytfcodaigdigjmaa
