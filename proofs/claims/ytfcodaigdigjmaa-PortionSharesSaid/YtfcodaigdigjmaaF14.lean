/- Walk: the document's shares. -/
import Derived.Test.YtfcodaigdigjmaaF13
namespace Go.Proofs.Ytfcodaigdigjmaa
open Go.RowKit
set_option maxRecDepth 100000
set_option linter.unusedVariables false
set_option linter.unusedSimpArgs false
set_option maxHeartbeats 2000000 in
theorem f11a_spec (u : Value) (ws : List W64) (n0 : Int) (hE : shareE ws n0 = 0) :
    Spec Try.prog 11 #[u, (it n0)] [Res.rd u ws.length 1 (ws.map u64)] []
      (fun r Γ' H' => ∃ v, r = .tuple #[v, it 0] ∧ Γ' = [] ∧ H' = [Res.row v (shareL ws n0.toNat).length 3 1 ((shareL ws n0.toNat).map it)]) := by
  refine Spec.of_args Try.func11 rfl Try.ntmps11 (by simp) fun w => ?_
  obtain ⟨n, rfl, hn, hl, hT⟩ := share_0 hE
  have htl := tot_lt ws
  have hol : ∀ k, (outT ws n k).length = ws.length := fun k => by simp [outT]
  refine JC.seq ?_
  refine JC.region ?_
  refine JO.v (Yv.assign rfl) (by decide) ?_
  refine JO.v (Yv.assign rfl) (by decide) ?_
  refine JO.nil ?_
  refine JQ.then_normal ?_
  refine JC.seq ?_
  refine JC.seq ?_
  refine JC.region ?_
  refine JO.v (Yv.move rfl) (by decide) ?_
  first | refine JO.v (Yv.len_s Try.underlying22 rfl) (by decide) ?_ | refine JO.v (Yv.lenRd Try.underlying22 rfl (by repeat (first | exact Lend.same _ _ | exact Lend.row _ _ _ _ _ _ (by decide) | apply Lend.there))) (by decide) ?_
  refine JO.v (Yv.as (v' := .bool false) (Yv.bin rfl rfl BinR.gtr_i) (congrArg Value.bool (decide_eq_false (by omega)))) (by decide) ?_
  refine JO.v (Yv.move rfl) (by decide) ?_
  refine JO.join 3 24 (.bool false) ?_ ?_
  · skip
    refine JO.gsplit (g := 20) rfl (fun hg7 => ?_) (fun hg7 => ?_)
    · have hg7' := hg7
      try simp only [decide_eq_true_eq, decide_eq_false_iff_not, Bool.not_eq_true', Bool.not_eq_false', ne_eq, Decidable.not_not, Bool.not_eq_true, Bool.and_eq_true, Bool.or_eq_true, BitVec.reduceToNat] at hg7'
      refine JO.gf (g := 21) rfl rfl hg7 (by decide) ?_
      refine JO.gf (g := 21) rfl rfl hg7 (by decide) ?_
      refine JO.v (Yv.pick1 rfl hg7 rfl) (by decide) ?_
      refine JO.nil ?_
      refine JQ.head () (by first | (refine ⟨by first | rfl | (first | (exfalso; omega) | cases hg7), ?_⟩; repeat (first | exact trivial | refine ⟨rfl, ?_⟩))) (Subs.sub (by repeat (first | exact Subs.nil _ | apply Subs.cons | exact List.Mem.head _ | refine List.Mem.tail _ ?_))) (Picks.perm (by repeat (first | exact Picks.nil _ | apply Picks.cons | exact Pull.here _ _ | apply Pull.there))) ?_
      trivial
    · have hg7' := hg7
      try simp only [decide_eq_true_eq, decide_eq_false_iff_not, Bool.not_eq_true', Bool.not_eq_false', ne_eq, Decidable.not_not, Bool.not_eq_true, Bool.and_eq_true, Bool.or_eq_true, BitVec.reduceToNat] at hg7'
      refine JO.gt (g := 21) rfl rfl hg7 ?_
      refine JO.v (Yv.move rfl) (by decide) ?_
      refine JO.gt (g := 21) rfl rfl hg7 ?_
      refine JO.v (Yv.as (v' := .bool false) (Yv.bin rfl rfl BinR.lss_i) (congrArg Value.bool (decide_eq_false (by omega)))) (by decide) ?_
      refine JO.v (Yv.pick0 rfl hg7 rfl) (by decide) ?_
      refine JO.nil ?_
      refine JQ.head () (by first | (refine ⟨by first | rfl | (first | (exfalso; omega) | cases hg7), ?_⟩; repeat (first | exact trivial | refine ⟨rfl, ?_⟩))) (Subs.sub (by repeat (first | exact Subs.nil _ | apply Subs.cons | exact List.Mem.head _ | refine List.Mem.tail _ ?_))) (Picks.perm (by repeat (first | exact Picks.nil _ | apply Picks.cons | exact Pull.here _ _ | apply Pull.there))) ?_
      trivial
  · skip
    refine JO.v (Yv.move rfl) (by decide) ?_
    refine JO.join 3 28 (.bool false) ?_ ?_
    · skip
      refine JO.gt (g := 25) rfl rfl rfl ?_
      refine JO.v (Yv.move rfl) (by decide) ?_
      refine JO.gt (g := 25) rfl rfl rfl ?_
      refine JO.v (Yv.as (v' := .bool false) (Yv.bin rfl rfl BinR.gtr_i) (congrArg Value.bool (decide_eq_false (by omega)))) (by decide) ?_
      refine JO.v (Yv.pick0 rfl rfl rfl) (by decide) ?_
      refine JO.nil ?_
      refine JQ.head () (by first | (refine ⟨by first | rfl | (first | (exfalso; omega) | cases hg11), ?_⟩; repeat (first | exact trivial | refine ⟨rfl, ?_⟩))) (Subs.sub (by repeat (first | exact Subs.nil _ | apply Subs.cons | exact List.Mem.head _ | refine List.Mem.tail _ ?_))) (Picks.perm (by repeat (first | exact Picks.nil _ | apply Picks.cons | exact Pull.here _ _ | apply Pull.there))) ?_
      trivial
    · skip
      refine JO.nil ?_
      refine JQ.then_normal ?_
      refine JC.cond rfl (fun hc1 => ?_) (fun hc1 => ?_)
      · try simp only [decide_eq_true_eq, decide_eq_false_iff_not, Bool.not_eq_true', Bool.not_eq_false', ne_eq, Decidable.not_not, Bool.not_eq_true, Bool.and_eq_true, Bool.or_eq_true, BitVec.reduceToNat] at hc1
        exact absurd hc1 (by decide)
      · try simp only [decide_eq_true_eq, decide_eq_false_iff_not, Bool.not_eq_true', Bool.not_eq_false', ne_eq, Decidable.not_not, Bool.not_eq_true, Bool.and_eq_true, Bool.or_eq_true, BitVec.reduceToNat] at hc1
        refine JC.skip ?_
        refine JQ.then_normal ?_
        refine JC.seq ?_
        refine JC.region ?_
        refine JO.v (Yv.move rfl) (by decide) ?_
        refine JO.callB (f14_spec u ws) body_14 rfl (by repeat (first | exact Picks.nil _ | apply Picks.cons | exact Pull.here _ _ | apply Pull.there)) (by repeat (first | exact Lends.nil _ | apply Lends.cons | exact Lend.same _ _ | exact Lend.row _ _ _ _ _ _ (by decide) | apply Lend.there)) (by rintro _ _ _ ⟨_, h, _⟩; exact h) (by decide) ?_
        rintro _ _ ⟨_, ⟨rfl, _, rfl⟩, hH⟩
        simp only [List.cons_append, List.nil_append] at hH; subst hH
        refine JO.alloc _ zero_32 rfl (by decide) fun b6 => ?_
        first | refine JO.storeAll sz_32 rfl rfl rfl (by first | rfl | (simp; done) | (simp; omega)) (by first | (simp; done) | exact one_map (fun _ => rfl) | exact one_tab (fun _ => rfl) | exact one_tab (fun _ => by split <;> rfl)) (by repeat (first | exact Upd.here _ _ _ | apply Upd.there)) (by first | rfl | (simp; done) | (simp; omega)) ?_ | refine JO.store sz_32 rfl rfl rfl (by first | rfl | (simp; done) | (simp; omega)) (by first | (simp; done) | exact one_sing rfl | exact one_map (fun _ => rfl) | exact one_piece (one_map (fun _ => rfl)) | exact one_tab (fun _ => rfl) | exact one_tab (fun _ => by split <;> rfl)) (by repeat (first | exact Upd.here _ _ _ | apply Upd.there)) (by first | exact ltb rfl | (simp; done) | (simp; omega) | omega | (simp [*]; omega)) ?_ | refine JO.storeRow sz_32 rfl rfl rfl (by first | rfl | simp) (by first | (simp; done) | exact one_map (fun _ => rfl) | exact one_tab (fun _ => rfl) | exact one_tab (fun _ => by split <;> rfl)) (by repeat (first | exact Upd.here _ _ _ | apply Upd.there)) (by first | exact ltb rfl | (simp; done) | (simp; omega) | omega | (simp [*]; omega)) (by first | exact ltb rfl | (simp; done) | (simp; omega) | omega | (simp [*]; omega)) ?_
        refine JO.nil ?_
        refine JQ.then_normal ?_
        refine JC.seq ?_
        refine JC.seq ?_
        refine JC.region ?_
        refine JO.v (Yv.move rfl) (by decide) ?_
        refine JO.v (Yv.bin rfl rfl BinR.gtr_i) (by decide) ?_
        refine JO.v (Yv.move rfl) (by decide) ?_
        refine JO.join 4 37 (.bool false) ?_ ?_
        · skip
          refine JO.gsplit (g := 32) rfl (fun hg23 => ?_) (fun hg23 => ?_)
          · have hg23' := hg23
            try simp only [decide_eq_true_eq, decide_eq_false_iff_not, Bool.not_eq_true', Bool.not_eq_false', ne_eq, Decidable.not_not, Bool.not_eq_true, Bool.and_eq_true, Bool.or_eq_true, BitVec.reduceToNat] at hg23'
            refine JO.gt (g := 33) rfl rfl hg23 ?_
            first | refine JO.v (Yv.loadOwn agg_32 (by repeat (first | exact List.Mem.head _ | refine List.Mem.tail _ ?_)) rfl (by first | rfl | (simp; done) | (simp; omega) | (simp [*]; done))) (by decide) ?_ | refine JO.v (Yv.loadOwnAt agg_32 (by repeat (first | exact List.Mem.head _ | refine List.Mem.tail _ ?_)) rfl (by first | rfl | (simp; done) | (simp; omega) | (simp [*]; done))) (by decide) ?_ | refine JO.v (Yv.loadRow agg_32 (by repeat (first | exact List.Mem.head _ | refine List.Mem.tail _ ?_)) rfl (by first | rfl | (simp; done) | (simp; omega) | (simp [*]; done))) (by decide) ?_ | refine JO.v (Yv.loadRd agg_32 (by repeat (first | exact Lend.same _ _ | exact Lend.row _ _ _ _ _ _ (by decide) | apply Lend.there)) rfl (by first | rfl | (simp; done) | (simp; omega) | (simp [*]; done))) (by decide) ?_ | refine JO.v (Yv.loadRo agg_32 (by repeat (first | exact List.Mem.head _ | refine List.Mem.tail _ ?_)) rfl (by first | rfl | (simp; done) | (simp; omega) | (simp [*]; done))) (by decide) ?_
            refine JO.gt (g := 33) rfl rfl hg23 ?_
            refine JO.v (Yv.as (v' := .agg ((wd 0).map u64).toArray) (Yv.build bld_32 rfl rfl) rfl) (by decide) ?_
            refine JO.gt (g := 33) rfl rfl hg23 ?_
            refine JO.v (Yv.as (v' := .bool (decide (totN ws = 0))) (Yv.bin rfl rfl (eql_nat wd_len' wd_len')) (congrArg Value.bool (decide_eq_decide.2 (by rw [wd_eq htl (by decide)])))) (by decide) ?_
            refine JO.v (Yv.pick1 rfl hg23 rfl) (by decide) ?_
            refine JO.nil ?_
            refine JQ.head () (by first | (refine ⟨by first | rfl | (show some _ = some _; exact congrArg (fun b => some (Value.bool b)) (decide_eq_false (by omega))), ?_⟩; repeat (first | exact trivial | refine ⟨rfl, ?_⟩))) (Subs.sub (by repeat (first | exact Subs.nil _ | apply Subs.cons | exact List.Mem.head _ | refine List.Mem.tail _ ?_))) (Picks.perm (by repeat (first | exact Picks.nil _ | apply Picks.cons | exact Pull.here _ _ | apply Pull.there))) ?_
            trivial
          · have hg23' := hg23
            try simp only [decide_eq_true_eq, decide_eq_false_iff_not, Bool.not_eq_true', Bool.not_eq_false', ne_eq, Decidable.not_not, Bool.not_eq_true, Bool.and_eq_true, Bool.or_eq_true, BitVec.reduceToNat] at hg23'
            refine JO.gf (g := 33) rfl rfl hg23 (by decide) ?_
            refine JO.gf (g := 33) rfl rfl hg23 (by decide) ?_
            refine JO.gf (g := 33) rfl rfl hg23 (by decide) ?_
            refine JO.v (Yv.pick0 rfl hg23 rfl) (by decide) ?_
            refine JO.nil ?_
            refine JQ.head () (by first | (refine ⟨by first | rfl | (show some _ = some _; exact congrArg (fun b => some (Value.bool b)) (decide_eq_false (by omega))), ?_⟩; repeat (first | exact trivial | refine ⟨rfl, ?_⟩))) (Subs.sub (by repeat (first | exact Subs.nil _ | apply Subs.cons | exact List.Mem.head _ | refine List.Mem.tail _ ?_))) (Picks.perm (by repeat (first | exact Picks.nil _ | apply Picks.cons | exact Pull.here _ _ | apply Pull.there))) ?_
            trivial
        · skip
          refine JO.nil ?_
          refine JQ.then_normal ?_
          refine JC.cond rfl (fun hc2 => ?_) (fun hc2 => ?_)
          · try simp only [decide_eq_true_eq, decide_eq_false_iff_not, Bool.not_eq_true', Bool.not_eq_false', ne_eq, Decidable.not_not, Bool.not_eq_true, Bool.and_eq_true, Bool.or_eq_true, BitVec.reduceToNat] at hc2
            exact absurd hc2 (by decide)
          · try simp only [decide_eq_true_eq, decide_eq_false_iff_not, Bool.not_eq_true', Bool.not_eq_false', ne_eq, Decidable.not_not, Bool.not_eq_true, Bool.and_eq_true, Bool.or_eq_true, BitVec.reduceToNat] at hc2
            refine JC.skip ?_
            refine JQ.then_normal ?_
            refine JC.seq ?_
            refine JC.region ?_
            refine JO.nilRow 3 1 ?_
            refine JO.v (Yv.assign rfl) (by decide) ?_
            refine JO.nil ?_
            refine JQ.then_normal ?_
            refine JC.seq ?_
            refine JC.region ?_
            refine JO.nilRow 32 4 ?_
            refine JO.v (Yv.assign rfl) (by decide) ?_
            refine JO.nil ?_
            refine JQ.then_normal ?_
            refine JC.seq ?_
            refine JC.region ?_
            refine JO.v (Yv.move rfl) (by decide) ?_
            refine JO.v (Yv.as (v' := it ((n : Int) - (sumQ ws n 0 : Int))) (Yv.assign rfl) (congrArg it (by simp [sumQ]))) (by decide) ?_
            refine JO.nil ?_
            refine JQ.then_normal ?_
            refine JC.seq ?_
            refine JC.seq ?_
            refine JC.region ?_
            refine JO.v (Yv.assign rfl) (by decide) ?_
            refine JO.nil ?_
            refine JQ.then_normal ?_
            refine JC.block ?_
            refine JC.loop (ι := Nat × Value × Value) (fun x => x.1 ≤ ws.length) (fun x => [(0, u), (1, it (n : Int)), (6, ptr b6 0), (7, x.2.1), (8, x.2.2), (9, it ((n : Int) - (sumQ ws n x.1 : Int))), (10, it (x.1 : Int))]) (fun x => [Res.rd u ws.length 1 (ws.map u64)]) (fun x => [Res.cells b6 ((wd (totN ws)).map u64) 32, Res.row x.2.1 x.1 3 1 ((qL ws n x.1).map it), Res.row x.2.2 x.1 32 4 (rC ws n x.1)]) (fun x => ws.length - x.1) (0, .slice none 0 0, .slice none 0 0) (by repeat (first | exact trivial | refine ⟨by first | rfl | (simp; done), ?_⟩)) (Subs.sub (by repeat (first | exact Subs.nil _ | apply Subs.cons | exact List.Mem.head _ | refine List.Mem.tail _ ?_))) (Picks.perm (by repeat (first | exact Picks.nil _ | apply Picks.cons | exact Pull.here _ _ | apply Pull.there))) ?_ (fun x hx => ?_)
            · exact Nat.zero_le _
            obtain ⟨i, v7, v8⟩ := x
            have hi := hx
            dsimp only at hi ⊢
            refine JC.seq ?_
            refine JC.seq ?_
            refine JC.region ?_
            refine JO.v (Yv.move rfl) (by decide) ?_
            refine JO.v (Yv.move rfl) (by decide) ?_
            first | refine JO.v (Yv.len_s Try.underlying22 rfl) (by decide) ?_ | refine JO.v (Yv.lenRd Try.underlying22 rfl (by repeat (first | exact Lend.same _ _ | exact Lend.row _ _ _ _ _ _ (by decide) | apply Lend.there))) (by decide) ?_
            refine JO.v (Yv.bin rfl rfl BinR.lss_i) (by decide) ?_
            refine JO.nil ?_
            refine JQ.then_normal ?_
            refine JC.cond rfl (fun hc3 => ?_) (fun hc3 => ?_)
            · try simp only [decide_eq_true_eq, decide_eq_false_iff_not, Bool.not_eq_true', Bool.not_eq_false', ne_eq, Decidable.not_not, Bool.not_eq_true, Bool.and_eq_true, Bool.or_eq_true, BitVec.reduceToNat] at hc3
              have hqb := qN_le (ws := ws) (n := n) (i := i) hl (by omega)
              have hsb := sumQ_bd (n := n) hl hn hi
              refine JC.skip ?_
              refine JQ.then_normal ?_
              refine JC.seq ?_
              refine JC.block ?_
              refine JC.cut (ι := Nat × Nat) (fun x => True) (fun x => [(0, u), (1, it (n : Int)), (6, ptr b6 0), (7, v7), (8, v8), (9, it ((n : Int) - (sumQ ws n i : Int))), (10, it (i : Int)), (11, ptr x.1 0), (12, ptr x.2 0)]) (fun x => [Res.rd u ws.length 1 (ws.map u64)]) (fun x => [Res.cells b6 ((wd (totN ws)).map u64) 32, Res.row v7 i 3 1 ((qL ws n i).map it), Res.row v8 i 32 4 (rC ws n i), Res.cells x.1 ((wd (qN ws n i)).map u64) 32, Res.cells x.2 ((wd (rN ws n i)).map u64) 32]) ?_ (fun x hx => ?_)
              · skip
                refine JC.draw (.one 0 (.one 1 (.one 2 (.one 3 (.one 4 (.one 5 (.one 7 (.alt 6 (.alt 8 (.one 9 (.one 10 (.one 11 (.one 12 (.alt 13 (.one 14 (.one 15 (.one 16 (.one 17 .nil)))) (.alt 14 (.one 13 (.one 15 (.one 16 (.one 17 .nil)))) .nil)))))) (.alt 13 (.alt 8 (.one 9 (.one 10 (.one 11 (.one 12 (.one 14 (.one 15 (.one 16 (.one 17 .nil)))))))) (.alt 14 (.one 8 (.one 9 (.one 10 (.one 11 (.one 12 (.one 15 (.one 16 (.one 17 .nil)))))))) .nil)) (.alt 14 (.alt 8 (.one 9 (.one 10 (.one 11 (.one 12 (.one 13 (.one 15 (.one 16 (.one 17 .nil)))))))) (.alt 13 (.one 8 (.one 9 (.one 10 (.one 11 (.one 12 (.one 15 (.one 16 (.one 17 .nil)))))))) .nil)) .nil))) (.alt 13 (.alt 6 (.alt 8 (.one 9 (.one 10 (.one 11 (.one 12 (.one 14 (.one 15 (.one 16 (.one 17 .nil)))))))) (.alt 14 (.one 8 (.one 9 (.one 10 (.one 11 (.one 12 (.one 15 (.one 16 (.one 17 .nil)))))))) .nil)) (.alt 14 (.one 6 (.one 8 (.one 9 (.one 10 (.one 11 (.one 12 (.one 15 (.one 16 (.one 17 .nil))))))))) .nil)) (.alt 14 (.alt 6 (.alt 8 (.one 9 (.one 10 (.one 11 (.one 12 (.one 13 (.one 15 (.one 16 (.one 17 .nil)))))))) (.alt 13 (.one 8 (.one 9 (.one 10 (.one 11 (.one 12 (.one 15 (.one 16 (.one 17 .nil)))))))) .nil)) (.alt 13 (.one 6 (.one 8 (.one 9 (.one 10 (.one 11 (.one 12 (.one 15 (.one 16 (.one 17 .nil))))))))) .nil)) .nil)))))))))) (fun i => ([15, 16] : List Nat).contains i) (fun i => ([6, 8, 13, 14, 15, 16] : List Nat).contains i) (fun i => ([0, 1, 2, 3, 4, 9, 10, 11, 12, 17] : List Nat).contains i) mixed (by kernel_rfl) (by decide) (by kernel_rfl) ?_
                refine JR.u rfl rfl rfl (Yv.move rfl) (by decide) ?_
                refine JR.u rfl rfl rfl (Yv.as (v' := u64 (BitVec.ofNat 64 n)) (Yv.conv_i_u64 Try.underlying3 Try.underlying24 rfl) (congrArg u64 (by simp))) (by decide) ?_
                refine JR.u rfl rfl rfl (Yv.move rfl) (by decide) ?_
                refine JR.u rfl rfl rfl (Yv.move rfl) (by decide) ?_
                first | refine JR.u rfl rfl rfl (Yv.indexRow1 Try.underlying22 sz_24 rfl rfl (by repeat (first | exact List.Mem.head _ | refine List.Mem.tail _ ?_)) (by first | exact ltb rfl | (simp; done) | (simp; omega) | omega | (simp [*]; omega))) (by decide) ?_ | refine JR.u rfl rfl rfl (Yv.indexRd1 Try.underlying22 sz_24 rfl rfl (by repeat (first | exact Lend.same _ _ | exact Lend.row _ _ _ _ _ _ (by decide) | apply Lend.there)) (by first | exact ltb rfl | (simp; done) | (simp; omega) | omega | (simp [*]; omega))) (by decide) ?_
                refine JR.v rfl rfl rfl (Yv.load1 one_24 rfl (Kn.rd (by repeat (first | exact Lend.same _ _ | exact Lend.row _ _ _ _ _ _ (by decide) | apply Lend.there)) (by exact gm (d := 0) (by omega)))) (by decide) ?_
                first | refine JR.v rfl rfl rfl (Yv.loadOwn agg_32 (by repeat (first | exact List.Mem.head _ | refine List.Mem.tail _ ?_)) rfl (by first | rfl | (simp; done) | (simp; omega) | (simp [*]; done))) (by decide) ?_ | refine JR.v rfl rfl rfl (Yv.loadOwnAt agg_32 (by repeat (first | exact List.Mem.head _ | refine List.Mem.tail _ ?_)) rfl (by first | rfl | (simp; done) | (simp; omega) | (simp [*]; done))) (by decide) ?_ | refine JR.v rfl rfl rfl (Yv.loadRow agg_32 (by repeat (first | exact List.Mem.head _ | refine List.Mem.tail _ ?_)) rfl (by first | rfl | (simp; done) | (simp; omega) | (simp [*]; done))) (by decide) ?_ | refine JR.v rfl rfl rfl (Yv.loadRd agg_32 (by repeat (first | exact Lend.same _ _ | exact Lend.row _ _ _ _ _ _ (by decide) | apply Lend.there)) rfl (by first | rfl | (simp; done) | (simp; omega) | (simp [*]; done))) (by decide) ?_ | refine JR.v rfl rfl rfl (Yv.loadRo agg_32 (by repeat (first | exact List.Mem.head _ | refine List.Mem.tail _ ?_)) rfl (by first | rfl | (simp; done) | (simp; omega) | (simp [*]; done))) (by decide) ?_
                refine JR.alt rfl ?_ ?_
                · skip
                  refine JR.m rfl rfl (Mv.callB body_25 rfl (f25_spec (BitVec.ofNat 64 n) (ws.getD i 0)) (by repeat (first | exact Picks.nil _ | apply Picks.cons | exact Pull.here _ _ | apply Pull.there)) (by repeat (first | exact Lends.nil _ | apply Lends.cons | exact Lend.same _ _ | exact Lend.row _ _ _ _ _ _ (by decide) | apply Lend.there)) (by rintro _ _ _ ⟨_, h, _⟩; exact h)) (by decide) ?_
                  rintro _ _ _ ⟨_, ⟨rfl, _, rfl⟩, hΓ, hH⟩
                  simp only [List.cons_append, List.nil_append] at hH; subst hΓ hH
                  refine ⟨⟨Subs.sub (by repeat (first | exact Subs.nil _ | apply Subs.cons | exact List.Mem.head _ | refine List.Mem.tail _ ?_)), .inr (St.keep (by repeat (first | exact Subs.nil _ | apply Subs.cons | exact List.Mem.head _ | refine List.Mem.tail _ ?_)) (by repeat (first | exact Picks.nil _ | apply Picks.cons | exact Pull.here _ _ | apply Pull.there)))⟩, ?_⟩
                  refine JR.alt rfl ?_ ?_
                  · skip
                    refine JR.m rfl rfl (Mv.callB body_24 rfl (f24_spec ((BitVec.ofNat 64 n).toNat * (ws.getD i 0).toNat) (totN ws) (prod_lt _ _) htl) (by repeat (first | exact Picks.nil _ | apply Picks.cons | exact Pull.here _ _ | apply Pull.there)) (by repeat (first | exact Lends.nil _ | apply Lends.cons | exact Lend.same _ _ | exact Lend.row _ _ _ _ _ _ (by decide) | apply Lend.there)) (by rintro _ _ _ ⟨_, h, _⟩; exact h)) (by decide) ?_
                    rintro _ _ _ ⟨_, ⟨rfl, _, rfl⟩, hΓ, hH⟩
                    simp only [List.cons_append, List.nil_append] at hH; subst hΓ hH
                    rw [show (BitVec.ofNat 64 n).toNat = n from by rw [BitVec.toNat_ofNat]; omega]
                    refine ⟨⟨Subs.sub (by repeat (first | exact Subs.nil _ | apply Subs.cons | exact List.Mem.head _ | refine List.Mem.tail _ ?_)), .inr (St.keep (by repeat (first | exact Subs.nil _ | apply Subs.cons | exact List.Mem.head _ | refine List.Mem.tail _ ?_)) (by repeat (first | exact Picks.nil _ | apply Picks.cons | exact Pull.here _ _ | apply Pull.there)))⟩, ?_⟩
                    refine JR.u rfl rfl rfl (Yv.move rfl) (by decide) ?_
                    refine JR.u rfl rfl rfl (Yv.as (v' := .agg ((wd (qN ws n i)).map u64).toArray) (Yv.extract rfl rfl) rfl) (by decide) ?_
                    refine JR.u rfl rfl rfl (Yv.as (v' := .agg ((wd (rN ws n i)).map u64).toArray) (Yv.extract rfl rfl) rfl) (by decide) ?_
                    refine JR.u rfl rfl rfl (Yv.as (v' := it (if totN ws = 0 then 11 else 0)) (Yv.extract rfl rfl) rfl) (by decide) ?_
                    refine JR.alt rfl ?_ ?_
                    · skip
                      refine JR.m rfl rfl (Mv.alloc zero_32) (by decide) ?_
                      rintro _ _ _ ⟨b11, rfl, rfl, rfl⟩
                      refine ⟨⟨Subs.sub (by repeat (first | exact Subs.nil _ | apply Subs.cons | exact List.Mem.head _ | refine List.Mem.tail _ ?_)), .inr (St.keep (by repeat (first | exact Subs.nil _ | apply Subs.cons | exact List.Mem.head _ | refine List.Mem.tail _ ?_)) (by repeat (first | exact Picks.nil _ | apply Picks.cons | exact Pull.here _ _ | apply Pull.there)))⟩, ?_⟩
                      refine JR.m rfl rfl (Mv.alloc zero_32) (by decide) ?_
                      rintro _ _ _ ⟨b12, rfl, rfl, rfl⟩
                      refine ⟨⟨Subs.sub (by repeat (first | exact Subs.nil _ | apply Subs.cons | exact List.Mem.head _ | refine List.Mem.tail _ ?_)), .inr (St.keep (by repeat (first | exact Subs.nil _ | apply Subs.cons | exact List.Mem.head _ | refine List.Mem.tail _ ?_)) (by repeat (first | exact Picks.nil _ | apply Picks.cons | exact Pull.here _ _ | apply Pull.there)))⟩, ?_⟩
                      refine JR.m0 rfl rfl (Mv.storeAll sz_32 rfl rfl rfl (by first | rfl | (simp; done) | (simp; omega)) (by first | (simp; done) | exact one_sing rfl | exact one_map (fun _ => rfl) | exact one_piece (one_map (fun _ => rfl)) | exact one_tab (fun _ => rfl) | exact one_tab (fun _ => by split <;> rfl)) (by repeat (first | exact Upd.here _ _ _ | apply Upd.there)) (by first | rfl | (simp; done) | (simp; omega))) ?_
                      rintro _ _ _ ⟨rfl, rfl⟩
                      refine ⟨⟨Subs.sub (by repeat (first | exact Subs.nil _ | apply Subs.cons | exact List.Mem.head _ | refine List.Mem.tail _ ?_)), .inl rfl⟩, ?_⟩
                      refine JR.m0 rfl rfl (Mv.storeAll sz_32 rfl rfl rfl (by first | rfl | (simp; done) | (simp; omega)) (by first | (simp; done) | exact one_sing rfl | exact one_map (fun _ => rfl) | exact one_piece (one_map (fun _ => rfl)) | exact one_tab (fun _ => rfl) | exact one_tab (fun _ => by split <;> rfl)) (by repeat (first | exact Upd.here _ _ _ | apply Upd.there)) (by first | rfl | (simp; done) | (simp; omega))) ?_
                      rintro _ _ _ ⟨rfl, rfl⟩
                      refine ⟨⟨Subs.sub (by repeat (first | exact Subs.nil _ | apply Subs.cons | exact List.Mem.head _ | refine List.Mem.tail _ ?_)), .inl rfl⟩, ?_⟩
                      refine JR.u rfl rfl rfl (Yv.assign rfl) (by decide) ?_
                      refine JR.nil ?_
                      refine JQ.head (b11, b12) (by repeat (first | exact trivial | refine ⟨by first | rfl | (simp; done), ?_⟩)) (Subs.sub (by repeat (first | exact Subs.nil _ | apply Subs.cons | exact List.Mem.head _ | refine List.Mem.tail _ ?_))) (Picks.perm (by repeat (first | exact Picks.nil _ | apply Picks.cons | exact Pull.here _ _ | apply Pull.there))) ?_
                      trivial
                    refine JA.alt rfl ?_ ?_
                    · skip
                      refine JR.m rfl rfl (Mv.alloc zero_32) (by decide) ?_
                      rintro _ _ _ ⟨b12, rfl, rfl, rfl⟩
                      refine ⟨⟨Subs.sub (by repeat (first | exact Subs.nil _ | apply Subs.cons | exact List.Mem.head _ | refine List.Mem.tail _ ?_)), .inr (St.keep (by repeat (first | exact Subs.nil _ | apply Subs.cons | exact List.Mem.head _ | refine List.Mem.tail _ ?_)) (by repeat (first | exact Picks.nil _ | apply Picks.cons | exact Pull.here _ _ | apply Pull.there)))⟩, ?_⟩
                      refine JR.m rfl rfl (Mv.alloc zero_32) (by decide) ?_
                      rintro _ _ _ ⟨b11, rfl, rfl, rfl⟩
                      refine ⟨⟨Subs.sub (by repeat (first | exact Subs.nil _ | apply Subs.cons | exact List.Mem.head _ | refine List.Mem.tail _ ?_)), .inr (St.keep (by repeat (first | exact Subs.nil _ | apply Subs.cons | exact List.Mem.head _ | refine List.Mem.tail _ ?_)) (by repeat (first | exact Picks.nil _ | apply Picks.cons | exact Pull.here _ _ | apply Pull.there)))⟩, ?_⟩
                      refine JR.m0 rfl rfl (Mv.storeAll sz_32 rfl rfl rfl (by first | rfl | (simp; done) | (simp; omega)) (by first | (simp; done) | exact one_sing rfl | exact one_map (fun _ => rfl) | exact one_piece (one_map (fun _ => rfl)) | exact one_tab (fun _ => rfl) | exact one_tab (fun _ => by split <;> rfl)) (by repeat (first | exact Upd.here _ _ _ | apply Upd.there)) (by first | rfl | (simp; done) | (simp; omega))) ?_
                      rintro _ _ _ ⟨rfl, rfl⟩
                      refine ⟨⟨Subs.sub (by repeat (first | exact Subs.nil _ | apply Subs.cons | exact List.Mem.head _ | refine List.Mem.tail _ ?_)), .inl rfl⟩, ?_⟩
                      refine JR.m0 rfl rfl (Mv.storeAll sz_32 rfl rfl rfl (by first | rfl | (simp; done) | (simp; omega)) (by first | (simp; done) | exact one_sing rfl | exact one_map (fun _ => rfl) | exact one_piece (one_map (fun _ => rfl)) | exact one_tab (fun _ => rfl) | exact one_tab (fun _ => by split <;> rfl)) (by repeat (first | exact Upd.here _ _ _ | apply Upd.there)) (by first | rfl | (simp; done) | (simp; omega))) ?_
                      rintro _ _ _ ⟨rfl, rfl⟩
                      refine ⟨⟨Subs.sub (by repeat (first | exact Subs.nil _ | apply Subs.cons | exact List.Mem.head _ | refine List.Mem.tail _ ?_)), .inl rfl⟩, ?_⟩
                      refine JR.u rfl rfl rfl (Yv.assign rfl) (by decide) ?_
                      refine JR.nil ?_
                      refine JQ.head (b11, b12) (by repeat (first | exact trivial | refine ⟨by first | rfl | (simp; done), ?_⟩)) (Subs.sub (by repeat (first | exact Subs.nil _ | apply Subs.cons | exact List.Mem.head _ | refine List.Mem.tail _ ?_))) (Picks.perm (by repeat (first | exact Picks.nil _ | apply Picks.cons | exact Pull.here _ _ | apply Pull.there))) ?_
                      trivial
                    exact JA.nil
                  refine JA.alt rfl ?_ ?_
                  · skip
                    refine JR.m rfl rfl (Mv.alloc zero_32) (by decide) ?_
                    rintro _ _ _ ⟨b11, rfl, rfl, rfl⟩
                    refine ⟨⟨Subs.sub (by repeat (first | exact Subs.nil _ | apply Subs.cons | exact List.Mem.head _ | refine List.Mem.tail _ ?_)), .inr (St.keep (by repeat (first | exact Subs.nil _ | apply Subs.cons | exact List.Mem.head _ | refine List.Mem.tail _ ?_)) (by repeat (first | exact Picks.nil _ | apply Picks.cons | exact Pull.here _ _ | apply Pull.there)))⟩, ?_⟩
                    refine JR.alt rfl ?_ ?_
                    · skip
                      refine JR.m rfl rfl (Mv.callB body_24 rfl (f24_spec ((BitVec.ofNat 64 n).toNat * (ws.getD i 0).toNat) (totN ws) (prod_lt _ _) htl) (by repeat (first | exact Picks.nil _ | apply Picks.cons | exact Pull.here _ _ | apply Pull.there)) (by repeat (first | exact Lends.nil _ | apply Lends.cons | exact Lend.same _ _ | exact Lend.row _ _ _ _ _ _ (by decide) | apply Lend.there)) (by rintro _ _ _ ⟨_, h, _⟩; exact h)) (by decide) ?_
                      rintro _ _ _ ⟨_, ⟨rfl, _, rfl⟩, hΓ, hH⟩
                      simp only [List.cons_append, List.nil_append] at hH; subst hΓ hH
                      rw [show (BitVec.ofNat 64 n).toNat = n from by rw [BitVec.toNat_ofNat]; omega]
                      refine ⟨⟨Subs.sub (by repeat (first | exact Subs.nil _ | apply Subs.cons | exact List.Mem.head _ | refine List.Mem.tail _ ?_)), .inr (St.keep (by repeat (first | exact Subs.nil _ | apply Subs.cons | exact List.Mem.head _ | refine List.Mem.tail _ ?_)) (by repeat (first | exact Picks.nil _ | apply Picks.cons | exact Pull.here _ _ | apply Pull.there)))⟩, ?_⟩
                      refine JR.u rfl rfl rfl (Yv.move rfl) (by decide) ?_
                      refine JR.u rfl rfl rfl (Yv.as (v' := .agg ((wd (qN ws n i)).map u64).toArray) (Yv.extract rfl rfl) rfl) (by decide) ?_
                      refine JR.u rfl rfl rfl (Yv.as (v' := .agg ((wd (rN ws n i)).map u64).toArray) (Yv.extract rfl rfl) rfl) (by decide) ?_
                      refine JR.u rfl rfl rfl (Yv.as (v' := it (if totN ws = 0 then 11 else 0)) (Yv.extract rfl rfl) rfl) (by decide) ?_
                      refine JR.m rfl rfl (Mv.alloc zero_32) (by decide) ?_
                      rintro _ _ _ ⟨b12, rfl, rfl, rfl⟩
                      refine ⟨⟨Subs.sub (by repeat (first | exact Subs.nil _ | apply Subs.cons | exact List.Mem.head _ | refine List.Mem.tail _ ?_)), .inr (St.keep (by repeat (first | exact Subs.nil _ | apply Subs.cons | exact List.Mem.head _ | refine List.Mem.tail _ ?_)) (by repeat (first | exact Picks.nil _ | apply Picks.cons | exact Pull.here _ _ | apply Pull.there)))⟩, ?_⟩
                      refine JR.m0 rfl rfl (Mv.storeAll sz_32 rfl rfl rfl (by first | rfl | (simp; done) | (simp; omega)) (by first | (simp; done) | exact one_sing rfl | exact one_map (fun _ => rfl) | exact one_piece (one_map (fun _ => rfl)) | exact one_tab (fun _ => rfl) | exact one_tab (fun _ => by split <;> rfl)) (by repeat (first | exact Upd.here _ _ _ | apply Upd.there)) (by first | rfl | (simp; done) | (simp; omega))) ?_
                      rintro _ _ _ ⟨rfl, rfl⟩
                      refine ⟨⟨Subs.sub (by repeat (first | exact Subs.nil _ | apply Subs.cons | exact List.Mem.head _ | refine List.Mem.tail _ ?_)), .inl rfl⟩, ?_⟩
                      refine JR.m0 rfl rfl (Mv.storeAll sz_32 rfl rfl rfl (by first | rfl | (simp; done) | (simp; omega)) (by first | (simp; done) | exact one_sing rfl | exact one_map (fun _ => rfl) | exact one_piece (one_map (fun _ => rfl)) | exact one_tab (fun _ => rfl) | exact one_tab (fun _ => by split <;> rfl)) (by repeat (first | exact Upd.here _ _ _ | apply Upd.there)) (by first | rfl | (simp; done) | (simp; omega))) ?_
                      rintro _ _ _ ⟨rfl, rfl⟩
                      refine ⟨⟨Subs.sub (by repeat (first | exact Subs.nil _ | apply Subs.cons | exact List.Mem.head _ | refine List.Mem.tail _ ?_)), .inl rfl⟩, ?_⟩
                      refine JR.u rfl rfl rfl (Yv.assign rfl) (by decide) ?_
                      refine JR.nil ?_
                      refine JQ.head (b11, b12) (by repeat (first | exact trivial | refine ⟨by first | rfl | (simp; done), ?_⟩)) (Subs.sub (by repeat (first | exact Subs.nil _ | apply Subs.cons | exact List.Mem.head _ | refine List.Mem.tail _ ?_))) (Picks.perm (by repeat (first | exact Picks.nil _ | apply Picks.cons | exact Pull.here _ _ | apply Pull.there))) ?_
                      trivial
                    refine JA.alt rfl ?_ ?_
                    · skip
                      refine JR.m rfl rfl (Mv.alloc zero_32) (by decide) ?_
                      rintro _ _ _ ⟨b12, rfl, rfl, rfl⟩
                      refine ⟨⟨Subs.sub (by repeat (first | exact Subs.nil _ | apply Subs.cons | exact List.Mem.head _ | refine List.Mem.tail _ ?_)), .inr (St.keep (by repeat (first | exact Subs.nil _ | apply Subs.cons | exact List.Mem.head _ | refine List.Mem.tail _ ?_)) (by repeat (first | exact Picks.nil _ | apply Picks.cons | exact Pull.here _ _ | apply Pull.there)))⟩, ?_⟩
                      refine JR.m rfl rfl (Mv.callB body_24 rfl (f24_spec ((BitVec.ofNat 64 n).toNat * (ws.getD i 0).toNat) (totN ws) (prod_lt _ _) htl) (by repeat (first | exact Picks.nil _ | apply Picks.cons | exact Pull.here _ _ | apply Pull.there)) (by repeat (first | exact Lends.nil _ | apply Lends.cons | exact Lend.same _ _ | exact Lend.row _ _ _ _ _ _ (by decide) | apply Lend.there)) (by rintro _ _ _ ⟨_, h, _⟩; exact h)) (by decide) ?_
                      rintro _ _ _ ⟨_, ⟨rfl, _, rfl⟩, hΓ, hH⟩
                      simp only [List.cons_append, List.nil_append] at hH; subst hΓ hH
                      rw [show (BitVec.ofNat 64 n).toNat = n from by rw [BitVec.toNat_ofNat]; omega]
                      refine ⟨⟨Subs.sub (by repeat (first | exact Subs.nil _ | apply Subs.cons | exact List.Mem.head _ | refine List.Mem.tail _ ?_)), .inr (St.keep (by repeat (first | exact Subs.nil _ | apply Subs.cons | exact List.Mem.head _ | refine List.Mem.tail _ ?_)) (by repeat (first | exact Picks.nil _ | apply Picks.cons | exact Pull.here _ _ | apply Pull.there)))⟩, ?_⟩
                      refine JR.u rfl rfl rfl (Yv.move rfl) (by decide) ?_
                      refine JR.u rfl rfl rfl (Yv.as (v' := .agg ((wd (qN ws n i)).map u64).toArray) (Yv.extract rfl rfl) rfl) (by decide) ?_
                      refine JR.u rfl rfl rfl (Yv.as (v' := .agg ((wd (rN ws n i)).map u64).toArray) (Yv.extract rfl rfl) rfl) (by decide) ?_
                      refine JR.u rfl rfl rfl (Yv.as (v' := it (if totN ws = 0 then 11 else 0)) (Yv.extract rfl rfl) rfl) (by decide) ?_
                      refine JR.m0 rfl rfl (Mv.storeAll sz_32 rfl rfl rfl (by first | rfl | (simp; done) | (simp; omega)) (by first | (simp; done) | exact one_sing rfl | exact one_map (fun _ => rfl) | exact one_piece (one_map (fun _ => rfl)) | exact one_tab (fun _ => rfl) | exact one_tab (fun _ => by split <;> rfl)) (by repeat (first | exact Upd.here _ _ _ | apply Upd.there)) (by first | rfl | (simp; done) | (simp; omega))) ?_
                      rintro _ _ _ ⟨rfl, rfl⟩
                      refine ⟨⟨Subs.sub (by repeat (first | exact Subs.nil _ | apply Subs.cons | exact List.Mem.head _ | refine List.Mem.tail _ ?_)), .inl rfl⟩, ?_⟩
                      refine JR.m0 rfl rfl (Mv.storeAll sz_32 rfl rfl rfl (by first | rfl | (simp; done) | (simp; omega)) (by first | (simp; done) | exact one_sing rfl | exact one_map (fun _ => rfl) | exact one_piece (one_map (fun _ => rfl)) | exact one_tab (fun _ => rfl) | exact one_tab (fun _ => by split <;> rfl)) (by repeat (first | exact Upd.here _ _ _ | apply Upd.there)) (by first | rfl | (simp; done) | (simp; omega))) ?_
                      rintro _ _ _ ⟨rfl, rfl⟩
                      refine ⟨⟨Subs.sub (by repeat (first | exact Subs.nil _ | apply Subs.cons | exact List.Mem.head _ | refine List.Mem.tail _ ?_)), .inl rfl⟩, ?_⟩
                      refine JR.u rfl rfl rfl (Yv.assign rfl) (by decide) ?_
                      refine JR.nil ?_
                      refine JQ.head (b11, b12) (by repeat (first | exact trivial | refine ⟨by first | rfl | (simp; done), ?_⟩)) (Subs.sub (by repeat (first | exact Subs.nil _ | apply Subs.cons | exact List.Mem.head _ | refine List.Mem.tail _ ?_))) (Picks.perm (by repeat (first | exact Picks.nil _ | apply Picks.cons | exact Pull.here _ _ | apply Pull.there))) ?_
                      trivial
                    exact JA.nil
                  refine JA.alt rfl ?_ ?_
                  · skip
                    refine JR.m rfl rfl (Mv.alloc zero_32) (by decide) ?_
                    rintro _ _ _ ⟨b12, rfl, rfl, rfl⟩
                    refine ⟨⟨Subs.sub (by repeat (first | exact Subs.nil _ | apply Subs.cons | exact List.Mem.head _ | refine List.Mem.tail _ ?_)), .inr (St.keep (by repeat (first | exact Subs.nil _ | apply Subs.cons | exact List.Mem.head _ | refine List.Mem.tail _ ?_)) (by repeat (first | exact Picks.nil _ | apply Picks.cons | exact Pull.here _ _ | apply Pull.there)))⟩, ?_⟩
                    refine JR.alt rfl ?_ ?_
                    · skip
                      refine JR.m rfl rfl (Mv.callB body_24 rfl (f24_spec ((BitVec.ofNat 64 n).toNat * (ws.getD i 0).toNat) (totN ws) (prod_lt _ _) htl) (by repeat (first | exact Picks.nil _ | apply Picks.cons | exact Pull.here _ _ | apply Pull.there)) (by repeat (first | exact Lends.nil _ | apply Lends.cons | exact Lend.same _ _ | exact Lend.row _ _ _ _ _ _ (by decide) | apply Lend.there)) (by rintro _ _ _ ⟨_, h, _⟩; exact h)) (by decide) ?_
                      rintro _ _ _ ⟨_, ⟨rfl, _, rfl⟩, hΓ, hH⟩
                      simp only [List.cons_append, List.nil_append] at hH; subst hΓ hH
                      rw [show (BitVec.ofNat 64 n).toNat = n from by rw [BitVec.toNat_ofNat]; omega]
                      refine ⟨⟨Subs.sub (by repeat (first | exact Subs.nil _ | apply Subs.cons | exact List.Mem.head _ | refine List.Mem.tail _ ?_)), .inr (St.keep (by repeat (first | exact Subs.nil _ | apply Subs.cons | exact List.Mem.head _ | refine List.Mem.tail _ ?_)) (by repeat (first | exact Picks.nil _ | apply Picks.cons | exact Pull.here _ _ | apply Pull.there)))⟩, ?_⟩
                      refine JR.u rfl rfl rfl (Yv.move rfl) (by decide) ?_
                      refine JR.u rfl rfl rfl (Yv.as (v' := .agg ((wd (qN ws n i)).map u64).toArray) (Yv.extract rfl rfl) rfl) (by decide) ?_
                      refine JR.u rfl rfl rfl (Yv.as (v' := .agg ((wd (rN ws n i)).map u64).toArray) (Yv.extract rfl rfl) rfl) (by decide) ?_
                      refine JR.u rfl rfl rfl (Yv.as (v' := it (if totN ws = 0 then 11 else 0)) (Yv.extract rfl rfl) rfl) (by decide) ?_
                      refine JR.m rfl rfl (Mv.alloc zero_32) (by decide) ?_
                      rintro _ _ _ ⟨b11, rfl, rfl, rfl⟩
                      refine ⟨⟨Subs.sub (by repeat (first | exact Subs.nil _ | apply Subs.cons | exact List.Mem.head _ | refine List.Mem.tail _ ?_)), .inr (St.keep (by repeat (first | exact Subs.nil _ | apply Subs.cons | exact List.Mem.head _ | refine List.Mem.tail _ ?_)) (by repeat (first | exact Picks.nil _ | apply Picks.cons | exact Pull.here _ _ | apply Pull.there)))⟩, ?_⟩
                      refine JR.m0 rfl rfl (Mv.storeAll sz_32 rfl rfl rfl (by first | rfl | (simp; done) | (simp; omega)) (by first | (simp; done) | exact one_sing rfl | exact one_map (fun _ => rfl) | exact one_piece (one_map (fun _ => rfl)) | exact one_tab (fun _ => rfl) | exact one_tab (fun _ => by split <;> rfl)) (by repeat (first | exact Upd.here _ _ _ | apply Upd.there)) (by first | rfl | (simp; done) | (simp; omega))) ?_
                      rintro _ _ _ ⟨rfl, rfl⟩
                      refine ⟨⟨Subs.sub (by repeat (first | exact Subs.nil _ | apply Subs.cons | exact List.Mem.head _ | refine List.Mem.tail _ ?_)), .inl rfl⟩, ?_⟩
                      refine JR.m0 rfl rfl (Mv.storeAll sz_32 rfl rfl rfl (by first | rfl | (simp; done) | (simp; omega)) (by first | (simp; done) | exact one_sing rfl | exact one_map (fun _ => rfl) | exact one_piece (one_map (fun _ => rfl)) | exact one_tab (fun _ => rfl) | exact one_tab (fun _ => by split <;> rfl)) (by repeat (first | exact Upd.here _ _ _ | apply Upd.there)) (by first | rfl | (simp; done) | (simp; omega))) ?_
                      rintro _ _ _ ⟨rfl, rfl⟩
                      refine ⟨⟨Subs.sub (by repeat (first | exact Subs.nil _ | apply Subs.cons | exact List.Mem.head _ | refine List.Mem.tail _ ?_)), .inl rfl⟩, ?_⟩
                      refine JR.u rfl rfl rfl (Yv.assign rfl) (by decide) ?_
                      refine JR.nil ?_
                      refine JQ.head (b11, b12) (by repeat (first | exact trivial | refine ⟨by first | rfl | (simp; done), ?_⟩)) (Subs.sub (by repeat (first | exact Subs.nil _ | apply Subs.cons | exact List.Mem.head _ | refine List.Mem.tail _ ?_))) (Picks.perm (by repeat (first | exact Picks.nil _ | apply Picks.cons | exact Pull.here _ _ | apply Pull.there))) ?_
                      trivial
                    refine JA.alt rfl ?_ ?_
                    · skip
                      refine JR.m rfl rfl (Mv.alloc zero_32) (by decide) ?_
                      rintro _ _ _ ⟨b11, rfl, rfl, rfl⟩
                      refine ⟨⟨Subs.sub (by repeat (first | exact Subs.nil _ | apply Subs.cons | exact List.Mem.head _ | refine List.Mem.tail _ ?_)), .inr (St.keep (by repeat (first | exact Subs.nil _ | apply Subs.cons | exact List.Mem.head _ | refine List.Mem.tail _ ?_)) (by repeat (first | exact Picks.nil _ | apply Picks.cons | exact Pull.here _ _ | apply Pull.there)))⟩, ?_⟩
                      refine JR.m rfl rfl (Mv.callB body_24 rfl (f24_spec ((BitVec.ofNat 64 n).toNat * (ws.getD i 0).toNat) (totN ws) (prod_lt _ _) htl) (by repeat (first | exact Picks.nil _ | apply Picks.cons | exact Pull.here _ _ | apply Pull.there)) (by repeat (first | exact Lends.nil _ | apply Lends.cons | exact Lend.same _ _ | exact Lend.row _ _ _ _ _ _ (by decide) | apply Lend.there)) (by rintro _ _ _ ⟨_, h, _⟩; exact h)) (by decide) ?_
                      rintro _ _ _ ⟨_, ⟨rfl, _, rfl⟩, hΓ, hH⟩
                      simp only [List.cons_append, List.nil_append] at hH; subst hΓ hH
                      rw [show (BitVec.ofNat 64 n).toNat = n from by rw [BitVec.toNat_ofNat]; omega]
                      refine ⟨⟨Subs.sub (by repeat (first | exact Subs.nil _ | apply Subs.cons | exact List.Mem.head _ | refine List.Mem.tail _ ?_)), .inr (St.keep (by repeat (first | exact Subs.nil _ | apply Subs.cons | exact List.Mem.head _ | refine List.Mem.tail _ ?_)) (by repeat (first | exact Picks.nil _ | apply Picks.cons | exact Pull.here _ _ | apply Pull.there)))⟩, ?_⟩
                      refine JR.u rfl rfl rfl (Yv.move rfl) (by decide) ?_
                      refine JR.u rfl rfl rfl (Yv.as (v' := .agg ((wd (qN ws n i)).map u64).toArray) (Yv.extract rfl rfl) rfl) (by decide) ?_
                      refine JR.u rfl rfl rfl (Yv.as (v' := .agg ((wd (rN ws n i)).map u64).toArray) (Yv.extract rfl rfl) rfl) (by decide) ?_
                      refine JR.u rfl rfl rfl (Yv.as (v' := it (if totN ws = 0 then 11 else 0)) (Yv.extract rfl rfl) rfl) (by decide) ?_
                      refine JR.m0 rfl rfl (Mv.storeAll sz_32 rfl rfl rfl (by first | rfl | (simp; done) | (simp; omega)) (by first | (simp; done) | exact one_sing rfl | exact one_map (fun _ => rfl) | exact one_piece (one_map (fun _ => rfl)) | exact one_tab (fun _ => rfl) | exact one_tab (fun _ => by split <;> rfl)) (by repeat (first | exact Upd.here _ _ _ | apply Upd.there)) (by first | rfl | (simp; done) | (simp; omega))) ?_
                      rintro _ _ _ ⟨rfl, rfl⟩
                      refine ⟨⟨Subs.sub (by repeat (first | exact Subs.nil _ | apply Subs.cons | exact List.Mem.head _ | refine List.Mem.tail _ ?_)), .inl rfl⟩, ?_⟩
                      refine JR.m0 rfl rfl (Mv.storeAll sz_32 rfl rfl rfl (by first | rfl | (simp; done) | (simp; omega)) (by first | (simp; done) | exact one_sing rfl | exact one_map (fun _ => rfl) | exact one_piece (one_map (fun _ => rfl)) | exact one_tab (fun _ => rfl) | exact one_tab (fun _ => by split <;> rfl)) (by repeat (first | exact Upd.here _ _ _ | apply Upd.there)) (by first | rfl | (simp; done) | (simp; omega))) ?_
                      rintro _ _ _ ⟨rfl, rfl⟩
                      refine ⟨⟨Subs.sub (by repeat (first | exact Subs.nil _ | apply Subs.cons | exact List.Mem.head _ | refine List.Mem.tail _ ?_)), .inl rfl⟩, ?_⟩
                      refine JR.u rfl rfl rfl (Yv.assign rfl) (by decide) ?_
                      refine JR.nil ?_
                      refine JQ.head (b11, b12) (by repeat (first | exact trivial | refine ⟨by first | rfl | (simp; done), ?_⟩)) (Subs.sub (by repeat (first | exact Subs.nil _ | apply Subs.cons | exact List.Mem.head _ | refine List.Mem.tail _ ?_))) (Picks.perm (by repeat (first | exact Picks.nil _ | apply Picks.cons | exact Pull.here _ _ | apply Pull.there))) ?_
                      trivial
                    exact JA.nil
                  exact JA.nil
                refine JA.alt rfl ?_ ?_
                · skip
                  refine JR.m rfl rfl (Mv.alloc zero_32) (by decide) ?_
                  rintro _ _ _ ⟨b11, rfl, rfl, rfl⟩
                  refine ⟨⟨Subs.sub (by repeat (first | exact Subs.nil _ | apply Subs.cons | exact List.Mem.head _ | refine List.Mem.tail _ ?_)), .inr (St.keep (by repeat (first | exact Subs.nil _ | apply Subs.cons | exact List.Mem.head _ | refine List.Mem.tail _ ?_)) (by repeat (first | exact Picks.nil _ | apply Picks.cons | exact Pull.here _ _ | apply Pull.there)))⟩, ?_⟩
                  refine JR.alt rfl ?_ ?_
                  · skip
                    refine JR.m rfl rfl (Mv.callB body_25 rfl (f25_spec (BitVec.ofNat 64 n) (ws.getD i 0)) (by repeat (first | exact Picks.nil _ | apply Picks.cons | exact Pull.here _ _ | apply Pull.there)) (by repeat (first | exact Lends.nil _ | apply Lends.cons | exact Lend.same _ _ | exact Lend.row _ _ _ _ _ _ (by decide) | apply Lend.there)) (by rintro _ _ _ ⟨_, h, _⟩; exact h)) (by decide) ?_
                    rintro _ _ _ ⟨_, ⟨rfl, _, rfl⟩, hΓ, hH⟩
                    simp only [List.cons_append, List.nil_append] at hH; subst hΓ hH
                    refine ⟨⟨Subs.sub (by repeat (first | exact Subs.nil _ | apply Subs.cons | exact List.Mem.head _ | refine List.Mem.tail _ ?_)), .inr (St.keep (by repeat (first | exact Subs.nil _ | apply Subs.cons | exact List.Mem.head _ | refine List.Mem.tail _ ?_)) (by repeat (first | exact Picks.nil _ | apply Picks.cons | exact Pull.here _ _ | apply Pull.there)))⟩, ?_⟩
                    refine JR.alt rfl ?_ ?_
                    · skip
                      refine JR.m rfl rfl (Mv.callB body_24 rfl (f24_spec ((BitVec.ofNat 64 n).toNat * (ws.getD i 0).toNat) (totN ws) (prod_lt _ _) htl) (by repeat (first | exact Picks.nil _ | apply Picks.cons | exact Pull.here _ _ | apply Pull.there)) (by repeat (first | exact Lends.nil _ | apply Lends.cons | exact Lend.same _ _ | exact Lend.row _ _ _ _ _ _ (by decide) | apply Lend.there)) (by rintro _ _ _ ⟨_, h, _⟩; exact h)) (by decide) ?_
                      rintro _ _ _ ⟨_, ⟨rfl, _, rfl⟩, hΓ, hH⟩
                      simp only [List.cons_append, List.nil_append] at hH; subst hΓ hH
                      rw [show (BitVec.ofNat 64 n).toNat = n from by rw [BitVec.toNat_ofNat]; omega]
                      refine ⟨⟨Subs.sub (by repeat (first | exact Subs.nil _ | apply Subs.cons | exact List.Mem.head _ | refine List.Mem.tail _ ?_)), .inr (St.keep (by repeat (first | exact Subs.nil _ | apply Subs.cons | exact List.Mem.head _ | refine List.Mem.tail _ ?_)) (by repeat (first | exact Picks.nil _ | apply Picks.cons | exact Pull.here _ _ | apply Pull.there)))⟩, ?_⟩
                      refine JR.u rfl rfl rfl (Yv.move rfl) (by decide) ?_
                      refine JR.u rfl rfl rfl (Yv.as (v' := .agg ((wd (qN ws n i)).map u64).toArray) (Yv.extract rfl rfl) rfl) (by decide) ?_
                      refine JR.u rfl rfl rfl (Yv.as (v' := .agg ((wd (rN ws n i)).map u64).toArray) (Yv.extract rfl rfl) rfl) (by decide) ?_
                      refine JR.u rfl rfl rfl (Yv.as (v' := it (if totN ws = 0 then 11 else 0)) (Yv.extract rfl rfl) rfl) (by decide) ?_
                      refine JR.m rfl rfl (Mv.alloc zero_32) (by decide) ?_
                      rintro _ _ _ ⟨b12, rfl, rfl, rfl⟩
                      refine ⟨⟨Subs.sub (by repeat (first | exact Subs.nil _ | apply Subs.cons | exact List.Mem.head _ | refine List.Mem.tail _ ?_)), .inr (St.keep (by repeat (first | exact Subs.nil _ | apply Subs.cons | exact List.Mem.head _ | refine List.Mem.tail _ ?_)) (by repeat (first | exact Picks.nil _ | apply Picks.cons | exact Pull.here _ _ | apply Pull.there)))⟩, ?_⟩
                      refine JR.m0 rfl rfl (Mv.storeAll sz_32 rfl rfl rfl (by first | rfl | (simp; done) | (simp; omega)) (by first | (simp; done) | exact one_sing rfl | exact one_map (fun _ => rfl) | exact one_piece (one_map (fun _ => rfl)) | exact one_tab (fun _ => rfl) | exact one_tab (fun _ => by split <;> rfl)) (by repeat (first | exact Upd.here _ _ _ | apply Upd.there)) (by first | rfl | (simp; done) | (simp; omega))) ?_
                      rintro _ _ _ ⟨rfl, rfl⟩
                      refine ⟨⟨Subs.sub (by repeat (first | exact Subs.nil _ | apply Subs.cons | exact List.Mem.head _ | refine List.Mem.tail _ ?_)), .inl rfl⟩, ?_⟩
                      refine JR.m0 rfl rfl (Mv.storeAll sz_32 rfl rfl rfl (by first | rfl | (simp; done) | (simp; omega)) (by first | (simp; done) | exact one_sing rfl | exact one_map (fun _ => rfl) | exact one_piece (one_map (fun _ => rfl)) | exact one_tab (fun _ => rfl) | exact one_tab (fun _ => by split <;> rfl)) (by repeat (first | exact Upd.here _ _ _ | apply Upd.there)) (by first | rfl | (simp; done) | (simp; omega))) ?_
                      rintro _ _ _ ⟨rfl, rfl⟩
                      refine ⟨⟨Subs.sub (by repeat (first | exact Subs.nil _ | apply Subs.cons | exact List.Mem.head _ | refine List.Mem.tail _ ?_)), .inl rfl⟩, ?_⟩
                      refine JR.u rfl rfl rfl (Yv.assign rfl) (by decide) ?_
                      refine JR.nil ?_
                      refine JQ.head (b11, b12) (by repeat (first | exact trivial | refine ⟨by first | rfl | (simp; done), ?_⟩)) (Subs.sub (by repeat (first | exact Subs.nil _ | apply Subs.cons | exact List.Mem.head _ | refine List.Mem.tail _ ?_))) (Picks.perm (by repeat (first | exact Picks.nil _ | apply Picks.cons | exact Pull.here _ _ | apply Pull.there))) ?_
                      trivial
                    refine JA.alt rfl ?_ ?_
                    · skip
                      refine JR.m rfl rfl (Mv.alloc zero_32) (by decide) ?_
                      rintro _ _ _ ⟨b12, rfl, rfl, rfl⟩
                      refine ⟨⟨Subs.sub (by repeat (first | exact Subs.nil _ | apply Subs.cons | exact List.Mem.head _ | refine List.Mem.tail _ ?_)), .inr (St.keep (by repeat (first | exact Subs.nil _ | apply Subs.cons | exact List.Mem.head _ | refine List.Mem.tail _ ?_)) (by repeat (first | exact Picks.nil _ | apply Picks.cons | exact Pull.here _ _ | apply Pull.there)))⟩, ?_⟩
                      refine JR.m rfl rfl (Mv.callB body_24 rfl (f24_spec ((BitVec.ofNat 64 n).toNat * (ws.getD i 0).toNat) (totN ws) (prod_lt _ _) htl) (by repeat (first | exact Picks.nil _ | apply Picks.cons | exact Pull.here _ _ | apply Pull.there)) (by repeat (first | exact Lends.nil _ | apply Lends.cons | exact Lend.same _ _ | exact Lend.row _ _ _ _ _ _ (by decide) | apply Lend.there)) (by rintro _ _ _ ⟨_, h, _⟩; exact h)) (by decide) ?_
                      rintro _ _ _ ⟨_, ⟨rfl, _, rfl⟩, hΓ, hH⟩
                      simp only [List.cons_append, List.nil_append] at hH; subst hΓ hH
                      rw [show (BitVec.ofNat 64 n).toNat = n from by rw [BitVec.toNat_ofNat]; omega]
                      refine ⟨⟨Subs.sub (by repeat (first | exact Subs.nil _ | apply Subs.cons | exact List.Mem.head _ | refine List.Mem.tail _ ?_)), .inr (St.keep (by repeat (first | exact Subs.nil _ | apply Subs.cons | exact List.Mem.head _ | refine List.Mem.tail _ ?_)) (by repeat (first | exact Picks.nil _ | apply Picks.cons | exact Pull.here _ _ | apply Pull.there)))⟩, ?_⟩
                      refine JR.u rfl rfl rfl (Yv.move rfl) (by decide) ?_
                      refine JR.u rfl rfl rfl (Yv.as (v' := .agg ((wd (qN ws n i)).map u64).toArray) (Yv.extract rfl rfl) rfl) (by decide) ?_
                      refine JR.u rfl rfl rfl (Yv.as (v' := .agg ((wd (rN ws n i)).map u64).toArray) (Yv.extract rfl rfl) rfl) (by decide) ?_
                      refine JR.u rfl rfl rfl (Yv.as (v' := it (if totN ws = 0 then 11 else 0)) (Yv.extract rfl rfl) rfl) (by decide) ?_
                      refine JR.m0 rfl rfl (Mv.storeAll sz_32 rfl rfl rfl (by first | rfl | (simp; done) | (simp; omega)) (by first | (simp; done) | exact one_sing rfl | exact one_map (fun _ => rfl) | exact one_piece (one_map (fun _ => rfl)) | exact one_tab (fun _ => rfl) | exact one_tab (fun _ => by split <;> rfl)) (by repeat (first | exact Upd.here _ _ _ | apply Upd.there)) (by first | rfl | (simp; done) | (simp; omega))) ?_
                      rintro _ _ _ ⟨rfl, rfl⟩
                      refine ⟨⟨Subs.sub (by repeat (first | exact Subs.nil _ | apply Subs.cons | exact List.Mem.head _ | refine List.Mem.tail _ ?_)), .inl rfl⟩, ?_⟩
                      refine JR.m0 rfl rfl (Mv.storeAll sz_32 rfl rfl rfl (by first | rfl | (simp; done) | (simp; omega)) (by first | (simp; done) | exact one_sing rfl | exact one_map (fun _ => rfl) | exact one_piece (one_map (fun _ => rfl)) | exact one_tab (fun _ => rfl) | exact one_tab (fun _ => by split <;> rfl)) (by repeat (first | exact Upd.here _ _ _ | apply Upd.there)) (by first | rfl | (simp; done) | (simp; omega))) ?_
                      rintro _ _ _ ⟨rfl, rfl⟩
                      refine ⟨⟨Subs.sub (by repeat (first | exact Subs.nil _ | apply Subs.cons | exact List.Mem.head _ | refine List.Mem.tail _ ?_)), .inl rfl⟩, ?_⟩
                      refine JR.u rfl rfl rfl (Yv.assign rfl) (by decide) ?_
                      refine JR.nil ?_
                      refine JQ.head (b11, b12) (by repeat (first | exact trivial | refine ⟨by first | rfl | (simp; done), ?_⟩)) (Subs.sub (by repeat (first | exact Subs.nil _ | apply Subs.cons | exact List.Mem.head _ | refine List.Mem.tail _ ?_))) (Picks.perm (by repeat (first | exact Picks.nil _ | apply Picks.cons | exact Pull.here _ _ | apply Pull.there))) ?_
                      trivial
                    exact JA.nil
                  refine JA.alt rfl ?_ ?_
                  · skip
                    refine JR.m rfl rfl (Mv.alloc zero_32) (by decide) ?_
                    rintro _ _ _ ⟨b12, rfl, rfl, rfl⟩
                    refine ⟨⟨Subs.sub (by repeat (first | exact Subs.nil _ | apply Subs.cons | exact List.Mem.head _ | refine List.Mem.tail _ ?_)), .inr (St.keep (by repeat (first | exact Subs.nil _ | apply Subs.cons | exact List.Mem.head _ | refine List.Mem.tail _ ?_)) (by repeat (first | exact Picks.nil _ | apply Picks.cons | exact Pull.here _ _ | apply Pull.there)))⟩, ?_⟩
                    refine JR.m rfl rfl (Mv.callB body_25 rfl (f25_spec (BitVec.ofNat 64 n) (ws.getD i 0)) (by repeat (first | exact Picks.nil _ | apply Picks.cons | exact Pull.here _ _ | apply Pull.there)) (by repeat (first | exact Lends.nil _ | apply Lends.cons | exact Lend.same _ _ | exact Lend.row _ _ _ _ _ _ (by decide) | apply Lend.there)) (by rintro _ _ _ ⟨_, h, _⟩; exact h)) (by decide) ?_
                    rintro _ _ _ ⟨_, ⟨rfl, _, rfl⟩, hΓ, hH⟩
                    simp only [List.cons_append, List.nil_append] at hH; subst hΓ hH
                    refine ⟨⟨Subs.sub (by repeat (first | exact Subs.nil _ | apply Subs.cons | exact List.Mem.head _ | refine List.Mem.tail _ ?_)), .inr (St.keep (by repeat (first | exact Subs.nil _ | apply Subs.cons | exact List.Mem.head _ | refine List.Mem.tail _ ?_)) (by repeat (first | exact Picks.nil _ | apply Picks.cons | exact Pull.here _ _ | apply Pull.there)))⟩, ?_⟩
                    refine JR.m rfl rfl (Mv.callB body_24 rfl (f24_spec ((BitVec.ofNat 64 n).toNat * (ws.getD i 0).toNat) (totN ws) (prod_lt _ _) htl) (by repeat (first | exact Picks.nil _ | apply Picks.cons | exact Pull.here _ _ | apply Pull.there)) (by repeat (first | exact Lends.nil _ | apply Lends.cons | exact Lend.same _ _ | exact Lend.row _ _ _ _ _ _ (by decide) | apply Lend.there)) (by rintro _ _ _ ⟨_, h, _⟩; exact h)) (by decide) ?_
                    rintro _ _ _ ⟨_, ⟨rfl, _, rfl⟩, hΓ, hH⟩
                    simp only [List.cons_append, List.nil_append] at hH; subst hΓ hH
                    rw [show (BitVec.ofNat 64 n).toNat = n from by rw [BitVec.toNat_ofNat]; omega]
                    refine ⟨⟨Subs.sub (by repeat (first | exact Subs.nil _ | apply Subs.cons | exact List.Mem.head _ | refine List.Mem.tail _ ?_)), .inr (St.keep (by repeat (first | exact Subs.nil _ | apply Subs.cons | exact List.Mem.head _ | refine List.Mem.tail _ ?_)) (by repeat (first | exact Picks.nil _ | apply Picks.cons | exact Pull.here _ _ | apply Pull.there)))⟩, ?_⟩
                    refine JR.u rfl rfl rfl (Yv.move rfl) (by decide) ?_
                    refine JR.u rfl rfl rfl (Yv.as (v' := .agg ((wd (qN ws n i)).map u64).toArray) (Yv.extract rfl rfl) rfl) (by decide) ?_
                    refine JR.u rfl rfl rfl (Yv.as (v' := .agg ((wd (rN ws n i)).map u64).toArray) (Yv.extract rfl rfl) rfl) (by decide) ?_
                    refine JR.u rfl rfl rfl (Yv.as (v' := it (if totN ws = 0 then 11 else 0)) (Yv.extract rfl rfl) rfl) (by decide) ?_
                    refine JR.m0 rfl rfl (Mv.storeAll sz_32 rfl rfl rfl (by first | rfl | (simp; done) | (simp; omega)) (by first | (simp; done) | exact one_sing rfl | exact one_map (fun _ => rfl) | exact one_piece (one_map (fun _ => rfl)) | exact one_tab (fun _ => rfl) | exact one_tab (fun _ => by split <;> rfl)) (by repeat (first | exact Upd.here _ _ _ | apply Upd.there)) (by first | rfl | (simp; done) | (simp; omega))) ?_
                    rintro _ _ _ ⟨rfl, rfl⟩
                    refine ⟨⟨Subs.sub (by repeat (first | exact Subs.nil _ | apply Subs.cons | exact List.Mem.head _ | refine List.Mem.tail _ ?_)), .inl rfl⟩, ?_⟩
                    refine JR.m0 rfl rfl (Mv.storeAll sz_32 rfl rfl rfl (by first | rfl | (simp; done) | (simp; omega)) (by first | (simp; done) | exact one_sing rfl | exact one_map (fun _ => rfl) | exact one_piece (one_map (fun _ => rfl)) | exact one_tab (fun _ => rfl) | exact one_tab (fun _ => by split <;> rfl)) (by repeat (first | exact Upd.here _ _ _ | apply Upd.there)) (by first | rfl | (simp; done) | (simp; omega))) ?_
                    rintro _ _ _ ⟨rfl, rfl⟩
                    refine ⟨⟨Subs.sub (by repeat (first | exact Subs.nil _ | apply Subs.cons | exact List.Mem.head _ | refine List.Mem.tail _ ?_)), .inl rfl⟩, ?_⟩
                    refine JR.u rfl rfl rfl (Yv.assign rfl) (by decide) ?_
                    refine JR.nil ?_
                    refine JQ.head (b11, b12) (by repeat (first | exact trivial | refine ⟨by first | rfl | (simp; done), ?_⟩)) (Subs.sub (by repeat (first | exact Subs.nil _ | apply Subs.cons | exact List.Mem.head _ | refine List.Mem.tail _ ?_))) (Picks.perm (by repeat (first | exact Picks.nil _ | apply Picks.cons | exact Pull.here _ _ | apply Pull.there))) ?_
                    trivial
                  exact JA.nil
                refine JA.alt rfl ?_ ?_
                · skip
                  refine JR.m rfl rfl (Mv.alloc zero_32) (by decide) ?_
                  rintro _ _ _ ⟨b12, rfl, rfl, rfl⟩
                  refine ⟨⟨Subs.sub (by repeat (first | exact Subs.nil _ | apply Subs.cons | exact List.Mem.head _ | refine List.Mem.tail _ ?_)), .inr (St.keep (by repeat (first | exact Subs.nil _ | apply Subs.cons | exact List.Mem.head _ | refine List.Mem.tail _ ?_)) (by repeat (first | exact Picks.nil _ | apply Picks.cons | exact Pull.here _ _ | apply Pull.there)))⟩, ?_⟩
                  refine JR.alt rfl ?_ ?_
                  · skip
                    refine JR.m rfl rfl (Mv.callB body_25 rfl (f25_spec (BitVec.ofNat 64 n) (ws.getD i 0)) (by repeat (first | exact Picks.nil _ | apply Picks.cons | exact Pull.here _ _ | apply Pull.there)) (by repeat (first | exact Lends.nil _ | apply Lends.cons | exact Lend.same _ _ | exact Lend.row _ _ _ _ _ _ (by decide) | apply Lend.there)) (by rintro _ _ _ ⟨_, h, _⟩; exact h)) (by decide) ?_
                    rintro _ _ _ ⟨_, ⟨rfl, _, rfl⟩, hΓ, hH⟩
                    simp only [List.cons_append, List.nil_append] at hH; subst hΓ hH
                    refine ⟨⟨Subs.sub (by repeat (first | exact Subs.nil _ | apply Subs.cons | exact List.Mem.head _ | refine List.Mem.tail _ ?_)), .inr (St.keep (by repeat (first | exact Subs.nil _ | apply Subs.cons | exact List.Mem.head _ | refine List.Mem.tail _ ?_)) (by repeat (first | exact Picks.nil _ | apply Picks.cons | exact Pull.here _ _ | apply Pull.there)))⟩, ?_⟩
                    refine JR.alt rfl ?_ ?_
                    · skip
                      refine JR.m rfl rfl (Mv.callB body_24 rfl (f24_spec ((BitVec.ofNat 64 n).toNat * (ws.getD i 0).toNat) (totN ws) (prod_lt _ _) htl) (by repeat (first | exact Picks.nil _ | apply Picks.cons | exact Pull.here _ _ | apply Pull.there)) (by repeat (first | exact Lends.nil _ | apply Lends.cons | exact Lend.same _ _ | exact Lend.row _ _ _ _ _ _ (by decide) | apply Lend.there)) (by rintro _ _ _ ⟨_, h, _⟩; exact h)) (by decide) ?_
                      rintro _ _ _ ⟨_, ⟨rfl, _, rfl⟩, hΓ, hH⟩
                      simp only [List.cons_append, List.nil_append] at hH; subst hΓ hH
                      rw [show (BitVec.ofNat 64 n).toNat = n from by rw [BitVec.toNat_ofNat]; omega]
                      refine ⟨⟨Subs.sub (by repeat (first | exact Subs.nil _ | apply Subs.cons | exact List.Mem.head _ | refine List.Mem.tail _ ?_)), .inr (St.keep (by repeat (first | exact Subs.nil _ | apply Subs.cons | exact List.Mem.head _ | refine List.Mem.tail _ ?_)) (by repeat (first | exact Picks.nil _ | apply Picks.cons | exact Pull.here _ _ | apply Pull.there)))⟩, ?_⟩
                      refine JR.u rfl rfl rfl (Yv.move rfl) (by decide) ?_
                      refine JR.u rfl rfl rfl (Yv.as (v' := .agg ((wd (qN ws n i)).map u64).toArray) (Yv.extract rfl rfl) rfl) (by decide) ?_
                      refine JR.u rfl rfl rfl (Yv.as (v' := .agg ((wd (rN ws n i)).map u64).toArray) (Yv.extract rfl rfl) rfl) (by decide) ?_
                      refine JR.u rfl rfl rfl (Yv.as (v' := it (if totN ws = 0 then 11 else 0)) (Yv.extract rfl rfl) rfl) (by decide) ?_
                      refine JR.m rfl rfl (Mv.alloc zero_32) (by decide) ?_
                      rintro _ _ _ ⟨b11, rfl, rfl, rfl⟩
                      refine ⟨⟨Subs.sub (by repeat (first | exact Subs.nil _ | apply Subs.cons | exact List.Mem.head _ | refine List.Mem.tail _ ?_)), .inr (St.keep (by repeat (first | exact Subs.nil _ | apply Subs.cons | exact List.Mem.head _ | refine List.Mem.tail _ ?_)) (by repeat (first | exact Picks.nil _ | apply Picks.cons | exact Pull.here _ _ | apply Pull.there)))⟩, ?_⟩
                      refine JR.m0 rfl rfl (Mv.storeAll sz_32 rfl rfl rfl (by first | rfl | (simp; done) | (simp; omega)) (by first | (simp; done) | exact one_sing rfl | exact one_map (fun _ => rfl) | exact one_piece (one_map (fun _ => rfl)) | exact one_tab (fun _ => rfl) | exact one_tab (fun _ => by split <;> rfl)) (by repeat (first | exact Upd.here _ _ _ | apply Upd.there)) (by first | rfl | (simp; done) | (simp; omega))) ?_
                      rintro _ _ _ ⟨rfl, rfl⟩
                      refine ⟨⟨Subs.sub (by repeat (first | exact Subs.nil _ | apply Subs.cons | exact List.Mem.head _ | refine List.Mem.tail _ ?_)), .inl rfl⟩, ?_⟩
                      refine JR.m0 rfl rfl (Mv.storeAll sz_32 rfl rfl rfl (by first | rfl | (simp; done) | (simp; omega)) (by first | (simp; done) | exact one_sing rfl | exact one_map (fun _ => rfl) | exact one_piece (one_map (fun _ => rfl)) | exact one_tab (fun _ => rfl) | exact one_tab (fun _ => by split <;> rfl)) (by repeat (first | exact Upd.here _ _ _ | apply Upd.there)) (by first | rfl | (simp; done) | (simp; omega))) ?_
                      rintro _ _ _ ⟨rfl, rfl⟩
                      refine ⟨⟨Subs.sub (by repeat (first | exact Subs.nil _ | apply Subs.cons | exact List.Mem.head _ | refine List.Mem.tail _ ?_)), .inl rfl⟩, ?_⟩
                      refine JR.u rfl rfl rfl (Yv.assign rfl) (by decide) ?_
                      refine JR.nil ?_
                      refine JQ.head (b11, b12) (by repeat (first | exact trivial | refine ⟨by first | rfl | (simp; done), ?_⟩)) (Subs.sub (by repeat (first | exact Subs.nil _ | apply Subs.cons | exact List.Mem.head _ | refine List.Mem.tail _ ?_))) (Picks.perm (by repeat (first | exact Picks.nil _ | apply Picks.cons | exact Pull.here _ _ | apply Pull.there))) ?_
                      trivial
                    refine JA.alt rfl ?_ ?_
                    · skip
                      refine JR.m rfl rfl (Mv.alloc zero_32) (by decide) ?_
                      rintro _ _ _ ⟨b11, rfl, rfl, rfl⟩
                      refine ⟨⟨Subs.sub (by repeat (first | exact Subs.nil _ | apply Subs.cons | exact List.Mem.head _ | refine List.Mem.tail _ ?_)), .inr (St.keep (by repeat (first | exact Subs.nil _ | apply Subs.cons | exact List.Mem.head _ | refine List.Mem.tail _ ?_)) (by repeat (first | exact Picks.nil _ | apply Picks.cons | exact Pull.here _ _ | apply Pull.there)))⟩, ?_⟩
                      refine JR.m rfl rfl (Mv.callB body_24 rfl (f24_spec ((BitVec.ofNat 64 n).toNat * (ws.getD i 0).toNat) (totN ws) (prod_lt _ _) htl) (by repeat (first | exact Picks.nil _ | apply Picks.cons | exact Pull.here _ _ | apply Pull.there)) (by repeat (first | exact Lends.nil _ | apply Lends.cons | exact Lend.same _ _ | exact Lend.row _ _ _ _ _ _ (by decide) | apply Lend.there)) (by rintro _ _ _ ⟨_, h, _⟩; exact h)) (by decide) ?_
                      rintro _ _ _ ⟨_, ⟨rfl, _, rfl⟩, hΓ, hH⟩
                      simp only [List.cons_append, List.nil_append] at hH; subst hΓ hH
                      rw [show (BitVec.ofNat 64 n).toNat = n from by rw [BitVec.toNat_ofNat]; omega]
                      refine ⟨⟨Subs.sub (by repeat (first | exact Subs.nil _ | apply Subs.cons | exact List.Mem.head _ | refine List.Mem.tail _ ?_)), .inr (St.keep (by repeat (first | exact Subs.nil _ | apply Subs.cons | exact List.Mem.head _ | refine List.Mem.tail _ ?_)) (by repeat (first | exact Picks.nil _ | apply Picks.cons | exact Pull.here _ _ | apply Pull.there)))⟩, ?_⟩
                      refine JR.u rfl rfl rfl (Yv.move rfl) (by decide) ?_
                      refine JR.u rfl rfl rfl (Yv.as (v' := .agg ((wd (qN ws n i)).map u64).toArray) (Yv.extract rfl rfl) rfl) (by decide) ?_
                      refine JR.u rfl rfl rfl (Yv.as (v' := .agg ((wd (rN ws n i)).map u64).toArray) (Yv.extract rfl rfl) rfl) (by decide) ?_
                      refine JR.u rfl rfl rfl (Yv.as (v' := it (if totN ws = 0 then 11 else 0)) (Yv.extract rfl rfl) rfl) (by decide) ?_
                      refine JR.m0 rfl rfl (Mv.storeAll sz_32 rfl rfl rfl (by first | rfl | (simp; done) | (simp; omega)) (by first | (simp; done) | exact one_sing rfl | exact one_map (fun _ => rfl) | exact one_piece (one_map (fun _ => rfl)) | exact one_tab (fun _ => rfl) | exact one_tab (fun _ => by split <;> rfl)) (by repeat (first | exact Upd.here _ _ _ | apply Upd.there)) (by first | rfl | (simp; done) | (simp; omega))) ?_
                      rintro _ _ _ ⟨rfl, rfl⟩
                      refine ⟨⟨Subs.sub (by repeat (first | exact Subs.nil _ | apply Subs.cons | exact List.Mem.head _ | refine List.Mem.tail _ ?_)), .inl rfl⟩, ?_⟩
                      refine JR.m0 rfl rfl (Mv.storeAll sz_32 rfl rfl rfl (by first | rfl | (simp; done) | (simp; omega)) (by first | (simp; done) | exact one_sing rfl | exact one_map (fun _ => rfl) | exact one_piece (one_map (fun _ => rfl)) | exact one_tab (fun _ => rfl) | exact one_tab (fun _ => by split <;> rfl)) (by repeat (first | exact Upd.here _ _ _ | apply Upd.there)) (by first | rfl | (simp; done) | (simp; omega))) ?_
                      rintro _ _ _ ⟨rfl, rfl⟩
                      refine ⟨⟨Subs.sub (by repeat (first | exact Subs.nil _ | apply Subs.cons | exact List.Mem.head _ | refine List.Mem.tail _ ?_)), .inl rfl⟩, ?_⟩
                      refine JR.u rfl rfl rfl (Yv.assign rfl) (by decide) ?_
                      refine JR.nil ?_
                      refine JQ.head (b11, b12) (by repeat (first | exact trivial | refine ⟨by first | rfl | (simp; done), ?_⟩)) (Subs.sub (by repeat (first | exact Subs.nil _ | apply Subs.cons | exact List.Mem.head _ | refine List.Mem.tail _ ?_))) (Picks.perm (by repeat (first | exact Picks.nil _ | apply Picks.cons | exact Pull.here _ _ | apply Pull.there))) ?_
                      trivial
                    exact JA.nil
                  refine JA.alt rfl ?_ ?_
                  · skip
                    refine JR.m rfl rfl (Mv.alloc zero_32) (by decide) ?_
                    rintro _ _ _ ⟨b11, rfl, rfl, rfl⟩
                    refine ⟨⟨Subs.sub (by repeat (first | exact Subs.nil _ | apply Subs.cons | exact List.Mem.head _ | refine List.Mem.tail _ ?_)), .inr (St.keep (by repeat (first | exact Subs.nil _ | apply Subs.cons | exact List.Mem.head _ | refine List.Mem.tail _ ?_)) (by repeat (first | exact Picks.nil _ | apply Picks.cons | exact Pull.here _ _ | apply Pull.there)))⟩, ?_⟩
                    refine JR.m rfl rfl (Mv.callB body_25 rfl (f25_spec (BitVec.ofNat 64 n) (ws.getD i 0)) (by repeat (first | exact Picks.nil _ | apply Picks.cons | exact Pull.here _ _ | apply Pull.there)) (by repeat (first | exact Lends.nil _ | apply Lends.cons | exact Lend.same _ _ | exact Lend.row _ _ _ _ _ _ (by decide) | apply Lend.there)) (by rintro _ _ _ ⟨_, h, _⟩; exact h)) (by decide) ?_
                    rintro _ _ _ ⟨_, ⟨rfl, _, rfl⟩, hΓ, hH⟩
                    simp only [List.cons_append, List.nil_append] at hH; subst hΓ hH
                    refine ⟨⟨Subs.sub (by repeat (first | exact Subs.nil _ | apply Subs.cons | exact List.Mem.head _ | refine List.Mem.tail _ ?_)), .inr (St.keep (by repeat (first | exact Subs.nil _ | apply Subs.cons | exact List.Mem.head _ | refine List.Mem.tail _ ?_)) (by repeat (first | exact Picks.nil _ | apply Picks.cons | exact Pull.here _ _ | apply Pull.there)))⟩, ?_⟩
                    refine JR.m rfl rfl (Mv.callB body_24 rfl (f24_spec ((BitVec.ofNat 64 n).toNat * (ws.getD i 0).toNat) (totN ws) (prod_lt _ _) htl) (by repeat (first | exact Picks.nil _ | apply Picks.cons | exact Pull.here _ _ | apply Pull.there)) (by repeat (first | exact Lends.nil _ | apply Lends.cons | exact Lend.same _ _ | exact Lend.row _ _ _ _ _ _ (by decide) | apply Lend.there)) (by rintro _ _ _ ⟨_, h, _⟩; exact h)) (by decide) ?_
                    rintro _ _ _ ⟨_, ⟨rfl, _, rfl⟩, hΓ, hH⟩
                    simp only [List.cons_append, List.nil_append] at hH; subst hΓ hH
                    rw [show (BitVec.ofNat 64 n).toNat = n from by rw [BitVec.toNat_ofNat]; omega]
                    refine ⟨⟨Subs.sub (by repeat (first | exact Subs.nil _ | apply Subs.cons | exact List.Mem.head _ | refine List.Mem.tail _ ?_)), .inr (St.keep (by repeat (first | exact Subs.nil _ | apply Subs.cons | exact List.Mem.head _ | refine List.Mem.tail _ ?_)) (by repeat (first | exact Picks.nil _ | apply Picks.cons | exact Pull.here _ _ | apply Pull.there)))⟩, ?_⟩
                    refine JR.u rfl rfl rfl (Yv.move rfl) (by decide) ?_
                    refine JR.u rfl rfl rfl (Yv.as (v' := .agg ((wd (qN ws n i)).map u64).toArray) (Yv.extract rfl rfl) rfl) (by decide) ?_
                    refine JR.u rfl rfl rfl (Yv.as (v' := .agg ((wd (rN ws n i)).map u64).toArray) (Yv.extract rfl rfl) rfl) (by decide) ?_
                    refine JR.u rfl rfl rfl (Yv.as (v' := it (if totN ws = 0 then 11 else 0)) (Yv.extract rfl rfl) rfl) (by decide) ?_
                    refine JR.m0 rfl rfl (Mv.storeAll sz_32 rfl rfl rfl (by first | rfl | (simp; done) | (simp; omega)) (by first | (simp; done) | exact one_sing rfl | exact one_map (fun _ => rfl) | exact one_piece (one_map (fun _ => rfl)) | exact one_tab (fun _ => rfl) | exact one_tab (fun _ => by split <;> rfl)) (by repeat (first | exact Upd.here _ _ _ | apply Upd.there)) (by first | rfl | (simp; done) | (simp; omega))) ?_
                    rintro _ _ _ ⟨rfl, rfl⟩
                    refine ⟨⟨Subs.sub (by repeat (first | exact Subs.nil _ | apply Subs.cons | exact List.Mem.head _ | refine List.Mem.tail _ ?_)), .inl rfl⟩, ?_⟩
                    refine JR.m0 rfl rfl (Mv.storeAll sz_32 rfl rfl rfl (by first | rfl | (simp; done) | (simp; omega)) (by first | (simp; done) | exact one_sing rfl | exact one_map (fun _ => rfl) | exact one_piece (one_map (fun _ => rfl)) | exact one_tab (fun _ => rfl) | exact one_tab (fun _ => by split <;> rfl)) (by repeat (first | exact Upd.here _ _ _ | apply Upd.there)) (by first | rfl | (simp; done) | (simp; omega))) ?_
                    rintro _ _ _ ⟨rfl, rfl⟩
                    refine ⟨⟨Subs.sub (by repeat (first | exact Subs.nil _ | apply Subs.cons | exact List.Mem.head _ | refine List.Mem.tail _ ?_)), .inl rfl⟩, ?_⟩
                    refine JR.u rfl rfl rfl (Yv.assign rfl) (by decide) ?_
                    refine JR.nil ?_
                    refine JQ.head (b11, b12) (by repeat (first | exact trivial | refine ⟨by first | rfl | (simp; done), ?_⟩)) (Subs.sub (by repeat (first | exact Subs.nil _ | apply Subs.cons | exact List.Mem.head _ | refine List.Mem.tail _ ?_))) (Picks.perm (by repeat (first | exact Picks.nil _ | apply Picks.cons | exact Pull.here _ _ | apply Pull.there))) ?_
                    trivial
                  exact JA.nil
                exact JA.nil
              · skip
                obtain ⟨b11, b12⟩ := x
                dsimp only
                refine JC.seq ?_
                refine JC.region ?_
                refine JO.v (Yv.move rfl) (by decide) ?_
                first | refine JO.v (Yv.indexArr1 (j := 0) Try.underlying32 sz_24 rfl rfl (by first | exact ltb rfl | (simp; done) | (simp; omega) | omega | (simp [*]; omega))) (by decide) ?_ | refine JO.v (Yv.indexArr1o (j := 0) Try.underlying32 sz_24 rfl rfl (by first | exact ltb rfl | (simp; done) | (simp; omega) | omega | (simp [*]; omega))) (by decide) ?_
                refine JO.v (Yv.load1 one_24 rfl (by first | exact Kn.own (by repeat (first | exact List.Mem.head _ | refine List.Mem.tail _ ?_)) (by first | exact wd_get _ (by decide) | rfl | exact tab_get (by first | omega | (simp; omega)) | exact gm (d := 0) (by first | omega | (simp; omega))) | exact Kn.ro (by repeat (first | exact List.Mem.head _ | refine List.Mem.tail _ ?_)) (by first | exact wd_get _ (by decide) | rfl | exact tab_get (by first | omega | (simp; omega)) | exact gm (d := 0) (by first | omega | (simp; omega))) | exact Kn.row (by repeat (first | exact List.Mem.head _ | refine List.Mem.tail _ ?_)) (by first | exact wd_get _ (by decide) | rfl | exact tab_get (by first | omega | (simp; omega)) | exact gm (d := 0) (by first | omega | (simp; omega))) | exact Kn.rd (by repeat (first | exact Lend.same _ _ | exact Lend.row _ _ _ _ _ _ (by decide) | apply Lend.there)) (by first | exact wd_get _ (by decide) | rfl | exact tab_get (by first | omega | (simp; omega)) | exact gm (d := 0) (by first | omega | (simp; omega))) | exact Kn.rd2 (by repeat (first | exact Lend.same _ _ | exact Lend.row _ _ _ _ _ _ (by decide) | apply Lend.there)) (by first | exact wd_get _ (by decide) | rfl | exact tab_get (by first | omega | (simp; omega)) | exact gm (d := 0) (by first | omega | (simp; omega))))) (by decide) ?_
                refine JO.v (Yv.as (v' := it ((qN ws n i : Nat) : Int)) (Yv.conv_u64_i Try.underlying24 Try.underlying3 rfl (by rw [wat_0, BitVec.toNat_ofNat]; omega)) (congrArg (fun k : Nat => it (k : Int)) (by rw [wat_0, BitVec.toNat_ofNat]; omega))) (by decide) ?_
                refine JO.lit1 Try.underlying25 info_3 rfl rfl (by simp) (by decide) (by decide) (by decide) fun v62 => ?_
                refine JO.append Try.underlying25 info_3 rfl (by decide) rfl rfl (by repeat (first | exact Pull.here _ _ | apply Pull.there)) (by first | exact Src.nil | exact Src.rd (by repeat (first | exact Lend.same _ _ | exact Lend.row _ _ _ _ _ _ (by decide) | apply Lend.there)) (by decide) | exact Src.cells (by repeat (first | exact List.Mem.head _ | refine List.Mem.tail _ ?_)) (by simp)) (by first | (simp; done) | exact one_sing rfl | exact one_map (fun _ => rfl) | exact one_piece (one_map (fun _ => rfl)) | exact one_tab (fun _ => rfl) | exact one_tab (fun _ => by split <;> rfl)) (by unfold maxLen; simp; omega) (by omega) (by decide) fun v63 => ?_
                rw [show List.map it (qL ws n i) ++ [it ((qN ws n i : Nat) : Int)] = List.map it (qL ws n (i + 1)) from by rw [qL_succ, List.map_append]; rfl]
                refine JO.v (Yv.assign rfl) (by decide) ?_
                refine JO.nil ?_
                refine JQ.then_normal ?_
                refine JC.seq ?_
                refine JC.region ?_
                refine JO.v (Yv.move rfl) (by decide) ?_
                first | refine JO.v (Yv.loadOwn agg_32 (by repeat (first | exact List.Mem.head _ | refine List.Mem.tail _ ?_)) rfl (by first | rfl | (simp; done) | (simp; omega) | (simp [*]; done))) (by decide) ?_ | refine JO.v (Yv.loadOwnAt agg_32 (by repeat (first | exact List.Mem.head _ | refine List.Mem.tail _ ?_)) rfl (by first | rfl | (simp; done) | (simp; omega) | (simp [*]; done))) (by decide) ?_ | refine JO.v (Yv.loadRow agg_32 (by repeat (first | exact List.Mem.head _ | refine List.Mem.tail _ ?_)) rfl (by first | rfl | (simp; done) | (simp; omega) | (simp [*]; done))) (by decide) ?_ | refine JO.v (Yv.loadRd agg_32 (by repeat (first | exact Lend.same _ _ | exact Lend.row _ _ _ _ _ _ (by decide) | apply Lend.there)) rfl (by first | rfl | (simp; done) | (simp; omega) | (simp [*]; done))) (by decide) ?_ | refine JO.v (Yv.loadRo agg_32 (by repeat (first | exact List.Mem.head _ | refine List.Mem.tail _ ?_)) rfl (by first | rfl | (simp; done) | (simp; omega) | (simp [*]; done))) (by decide) ?_
                refine JO.lit Try.underlying52 info_32 rfl rfl (by intro v hv; simp at hv; subst hv; rfl) (by decide) (by decide) (by unfold maxLen; omega) (by decide) fun v66 => ?_
                refine JO.append Try.underlying52 info_32 rfl (by decide) rfl rfl (by repeat (first | exact Pull.here _ _ | apply Pull.there)) (by first | exact Src.nil | exact Src.rd (by repeat (first | exact Lend.same _ _ | exact Lend.row _ _ _ _ _ _ (by decide) | apply Lend.there)) (by decide) | exact Src.cells (by repeat (first | exact List.Mem.head _ | refine List.Mem.tail _ ?_)) (by simp)) (by intro a ha; have ha : a ∈ (wd (rN ws n i)).map u64 := ha; obtain ⟨y, _, rfl⟩ := List.mem_map.1 ha; rfl) (by unfold maxLen; simp; omega) (by first | omega | (simp; omega)) (by decide) fun v67 => ?_
                rw [show rC ws n i ++ List.flatMap (fun v : Value => v.cells.toList) [.agg ((wd (rN ws n i)).map u64).toArray] = rC ws n (i + 1) from by rw [rC_succ]; rfl]
                refine JO.v (Yv.assign rfl) (by decide) ?_
                refine JO.nil ?_
                refine JQ.then_normal ?_
                refine JC.region ?_
                refine JO.v (Yv.move rfl) (by decide) ?_
                first | refine JO.v (Yv.indexArr1 (j := 0) Try.underlying32 sz_24 rfl rfl (by first | exact ltb rfl | (simp; done) | (simp; omega) | omega | (simp [*]; omega))) (by decide) ?_ | refine JO.v (Yv.indexArr1o (j := 0) Try.underlying32 sz_24 rfl rfl (by first | exact ltb rfl | (simp; done) | (simp; omega) | omega | (simp [*]; omega))) (by decide) ?_
                refine JO.v (Yv.load1 one_24 rfl (by first | exact Kn.own (by repeat (first | exact List.Mem.head _ | refine List.Mem.tail _ ?_)) (by first | exact wd_get _ (by decide) | rfl | exact tab_get (by first | omega | (simp; omega)) | exact gm (d := 0) (by first | omega | (simp; omega))) | exact Kn.ro (by repeat (first | exact List.Mem.head _ | refine List.Mem.tail _ ?_)) (by first | exact wd_get _ (by decide) | rfl | exact tab_get (by first | omega | (simp; omega)) | exact gm (d := 0) (by first | omega | (simp; omega))) | exact Kn.row (by repeat (first | exact List.Mem.head _ | refine List.Mem.tail _ ?_)) (by first | exact wd_get _ (by decide) | rfl | exact tab_get (by first | omega | (simp; omega)) | exact gm (d := 0) (by first | omega | (simp; omega))) | exact Kn.rd (by repeat (first | exact Lend.same _ _ | exact Lend.row _ _ _ _ _ _ (by decide) | apply Lend.there)) (by first | exact wd_get _ (by decide) | rfl | exact tab_get (by first | omega | (simp; omega)) | exact gm (d := 0) (by first | omega | (simp; omega))) | exact Kn.rd2 (by repeat (first | exact Lend.same _ _ | exact Lend.row _ _ _ _ _ _ (by decide) | apply Lend.there)) (by first | exact wd_get _ (by decide) | rfl | exact tab_get (by first | omega | (simp; omega)) | exact gm (d := 0) (by first | omega | (simp; omega))))) (by decide) ?_
                refine JO.v (Yv.as (v' := it ((qN ws n i : Nat) : Int)) (Yv.conv_u64_i Try.underlying24 Try.underlying3 rfl (by rw [wat_0, BitVec.toNat_ofNat]; omega)) (congrArg (fun k : Nat => it (k : Int)) (by rw [wat_0, BitVec.toNat_ofNat]; omega))) (by decide) ?_
                refine JO.v (Yv.as (v' := it ((n : Int) - (sumQ ws n (i + 1) : Int))) (Yv.bin rfl rfl (BinR.sub_i (by first | (constructor <;> omega) | (constructor <;> simp <;> omega)))) (congrArg it (by rw [sumQ_succ]; omega))) (by decide) ?_
                refine JO.v (Yv.assign rfl) (by decide) ?_
                refine JO.nil ?_
                refine JQ.block_normal ?_
                refine JQ.then_normal ?_
                refine JC.region ?_
                refine JO.v (Yv.move rfl) (by decide) ?_
                refine JO.v (Yv.as (v' := it ((i + 1 : Nat) : Int)) (Yv.bin rfl rfl (BinR.add_i (by first | (constructor <;> omega) | (constructor <;> simp <;> omega)))) (congrArg it (by omega))) (by decide) ?_
                refine JO.v (Yv.assign rfl) (by decide) ?_
                refine JO.nil ?_
                refine JQ.head (i + 1, v63, v67) (by repeat (first | exact trivial | refine ⟨by first | rfl | (simp; done), ?_⟩)) (Subs.sub (by repeat (first | exact Subs.nil _ | apply Subs.cons | exact List.Mem.head _ | refine List.Mem.tail _ ?_))) (Picks.perm (by repeat (first | exact Picks.nil _ | apply Picks.cons | exact Pull.here _ _ | apply Pull.there))) ?_
                exact ⟨by dsimp only; omega, by dsimp only; omega⟩
            · try simp only [decide_eq_true_eq, decide_eq_false_iff_not, Bool.not_eq_true', Bool.not_eq_false', ne_eq, Decidable.not_not, Bool.not_eq_true, Bool.and_eq_true, Bool.or_eq_true, BitVec.reduceToNat] at hc3
              obtain rfl : i = ws.length := by omega
              rw [qL_all]
              refine JC.exit ?_
              refine JQ.then_exit ?_
              refine JQ.then_exit ?_
              refine JQ.block_exit ?_
              refine JQ.then_normal ?_
              refine JC.seq ?_
              refine JC.region ?_
              refine JO.v (Yv.move rfl) (by decide) ?_
              first | refine JO.v (Yv.len_s Try.underlying22 rfl) (by decide) ?_ | refine JO.v (Yv.lenRd Try.underlying22 rfl (by repeat (first | exact Lend.same _ _ | exact Lend.row _ _ _ _ _ _ (by decide) | apply Lend.there))) (by decide) ?_
              refine JO.make (z := _) (bytes := _) ws.length Try.underlying53 info_4 rfl rfl rfl (by first | decide | (simp; done) | (simp; omega) | omega | (simp [*]; omega)) (by unfold maxLen; omega) (by decide) fun v75 => ?_
              refine JO.v (Yv.assign rfl) (by decide) ?_
              refine JO.nil ?_
              refine JQ.then_normal ?_
              refine JC.seq ?_
              refine JC.seq ?_
              refine JC.region ?_
              refine JO.v (Yv.assign rfl) (by decide) ?_
              refine JO.nil ?_
              refine JQ.then_normal ?_
              refine JC.block ?_
              refine JC.loop (ι := Nat) (fun x => x ≤ leftN ws n) (fun x => [(0, u), (7, v7), (8, v8), (9, it ((n : Int) - (sumQ ws n ws.length : Int))), (14, v75), (15, it (x : Int))]) (fun x => [Res.rd u ws.length 1 (ws.map u64)]) (fun x => [Res.row v7 ws.length 3 1 (((bump (outT ws n ws.length) ((sortT ws n).take x))).map it), Res.row v8 ws.length 32 4 (rC ws n ws.length), Res.row v75 ws.length 4 1 (bsL ws n x)]) (fun x => leftN ws n - x) 0 (by repeat (first | exact trivial | refine ⟨by first | rfl | (simp; done), ?_⟩)) (Subs.sub (by repeat (first | exact Subs.nil _ | apply Subs.cons | exact List.Mem.head _ | refine List.Mem.tail _ ?_))) (Picks.perm (by rw [bsL_0]; repeat (first | exact Picks.nil _ | apply Picks.cons | exact Pull.here _ _ | apply Pull.there))) ?_ (fun x hx => ?_)
              · exact Nat.zero_le _
              revert hx
              generalize x = k
              intro hk
              refine JC.seq ?_
              refine JC.seq ?_
              refine JC.region ?_
              refine JO.v (Yv.move rfl) (by decide) ?_
              refine JO.v (Yv.as (v' := it (leftN ws n : Int)) (Yv.move rfl) (congrArg it (left_eq hl hT))) (by decide) ?_
              refine JO.v (Yv.bin rfl rfl BinR.lss_i) (by decide) ?_
              refine JO.nil ?_
              refine JQ.then_normal ?_
              refine JC.cond rfl (fun hc4 => ?_) (fun hc4 => ?_)
              · try simp only [decide_eq_true_eq, decide_eq_false_iff_not, Bool.not_eq_true', Bool.not_eq_false', ne_eq, Decidable.not_not, Bool.not_eq_true, Bool.and_eq_true, Bool.or_eq_true, BitVec.reduceToNat] at hc4
                have hks : k < (sortT ws n).length := by rw [sort_len]; have := left_le (ws := ws) (n := n) hl hT; omega
                have hks2 : k < 40 := by rw [sort_len] at hks; omega
                refine JC.skip ?_
                refine JQ.then_normal ?_
                refine JC.seq ?_
                refine JC.block ?_
                refine JC.seq ?_
                refine JC.region ?_
                refine JO.v (Yv.as (v' := it (bestF ws n k 0)) (Yv.assign rfl) rfl) (by decide) ?_
                refine JO.nil ?_
                refine JQ.then_normal ?_
                refine JC.seq ?_
                refine JC.seq ?_
                refine JC.region ?_
                refine JO.v (Yv.assign rfl) (by decide) ?_
                refine JO.nil ?_
                refine JQ.then_normal ?_
                refine JC.block ?_
                refine JC.loop (ι := Nat) (fun x => x ≤ ws.length) (fun x => [(0, u), (7, v7), (8, v8), (9, it ((n : Int) - (sumQ ws n ws.length : Int))), (14, v75), (15, it (k : Int)), (16, it (bestF ws n k x)), (17, it (x : Int))]) (fun x => [Res.rd u ws.length 1 (ws.map u64)]) (fun x => [Res.row v7 ws.length 3 1 (((bump (outT ws n ws.length) ((sortT ws n).take k))).map it), Res.row v8 ws.length 32 4 (rC ws n ws.length), Res.row v75 ws.length 4 1 (bsL ws n k)]) (fun x => ws.length - x) 0 (by repeat (first | exact trivial | refine ⟨by first | rfl | (simp; done), ?_⟩)) (Subs.sub (by repeat (first | exact Subs.nil _ | apply Subs.cons | exact List.Mem.head _ | refine List.Mem.tail _ ?_))) (Picks.perm (by repeat (first | exact Picks.nil _ | apply Picks.cons | exact Pull.here _ _ | apply Pull.there))) ?_ (fun x hx => ?_)
                · exact Nat.zero_le _
                revert hx
                generalize x = j
                intro hj
                refine JC.seq ?_
                refine JC.seq ?_
                refine JC.region ?_
                refine JO.v (Yv.move rfl) (by decide) ?_
                refine JO.v (Yv.move rfl) (by decide) ?_
                first | refine JO.v (Yv.len_s Try.underlying22 rfl) (by decide) ?_ | refine JO.v (Yv.lenRd Try.underlying22 rfl (by repeat (first | exact Lend.same _ _ | exact Lend.row _ _ _ _ _ _ (by decide) | apply Lend.there))) (by decide) ?_
                refine JO.v (Yv.bin rfl rfl BinR.lss_i) (by decide) ?_
                refine JO.nil ?_
                refine JQ.then_normal ?_
                refine JC.cond rfl (fun hc5 => ?_) (fun hc5 => ?_)
                · try simp only [decide_eq_true_eq, decide_eq_false_iff_not, Bool.not_eq_true', Bool.not_eq_false', ne_eq, Decidable.not_not, Bool.not_eq_true, Bool.and_eq_true, Bool.or_eq_true, BitVec.reduceToNat] at hc5
                  skip
                  refine JC.skip ?_
                  refine JQ.then_normal ?_
                  refine JC.seq ?_
                  refine JC.block ?_
                  refine JC.seq ?_
                  refine JC.draw (.one 0 (.one 1 (.one 2 (.one 3 (.one 4 (.one 5 (.one 6 (.one 7 (.one 8 (.one 9 (.one 10 (.one 11 (.one 12 (.one 13 (.one 14 (.one 15 (.one 16 (.one 17 (.one 18 (.one 19 (.one 20 .nil))))))))))))))))))))) (fun i => ([] : List Nat).contains i) (fun i => ([17] : List Nat).contains i) (fun i => ([0, 1, 4, 5, 6, 7, 8, 9, 10, 13, 14, 18, 19, 20] : List Nat).contains i) mixed (by kernel_rfl) (by decide) (by kernel_rfl) ?_
                  refine JR.u rfl rfl rfl (Yv.move rfl) (by decide) ?_
                  refine JR.u rfl rfl rfl (Yv.move rfl) (by decide) ?_
                  first | refine JR.v rfl rfl rfl (Yv.indexRow1 Try.underlying53 sz_4 rfl rfl (by repeat (first | exact List.Mem.head _ | refine List.Mem.tail _ ?_)) (by first | exact ltb rfl | (simp; done) | (simp; omega) | omega | (simp [*]; omega))) (by decide) ?_ | refine JR.v rfl rfl rfl (Yv.indexRd1 Try.underlying53 sz_4 rfl rfl (by repeat (first | exact Lend.same _ _ | exact Lend.row _ _ _ _ _ _ (by decide) | apply Lend.there)) (by first | exact ltb rfl | (simp; done) | (simp; omega) | omega | (simp [*]; omega))) (by decide) ?_
                  refine JR.v rfl rfl rfl (Yv.load1 one_4 rfl (Kn.row (by repeat (first | exact List.Mem.head _ | refine List.Mem.tail _ ?_)) (bsL_get ws n k (by omega)))) (by decide) ?_
                  refine JR.u rfl rfl rfl (Yv.not rfl) (by decide) ?_
                  refine JR.u rfl rfl rfl (Yv.move rfl) (by decide) ?_
                  refine JR.gsplit (g := 91) rfl (fun hg97 => ?_) (fun hg97 => ?_)
                  · have hg97' := hg97
                    try simp only [decide_eq_true_eq, decide_eq_false_iff_not, Bool.not_eq_true', Bool.not_eq_false', ne_eq, Decidable.not_not, Bool.not_eq_true, Bool.and_eq_true, Bool.or_eq_true, BitVec.reduceToNat] at hg97'
                    refine JR.ugt (g := 92) rfl rfl rfl rfl rfl hg97 (Yv.move rfl) (by decide) ?_
                    refine JR.ugt (g := 92) rfl rfl rfl rfl rfl hg97 (Yv.bin rfl rfl BinR.lss_i) (by decide) ?_
                    refine JR.ugt (g := 92) rfl rfl rfl rfl rfl hg97 (Yv.move rfl) (by decide) ?_
                    refine JR.gsplit (g := 94) rfl (fun hg100 => ?_) (fun hg100 => ?_)
                    · have hg100' := hg100
                      try simp only [decide_eq_true_eq, decide_eq_false_iff_not, Bool.not_eq_true', Bool.not_eq_false', ne_eq, Decidable.not_not, Bool.not_eq_true, Bool.and_eq_true, Bool.or_eq_true, BitVec.reduceToNat] at hg100'
                      refine JR.gf (g := 95) rfl rfl rfl rfl hg100 (by decide) ?_
                      refine JR.gf (g := 95) rfl rfl rfl rfl hg100 (by decide) ?_
                      refine JR.gf (g := 95) rfl rfl rfl rfl hg100 (by decide) ?_
                      refine JR.gf (g := 95) rfl rfl rfl rfl hg100 (by decide) ?_
                      refine JR.gf (g := 95) rfl rfl rfl rfl hg100 (by decide) ?_
                      refine JR.gf (g := 95) rfl rfl rfl rfl hg100 (by decide) ?_
                      refine JR.gf (g := 95) rfl rfl rfl rfl hg100 (by decide) ?_
                      refine JR.gf (g := 95) rfl rfl rfl rfl hg100 (by decide) ?_
                      refine JR.gfm (g := 95) rfl rfl rfl rfl hg100 (by decide) ?_ ?_
                      · exact ⟨Subs.sub (by repeat (first | exact Subs.nil _ | apply Subs.cons | exact List.Mem.head _ | refine List.Mem.tail _ ?_)), .inr (St.keep (by repeat (first | exact Subs.nil _ | apply Subs.cons | exact List.Mem.head _ | refine List.Mem.tail _ ?_)) (by repeat (first | exact Picks.nil _ | apply Picks.cons | exact Pull.here _ _ | apply Pull.there)))⟩
                      refine JR.gf (g := 95) rfl rfl rfl rfl hg100 (by decide) ?_
                      refine JR.ugt (g := 92) rfl rfl rfl rfl rfl hg97 (Yv.pick1 rfl hg100 rfl) (by decide) ?_
                      refine JR.u rfl rfl rfl (Yv.pick1 rfl hg97 rfl) (by decide) ?_
                      refine JR.nil ?_
                      refine JQ.then_normal ?_
                      refine JC.cond rfl (fun hc6 => ?_) (fun hc6 => ?_)
                      · try simp only [decide_eq_true_eq, decide_eq_false_iff_not, Bool.not_eq_true', Bool.not_eq_false', ne_eq, Decidable.not_not, Bool.not_eq_true, Bool.and_eq_true, Bool.or_eq_true, BitVec.reduceToNat] at hc6
                        have hbs : bestF ws n k (j + 1) = (j : Int) := by first | exact absurd hc6 (by decide) | exact best_first hg97' hg100' | exact best_new hg97' hb1 hc6
                        refine JC.region ?_
                        refine JO.v (Yv.move rfl) (by decide) ?_
                        refine JO.v (Yv.assign rfl) (by decide) ?_
                        refine JO.nil ?_
                        refine JQ.block_normal ?_
                        refine JQ.then_normal ?_
                        refine JC.region ?_
                        refine JO.v (Yv.move rfl) (by decide) ?_
                        refine JO.v (Yv.as (v' := it ((j + 1 : Nat) : Int)) (Yv.bin rfl rfl (BinR.add_i (by first | (constructor <;> omega) | (constructor <;> simp <;> omega)))) (congrArg it (by omega))) (by decide) ?_
                        refine JO.v (Yv.assign rfl) (by decide) ?_
                        refine JO.nil ?_
                        refine JQ.head (j + 1) (by rw [hbs]; repeat (first | exact trivial | refine ⟨by first | rfl | (simp; done), ?_⟩)) (Subs.sub (by repeat (first | exact Subs.nil _ | apply Subs.cons | exact List.Mem.head _ | refine List.Mem.tail _ ?_))) (Picks.perm (by repeat (first | exact Picks.nil _ | apply Picks.cons | exact Pull.here _ _ | apply Pull.there))) ?_
                        exact ⟨by omega, by omega⟩
                      · try simp only [decide_eq_true_eq, decide_eq_false_iff_not, Bool.not_eq_true', Bool.not_eq_false', ne_eq, Decidable.not_not, Bool.not_eq_true, Bool.and_eq_true, Bool.or_eq_true, BitVec.reduceToNat] at hc6
                        have hbs : bestF ws n k (j + 1) = bestF ws n k j := by first | exact best_skip hg97' | exact absurd hc6 (by decide) | exact best_old hg97' hb1 hc6
                        refine JC.skip ?_
                        refine JQ.block_normal ?_
                        refine JQ.then_normal ?_
                        refine JC.region ?_
                        refine JO.v (Yv.move rfl) (by decide) ?_
                        refine JO.v (Yv.as (v' := it ((j + 1 : Nat) : Int)) (Yv.bin rfl rfl (BinR.add_i (by first | (constructor <;> omega) | (constructor <;> simp <;> omega)))) (congrArg it (by omega))) (by decide) ?_
                        refine JO.v (Yv.assign rfl) (by decide) ?_
                        refine JO.nil ?_
                        refine JQ.head (j + 1) (by rw [hbs]; repeat (first | exact trivial | refine ⟨by first | rfl | (simp; done), ?_⟩)) (Subs.sub (by repeat (first | exact Subs.nil _ | apply Subs.cons | exact List.Mem.head _ | refine List.Mem.tail _ ?_))) (Picks.perm (by repeat (first | exact Picks.nil _ | apply Picks.cons | exact Pull.here _ _ | apply Pull.there))) ?_
                        exact ⟨by omega, by omega⟩
                    · have hg100' := hg100
                      try simp only [decide_eq_true_eq, decide_eq_false_iff_not, Bool.not_eq_true', Bool.not_eq_false', ne_eq, Decidable.not_not, Bool.not_eq_true, Bool.and_eq_true, Bool.or_eq_true, BitVec.reduceToNat] at hg100'
                      obtain ⟨b, hb1, hb2⟩ := (best_at ws n k j).resolve_left (by omega)
                      refine JR.ugt (g := 95) rfl rfl rfl rfl rfl hg100 (Yv.move rfl) (by decide) ?_
                      refine JR.ugt (g := 95) rfl rfl rfl rfl rfl hg100 (Yv.move rfl) (by decide) ?_
                      first | refine JR.vgt (g := 95) rfl rfl rfl rfl rfl hg100 (Yv.indexRow Try.underlying52 sz_32 rfl rfl (by repeat (first | exact List.Mem.head _ | refine List.Mem.tail _ ?_)) (by first | exact ltb rfl | (simp; done) | (simp; omega) | omega | (simp [*]; omega))) (by decide) ?_ | refine JR.vgt (g := 95) rfl rfl rfl rfl rfl hg100 (Yv.indexRd Try.underlying52 sz_32 rfl rfl (by repeat (first | exact Lend.same _ _ | exact Lend.row _ _ _ _ _ _ (by decide) | apply Lend.there)) (by decide) (by first | exact ltb rfl | (simp; done) | (simp; omega) | omega | (simp [*]; omega))) (by decide) ?_
                      first | refine JR.vgt (g := 95) rfl rfl rfl rfl rfl hg100 (Yv.as (v' := .agg ((wd (rN ws n j)).map u64).toArray) (Yv.loadOwn agg_32 (by repeat (first | exact List.Mem.head _ | refine List.Mem.tail _ ?_)) rfl (by first | rfl | (simp; done) | (simp; omega) | (simp [*]; done))) (congrArg (fun l : List Value => Value.agg l.toArray) (rC_piece ws n (by omega)))) (by decide) ?_ | refine JR.vgt (g := 95) rfl rfl rfl rfl rfl hg100 (Yv.as (v' := .agg ((wd (rN ws n j)).map u64).toArray) (Yv.loadOwnAt agg_32 (by repeat (first | exact List.Mem.head _ | refine List.Mem.tail _ ?_)) rfl (by first | rfl | (simp; done) | (simp; omega) | (simp [*]; done))) (congrArg (fun l : List Value => Value.agg l.toArray) (rC_piece ws n (by omega)))) (by decide) ?_ | refine JR.vgt (g := 95) rfl rfl rfl rfl rfl hg100 (Yv.as (v' := .agg ((wd (rN ws n j)).map u64).toArray) (Yv.loadRow agg_32 (by repeat (first | exact List.Mem.head _ | refine List.Mem.tail _ ?_)) rfl (by first | rfl | (simp; done) | (simp; omega) | (simp [*]; done))) (congrArg (fun l : List Value => Value.agg l.toArray) (rC_piece ws n (by omega)))) (by decide) ?_ | refine JR.vgt (g := 95) rfl rfl rfl rfl rfl hg100 (Yv.as (v' := .agg ((wd (rN ws n j)).map u64).toArray) (Yv.loadRd agg_32 (by repeat (first | exact Lend.same _ _ | exact Lend.row _ _ _ _ _ _ (by decide) | apply Lend.there)) rfl (by first | rfl | (simp; done) | (simp; omega) | (simp [*]; done))) (congrArg (fun l : List Value => Value.agg l.toArray) (rC_piece ws n (by omega)))) (by decide) ?_ | refine JR.vgt (g := 95) rfl rfl rfl rfl rfl hg100 (Yv.as (v' := .agg ((wd (rN ws n j)).map u64).toArray) (Yv.loadRo agg_32 (by repeat (first | exact List.Mem.head _ | refine List.Mem.tail _ ?_)) rfl (by first | rfl | (simp; done) | (simp; omega) | (simp [*]; done))) (congrArg (fun l : List Value => Value.agg l.toArray) (rC_piece ws n (by omega)))) (by decide) ?_
                      refine JR.ugt (g := 95) rfl rfl rfl rfl rfl hg100 (Yv.move rfl) (by decide) ?_
                      refine JR.ugt (g := 95) rfl rfl rfl rfl rfl hg100 (Yv.as (v' := it (b : Int)) (Yv.move rfl) (congrArg it hb1)) (by decide) ?_
                      first | refine JR.vgt (g := 95) rfl rfl rfl rfl rfl hg100 (Yv.indexRow Try.underlying52 sz_32 rfl rfl (by repeat (first | exact List.Mem.head _ | refine List.Mem.tail _ ?_)) (by first | exact ltb rfl | (simp; done) | (simp; omega) | omega | (simp [*]; omega))) (by decide) ?_ | refine JR.vgt (g := 95) rfl rfl rfl rfl rfl hg100 (Yv.indexRd Try.underlying52 sz_32 rfl rfl (by repeat (first | exact Lend.same _ _ | exact Lend.row _ _ _ _ _ _ (by decide) | apply Lend.there)) (by decide) (by first | exact ltb rfl | (simp; done) | (simp; omega) | omega | (simp [*]; omega))) (by decide) ?_
                      first | refine JR.vgt (g := 95) rfl rfl rfl rfl rfl hg100 (Yv.as (v' := .agg ((wd (rN ws n b)).map u64).toArray) (Yv.loadOwn agg_32 (by repeat (first | exact List.Mem.head _ | refine List.Mem.tail _ ?_)) rfl (by first | rfl | (simp; done) | (simp; omega) | (simp [*]; done))) (congrArg (fun l : List Value => Value.agg l.toArray) (rC_piece ws n (by omega)))) (by decide) ?_ | refine JR.vgt (g := 95) rfl rfl rfl rfl rfl hg100 (Yv.as (v' := .agg ((wd (rN ws n b)).map u64).toArray) (Yv.loadOwnAt agg_32 (by repeat (first | exact List.Mem.head _ | refine List.Mem.tail _ ?_)) rfl (by first | rfl | (simp; done) | (simp; omega) | (simp [*]; done))) (congrArg (fun l : List Value => Value.agg l.toArray) (rC_piece ws n (by omega)))) (by decide) ?_ | refine JR.vgt (g := 95) rfl rfl rfl rfl rfl hg100 (Yv.as (v' := .agg ((wd (rN ws n b)).map u64).toArray) (Yv.loadRow agg_32 (by repeat (first | exact List.Mem.head _ | refine List.Mem.tail _ ?_)) rfl (by first | rfl | (simp; done) | (simp; omega) | (simp [*]; done))) (congrArg (fun l : List Value => Value.agg l.toArray) (rC_piece ws n (by omega)))) (by decide) ?_ | refine JR.vgt (g := 95) rfl rfl rfl rfl rfl hg100 (Yv.as (v' := .agg ((wd (rN ws n b)).map u64).toArray) (Yv.loadRd agg_32 (by repeat (first | exact Lend.same _ _ | exact Lend.row _ _ _ _ _ _ (by decide) | apply Lend.there)) rfl (by first | rfl | (simp; done) | (simp; omega) | (simp [*]; done))) (congrArg (fun l : List Value => Value.agg l.toArray) (rC_piece ws n (by omega)))) (by decide) ?_ | refine JR.vgt (g := 95) rfl rfl rfl rfl rfl hg100 (Yv.as (v' := .agg ((wd (rN ws n b)).map u64).toArray) (Yv.loadRo agg_32 (by repeat (first | exact List.Mem.head _ | refine List.Mem.tail _ ?_)) rfl (by first | rfl | (simp; done) | (simp; omega) | (simp [*]; done))) (congrArg (fun l : List Value => Value.agg l.toArray) (rC_piece ws n (by omega)))) (by decide) ?_
                      refine JR.mgt (g := 95) rfl rfl rfl rfl hg100 (Mv.callB body_26 rfl (f26_spec (rN ws n j) (rN ws n b) (rN_lt _ _ _) (rN_lt _ _ _)) (by repeat (first | exact Picks.nil _ | apply Picks.cons | exact Pull.here _ _ | apply Pull.there)) (by repeat (first | exact Lends.nil _ | apply Lends.cons | exact Lend.same _ _ | exact Lend.row _ _ _ _ _ _ (by decide) | apply Lend.there)) (by rintro _ _ _ ⟨_, h, _⟩; exact h)) (by decide) ?_
                      rintro _ _ _ ⟨_, ⟨rfl, _, rfl⟩, hΓ, hH⟩
                      simp only [List.cons_append, List.nil_append] at hH; subst hΓ hH
                      refine ⟨⟨Subs.sub (by repeat (first | exact Subs.nil _ | apply Subs.cons | exact List.Mem.head _ | refine List.Mem.tail _ ?_)), .inr (St.keep (by repeat (first | exact Subs.nil _ | apply Subs.cons | exact List.Mem.head _ | refine List.Mem.tail _ ?_)) (by repeat (first | exact Picks.nil _ | apply Picks.cons | exact Pull.here _ _ | apply Pull.there)))⟩, ?_⟩
                      refine JR.ugt (g := 95) rfl rfl rfl rfl rfl hg100 (Yv.bin rfl rfl BinR.gtr_i) (by decide) ?_
                      refine JR.ugt (g := 92) rfl rfl rfl rfl rfl hg97 (Yv.pick0 rfl hg100 rfl) (by decide) ?_
                      refine JR.u rfl rfl rfl (Yv.pick1 rfl hg97 rfl) (by decide) ?_
                      refine JR.nil ?_
                      refine JQ.then_normal ?_
                      refine JC.cond rfl (fun hc6 => ?_) (fun hc6 => ?_)
                      · try simp only [decide_eq_true_eq, decide_eq_false_iff_not, Bool.not_eq_true', Bool.not_eq_false', ne_eq, Decidable.not_not, Bool.not_eq_true, Bool.and_eq_true, Bool.or_eq_true, BitVec.reduceToNat] at hc6
                        have hbs : bestF ws n k (j + 1) = (j : Int) := by first | exact absurd hc6 (by decide) | exact best_first hg97' hg100' | exact best_new hg97' hb1 hc6
                        refine JC.region ?_
                        refine JO.v (Yv.move rfl) (by decide) ?_
                        refine JO.v (Yv.assign rfl) (by decide) ?_
                        refine JO.nil ?_
                        refine JQ.block_normal ?_
                        refine JQ.then_normal ?_
                        refine JC.region ?_
                        refine JO.v (Yv.move rfl) (by decide) ?_
                        refine JO.v (Yv.as (v' := it ((j + 1 : Nat) : Int)) (Yv.bin rfl rfl (BinR.add_i (by first | (constructor <;> omega) | (constructor <;> simp <;> omega)))) (congrArg it (by omega))) (by decide) ?_
                        refine JO.v (Yv.assign rfl) (by decide) ?_
                        refine JO.nil ?_
                        refine JQ.head (j + 1) (by rw [hbs]; repeat (first | exact trivial | refine ⟨by first | rfl | (simp; done), ?_⟩)) (Subs.sub (by repeat (first | exact Subs.nil _ | apply Subs.cons | exact List.Mem.head _ | refine List.Mem.tail _ ?_))) (Picks.perm (by repeat (first | exact Picks.nil _ | apply Picks.cons | exact Pull.here _ _ | apply Pull.there))) ?_
                        exact ⟨by omega, by omega⟩
                      · try simp only [decide_eq_true_eq, decide_eq_false_iff_not, Bool.not_eq_true', Bool.not_eq_false', ne_eq, Decidable.not_not, Bool.not_eq_true, Bool.and_eq_true, Bool.or_eq_true, BitVec.reduceToNat] at hc6
                        have hbs : bestF ws n k (j + 1) = bestF ws n k j := by first | exact best_skip hg97' | exact absurd hc6 (by decide) | exact best_old hg97' hb1 hc6
                        refine JC.skip ?_
                        refine JQ.block_normal ?_
                        refine JQ.then_normal ?_
                        refine JC.region ?_
                        refine JO.v (Yv.move rfl) (by decide) ?_
                        refine JO.v (Yv.as (v' := it ((j + 1 : Nat) : Int)) (Yv.bin rfl rfl (BinR.add_i (by first | (constructor <;> omega) | (constructor <;> simp <;> omega)))) (congrArg it (by omega))) (by decide) ?_
                        refine JO.v (Yv.assign rfl) (by decide) ?_
                        refine JO.nil ?_
                        refine JQ.head (j + 1) (by rw [hbs]; repeat (first | exact trivial | refine ⟨by first | rfl | (simp; done), ?_⟩)) (Subs.sub (by repeat (first | exact Subs.nil _ | apply Subs.cons | exact List.Mem.head _ | refine List.Mem.tail _ ?_))) (Picks.perm (by repeat (first | exact Picks.nil _ | apply Picks.cons | exact Pull.here _ _ | apply Pull.there))) ?_
                        exact ⟨by omega, by omega⟩
                  · have hg97' := hg97
                    try simp only [decide_eq_true_eq, decide_eq_false_iff_not, Bool.not_eq_true', Bool.not_eq_false', ne_eq, Decidable.not_not, Bool.not_eq_true, Bool.and_eq_true, Bool.or_eq_true, BitVec.reduceToNat] at hg97'
                    refine JR.gf (g := 92) rfl rfl rfl rfl hg97 (by decide) ?_
                    refine JR.gf (g := 92) rfl rfl rfl rfl hg97 (by decide) ?_
                    refine JR.gf (g := 92) rfl rfl rfl rfl hg97 (by decide) ?_
                    refine JR.gu (g := 95) rfl rfl rfl rfl (by decide) ?_
                    refine JR.gu (g := 95) rfl rfl rfl rfl (by decide) ?_
                    refine JR.gu (g := 95) rfl rfl rfl rfl (by decide) ?_
                    refine JR.gu (g := 95) rfl rfl rfl rfl (by decide) ?_
                    refine JR.gu (g := 95) rfl rfl rfl rfl (by decide) ?_
                    refine JR.gu (g := 95) rfl rfl rfl rfl (by decide) ?_
                    refine JR.gu (g := 95) rfl rfl rfl rfl (by decide) ?_
                    refine JR.gu (g := 95) rfl rfl rfl rfl (by decide) ?_
                    refine JR.gum (g := 95) rfl rfl rfl rfl (by decide) ?_ ?_
                    · exact ⟨Subs.sub (by repeat (first | exact Subs.nil _ | apply Subs.cons | exact List.Mem.head _ | refine List.Mem.tail _ ?_)), .inr (St.keep (by repeat (first | exact Subs.nil _ | apply Subs.cons | exact List.Mem.head _ | refine List.Mem.tail _ ?_)) (by repeat (first | exact Picks.nil _ | apply Picks.cons | exact Pull.here _ _ | apply Pull.there)))⟩
                    refine JR.gu (g := 95) rfl rfl rfl rfl (by decide) ?_
                    refine JR.gf (g := 92) rfl rfl rfl rfl hg97 (by decide) ?_
                    refine JR.u rfl rfl rfl (Yv.pick0 rfl hg97 rfl) (by decide) ?_
                    refine JR.nil ?_
                    refine JQ.then_normal ?_
                    refine JC.cond rfl (fun hc6 => ?_) (fun hc6 => ?_)
                    · try simp only [decide_eq_true_eq, decide_eq_false_iff_not, Bool.not_eq_true', Bool.not_eq_false', ne_eq, Decidable.not_not, Bool.not_eq_true, Bool.and_eq_true, Bool.or_eq_true, BitVec.reduceToNat] at hc6
                      have hbs : bestF ws n k (j + 1) = (j : Int) := by first | exact absurd hc6 (by decide) | exact best_first hg97' hg100' | exact best_new hg97' hb1 hc6
                      refine JC.region ?_
                      refine JO.v (Yv.move rfl) (by decide) ?_
                      refine JO.v (Yv.assign rfl) (by decide) ?_
                      refine JO.nil ?_
                      refine JQ.block_normal ?_
                      refine JQ.then_normal ?_
                      refine JC.region ?_
                      refine JO.v (Yv.move rfl) (by decide) ?_
                      refine JO.v (Yv.as (v' := it ((j + 1 : Nat) : Int)) (Yv.bin rfl rfl (BinR.add_i (by first | (constructor <;> omega) | (constructor <;> simp <;> omega)))) (congrArg it (by omega))) (by decide) ?_
                      refine JO.v (Yv.assign rfl) (by decide) ?_
                      refine JO.nil ?_
                      refine JQ.head (j + 1) (by rw [hbs]; repeat (first | exact trivial | refine ⟨by first | rfl | (simp; done), ?_⟩)) (Subs.sub (by repeat (first | exact Subs.nil _ | apply Subs.cons | exact List.Mem.head _ | refine List.Mem.tail _ ?_))) (Picks.perm (by repeat (first | exact Picks.nil _ | apply Picks.cons | exact Pull.here _ _ | apply Pull.there))) ?_
                      exact ⟨by omega, by omega⟩
                    · try simp only [decide_eq_true_eq, decide_eq_false_iff_not, Bool.not_eq_true', Bool.not_eq_false', ne_eq, Decidable.not_not, Bool.not_eq_true, Bool.and_eq_true, Bool.or_eq_true, BitVec.reduceToNat] at hc6
                      have hbs : bestF ws n k (j + 1) = bestF ws n k j := by first | exact best_skip hg97' | exact absurd hc6 (by decide) | exact best_old hg97' hb1 hc6
                      refine JC.skip ?_
                      refine JQ.block_normal ?_
                      refine JQ.then_normal ?_
                      refine JC.region ?_
                      refine JO.v (Yv.move rfl) (by decide) ?_
                      refine JO.v (Yv.as (v' := it ((j + 1 : Nat) : Int)) (Yv.bin rfl rfl (BinR.add_i (by first | (constructor <;> omega) | (constructor <;> simp <;> omega)))) (congrArg it (by omega))) (by decide) ?_
                      refine JO.v (Yv.assign rfl) (by decide) ?_
                      refine JO.nil ?_
                      refine JQ.head (j + 1) (by rw [hbs]; repeat (first | exact trivial | refine ⟨by first | rfl | (simp; done), ?_⟩)) (Subs.sub (by repeat (first | exact Subs.nil _ | apply Subs.cons | exact List.Mem.head _ | refine List.Mem.tail _ ?_))) (Picks.perm (by repeat (first | exact Picks.nil _ | apply Picks.cons | exact Pull.here _ _ | apply Pull.there))) ?_
                      exact ⟨by omega, by omega⟩
                · try simp only [decide_eq_true_eq, decide_eq_false_iff_not, Bool.not_eq_true', Bool.not_eq_false', ne_eq, Decidable.not_not, Bool.not_eq_true, Bool.and_eq_true, Bool.or_eq_true, BitVec.reduceToNat] at hc5
                  obtain rfl : j = ws.length := by omega
                  have hbw := best_all (n := n) (k := k) hl hks
                  obtain ⟨wk, hwk⟩ : ∃ wk, wk = ((sortT ws n).getD k lkD).who.toNat := ⟨_, rfl⟩
                  rw [← hwk] at hbw
                  have hwl : wk < ws.length := by rw [hwk]; exact who_lt hl hks
                  have hbb := share_bd (ws := ws) (n := n) hl hn hT (k := k) (by omega) wk
                  refine JC.exit ?_
                  refine JQ.then_exit ?_
                  refine JQ.then_exit ?_
                  refine JQ.block_exit ?_
                  refine JQ.then_normal ?_
                  refine JC.seq ?_
                  refine JC.region ?_
                  refine JO.v (Yv.as (v' := it (wk : Int)) (Yv.move rfl) (congrArg it hbw)) (by decide) ?_
                  refine JO.v (Yv.as (v' := .bool true) (Yv.bin rfl rfl BinR.geq_i) (congrArg Value.bool (decide_eq_true (by omega)))) (by decide) ?_
                  refine JO.nil ?_
                  refine JQ.then_normal ?_
                  refine JC.cond rfl (fun hc7 => ?_) (fun hc7 => ?_)
                  · try simp only [decide_eq_true_eq, decide_eq_false_iff_not, Bool.not_eq_true', Bool.not_eq_false', ne_eq, Decidable.not_not, Bool.not_eq_true, Bool.and_eq_true, Bool.or_eq_true, BitVec.reduceToNat] at hc7
                    skip
                    refine JC.seq ?_
                    refine JC.region ?_
                    refine JO.v (Yv.move rfl) (by decide) ?_
                    refine JO.v (Yv.as (v' := it (wk : Int)) (Yv.move rfl) (congrArg it hbw)) (by decide) ?_
                    first | refine JO.v (Yv.indexRow1 Try.underlying53 sz_4 rfl rfl (by repeat (first | exact List.Mem.head _ | refine List.Mem.tail _ ?_)) (by first | exact ltb rfl | (simp; done) | (simp; omega) | omega | (simp [*]; omega))) (by decide) ?_ | refine JO.v (Yv.indexRd1 Try.underlying53 sz_4 rfl rfl (by repeat (first | exact Lend.same _ _ | exact Lend.row _ _ _ _ _ _ (by decide) | apply Lend.there)) (by first | exact ltb rfl | (simp; done) | (simp; omega) | omega | (simp [*]; omega))) (by decide) ?_
                    first | refine JO.store1 sz_4 rfl rfl rfl (by repeat (first | exact Upd.here _ _ _ | apply Upd.there)) (by first | exact ltb rfl | (simp; done) | (simp; omega) | omega | (simp [*]; omega)) ?_ | refine JO.storeRow1 sz_4 rfl rfl rfl (by repeat (first | exact Upd.here _ _ _ | apply Upd.there)) (by first | exact ltb rfl | (simp; done) | (simp; omega) | omega | (simp [*]; omega)) (by first | rfl | (simp; done) | omega | (simp; omega)) ?_
                    rw [hwk, bsL_set hks, ← hwk]
                    refine JO.nil ?_
                    refine JQ.then_normal ?_
                    refine JC.region ?_
                    refine JO.v (Yv.move rfl) (by decide) ?_
                    refine JO.v (Yv.as (v' := it (wk : Int)) (Yv.move rfl) (congrArg it hbw)) (by decide) ?_
                    first | refine JO.v (Yv.indexRow1 Try.underlying25 sz_3 rfl rfl (by repeat (first | exact List.Mem.head _ | refine List.Mem.tail _ ?_)) (by first | exact ltb rfl | (simp; done) | (simp; omega) | omega | (simp [*]; omega))) (by decide) ?_ | refine JO.v (Yv.indexRd1 Try.underlying25 sz_3 rfl rfl (by repeat (first | exact Lend.same _ _ | exact Lend.row _ _ _ _ _ _ (by decide) | apply Lend.there)) (by first | exact ltb rfl | (simp; done) | (simp; omega) | omega | (simp [*]; omega))) (by decide) ?_
                    refine JO.v (Yv.load1 one_3 rfl (Kn.row (by repeat (first | exact List.Mem.head _ | refine List.Mem.tail _ ?_)) (by exact gm (d := 0) (by rw [bump_len, hol]; exact hwl)))) (by decide) ?_
                    refine JO.v (Yv.bin rfl rfl (BinR.add_i (by first | (constructor <;> omega) | (constructor <;> simp <;> omega)))) (by decide) ?_
                    first | refine JO.v (Yv.indexRow1 Try.underlying25 sz_3 rfl rfl (by repeat (first | exact List.Mem.head _ | refine List.Mem.tail _ ?_)) (by first | exact ltb rfl | (simp; done) | (simp; omega) | omega | (simp [*]; omega))) (by decide) ?_ | refine JO.v (Yv.indexRd1 Try.underlying25 sz_3 rfl rfl (by repeat (first | exact Lend.same _ _ | exact Lend.row _ _ _ _ _ _ (by decide) | apply Lend.there)) (by first | exact ltb rfl | (simp; done) | (simp; omega) | omega | (simp [*]; omega))) (by decide) ?_
                    first | refine JO.store1 sz_3 rfl rfl rfl (by repeat (first | exact Upd.here _ _ _ | apply Upd.there)) (by first | exact ltb rfl | (simp; done) | (simp; omega) | omega | (simp [*]; omega)) ?_ | refine JO.storeRow1 sz_3 rfl rfl rfl (by repeat (first | exact Upd.here _ _ _ | apply Upd.there)) (by first | exact ltb rfl | (simp; done) | (simp; omega) | omega | (simp [*]; omega)) (by rw [List.length_map, bump_len, hol]) ?_
                    rw [set_it]
                    refine JO.nil ?_
                    refine JQ.block_normal ?_
                    refine JQ.then_normal ?_
                    refine JC.region ?_
                    refine JO.v (Yv.move rfl) (by decide) ?_
                    refine JO.v (Yv.as (v' := it ((k + 1 : Nat) : Int)) (Yv.bin rfl rfl (BinR.add_i (by first | (constructor <;> omega) | (constructor <;> simp <;> omega)))) (congrArg it (by omega))) (by decide) ?_
                    refine JO.v (Yv.assign rfl) (by decide) ?_
                    refine JO.nil ?_
                    rw [hwk, bump_next hks]
                    refine JQ.head (k + 1) (by repeat (first | exact trivial | refine ⟨by first | rfl | (simp; done), ?_⟩)) (Subs.sub (by repeat (first | exact Subs.nil _ | apply Subs.cons | exact List.Mem.head _ | refine List.Mem.tail _ ?_))) (Picks.perm (by repeat (first | exact Picks.nil _ | apply Picks.cons | exact Pull.here _ _ | apply Pull.there))) ?_
                    exact ⟨by omega, by omega⟩
                  · try simp only [decide_eq_true_eq, decide_eq_false_iff_not, Bool.not_eq_true', Bool.not_eq_false', ne_eq, Decidable.not_not, Bool.not_eq_true, Bool.and_eq_true, Bool.or_eq_true, BitVec.reduceToNat] at hc7
                    exact absurd hc7 (by decide)
              · try simp only [decide_eq_true_eq, decide_eq_false_iff_not, Bool.not_eq_true', Bool.not_eq_false', ne_eq, Decidable.not_not, Bool.not_eq_true, Bool.and_eq_true, Bool.or_eq_true, BitVec.reduceToNat] at hc4
                obtain rfl : k = leftN ws n := by omega
                refine JC.exit ?_
                refine JQ.then_exit ?_
                refine JQ.then_exit ?_
                refine JQ.block_exit ?_
                refine JQ.then_normal ?_
                refine JC.seq ?_
                refine JC.region ?_
                refine JO.v (Yv.move rfl) (by decide) ?_
                refine JO.v (Yv.assign rfl) (by decide) ?_
                refine JO.v (Yv.assign rfl) (by decide) ?_
                refine JO.nil ?_
                refine JQ.then_normal ?_
                refine JC.ret ?_
                exact JQ.done (.inr rfl) (Γ' := []) (H' := [Res.row _ _ 3 1 _]) (res2 rfl (RV.tmp rfl) (RV.tmp rfl)) (Subs.sub (by repeat (first | exact Subs.nil _ | apply Subs.cons | exact List.Mem.head _ | refine List.Mem.tail _ ?_))) (Picks.perm (by repeat (first | exact Picks.nil _ | apply Picks.cons | exact Pull.here _ _ | apply Pull.there))) ⟨v7, rfl, rfl, by rw [show shareL ws ((n : Int)).toNat = (bump (outT ws n ws.length) ((sortT ws n).take (leftN ws n))) from rfl, bump_len, hol]⟩


theorem f11b_spec (u : Value) (ws : List W64) (n0 : Int) (hE : shareE ws n0 ≠ 0) :
    Spec Try.prog 11 #[u, (it n0)] [Res.rd u ws.length 1 (ws.map u64)] []
      (fun r Γ' H' => r = (.tuple #[.slice none 0 0, it (shareE ws n0)]) ∧ Γ' = [] ∧ H' = []) := by
  refine Spec.of_args Try.func11 rfl Try.ntmps11 (by simp) fun w => ?_
  have htl := tot_lt ws
  refine JC.seq ?_
  refine JC.region ?_
  refine JO.v (Yv.assign rfl) (by decide) ?_
  refine JO.v (Yv.assign rfl) (by decide) ?_
  refine JO.nil ?_
  refine JQ.then_normal ?_
  refine JC.seq ?_
  refine JC.seq ?_
  refine JC.region ?_
  refine JO.v (Yv.move rfl) (by decide) ?_
  first | refine JO.v (Yv.len_s Try.underlying22 rfl) (by decide) ?_ | refine JO.v (Yv.lenRd Try.underlying22 rfl (by repeat (first | exact Lend.same _ _ | exact Lend.row _ _ _ _ _ _ (by decide) | apply Lend.there))) (by decide) ?_
  refine JO.v (Yv.as (v' := .bool (decide (ws.length > 40))) (Yv.bin rfl rfl BinR.gtr_i) (congrArg Value.bool (decide_eq_decide.2 (by omega)))) (by decide) ?_
  refine JO.v (Yv.move rfl) (by decide) ?_
  refine JO.join 3 24 (.bool (decide (ws.length > 40 ∨ n0 < 0))) ?_ ?_
  · skip
    refine JO.gsplit (g := 20) rfl (fun hg7 => ?_) (fun hg7 => ?_)
    · have hg7' := hg7
      try simp only [decide_eq_true_eq, decide_eq_false_iff_not, Bool.not_eq_true', Bool.not_eq_false', ne_eq, Decidable.not_not, Bool.not_eq_true, Bool.and_eq_true, Bool.or_eq_true, BitVec.reduceToNat] at hg7'
      refine JO.gf (g := 21) rfl rfl hg7 (by decide) ?_
      refine JO.gf (g := 21) rfl rfl hg7 (by decide) ?_
      refine JO.v (Yv.pick1 rfl hg7 rfl) (by decide) ?_
      refine JO.nil ?_
      refine JQ.head () (by first | (refine ⟨by first | rfl | (simp [*]; done) | (show some _ = some _; simp [*]; done), ?_⟩; repeat (first | exact trivial | refine ⟨rfl, ?_⟩))) (Subs.sub (by repeat (first | exact Subs.nil _ | apply Subs.cons | exact List.Mem.head _ | refine List.Mem.tail _ ?_))) (Picks.perm (by repeat (first | exact Picks.nil _ | apply Picks.cons | exact Pull.here _ _ | apply Pull.there))) ?_
      trivial
    · have hg7' := hg7
      try simp only [decide_eq_true_eq, decide_eq_false_iff_not, Bool.not_eq_true', Bool.not_eq_false', ne_eq, Decidable.not_not, Bool.not_eq_true, Bool.and_eq_true, Bool.or_eq_true, BitVec.reduceToNat] at hg7'
      refine JO.gt (g := 21) rfl rfl hg7 ?_
      refine JO.v (Yv.move rfl) (by decide) ?_
      refine JO.gt (g := 21) rfl rfl hg7 ?_
      refine JO.v (Yv.bin rfl rfl BinR.lss_i) (by decide) ?_
      refine JO.v (Yv.pick0 rfl hg7 rfl) (by decide) ?_
      refine JO.nil ?_
      refine JQ.head () (by first | (refine ⟨by first | rfl | (simp [*]; done) | (show some _ = some _; simp [*]; done), ?_⟩; repeat (first | exact trivial | refine ⟨rfl, ?_⟩))) (Subs.sub (by repeat (first | exact Subs.nil _ | apply Subs.cons | exact List.Mem.head _ | refine List.Mem.tail _ ?_))) (Picks.perm (by repeat (first | exact Picks.nil _ | apply Picks.cons | exact Pull.here _ _ | apply Pull.there))) ?_
      trivial
  · skip
    refine JO.v (Yv.move rfl) (by decide) ?_
    refine JO.join 3 28 (.bool (decide (ws.length > 40 ∨ n0 < 0 ∨ n0 > 200))) ?_ ?_
    · skip
      refine JO.gsplit (g := 24) rfl (fun hg11 => ?_) (fun hg11 => ?_)
      · have hg11' := hg11
        try simp only [decide_eq_true_eq, decide_eq_false_iff_not, Bool.not_eq_true', Bool.not_eq_false', ne_eq, Decidable.not_not, Bool.not_eq_true, Bool.and_eq_true, Bool.or_eq_true, BitVec.reduceToNat] at hg11'
        refine JO.gf (g := 25) rfl rfl hg11 (by decide) ?_
        refine JO.gf (g := 25) rfl rfl hg11 (by decide) ?_
        refine JO.v (Yv.pick1 rfl hg11 rfl) (by decide) ?_
        refine JO.nil ?_
        refine JQ.head () (by first | (refine ⟨by first | rfl | (show some _ = some _; exact congrArg (fun b => some (Value.bool b)) (by first | exact (decide_eq_true (by omega)).symm | exact decide_eq_decide.2 (by omega))), ?_⟩; repeat (first | exact trivial | refine ⟨rfl, ?_⟩))) (Subs.sub (by repeat (first | exact Subs.nil _ | apply Subs.cons | exact List.Mem.head _ | refine List.Mem.tail _ ?_))) (Picks.perm (by repeat (first | exact Picks.nil _ | apply Picks.cons | exact Pull.here _ _ | apply Pull.there))) ?_
        trivial
      · have hg11' := hg11
        try simp only [decide_eq_true_eq, decide_eq_false_iff_not, Bool.not_eq_true', Bool.not_eq_false', ne_eq, Decidable.not_not, Bool.not_eq_true, Bool.and_eq_true, Bool.or_eq_true, BitVec.reduceToNat] at hg11'
        refine JO.gt (g := 25) rfl rfl hg11 ?_
        refine JO.v (Yv.move rfl) (by decide) ?_
        refine JO.gt (g := 25) rfl rfl hg11 ?_
        refine JO.v (Yv.bin rfl rfl BinR.gtr_i) (by decide) ?_
        refine JO.v (Yv.pick0 rfl hg11 rfl) (by decide) ?_
        refine JO.nil ?_
        refine JQ.head () (by first | (refine ⟨by first | rfl | (show some _ = some _; exact congrArg (fun b => some (Value.bool b)) (by first | exact (decide_eq_true (by omega)).symm | exact decide_eq_decide.2 (by omega))), ?_⟩; repeat (first | exact trivial | refine ⟨rfl, ?_⟩))) (Subs.sub (by repeat (first | exact Subs.nil _ | apply Subs.cons | exact List.Mem.head _ | refine List.Mem.tail _ ?_))) (Picks.perm (by repeat (first | exact Picks.nil _ | apply Picks.cons | exact Pull.here _ _ | apply Pull.there))) ?_
        trivial
    · skip
      refine JO.nil ?_
      refine JQ.then_normal ?_
      refine JC.cond rfl (fun hc1 => ?_) (fun hc1 => ?_)
      · try simp only [decide_eq_true_eq, decide_eq_false_iff_not, Bool.not_eq_true', Bool.not_eq_false', ne_eq, Decidable.not_not, Bool.not_eq_true, Bool.and_eq_true, Bool.or_eq_true, BitVec.reduceToNat] at hc1
        have he : shareE ws n0 = 2 := by rw [shareE, if_pos hc1]
        refine JC.seq ?_
        refine JC.region ?_
        refine JO.v (Yv.assign rfl) (by decide) ?_
        refine JO.v (Yv.assign rfl) (by decide) ?_
        refine JO.nil ?_
        refine JQ.then_normal ?_
        refine JC.ret ?_
        refine JQ.then_ret ?_
        exact JQ.done (.inr rfl) (Γ' := []) (H' := []) (res2 rfl (RV.tmp rfl) (RV.tmp rfl)) (Subs.sub (by repeat (first | exact Subs.nil _ | apply Subs.cons | exact List.Mem.head _ | refine List.Mem.tail _ ?_))) (Picks.perm (by repeat (first | exact Picks.nil _ | apply Picks.cons | exact Pull.here _ _ | apply Pull.there))) ⟨by rw [he], rfl, rfl⟩
      · try simp only [decide_eq_true_eq, decide_eq_false_iff_not, Bool.not_eq_true', Bool.not_eq_false', ne_eq, Decidable.not_not, Bool.not_eq_true, Bool.and_eq_true, Bool.or_eq_true, BitVec.reduceToNat] at hc1
        skip
        refine JC.skip ?_
        refine JQ.then_normal ?_
        refine JC.seq ?_
        refine JC.region ?_
        refine JO.v (Yv.move rfl) (by decide) ?_
        refine JO.callB (f14_spec u ws) body_14 rfl (by repeat (first | exact Picks.nil _ | apply Picks.cons | exact Pull.here _ _ | apply Pull.there)) (by repeat (first | exact Lends.nil _ | apply Lends.cons | exact Lend.same _ _ | exact Lend.row _ _ _ _ _ _ (by decide) | apply Lend.there)) (by rintro _ _ _ ⟨_, h, _⟩; exact h) (by decide) ?_
        rintro _ _ ⟨_, ⟨rfl, _, rfl⟩, hH⟩
        simp only [List.cons_append, List.nil_append] at hH; subst hH
        refine JO.alloc _ zero_32 rfl (by decide) fun b6 => ?_
        first | refine JO.storeAll sz_32 rfl rfl rfl (by first | rfl | (simp; done) | (simp; omega)) (by first | (simp; done) | exact one_map (fun _ => rfl) | exact one_tab (fun _ => rfl) | exact one_tab (fun _ => by split <;> rfl)) (by repeat (first | exact Upd.here _ _ _ | apply Upd.there)) (by first | rfl | (simp; done) | (simp; omega)) ?_ | refine JO.store sz_32 rfl rfl rfl (by first | rfl | (simp; done) | (simp; omega)) (by first | (simp; done) | exact one_sing rfl | exact one_map (fun _ => rfl) | exact one_piece (one_map (fun _ => rfl)) | exact one_tab (fun _ => rfl) | exact one_tab (fun _ => by split <;> rfl)) (by repeat (first | exact Upd.here _ _ _ | apply Upd.there)) (by first | exact ltb rfl | (simp; done) | (simp; omega) | omega | (simp [*]; omega)) ?_ | refine JO.storeRow sz_32 rfl rfl rfl (by first | rfl | simp) (by first | (simp; done) | exact one_map (fun _ => rfl) | exact one_tab (fun _ => rfl) | exact one_tab (fun _ => by split <;> rfl)) (by repeat (first | exact Upd.here _ _ _ | apply Upd.there)) (by first | exact ltb rfl | (simp; done) | (simp; omega) | omega | (simp [*]; omega)) (by first | exact ltb rfl | (simp; done) | (simp; omega) | omega | (simp [*]; omega)) ?_
        refine JO.nil ?_
        refine JQ.then_normal ?_
        refine JC.seq ?_
        refine JC.seq ?_
        refine JC.region ?_
        refine JO.v (Yv.move rfl) (by decide) ?_
        refine JO.v (Yv.bin rfl rfl BinR.gtr_i) (by decide) ?_
        refine JO.v (Yv.move rfl) (by decide) ?_
        refine JO.join 4 37 (.bool (decide (n0 > 0 ∧ totN ws = 0))) ?_ ?_
        · skip
          refine JO.gsplit (g := 32) rfl (fun hg23 => ?_) (fun hg23 => ?_)
          · have hg23' := hg23
            try simp only [decide_eq_true_eq, decide_eq_false_iff_not, Bool.not_eq_true', Bool.not_eq_false', ne_eq, Decidable.not_not, Bool.not_eq_true, Bool.and_eq_true, Bool.or_eq_true, BitVec.reduceToNat] at hg23'
            refine JO.gt (g := 33) rfl rfl hg23 ?_
            first | refine JO.v (Yv.loadOwn agg_32 (by repeat (first | exact List.Mem.head _ | refine List.Mem.tail _ ?_)) rfl (by first | rfl | (simp; done) | (simp; omega) | (simp [*]; done))) (by decide) ?_ | refine JO.v (Yv.loadOwnAt agg_32 (by repeat (first | exact List.Mem.head _ | refine List.Mem.tail _ ?_)) rfl (by first | rfl | (simp; done) | (simp; omega) | (simp [*]; done))) (by decide) ?_ | refine JO.v (Yv.loadRow agg_32 (by repeat (first | exact List.Mem.head _ | refine List.Mem.tail _ ?_)) rfl (by first | rfl | (simp; done) | (simp; omega) | (simp [*]; done))) (by decide) ?_ | refine JO.v (Yv.loadRd agg_32 (by repeat (first | exact Lend.same _ _ | exact Lend.row _ _ _ _ _ _ (by decide) | apply Lend.there)) rfl (by first | rfl | (simp; done) | (simp; omega) | (simp [*]; done))) (by decide) ?_ | refine JO.v (Yv.loadRo agg_32 (by repeat (first | exact List.Mem.head _ | refine List.Mem.tail _ ?_)) rfl (by first | rfl | (simp; done) | (simp; omega) | (simp [*]; done))) (by decide) ?_
            refine JO.gt (g := 33) rfl rfl hg23 ?_
            refine JO.v (Yv.as (v' := .agg ((wd 0).map u64).toArray) (Yv.build bld_32 rfl rfl) rfl) (by decide) ?_
            refine JO.gt (g := 33) rfl rfl hg23 ?_
            refine JO.v (Yv.as (v' := .bool (decide (totN ws = 0))) (Yv.bin rfl rfl (eql_nat wd_len' wd_len')) (congrArg Value.bool (decide_eq_decide.2 (by rw [wd_eq htl (by decide)])))) (by decide) ?_
            refine JO.v (Yv.pick1 rfl hg23 rfl) (by decide) ?_
            refine JO.nil ?_
            refine JQ.head () (by first | (refine ⟨by first | rfl | (simp [*]; done) | (show some _ = some _; simp [*]; done), ?_⟩; repeat (first | exact trivial | refine ⟨rfl, ?_⟩))) (Subs.sub (by repeat (first | exact Subs.nil _ | apply Subs.cons | exact List.Mem.head _ | refine List.Mem.tail _ ?_))) (Picks.perm (by repeat (first | exact Picks.nil _ | apply Picks.cons | exact Pull.here _ _ | apply Pull.there))) ?_
            trivial
          · have hg23' := hg23
            try simp only [decide_eq_true_eq, decide_eq_false_iff_not, Bool.not_eq_true', Bool.not_eq_false', ne_eq, Decidable.not_not, Bool.not_eq_true, Bool.and_eq_true, Bool.or_eq_true, BitVec.reduceToNat] at hg23'
            refine JO.gf (g := 33) rfl rfl hg23 (by decide) ?_
            refine JO.gf (g := 33) rfl rfl hg23 (by decide) ?_
            refine JO.gf (g := 33) rfl rfl hg23 (by decide) ?_
            refine JO.v (Yv.pick0 rfl hg23 rfl) (by decide) ?_
            refine JO.nil ?_
            refine JQ.head () (by first | (refine ⟨by first | rfl | (simp [*]; done) | (show some _ = some _; simp [*]; done), ?_⟩; repeat (first | exact trivial | refine ⟨rfl, ?_⟩))) (Subs.sub (by repeat (first | exact Subs.nil _ | apply Subs.cons | exact List.Mem.head _ | refine List.Mem.tail _ ?_))) (Picks.perm (by repeat (first | exact Picks.nil _ | apply Picks.cons | exact Pull.here _ _ | apply Pull.there))) ?_
            trivial
        · skip
          refine JO.nil ?_
          refine JQ.then_normal ?_
          refine JC.cond rfl (fun hc2 => ?_) (fun hc2 => ?_)
          · try simp only [decide_eq_true_eq, decide_eq_false_iff_not, Bool.not_eq_true', Bool.not_eq_false', ne_eq, Decidable.not_not, Bool.not_eq_true, Bool.and_eq_true, Bool.or_eq_true, BitVec.reduceToNat] at hc2
            have he : shareE ws n0 = 11 := by rw [shareE, if_neg hc1, if_pos hc2]
            refine JC.seq ?_
            refine JC.region ?_
            refine JO.v (Yv.assign rfl) (by decide) ?_
            refine JO.v (Yv.assign rfl) (by decide) ?_
            refine JO.nil ?_
            refine JQ.then_normal ?_
            refine JC.ret ?_
            refine JQ.then_ret ?_
            exact JQ.done (.inr rfl) (Γ' := []) (H' := []) (res2 rfl (RV.tmp rfl) (RV.tmp rfl)) (Subs.sub (by repeat (first | exact Subs.nil _ | apply Subs.cons | exact List.Mem.head _ | refine List.Mem.tail _ ?_))) (Picks.perm (by repeat (first | exact Picks.nil _ | apply Picks.cons | exact Pull.here _ _ | apply Pull.there))) ⟨by rw [he], rfl, rfl⟩
          · try simp only [decide_eq_true_eq, decide_eq_false_iff_not, Bool.not_eq_true', Bool.not_eq_false', ne_eq, Decidable.not_not, Bool.not_eq_true, Bool.and_eq_true, Bool.or_eq_true, BitVec.reduceToNat] at hc2
            exact absurd (by rw [shareE, if_neg hc1, if_neg hc2]) hE
end Go.Proofs.Ytfcodaigdigjmaa
