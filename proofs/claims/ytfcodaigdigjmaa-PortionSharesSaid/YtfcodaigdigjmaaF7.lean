/- Walk: slots shared out. -/
import Derived.Test.YtfcodaigdigjmaaF6
namespace Go.Proofs.Ytfcodaigdigjmaa
open Go.RowKit
set_option maxRecDepth 100000
set_option linter.unusedVariables false
set_option linter.unusedSimpArgs false
set_option maxHeartbeats 2000000 in
theorem f9a_spec (u : Value) (ws : List W64) (n0 : Int) (hE : shareE ws n0 = 0) :
    Spec Try.prog 9 #[u, (it n0)] [Res.rd u ws.length 1 (ws.map u64)] []
      (fun r Γ' H' => ∃ v, r = .tuple #[v, it 0] ∧ Γ' = [] ∧ H' = [Res.row v (shareL ws n0.toNat).length 3 1 ((shareL ws n0.toNat).map it)]) := by
  refine Spec.of_args Try.func9 rfl Try.ntmps9 (by simp) fun w => ?_
  obtain ⟨n, rfl, hn, hl, hT⟩ := share_0 hE
  have htl := tot_lt ws
  have hol : ∀ k, (outT ws n k).length = ws.length := fun k => by simp [outT]
  refine JC.seq ?_
  refine JC.region ?_
  refine JO.v (Yv.assign rfl) (by decide) ?_
  refine JO.v (Yv.assign rfl) (by decide) ?_
  refine JO.nil ?_
  refine JQ.then_normal ?_
  refine JC.seq ?_
  refine JC.region ?_
  refine JO.v (Yv.move rfl) (by decide) ?_
  refine JO.callB (f12_spec u ws) body_12 rfl (by repeat (first | exact Picks.nil _ | apply Picks.cons | exact Pull.here _ _ | apply Pull.there)) (by repeat (first | exact Lends.nil _ | apply Lends.cons | exact Lend.same _ _ | exact Lend.row _ _ _ _ _ _ (by decide) | apply Lend.there)) (by rintro _ _ _ ⟨_, h, _⟩; exact h) (by decide) ?_
  rintro _ _ ⟨_, ⟨rfl, _, rfl⟩, hH⟩
  simp only [List.cons_append, List.nil_append] at hH; subst hH
  refine JO.alloc _ zero_32 rfl (by decide) fun b6 => ?_
  first | refine JO.storeAll sz_32 rfl rfl rfl (by first | rfl | (simp; done) | (simp; omega)) (by first | (simp; done) | exact one_map (fun _ => rfl) | exact one_tab (fun _ => rfl) | exact one_tab (fun _ => by split <;> rfl)) (by repeat (first | exact Upd.here _ _ _ | apply Upd.there)) (by first | rfl | (simp; done) | (simp; omega)) ?_ | refine JO.store sz_32 rfl rfl rfl (by first | rfl | (simp; done) | (simp; omega)) (by first | (simp; done) | exact one_sing rfl | exact one_map (fun _ => rfl) | exact one_piece (one_map (fun _ => rfl)) | exact one_tab (fun _ => rfl) | exact one_tab (fun _ => by split <;> rfl)) (by repeat (first | exact Upd.here _ _ _ | apply Upd.there)) (by first | exact ltb rfl | (simp; done) | (simp; omega) | omega | (simp [*]; omega)) ?_ | refine JO.storeRow sz_32 rfl rfl rfl (by first | rfl | simp) (by first | (simp; done) | exact one_map (fun _ => rfl) | exact one_tab (fun _ => rfl) | exact one_tab (fun _ => by split <;> rfl)) (by repeat (first | exact Upd.here _ _ _ | apply Upd.there)) (by first | exact ltb rfl | (simp; done) | (simp; omega) | omega | (simp [*]; omega)) (by first | exact ltb rfl | (simp; done) | (simp; omega) | omega | (simp [*]; omega)) ?_
  refine JO.nil ?_
  refine JQ.then_normal ?_
  refine JC.seq ?_
  refine JC.block ?_
  refine JC.seq ?_
  refine JC.region ?_
  refine JO.v (Yv.move rfl) (by decide) ?_
  first | refine JO.v (Yv.len_s Try.underlying22 rfl) (by decide) ?_ | refine JO.v (Yv.lenRd Try.underlying22 rfl (by repeat (first | exact Lend.same _ _ | exact Lend.row _ _ _ _ _ _ (by decide) | apply Lend.there))) (by decide) ?_
  refine JO.v (Yv.as (v' := .bool false) (Yv.bin rfl rfl BinR.gtr_i) (congrArg Value.bool (decide_eq_false (by omega)))) (by decide) ?_
  refine JO.v (Yv.move rfl) (by decide) ?_
  refine JO.join 3 24 (.bool false) ?_ ?_
  · skip
    refine JO.gsplit (g := 20) rfl (fun hg11 => ?_) (fun hg11 => ?_)
    · have hg11' := hg11
      try simp only [decide_eq_true_eq, decide_eq_false_iff_not, Bool.not_eq_true', Bool.not_eq_false', ne_eq, Decidable.not_not, Bool.not_eq_true, Bool.and_eq_true, Bool.or_eq_true, BitVec.reduceToNat] at hg11'
      refine JO.gf (g := 21) rfl rfl hg11 (by decide) ?_
      refine JO.gf (g := 21) rfl rfl hg11 (by decide) ?_
      refine JO.v (Yv.pick1 rfl hg11 rfl) (by decide) ?_
      refine JO.nil ?_
      refine JQ.head () (by first | (refine ⟨by first | rfl | (first | (exfalso; omega) | cases hg11), ?_⟩; repeat (first | exact trivial | refine ⟨rfl, ?_⟩))) (Subs.sub (by repeat (first | exact Subs.nil _ | apply Subs.cons | exact List.Mem.head _ | refine List.Mem.tail _ ?_))) (Picks.perm (by repeat (first | exact Picks.nil _ | apply Picks.cons | exact Pull.here _ _ | apply Pull.there))) ?_
      trivial
    · have hg11' := hg11
      try simp only [decide_eq_true_eq, decide_eq_false_iff_not, Bool.not_eq_true', Bool.not_eq_false', ne_eq, Decidable.not_not, Bool.not_eq_true, Bool.and_eq_true, Bool.or_eq_true, BitVec.reduceToNat] at hg11'
      refine JO.gt (g := 21) rfl rfl hg11 ?_
      refine JO.v (Yv.move rfl) (by decide) ?_
      refine JO.gt (g := 21) rfl rfl hg11 ?_
      refine JO.v (Yv.as (v' := .bool false) (Yv.bin rfl rfl BinR.lss_i) (congrArg Value.bool (decide_eq_false (by omega)))) (by decide) ?_
      refine JO.v (Yv.pick0 rfl hg11 rfl) (by decide) ?_
      refine JO.nil ?_
      refine JQ.head () (by first | (refine ⟨by first | rfl | (first | (exfalso; omega) | cases hg11), ?_⟩; repeat (first | exact trivial | refine ⟨rfl, ?_⟩))) (Subs.sub (by repeat (first | exact Subs.nil _ | apply Subs.cons | exact List.Mem.head _ | refine List.Mem.tail _ ?_))) (Picks.perm (by repeat (first | exact Picks.nil _ | apply Picks.cons | exact Pull.here _ _ | apply Pull.there))) ?_
      trivial
  · skip
    refine JO.v (Yv.move rfl) (by decide) ?_
    refine JO.join 3 28 (.bool false) ?_ ?_
    · skip
      refine JO.gt (g := 25) rfl rfl rfl ?_
      refine JO.v (Yv.move rfl) (by decide) ?_
      refine JO.gt (g := 25) rfl rfl rfl ?_
      refine JO.v (Yv.as (v' := .bool false) (Yv.bin rfl rfl BinR.gtr_i) (congrArg Value.bool (decide_eq_false (by omega)))) (by decide) ?_
      refine JO.v (Yv.pick0 rfl rfl rfl) (by decide) ?_
      refine JO.nil ?_
      refine JQ.head () (by first | (refine ⟨by first | rfl | (first | (exfalso; omega) | cases hg15), ?_⟩; repeat (first | exact trivial | refine ⟨rfl, ?_⟩))) (Subs.sub (by repeat (first | exact Subs.nil _ | apply Subs.cons | exact List.Mem.head _ | refine List.Mem.tail _ ?_))) (Picks.perm (by repeat (first | exact Picks.nil _ | apply Picks.cons | exact Pull.here _ _ | apply Pull.there))) ?_
      trivial
    · skip
      refine JO.v (Yv.assign rfl) (by decide) ?_
      refine JO.nil ?_
      refine JQ.then_normal ?_
      refine JC.cond rfl (fun hc1 => ?_) (fun hc1 => ?_)
      · try simp only [decide_eq_true_eq, decide_eq_false_iff_not, Bool.not_eq_true', Bool.not_eq_false', ne_eq, Decidable.not_not, Bool.not_eq_true, Bool.and_eq_true, Bool.or_eq_true, BitVec.reduceToNat] at hc1
        exact absurd hc1 (by decide)
      · try simp only [decide_eq_true_eq, decide_eq_false_iff_not, Bool.not_eq_true', Bool.not_eq_false', ne_eq, Decidable.not_not, Bool.not_eq_true, Bool.and_eq_true, Bool.or_eq_true, BitVec.reduceToNat] at hc1
        refine JC.seq ?_
        refine JC.region ?_
        refine JO.v (Yv.move rfl) (by decide) ?_
        refine JO.v (Yv.bin rfl rfl BinR.gtr_i) (by decide) ?_
        refine JO.v (Yv.move rfl) (by decide) ?_
        refine JO.join 4 36 (.bool false) ?_ ?_
        · skip
          refine JO.gsplit (g := 31) rfl (fun hg24 => ?_) (fun hg24 => ?_)
          · have hg24' := hg24
            try simp only [decide_eq_true_eq, decide_eq_false_iff_not, Bool.not_eq_true', Bool.not_eq_false', ne_eq, Decidable.not_not, Bool.not_eq_true, Bool.and_eq_true, Bool.or_eq_true, BitVec.reduceToNat] at hg24'
            refine JO.gt (g := 32) rfl rfl hg24 ?_
            first | refine JO.v (Yv.loadOwn agg_32 (by repeat (first | exact List.Mem.head _ | refine List.Mem.tail _ ?_)) rfl (by first | rfl | (simp; done) | (simp; omega) | (simp [*]; done))) (by decide) ?_ | refine JO.v (Yv.loadOwnAt agg_32 (by repeat (first | exact List.Mem.head _ | refine List.Mem.tail _ ?_)) rfl (by first | rfl | (simp; done) | (simp; omega) | (simp [*]; done))) (by decide) ?_ | refine JO.v (Yv.loadRow agg_32 (by repeat (first | exact List.Mem.head _ | refine List.Mem.tail _ ?_)) rfl (by first | rfl | (simp; done) | (simp; omega) | (simp [*]; done))) (by decide) ?_ | refine JO.v (Yv.loadRd agg_32 (by repeat (first | exact Lend.same _ _ | exact Lend.row _ _ _ _ _ _ (by decide) | apply Lend.there)) rfl (by first | rfl | (simp; done) | (simp; omega) | (simp [*]; done))) (by decide) ?_ | refine JO.v (Yv.loadRo agg_32 (by repeat (first | exact List.Mem.head _ | refine List.Mem.tail _ ?_)) rfl (by first | rfl | (simp; done) | (simp; omega) | (simp [*]; done))) (by decide) ?_
            refine JO.gt (g := 32) rfl rfl hg24 ?_
            refine JO.v (Yv.as (v' := .agg ((wd 0).map u64).toArray) (Yv.build bld_32 rfl rfl) rfl) (by decide) ?_
            refine JO.gt (g := 32) rfl rfl hg24 ?_
            refine JO.v (Yv.as (v' := .bool (decide (totN ws = 0))) (Yv.bin rfl rfl (eql_nat wd_len' wd_len')) (congrArg Value.bool (decide_eq_decide.2 (by rw [wd_eq htl (by decide)])))) (by decide) ?_
            refine JO.v (Yv.pick1 rfl hg24 rfl) (by decide) ?_
            refine JO.nil ?_
            refine JQ.head () (by first | (refine ⟨by first | rfl | (show some _ = some _; exact congrArg (fun b => some (Value.bool b)) (decide_eq_false (by omega))), ?_⟩; repeat (first | exact trivial | refine ⟨rfl, ?_⟩))) (Subs.sub (by repeat (first | exact Subs.nil _ | apply Subs.cons | exact List.Mem.head _ | refine List.Mem.tail _ ?_))) (Picks.perm (by repeat (first | exact Picks.nil _ | apply Picks.cons | exact Pull.here _ _ | apply Pull.there))) ?_
            trivial
          · have hg24' := hg24
            try simp only [decide_eq_true_eq, decide_eq_false_iff_not, Bool.not_eq_true', Bool.not_eq_false', ne_eq, Decidable.not_not, Bool.not_eq_true, Bool.and_eq_true, Bool.or_eq_true, BitVec.reduceToNat] at hg24'
            refine JO.gf (g := 32) rfl rfl hg24 (by decide) ?_
            refine JO.gf (g := 32) rfl rfl hg24 (by decide) ?_
            refine JO.gf (g := 32) rfl rfl hg24 (by decide) ?_
            refine JO.v (Yv.pick0 rfl hg24 rfl) (by decide) ?_
            refine JO.nil ?_
            refine JQ.head () (by first | (refine ⟨by first | rfl | (show some _ = some _; exact congrArg (fun b => some (Value.bool b)) (decide_eq_false (by omega))), ?_⟩; repeat (first | exact trivial | refine ⟨rfl, ?_⟩))) (Subs.sub (by repeat (first | exact Subs.nil _ | apply Subs.cons | exact List.Mem.head _ | refine List.Mem.tail _ ?_))) (Picks.perm (by repeat (first | exact Picks.nil _ | apply Picks.cons | exact Pull.here _ _ | apply Pull.there))) ?_
            trivial
        · skip
          refine JO.v (Yv.assign rfl) (by decide) ?_
          refine JO.nil ?_
          refine JQ.then_normal ?_
          refine JC.cond rfl (fun hc2 => ?_) (fun hc2 => ?_)
          · try simp only [decide_eq_true_eq, decide_eq_false_iff_not, Bool.not_eq_true', Bool.not_eq_false', ne_eq, Decidable.not_not, Bool.not_eq_true, Bool.and_eq_true, Bool.or_eq_true, BitVec.reduceToNat] at hc2
            exact absurd hc2 (by decide)
          · try simp only [decide_eq_true_eq, decide_eq_false_iff_not, Bool.not_eq_true', Bool.not_eq_false', ne_eq, Decidable.not_not, Bool.not_eq_true, Bool.and_eq_true, Bool.or_eq_true, BitVec.reduceToNat] at hc2
            refine JC.skip ?_
            refine JQ.block_normal ?_
            refine JQ.then_normal ?_
            refine JC.seq ?_
            refine JC.region ?_
            refine JO.alloc _ zero_43 rfl (by decide) fun b7 => ?_
            refine JO.nil ?_
            refine JQ.then_normal ?_
            refine JC.seq ?_
            refine JC.region ?_
            refine JO.nilRow 50 5 ?_
            refine JO.v (Yv.move rfl) (by decide) ?_
            first | refine JO.v (Yv.len_s Try.underlying22 rfl) (by decide) ?_ | refine JO.v (Yv.lenRd Try.underlying22 rfl (by repeat (first | exact Lend.same _ _ | exact Lend.row _ _ _ _ _ _ (by decide) | apply Lend.there))) (by decide) ?_
            refine JO.make (z := _) (bytes := _) ws.length Try.underlying25 info_3 rfl rfl rfl (by first | decide | (simp; done) | (simp; omega) | omega | (simp [*]; omega)) (by unfold maxLen; omega) (by decide) fun v39 => ?_
            refine JO.v (Yv.move rfl) (by decide) ?_
            refine JO.v (Yv.assign rfl) (by decide) ?_
            refine JO.v (Yv.as (v' := it ((n : Int) - (sumQ ws n 0 : Int))) (Yv.assign rfl) (congrArg it (by simp [sumQ]))) (by decide) ?_
            refine JO.nil ?_
            refine JQ.then_normal ?_
            refine JC.seq ?_
            refine JC.seq ?_
            refine JC.region ?_
            refine JO.v (Yv.move rfl) (by decide) ?_
            first | refine JO.v (Yv.len_s Try.underlying22 rfl) (by decide) ?_ | refine JO.v (Yv.lenRd Try.underlying22 rfl (by repeat (first | exact Lend.same _ _ | exact Lend.row _ _ _ _ _ _ (by decide) | apply Lend.there))) (by decide) ?_
            refine JO.v (Yv.move rfl) (by decide) ?_
            refine JO.nil ?_
            refine JQ.then_normal ?_
            refine JC.block ?_
            refine JC.loop (ι := Nat × Value × List Lk) (fun x => x.1 ≤ ws.length ∧ x.2.2.Perm (lks ws n x.1) ∧ heapTo (K x.2.2) x.2.2.length) (fun x => [(1, it (n : Int)), (6, ptr b6 0), (7, ptr b7 0), (8, v39), (9, it ((n : Int) - (sumQ ws n x.1 : Int))), (41, u), (42, it (ws.length : Int)), (43, it (x.1 : Int))]) (fun x => [Res.rd u ws.length 1 (ws.map u64)]) (fun x => [Res.cells b6 ((wd (totN ws)).map u64) 32, Res.row v39 ws.length 3 1 ((outT ws n x.1).map it), Res.cells b7 [x.2.1] 43, Res.row x.2.1 x.2.2.length 50 5 (lkC x.2.2)]) (fun x => ws.length - x.1) (0, .slice none 0 0, []) (by repeat (first | exact trivial | refine ⟨by first | rfl | (simp; done), ?_⟩)) (Subs.sub (by repeat (first | exact Subs.nil _ | apply Subs.cons | exact List.Mem.head _ | refine List.Mem.tail _ ?_))) (Picks.perm (by rw [out_0]; repeat (first | exact Picks.nil _ | apply Picks.cons | exact Pull.here _ _ | apply Pull.there))) ?_ (fun x hx => ?_)
            · exact ⟨Nat.zero_le _, .refl _, fun k _ h => absurd h (by simp)⟩
            obtain ⟨i, vh, hs⟩ := x
            obtain ⟨hi, hp, hh⟩ := hx
            dsimp only at hi hp hh ⊢
            refine JC.seq ?_
            refine JC.region ?_
            refine JO.v (Yv.bin rfl rfl BinR.lss_i) (by decide) ?_
            refine JO.nil ?_
            refine JQ.then_normal ?_
            refine JC.seq ?_
            refine JC.cond rfl (fun hc3 => ?_) (fun hc3 => ?_)
            · try simp only [decide_eq_true_eq, decide_eq_false_iff_not, Bool.not_eq_true', Bool.not_eq_false', ne_eq, Decidable.not_not, Bool.not_eq_true, Bool.and_eq_true, Bool.or_eq_true, BitVec.reduceToNat] at hc3
              have hqb := qN_le (ws := ws) (n := n) (i := i) hl (by omega)
              have hsb := sumQ_bd (n := n) hl hn hi
              refine JC.skip ?_
              refine JQ.then_normal ?_
              refine JC.seq ?_
              refine JC.block ?_
              refine JC.seq ?_
              refine JC.region ?_
              refine JO.v (Yv.move rfl) (by decide) ?_
              first | refine JO.v (Yv.indexRow1 Try.underlying22 sz_24 rfl rfl (by repeat (first | exact List.Mem.head _ | refine List.Mem.tail _ ?_)) (by first | exact ltb rfl | (simp; done) | (simp; omega) | omega | (simp [*]; omega))) (by decide) ?_ | refine JO.v (Yv.indexRd1 Try.underlying22 sz_24 rfl rfl (by repeat (first | exact Lend.same _ _ | exact Lend.row _ _ _ _ _ _ (by decide) | apply Lend.there)) (by first | exact ltb rfl | (simp; done) | (simp; omega) | omega | (simp [*]; omega))) (by decide) ?_
              refine JO.v (Yv.load1 one_24 rfl (Kn.rd (by repeat (first | exact Lend.same _ _ | exact Lend.row _ _ _ _ _ _ (by decide) | apply Lend.there)) (by exact gm (d := 0) (by omega)))) (by decide) ?_
              refine JO.v (Yv.assign rfl) (by decide) ?_
              refine JO.v (Yv.assign rfl) (by decide) ?_
              refine JO.nil ?_
              refine JQ.then_normal ?_
              refine JC.cut (ι := Nat × Nat) (fun x => True) (fun x => [(1, it (n : Int)), (6, ptr b6 0), (7, ptr b7 0), (8, v39), (9, it ((n : Int) - (sumQ ws n i : Int))), (10, it (i : Int)), (12, ptr x.1 0), (13, ptr x.2 0), (41, u), (42, it (ws.length : Int)), (43, it (i : Int))]) (fun x => [Res.rd u ws.length 1 (ws.map u64)]) (fun x => [Res.cells b6 ((wd (totN ws)).map u64) 32, Res.row v39 ws.length 3 1 ((outT ws n i).map it), Res.cells b7 [vh] 43, Res.row vh hs.length 50 5 (lkC hs), Res.cells x.1 ((wd (qN ws n i)).map u64) 32, Res.cells x.2 ((wd (rN ws n i)).map u64) 32]) ?_ (fun x hx => ?_)
              · skip
                refine JC.draw (.one 0 (.one 1 (.one 2 (.one 4 (.alt 3 (.alt 5 (.one 6 (.one 7 (.one 8 (.one 9 (.alt 10 (.one 11 (.one 12 (.one 13 (.one 14 .nil)))) (.alt 11 (.one 10 (.one 12 (.one 13 (.one 14 .nil)))) .nil)))))) (.alt 10 (.alt 5 (.one 6 (.one 7 (.one 8 (.one 9 (.one 11 (.one 12 (.one 13 (.one 14 .nil)))))))) (.alt 11 (.one 5 (.one 6 (.one 7 (.one 8 (.one 9 (.one 12 (.one 13 (.one 14 .nil)))))))) .nil)) (.alt 11 (.alt 5 (.one 6 (.one 7 (.one 8 (.one 9 (.one 10 (.one 12 (.one 13 (.one 14 .nil)))))))) (.alt 10 (.one 5 (.one 6 (.one 7 (.one 8 (.one 9 (.one 12 (.one 13 (.one 14 .nil)))))))) .nil)) .nil))) (.alt 10 (.alt 3 (.alt 5 (.one 6 (.one 7 (.one 8 (.one 9 (.one 11 (.one 12 (.one 13 (.one 14 .nil)))))))) (.alt 11 (.one 5 (.one 6 (.one 7 (.one 8 (.one 9 (.one 12 (.one 13 (.one 14 .nil)))))))) .nil)) (.alt 11 (.one 3 (.one 5 (.one 6 (.one 7 (.one 8 (.one 9 (.one 12 (.one 13 (.one 14 .nil))))))))) .nil)) (.alt 11 (.alt 3 (.alt 5 (.one 6 (.one 7 (.one 8 (.one 9 (.one 10 (.one 12 (.one 13 (.one 14 .nil)))))))) (.alt 10 (.one 5 (.one 6 (.one 7 (.one 8 (.one 9 (.one 12 (.one 13 (.one 14 .nil)))))))) .nil)) (.alt 10 (.one 3 (.one 5 (.one 6 (.one 7 (.one 8 (.one 9 (.one 12 (.one 13 (.one 14 .nil))))))))) .nil)) .nil))))))) (fun i => ([12, 13] : List Nat).contains i) (fun i => ([3, 5, 10, 11, 12, 13] : List Nat).contains i) (fun i => ([0, 1, 2, 6, 7, 8, 9, 14] : List Nat).contains i) mixed (by kernel_rfl) (by decide) (by kernel_rfl) ?_
                refine JR.u rfl rfl rfl (Yv.move rfl) (by decide) ?_
                refine JR.u rfl rfl rfl (Yv.as (v' := u64 (BitVec.ofNat 64 n)) (Yv.conv_i_u64 Try.underlying3 Try.underlying24 rfl) (congrArg u64 (by simp))) (by decide) ?_
                refine JR.u rfl rfl rfl (Yv.move rfl) (by decide) ?_
                first | refine JR.v rfl rfl rfl (Yv.loadOwn agg_32 (by repeat (first | exact List.Mem.head _ | refine List.Mem.tail _ ?_)) rfl (by first | rfl | (simp; done) | (simp; omega) | (simp [*]; done))) (by decide) ?_ | refine JR.v rfl rfl rfl (Yv.loadOwnAt agg_32 (by repeat (first | exact List.Mem.head _ | refine List.Mem.tail _ ?_)) rfl (by first | rfl | (simp; done) | (simp; omega) | (simp [*]; done))) (by decide) ?_ | refine JR.v rfl rfl rfl (Yv.loadRow agg_32 (by repeat (first | exact List.Mem.head _ | refine List.Mem.tail _ ?_)) rfl (by first | rfl | (simp; done) | (simp; omega) | (simp [*]; done))) (by decide) ?_ | refine JR.v rfl rfl rfl (Yv.loadRd agg_32 (by repeat (first | exact Lend.same _ _ | exact Lend.row _ _ _ _ _ _ (by decide) | apply Lend.there)) rfl (by first | rfl | (simp; done) | (simp; omega) | (simp [*]; done))) (by decide) ?_ | refine JR.v rfl rfl rfl (Yv.loadRo agg_32 (by repeat (first | exact List.Mem.head _ | refine List.Mem.tail _ ?_)) rfl (by first | rfl | (simp; done) | (simp; omega) | (simp [*]; done))) (by decide) ?_
                refine JR.alt rfl ?_ ?_
                · skip
                  refine JR.m rfl rfl (Mv.callB body_21 rfl (f21_spec (BitVec.ofNat 64 n) (ws.getD i 0)) (by repeat (first | exact Picks.nil _ | apply Picks.cons | exact Pull.here _ _ | apply Pull.there)) (by repeat (first | exact Lends.nil _ | apply Lends.cons | exact Lend.same _ _ | exact Lend.row _ _ _ _ _ _ (by decide) | apply Lend.there)) (by rintro _ _ _ ⟨_, h, _⟩; exact h)) (by decide) ?_
                  rintro _ _ _ ⟨_, ⟨rfl, _, rfl⟩, hΓ, hH⟩
                  simp only [List.cons_append, List.nil_append] at hH; subst hΓ hH
                  refine ⟨⟨Subs.sub (by repeat (first | exact Subs.nil _ | apply Subs.cons | exact List.Mem.head _ | refine List.Mem.tail _ ?_)), .inr (St.keep (by repeat (first | exact Subs.nil _ | apply Subs.cons | exact List.Mem.head _ | refine List.Mem.tail _ ?_)) (by repeat (first | exact Picks.nil _ | apply Picks.cons | exact Pull.here _ _ | apply Pull.there)))⟩, ?_⟩
                  refine JR.alt rfl ?_ ?_
                  · skip
                    refine JR.m rfl rfl (Mv.callB body_20 rfl (f20_spec ((BitVec.ofNat 64 n).toNat * (ws.getD i 0).toNat) (totN ws) (prod_lt _ _) htl) (by repeat (first | exact Picks.nil _ | apply Picks.cons | exact Pull.here _ _ | apply Pull.there)) (by repeat (first | exact Lends.nil _ | apply Lends.cons | exact Lend.same _ _ | exact Lend.row _ _ _ _ _ _ (by decide) | apply Lend.there)) (by rintro _ _ _ ⟨_, h, _⟩; exact h)) (by decide) ?_
                    rintro _ _ _ ⟨_, ⟨rfl, _, rfl⟩, hΓ, hH⟩
                    simp only [List.cons_append, List.nil_append] at hH; subst hΓ hH
                    rw [show (BitVec.ofNat 64 n).toNat = n from by rw [BitVec.toNat_ofNat]; omega]
                    refine ⟨⟨Subs.sub (by repeat (first | exact Subs.nil _ | apply Subs.cons | exact List.Mem.head _ | refine List.Mem.tail _ ?_)), .inr (St.keep (by repeat (first | exact Subs.nil _ | apply Subs.cons | exact List.Mem.head _ | refine List.Mem.tail _ ?_)) (by repeat (first | exact Picks.nil _ | apply Picks.cons | exact Pull.here _ _ | apply Pull.there)))⟩, ?_⟩
                    refine JR.u rfl rfl rfl (Yv.move rfl) (by decide) ?_
                    refine JR.u rfl rfl rfl (Yv.as (v' := .agg ((wd (qN ws n i)).map u64).toArray) (Yv.extract rfl rfl) rfl) (by decide) ?_
                    refine JR.u rfl rfl rfl (Yv.as (v' := .agg ((wd (rN ws n i)).map u64).toArray) (Yv.extract rfl rfl) rfl) (by decide) ?_
                    refine JR.u rfl rfl rfl (Yv.as (v' := it (if totN ws = 0 then 11 else 0)) (Yv.extract rfl rfl) rfl) (by decide) ?_
                    refine JR.alt rfl ?_ ?_
                    · skip
                      refine JR.m rfl rfl (Mv.alloc zero_32) (by decide) ?_
                      rintro _ _ _ ⟨b12, rfl, rfl, rfl⟩
                      refine ⟨⟨Subs.sub (by repeat (first | exact Subs.nil _ | apply Subs.cons | exact List.Mem.head _ | refine List.Mem.tail _ ?_)), .inr (St.keep (by repeat (first | exact Subs.nil _ | apply Subs.cons | exact List.Mem.head _ | refine List.Mem.tail _ ?_)) (by repeat (first | exact Picks.nil _ | apply Picks.cons | exact Pull.here _ _ | apply Pull.there)))⟩, ?_⟩
                      refine JR.m rfl rfl (Mv.alloc zero_32) (by decide) ?_
                      rintro _ _ _ ⟨b13, rfl, rfl, rfl⟩
                      refine ⟨⟨Subs.sub (by repeat (first | exact Subs.nil _ | apply Subs.cons | exact List.Mem.head _ | refine List.Mem.tail _ ?_)), .inr (St.keep (by repeat (first | exact Subs.nil _ | apply Subs.cons | exact List.Mem.head _ | refine List.Mem.tail _ ?_)) (by repeat (first | exact Picks.nil _ | apply Picks.cons | exact Pull.here _ _ | apply Pull.there)))⟩, ?_⟩
                      refine JR.m0 rfl rfl (Mv.storeAll sz_32 rfl rfl rfl (by first | rfl | (simp; done) | (simp; omega)) (by first | (simp; done) | exact one_sing rfl | exact one_map (fun _ => rfl) | exact one_piece (one_map (fun _ => rfl)) | exact one_tab (fun _ => rfl) | exact one_tab (fun _ => by split <;> rfl)) (by repeat (first | exact Upd.here _ _ _ | apply Upd.there)) (by first | rfl | (simp; done) | (simp; omega))) ?_
                      rintro _ _ _ ⟨rfl, rfl⟩
                      refine ⟨⟨Subs.sub (by repeat (first | exact Subs.nil _ | apply Subs.cons | exact List.Mem.head _ | refine List.Mem.tail _ ?_)), .inl rfl⟩, ?_⟩
                      refine JR.m0 rfl rfl (Mv.storeAll sz_32 rfl rfl rfl (by first | rfl | (simp; done) | (simp; omega)) (by first | (simp; done) | exact one_sing rfl | exact one_map (fun _ => rfl) | exact one_piece (one_map (fun _ => rfl)) | exact one_tab (fun _ => rfl) | exact one_tab (fun _ => by split <;> rfl)) (by repeat (first | exact Upd.here _ _ _ | apply Upd.there)) (by first | rfl | (simp; done) | (simp; omega))) ?_
                      rintro _ _ _ ⟨rfl, rfl⟩
                      refine ⟨⟨Subs.sub (by repeat (first | exact Subs.nil _ | apply Subs.cons | exact List.Mem.head _ | refine List.Mem.tail _ ?_)), .inl rfl⟩, ?_⟩
                      refine JR.u rfl rfl rfl (Yv.assign rfl) (by decide) ?_
                      refine JR.nil ?_
                      refine JQ.head (b12, b13) (by repeat (first | exact trivial | refine ⟨by first | rfl | (simp; done), ?_⟩)) (Subs.sub (by repeat (first | exact Subs.nil _ | apply Subs.cons | exact List.Mem.head _ | refine List.Mem.tail _ ?_))) (Picks.perm (by repeat (first | exact Picks.nil _ | apply Picks.cons | exact Pull.here _ _ | apply Pull.there))) ?_
                      trivial
                    refine JA.alt rfl ?_ ?_
                    · skip
                      refine JR.m rfl rfl (Mv.alloc zero_32) (by decide) ?_
                      rintro _ _ _ ⟨b13, rfl, rfl, rfl⟩
                      refine ⟨⟨Subs.sub (by repeat (first | exact Subs.nil _ | apply Subs.cons | exact List.Mem.head _ | refine List.Mem.tail _ ?_)), .inr (St.keep (by repeat (first | exact Subs.nil _ | apply Subs.cons | exact List.Mem.head _ | refine List.Mem.tail _ ?_)) (by repeat (first | exact Picks.nil _ | apply Picks.cons | exact Pull.here _ _ | apply Pull.there)))⟩, ?_⟩
                      refine JR.m rfl rfl (Mv.alloc zero_32) (by decide) ?_
                      rintro _ _ _ ⟨b12, rfl, rfl, rfl⟩
                      refine ⟨⟨Subs.sub (by repeat (first | exact Subs.nil _ | apply Subs.cons | exact List.Mem.head _ | refine List.Mem.tail _ ?_)), .inr (St.keep (by repeat (first | exact Subs.nil _ | apply Subs.cons | exact List.Mem.head _ | refine List.Mem.tail _ ?_)) (by repeat (first | exact Picks.nil _ | apply Picks.cons | exact Pull.here _ _ | apply Pull.there)))⟩, ?_⟩
                      refine JR.m0 rfl rfl (Mv.storeAll sz_32 rfl rfl rfl (by first | rfl | (simp; done) | (simp; omega)) (by first | (simp; done) | exact one_sing rfl | exact one_map (fun _ => rfl) | exact one_piece (one_map (fun _ => rfl)) | exact one_tab (fun _ => rfl) | exact one_tab (fun _ => by split <;> rfl)) (by repeat (first | exact Upd.here _ _ _ | apply Upd.there)) (by first | rfl | (simp; done) | (simp; omega))) ?_
                      rintro _ _ _ ⟨rfl, rfl⟩
                      refine ⟨⟨Subs.sub (by repeat (first | exact Subs.nil _ | apply Subs.cons | exact List.Mem.head _ | refine List.Mem.tail _ ?_)), .inl rfl⟩, ?_⟩
                      refine JR.m0 rfl rfl (Mv.storeAll sz_32 rfl rfl rfl (by first | rfl | (simp; done) | (simp; omega)) (by first | (simp; done) | exact one_sing rfl | exact one_map (fun _ => rfl) | exact one_piece (one_map (fun _ => rfl)) | exact one_tab (fun _ => rfl) | exact one_tab (fun _ => by split <;> rfl)) (by repeat (first | exact Upd.here _ _ _ | apply Upd.there)) (by first | rfl | (simp; done) | (simp; omega))) ?_
                      rintro _ _ _ ⟨rfl, rfl⟩
                      refine ⟨⟨Subs.sub (by repeat (first | exact Subs.nil _ | apply Subs.cons | exact List.Mem.head _ | refine List.Mem.tail _ ?_)), .inl rfl⟩, ?_⟩
                      refine JR.u rfl rfl rfl (Yv.assign rfl) (by decide) ?_
                      refine JR.nil ?_
                      refine JQ.head (b12, b13) (by repeat (first | exact trivial | refine ⟨by first | rfl | (simp; done), ?_⟩)) (Subs.sub (by repeat (first | exact Subs.nil _ | apply Subs.cons | exact List.Mem.head _ | refine List.Mem.tail _ ?_))) (Picks.perm (by repeat (first | exact Picks.nil _ | apply Picks.cons | exact Pull.here _ _ | apply Pull.there))) ?_
                      trivial
                    exact JA.nil
                  refine JA.alt rfl ?_ ?_
                  · skip
                    refine JR.m rfl rfl (Mv.alloc zero_32) (by decide) ?_
                    rintro _ _ _ ⟨b12, rfl, rfl, rfl⟩
                    refine ⟨⟨Subs.sub (by repeat (first | exact Subs.nil _ | apply Subs.cons | exact List.Mem.head _ | refine List.Mem.tail _ ?_)), .inr (St.keep (by repeat (first | exact Subs.nil _ | apply Subs.cons | exact List.Mem.head _ | refine List.Mem.tail _ ?_)) (by repeat (first | exact Picks.nil _ | apply Picks.cons | exact Pull.here _ _ | apply Pull.there)))⟩, ?_⟩
                    refine JR.alt rfl ?_ ?_
                    · skip
                      refine JR.m rfl rfl (Mv.callB body_20 rfl (f20_spec ((BitVec.ofNat 64 n).toNat * (ws.getD i 0).toNat) (totN ws) (prod_lt _ _) htl) (by repeat (first | exact Picks.nil _ | apply Picks.cons | exact Pull.here _ _ | apply Pull.there)) (by repeat (first | exact Lends.nil _ | apply Lends.cons | exact Lend.same _ _ | exact Lend.row _ _ _ _ _ _ (by decide) | apply Lend.there)) (by rintro _ _ _ ⟨_, h, _⟩; exact h)) (by decide) ?_
                      rintro _ _ _ ⟨_, ⟨rfl, _, rfl⟩, hΓ, hH⟩
                      simp only [List.cons_append, List.nil_append] at hH; subst hΓ hH
                      rw [show (BitVec.ofNat 64 n).toNat = n from by rw [BitVec.toNat_ofNat]; omega]
                      refine ⟨⟨Subs.sub (by repeat (first | exact Subs.nil _ | apply Subs.cons | exact List.Mem.head _ | refine List.Mem.tail _ ?_)), .inr (St.keep (by repeat (first | exact Subs.nil _ | apply Subs.cons | exact List.Mem.head _ | refine List.Mem.tail _ ?_)) (by repeat (first | exact Picks.nil _ | apply Picks.cons | exact Pull.here _ _ | apply Pull.there)))⟩, ?_⟩
                      refine JR.u rfl rfl rfl (Yv.move rfl) (by decide) ?_
                      refine JR.u rfl rfl rfl (Yv.as (v' := .agg ((wd (qN ws n i)).map u64).toArray) (Yv.extract rfl rfl) rfl) (by decide) ?_
                      refine JR.u rfl rfl rfl (Yv.as (v' := .agg ((wd (rN ws n i)).map u64).toArray) (Yv.extract rfl rfl) rfl) (by decide) ?_
                      refine JR.u rfl rfl rfl (Yv.as (v' := it (if totN ws = 0 then 11 else 0)) (Yv.extract rfl rfl) rfl) (by decide) ?_
                      refine JR.m rfl rfl (Mv.alloc zero_32) (by decide) ?_
                      rintro _ _ _ ⟨b13, rfl, rfl, rfl⟩
                      refine ⟨⟨Subs.sub (by repeat (first | exact Subs.nil _ | apply Subs.cons | exact List.Mem.head _ | refine List.Mem.tail _ ?_)), .inr (St.keep (by repeat (first | exact Subs.nil _ | apply Subs.cons | exact List.Mem.head _ | refine List.Mem.tail _ ?_)) (by repeat (first | exact Picks.nil _ | apply Picks.cons | exact Pull.here _ _ | apply Pull.there)))⟩, ?_⟩
                      refine JR.m0 rfl rfl (Mv.storeAll sz_32 rfl rfl rfl (by first | rfl | (simp; done) | (simp; omega)) (by first | (simp; done) | exact one_sing rfl | exact one_map (fun _ => rfl) | exact one_piece (one_map (fun _ => rfl)) | exact one_tab (fun _ => rfl) | exact one_tab (fun _ => by split <;> rfl)) (by repeat (first | exact Upd.here _ _ _ | apply Upd.there)) (by first | rfl | (simp; done) | (simp; omega))) ?_
                      rintro _ _ _ ⟨rfl, rfl⟩
                      refine ⟨⟨Subs.sub (by repeat (first | exact Subs.nil _ | apply Subs.cons | exact List.Mem.head _ | refine List.Mem.tail _ ?_)), .inl rfl⟩, ?_⟩
                      refine JR.m0 rfl rfl (Mv.storeAll sz_32 rfl rfl rfl (by first | rfl | (simp; done) | (simp; omega)) (by first | (simp; done) | exact one_sing rfl | exact one_map (fun _ => rfl) | exact one_piece (one_map (fun _ => rfl)) | exact one_tab (fun _ => rfl) | exact one_tab (fun _ => by split <;> rfl)) (by repeat (first | exact Upd.here _ _ _ | apply Upd.there)) (by first | rfl | (simp; done) | (simp; omega))) ?_
                      rintro _ _ _ ⟨rfl, rfl⟩
                      refine ⟨⟨Subs.sub (by repeat (first | exact Subs.nil _ | apply Subs.cons | exact List.Mem.head _ | refine List.Mem.tail _ ?_)), .inl rfl⟩, ?_⟩
                      refine JR.u rfl rfl rfl (Yv.assign rfl) (by decide) ?_
                      refine JR.nil ?_
                      refine JQ.head (b12, b13) (by repeat (first | exact trivial | refine ⟨by first | rfl | (simp; done), ?_⟩)) (Subs.sub (by repeat (first | exact Subs.nil _ | apply Subs.cons | exact List.Mem.head _ | refine List.Mem.tail _ ?_))) (Picks.perm (by repeat (first | exact Picks.nil _ | apply Picks.cons | exact Pull.here _ _ | apply Pull.there))) ?_
                      trivial
                    refine JA.alt rfl ?_ ?_
                    · skip
                      refine JR.m rfl rfl (Mv.alloc zero_32) (by decide) ?_
                      rintro _ _ _ ⟨b13, rfl, rfl, rfl⟩
                      refine ⟨⟨Subs.sub (by repeat (first | exact Subs.nil _ | apply Subs.cons | exact List.Mem.head _ | refine List.Mem.tail _ ?_)), .inr (St.keep (by repeat (first | exact Subs.nil _ | apply Subs.cons | exact List.Mem.head _ | refine List.Mem.tail _ ?_)) (by repeat (first | exact Picks.nil _ | apply Picks.cons | exact Pull.here _ _ | apply Pull.there)))⟩, ?_⟩
                      refine JR.m rfl rfl (Mv.callB body_20 rfl (f20_spec ((BitVec.ofNat 64 n).toNat * (ws.getD i 0).toNat) (totN ws) (prod_lt _ _) htl) (by repeat (first | exact Picks.nil _ | apply Picks.cons | exact Pull.here _ _ | apply Pull.there)) (by repeat (first | exact Lends.nil _ | apply Lends.cons | exact Lend.same _ _ | exact Lend.row _ _ _ _ _ _ (by decide) | apply Lend.there)) (by rintro _ _ _ ⟨_, h, _⟩; exact h)) (by decide) ?_
                      rintro _ _ _ ⟨_, ⟨rfl, _, rfl⟩, hΓ, hH⟩
                      simp only [List.cons_append, List.nil_append] at hH; subst hΓ hH
                      rw [show (BitVec.ofNat 64 n).toNat = n from by rw [BitVec.toNat_ofNat]; omega]
                      refine ⟨⟨Subs.sub (by repeat (first | exact Subs.nil _ | apply Subs.cons | exact List.Mem.head _ | refine List.Mem.tail _ ?_)), .inr (St.keep (by repeat (first | exact Subs.nil _ | apply Subs.cons | exact List.Mem.head _ | refine List.Mem.tail _ ?_)) (by repeat (first | exact Picks.nil _ | apply Picks.cons | exact Pull.here _ _ | apply Pull.there)))⟩, ?_⟩
                      refine JR.u rfl rfl rfl (Yv.move rfl) (by decide) ?_
                      refine JR.u rfl rfl rfl (Yv.as (v' := .agg ((wd (qN ws n i)).map u64).toArray) (Yv.extract rfl rfl) rfl) (by decide) ?_
                      refine JR.u rfl rfl rfl (Yv.as (v' := .agg ((wd (rN ws n i)).map u64).toArray) (Yv.extract rfl rfl) rfl) (by decide) ?_
                      refine JR.u rfl rfl rfl (Yv.as (v' := it (if totN ws = 0 then 11 else 0)) (Yv.extract rfl rfl) rfl) (by decide) ?_
                      refine JR.m0 rfl rfl (Mv.storeAll sz_32 rfl rfl rfl (by first | rfl | (simp; done) | (simp; omega)) (by first | (simp; done) | exact one_sing rfl | exact one_map (fun _ => rfl) | exact one_piece (one_map (fun _ => rfl)) | exact one_tab (fun _ => rfl) | exact one_tab (fun _ => by split <;> rfl)) (by repeat (first | exact Upd.here _ _ _ | apply Upd.there)) (by first | rfl | (simp; done) | (simp; omega))) ?_
                      rintro _ _ _ ⟨rfl, rfl⟩
                      refine ⟨⟨Subs.sub (by repeat (first | exact Subs.nil _ | apply Subs.cons | exact List.Mem.head _ | refine List.Mem.tail _ ?_)), .inl rfl⟩, ?_⟩
                      refine JR.m0 rfl rfl (Mv.storeAll sz_32 rfl rfl rfl (by first | rfl | (simp; done) | (simp; omega)) (by first | (simp; done) | exact one_sing rfl | exact one_map (fun _ => rfl) | exact one_piece (one_map (fun _ => rfl)) | exact one_tab (fun _ => rfl) | exact one_tab (fun _ => by split <;> rfl)) (by repeat (first | exact Upd.here _ _ _ | apply Upd.there)) (by first | rfl | (simp; done) | (simp; omega))) ?_
                      rintro _ _ _ ⟨rfl, rfl⟩
                      refine ⟨⟨Subs.sub (by repeat (first | exact Subs.nil _ | apply Subs.cons | exact List.Mem.head _ | refine List.Mem.tail _ ?_)), .inl rfl⟩, ?_⟩
                      refine JR.u rfl rfl rfl (Yv.assign rfl) (by decide) ?_
                      refine JR.nil ?_
                      refine JQ.head (b12, b13) (by repeat (first | exact trivial | refine ⟨by first | rfl | (simp; done), ?_⟩)) (Subs.sub (by repeat (first | exact Subs.nil _ | apply Subs.cons | exact List.Mem.head _ | refine List.Mem.tail _ ?_))) (Picks.perm (by repeat (first | exact Picks.nil _ | apply Picks.cons | exact Pull.here _ _ | apply Pull.there))) ?_
                      trivial
                    exact JA.nil
                  refine JA.alt rfl ?_ ?_
                  · skip
                    refine JR.m rfl rfl (Mv.alloc zero_32) (by decide) ?_
                    rintro _ _ _ ⟨b13, rfl, rfl, rfl⟩
                    refine ⟨⟨Subs.sub (by repeat (first | exact Subs.nil _ | apply Subs.cons | exact List.Mem.head _ | refine List.Mem.tail _ ?_)), .inr (St.keep (by repeat (first | exact Subs.nil _ | apply Subs.cons | exact List.Mem.head _ | refine List.Mem.tail _ ?_)) (by repeat (first | exact Picks.nil _ | apply Picks.cons | exact Pull.here _ _ | apply Pull.there)))⟩, ?_⟩
                    refine JR.alt rfl ?_ ?_
                    · skip
                      refine JR.m rfl rfl (Mv.callB body_20 rfl (f20_spec ((BitVec.ofNat 64 n).toNat * (ws.getD i 0).toNat) (totN ws) (prod_lt _ _) htl) (by repeat (first | exact Picks.nil _ | apply Picks.cons | exact Pull.here _ _ | apply Pull.there)) (by repeat (first | exact Lends.nil _ | apply Lends.cons | exact Lend.same _ _ | exact Lend.row _ _ _ _ _ _ (by decide) | apply Lend.there)) (by rintro _ _ _ ⟨_, h, _⟩; exact h)) (by decide) ?_
                      rintro _ _ _ ⟨_, ⟨rfl, _, rfl⟩, hΓ, hH⟩
                      simp only [List.cons_append, List.nil_append] at hH; subst hΓ hH
                      rw [show (BitVec.ofNat 64 n).toNat = n from by rw [BitVec.toNat_ofNat]; omega]
                      refine ⟨⟨Subs.sub (by repeat (first | exact Subs.nil _ | apply Subs.cons | exact List.Mem.head _ | refine List.Mem.tail _ ?_)), .inr (St.keep (by repeat (first | exact Subs.nil _ | apply Subs.cons | exact List.Mem.head _ | refine List.Mem.tail _ ?_)) (by repeat (first | exact Picks.nil _ | apply Picks.cons | exact Pull.here _ _ | apply Pull.there)))⟩, ?_⟩
                      refine JR.u rfl rfl rfl (Yv.move rfl) (by decide) ?_
                      refine JR.u rfl rfl rfl (Yv.as (v' := .agg ((wd (qN ws n i)).map u64).toArray) (Yv.extract rfl rfl) rfl) (by decide) ?_
                      refine JR.u rfl rfl rfl (Yv.as (v' := .agg ((wd (rN ws n i)).map u64).toArray) (Yv.extract rfl rfl) rfl) (by decide) ?_
                      refine JR.u rfl rfl rfl (Yv.as (v' := it (if totN ws = 0 then 11 else 0)) (Yv.extract rfl rfl) rfl) (by decide) ?_
                      refine JR.m rfl rfl (Mv.alloc zero_32) (by decide) ?_
                      rintro _ _ _ ⟨b12, rfl, rfl, rfl⟩
                      refine ⟨⟨Subs.sub (by repeat (first | exact Subs.nil _ | apply Subs.cons | exact List.Mem.head _ | refine List.Mem.tail _ ?_)), .inr (St.keep (by repeat (first | exact Subs.nil _ | apply Subs.cons | exact List.Mem.head _ | refine List.Mem.tail _ ?_)) (by repeat (first | exact Picks.nil _ | apply Picks.cons | exact Pull.here _ _ | apply Pull.there)))⟩, ?_⟩
                      refine JR.m0 rfl rfl (Mv.storeAll sz_32 rfl rfl rfl (by first | rfl | (simp; done) | (simp; omega)) (by first | (simp; done) | exact one_sing rfl | exact one_map (fun _ => rfl) | exact one_piece (one_map (fun _ => rfl)) | exact one_tab (fun _ => rfl) | exact one_tab (fun _ => by split <;> rfl)) (by repeat (first | exact Upd.here _ _ _ | apply Upd.there)) (by first | rfl | (simp; done) | (simp; omega))) ?_
                      rintro _ _ _ ⟨rfl, rfl⟩
                      refine ⟨⟨Subs.sub (by repeat (first | exact Subs.nil _ | apply Subs.cons | exact List.Mem.head _ | refine List.Mem.tail _ ?_)), .inl rfl⟩, ?_⟩
                      refine JR.m0 rfl rfl (Mv.storeAll sz_32 rfl rfl rfl (by first | rfl | (simp; done) | (simp; omega)) (by first | (simp; done) | exact one_sing rfl | exact one_map (fun _ => rfl) | exact one_piece (one_map (fun _ => rfl)) | exact one_tab (fun _ => rfl) | exact one_tab (fun _ => by split <;> rfl)) (by repeat (first | exact Upd.here _ _ _ | apply Upd.there)) (by first | rfl | (simp; done) | (simp; omega))) ?_
                      rintro _ _ _ ⟨rfl, rfl⟩
                      refine ⟨⟨Subs.sub (by repeat (first | exact Subs.nil _ | apply Subs.cons | exact List.Mem.head _ | refine List.Mem.tail _ ?_)), .inl rfl⟩, ?_⟩
                      refine JR.u rfl rfl rfl (Yv.assign rfl) (by decide) ?_
                      refine JR.nil ?_
                      refine JQ.head (b12, b13) (by repeat (first | exact trivial | refine ⟨by first | rfl | (simp; done), ?_⟩)) (Subs.sub (by repeat (first | exact Subs.nil _ | apply Subs.cons | exact List.Mem.head _ | refine List.Mem.tail _ ?_))) (Picks.perm (by repeat (first | exact Picks.nil _ | apply Picks.cons | exact Pull.here _ _ | apply Pull.there))) ?_
                      trivial
                    refine JA.alt rfl ?_ ?_
                    · skip
                      refine JR.m rfl rfl (Mv.alloc zero_32) (by decide) ?_
                      rintro _ _ _ ⟨b12, rfl, rfl, rfl⟩
                      refine ⟨⟨Subs.sub (by repeat (first | exact Subs.nil _ | apply Subs.cons | exact List.Mem.head _ | refine List.Mem.tail _ ?_)), .inr (St.keep (by repeat (first | exact Subs.nil _ | apply Subs.cons | exact List.Mem.head _ | refine List.Mem.tail _ ?_)) (by repeat (first | exact Picks.nil _ | apply Picks.cons | exact Pull.here _ _ | apply Pull.there)))⟩, ?_⟩
                      refine JR.m rfl rfl (Mv.callB body_20 rfl (f20_spec ((BitVec.ofNat 64 n).toNat * (ws.getD i 0).toNat) (totN ws) (prod_lt _ _) htl) (by repeat (first | exact Picks.nil _ | apply Picks.cons | exact Pull.here _ _ | apply Pull.there)) (by repeat (first | exact Lends.nil _ | apply Lends.cons | exact Lend.same _ _ | exact Lend.row _ _ _ _ _ _ (by decide) | apply Lend.there)) (by rintro _ _ _ ⟨_, h, _⟩; exact h)) (by decide) ?_
                      rintro _ _ _ ⟨_, ⟨rfl, _, rfl⟩, hΓ, hH⟩
                      simp only [List.cons_append, List.nil_append] at hH; subst hΓ hH
                      rw [show (BitVec.ofNat 64 n).toNat = n from by rw [BitVec.toNat_ofNat]; omega]
                      refine ⟨⟨Subs.sub (by repeat (first | exact Subs.nil _ | apply Subs.cons | exact List.Mem.head _ | refine List.Mem.tail _ ?_)), .inr (St.keep (by repeat (first | exact Subs.nil _ | apply Subs.cons | exact List.Mem.head _ | refine List.Mem.tail _ ?_)) (by repeat (first | exact Picks.nil _ | apply Picks.cons | exact Pull.here _ _ | apply Pull.there)))⟩, ?_⟩
                      refine JR.u rfl rfl rfl (Yv.move rfl) (by decide) ?_
                      refine JR.u rfl rfl rfl (Yv.as (v' := .agg ((wd (qN ws n i)).map u64).toArray) (Yv.extract rfl rfl) rfl) (by decide) ?_
                      refine JR.u rfl rfl rfl (Yv.as (v' := .agg ((wd (rN ws n i)).map u64).toArray) (Yv.extract rfl rfl) rfl) (by decide) ?_
                      refine JR.u rfl rfl rfl (Yv.as (v' := it (if totN ws = 0 then 11 else 0)) (Yv.extract rfl rfl) rfl) (by decide) ?_
                      refine JR.m0 rfl rfl (Mv.storeAll sz_32 rfl rfl rfl (by first | rfl | (simp; done) | (simp; omega)) (by first | (simp; done) | exact one_sing rfl | exact one_map (fun _ => rfl) | exact one_piece (one_map (fun _ => rfl)) | exact one_tab (fun _ => rfl) | exact one_tab (fun _ => by split <;> rfl)) (by repeat (first | exact Upd.here _ _ _ | apply Upd.there)) (by first | rfl | (simp; done) | (simp; omega))) ?_
                      rintro _ _ _ ⟨rfl, rfl⟩
                      refine ⟨⟨Subs.sub (by repeat (first | exact Subs.nil _ | apply Subs.cons | exact List.Mem.head _ | refine List.Mem.tail _ ?_)), .inl rfl⟩, ?_⟩
                      refine JR.m0 rfl rfl (Mv.storeAll sz_32 rfl rfl rfl (by first | rfl | (simp; done) | (simp; omega)) (by first | (simp; done) | exact one_sing rfl | exact one_map (fun _ => rfl) | exact one_piece (one_map (fun _ => rfl)) | exact one_tab (fun _ => rfl) | exact one_tab (fun _ => by split <;> rfl)) (by repeat (first | exact Upd.here _ _ _ | apply Upd.there)) (by first | rfl | (simp; done) | (simp; omega))) ?_
                      rintro _ _ _ ⟨rfl, rfl⟩
                      refine ⟨⟨Subs.sub (by repeat (first | exact Subs.nil _ | apply Subs.cons | exact List.Mem.head _ | refine List.Mem.tail _ ?_)), .inl rfl⟩, ?_⟩
                      refine JR.u rfl rfl rfl (Yv.assign rfl) (by decide) ?_
                      refine JR.nil ?_
                      refine JQ.head (b12, b13) (by repeat (first | exact trivial | refine ⟨by first | rfl | (simp; done), ?_⟩)) (Subs.sub (by repeat (first | exact Subs.nil _ | apply Subs.cons | exact List.Mem.head _ | refine List.Mem.tail _ ?_))) (Picks.perm (by repeat (first | exact Picks.nil _ | apply Picks.cons | exact Pull.here _ _ | apply Pull.there))) ?_
                      trivial
                    exact JA.nil
                  exact JA.nil
                refine JA.alt rfl ?_ ?_
                · skip
                  refine JR.m rfl rfl (Mv.alloc zero_32) (by decide) ?_
                  rintro _ _ _ ⟨b12, rfl, rfl, rfl⟩
                  refine ⟨⟨Subs.sub (by repeat (first | exact Subs.nil _ | apply Subs.cons | exact List.Mem.head _ | refine List.Mem.tail _ ?_)), .inr (St.keep (by repeat (first | exact Subs.nil _ | apply Subs.cons | exact List.Mem.head _ | refine List.Mem.tail _ ?_)) (by repeat (first | exact Picks.nil _ | apply Picks.cons | exact Pull.here _ _ | apply Pull.there)))⟩, ?_⟩
                  refine JR.alt rfl ?_ ?_
                  · skip
                    refine JR.m rfl rfl (Mv.callB body_21 rfl (f21_spec (BitVec.ofNat 64 n) (ws.getD i 0)) (by repeat (first | exact Picks.nil _ | apply Picks.cons | exact Pull.here _ _ | apply Pull.there)) (by repeat (first | exact Lends.nil _ | apply Lends.cons | exact Lend.same _ _ | exact Lend.row _ _ _ _ _ _ (by decide) | apply Lend.there)) (by rintro _ _ _ ⟨_, h, _⟩; exact h)) (by decide) ?_
                    rintro _ _ _ ⟨_, ⟨rfl, _, rfl⟩, hΓ, hH⟩
                    simp only [List.cons_append, List.nil_append] at hH; subst hΓ hH
                    refine ⟨⟨Subs.sub (by repeat (first | exact Subs.nil _ | apply Subs.cons | exact List.Mem.head _ | refine List.Mem.tail _ ?_)), .inr (St.keep (by repeat (first | exact Subs.nil _ | apply Subs.cons | exact List.Mem.head _ | refine List.Mem.tail _ ?_)) (by repeat (first | exact Picks.nil _ | apply Picks.cons | exact Pull.here _ _ | apply Pull.there)))⟩, ?_⟩
                    refine JR.alt rfl ?_ ?_
                    · skip
                      refine JR.m rfl rfl (Mv.callB body_20 rfl (f20_spec ((BitVec.ofNat 64 n).toNat * (ws.getD i 0).toNat) (totN ws) (prod_lt _ _) htl) (by repeat (first | exact Picks.nil _ | apply Picks.cons | exact Pull.here _ _ | apply Pull.there)) (by repeat (first | exact Lends.nil _ | apply Lends.cons | exact Lend.same _ _ | exact Lend.row _ _ _ _ _ _ (by decide) | apply Lend.there)) (by rintro _ _ _ ⟨_, h, _⟩; exact h)) (by decide) ?_
                      rintro _ _ _ ⟨_, ⟨rfl, _, rfl⟩, hΓ, hH⟩
                      simp only [List.cons_append, List.nil_append] at hH; subst hΓ hH
                      rw [show (BitVec.ofNat 64 n).toNat = n from by rw [BitVec.toNat_ofNat]; omega]
                      refine ⟨⟨Subs.sub (by repeat (first | exact Subs.nil _ | apply Subs.cons | exact List.Mem.head _ | refine List.Mem.tail _ ?_)), .inr (St.keep (by repeat (first | exact Subs.nil _ | apply Subs.cons | exact List.Mem.head _ | refine List.Mem.tail _ ?_)) (by repeat (first | exact Picks.nil _ | apply Picks.cons | exact Pull.here _ _ | apply Pull.there)))⟩, ?_⟩
                      refine JR.u rfl rfl rfl (Yv.move rfl) (by decide) ?_
                      refine JR.u rfl rfl rfl (Yv.as (v' := .agg ((wd (qN ws n i)).map u64).toArray) (Yv.extract rfl rfl) rfl) (by decide) ?_
                      refine JR.u rfl rfl rfl (Yv.as (v' := .agg ((wd (rN ws n i)).map u64).toArray) (Yv.extract rfl rfl) rfl) (by decide) ?_
                      refine JR.u rfl rfl rfl (Yv.as (v' := it (if totN ws = 0 then 11 else 0)) (Yv.extract rfl rfl) rfl) (by decide) ?_
                      refine JR.m rfl rfl (Mv.alloc zero_32) (by decide) ?_
                      rintro _ _ _ ⟨b13, rfl, rfl, rfl⟩
                      refine ⟨⟨Subs.sub (by repeat (first | exact Subs.nil _ | apply Subs.cons | exact List.Mem.head _ | refine List.Mem.tail _ ?_)), .inr (St.keep (by repeat (first | exact Subs.nil _ | apply Subs.cons | exact List.Mem.head _ | refine List.Mem.tail _ ?_)) (by repeat (first | exact Picks.nil _ | apply Picks.cons | exact Pull.here _ _ | apply Pull.there)))⟩, ?_⟩
                      refine JR.m0 rfl rfl (Mv.storeAll sz_32 rfl rfl rfl (by first | rfl | (simp; done) | (simp; omega)) (by first | (simp; done) | exact one_sing rfl | exact one_map (fun _ => rfl) | exact one_piece (one_map (fun _ => rfl)) | exact one_tab (fun _ => rfl) | exact one_tab (fun _ => by split <;> rfl)) (by repeat (first | exact Upd.here _ _ _ | apply Upd.there)) (by first | rfl | (simp; done) | (simp; omega))) ?_
                      rintro _ _ _ ⟨rfl, rfl⟩
                      refine ⟨⟨Subs.sub (by repeat (first | exact Subs.nil _ | apply Subs.cons | exact List.Mem.head _ | refine List.Mem.tail _ ?_)), .inl rfl⟩, ?_⟩
                      refine JR.m0 rfl rfl (Mv.storeAll sz_32 rfl rfl rfl (by first | rfl | (simp; done) | (simp; omega)) (by first | (simp; done) | exact one_sing rfl | exact one_map (fun _ => rfl) | exact one_piece (one_map (fun _ => rfl)) | exact one_tab (fun _ => rfl) | exact one_tab (fun _ => by split <;> rfl)) (by repeat (first | exact Upd.here _ _ _ | apply Upd.there)) (by first | rfl | (simp; done) | (simp; omega))) ?_
                      rintro _ _ _ ⟨rfl, rfl⟩
                      refine ⟨⟨Subs.sub (by repeat (first | exact Subs.nil _ | apply Subs.cons | exact List.Mem.head _ | refine List.Mem.tail _ ?_)), .inl rfl⟩, ?_⟩
                      refine JR.u rfl rfl rfl (Yv.assign rfl) (by decide) ?_
                      refine JR.nil ?_
                      refine JQ.head (b12, b13) (by repeat (first | exact trivial | refine ⟨by first | rfl | (simp; done), ?_⟩)) (Subs.sub (by repeat (first | exact Subs.nil _ | apply Subs.cons | exact List.Mem.head _ | refine List.Mem.tail _ ?_))) (Picks.perm (by repeat (first | exact Picks.nil _ | apply Picks.cons | exact Pull.here _ _ | apply Pull.there))) ?_
                      trivial
                    refine JA.alt rfl ?_ ?_
                    · skip
                      refine JR.m rfl rfl (Mv.alloc zero_32) (by decide) ?_
                      rintro _ _ _ ⟨b13, rfl, rfl, rfl⟩
                      refine ⟨⟨Subs.sub (by repeat (first | exact Subs.nil _ | apply Subs.cons | exact List.Mem.head _ | refine List.Mem.tail _ ?_)), .inr (St.keep (by repeat (first | exact Subs.nil _ | apply Subs.cons | exact List.Mem.head _ | refine List.Mem.tail _ ?_)) (by repeat (first | exact Picks.nil _ | apply Picks.cons | exact Pull.here _ _ | apply Pull.there)))⟩, ?_⟩
                      refine JR.m rfl rfl (Mv.callB body_20 rfl (f20_spec ((BitVec.ofNat 64 n).toNat * (ws.getD i 0).toNat) (totN ws) (prod_lt _ _) htl) (by repeat (first | exact Picks.nil _ | apply Picks.cons | exact Pull.here _ _ | apply Pull.there)) (by repeat (first | exact Lends.nil _ | apply Lends.cons | exact Lend.same _ _ | exact Lend.row _ _ _ _ _ _ (by decide) | apply Lend.there)) (by rintro _ _ _ ⟨_, h, _⟩; exact h)) (by decide) ?_
                      rintro _ _ _ ⟨_, ⟨rfl, _, rfl⟩, hΓ, hH⟩
                      simp only [List.cons_append, List.nil_append] at hH; subst hΓ hH
                      rw [show (BitVec.ofNat 64 n).toNat = n from by rw [BitVec.toNat_ofNat]; omega]
                      refine ⟨⟨Subs.sub (by repeat (first | exact Subs.nil _ | apply Subs.cons | exact List.Mem.head _ | refine List.Mem.tail _ ?_)), .inr (St.keep (by repeat (first | exact Subs.nil _ | apply Subs.cons | exact List.Mem.head _ | refine List.Mem.tail _ ?_)) (by repeat (first | exact Picks.nil _ | apply Picks.cons | exact Pull.here _ _ | apply Pull.there)))⟩, ?_⟩
                      refine JR.u rfl rfl rfl (Yv.move rfl) (by decide) ?_
                      refine JR.u rfl rfl rfl (Yv.as (v' := .agg ((wd (qN ws n i)).map u64).toArray) (Yv.extract rfl rfl) rfl) (by decide) ?_
                      refine JR.u rfl rfl rfl (Yv.as (v' := .agg ((wd (rN ws n i)).map u64).toArray) (Yv.extract rfl rfl) rfl) (by decide) ?_
                      refine JR.u rfl rfl rfl (Yv.as (v' := it (if totN ws = 0 then 11 else 0)) (Yv.extract rfl rfl) rfl) (by decide) ?_
                      refine JR.m0 rfl rfl (Mv.storeAll sz_32 rfl rfl rfl (by first | rfl | (simp; done) | (simp; omega)) (by first | (simp; done) | exact one_sing rfl | exact one_map (fun _ => rfl) | exact one_piece (one_map (fun _ => rfl)) | exact one_tab (fun _ => rfl) | exact one_tab (fun _ => by split <;> rfl)) (by repeat (first | exact Upd.here _ _ _ | apply Upd.there)) (by first | rfl | (simp; done) | (simp; omega))) ?_
                      rintro _ _ _ ⟨rfl, rfl⟩
                      refine ⟨⟨Subs.sub (by repeat (first | exact Subs.nil _ | apply Subs.cons | exact List.Mem.head _ | refine List.Mem.tail _ ?_)), .inl rfl⟩, ?_⟩
                      refine JR.m0 rfl rfl (Mv.storeAll sz_32 rfl rfl rfl (by first | rfl | (simp; done) | (simp; omega)) (by first | (simp; done) | exact one_sing rfl | exact one_map (fun _ => rfl) | exact one_piece (one_map (fun _ => rfl)) | exact one_tab (fun _ => rfl) | exact one_tab (fun _ => by split <;> rfl)) (by repeat (first | exact Upd.here _ _ _ | apply Upd.there)) (by first | rfl | (simp; done) | (simp; omega))) ?_
                      rintro _ _ _ ⟨rfl, rfl⟩
                      refine ⟨⟨Subs.sub (by repeat (first | exact Subs.nil _ | apply Subs.cons | exact List.Mem.head _ | refine List.Mem.tail _ ?_)), .inl rfl⟩, ?_⟩
                      refine JR.u rfl rfl rfl (Yv.assign rfl) (by decide) ?_
                      refine JR.nil ?_
                      refine JQ.head (b12, b13) (by repeat (first | exact trivial | refine ⟨by first | rfl | (simp; done), ?_⟩)) (Subs.sub (by repeat (first | exact Subs.nil _ | apply Subs.cons | exact List.Mem.head _ | refine List.Mem.tail _ ?_))) (Picks.perm (by repeat (first | exact Picks.nil _ | apply Picks.cons | exact Pull.here _ _ | apply Pull.there))) ?_
                      trivial
                    exact JA.nil
                  refine JA.alt rfl ?_ ?_
                  · skip
                    refine JR.m rfl rfl (Mv.alloc zero_32) (by decide) ?_
                    rintro _ _ _ ⟨b13, rfl, rfl, rfl⟩
                    refine ⟨⟨Subs.sub (by repeat (first | exact Subs.nil _ | apply Subs.cons | exact List.Mem.head _ | refine List.Mem.tail _ ?_)), .inr (St.keep (by repeat (first | exact Subs.nil _ | apply Subs.cons | exact List.Mem.head _ | refine List.Mem.tail _ ?_)) (by repeat (first | exact Picks.nil _ | apply Picks.cons | exact Pull.here _ _ | apply Pull.there)))⟩, ?_⟩
                    refine JR.m rfl rfl (Mv.callB body_21 rfl (f21_spec (BitVec.ofNat 64 n) (ws.getD i 0)) (by repeat (first | exact Picks.nil _ | apply Picks.cons | exact Pull.here _ _ | apply Pull.there)) (by repeat (first | exact Lends.nil _ | apply Lends.cons | exact Lend.same _ _ | exact Lend.row _ _ _ _ _ _ (by decide) | apply Lend.there)) (by rintro _ _ _ ⟨_, h, _⟩; exact h)) (by decide) ?_
                    rintro _ _ _ ⟨_, ⟨rfl, _, rfl⟩, hΓ, hH⟩
                    simp only [List.cons_append, List.nil_append] at hH; subst hΓ hH
                    refine ⟨⟨Subs.sub (by repeat (first | exact Subs.nil _ | apply Subs.cons | exact List.Mem.head _ | refine List.Mem.tail _ ?_)), .inr (St.keep (by repeat (first | exact Subs.nil _ | apply Subs.cons | exact List.Mem.head _ | refine List.Mem.tail _ ?_)) (by repeat (first | exact Picks.nil _ | apply Picks.cons | exact Pull.here _ _ | apply Pull.there)))⟩, ?_⟩
                    refine JR.m rfl rfl (Mv.callB body_20 rfl (f20_spec ((BitVec.ofNat 64 n).toNat * (ws.getD i 0).toNat) (totN ws) (prod_lt _ _) htl) (by repeat (first | exact Picks.nil _ | apply Picks.cons | exact Pull.here _ _ | apply Pull.there)) (by repeat (first | exact Lends.nil _ | apply Lends.cons | exact Lend.same _ _ | exact Lend.row _ _ _ _ _ _ (by decide) | apply Lend.there)) (by rintro _ _ _ ⟨_, h, _⟩; exact h)) (by decide) ?_
                    rintro _ _ _ ⟨_, ⟨rfl, _, rfl⟩, hΓ, hH⟩
                    simp only [List.cons_append, List.nil_append] at hH; subst hΓ hH
                    rw [show (BitVec.ofNat 64 n).toNat = n from by rw [BitVec.toNat_ofNat]; omega]
                    refine ⟨⟨Subs.sub (by repeat (first | exact Subs.nil _ | apply Subs.cons | exact List.Mem.head _ | refine List.Mem.tail _ ?_)), .inr (St.keep (by repeat (first | exact Subs.nil _ | apply Subs.cons | exact List.Mem.head _ | refine List.Mem.tail _ ?_)) (by repeat (first | exact Picks.nil _ | apply Picks.cons | exact Pull.here _ _ | apply Pull.there)))⟩, ?_⟩
                    refine JR.u rfl rfl rfl (Yv.move rfl) (by decide) ?_
                    refine JR.u rfl rfl rfl (Yv.as (v' := .agg ((wd (qN ws n i)).map u64).toArray) (Yv.extract rfl rfl) rfl) (by decide) ?_
                    refine JR.u rfl rfl rfl (Yv.as (v' := .agg ((wd (rN ws n i)).map u64).toArray) (Yv.extract rfl rfl) rfl) (by decide) ?_
                    refine JR.u rfl rfl rfl (Yv.as (v' := it (if totN ws = 0 then 11 else 0)) (Yv.extract rfl rfl) rfl) (by decide) ?_
                    refine JR.m0 rfl rfl (Mv.storeAll sz_32 rfl rfl rfl (by first | rfl | (simp; done) | (simp; omega)) (by first | (simp; done) | exact one_sing rfl | exact one_map (fun _ => rfl) | exact one_piece (one_map (fun _ => rfl)) | exact one_tab (fun _ => rfl) | exact one_tab (fun _ => by split <;> rfl)) (by repeat (first | exact Upd.here _ _ _ | apply Upd.there)) (by first | rfl | (simp; done) | (simp; omega))) ?_
                    rintro _ _ _ ⟨rfl, rfl⟩
                    refine ⟨⟨Subs.sub (by repeat (first | exact Subs.nil _ | apply Subs.cons | exact List.Mem.head _ | refine List.Mem.tail _ ?_)), .inl rfl⟩, ?_⟩
                    refine JR.m0 rfl rfl (Mv.storeAll sz_32 rfl rfl rfl (by first | rfl | (simp; done) | (simp; omega)) (by first | (simp; done) | exact one_sing rfl | exact one_map (fun _ => rfl) | exact one_piece (one_map (fun _ => rfl)) | exact one_tab (fun _ => rfl) | exact one_tab (fun _ => by split <;> rfl)) (by repeat (first | exact Upd.here _ _ _ | apply Upd.there)) (by first | rfl | (simp; done) | (simp; omega))) ?_
                    rintro _ _ _ ⟨rfl, rfl⟩
                    refine ⟨⟨Subs.sub (by repeat (first | exact Subs.nil _ | apply Subs.cons | exact List.Mem.head _ | refine List.Mem.tail _ ?_)), .inl rfl⟩, ?_⟩
                    refine JR.u rfl rfl rfl (Yv.assign rfl) (by decide) ?_
                    refine JR.nil ?_
                    refine JQ.head (b12, b13) (by repeat (first | exact trivial | refine ⟨by first | rfl | (simp; done), ?_⟩)) (Subs.sub (by repeat (first | exact Subs.nil _ | apply Subs.cons | exact List.Mem.head _ | refine List.Mem.tail _ ?_))) (Picks.perm (by repeat (first | exact Picks.nil _ | apply Picks.cons | exact Pull.here _ _ | apply Pull.there))) ?_
                    trivial
                  exact JA.nil
                refine JA.alt rfl ?_ ?_
                · skip
                  refine JR.m rfl rfl (Mv.alloc zero_32) (by decide) ?_
                  rintro _ _ _ ⟨b13, rfl, rfl, rfl⟩
                  refine ⟨⟨Subs.sub (by repeat (first | exact Subs.nil _ | apply Subs.cons | exact List.Mem.head _ | refine List.Mem.tail _ ?_)), .inr (St.keep (by repeat (first | exact Subs.nil _ | apply Subs.cons | exact List.Mem.head _ | refine List.Mem.tail _ ?_)) (by repeat (first | exact Picks.nil _ | apply Picks.cons | exact Pull.here _ _ | apply Pull.there)))⟩, ?_⟩
                  refine JR.alt rfl ?_ ?_
                  · skip
                    refine JR.m rfl rfl (Mv.callB body_21 rfl (f21_spec (BitVec.ofNat 64 n) (ws.getD i 0)) (by repeat (first | exact Picks.nil _ | apply Picks.cons | exact Pull.here _ _ | apply Pull.there)) (by repeat (first | exact Lends.nil _ | apply Lends.cons | exact Lend.same _ _ | exact Lend.row _ _ _ _ _ _ (by decide) | apply Lend.there)) (by rintro _ _ _ ⟨_, h, _⟩; exact h)) (by decide) ?_
                    rintro _ _ _ ⟨_, ⟨rfl, _, rfl⟩, hΓ, hH⟩
                    simp only [List.cons_append, List.nil_append] at hH; subst hΓ hH
                    refine ⟨⟨Subs.sub (by repeat (first | exact Subs.nil _ | apply Subs.cons | exact List.Mem.head _ | refine List.Mem.tail _ ?_)), .inr (St.keep (by repeat (first | exact Subs.nil _ | apply Subs.cons | exact List.Mem.head _ | refine List.Mem.tail _ ?_)) (by repeat (first | exact Picks.nil _ | apply Picks.cons | exact Pull.here _ _ | apply Pull.there)))⟩, ?_⟩
                    refine JR.alt rfl ?_ ?_
                    · skip
                      refine JR.m rfl rfl (Mv.callB body_20 rfl (f20_spec ((BitVec.ofNat 64 n).toNat * (ws.getD i 0).toNat) (totN ws) (prod_lt _ _) htl) (by repeat (first | exact Picks.nil _ | apply Picks.cons | exact Pull.here _ _ | apply Pull.there)) (by repeat (first | exact Lends.nil _ | apply Lends.cons | exact Lend.same _ _ | exact Lend.row _ _ _ _ _ _ (by decide) | apply Lend.there)) (by rintro _ _ _ ⟨_, h, _⟩; exact h)) (by decide) ?_
                      rintro _ _ _ ⟨_, ⟨rfl, _, rfl⟩, hΓ, hH⟩
                      simp only [List.cons_append, List.nil_append] at hH; subst hΓ hH
                      rw [show (BitVec.ofNat 64 n).toNat = n from by rw [BitVec.toNat_ofNat]; omega]
                      refine ⟨⟨Subs.sub (by repeat (first | exact Subs.nil _ | apply Subs.cons | exact List.Mem.head _ | refine List.Mem.tail _ ?_)), .inr (St.keep (by repeat (first | exact Subs.nil _ | apply Subs.cons | exact List.Mem.head _ | refine List.Mem.tail _ ?_)) (by repeat (first | exact Picks.nil _ | apply Picks.cons | exact Pull.here _ _ | apply Pull.there)))⟩, ?_⟩
                      refine JR.u rfl rfl rfl (Yv.move rfl) (by decide) ?_
                      refine JR.u rfl rfl rfl (Yv.as (v' := .agg ((wd (qN ws n i)).map u64).toArray) (Yv.extract rfl rfl) rfl) (by decide) ?_
                      refine JR.u rfl rfl rfl (Yv.as (v' := .agg ((wd (rN ws n i)).map u64).toArray) (Yv.extract rfl rfl) rfl) (by decide) ?_
                      refine JR.u rfl rfl rfl (Yv.as (v' := it (if totN ws = 0 then 11 else 0)) (Yv.extract rfl rfl) rfl) (by decide) ?_
                      refine JR.m rfl rfl (Mv.alloc zero_32) (by decide) ?_
                      rintro _ _ _ ⟨b12, rfl, rfl, rfl⟩
                      refine ⟨⟨Subs.sub (by repeat (first | exact Subs.nil _ | apply Subs.cons | exact List.Mem.head _ | refine List.Mem.tail _ ?_)), .inr (St.keep (by repeat (first | exact Subs.nil _ | apply Subs.cons | exact List.Mem.head _ | refine List.Mem.tail _ ?_)) (by repeat (first | exact Picks.nil _ | apply Picks.cons | exact Pull.here _ _ | apply Pull.there)))⟩, ?_⟩
                      refine JR.m0 rfl rfl (Mv.storeAll sz_32 rfl rfl rfl (by first | rfl | (simp; done) | (simp; omega)) (by first | (simp; done) | exact one_sing rfl | exact one_map (fun _ => rfl) | exact one_piece (one_map (fun _ => rfl)) | exact one_tab (fun _ => rfl) | exact one_tab (fun _ => by split <;> rfl)) (by repeat (first | exact Upd.here _ _ _ | apply Upd.there)) (by first | rfl | (simp; done) | (simp; omega))) ?_
                      rintro _ _ _ ⟨rfl, rfl⟩
                      refine ⟨⟨Subs.sub (by repeat (first | exact Subs.nil _ | apply Subs.cons | exact List.Mem.head _ | refine List.Mem.tail _ ?_)), .inl rfl⟩, ?_⟩
                      refine JR.m0 rfl rfl (Mv.storeAll sz_32 rfl rfl rfl (by first | rfl | (simp; done) | (simp; omega)) (by first | (simp; done) | exact one_sing rfl | exact one_map (fun _ => rfl) | exact one_piece (one_map (fun _ => rfl)) | exact one_tab (fun _ => rfl) | exact one_tab (fun _ => by split <;> rfl)) (by repeat (first | exact Upd.here _ _ _ | apply Upd.there)) (by first | rfl | (simp; done) | (simp; omega))) ?_
                      rintro _ _ _ ⟨rfl, rfl⟩
                      refine ⟨⟨Subs.sub (by repeat (first | exact Subs.nil _ | apply Subs.cons | exact List.Mem.head _ | refine List.Mem.tail _ ?_)), .inl rfl⟩, ?_⟩
                      refine JR.u rfl rfl rfl (Yv.assign rfl) (by decide) ?_
                      refine JR.nil ?_
                      refine JQ.head (b12, b13) (by repeat (first | exact trivial | refine ⟨by first | rfl | (simp; done), ?_⟩)) (Subs.sub (by repeat (first | exact Subs.nil _ | apply Subs.cons | exact List.Mem.head _ | refine List.Mem.tail _ ?_))) (Picks.perm (by repeat (first | exact Picks.nil _ | apply Picks.cons | exact Pull.here _ _ | apply Pull.there))) ?_
                      trivial
                    refine JA.alt rfl ?_ ?_
                    · skip
                      refine JR.m rfl rfl (Mv.alloc zero_32) (by decide) ?_
                      rintro _ _ _ ⟨b12, rfl, rfl, rfl⟩
                      refine ⟨⟨Subs.sub (by repeat (first | exact Subs.nil _ | apply Subs.cons | exact List.Mem.head _ | refine List.Mem.tail _ ?_)), .inr (St.keep (by repeat (first | exact Subs.nil _ | apply Subs.cons | exact List.Mem.head _ | refine List.Mem.tail _ ?_)) (by repeat (first | exact Picks.nil _ | apply Picks.cons | exact Pull.here _ _ | apply Pull.there)))⟩, ?_⟩
                      refine JR.m rfl rfl (Mv.callB body_20 rfl (f20_spec ((BitVec.ofNat 64 n).toNat * (ws.getD i 0).toNat) (totN ws) (prod_lt _ _) htl) (by repeat (first | exact Picks.nil _ | apply Picks.cons | exact Pull.here _ _ | apply Pull.there)) (by repeat (first | exact Lends.nil _ | apply Lends.cons | exact Lend.same _ _ | exact Lend.row _ _ _ _ _ _ (by decide) | apply Lend.there)) (by rintro _ _ _ ⟨_, h, _⟩; exact h)) (by decide) ?_
                      rintro _ _ _ ⟨_, ⟨rfl, _, rfl⟩, hΓ, hH⟩
                      simp only [List.cons_append, List.nil_append] at hH; subst hΓ hH
                      rw [show (BitVec.ofNat 64 n).toNat = n from by rw [BitVec.toNat_ofNat]; omega]
                      refine ⟨⟨Subs.sub (by repeat (first | exact Subs.nil _ | apply Subs.cons | exact List.Mem.head _ | refine List.Mem.tail _ ?_)), .inr (St.keep (by repeat (first | exact Subs.nil _ | apply Subs.cons | exact List.Mem.head _ | refine List.Mem.tail _ ?_)) (by repeat (first | exact Picks.nil _ | apply Picks.cons | exact Pull.here _ _ | apply Pull.there)))⟩, ?_⟩
                      refine JR.u rfl rfl rfl (Yv.move rfl) (by decide) ?_
                      refine JR.u rfl rfl rfl (Yv.as (v' := .agg ((wd (qN ws n i)).map u64).toArray) (Yv.extract rfl rfl) rfl) (by decide) ?_
                      refine JR.u rfl rfl rfl (Yv.as (v' := .agg ((wd (rN ws n i)).map u64).toArray) (Yv.extract rfl rfl) rfl) (by decide) ?_
                      refine JR.u rfl rfl rfl (Yv.as (v' := it (if totN ws = 0 then 11 else 0)) (Yv.extract rfl rfl) rfl) (by decide) ?_
                      refine JR.m0 rfl rfl (Mv.storeAll sz_32 rfl rfl rfl (by first | rfl | (simp; done) | (simp; omega)) (by first | (simp; done) | exact one_sing rfl | exact one_map (fun _ => rfl) | exact one_piece (one_map (fun _ => rfl)) | exact one_tab (fun _ => rfl) | exact one_tab (fun _ => by split <;> rfl)) (by repeat (first | exact Upd.here _ _ _ | apply Upd.there)) (by first | rfl | (simp; done) | (simp; omega))) ?_
                      rintro _ _ _ ⟨rfl, rfl⟩
                      refine ⟨⟨Subs.sub (by repeat (first | exact Subs.nil _ | apply Subs.cons | exact List.Mem.head _ | refine List.Mem.tail _ ?_)), .inl rfl⟩, ?_⟩
                      refine JR.m0 rfl rfl (Mv.storeAll sz_32 rfl rfl rfl (by first | rfl | (simp; done) | (simp; omega)) (by first | (simp; done) | exact one_sing rfl | exact one_map (fun _ => rfl) | exact one_piece (one_map (fun _ => rfl)) | exact one_tab (fun _ => rfl) | exact one_tab (fun _ => by split <;> rfl)) (by repeat (first | exact Upd.here _ _ _ | apply Upd.there)) (by first | rfl | (simp; done) | (simp; omega))) ?_
                      rintro _ _ _ ⟨rfl, rfl⟩
                      refine ⟨⟨Subs.sub (by repeat (first | exact Subs.nil _ | apply Subs.cons | exact List.Mem.head _ | refine List.Mem.tail _ ?_)), .inl rfl⟩, ?_⟩
                      refine JR.u rfl rfl rfl (Yv.assign rfl) (by decide) ?_
                      refine JR.nil ?_
                      refine JQ.head (b12, b13) (by repeat (first | exact trivial | refine ⟨by first | rfl | (simp; done), ?_⟩)) (Subs.sub (by repeat (first | exact Subs.nil _ | apply Subs.cons | exact List.Mem.head _ | refine List.Mem.tail _ ?_))) (Picks.perm (by repeat (first | exact Picks.nil _ | apply Picks.cons | exact Pull.here _ _ | apply Pull.there))) ?_
                      trivial
                    exact JA.nil
                  refine JA.alt rfl ?_ ?_
                  · skip
                    refine JR.m rfl rfl (Mv.alloc zero_32) (by decide) ?_
                    rintro _ _ _ ⟨b12, rfl, rfl, rfl⟩
                    refine ⟨⟨Subs.sub (by repeat (first | exact Subs.nil _ | apply Subs.cons | exact List.Mem.head _ | refine List.Mem.tail _ ?_)), .inr (St.keep (by repeat (first | exact Subs.nil _ | apply Subs.cons | exact List.Mem.head _ | refine List.Mem.tail _ ?_)) (by repeat (first | exact Picks.nil _ | apply Picks.cons | exact Pull.here _ _ | apply Pull.there)))⟩, ?_⟩
                    refine JR.m rfl rfl (Mv.callB body_21 rfl (f21_spec (BitVec.ofNat 64 n) (ws.getD i 0)) (by repeat (first | exact Picks.nil _ | apply Picks.cons | exact Pull.here _ _ | apply Pull.there)) (by repeat (first | exact Lends.nil _ | apply Lends.cons | exact Lend.same _ _ | exact Lend.row _ _ _ _ _ _ (by decide) | apply Lend.there)) (by rintro _ _ _ ⟨_, h, _⟩; exact h)) (by decide) ?_
                    rintro _ _ _ ⟨_, ⟨rfl, _, rfl⟩, hΓ, hH⟩
                    simp only [List.cons_append, List.nil_append] at hH; subst hΓ hH
                    refine ⟨⟨Subs.sub (by repeat (first | exact Subs.nil _ | apply Subs.cons | exact List.Mem.head _ | refine List.Mem.tail _ ?_)), .inr (St.keep (by repeat (first | exact Subs.nil _ | apply Subs.cons | exact List.Mem.head _ | refine List.Mem.tail _ ?_)) (by repeat (first | exact Picks.nil _ | apply Picks.cons | exact Pull.here _ _ | apply Pull.there)))⟩, ?_⟩
                    refine JR.m rfl rfl (Mv.callB body_20 rfl (f20_spec ((BitVec.ofNat 64 n).toNat * (ws.getD i 0).toNat) (totN ws) (prod_lt _ _) htl) (by repeat (first | exact Picks.nil _ | apply Picks.cons | exact Pull.here _ _ | apply Pull.there)) (by repeat (first | exact Lends.nil _ | apply Lends.cons | exact Lend.same _ _ | exact Lend.row _ _ _ _ _ _ (by decide) | apply Lend.there)) (by rintro _ _ _ ⟨_, h, _⟩; exact h)) (by decide) ?_
                    rintro _ _ _ ⟨_, ⟨rfl, _, rfl⟩, hΓ, hH⟩
                    simp only [List.cons_append, List.nil_append] at hH; subst hΓ hH
                    rw [show (BitVec.ofNat 64 n).toNat = n from by rw [BitVec.toNat_ofNat]; omega]
                    refine ⟨⟨Subs.sub (by repeat (first | exact Subs.nil _ | apply Subs.cons | exact List.Mem.head _ | refine List.Mem.tail _ ?_)), .inr (St.keep (by repeat (first | exact Subs.nil _ | apply Subs.cons | exact List.Mem.head _ | refine List.Mem.tail _ ?_)) (by repeat (first | exact Picks.nil _ | apply Picks.cons | exact Pull.here _ _ | apply Pull.there)))⟩, ?_⟩
                    refine JR.u rfl rfl rfl (Yv.move rfl) (by decide) ?_
                    refine JR.u rfl rfl rfl (Yv.as (v' := .agg ((wd (qN ws n i)).map u64).toArray) (Yv.extract rfl rfl) rfl) (by decide) ?_
                    refine JR.u rfl rfl rfl (Yv.as (v' := .agg ((wd (rN ws n i)).map u64).toArray) (Yv.extract rfl rfl) rfl) (by decide) ?_
                    refine JR.u rfl rfl rfl (Yv.as (v' := it (if totN ws = 0 then 11 else 0)) (Yv.extract rfl rfl) rfl) (by decide) ?_
                    refine JR.m0 rfl rfl (Mv.storeAll sz_32 rfl rfl rfl (by first | rfl | (simp; done) | (simp; omega)) (by first | (simp; done) | exact one_sing rfl | exact one_map (fun _ => rfl) | exact one_piece (one_map (fun _ => rfl)) | exact one_tab (fun _ => rfl) | exact one_tab (fun _ => by split <;> rfl)) (by repeat (first | exact Upd.here _ _ _ | apply Upd.there)) (by first | rfl | (simp; done) | (simp; omega))) ?_
                    rintro _ _ _ ⟨rfl, rfl⟩
                    refine ⟨⟨Subs.sub (by repeat (first | exact Subs.nil _ | apply Subs.cons | exact List.Mem.head _ | refine List.Mem.tail _ ?_)), .inl rfl⟩, ?_⟩
                    refine JR.m0 rfl rfl (Mv.storeAll sz_32 rfl rfl rfl (by first | rfl | (simp; done) | (simp; omega)) (by first | (simp; done) | exact one_sing rfl | exact one_map (fun _ => rfl) | exact one_piece (one_map (fun _ => rfl)) | exact one_tab (fun _ => rfl) | exact one_tab (fun _ => by split <;> rfl)) (by repeat (first | exact Upd.here _ _ _ | apply Upd.there)) (by first | rfl | (simp; done) | (simp; omega))) ?_
                    rintro _ _ _ ⟨rfl, rfl⟩
                    refine ⟨⟨Subs.sub (by repeat (first | exact Subs.nil _ | apply Subs.cons | exact List.Mem.head _ | refine List.Mem.tail _ ?_)), .inl rfl⟩, ?_⟩
                    refine JR.u rfl rfl rfl (Yv.assign rfl) (by decide) ?_
                    refine JR.nil ?_
                    refine JQ.head (b12, b13) (by repeat (first | exact trivial | refine ⟨by first | rfl | (simp; done), ?_⟩)) (Subs.sub (by repeat (first | exact Subs.nil _ | apply Subs.cons | exact List.Mem.head _ | refine List.Mem.tail _ ?_))) (Picks.perm (by repeat (first | exact Picks.nil _ | apply Picks.cons | exact Pull.here _ _ | apply Pull.there))) ?_
                    trivial
                  exact JA.nil
                exact JA.nil
              · skip
                obtain ⟨b12, b13⟩ := x
                dsimp only
                refine JC.seq ?_
                refine JC.region ?_
                refine JO.v (Yv.move rfl) (by decide) ?_
                refine JO.v (Yv.move rfl) (by decide) ?_
                first | refine JO.v (Yv.indexArr1 (j := 0) Try.underlying32 sz_24 rfl rfl (by first | exact ltb rfl | (simp; done) | (simp; omega) | omega | (simp [*]; omega))) (by decide) ?_ | refine JO.v (Yv.indexArr1o (j := 0) Try.underlying32 sz_24 rfl rfl (by first | exact ltb rfl | (simp; done) | (simp; omega) | omega | (simp [*]; omega))) (by decide) ?_
                refine JO.v (Yv.load1 one_24 rfl (by first | exact Kn.own (by repeat (first | exact List.Mem.head _ | refine List.Mem.tail _ ?_)) (by first | exact wd_get _ (by decide) | rfl | exact tab_get (by first | omega | (simp; omega)) | exact gm (d := 0) (by first | omega | (simp; omega))) | exact Kn.ro (by repeat (first | exact List.Mem.head _ | refine List.Mem.tail _ ?_)) (by first | exact wd_get _ (by decide) | rfl | exact tab_get (by first | omega | (simp; omega)) | exact gm (d := 0) (by first | omega | (simp; omega))) | exact Kn.row (by repeat (first | exact List.Mem.head _ | refine List.Mem.tail _ ?_)) (by first | exact wd_get _ (by decide) | rfl | exact tab_get (by first | omega | (simp; omega)) | exact gm (d := 0) (by first | omega | (simp; omega))) | exact Kn.rd (by repeat (first | exact Lend.same _ _ | exact Lend.row _ _ _ _ _ _ (by decide) | apply Lend.there)) (by first | exact wd_get _ (by decide) | rfl | exact tab_get (by first | omega | (simp; omega)) | exact gm (d := 0) (by first | omega | (simp; omega))) | exact Kn.rd2 (by repeat (first | exact Lend.same _ _ | exact Lend.row _ _ _ _ _ _ (by decide) | apply Lend.there)) (by first | exact wd_get _ (by decide) | rfl | exact tab_get (by first | omega | (simp; omega)) | exact gm (d := 0) (by first | omega | (simp; omega))))) (by decide) ?_
                refine JO.v (Yv.as (v' := it ((qN ws n i : Nat) : Int)) (Yv.conv_u64_i Try.underlying24 Try.underlying3 rfl (by rw [wat_0, BitVec.toNat_ofNat]; omega)) (congrArg (fun k : Nat => it (k : Int)) (by rw [wat_0, BitVec.toNat_ofNat]; omega))) (by decide) ?_
                first | refine JO.v (Yv.indexRow1 Try.underlying25 sz_3 rfl rfl (by repeat (first | exact List.Mem.head _ | refine List.Mem.tail _ ?_)) (by first | exact ltb rfl | (simp; done) | (simp; omega) | omega | (simp [*]; omega))) (by decide) ?_ | refine JO.v (Yv.indexRd1 Try.underlying25 sz_3 rfl rfl (by repeat (first | exact Lend.same _ _ | exact Lend.row _ _ _ _ _ _ (by decide) | apply Lend.there)) (by first | exact ltb rfl | (simp; done) | (simp; omega) | omega | (simp [*]; omega))) (by decide) ?_
                first | refine JO.store1 sz_3 rfl rfl rfl (by repeat (first | exact Upd.here _ _ _ | apply Upd.there)) (by first | exact ltb rfl | (simp; done) | (simp; omega) | omega | (simp [*]; omega)) ?_ | refine JO.storeRow1 sz_3 rfl rfl rfl (by repeat (first | exact Upd.here _ _ _ | apply Upd.there)) (by first | exact ltb rfl | (simp; done) | (simp; omega) | omega | (simp [*]; omega)) (by rw [List.length_map, hol]) ?_
                rw [set_it, out_set (by omega)]
                refine JO.nil ?_
                refine JQ.then_normal ?_
                refine JC.seq ?_
                refine JC.region ?_
                refine JO.v (Yv.move rfl) (by decide) ?_
                refine JO.v (Yv.move rfl) (by decide) ?_
                refine JO.v (Yv.move rfl) (by decide) ?_
                first | refine JO.v (Yv.indexRow1 Try.underlying25 sz_3 rfl rfl (by repeat (first | exact List.Mem.head _ | refine List.Mem.tail _ ?_)) (by first | exact ltb rfl | (simp; done) | (simp; omega) | omega | (simp [*]; omega))) (by decide) ?_ | refine JO.v (Yv.indexRd1 Try.underlying25 sz_3 rfl rfl (by repeat (first | exact Lend.same _ _ | exact Lend.row _ _ _ _ _ _ (by decide) | apply Lend.there)) (by first | exact ltb rfl | (simp; done) | (simp; omega) | omega | (simp [*]; omega))) (by decide) ?_
                refine JO.v (Yv.as (v' := it ((qN ws n i : Nat) : Int)) (Yv.load1 one_3 rfl (Kn.row (by repeat (first | exact List.Mem.head _ | refine List.Mem.tail _ ?_)) (by exact gm (d := 0) (by rw [hol]; omega)))) (congrArg it (out_at (by omega)))) (by decide) ?_
                refine JO.v (Yv.as (v' := it ((n : Int) - (sumQ ws n (i + 1) : Int))) (Yv.bin rfl rfl (BinR.sub_i (by first | (constructor <;> omega) | (constructor <;> simp <;> omega)))) (congrArg it (by rw [sumQ_succ]; omega))) (by decide) ?_
                refine JO.v (Yv.assign rfl) (by decide) ?_
                refine JO.nil ?_
                refine JQ.then_normal ?_
                refine JC.region ?_
                refine JO.v (Yv.iface Try.underlying48 (fun _ h => by cases h) rfl) (by decide) ?_
                refine JO.v (Yv.move rfl) (by decide) ?_
                first | refine JO.v (Yv.loadOwn agg_32 (by repeat (first | exact List.Mem.head _ | refine List.Mem.tail _ ?_)) rfl (by first | rfl | (simp; done) | (simp; omega) | (simp [*]; done))) (by decide) ?_ | refine JO.v (Yv.loadOwnAt agg_32 (by repeat (first | exact List.Mem.head _ | refine List.Mem.tail _ ?_)) rfl (by first | rfl | (simp; done) | (simp; omega) | (simp [*]; done))) (by decide) ?_ | refine JO.v (Yv.loadRow agg_32 (by repeat (first | exact List.Mem.head _ | refine List.Mem.tail _ ?_)) rfl (by first | rfl | (simp; done) | (simp; omega) | (simp [*]; done))) (by decide) ?_ | refine JO.v (Yv.loadRd agg_32 (by repeat (first | exact Lend.same _ _ | exact Lend.row _ _ _ _ _ _ (by decide) | apply Lend.there)) rfl (by first | rfl | (simp; done) | (simp; omega) | (simp [*]; done))) (by decide) ?_ | refine JO.v (Yv.loadRo agg_32 (by repeat (first | exact List.Mem.head _ | refine List.Mem.tail _ ?_)) rfl (by first | rfl | (simp; done) | (simp; omega) | (simp [*]; done))) (by decide) ?_
                refine JO.v (Yv.as (v' := (.agg (lkAt ws n i).cells.toArray)) (Yv.build (cs := [it (i : Int), u64 (wat (rN ws n i) 0), u64 (wat (rN ws n i) 1), u64 (wat (rN ws n i) 2), u64 (wat (rN ws n i) 3)]) bld_50 rfl (by kernel_rfl)) (congrArg (fun l : List Value => Value.agg l.toArray) (lk_make (by omega)))) (by decide) ?_
                refine JO.v (Yv.iface Try.underlying50 (fun _ h => by cases h) rfl) (by decide) ?_
                refine JO.callB (f22_spec b7 vh hs (lkAt ws n i) hh (by rw [hp.length_eq]; simp [lks]; omega)) body_22 rfl (by repeat (first | exact Picks.nil _ | apply Picks.cons | exact Pull.here _ _ | apply Pull.there)) (by repeat (first | exact Lends.nil _ | apply Lends.cons | exact Lend.same _ _ | exact Lend.row _ _ _ _ _ _ (by decide) | apply Lend.there)) (by rintro _ _ _ ⟨_, _, _, _, h, _⟩; exact h) (by decide) ?_
                rintro _ _ ⟨_, ⟨v2, ys, hp2, hh2, _, rfl⟩, hH⟩
                simp only [List.cons_append, List.nil_append] at hH; subst hH
                refine JO.nil ?_
                refine JQ.block_normal ?_
                refine JQ.then_normal ?_
                refine JC.region ?_
                refine JO.v (Yv.as (v' := it ((i + 1 : Nat) : Int)) (Yv.bin rfl rfl (BinR.add_i (by first | (constructor <;> omega) | (constructor <;> simp <;> omega)))) (congrArg it (by omega))) (by decide) ?_
                refine JO.v (Yv.move rfl) (by decide) ?_
                refine JO.nil ?_
                refine JQ.head (i + 1, v2, ys) (by repeat (first | exact trivial | refine ⟨by first | rfl | (simp; done), ?_⟩)) (Subs.sub (by repeat (first | exact Subs.nil _ | apply Subs.cons | exact List.Mem.head _ | refine List.Mem.tail _ ?_))) (Picks.perm (by repeat (first | exact Picks.nil _ | apply Picks.cons | exact Pull.here _ _ | apply Pull.there))) ?_
                exact ⟨⟨by dsimp only; omega, by dsimp only; rw [lks_succ]; exact hp2.trans (hp.append_right _), hh2⟩, by dsimp only; omega⟩
            · try simp only [decide_eq_true_eq, decide_eq_false_iff_not, Bool.not_eq_true', Bool.not_eq_false', ne_eq, Decidable.not_not, Bool.not_eq_true, Bool.and_eq_true, Bool.or_eq_true, BitVec.reduceToNat] at hc3
              obtain rfl : i = ws.length := by omega
              refine JC.exit ?_
              refine JQ.then_exit ?_
              refine JQ.then_exit ?_
              refine JQ.block_exit ?_
              refine JQ.then_normal ?_
              refine JC.seq ?_
              refine JC.seq ?_
              refine JC.region ?_
              refine JO.v (Yv.as (v' := it (leftN ws n : Int)) (Yv.move rfl) (congrArg it (left_eq hl hT))) (by decide) ?_
              refine JO.v (Yv.move rfl) (by decide) ?_
              refine JO.nil ?_
              refine JQ.then_normal ?_
              refine JC.block ?_
              refine JC.loop (ι := Nat × Value × List Lk) (fun x => x.1 ≤ leftN ws n ∧ x.2.2.Perm ((sortT ws n).drop x.1) ∧ heapTo (K x.2.2) x.2.2.length) (fun x => [(7, ptr b7 0), (8, v39), (77, it (leftN ws n : Int)), (78, it (x.1 : Int))]) (fun x => []) (fun x => [Res.cells b7 [x.2.1] 43, Res.row v39 ws.length 3 1 (((bump (outT ws n ws.length) ((sortT ws n).take x.1))).map it), Res.row x.2.1 x.2.2.length 50 5 (lkC x.2.2)]) (fun x => leftN ws n - x.1) (0, vh, hs) (by repeat (first | exact trivial | refine ⟨by first | rfl | (simp; done), ?_⟩)) (Subs.sub (by repeat (first | exact Subs.nil _ | apply Subs.cons | exact List.Mem.head _ | refine List.Mem.tail _ ?_))) (Picks.perm (by repeat (first | exact Picks.nil _ | apply Picks.cons | exact Pull.here _ _ | apply Pull.there))) ?_ (fun x hx => ?_)
              · exact ⟨Nat.zero_le _, hp.trans (srt_perm _).symm, hh⟩
              obtain ⟨k, vh, hs⟩ := x
              obtain ⟨hk, hp, hh⟩ := hx
              dsimp only at hk hp hh ⊢
              refine JC.seq ?_
              refine JC.region ?_
              refine JO.v (Yv.bin rfl rfl BinR.lss_i) (by decide) ?_
              refine JO.nil ?_
              refine JQ.then_normal ?_
              refine JC.seq ?_
              refine JC.cond rfl (fun hc4 => ?_) (fun hc4 => ?_)
              · try simp only [decide_eq_true_eq, decide_eq_false_iff_not, Bool.not_eq_true', Bool.not_eq_false', ne_eq, Decidable.not_not, Bool.not_eq_true, Bool.and_eq_true, Bool.or_eq_true, BitVec.reduceToNat] at hc4
                have hks : k < (sortT ws n).length := by rw [sort_len]; have := left_le (ws := ws) (n := n) hl hT; omega
                have hpl : hs.length = ws.length - k := by rw [hp.length_eq, List.length_drop, sort_len]
                have hkw : k < ws.length := by rw [sort_len] at hks; exact hks
                refine JC.skip ?_
                refine JQ.then_normal ?_
                refine JC.seq ?_
                refine JC.block ?_
                refine JC.region ?_
                refine JO.v (Yv.move rfl) (by decide) ?_
                refine JO.v (Yv.iface Try.underlying48 (fun _ h => by cases h) rfl) (by decide) ?_
                refine JO.callB (f23_spec b7 vh hs (ws.length - k - 1) (by rw [hpl]; omega) hh (by omega)) body_23 rfl (by repeat (first | exact Picks.nil _ | apply Picks.cons | exact Pull.here _ _ | apply Pull.there)) (by repeat (first | exact Lends.nil _ | apply Lends.cons | exact Lend.same _ _ | exact Lend.row _ _ _ _ _ _ (by decide) | apply Lend.there)) (by rintro _ _ _ ⟨_, _, _, _, _, _, _, h, _⟩; exact h) (by decide) ?_
                rintro _ _ ⟨_, ⟨v2, ys, y, hpy, hh2, hmin, rfl, _, rfl⟩, hH⟩
                simp only [List.cons_append, List.nil_append] at hH; subst hH
                obtain ⟨hy, hys⟩ := pop_next (S := sortT ws n) (srt_sorted _) hks hp hpy hmin
                have hwl := who_lt hl hks
                rw [← hy] at hwl
                have hbb := share_bd (ws := ws) (n := n) hl hn hT (k := k) (by omega) y.who.toNat
                refine JO.v (Yv.assert Try.underlying50 (fun _ h => by cases h) rfl) (by decide) ?_
                refine JO.v (Yv.as (v' := it ((y.who.toNat : Nat) : Int)) (Yv.fieldV Try.underlying50 rfl Try.underlying3 rfl rfl) rfl) (by decide) ?_
                first | refine JO.v (Yv.indexRow1 Try.underlying25 sz_3 rfl rfl (by repeat (first | exact List.Mem.head _ | refine List.Mem.tail _ ?_)) (by first | exact hwl | (rw [bump_len, hol]; exact hwl))) (by decide) ?_ | refine JO.v (Yv.indexRd1 Try.underlying25 sz_3 rfl rfl (by repeat (first | exact Lend.same _ _ | exact Lend.row _ _ _ _ _ _ (by decide) | apply Lend.there)) (by first | exact hwl | (rw [bump_len, hol]; exact hwl))) (by decide) ?_
                refine JO.v (Yv.load1 one_3 rfl (Kn.row (by repeat (first | exact List.Mem.head _ | refine List.Mem.tail _ ?_)) (by exact gm (d := 0) (by first | exact hwl | (rw [bump_len, hol]; exact hwl))))) (by decide) ?_
                refine JO.v (Yv.bin rfl rfl (BinR.add_i (by first | (constructor <;> omega) | (constructor <;> simp <;> omega)))) (by decide) ?_
                first | refine JO.v (Yv.indexRow1 Try.underlying25 sz_3 rfl rfl (by repeat (first | exact List.Mem.head _ | refine List.Mem.tail _ ?_)) (by first | exact hwl | (rw [bump_len, hol]; exact hwl))) (by decide) ?_ | refine JO.v (Yv.indexRd1 Try.underlying25 sz_3 rfl rfl (by repeat (first | exact Lend.same _ _ | exact Lend.row _ _ _ _ _ _ (by decide) | apply Lend.there)) (by first | exact hwl | (rw [bump_len, hol]; exact hwl))) (by decide) ?_
                first | refine JO.store1 sz_3 rfl rfl rfl (by repeat (first | exact Upd.here _ _ _ | apply Upd.there)) (by first | exact ltb rfl | (simp; done) | (simp; omega) | omega | (simp [*]; omega)) ?_ | refine JO.storeRow1 sz_3 rfl rfl rfl (by repeat (first | exact Upd.here _ _ _ | apply Upd.there)) (by first | exact ltb rfl | (simp; done) | (simp; omega) | omega | (simp [*]; omega)) (by rw [List.length_map, bump_len, hol]) ?_
                rw [set_it]
                refine JO.nil ?_
                refine JQ.block_normal ?_
                refine JQ.then_normal ?_
                refine JC.region ?_
                refine JO.v (Yv.as (v' := it ((k + 1 : Nat) : Int)) (Yv.bin rfl rfl (BinR.add_i (by first | (constructor <;> omega) | (constructor <;> simp <;> omega)))) (congrArg it (by omega))) (by decide) ?_
                refine JO.v (Yv.move rfl) (by decide) ?_
                refine JO.nil ?_
                rw [hy, bump_next hks]
                refine JQ.head (k + 1, v2, ys) (by repeat (first | exact trivial | refine ⟨by first | rfl | (simp; done), ?_⟩)) (Subs.sub (by repeat (first | exact Subs.nil _ | apply Subs.cons | exact List.Mem.head _ | refine List.Mem.tail _ ?_))) (Picks.perm (by repeat (first | exact Picks.nil _ | apply Picks.cons | exact Pull.here _ _ | apply Pull.there))) ?_
                exact ⟨⟨by dsimp only; omega, hys, hh2⟩, by dsimp only; omega⟩
              · try simp only [decide_eq_true_eq, decide_eq_false_iff_not, Bool.not_eq_true', Bool.not_eq_false', ne_eq, Decidable.not_not, Bool.not_eq_true, Bool.and_eq_true, Bool.or_eq_true, BitVec.reduceToNat] at hc4
                obtain rfl : k = leftN ws n := by omega
                refine JC.exit ?_
                refine JQ.then_exit ?_
                refine JQ.then_exit ?_
                refine JQ.block_exit ?_
                refine JQ.then_normal ?_
                refine JC.seq ?_
                refine JC.region ?_
                refine JO.v (Yv.move rfl) (by decide) ?_
                refine JO.v (Yv.assign rfl) (by decide) ?_
                refine JO.v (Yv.assign rfl) (by decide) ?_
                refine JO.nil ?_
                refine JQ.then_normal ?_
                refine JC.ret ?_
                exact JQ.done (.inr rfl) (Γ' := []) (H' := [Res.row _ _ 3 1 _]) (res2 rfl (RV.tmp rfl) (RV.tmp rfl)) (Subs.sub (by repeat (first | exact Subs.nil _ | apply Subs.cons | exact List.Mem.head _ | refine List.Mem.tail _ ?_))) (Picks.perm (by repeat (first | exact Picks.nil _ | apply Picks.cons | exact Pull.here _ _ | apply Pull.there))) ⟨v39, rfl, rfl, by rw [show shareL ws ((n : Int)).toNat = (bump (outT ws n ws.length) ((sortT ws n).take (leftN ws n))) from rfl, bump_len, hol]⟩


theorem f9b_spec (u : Value) (ws : List W64) (n0 : Int) (hE : shareE ws n0 ≠ 0) :
    Spec Try.prog 9 #[u, (it n0)] [Res.rd u ws.length 1 (ws.map u64)] []
      (fun r Γ' H' => r = (.tuple #[.slice none 0 0, it (shareE ws n0)]) ∧ Γ' = [] ∧ H' = []) := by
  refine Spec.of_args Try.func9 rfl Try.ntmps9 (by simp) fun w => ?_
  have htl := tot_lt ws
  refine JC.seq ?_
  refine JC.region ?_
  refine JO.v (Yv.assign rfl) (by decide) ?_
  refine JO.v (Yv.assign rfl) (by decide) ?_
  refine JO.nil ?_
  refine JQ.then_normal ?_
  refine JC.seq ?_
  refine JC.region ?_
  refine JO.v (Yv.move rfl) (by decide) ?_
  refine JO.callB (f12_spec u ws) body_12 rfl (by repeat (first | exact Picks.nil _ | apply Picks.cons | exact Pull.here _ _ | apply Pull.there)) (by repeat (first | exact Lends.nil _ | apply Lends.cons | exact Lend.same _ _ | exact Lend.row _ _ _ _ _ _ (by decide) | apply Lend.there)) (by rintro _ _ _ ⟨_, h, _⟩; exact h) (by decide) ?_
  rintro _ _ ⟨_, ⟨rfl, _, rfl⟩, hH⟩
  simp only [List.cons_append, List.nil_append] at hH; subst hH
  refine JO.alloc _ zero_32 rfl (by decide) fun b6 => ?_
  first | refine JO.storeAll sz_32 rfl rfl rfl (by first | rfl | (simp; done) | (simp; omega)) (by first | (simp; done) | exact one_map (fun _ => rfl) | exact one_tab (fun _ => rfl) | exact one_tab (fun _ => by split <;> rfl)) (by repeat (first | exact Upd.here _ _ _ | apply Upd.there)) (by first | rfl | (simp; done) | (simp; omega)) ?_ | refine JO.store sz_32 rfl rfl rfl (by first | rfl | (simp; done) | (simp; omega)) (by first | (simp; done) | exact one_sing rfl | exact one_map (fun _ => rfl) | exact one_piece (one_map (fun _ => rfl)) | exact one_tab (fun _ => rfl) | exact one_tab (fun _ => by split <;> rfl)) (by repeat (first | exact Upd.here _ _ _ | apply Upd.there)) (by first | exact ltb rfl | (simp; done) | (simp; omega) | omega | (simp [*]; omega)) ?_ | refine JO.storeRow sz_32 rfl rfl rfl (by first | rfl | simp) (by first | (simp; done) | exact one_map (fun _ => rfl) | exact one_tab (fun _ => rfl) | exact one_tab (fun _ => by split <;> rfl)) (by repeat (first | exact Upd.here _ _ _ | apply Upd.there)) (by first | exact ltb rfl | (simp; done) | (simp; omega) | omega | (simp [*]; omega)) (by first | exact ltb rfl | (simp; done) | (simp; omega) | omega | (simp [*]; omega)) ?_
  refine JO.nil ?_
  refine JQ.then_normal ?_
  refine JC.seq ?_
  refine JC.block ?_
  refine JC.seq ?_
  refine JC.region ?_
  refine JO.v (Yv.move rfl) (by decide) ?_
  first | refine JO.v (Yv.len_s Try.underlying22 rfl) (by decide) ?_ | refine JO.v (Yv.lenRd Try.underlying22 rfl (by repeat (first | exact Lend.same _ _ | exact Lend.row _ _ _ _ _ _ (by decide) | apply Lend.there))) (by decide) ?_
  refine JO.v (Yv.as (v' := .bool (decide (ws.length > 40))) (Yv.bin rfl rfl BinR.gtr_i) (congrArg Value.bool (decide_eq_decide.2 (by omega)))) (by decide) ?_
  refine JO.v (Yv.move rfl) (by decide) ?_
  refine JO.join 3 24 (.bool (decide (ws.length > 40 ∨ n0 < 0))) ?_ ?_
  · skip
    refine JO.gsplit (g := 20) rfl (fun hg11 => ?_) (fun hg11 => ?_)
    · have hg11' := hg11
      try simp only [decide_eq_true_eq, decide_eq_false_iff_not, Bool.not_eq_true', Bool.not_eq_false', ne_eq, Decidable.not_not, Bool.not_eq_true, Bool.and_eq_true, Bool.or_eq_true, BitVec.reduceToNat] at hg11'
      refine JO.gf (g := 21) rfl rfl hg11 (by decide) ?_
      refine JO.gf (g := 21) rfl rfl hg11 (by decide) ?_
      refine JO.v (Yv.pick1 rfl hg11 rfl) (by decide) ?_
      refine JO.nil ?_
      refine JQ.head () (by first | (refine ⟨by first | rfl | (simp [*]; done) | (show some _ = some _; simp [*]; done), ?_⟩; repeat (first | exact trivial | refine ⟨rfl, ?_⟩))) (Subs.sub (by repeat (first | exact Subs.nil _ | apply Subs.cons | exact List.Mem.head _ | refine List.Mem.tail _ ?_))) (Picks.perm (by repeat (first | exact Picks.nil _ | apply Picks.cons | exact Pull.here _ _ | apply Pull.there))) ?_
      trivial
    · have hg11' := hg11
      try simp only [decide_eq_true_eq, decide_eq_false_iff_not, Bool.not_eq_true', Bool.not_eq_false', ne_eq, Decidable.not_not, Bool.not_eq_true, Bool.and_eq_true, Bool.or_eq_true, BitVec.reduceToNat] at hg11'
      refine JO.gt (g := 21) rfl rfl hg11 ?_
      refine JO.v (Yv.move rfl) (by decide) ?_
      refine JO.gt (g := 21) rfl rfl hg11 ?_
      refine JO.v (Yv.bin rfl rfl BinR.lss_i) (by decide) ?_
      refine JO.v (Yv.pick0 rfl hg11 rfl) (by decide) ?_
      refine JO.nil ?_
      refine JQ.head () (by first | (refine ⟨by first | rfl | (simp [*]; done) | (show some _ = some _; simp [*]; done), ?_⟩; repeat (first | exact trivial | refine ⟨rfl, ?_⟩))) (Subs.sub (by repeat (first | exact Subs.nil _ | apply Subs.cons | exact List.Mem.head _ | refine List.Mem.tail _ ?_))) (Picks.perm (by repeat (first | exact Picks.nil _ | apply Picks.cons | exact Pull.here _ _ | apply Pull.there))) ?_
      trivial
  · skip
    refine JO.v (Yv.move rfl) (by decide) ?_
    refine JO.join 3 28 (.bool (decide (ws.length > 40 ∨ n0 < 0 ∨ n0 > 200))) ?_ ?_
    · skip
      refine JO.gsplit (g := 24) rfl (fun hg15 => ?_) (fun hg15 => ?_)
      · have hg15' := hg15
        try simp only [decide_eq_true_eq, decide_eq_false_iff_not, Bool.not_eq_true', Bool.not_eq_false', ne_eq, Decidable.not_not, Bool.not_eq_true, Bool.and_eq_true, Bool.or_eq_true, BitVec.reduceToNat] at hg15'
        refine JO.gf (g := 25) rfl rfl hg15 (by decide) ?_
        refine JO.gf (g := 25) rfl rfl hg15 (by decide) ?_
        refine JO.v (Yv.pick1 rfl hg15 rfl) (by decide) ?_
        refine JO.nil ?_
        refine JQ.head () (by first | (refine ⟨by first | rfl | (show some _ = some _; exact congrArg (fun b => some (Value.bool b)) (by first | exact (decide_eq_true (by omega)).symm | exact decide_eq_decide.2 (by omega))), ?_⟩; repeat (first | exact trivial | refine ⟨rfl, ?_⟩))) (Subs.sub (by repeat (first | exact Subs.nil _ | apply Subs.cons | exact List.Mem.head _ | refine List.Mem.tail _ ?_))) (Picks.perm (by repeat (first | exact Picks.nil _ | apply Picks.cons | exact Pull.here _ _ | apply Pull.there))) ?_
        trivial
      · have hg15' := hg15
        try simp only [decide_eq_true_eq, decide_eq_false_iff_not, Bool.not_eq_true', Bool.not_eq_false', ne_eq, Decidable.not_not, Bool.not_eq_true, Bool.and_eq_true, Bool.or_eq_true, BitVec.reduceToNat] at hg15'
        refine JO.gt (g := 25) rfl rfl hg15 ?_
        refine JO.v (Yv.move rfl) (by decide) ?_
        refine JO.gt (g := 25) rfl rfl hg15 ?_
        refine JO.v (Yv.bin rfl rfl BinR.gtr_i) (by decide) ?_
        refine JO.v (Yv.pick0 rfl hg15 rfl) (by decide) ?_
        refine JO.nil ?_
        refine JQ.head () (by first | (refine ⟨by first | rfl | (show some _ = some _; exact congrArg (fun b => some (Value.bool b)) (by first | exact (decide_eq_true (by omega)).symm | exact decide_eq_decide.2 (by omega))), ?_⟩; repeat (first | exact trivial | refine ⟨rfl, ?_⟩))) (Subs.sub (by repeat (first | exact Subs.nil _ | apply Subs.cons | exact List.Mem.head _ | refine List.Mem.tail _ ?_))) (Picks.perm (by repeat (first | exact Picks.nil _ | apply Picks.cons | exact Pull.here _ _ | apply Pull.there))) ?_
        trivial
    · skip
      refine JO.v (Yv.assign rfl) (by decide) ?_
      refine JO.nil ?_
      refine JQ.then_normal ?_
      refine JC.cond rfl (fun hc1 => ?_) (fun hc1 => ?_)
      · try simp only [decide_eq_true_eq, decide_eq_false_iff_not, Bool.not_eq_true', Bool.not_eq_false', ne_eq, Decidable.not_not, Bool.not_eq_true, Bool.and_eq_true, Bool.or_eq_true, BitVec.reduceToNat] at hc1
        have he : shareE ws n0 = 2 := by rw [shareE, if_pos hc1]
        refine JC.seq ?_
        refine JC.region ?_
        refine JO.v (Yv.assign rfl) (by decide) ?_
        refine JO.v (Yv.assign rfl) (by decide) ?_
        refine JO.nil ?_
        refine JQ.then_normal ?_
        refine JC.ret ?_
        refine JQ.block_ret ?_
        refine JQ.then_ret ?_
        exact JQ.done (.inr rfl) (Γ' := []) (H' := []) (res2 rfl (RV.tmp rfl) (RV.tmp rfl)) (Subs.sub (by repeat (first | exact Subs.nil _ | apply Subs.cons | exact List.Mem.head _ | refine List.Mem.tail _ ?_))) (Picks.perm (by repeat (first | exact Picks.nil _ | apply Picks.cons | exact Pull.here _ _ | apply Pull.there))) ⟨by rw [he], rfl, rfl⟩
      · try simp only [decide_eq_true_eq, decide_eq_false_iff_not, Bool.not_eq_true', Bool.not_eq_false', ne_eq, Decidable.not_not, Bool.not_eq_true, Bool.and_eq_true, Bool.or_eq_true, BitVec.reduceToNat] at hc1
        skip
        refine JC.seq ?_
        refine JC.region ?_
        refine JO.v (Yv.move rfl) (by decide) ?_
        refine JO.v (Yv.bin rfl rfl BinR.gtr_i) (by decide) ?_
        refine JO.v (Yv.move rfl) (by decide) ?_
        refine JO.join 4 36 (.bool (decide (n0 > 0 ∧ totN ws = 0))) ?_ ?_
        · skip
          refine JO.gsplit (g := 31) rfl (fun hg24 => ?_) (fun hg24 => ?_)
          · have hg24' := hg24
            try simp only [decide_eq_true_eq, decide_eq_false_iff_not, Bool.not_eq_true', Bool.not_eq_false', ne_eq, Decidable.not_not, Bool.not_eq_true, Bool.and_eq_true, Bool.or_eq_true, BitVec.reduceToNat] at hg24'
            refine JO.gt (g := 32) rfl rfl hg24 ?_
            first | refine JO.v (Yv.loadOwn agg_32 (by repeat (first | exact List.Mem.head _ | refine List.Mem.tail _ ?_)) rfl (by first | rfl | (simp; done) | (simp; omega) | (simp [*]; done))) (by decide) ?_ | refine JO.v (Yv.loadOwnAt agg_32 (by repeat (first | exact List.Mem.head _ | refine List.Mem.tail _ ?_)) rfl (by first | rfl | (simp; done) | (simp; omega) | (simp [*]; done))) (by decide) ?_ | refine JO.v (Yv.loadRow agg_32 (by repeat (first | exact List.Mem.head _ | refine List.Mem.tail _ ?_)) rfl (by first | rfl | (simp; done) | (simp; omega) | (simp [*]; done))) (by decide) ?_ | refine JO.v (Yv.loadRd agg_32 (by repeat (first | exact Lend.same _ _ | exact Lend.row _ _ _ _ _ _ (by decide) | apply Lend.there)) rfl (by first | rfl | (simp; done) | (simp; omega) | (simp [*]; done))) (by decide) ?_ | refine JO.v (Yv.loadRo agg_32 (by repeat (first | exact List.Mem.head _ | refine List.Mem.tail _ ?_)) rfl (by first | rfl | (simp; done) | (simp; omega) | (simp [*]; done))) (by decide) ?_
            refine JO.gt (g := 32) rfl rfl hg24 ?_
            refine JO.v (Yv.as (v' := .agg ((wd 0).map u64).toArray) (Yv.build bld_32 rfl rfl) rfl) (by decide) ?_
            refine JO.gt (g := 32) rfl rfl hg24 ?_
            refine JO.v (Yv.as (v' := .bool (decide (totN ws = 0))) (Yv.bin rfl rfl (eql_nat wd_len' wd_len')) (congrArg Value.bool (decide_eq_decide.2 (by rw [wd_eq htl (by decide)])))) (by decide) ?_
            refine JO.v (Yv.pick1 rfl hg24 rfl) (by decide) ?_
            refine JO.nil ?_
            refine JQ.head () (by first | (refine ⟨by first | rfl | (simp [*]; done) | (show some _ = some _; simp [*]; done), ?_⟩; repeat (first | exact trivial | refine ⟨rfl, ?_⟩))) (Subs.sub (by repeat (first | exact Subs.nil _ | apply Subs.cons | exact List.Mem.head _ | refine List.Mem.tail _ ?_))) (Picks.perm (by repeat (first | exact Picks.nil _ | apply Picks.cons | exact Pull.here _ _ | apply Pull.there))) ?_
            trivial
          · have hg24' := hg24
            try simp only [decide_eq_true_eq, decide_eq_false_iff_not, Bool.not_eq_true', Bool.not_eq_false', ne_eq, Decidable.not_not, Bool.not_eq_true, Bool.and_eq_true, Bool.or_eq_true, BitVec.reduceToNat] at hg24'
            refine JO.gf (g := 32) rfl rfl hg24 (by decide) ?_
            refine JO.gf (g := 32) rfl rfl hg24 (by decide) ?_
            refine JO.gf (g := 32) rfl rfl hg24 (by decide) ?_
            refine JO.v (Yv.pick0 rfl hg24 rfl) (by decide) ?_
            refine JO.nil ?_
            refine JQ.head () (by first | (refine ⟨by first | rfl | (simp [*]; done) | (show some _ = some _; simp [*]; done), ?_⟩; repeat (first | exact trivial | refine ⟨rfl, ?_⟩))) (Subs.sub (by repeat (first | exact Subs.nil _ | apply Subs.cons | exact List.Mem.head _ | refine List.Mem.tail _ ?_))) (Picks.perm (by repeat (first | exact Picks.nil _ | apply Picks.cons | exact Pull.here _ _ | apply Pull.there))) ?_
            trivial
        · skip
          refine JO.v (Yv.assign rfl) (by decide) ?_
          refine JO.nil ?_
          refine JQ.then_normal ?_
          refine JC.cond rfl (fun hc2 => ?_) (fun hc2 => ?_)
          · try simp only [decide_eq_true_eq, decide_eq_false_iff_not, Bool.not_eq_true', Bool.not_eq_false', ne_eq, Decidable.not_not, Bool.not_eq_true, Bool.and_eq_true, Bool.or_eq_true, BitVec.reduceToNat] at hc2
            have he : shareE ws n0 = 11 := by rw [shareE, if_neg hc1, if_pos hc2]
            refine JC.seq ?_
            refine JC.region ?_
            refine JO.v (Yv.assign rfl) (by decide) ?_
            refine JO.v (Yv.assign rfl) (by decide) ?_
            refine JO.nil ?_
            refine JQ.then_normal ?_
            refine JC.ret ?_
            refine JQ.block_ret ?_
            refine JQ.then_ret ?_
            exact JQ.done (.inr rfl) (Γ' := []) (H' := []) (res2 rfl (RV.tmp rfl) (RV.tmp rfl)) (Subs.sub (by repeat (first | exact Subs.nil _ | apply Subs.cons | exact List.Mem.head _ | refine List.Mem.tail _ ?_))) (Picks.perm (by repeat (first | exact Picks.nil _ | apply Picks.cons | exact Pull.here _ _ | apply Pull.there))) ⟨by rw [he], rfl, rfl⟩
          · try simp only [decide_eq_true_eq, decide_eq_false_iff_not, Bool.not_eq_true', Bool.not_eq_false', ne_eq, Decidable.not_not, Bool.not_eq_true, Bool.and_eq_true, Bool.or_eq_true, BitVec.reduceToNat] at hc2
            exact absurd (by rw [shareE, if_neg hc1, if_neg hc2]) hE
end Go.Proofs.Ytfcodaigdigjmaa
