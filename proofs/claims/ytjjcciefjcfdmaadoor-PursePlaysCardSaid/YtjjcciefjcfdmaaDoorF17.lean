/- Walk: PursePlays. -/
import Derived.Test.YtjjcciefjcfdmaaDoorF16
namespace Go.Proofs.YtjjcciefjcfdmaaDoor
open Go.RowKit
set_option maxRecDepth 100000
set_option linter.unusedVariables false
set_option linter.unusedSimpArgs false
set_option maxHeartbeats 1000000 in
theorem f6a_spec (u vo : Value) (l : List W64) (os : List OpD) (hn : newE l = 0) :
    Spec Tryd.prog 6 #[u, vo] [Res.var 0 ((wd 9223372036854775808).map u64), Res.rd u l.length 1 (l.map u64), Res.rd vo os.length 5 (opCells os), Res.all (opRes os)] []
      (fun r Γ' H' => r = (.bool true) ∧ Γ' = [] ∧ H' = []) := by
  refine Spec.of_args Tryd.func6 rfl Tryd.ntmps6 (by simp) fun w => ?_
  refine JC.know (φ := os.length ≤ 9223372036854775807) (fun w hs => by obtain ⟨_, _, _, _, _, _, h⟩ := hs.rdForm (.tail _ (.tail _ (.head _))); unfold maxLen at h; omega) fun hlo => ?_
  obtain ⟨hn1, hn2⟩ := new_0 hn
  refine JC.seq ?_
  refine JC.region ?_
  refine JO.v (Yv.assign rfl) (by decide) ?_
  refine JO.nil ?_
  refine JQ.then_normal ?_
  refine JC.seq ?_
  refine JC.region ?_
  refine JO.callB f8_spec body_8 rfl (by repeat (first | exact Picks.nil _ | apply Picks.cons | exact Pull.here _ _ | apply Pull.there)) (by repeat (first | exact Lends.nil _ | apply Lends.cons | exact Lend.same _ _ | exact Lend.row _ _ _ _ _ _ (by decide) | apply Lend.there)) (by rintro _ _ _ ⟨_, h, _⟩; exact h) (by decide) ?_
  rintro _ _ ⟨_, ⟨rfl, _, rfl⟩, hH⟩
  simp only [List.cons_append, List.nil_append] at hH; subst hH
  refine JO.v (Yv.assign rfl) (by decide) ?_
  refine JO.nil ?_
  refine JQ.then_normal ?_
  refine JC.seq ?_
  refine JC.seq ?_
  refine JC.region ?_
  refine JO.v (Yv.move rfl) (by decide) ?_
  first | refine JO.v (Yv.len_s Tryd.underlying22 rfl) (by decide) ?_ | refine JO.v (Yv.lenRd Tryd.underlying22 rfl (by repeat (first | exact Lend.same _ _ | exact Lend.row _ _ _ _ _ _ (by decide) | apply Lend.there))) (by decide) ?_
  refine JO.v (Yv.bin rfl rfl BinR.gtr_i) (by decide) ?_
  refine JO.v (Yv.move rfl) (by decide) ?_
  refine JO.join 4 28 (.bool (decide ((l.length : Int) > 45 ∨ (os.length : Int) > 40))) ?_ ?_
  · skip
    refine JO.gsplit (g := 23) rfl (fun hg8 => ?_) (fun hg8 => ?_)
    · have hg8' := hg8
      try simp only [decide_eq_true_eq, decide_eq_false_iff_not, Bool.not_eq_true', Bool.not_eq_false', ne_eq, Decidable.not_not, Bool.not_eq_true, Bool.and_eq_true, Bool.or_eq_true, BitVec.reduceToNat] at hg8'
      refine JO.gf (g := 24) rfl rfl hg8 (by decide) ?_
      refine JO.gf (g := 24) rfl rfl hg8 (by decide) ?_
      refine JO.gf (g := 24) rfl rfl hg8 (by decide) ?_
      refine JO.v (Yv.pick1 rfl hg8 rfl) (by decide) ?_
      refine JO.nil ?_
      refine JQ.head () (by first | (refine ⟨by first | rfl | (simp [*]; done) | (show some _ = some _; simp [*]; done), ?_⟩; repeat (first | exact trivial | refine ⟨rfl, ?_⟩))) (Subs.sub (by repeat (first | exact Subs.nil _ | apply Subs.cons | exact List.Mem.head _ | refine List.Mem.tail _ ?_))) (Picks.perm (by repeat (first | exact Picks.nil _ | apply Picks.cons | exact Pull.here _ _ | apply Pull.there))) ?_
      trivial
    · have hg8' := hg8
      try simp only [decide_eq_true_eq, decide_eq_false_iff_not, Bool.not_eq_true', Bool.not_eq_false', ne_eq, Decidable.not_not, Bool.not_eq_true, Bool.and_eq_true, Bool.or_eq_true, BitVec.reduceToNat] at hg8'
      refine JO.gt (g := 24) rfl rfl hg8 ?_
      refine JO.v (Yv.move rfl) (by decide) ?_
      refine JO.gt (g := 24) rfl rfl hg8 ?_
      first | refine JO.v (Yv.len_s Tryd.underlying38 rfl) (by decide) ?_ | refine JO.v (Yv.lenRd Tryd.underlying38 rfl (by repeat (first | exact Lend.same _ _ | exact Lend.row _ _ _ _ _ _ (by decide) | apply Lend.there))) (by decide) ?_
      refine JO.gt (g := 24) rfl rfl hg8 ?_
      refine JO.v (Yv.bin rfl rfl BinR.gtr_i) (by decide) ?_
      refine JO.v (Yv.pick0 rfl hg8 rfl) (by decide) ?_
      refine JO.nil ?_
      refine JQ.head () (by first | (refine ⟨by first | rfl | (simp [*]; done) | (show some _ = some _; simp [*]; done), ?_⟩; repeat (first | exact trivial | refine ⟨rfl, ?_⟩))) (Subs.sub (by repeat (first | exact Subs.nil _ | apply Subs.cons | exact List.Mem.head _ | refine List.Mem.tail _ ?_))) (Picks.perm (by repeat (first | exact Picks.nil _ | apply Picks.cons | exact Pull.here _ _ | apply Pull.there))) ?_
      trivial
  · skip
    refine JO.nil ?_
    refine JQ.then_normal ?_
    refine JC.cond rfl (fun hc1 => ?_) (fun hc1 => ?_)
    · try simp only [decide_eq_true_eq, decide_eq_false_iff_not, Bool.not_eq_true', Bool.not_eq_false', ne_eq, Decidable.not_not, Bool.not_eq_true, Bool.and_eq_true, Bool.or_eq_true, BitVec.reduceToNat] at hc1
      skip
      refine JC.seq ?_
      refine JC.region ?_
      refine JO.v (Yv.move rfl) (by decide) ?_
      refine JO.v (Yv.assign rfl) (by decide) ?_
      refine JO.nil ?_
      refine JQ.then_normal ?_
      refine JC.ret ?_
      refine JQ.then_ret ?_
      exact JQ.done (.inr rfl) (Γ' := []) (H' := []) (res1 rfl (RV.tmp rfl)) (Subs.sub (by repeat (first | exact Subs.nil _ | apply Subs.cons | exact List.Mem.head _ | refine List.Mem.tail _ ?_))) (Picks.perm (by repeat (first | exact Picks.nil _ | apply Picks.cons | exact Pull.here _ _ | apply Pull.there))) ⟨rfl, rfl, rfl⟩
    · try simp only [decide_eq_true_eq, decide_eq_false_iff_not, Bool.not_eq_true', Bool.not_eq_false', ne_eq, Decidable.not_not, Bool.not_eq_true, Bool.and_eq_true, Bool.or_eq_true, BitVec.reduceToNat] at hc1
      have hol : os.length ≤ 40 := by omega
      refine JC.skip ?_
      refine JQ.then_normal ?_
      refine JC.seq ?_
      refine JC.region ?_
      refine JO.v (Yv.move rfl) (by decide) ?_
      refine JO.callB (f9a_spec u l hn) body_9 rfl (by repeat (first | exact Picks.nil _ | apply Picks.cons | exact Pull.here _ _ | apply Pull.there)) (by repeat (first | exact Lends.nil _ | apply Lends.cons | exact Lend.same _ _ | exact Lend.row _ _ _ _ _ _ (by decide) | apply Lend.there)) (by rintro _ _ _ ⟨_, _, _, h, _⟩; exact h) (by decide) ?_
      rintro _ _ ⟨_, ⟨p, v, rfl, _, rfl⟩, hH⟩
      simp only [List.cons_append, List.nil_append] at hH; subst hH
      refine JO.v (Yv.move rfl) (by decide) ?_
      refine JO.v (Yv.as (v' := ptr p 0) (Yv.extract rfl rfl) rfl) (by decide) ?_
      refine JO.v (Yv.as (v' := it 0) (Yv.extract rfl rfl) rfl) (by decide) ?_
      refine JO.v (Yv.assign rfl) (by decide) ?_
      refine JO.v (Yv.assign rfl) (by decide) ?_
      refine JO.nil ?_
      refine JQ.then_normal ?_
      refine JC.seq ?_
      refine JC.region ?_
      refine JO.v (Yv.move rfl) (by decide) ?_
      refine JO.callB (f17_spec u l) body_17 rfl (by repeat (first | exact Picks.nil _ | apply Picks.cons | exact Pull.here _ _ | apply Pull.there)) (by repeat (first | exact Lends.nil _ | apply Lends.cons | exact Lend.same _ _ | exact Lend.row _ _ _ _ _ _ (by decide) | apply Lend.there)) (by rintro _ _ _ ⟨_, h, _⟩; exact h) (by decide) ?_
      rintro _ _ ⟨_, ⟨rfl, _, rfl⟩, hH⟩
      simp only [List.cons_append, List.nil_append] at hH; subst hH
      rw [hn]
      refine JO.v (Yv.assign rfl) (by decide) ?_
      refine JO.nil ?_
      refine JQ.then_normal ?_
      refine JC.seq ?_
      refine JC.seq ?_
      refine JC.region ?_
      refine JO.v (Yv.move rfl) (by decide) ?_
      refine JO.v (Yv.as (v' := .bool false) (Yv.bin rfl rfl (BinR.eql_p Tryd.underlying25)) rfl) (by decide) ?_
      refine JO.nil ?_
      refine JQ.then_normal ?_
      refine JC.cond rfl (fun hc2 => ?_) (fun hc2 => ?_)
      · try simp only [decide_eq_true_eq, decide_eq_false_iff_not, Bool.not_eq_true', Bool.not_eq_false', ne_eq, Decidable.not_not, Bool.not_eq_true, Bool.and_eq_true, Bool.or_eq_true, BitVec.reduceToNat] at hc2
        exact absurd hc2 (by decide)
      · try simp only [decide_eq_true_eq, decide_eq_false_iff_not, Bool.not_eq_true', Bool.not_eq_false', ne_eq, Decidable.not_not, Bool.not_eq_true, Bool.and_eq_true, Bool.or_eq_true, BitVec.reduceToNat] at hc2
        refine JC.skip ?_
        refine JQ.then_normal ?_
        refine JC.seq ?_
        refine JC.region ?_
        refine JO.buildEmpty Tryd.underlying22 sz_23 (by decide) fun v49 => ?_
        refine JO.v (Yv.move rfl) (by decide) ?_
        refine JO.append Tryd.underlying22 info_23 rfl (by decide) rfl rfl (by repeat (first | exact Pull.here _ _ | apply Pull.there)) (by first | exact Src.nil | exact Src.rd (by repeat (first | exact Lend.same _ _ | exact Lend.row _ _ _ _ _ _ (by decide) | apply Lend.there)) (by decide) | exact Src.cells (by repeat (first | exact List.Mem.head _ | refine List.Mem.tail _ ?_)) (by simp)) (by first | (simp; done) | exact one_sing rfl | exact one_map (fun _ => rfl) | exact one_piece (one_map (fun _ => rfl)) | exact one_tab (fun _ => rfl) | exact one_tab (fun _ => by split <;> rfl)) (by unfold maxLen; omega) (by omega) (by decide) fun v51 => ?_
        simp only [Nat.zero_add, List.nil_append]
        refine JO.freeze (by repeat (first | exact Pull.here _ _ | apply Pull.there)) (by decide) ?_
        refine JO.v (Yv.assign rfl) (by decide) ?_
        refine JO.nil ?_
        refine JQ.then_normal ?_
        refine JC.seq ?_
        refine JC.seq ?_
        refine JC.region ?_
        refine JO.v (Yv.as (v' := it ((0 : Nat) : Int)) (Yv.assign rfl) rfl) (by decide) ?_
        refine JO.nil ?_
        refine JQ.then_normal ?_
        refine JC.block ?_
        refine JC.loop (ι := Nat × List W64 × Value) (fun x => x.1 ≤ os.length ∧ x.2.1.length = l.length) (fun x => [(1, vo), (5, .bool true), (6, ptr p 0), (7, it 0), (8, it 0), (9, x.2.2), (10, it (x.1 : Int))]) (fun x => [Res.var 0 ((wd 9223372036854775808).map u64), Res.rd u l.length 1 (l.map u64), Res.rd vo os.length 5 (opCells os), Res.all (opRes os), Res.rd x.2.2 x.2.1.length 1 (x.2.1.map u64)]) (fun x => [Res.cells p [v] 57, Res.row v x.2.1.length 23 1 (x.2.1.map u64)]) (fun x => os.length - x.1) (0, l, _) (by repeat (first | exact trivial | refine ⟨by first | rfl | (simp; done), ?_⟩)) (Subs.sub (by repeat (first | exact Subs.nil _ | apply Subs.cons | exact List.Mem.head _ | refine List.Mem.tail _ ?_))) (Picks.perm (by repeat (first | exact Picks.nil _ | apply Picks.cons | exact Pull.here _ _ | apply Pull.there))) ?_ (fun x hx => ?_)
        · exact ⟨Nat.zero_le _, rfl⟩
        obtain ⟨k, m, vw⟩ := x
        obtain ⟨hk, hm⟩ := hx
        dsimp only at hk hm ⊢
        refine JC.seq ?_
        refine JC.seq ?_
        refine JC.region ?_
        refine JO.v (Yv.move rfl) (by decide) ?_
        refine JO.v (Yv.move rfl) (by decide) ?_
        first | refine JO.v (Yv.len_s Tryd.underlying38 rfl) (by decide) ?_ | refine JO.v (Yv.lenRd Tryd.underlying38 rfl (by repeat (first | exact Lend.same _ _ | exact Lend.row _ _ _ _ _ _ (by decide) | apply Lend.there))) (by decide) ?_
        refine JO.v (Yv.bin rfl rfl BinR.lss_i) (by decide) ?_
        refine JO.nil ?_
        refine JQ.then_normal ?_
        refine JC.cond rfl (fun hc3 => ?_) (fun hc3 => ?_)
        · try simp only [decide_eq_true_eq, decide_eq_false_iff_not, Bool.not_eq_true', Bool.not_eq_false', ne_eq, Decidable.not_not, Bool.not_eq_true, Bool.and_eq_true, Bool.or_eq_true, BitVec.reduceToNat] at hc3
          refine JC.skip ?_
          refine JQ.then_normal ?_
          refine JC.seq ?_
          refine JC.block ?_
          refine JC.seq ?_
          refine JC.region ?_
          refine JO.v (Yv.move rfl) (by decide) ?_
          refine JO.v (Yv.move rfl) (by decide) ?_
          first | refine JO.v (Yv.indexRow Tryd.underlying38 sz_40 rfl rfl (by repeat (first | exact List.Mem.head _ | refine List.Mem.tail _ ?_)) (by first | exact ltb rfl | (simp; done) | (simp; omega) | omega | (simp [*]; omega))) (by decide) ?_ | refine JO.v (Yv.indexRd Tryd.underlying38 sz_40 rfl rfl (by repeat (first | exact Lend.same _ _ | exact Lend.row _ _ _ _ _ _ (by decide) | apply Lend.there)) (by decide) (by first | exact ltb rfl | (simp; done) | (simp; omega) | omega | (simp [*]; omega))) (by decide) ?_
          refine JO.open (r := Res.rd (opAt os k).w (opAt os k).ws.length 1 ((opAt os k).ws.map u64)) (by repeat (first | exact List.Mem.head _ | refine List.Mem.tail _ ?_)) (op_res (by omega)) ?_
          first | refine JO.v (Yv.as (v' := .agg (opAt os k).cells.toArray) (Yv.loadOwn agg_40 (by repeat (first | exact List.Mem.head _ | refine List.Mem.tail _ ?_)) rfl (by first | rfl | (simp; done) | (simp; omega) | (simp [*]; done))) (congrArg (fun l : List Value => Value.agg l.toArray) (op_piece (by omega)))) (by decide) ?_ | refine JO.v (Yv.as (v' := .agg (opAt os k).cells.toArray) (Yv.loadOwnAt agg_40 (by repeat (first | exact List.Mem.head _ | refine List.Mem.tail _ ?_)) rfl (by first | rfl | (simp; done) | (simp; omega) | (simp [*]; done))) (congrArg (fun l : List Value => Value.agg l.toArray) (op_piece (by omega)))) (by decide) ?_ | refine JO.v (Yv.as (v' := .agg (opAt os k).cells.toArray) (Yv.loadRow agg_40 (by repeat (first | exact List.Mem.head _ | refine List.Mem.tail _ ?_)) rfl (by first | rfl | (simp; done) | (simp; omega) | (simp [*]; done))) (congrArg (fun l : List Value => Value.agg l.toArray) (op_piece (by omega)))) (by decide) ?_ | refine JO.v (Yv.as (v' := .agg (opAt os k).cells.toArray) (Yv.loadRd agg_40 (by repeat (first | exact Lend.same _ _ | exact Lend.row _ _ _ _ _ _ (by decide) | apply Lend.there)) rfl (by first | rfl | (simp; done) | (simp; omega) | (simp [*]; done))) (congrArg (fun l : List Value => Value.agg l.toArray) (op_piece (by omega)))) (by decide) ?_ | refine JO.v (Yv.as (v' := .agg (opAt os k).cells.toArray) (Yv.loadRo agg_40 (by repeat (first | exact List.Mem.head _ | refine List.Mem.tail _ ?_)) rfl (by first | rfl | (simp; done) | (simp; omega) | (simp [*]; done))) (congrArg (fun l : List Value => Value.agg l.toArray) (op_piece (by omega)))) (by decide) ?_
          refine JO.alloc _ zero_40 rfl (by decide) fun b11 => ?_
          refine JO.know (φ := (opAt os k).w.oneCell' = true) (fun w hs => by obtain ⟨A, c, h, _⟩ := hs.rdForm (.head _); rw [h]; rfl) fun hw1 => ?_
          refine JO.storeAll sz_40 rfl rfl rfl rfl (op_one hw1) (by repeat (first | exact Upd.here _ _ _ | apply Upd.there)) rfl ?_
          refine JO.nil ?_
          refine JQ.then_normal ?_
          refine JC.seq ?_
          refine JC.seq ?_
          refine JC.region ?_
          refine JO.v (Yv.fieldAddr fa_40_4 rfl) (by decide) ?_
          refine JO.v (Yv.as (v' := (opAt os k).w) (Yv.load1 one_22 rfl (by first | exact Kn.own (by repeat (first | exact List.Mem.head _ | refine List.Mem.tail _ ?_)) (by first  | rfl | exact tab_get (by first | omega | (simp; omega)) | exact gm (d := 0) (by first | omega | (simp; omega))) | exact Kn.ro (by repeat (first | exact List.Mem.head _ | refine List.Mem.tail _ ?_)) (by first  | rfl | exact tab_get (by first | omega | (simp; omega)) | exact gm (d := 0) (by first | omega | (simp; omega))) | exact Kn.row (by repeat (first | exact List.Mem.head _ | refine List.Mem.tail _ ?_)) (by first  | rfl | exact tab_get (by first | omega | (simp; omega)) | exact gm (d := 0) (by first | omega | (simp; omega))) | exact Kn.rd (by repeat (first | exact Lend.same _ _ | exact Lend.row _ _ _ _ _ _ (by decide) | apply Lend.there)) (by first  | rfl | exact tab_get (by first | omega | (simp; omega)) | exact gm (d := 0) (by first | omega | (simp; omega))) | exact Kn.rd2 (by repeat (first | exact Lend.same _ _ | exact Lend.row _ _ _ _ _ _ (by decide) | apply Lend.there)) (by first  | rfl | exact tab_get (by first | omega | (simp; omega)) | exact gm (d := 0) (by first | omega | (simp; omega))))) rfl) (by decide) ?_
          first | refine JO.v (Yv.len_s Tryd.underlying22 rfl) (by decide) ?_ | refine JO.v (Yv.lenRd Tryd.underlying22 rfl (by repeat (first | exact Lend.same _ _ | exact Lend.row _ _ _ _ _ _ (by decide) | apply Lend.there))) (by decide) ?_
          refine JO.v (Yv.bin rfl rfl BinR.gtr_i) (by decide) ?_
          refine JO.nil ?_
          refine JQ.then_normal ?_
          refine JC.cond rfl (fun hc4 => ?_) (fun hc4 => ?_)
          · try simp only [decide_eq_true_eq, decide_eq_false_iff_not, Bool.not_eq_true', Bool.not_eq_false', ne_eq, Decidable.not_not, Bool.not_eq_true, Bool.and_eq_true, Bool.or_eq_true, BitVec.reduceToNat] at hc4
            skip
            refine JC.seq ?_
            refine JC.region ?_
            refine JO.v (Yv.move rfl) (by decide) ?_
            refine JO.v (Yv.assign rfl) (by decide) ?_
            refine JO.nil ?_
            refine JQ.then_normal ?_
            refine JC.ret ?_
            refine JQ.then_ret ?_
            refine JQ.block_ret ?_
            refine JQ.then_ret ?_
            refine JQ.then_ret ?_
            refine JQ.block_ret ?_
            refine JQ.then_ret ?_
            exact JQ.done (.inr rfl) (Γ' := []) (H' := []) (res1 rfl (RV.tmp rfl)) (Subs.sub (by repeat (first | exact Subs.nil _ | apply Subs.cons | exact List.Mem.head _ | refine List.Mem.tail _ ?_))) (Picks.perm (by repeat (first | exact Picks.nil _ | apply Picks.cons | exact Pull.here _ _ | apply Pull.there))) ⟨rfl, rfl, rfl⟩
          · try simp only [decide_eq_true_eq, decide_eq_false_iff_not, Bool.not_eq_true', Bool.not_eq_false', ne_eq, Decidable.not_not, Bool.not_eq_true, Bool.and_eq_true, Bool.or_eq_true, BitVec.reduceToNat] at hc4
            skip
            refine JC.skip ?_
            refine JQ.then_normal ?_
            refine JC.seq ?_
            refine JC.region ?_
            refine JO.v (Yv.as (v' := it 0) (Yv.assign rfl) rfl) (by decide) ?_
            refine JO.nil ?_
            refine JQ.then_normal ?_
            refine JC.seq ?_
            refine JC.region ?_
            refine JO.v (Yv.as (v' := it 0) (Yv.assign rfl) rfl) (by decide) ?_
            refine JO.nil ?_
            refine JQ.then_normal ?_
            refine JC.seq ?_
            refine JC.region ?_
            refine JO.v (Yv.as (v' := u64 0) (Yv.assign rfl) rfl) (by decide) ?_
            refine JO.nil ?_
            refine JQ.then_normal ?_
            refine JC.seq ?_
            refine JC.region ?_
            refine JO.v (Yv.as (v' := u64 0) (Yv.assign rfl) rfl) (by decide) ?_
            refine JO.nil ?_
            refine JQ.then_normal ?_
            refine JC.cut (ι := List W64 × Value × Int × W64) (fun x => x.1.length = l.length) (fun x => [(1, vo), (5, .bool true), (6, ptr p 0), (7, it 0), (8, it 0), (9, x.2.1), (10, it (k : Int)), (12, it x.2.2.1), (13, it x.2.2.1), (14, u64 x.2.2.2), (15, u64 x.2.2.2)]) (fun x => [Res.var 0 ((wd 9223372036854775808).map u64), Res.rd u l.length 1 (l.map u64), Res.rd vo os.length 5 (opCells os), Res.all (opRes os), Res.rd x.2.1 x.1.length 1 (x.1.map u64)]) (fun x => [Res.cells p [v] 57, Res.row v x.1.length 23 1 (x.1.map u64)]) ?_ (fun x hx => ?_)
            · skip
              refine JC.seq ?_
              refine JC.region ?_
              refine JO.v (Yv.fieldAddr fa_40_0 rfl) (by decide) ?_
              refine JO.v (Yv.as (v' := it (opAt os k).d) (Yv.load1 one_3 rfl (by first | exact Kn.own (by repeat (first | exact List.Mem.head _ | refine List.Mem.tail _ ?_)) (by first  | rfl | exact tab_get (by first | omega | (simp; omega)) | exact gm (d := 0) (by first | omega | (simp; omega))) | exact Kn.ro (by repeat (first | exact List.Mem.head _ | refine List.Mem.tail _ ?_)) (by first  | rfl | exact tab_get (by first | omega | (simp; omega)) | exact gm (d := 0) (by first | omega | (simp; omega))) | exact Kn.row (by repeat (first | exact List.Mem.head _ | refine List.Mem.tail _ ?_)) (by first  | rfl | exact tab_get (by first | omega | (simp; omega)) | exact gm (d := 0) (by first | omega | (simp; omega))) | exact Kn.rd (by repeat (first | exact Lend.same _ _ | exact Lend.row _ _ _ _ _ _ (by decide) | apply Lend.there)) (by first  | rfl | exact tab_get (by first | omega | (simp; omega)) | exact gm (d := 0) (by first | omega | (simp; omega))) | exact Kn.rd2 (by repeat (first | exact Lend.same _ _ | exact Lend.row _ _ _ _ _ _ (by decide) | apply Lend.there)) (by first  | rfl | exact tab_get (by first | omega | (simp; omega)) | exact gm (d := 0) (by first | omega | (simp; omega))))) rfl) (by decide) ?_
              refine JO.nil ?_
              refine JQ.then_normal ?_
              refine JC.block ?_
              refine JC.seq ?_
              refine JC.region ?_
              refine JO.v (Yv.bin rfl rfl BinR.eql_i) (by decide) ?_
              refine JO.v (Yv.assign rfl) (by decide) ?_
              refine JO.nil ?_
              refine JQ.then_normal ?_
              refine JC.cond rfl (fun hc5 => ?_) (fun hc5 => ?_)
              · try simp only [decide_eq_true_eq, decide_eq_false_iff_not, Bool.not_eq_true', Bool.not_eq_false', ne_eq, Decidable.not_not, Bool.not_eq_true, Bool.and_eq_true, Bool.or_eq_true, BitVec.reduceToNat] at hc5
                refine JC.seq ?_
                refine JC.region ?_
                refine JO.v (Yv.move rfl) (by decide) ?_
                refine JO.v (Yv.fieldAddr fa_40_1 rfl) (by decide) ?_
                refine JO.v (Yv.as (v' := it (opAt os k).f) (Yv.load1 one_3 rfl (by first | exact Kn.own (by repeat (first | exact List.Mem.head _ | refine List.Mem.tail _ ?_)) (by first  | rfl | exact tab_get (by first | omega | (simp; omega)) | exact gm (d := 0) (by first | omega | (simp; omega))) | exact Kn.ro (by repeat (first | exact List.Mem.head _ | refine List.Mem.tail _ ?_)) (by first  | rfl | exact tab_get (by first | omega | (simp; omega)) | exact gm (d := 0) (by first | omega | (simp; omega))) | exact Kn.row (by repeat (first | exact List.Mem.head _ | refine List.Mem.tail _ ?_)) (by first  | rfl | exact tab_get (by first | omega | (simp; omega)) | exact gm (d := 0) (by first | omega | (simp; omega))) | exact Kn.rd (by repeat (first | exact Lend.same _ _ | exact Lend.row _ _ _ _ _ _ (by decide) | apply Lend.there)) (by first  | rfl | exact tab_get (by first | omega | (simp; omega)) | exact gm (d := 0) (by first | omega | (simp; omega))) | exact Kn.rd2 (by repeat (first | exact Lend.same _ _ | exact Lend.row _ _ _ _ _ _ (by decide) | apply Lend.there)) (by first  | rfl | exact tab_get (by first | omega | (simp; omega)) | exact gm (d := 0) (by first | omega | (simp; omega))))) rfl) (by decide) ?_
                refine JO.v (Yv.fieldAddr fa_40_2 rfl) (by decide) ?_
                refine JO.v (Yv.as (v' := it (opAt os k).t) (Yv.load1 one_3 rfl (by first | exact Kn.own (by repeat (first | exact List.Mem.head _ | refine List.Mem.tail _ ?_)) (by first  | rfl | exact tab_get (by first | omega | (simp; omega)) | exact gm (d := 0) (by first | omega | (simp; omega))) | exact Kn.ro (by repeat (first | exact List.Mem.head _ | refine List.Mem.tail _ ?_)) (by first  | rfl | exact tab_get (by first | omega | (simp; omega)) | exact gm (d := 0) (by first | omega | (simp; omega))) | exact Kn.row (by repeat (first | exact List.Mem.head _ | refine List.Mem.tail _ ?_)) (by first  | rfl | exact tab_get (by first | omega | (simp; omega)) | exact gm (d := 0) (by first | omega | (simp; omega))) | exact Kn.rd (by repeat (first | exact Lend.same _ _ | exact Lend.row _ _ _ _ _ _ (by decide) | apply Lend.there)) (by first  | rfl | exact tab_get (by first | omega | (simp; omega)) | exact gm (d := 0) (by first | omega | (simp; omega))) | exact Kn.rd2 (by repeat (first | exact Lend.same _ _ | exact Lend.row _ _ _ _ _ _ (by decide) | apply Lend.there)) (by first  | rfl | exact tab_get (by first | omega | (simp; omega)) | exact gm (d := 0) (by first | omega | (simp; omega))))) rfl) (by decide) ?_
                refine JO.v (Yv.fieldAddr fa_40_3 rfl) (by decide) ?_
                refine JO.v (Yv.as (v' := u64 (opAt os k).n) (Yv.load1 one_23 rfl (by first | exact Kn.own (by repeat (first | exact List.Mem.head _ | refine List.Mem.tail _ ?_)) (by first  | rfl | exact tab_get (by first | omega | (simp; omega)) | exact gm (d := 0) (by first | omega | (simp; omega))) | exact Kn.ro (by repeat (first | exact List.Mem.head _ | refine List.Mem.tail _ ?_)) (by first  | rfl | exact tab_get (by first | omega | (simp; omega)) | exact gm (d := 0) (by first | omega | (simp; omega))) | exact Kn.row (by repeat (first | exact List.Mem.head _ | refine List.Mem.tail _ ?_)) (by first  | rfl | exact tab_get (by first | omega | (simp; omega)) | exact gm (d := 0) (by first | omega | (simp; omega))) | exact Kn.rd (by repeat (first | exact Lend.same _ _ | exact Lend.row _ _ _ _ _ _ (by decide) | apply Lend.there)) (by first  | rfl | exact tab_get (by first | omega | (simp; omega)) | exact gm (d := 0) (by first | omega | (simp; omega))) | exact Kn.rd2 (by repeat (first | exact Lend.same _ _ | exact Lend.row _ _ _ _ _ _ (by decide) | apply Lend.there)) (by first  | rfl | exact tab_get (by first | omega | (simp; omega)) | exact gm (d := 0) (by first | omega | (simp; omega))))) rfl) (by decide) ?_
                refine JO.callB (f12_spec p v m (opAt os k).f (opAt os k).t (opAt os k).n) body_12 rfl (by repeat (first | exact Picks.nil _ | apply Picks.cons | exact Pull.here _ _ | apply Pull.there)) (by repeat (first | exact Lends.nil _ | apply Lends.cons | exact Lend.same _ _ | exact Lend.row _ _ _ _ _ _ (by decide) | apply Lend.there)) (by rintro _ _ _ ⟨_, h, _⟩; exact h) (by decide) ?_
                rintro _ _ ⟨_, ⟨rfl, _, rfl⟩, hH⟩
                simp only [List.cons_append, List.nil_append] at hH; subst hH
                refine JO.v (Yv.assign rfl) (by decide) ?_
                refine JO.nil ?_
                refine JQ.then_normal ?_
                refine JC.region ?_
                refine JO.v (Yv.move rfl) (by decide) ?_
                refine JO.v (Yv.fieldAddr fa_40_1 rfl) (by decide) ?_
                refine JO.v (Yv.as (v' := it (opAt os k).f) (Yv.load1 one_3 rfl (by first | exact Kn.own (by repeat (first | exact List.Mem.head _ | refine List.Mem.tail _ ?_)) (by first  | rfl | exact tab_get (by first | omega | (simp; omega)) | exact gm (d := 0) (by first | omega | (simp; omega))) | exact Kn.ro (by repeat (first | exact List.Mem.head _ | refine List.Mem.tail _ ?_)) (by first  | rfl | exact tab_get (by first | omega | (simp; omega)) | exact gm (d := 0) (by first | omega | (simp; omega))) | exact Kn.row (by repeat (first | exact List.Mem.head _ | refine List.Mem.tail _ ?_)) (by first  | rfl | exact tab_get (by first | omega | (simp; omega)) | exact gm (d := 0) (by first | omega | (simp; omega))) | exact Kn.rd (by repeat (first | exact Lend.same _ _ | exact Lend.row _ _ _ _ _ _ (by decide) | apply Lend.there)) (by first  | rfl | exact tab_get (by first | omega | (simp; omega)) | exact gm (d := 0) (by first | omega | (simp; omega))) | exact Kn.rd2 (by repeat (first | exact Lend.same _ _ | exact Lend.row _ _ _ _ _ _ (by decide) | apply Lend.there)) (by first  | rfl | exact tab_get (by first | omega | (simp; omega)) | exact gm (d := 0) (by first | omega | (simp; omega))))) rfl) (by decide) ?_
                refine JO.v (Yv.fieldAddr fa_40_2 rfl) (by decide) ?_
                refine JO.v (Yv.as (v' := it (opAt os k).t) (Yv.load1 one_3 rfl (by first | exact Kn.own (by repeat (first | exact List.Mem.head _ | refine List.Mem.tail _ ?_)) (by first  | rfl | exact tab_get (by first | omega | (simp; omega)) | exact gm (d := 0) (by first | omega | (simp; omega))) | exact Kn.ro (by repeat (first | exact List.Mem.head _ | refine List.Mem.tail _ ?_)) (by first  | rfl | exact tab_get (by first | omega | (simp; omega)) | exact gm (d := 0) (by first | omega | (simp; omega))) | exact Kn.row (by repeat (first | exact List.Mem.head _ | refine List.Mem.tail _ ?_)) (by first  | rfl | exact tab_get (by first | omega | (simp; omega)) | exact gm (d := 0) (by first | omega | (simp; omega))) | exact Kn.rd (by repeat (first | exact Lend.same _ _ | exact Lend.row _ _ _ _ _ _ (by decide) | apply Lend.there)) (by first  | rfl | exact tab_get (by first | omega | (simp; omega)) | exact gm (d := 0) (by first | omega | (simp; omega))) | exact Kn.rd2 (by repeat (first | exact Lend.same _ _ | exact Lend.row _ _ _ _ _ _ (by decide) | apply Lend.there)) (by first  | rfl | exact tab_get (by first | omega | (simp; omega)) | exact gm (d := 0) (by first | omega | (simp; omega))))) rfl) (by decide) ?_
                refine JO.v (Yv.fieldAddr fa_40_3 rfl) (by decide) ?_
                refine JO.v (Yv.as (v' := u64 (opAt os k).n) (Yv.load1 one_23 rfl (by first | exact Kn.own (by repeat (first | exact List.Mem.head _ | refine List.Mem.tail _ ?_)) (by first  | rfl | exact tab_get (by first | omega | (simp; omega)) | exact gm (d := 0) (by first | omega | (simp; omega))) | exact Kn.ro (by repeat (first | exact List.Mem.head _ | refine List.Mem.tail _ ?_)) (by first  | rfl | exact tab_get (by first | omega | (simp; omega)) | exact gm (d := 0) (by first | omega | (simp; omega))) | exact Kn.row (by repeat (first | exact List.Mem.head _ | refine List.Mem.tail _ ?_)) (by first  | rfl | exact tab_get (by first | omega | (simp; omega)) | exact gm (d := 0) (by first | omega | (simp; omega))) | exact Kn.rd (by repeat (first | exact Lend.same _ _ | exact Lend.row _ _ _ _ _ _ (by decide) | apply Lend.there)) (by first  | rfl | exact tab_get (by first | omega | (simp; omega)) | exact gm (d := 0) (by first | omega | (simp; omega))) | exact Kn.rd2 (by repeat (first | exact Lend.same _ _ | exact Lend.row _ _ _ _ _ _ (by decide) | apply Lend.there)) (by first  | rfl | exact tab_get (by first | omega | (simp; omega)) | exact gm (d := 0) (by first | omega | (simp; omega))))) rfl) (by decide) ?_
                refine JO.call (f18_spec vw m (opAt os k).f (opAt os k).t (opAt os k).n (by omega)) body_18 rfl (by repeat (first | exact Picks.nil _ | apply Picks.cons | exact Pull.here _ _ | apply Pull.there)) (by repeat (first | exact Subs.nil _ | apply Subs.cons | exact List.Mem.head _ | refine List.Mem.tail _ ?_)) (by decide) ?_
                rintro _ _ _ ⟨_, _, ⟨v2, rfl, rfl, rfl⟩, hΓ, hH⟩
                simp only [List.cons_append, List.nil_append] at hΓ hH; subst hΓ hH
                refine JO.v (Yv.move rfl) (by decide) ?_
                refine JO.v (Yv.as (v' := v2) (Yv.extract rfl rfl) rfl) (by decide) ?_
                refine JO.v (Yv.as (v' := it (moveE m (opAt os k).f (opAt os k).t (opAt os k).n)) (Yv.extract rfl rfl) rfl) (by decide) ?_
                refine JO.v (Yv.assign rfl) (by decide) ?_
                refine JO.v (Yv.assign rfl) (by decide) ?_
                refine JO.nil ?_
                refine JQ.block_normal ?_
                first | refine JQ.head (moveL m (opAt os k).f (opAt os k).t (opAt os k).n, v2, moveE m (opAt os k).f (opAt os k).t (opAt os k).n, 0) (by (repeat (first | exact trivial | refine ⟨by first | rfl | (simp; done), ?_⟩)); done) (Subs.sub (by repeat (first | exact Subs.nil _ | apply Subs.cons | exact List.Mem.head _ | refine List.Mem.tail _ ?_))) (Picks.perm (by repeat (first | exact Picks.nil _ | apply Picks.cons | exact Pull.here _ _ | apply Pull.there))) ?_ | refine JQ.head (takeL m (opAt os k).f (opAt os k).t (opAt os k).n, v2, 0, takeF m (opAt os k).f (opAt os k).t (opAt os k).n) (by (repeat (first | exact trivial | refine ⟨by first | rfl | (simp; done), ?_⟩)); done) (Subs.sub (by repeat (first | exact Subs.nil _ | apply Subs.cons | exact List.Mem.head _ | refine List.Mem.tail _ ?_))) (Picks.perm (by repeat (first | exact Picks.nil _ | apply Picks.cons | exact Pull.here _ _ | apply Pull.there))) ?_ | refine JQ.head (spreadL m (opAt os k).f (opAt os k).t (opAt os k).ws, v2, spreadE m (opAt os k).f (opAt os k).t (opAt os k).ws, 0) (by (repeat (first | exact trivial | refine ⟨by first | rfl | (simp; done), ?_⟩)); done) (Subs.sub (by repeat (first | exact Subs.nil _ | apply Subs.cons | exact List.Mem.head _ | refine List.Mem.tail _ ?_))) (Picks.perm (by repeat (first | exact Picks.nil _ | apply Picks.cons | exact Pull.here _ _ | apply Pull.there))) ?_ | refine JQ.head (m, vw, 0, 0) (by (repeat (first | exact trivial | refine ⟨by first | rfl | (simp; done), ?_⟩)); done) (Subs.sub (by repeat (first | exact Subs.nil _ | apply Subs.cons | exact List.Mem.head _ | refine List.Mem.tail _ ?_))) (Picks.perm (by repeat (first | exact Picks.nil _ | apply Picks.cons | exact Pull.here _ _ | apply Pull.there))) ?_
                first | exact hm | (simp only [moveL_len, takeL_len, spreadL_len]; exact hm)
              · try simp only [decide_eq_true_eq, decide_eq_false_iff_not, Bool.not_eq_true', Bool.not_eq_false', ne_eq, Decidable.not_not, Bool.not_eq_true, Bool.and_eq_true, Bool.or_eq_true, BitVec.reduceToNat] at hc5
                refine JC.seq ?_
                refine JC.region ?_
                refine JO.v (Yv.bin rfl rfl BinR.eql_i) (by decide) ?_
                refine JO.v (Yv.assign rfl) (by decide) ?_
                refine JO.nil ?_
                refine JQ.then_normal ?_
                refine JC.cond rfl (fun hc6 => ?_) (fun hc6 => ?_)
                · try simp only [decide_eq_true_eq, decide_eq_false_iff_not, Bool.not_eq_true', Bool.not_eq_false', ne_eq, Decidable.not_not, Bool.not_eq_true, Bool.and_eq_true, Bool.or_eq_true, BitVec.reduceToNat] at hc6
                  refine JC.seq ?_
                  refine JC.region ?_
                  refine JO.v (Yv.move rfl) (by decide) ?_
                  refine JO.v (Yv.fieldAddr fa_40_1 rfl) (by decide) ?_
                  refine JO.v (Yv.as (v' := it (opAt os k).f) (Yv.load1 one_3 rfl (by first | exact Kn.own (by repeat (first | exact List.Mem.head _ | refine List.Mem.tail _ ?_)) (by first  | rfl | exact tab_get (by first | omega | (simp; omega)) | exact gm (d := 0) (by first | omega | (simp; omega))) | exact Kn.ro (by repeat (first | exact List.Mem.head _ | refine List.Mem.tail _ ?_)) (by first  | rfl | exact tab_get (by first | omega | (simp; omega)) | exact gm (d := 0) (by first | omega | (simp; omega))) | exact Kn.row (by repeat (first | exact List.Mem.head _ | refine List.Mem.tail _ ?_)) (by first  | rfl | exact tab_get (by first | omega | (simp; omega)) | exact gm (d := 0) (by first | omega | (simp; omega))) | exact Kn.rd (by repeat (first | exact Lend.same _ _ | exact Lend.row _ _ _ _ _ _ (by decide) | apply Lend.there)) (by first  | rfl | exact tab_get (by first | omega | (simp; omega)) | exact gm (d := 0) (by first | omega | (simp; omega))) | exact Kn.rd2 (by repeat (first | exact Lend.same _ _ | exact Lend.row _ _ _ _ _ _ (by decide) | apply Lend.there)) (by first  | rfl | exact tab_get (by first | omega | (simp; omega)) | exact gm (d := 0) (by first | omega | (simp; omega))))) rfl) (by decide) ?_
                  refine JO.v (Yv.fieldAddr fa_40_2 rfl) (by decide) ?_
                  refine JO.v (Yv.as (v' := it (opAt os k).t) (Yv.load1 one_3 rfl (by first | exact Kn.own (by repeat (first | exact List.Mem.head _ | refine List.Mem.tail _ ?_)) (by first  | rfl | exact tab_get (by first | omega | (simp; omega)) | exact gm (d := 0) (by first | omega | (simp; omega))) | exact Kn.ro (by repeat (first | exact List.Mem.head _ | refine List.Mem.tail _ ?_)) (by first  | rfl | exact tab_get (by first | omega | (simp; omega)) | exact gm (d := 0) (by first | omega | (simp; omega))) | exact Kn.row (by repeat (first | exact List.Mem.head _ | refine List.Mem.tail _ ?_)) (by first  | rfl | exact tab_get (by first | omega | (simp; omega)) | exact gm (d := 0) (by first | omega | (simp; omega))) | exact Kn.rd (by repeat (first | exact Lend.same _ _ | exact Lend.row _ _ _ _ _ _ (by decide) | apply Lend.there)) (by first  | rfl | exact tab_get (by first | omega | (simp; omega)) | exact gm (d := 0) (by first | omega | (simp; omega))) | exact Kn.rd2 (by repeat (first | exact Lend.same _ _ | exact Lend.row _ _ _ _ _ _ (by decide) | apply Lend.there)) (by first  | rfl | exact tab_get (by first | omega | (simp; omega)) | exact gm (d := 0) (by first | omega | (simp; omega))))) rfl) (by decide) ?_
                  refine JO.v (Yv.fieldAddr fa_40_3 rfl) (by decide) ?_
                  refine JO.v (Yv.as (v' := u64 (opAt os k).n) (Yv.load1 one_23 rfl (by first | exact Kn.own (by repeat (first | exact List.Mem.head _ | refine List.Mem.tail _ ?_)) (by first  | rfl | exact tab_get (by first | omega | (simp; omega)) | exact gm (d := 0) (by first | omega | (simp; omega))) | exact Kn.ro (by repeat (first | exact List.Mem.head _ | refine List.Mem.tail _ ?_)) (by first  | rfl | exact tab_get (by first | omega | (simp; omega)) | exact gm (d := 0) (by first | omega | (simp; omega))) | exact Kn.row (by repeat (first | exact List.Mem.head _ | refine List.Mem.tail _ ?_)) (by first  | rfl | exact tab_get (by first | omega | (simp; omega)) | exact gm (d := 0) (by first | omega | (simp; omega))) | exact Kn.rd (by repeat (first | exact Lend.same _ _ | exact Lend.row _ _ _ _ _ _ (by decide) | apply Lend.there)) (by first  | rfl | exact tab_get (by first | omega | (simp; omega)) | exact gm (d := 0) (by first | omega | (simp; omega))) | exact Kn.rd2 (by repeat (first | exact Lend.same _ _ | exact Lend.row _ _ _ _ _ _ (by decide) | apply Lend.there)) (by first  | rfl | exact tab_get (by first | omega | (simp; omega)) | exact gm (d := 0) (by first | omega | (simp; omega))))) rfl) (by decide) ?_
                  refine JO.callB (f15_spec p v m (opAt os k).f (opAt os k).t (opAt os k).n) body_15 rfl (by repeat (first | exact Picks.nil _ | apply Picks.cons | exact Pull.here _ _ | apply Pull.there)) (by repeat (first | exact Lends.nil _ | apply Lends.cons | exact Lend.same _ _ | exact Lend.row _ _ _ _ _ _ (by decide) | apply Lend.there)) (by rintro _ _ _ ⟨_, h, _⟩; exact h) (by decide) ?_
                  rintro _ _ ⟨_, ⟨rfl, _, rfl⟩, hH⟩
                  simp only [List.cons_append, List.nil_append] at hH; subst hH
                  refine JO.v (Yv.assign rfl) (by decide) ?_
                  refine JO.nil ?_
                  refine JQ.then_normal ?_
                  refine JC.region ?_
                  refine JO.v (Yv.move rfl) (by decide) ?_
                  refine JO.v (Yv.fieldAddr fa_40_1 rfl) (by decide) ?_
                  refine JO.v (Yv.as (v' := it (opAt os k).f) (Yv.load1 one_3 rfl (by first | exact Kn.own (by repeat (first | exact List.Mem.head _ | refine List.Mem.tail _ ?_)) (by first  | rfl | exact tab_get (by first | omega | (simp; omega)) | exact gm (d := 0) (by first | omega | (simp; omega))) | exact Kn.ro (by repeat (first | exact List.Mem.head _ | refine List.Mem.tail _ ?_)) (by first  | rfl | exact tab_get (by first | omega | (simp; omega)) | exact gm (d := 0) (by first | omega | (simp; omega))) | exact Kn.row (by repeat (first | exact List.Mem.head _ | refine List.Mem.tail _ ?_)) (by first  | rfl | exact tab_get (by first | omega | (simp; omega)) | exact gm (d := 0) (by first | omega | (simp; omega))) | exact Kn.rd (by repeat (first | exact Lend.same _ _ | exact Lend.row _ _ _ _ _ _ (by decide) | apply Lend.there)) (by first  | rfl | exact tab_get (by first | omega | (simp; omega)) | exact gm (d := 0) (by first | omega | (simp; omega))) | exact Kn.rd2 (by repeat (first | exact Lend.same _ _ | exact Lend.row _ _ _ _ _ _ (by decide) | apply Lend.there)) (by first  | rfl | exact tab_get (by first | omega | (simp; omega)) | exact gm (d := 0) (by first | omega | (simp; omega))))) rfl) (by decide) ?_
                  refine JO.v (Yv.fieldAddr fa_40_2 rfl) (by decide) ?_
                  refine JO.v (Yv.as (v' := it (opAt os k).t) (Yv.load1 one_3 rfl (by first | exact Kn.own (by repeat (first | exact List.Mem.head _ | refine List.Mem.tail _ ?_)) (by first  | rfl | exact tab_get (by first | omega | (simp; omega)) | exact gm (d := 0) (by first | omega | (simp; omega))) | exact Kn.ro (by repeat (first | exact List.Mem.head _ | refine List.Mem.tail _ ?_)) (by first  | rfl | exact tab_get (by first | omega | (simp; omega)) | exact gm (d := 0) (by first | omega | (simp; omega))) | exact Kn.row (by repeat (first | exact List.Mem.head _ | refine List.Mem.tail _ ?_)) (by first  | rfl | exact tab_get (by first | omega | (simp; omega)) | exact gm (d := 0) (by first | omega | (simp; omega))) | exact Kn.rd (by repeat (first | exact Lend.same _ _ | exact Lend.row _ _ _ _ _ _ (by decide) | apply Lend.there)) (by first  | rfl | exact tab_get (by first | omega | (simp; omega)) | exact gm (d := 0) (by first | omega | (simp; omega))) | exact Kn.rd2 (by repeat (first | exact Lend.same _ _ | exact Lend.row _ _ _ _ _ _ (by decide) | apply Lend.there)) (by first  | rfl | exact tab_get (by first | omega | (simp; omega)) | exact gm (d := 0) (by first | omega | (simp; omega))))) rfl) (by decide) ?_
                  refine JO.v (Yv.fieldAddr fa_40_3 rfl) (by decide) ?_
                  refine JO.v (Yv.as (v' := u64 (opAt os k).n) (Yv.load1 one_23 rfl (by first | exact Kn.own (by repeat (first | exact List.Mem.head _ | refine List.Mem.tail _ ?_)) (by first  | rfl | exact tab_get (by first | omega | (simp; omega)) | exact gm (d := 0) (by first | omega | (simp; omega))) | exact Kn.ro (by repeat (first | exact List.Mem.head _ | refine List.Mem.tail _ ?_)) (by first  | rfl | exact tab_get (by first | omega | (simp; omega)) | exact gm (d := 0) (by first | omega | (simp; omega))) | exact Kn.row (by repeat (first | exact List.Mem.head _ | refine List.Mem.tail _ ?_)) (by first  | rfl | exact tab_get (by first | omega | (simp; omega)) | exact gm (d := 0) (by first | omega | (simp; omega))) | exact Kn.rd (by repeat (first | exact Lend.same _ _ | exact Lend.row _ _ _ _ _ _ (by decide) | apply Lend.there)) (by first  | rfl | exact tab_get (by first | omega | (simp; omega)) | exact gm (d := 0) (by first | omega | (simp; omega))) | exact Kn.rd2 (by repeat (first | exact Lend.same _ _ | exact Lend.row _ _ _ _ _ _ (by decide) | apply Lend.there)) (by first  | rfl | exact tab_get (by first | omega | (simp; omega)) | exact gm (d := 0) (by first | omega | (simp; omega))))) rfl) (by decide) ?_
                  refine JO.call (f19_spec vw m (opAt os k).f (opAt os k).t (opAt os k).n (by omega)) body_19 rfl (by repeat (first | exact Picks.nil _ | apply Picks.cons | exact Pull.here _ _ | apply Pull.there)) (by repeat (first | exact Subs.nil _ | apply Subs.cons | exact List.Mem.head _ | refine List.Mem.tail _ ?_)) (by decide) ?_
                  rintro _ _ _ ⟨_, _, ⟨v2, rfl, rfl, rfl⟩, hΓ, hH⟩
                  simp only [List.cons_append, List.nil_append] at hΓ hH; subst hΓ hH
                  refine JO.v (Yv.move rfl) (by decide) ?_
                  refine JO.v (Yv.as (v' := v2) (Yv.extract rfl rfl) rfl) (by decide) ?_
                  refine JO.v (Yv.as (v' := u64 (takeF m (opAt os k).f (opAt os k).t (opAt os k).n)) (Yv.extract rfl rfl) rfl) (by decide) ?_
                  refine JO.v (Yv.assign rfl) (by decide) ?_
                  refine JO.v (Yv.assign rfl) (by decide) ?_
                  refine JO.nil ?_
                  refine JQ.block_normal ?_
                  first | refine JQ.head (moveL m (opAt os k).f (opAt os k).t (opAt os k).n, v2, moveE m (opAt os k).f (opAt os k).t (opAt os k).n, 0) (by (repeat (first | exact trivial | refine ⟨by first | rfl | (simp; done), ?_⟩)); done) (Subs.sub (by repeat (first | exact Subs.nil _ | apply Subs.cons | exact List.Mem.head _ | refine List.Mem.tail _ ?_))) (Picks.perm (by repeat (first | exact Picks.nil _ | apply Picks.cons | exact Pull.here _ _ | apply Pull.there))) ?_ | refine JQ.head (takeL m (opAt os k).f (opAt os k).t (opAt os k).n, v2, 0, takeF m (opAt os k).f (opAt os k).t (opAt os k).n) (by (repeat (first | exact trivial | refine ⟨by first | rfl | (simp; done), ?_⟩)); done) (Subs.sub (by repeat (first | exact Subs.nil _ | apply Subs.cons | exact List.Mem.head _ | refine List.Mem.tail _ ?_))) (Picks.perm (by repeat (first | exact Picks.nil _ | apply Picks.cons | exact Pull.here _ _ | apply Pull.there))) ?_ | refine JQ.head (spreadL m (opAt os k).f (opAt os k).t (opAt os k).ws, v2, spreadE m (opAt os k).f (opAt os k).t (opAt os k).ws, 0) (by (repeat (first | exact trivial | refine ⟨by first | rfl | (simp; done), ?_⟩)); done) (Subs.sub (by repeat (first | exact Subs.nil _ | apply Subs.cons | exact List.Mem.head _ | refine List.Mem.tail _ ?_))) (Picks.perm (by repeat (first | exact Picks.nil _ | apply Picks.cons | exact Pull.here _ _ | apply Pull.there))) ?_ | refine JQ.head (m, vw, 0, 0) (by (repeat (first | exact trivial | refine ⟨by first | rfl | (simp; done), ?_⟩)); done) (Subs.sub (by repeat (first | exact Subs.nil _ | apply Subs.cons | exact List.Mem.head _ | refine List.Mem.tail _ ?_))) (Picks.perm (by repeat (first | exact Picks.nil _ | apply Picks.cons | exact Pull.here _ _ | apply Pull.there))) ?_
                  first | exact hm | (simp only [moveL_len, takeL_len, spreadL_len]; exact hm)
                · try simp only [decide_eq_true_eq, decide_eq_false_iff_not, Bool.not_eq_true', Bool.not_eq_false', ne_eq, Decidable.not_not, Bool.not_eq_true, Bool.and_eq_true, Bool.or_eq_true, BitVec.reduceToNat] at hc6
                  refine JC.seq ?_
                  refine JC.region ?_
                  refine JO.v (Yv.bin rfl rfl BinR.eql_i) (by decide) ?_
                  refine JO.v (Yv.assign rfl) (by decide) ?_
                  refine JO.nil ?_
                  refine JQ.then_normal ?_
                  refine JC.cond rfl (fun hc7 => ?_) (fun hc7 => ?_)
                  · try simp only [decide_eq_true_eq, decide_eq_false_iff_not, Bool.not_eq_true', Bool.not_eq_false', ne_eq, Decidable.not_not, Bool.not_eq_true, Bool.and_eq_true, Bool.or_eq_true, BitVec.reduceToNat] at hc7
                    refine JC.seq ?_
                    refine JC.region ?_
                    refine JO.v (Yv.move rfl) (by decide) ?_
                    refine JO.v (Yv.fieldAddr fa_40_1 rfl) (by decide) ?_
                    refine JO.v (Yv.as (v' := it (opAt os k).f) (Yv.load1 one_3 rfl (by first | exact Kn.own (by repeat (first | exact List.Mem.head _ | refine List.Mem.tail _ ?_)) (by first  | rfl | exact tab_get (by first | omega | (simp; omega)) | exact gm (d := 0) (by first | omega | (simp; omega))) | exact Kn.ro (by repeat (first | exact List.Mem.head _ | refine List.Mem.tail _ ?_)) (by first  | rfl | exact tab_get (by first | omega | (simp; omega)) | exact gm (d := 0) (by first | omega | (simp; omega))) | exact Kn.row (by repeat (first | exact List.Mem.head _ | refine List.Mem.tail _ ?_)) (by first  | rfl | exact tab_get (by first | omega | (simp; omega)) | exact gm (d := 0) (by first | omega | (simp; omega))) | exact Kn.rd (by repeat (first | exact Lend.same _ _ | exact Lend.row _ _ _ _ _ _ (by decide) | apply Lend.there)) (by first  | rfl | exact tab_get (by first | omega | (simp; omega)) | exact gm (d := 0) (by first | omega | (simp; omega))) | exact Kn.rd2 (by repeat (first | exact Lend.same _ _ | exact Lend.row _ _ _ _ _ _ (by decide) | apply Lend.there)) (by first  | rfl | exact tab_get (by first | omega | (simp; omega)) | exact gm (d := 0) (by first | omega | (simp; omega))))) rfl) (by decide) ?_
                    refine JO.v (Yv.fieldAddr fa_40_2 rfl) (by decide) ?_
                    refine JO.v (Yv.as (v' := it (opAt os k).t) (Yv.load1 one_3 rfl (by first | exact Kn.own (by repeat (first | exact List.Mem.head _ | refine List.Mem.tail _ ?_)) (by first  | rfl | exact tab_get (by first | omega | (simp; omega)) | exact gm (d := 0) (by first | omega | (simp; omega))) | exact Kn.ro (by repeat (first | exact List.Mem.head _ | refine List.Mem.tail _ ?_)) (by first  | rfl | exact tab_get (by first | omega | (simp; omega)) | exact gm (d := 0) (by first | omega | (simp; omega))) | exact Kn.row (by repeat (first | exact List.Mem.head _ | refine List.Mem.tail _ ?_)) (by first  | rfl | exact tab_get (by first | omega | (simp; omega)) | exact gm (d := 0) (by first | omega | (simp; omega))) | exact Kn.rd (by repeat (first | exact Lend.same _ _ | exact Lend.row _ _ _ _ _ _ (by decide) | apply Lend.there)) (by first  | rfl | exact tab_get (by first | omega | (simp; omega)) | exact gm (d := 0) (by first | omega | (simp; omega))) | exact Kn.rd2 (by repeat (first | exact Lend.same _ _ | exact Lend.row _ _ _ _ _ _ (by decide) | apply Lend.there)) (by first  | rfl | exact tab_get (by first | omega | (simp; omega)) | exact gm (d := 0) (by first | omega | (simp; omega))))) rfl) (by decide) ?_
                    refine JO.v (Yv.fieldAddr fa_40_4 rfl) (by decide) ?_
                    refine JO.v (Yv.as (v' := (opAt os k).w) (Yv.load1 one_22 rfl (by first | exact Kn.own (by repeat (first | exact List.Mem.head _ | refine List.Mem.tail _ ?_)) (by first  | rfl | exact tab_get (by first | omega | (simp; omega)) | exact gm (d := 0) (by first | omega | (simp; omega))) | exact Kn.ro (by repeat (first | exact List.Mem.head _ | refine List.Mem.tail _ ?_)) (by first  | rfl | exact tab_get (by first | omega | (simp; omega)) | exact gm (d := 0) (by first | omega | (simp; omega))) | exact Kn.row (by repeat (first | exact List.Mem.head _ | refine List.Mem.tail _ ?_)) (by first  | rfl | exact tab_get (by first | omega | (simp; omega)) | exact gm (d := 0) (by first | omega | (simp; omega))) | exact Kn.rd (by repeat (first | exact Lend.same _ _ | exact Lend.row _ _ _ _ _ _ (by decide) | apply Lend.there)) (by first  | rfl | exact tab_get (by first | omega | (simp; omega)) | exact gm (d := 0) (by first | omega | (simp; omega))) | exact Kn.rd2 (by repeat (first | exact Lend.same _ _ | exact Lend.row _ _ _ _ _ _ (by decide) | apply Lend.there)) (by first  | rfl | exact tab_get (by first | omega | (simp; omega)) | exact gm (d := 0) (by first | omega | (simp; omega))))) rfl) (by decide) ?_
                    refine JO.callB (f10_spec p v (opAt os k).w m (opAt os k).ws (opAt os k).f (opAt os k).t) body_10 rfl (by repeat (first | exact Picks.nil _ | apply Picks.cons | exact Pull.here _ _ | apply Pull.there)) (by repeat (first | exact Lends.nil _ | apply Lends.cons | exact Lend.same _ _ | exact Lend.row _ _ _ _ _ _ (by decide) | apply Lend.there)) (by rintro _ _ _ ⟨_, h, _⟩; exact h) (by decide) ?_
                    rintro _ _ ⟨_, ⟨rfl, _, rfl⟩, hH⟩
                    simp only [List.cons_append, List.nil_append] at hH; subst hH
                    refine JO.v (Yv.assign rfl) (by decide) ?_
                    refine JO.nil ?_
                    refine JQ.then_normal ?_
                    refine JC.region ?_
                    refine JO.v (Yv.move rfl) (by decide) ?_
                    refine JO.v (Yv.fieldAddr fa_40_1 rfl) (by decide) ?_
                    refine JO.v (Yv.as (v' := it (opAt os k).f) (Yv.load1 one_3 rfl (by first | exact Kn.own (by repeat (first | exact List.Mem.head _ | refine List.Mem.tail _ ?_)) (by first  | rfl | exact tab_get (by first | omega | (simp; omega)) | exact gm (d := 0) (by first | omega | (simp; omega))) | exact Kn.ro (by repeat (first | exact List.Mem.head _ | refine List.Mem.tail _ ?_)) (by first  | rfl | exact tab_get (by first | omega | (simp; omega)) | exact gm (d := 0) (by first | omega | (simp; omega))) | exact Kn.row (by repeat (first | exact List.Mem.head _ | refine List.Mem.tail _ ?_)) (by first  | rfl | exact tab_get (by first | omega | (simp; omega)) | exact gm (d := 0) (by first | omega | (simp; omega))) | exact Kn.rd (by repeat (first | exact Lend.same _ _ | exact Lend.row _ _ _ _ _ _ (by decide) | apply Lend.there)) (by first  | rfl | exact tab_get (by first | omega | (simp; omega)) | exact gm (d := 0) (by first | omega | (simp; omega))) | exact Kn.rd2 (by repeat (first | exact Lend.same _ _ | exact Lend.row _ _ _ _ _ _ (by decide) | apply Lend.there)) (by first  | rfl | exact tab_get (by first | omega | (simp; omega)) | exact gm (d := 0) (by first | omega | (simp; omega))))) rfl) (by decide) ?_
                    refine JO.v (Yv.fieldAddr fa_40_2 rfl) (by decide) ?_
                    refine JO.v (Yv.as (v' := it (opAt os k).t) (Yv.load1 one_3 rfl (by first | exact Kn.own (by repeat (first | exact List.Mem.head _ | refine List.Mem.tail _ ?_)) (by first  | rfl | exact tab_get (by first | omega | (simp; omega)) | exact gm (d := 0) (by first | omega | (simp; omega))) | exact Kn.ro (by repeat (first | exact List.Mem.head _ | refine List.Mem.tail _ ?_)) (by first  | rfl | exact tab_get (by first | omega | (simp; omega)) | exact gm (d := 0) (by first | omega | (simp; omega))) | exact Kn.row (by repeat (first | exact List.Mem.head _ | refine List.Mem.tail _ ?_)) (by first  | rfl | exact tab_get (by first | omega | (simp; omega)) | exact gm (d := 0) (by first | omega | (simp; omega))) | exact Kn.rd (by repeat (first | exact Lend.same _ _ | exact Lend.row _ _ _ _ _ _ (by decide) | apply Lend.there)) (by first  | rfl | exact tab_get (by first | omega | (simp; omega)) | exact gm (d := 0) (by first | omega | (simp; omega))) | exact Kn.rd2 (by repeat (first | exact Lend.same _ _ | exact Lend.row _ _ _ _ _ _ (by decide) | apply Lend.there)) (by first  | rfl | exact tab_get (by first | omega | (simp; omega)) | exact gm (d := 0) (by first | omega | (simp; omega))))) rfl) (by decide) ?_
                    refine JO.v (Yv.fieldAddr fa_40_4 rfl) (by decide) ?_
                    refine JO.v (Yv.as (v' := (opAt os k).w) (Yv.load1 one_22 rfl (by first | exact Kn.own (by repeat (first | exact List.Mem.head _ | refine List.Mem.tail _ ?_)) (by first  | rfl | exact tab_get (by first | omega | (simp; omega)) | exact gm (d := 0) (by first | omega | (simp; omega))) | exact Kn.ro (by repeat (first | exact List.Mem.head _ | refine List.Mem.tail _ ?_)) (by first  | rfl | exact tab_get (by first | omega | (simp; omega)) | exact gm (d := 0) (by first | omega | (simp; omega))) | exact Kn.row (by repeat (first | exact List.Mem.head _ | refine List.Mem.tail _ ?_)) (by first  | rfl | exact tab_get (by first | omega | (simp; omega)) | exact gm (d := 0) (by first | omega | (simp; omega))) | exact Kn.rd (by repeat (first | exact Lend.same _ _ | exact Lend.row _ _ _ _ _ _ (by decide) | apply Lend.there)) (by first  | rfl | exact tab_get (by first | omega | (simp; omega)) | exact gm (d := 0) (by first | omega | (simp; omega))) | exact Kn.rd2 (by repeat (first | exact Lend.same _ _ | exact Lend.row _ _ _ _ _ _ (by decide) | apply Lend.there)) (by first  | rfl | exact tab_get (by first | omega | (simp; omega)) | exact gm (d := 0) (by first | omega | (simp; omega))))) rfl) (by decide) ?_
                    refine JO.call (f20_spec vw (opAt os k).w m (opAt os k).ws (opAt os k).f (opAt os k).t (by omega)) body_20 rfl (by repeat (first | exact Picks.nil _ | apply Picks.cons | exact Pull.here _ _ | apply Pull.there)) (by repeat (first | exact Subs.nil _ | apply Subs.cons | exact List.Mem.head _ | refine List.Mem.tail _ ?_)) (by decide) ?_
                    rintro _ _ _ ⟨_, _, ⟨v2, rfl, rfl, rfl⟩, hΓ, hH⟩
                    simp only [List.cons_append, List.nil_append] at hΓ hH; subst hΓ hH
                    refine JO.v (Yv.move rfl) (by decide) ?_
                    refine JO.v (Yv.as (v' := v2) (Yv.extract rfl rfl) rfl) (by decide) ?_
                    refine JO.v (Yv.as (v' := it (spreadE m (opAt os k).f (opAt os k).t (opAt os k).ws)) (Yv.extract rfl rfl) rfl) (by decide) ?_
                    refine JO.v (Yv.assign rfl) (by decide) ?_
                    refine JO.v (Yv.assign rfl) (by decide) ?_
                    refine JO.nil ?_
                    refine JQ.block_normal ?_
                    first | refine JQ.head (moveL m (opAt os k).f (opAt os k).t (opAt os k).n, v2, moveE m (opAt os k).f (opAt os k).t (opAt os k).n, 0) (by (repeat (first | exact trivial | refine ⟨by first | rfl | (simp; done), ?_⟩)); done) (Subs.sub (by repeat (first | exact Subs.nil _ | apply Subs.cons | exact List.Mem.head _ | refine List.Mem.tail _ ?_))) (Picks.perm (by repeat (first | exact Picks.nil _ | apply Picks.cons | exact Pull.here _ _ | apply Pull.there))) ?_ | refine JQ.head (takeL m (opAt os k).f (opAt os k).t (opAt os k).n, v2, 0, takeF m (opAt os k).f (opAt os k).t (opAt os k).n) (by (repeat (first | exact trivial | refine ⟨by first | rfl | (simp; done), ?_⟩)); done) (Subs.sub (by repeat (first | exact Subs.nil _ | apply Subs.cons | exact List.Mem.head _ | refine List.Mem.tail _ ?_))) (Picks.perm (by repeat (first | exact Picks.nil _ | apply Picks.cons | exact Pull.here _ _ | apply Pull.there))) ?_ | refine JQ.head (spreadL m (opAt os k).f (opAt os k).t (opAt os k).ws, v2, spreadE m (opAt os k).f (opAt os k).t (opAt os k).ws, 0) (by (repeat (first | exact trivial | refine ⟨by first | rfl | (simp; done), ?_⟩)); done) (Subs.sub (by repeat (first | exact Subs.nil _ | apply Subs.cons | exact List.Mem.head _ | refine List.Mem.tail _ ?_))) (Picks.perm (by repeat (first | exact Picks.nil _ | apply Picks.cons | exact Pull.here _ _ | apply Pull.there))) ?_ | refine JQ.head (m, vw, 0, 0) (by (repeat (first | exact trivial | refine ⟨by first | rfl | (simp; done), ?_⟩)); done) (Subs.sub (by repeat (first | exact Subs.nil _ | apply Subs.cons | exact List.Mem.head _ | refine List.Mem.tail _ ?_))) (Picks.perm (by repeat (first | exact Picks.nil _ | apply Picks.cons | exact Pull.here _ _ | apply Pull.there))) ?_
                    first | exact hm | (simp only [moveL_len, takeL_len, spreadL_len]; exact hm)
                  · try simp only [decide_eq_true_eq, decide_eq_false_iff_not, Bool.not_eq_true', Bool.not_eq_false', ne_eq, Decidable.not_not, Bool.not_eq_true, Bool.and_eq_true, Bool.or_eq_true, BitVec.reduceToNat] at hc7
                    refine JC.skip ?_
                    refine JQ.block_normal ?_
                    first | refine JQ.head (moveL m (opAt os k).f (opAt os k).t (opAt os k).n, v2, moveE m (opAt os k).f (opAt os k).t (opAt os k).n, 0) (by (repeat (first | exact trivial | refine ⟨by first | rfl | (simp; done), ?_⟩)); done) (Subs.sub (by repeat (first | exact Subs.nil _ | apply Subs.cons | exact List.Mem.head _ | refine List.Mem.tail _ ?_))) (Picks.perm (by repeat (first | exact Picks.nil _ | apply Picks.cons | exact Pull.here _ _ | apply Pull.there))) ?_ | refine JQ.head (takeL m (opAt os k).f (opAt os k).t (opAt os k).n, v2, 0, takeF m (opAt os k).f (opAt os k).t (opAt os k).n) (by (repeat (first | exact trivial | refine ⟨by first | rfl | (simp; done), ?_⟩)); done) (Subs.sub (by repeat (first | exact Subs.nil _ | apply Subs.cons | exact List.Mem.head _ | refine List.Mem.tail _ ?_))) (Picks.perm (by repeat (first | exact Picks.nil _ | apply Picks.cons | exact Pull.here _ _ | apply Pull.there))) ?_ | refine JQ.head (spreadL m (opAt os k).f (opAt os k).t (opAt os k).ws, v2, spreadE m (opAt os k).f (opAt os k).t (opAt os k).ws, 0) (by (repeat (first | exact trivial | refine ⟨by first | rfl | (simp; done), ?_⟩)); done) (Subs.sub (by repeat (first | exact Subs.nil _ | apply Subs.cons | exact List.Mem.head _ | refine List.Mem.tail _ ?_))) (Picks.perm (by repeat (first | exact Picks.nil _ | apply Picks.cons | exact Pull.here _ _ | apply Pull.there))) ?_ | refine JQ.head (m, vw, 0, 0) (by (repeat (first | exact trivial | refine ⟨by first | rfl | (simp; done), ?_⟩)); done) (Subs.sub (by repeat (first | exact Subs.nil _ | apply Subs.cons | exact List.Mem.head _ | refine List.Mem.tail _ ?_))) (Picks.perm (by repeat (first | exact Picks.nil _ | apply Picks.cons | exact Pull.here _ _ | apply Pull.there))) ?_
                    first | exact hm | (simp only [moveL_len, takeL_len, spreadL_len]; exact hm)
            · skip
              obtain ⟨m', vw', e, n⟩ := x
              have hlm := hx
              dsimp only at hlm ⊢
              refine JC.seq ?_
              refine JC.region ?_
              refine JO.v (Yv.move rfl) (by decide) ?_
              refine JO.callB (f11_spec p v m' (by omega)) body_11 rfl (by repeat (first | exact Picks.nil _ | apply Picks.cons | exact Pull.here _ _ | apply Pull.there)) (by repeat (first | exact Lends.nil _ | apply Lends.cons | exact Lend.same _ _ | exact Lend.row _ _ _ _ _ _ (by decide) | apply Lend.there)) (by rintro _ _ _ ⟨h, _⟩; exact h) (by decide) ?_
              rintro v133 _ ⟨_, ⟨_, rfl⟩, hH⟩
              simp only [List.cons_append, List.nil_append] at hH; subst hH
              refine JO.v (Yv.assign rfl) (by decide) ?_
              refine JO.nil ?_
              refine JQ.then_normal ?_
              refine JC.seq ?_
              refine JC.region ?_
              refine JO.v (Yv.move rfl) (by decide) ?_
              refine JO.callB (f21_spec p v m') body_21 rfl (by repeat (first | exact Picks.nil _ | apply Picks.cons | exact Pull.here _ _ | apply Pull.there)) (by repeat (first | exact Lends.nil _ | apply Lends.cons | exact Lend.same _ _ | exact Lend.row _ _ _ _ _ _ (by decide) | apply Lend.there)) (by rintro _ _ _ ⟨_, h, _⟩; exact h) (by decide) ?_
              rintro _ _ ⟨_, ⟨rfl, _, rfl⟩, hH⟩
              simp only [List.cons_append, List.nil_append] at hH; subst hH
              refine JO.v (Yv.assign rfl) (by decide) ?_
              refine JO.nil ?_
              refine JQ.then_normal ?_
              refine JC.seq ?_
              refine JC.seq ?_
              refine JC.region ?_
              refine JO.v (Yv.move rfl) (by decide) ?_
              refine JO.v (Yv.move rfl) (by decide) ?_
              refine JO.v (Yv.as (v' := .bool false) (Yv.bin rfl rfl BinR.neq_i) (congrArg Value.bool (by simp))) (by decide) ?_
              refine JO.v (Yv.move rfl) (by decide) ?_
              refine JO.gt (g := 139) rfl rfl rfl ?_
              refine JO.v (Yv.move rfl) (by decide) ?_
              refine JO.gt (g := 139) rfl rfl rfl ?_
              refine JO.v (Yv.move rfl) (by decide) ?_
              refine JO.gt (g := 139) rfl rfl rfl ?_
              refine JO.v (Yv.as (v' := .bool false) (Yv.bin rfl rfl (BinR.neq_u64)) (congrArg Value.bool (by simp))) (by decide) ?_
              refine JO.v (Yv.pick0 rfl rfl rfl) (by decide) ?_
              refine JO.v (Yv.move rfl) (by decide) ?_
              refine JO.gt (g := 144) rfl rfl rfl ?_
              refine JO.v (Yv.move rfl) (by decide) ?_
              refine JO.gt (g := 144) rfl rfl rfl ?_
              refine JO.v (Yv.move rfl) (by decide) ?_
              refine JO.gt (g := 144) rfl rfl rfl ?_
              refine JO.callB (f13_spec v133 vw' m' m') body_13 rfl (by repeat (first | exact Picks.nil _ | apply Picks.cons | exact Pull.here _ _ | apply Pull.there)) (by repeat (first | exact Lends.nil _ | apply Lends.cons | exact Lend.same _ _ | exact Lend.row _ _ _ _ _ _ (by decide) | apply Lend.there)) (by rintro _ _ _ ⟨_, h, _⟩; exact h) (by decide) ?_
              rintro _ _ ⟨_, ⟨rfl, _, rfl⟩, hH⟩
              simp only [List.cons_append, List.nil_append] at hH; subst hH
              refine JO.gt (g := 144) rfl rfl rfl ?_
              refine JO.v (Yv.as (v' := .bool false) (Yv.not rfl) (congrArg Value.bool (by simp))) (by decide) ?_
              refine JO.v (Yv.pick0 rfl rfl rfl) (by decide) ?_
              refine JO.v (Yv.move rfl) (by decide) ?_
              refine JO.gt (g := 150) rfl rfl rfl ?_
              refine JO.v (Yv.move rfl) (by decide) ?_
              refine JO.gt (g := 150) rfl rfl rfl ?_
              refine JO.v (Yv.move rfl) (by decide) ?_
              refine JO.gt (g := 150) rfl rfl rfl ?_
              first | refine JO.v (Yv.len_s Tryd.underlying22 rfl) (by decide) ?_ | refine JO.v (Yv.lenRd Tryd.underlying22 rfl (by repeat (first | exact Lend.same _ _ | exact Lend.row _ _ _ _ _ _ (by decide) | apply Lend.there))) (by decide) ?_
              refine JO.gt (g := 150) rfl rfl rfl ?_
              refine JO.v (Yv.as (v' := .bool false) (Yv.bin rfl rfl BinR.neq_i) (congrArg Value.bool (by simp))) (by decide) ?_
              refine JO.v (Yv.pick0 rfl rfl rfl) (by decide) ?_
              refine JO.nil ?_
              refine JQ.then_normal ?_
              refine JC.cond rfl (fun hc8 => ?_) (fun hc8 => ?_)
              · try simp only [decide_eq_true_eq, decide_eq_false_iff_not, Bool.not_eq_true', Bool.not_eq_false', ne_eq, Decidable.not_not, Bool.not_eq_true, Bool.and_eq_true, Bool.or_eq_true, BitVec.reduceToNat] at hc8
                exact absurd hc8 (by decide)
              · try simp only [decide_eq_true_eq, decide_eq_false_iff_not, Bool.not_eq_true', Bool.not_eq_false', ne_eq, Decidable.not_not, Bool.not_eq_true, Bool.and_eq_true, Bool.or_eq_true, BitVec.reduceToNat] at hc8
                refine JC.skip ?_
                refine JQ.then_normal ?_
                refine JC.seq ?_
                refine JC.region ?_
                refine JO.v (Yv.as (v' := it (((0 : Nat) : Int) - 1)) (Yv.assign rfl) rfl) (by decide) ?_
                refine JO.nil ?_
                refine JQ.then_normal ?_
                refine JC.block ?_
                refine JC.loop (ι := Nat) (fun x => x ≤ m'.length + 2) (fun x => [(1, vo), (5, .bool true), (6, ptr p 0), (7, it 0), (8, it 0), (9, vw'), (10, it (k : Int)), (17, it (m'.length : Int)), (18, it ((x : Int) - 1))]) (fun x => [Res.var 0 ((wd 9223372036854775808).map u64), Res.rd u l.length 1 (l.map u64), Res.rd vo os.length 5 (opCells os), Res.all (opRes os), Res.rd vw' m'.length 1 (m'.map u64)]) (fun x => [Res.cells p [v] 57, Res.row v m'.length 23 1 (m'.map u64)]) (fun x => m'.length + 2 - x) 0 (by repeat (first | exact trivial | refine ⟨by first | rfl | (simp; done), ?_⟩)) (Subs.sub (by repeat (first | exact Subs.nil _ | apply Subs.cons | exact List.Mem.head _ | refine List.Mem.tail _ ?_))) (Picks.perm (by repeat (first | exact Picks.nil _ | apply Picks.cons | exact Pull.here _ _ | apply Pull.there))) ?_ (fun x hx => ?_)
                · exact Nat.zero_le _
                refine JC.seq ?_
                refine JC.seq ?_
                refine JC.region ?_
                refine JO.v (Yv.move rfl) (by decide) ?_
                refine JO.v (Yv.move rfl) (by decide) ?_
                refine JO.v (Yv.bin rfl rfl BinR.leq_i) (by decide) ?_
                refine JO.nil ?_
                refine JQ.then_normal ?_
                refine JC.cond rfl (fun hc9 => ?_) (fun hc9 => ?_)
                · try simp only [decide_eq_true_eq, decide_eq_false_iff_not, Bool.not_eq_true', Bool.not_eq_false', ne_eq, Decidable.not_not, Bool.not_eq_true, Bool.and_eq_true, Bool.or_eq_true, BitVec.reduceToNat] at hc9
                  refine JC.skip ?_
                  refine JQ.then_normal ?_
                  refine JC.seq ?_
                  refine JC.block ?_
                  refine JC.seq ?_
                  refine JC.region ?_
                  refine JO.v (Yv.move rfl) (by decide) ?_
                  refine JO.v (Yv.move rfl) (by decide) ?_
                  refine JO.callB (f14_spec p v m' ((x : Int) - 1)) body_14 rfl (by repeat (first | exact Picks.nil _ | apply Picks.cons | exact Pull.here _ _ | apply Pull.there)) (by repeat (first | exact Lends.nil _ | apply Lends.cons | exact Lend.same _ _ | exact Lend.row _ _ _ _ _ _ (by decide) | apply Lend.there)) (by rintro _ _ _ ⟨_, h, _⟩; exact h) (by decide) ?_
                  rintro _ _ ⟨_, ⟨rfl, _, rfl⟩, hH⟩
                  simp only [List.cons_append, List.nil_append] at hH; subst hH
                  refine JO.v (Yv.assign rfl) (by decide) ?_
                  refine JO.nil ?_
                  refine JQ.then_normal ?_
                  refine JC.seq ?_
                  refine JC.region ?_
                  refine JO.v (Yv.move rfl) (by decide) ?_
                  refine JO.v (Yv.bin rfl rfl BinR.geq_i) (by decide) ?_
                  refine JO.v (Yv.move rfl) (by decide) ?_
                  refine JO.join 25 191 (.bool false) ?_ ?_
                  · skip
                    refine JO.gsplit (g := 165) rfl (fun hg174 => ?_) (fun hg174 => ?_)
                    · have hg174' := hg174
                      try simp only [decide_eq_true_eq, decide_eq_false_iff_not, Bool.not_eq_true', Bool.not_eq_false', ne_eq, Decidable.not_not, Bool.not_eq_true, Bool.and_eq_true, Bool.or_eq_true, BitVec.reduceToNat] at hg174'
                      refine JO.gt (g := 166) rfl rfl hg174 ?_
                      refine JO.v (Yv.move rfl) (by decide) ?_
                      refine JO.gt (g := 166) rfl rfl hg174 ?_
                      refine JO.v (Yv.move rfl) (by decide) ?_
                      refine JO.gt (g := 166) rfl rfl hg174 ?_
                      refine JO.v (Yv.bin rfl rfl BinR.lss_i) (by decide) ?_
                      refine JO.v (Yv.pick1 rfl hg174 rfl) (by decide) ?_
                      refine JO.v (Yv.move rfl) (by decide) ?_
                      refine JO.gsplit (g := 170) rfl (fun hg179 => ?_) (fun hg179 => ?_)
                      · have hg179' := hg179
                        try simp only [decide_eq_true_eq, decide_eq_false_iff_not, Bool.not_eq_true', Bool.not_eq_false', ne_eq, Decidable.not_not, Bool.not_eq_true, Bool.and_eq_true, Bool.or_eq_true, BitVec.reduceToNat] at hg179'
                        obtain ⟨j, rfl⟩ : ∃ j, x = j + 1 := ⟨x - 1, by omega⟩
                        have hjm : j < m'.length := by omega
                        refine JO.gt (g := 171) rfl rfl hg179 ?_
                        refine JO.v (Yv.move rfl) (by decide) ?_
                        refine JO.gt (g := 171) rfl rfl hg179 ?_
                        refine JO.v (Yv.move rfl) (by decide) ?_
                        refine JO.gt (g := 171) rfl rfl hg179 ?_
                        refine JO.v (Yv.as (v' := it (j : Int)) (Yv.move rfl) (congrArg it (by omega))) (by decide) ?_
                        refine JO.gt (g := 171) rfl rfl hg179 ?_
                        first | refine JO.v (Yv.indexRow1 Tryd.underlying22 sz_23 rfl rfl (by repeat (first | exact List.Mem.head _ | refine List.Mem.tail _ ?_)) (by first | exact ltb rfl | (simp; done) | (simp; omega) | omega | (simp [*]; omega))) (by decide) ?_ | refine JO.v (Yv.indexRd1 Tryd.underlying22 sz_23 rfl rfl (by repeat (first | exact Lend.same _ _ | exact Lend.row _ _ _ _ _ _ (by decide) | apply Lend.there)) (by first | exact ltb rfl | (simp; done) | (simp; omega) | omega | (simp [*]; omega))) (by decide) ?_
                        refine JO.gt (g := 171) rfl rfl hg179 ?_
                        refine JO.v (Yv.load1 one_23 rfl (by first | exact Kn.own (by repeat (first | exact List.Mem.head _ | refine List.Mem.tail _ ?_)) (by first  | rfl | exact tab_get (by first | omega | (simp; omega)) | exact gm (d := 0) (by first | omega | (simp; omega))) | exact Kn.ro (by repeat (first | exact List.Mem.head _ | refine List.Mem.tail _ ?_)) (by first  | rfl | exact tab_get (by first | omega | (simp; omega)) | exact gm (d := 0) (by first | omega | (simp; omega))) | exact Kn.row (by repeat (first | exact List.Mem.head _ | refine List.Mem.tail _ ?_)) (by first  | rfl | exact tab_get (by first | omega | (simp; omega)) | exact gm (d := 0) (by first | omega | (simp; omega))) | exact Kn.rd (by repeat (first | exact Lend.same _ _ | exact Lend.row _ _ _ _ _ _ (by decide) | apply Lend.there)) (by first  | rfl | exact tab_get (by first | omega | (simp; omega)) | exact gm (d := 0) (by first | omega | (simp; omega))) | exact Kn.rd2 (by repeat (first | exact Lend.same _ _ | exact Lend.row _ _ _ _ _ _ (by decide) | apply Lend.there)) (by first  | rfl | exact tab_get (by first | omega | (simp; omega)) | exact gm (d := 0) (by first | omega | (simp; omega))))) (by decide) ?_
                        refine JO.gt (g := 171) rfl rfl hg179 ?_
                        refine JO.v (Yv.as (v' := .bool false) (Yv.bin rfl rfl (BinR.neq_u64)) (congrArg Value.bool (by rw [has_in hjm]; simp))) (by decide) ?_
                        refine JO.v (Yv.pick1 rfl hg179 rfl) (by decide) ?_
                        refine JO.v (Yv.move rfl) (by decide) ?_
                        refine JO.gt (g := 179) rfl rfl rfl ?_
                        refine JO.v (Yv.move rfl) (by decide) ?_
                        refine JO.gt (g := 179) rfl rfl rfl ?_
                        refine JO.v (Yv.bin rfl rfl BinR.lss_i) (by decide) ?_
                        refine JO.gt (g := 179) rfl rfl rfl ?_
                        refine JO.v (Yv.move rfl) (by decide) ?_
                        refine JO.gsplit (g := 181) rfl (fun hg190 => ?_) (fun hg190 => ?_)
                        · have hg190' := hg190
                          try simp only [decide_eq_true_eq, decide_eq_false_iff_not, Bool.not_eq_true', Bool.not_eq_false', ne_eq, Decidable.not_not, Bool.not_eq_true, Bool.and_eq_true, Bool.or_eq_true, BitVec.reduceToNat] at hg190'
                          refine JO.gf (g := 182) rfl rfl hg190 (by decide) ?_
                          refine JO.gf (g := 182) rfl rfl hg190 (by decide) ?_
                          refine JO.gf (g := 182) rfl rfl hg190 (by decide) ?_
                          refine JO.gt (g := 179) rfl rfl rfl ?_
                          refine JO.v (Yv.pick1 rfl hg190 rfl) (by decide) ?_
                          refine JO.gt (g := 179) rfl rfl rfl ?_
                          refine JO.v (Yv.move rfl) (by decide) ?_
                          refine JO.gt (g := 187) rfl rfl rfl ?_
                          refine JO.v (Yv.move rfl) (by decide) ?_
                          refine JO.gt (g := 187) rfl rfl rfl ?_
                          refine JO.v (Yv.as (v' := .bool false) (Yv.bin rfl rfl (BinR.neq_u64 (b := 0#64))) (congrArg Value.bool (by rw [has_out (by omega)]; rfl))) (by decide) ?_
                          refine JO.gt (g := 179) rfl rfl rfl ?_
                          refine JO.v (Yv.pick1 rfl rfl rfl) (by decide) ?_
                          refine JO.v (Yv.pick0 rfl rfl rfl) (by decide) ?_
                          refine JO.nil ?_
                          refine JQ.head () (by first | (refine ⟨by first | rfl | (exfalso; omega), ?_⟩; repeat (first | exact trivial | refine ⟨rfl, ?_⟩))) (Subs.sub (by repeat (first | exact Subs.nil _ | apply Subs.cons | exact List.Mem.head _ | refine List.Mem.tail _ ?_))) (Picks.perm (by repeat (first | exact Picks.nil _ | apply Picks.cons | exact Pull.here _ _ | apply Pull.there))) ?_
                          trivial
                        · have hg190' := hg190
                          try simp only [decide_eq_true_eq, decide_eq_false_iff_not, Bool.not_eq_true', Bool.not_eq_false', ne_eq, Decidable.not_not, Bool.not_eq_true, Bool.and_eq_true, Bool.or_eq_true, BitVec.reduceToNat] at hg190'
                          refine JO.gt (g := 182) rfl rfl hg190 ?_
                          refine JO.v (Yv.move rfl) (by decide) ?_
                          refine JO.gt (g := 182) rfl rfl hg190 ?_
                          refine JO.v (Yv.move rfl) (by decide) ?_
                          refine JO.gt (g := 182) rfl rfl hg190 ?_
                          refine JO.v (Yv.bin rfl rfl BinR.geq_i) (by decide) ?_
                          refine JO.gt (g := 179) rfl rfl rfl ?_
                          refine JO.v (Yv.pick0 rfl hg190 rfl) (by decide) ?_
                          refine JO.gt (g := 179) rfl rfl rfl ?_
                          refine JO.v (Yv.move rfl) (by decide) ?_
                          refine JO.gsplit (g := 186) rfl (fun hg195 => ?_) (fun hg195 => ?_)
                          · have hg195' := hg195
                            try simp only [decide_eq_true_eq, decide_eq_false_iff_not, Bool.not_eq_true', Bool.not_eq_false', ne_eq, Decidable.not_not, Bool.not_eq_true, Bool.and_eq_true, Bool.or_eq_true, BitVec.reduceToNat] at hg195'
                            refine JO.gt (g := 187) rfl rfl hg195 ?_
                            refine JO.v (Yv.move rfl) (by decide) ?_
                            refine JO.gt (g := 187) rfl rfl hg195 ?_
                            refine JO.v (Yv.as (v' := .bool false) (Yv.bin rfl rfl (BinR.neq_u64 (b := 0#64))) (congrArg Value.bool (by rw [has_out (by omega)]; rfl))) (by decide) ?_
                            refine JO.gt (g := 179) rfl rfl rfl ?_
                            refine JO.v (Yv.pick1 rfl hg195 rfl) (by decide) ?_
                            refine JO.v (Yv.pick0 rfl rfl rfl) (by decide) ?_
                            refine JO.nil ?_
                            refine JQ.head () (by first | (refine ⟨by first | rfl | (exfalso; omega), ?_⟩; repeat (first | exact trivial | refine ⟨rfl, ?_⟩))) (Subs.sub (by repeat (first | exact Subs.nil _ | apply Subs.cons | exact List.Mem.head _ | refine List.Mem.tail _ ?_))) (Picks.perm (by repeat (first | exact Picks.nil _ | apply Picks.cons | exact Pull.here _ _ | apply Pull.there))) ?_
                            trivial
                          · have hg195' := hg195
                            try simp only [decide_eq_true_eq, decide_eq_false_iff_not, Bool.not_eq_true', Bool.not_eq_false', ne_eq, Decidable.not_not, Bool.not_eq_true, Bool.and_eq_true, Bool.or_eq_true, BitVec.reduceToNat] at hg195'
                            refine JO.gf (g := 187) rfl rfl hg195 (by decide) ?_
                            refine JO.gf (g := 187) rfl rfl hg195 (by decide) ?_
                            refine JO.gt (g := 179) rfl rfl rfl ?_
                            refine JO.v (Yv.pick0 rfl hg195 rfl) (by decide) ?_
                            refine JO.v (Yv.pick0 rfl rfl rfl) (by decide) ?_
                            refine JO.nil ?_
                            refine JQ.head () (by first | (refine ⟨by first | rfl | (exfalso; omega), ?_⟩; repeat (first | exact trivial | refine ⟨rfl, ?_⟩))) (Subs.sub (by repeat (first | exact Subs.nil _ | apply Subs.cons | exact List.Mem.head _ | refine List.Mem.tail _ ?_))) (Picks.perm (by repeat (first | exact Picks.nil _ | apply Picks.cons | exact Pull.here _ _ | apply Pull.there))) ?_
                            trivial
                      · have hg179' := hg179
                        try simp only [decide_eq_true_eq, decide_eq_false_iff_not, Bool.not_eq_true', Bool.not_eq_false', ne_eq, Decidable.not_not, Bool.not_eq_true, Bool.and_eq_true, Bool.or_eq_true, BitVec.reduceToNat] at hg179'
                        refine JO.gf (g := 171) rfl rfl hg179 (by decide) ?_
                        refine JO.gf (g := 171) rfl rfl hg179 (by decide) ?_
                        refine JO.gf (g := 171) rfl rfl hg179 (by decide) ?_
                        refine JO.gf (g := 171) rfl rfl hg179 (by decide) ?_
                        refine JO.gf (g := 171) rfl rfl hg179 (by decide) ?_
                        refine JO.gf (g := 171) rfl rfl hg179 (by decide) ?_
                        refine JO.v (Yv.pick0 rfl hg179 rfl) (by decide) ?_
                        refine JO.v (Yv.move rfl) (by decide) ?_
                        refine JO.gt (g := 179) rfl rfl rfl ?_
                        refine JO.v (Yv.move rfl) (by decide) ?_
                        refine JO.gt (g := 179) rfl rfl rfl ?_
                        refine JO.v (Yv.bin rfl rfl BinR.lss_i) (by decide) ?_
                        refine JO.gt (g := 179) rfl rfl rfl ?_
                        refine JO.v (Yv.move rfl) (by decide) ?_
                        refine JO.gsplit (g := 181) rfl (fun hg190 => ?_) (fun hg190 => ?_)
                        · have hg190' := hg190
                          try simp only [decide_eq_true_eq, decide_eq_false_iff_not, Bool.not_eq_true', Bool.not_eq_false', ne_eq, Decidable.not_not, Bool.not_eq_true, Bool.and_eq_true, Bool.or_eq_true, BitVec.reduceToNat] at hg190'
                          refine JO.gf (g := 182) rfl rfl hg190 (by decide) ?_
                          refine JO.gf (g := 182) rfl rfl hg190 (by decide) ?_
                          refine JO.gf (g := 182) rfl rfl hg190 (by decide) ?_
                          refine JO.gt (g := 179) rfl rfl rfl ?_
                          refine JO.v (Yv.pick1 rfl hg190 rfl) (by decide) ?_
                          refine JO.gt (g := 179) rfl rfl rfl ?_
                          refine JO.v (Yv.move rfl) (by decide) ?_
                          refine JO.gt (g := 187) rfl rfl rfl ?_
                          refine JO.v (Yv.move rfl) (by decide) ?_
                          refine JO.gt (g := 187) rfl rfl rfl ?_
                          refine JO.v (Yv.as (v' := .bool false) (Yv.bin rfl rfl (BinR.neq_u64 (b := 0#64))) (congrArg Value.bool (by rw [has_out (by omega)]; rfl))) (by decide) ?_
                          refine JO.gt (g := 179) rfl rfl rfl ?_
                          refine JO.v (Yv.pick1 rfl rfl rfl) (by decide) ?_
                          refine JO.v (Yv.pick0 rfl rfl rfl) (by decide) ?_
                          refine JO.nil ?_
                          refine JQ.head () (by first | (refine ⟨by first | rfl | (exfalso; omega), ?_⟩; repeat (first | exact trivial | refine ⟨rfl, ?_⟩))) (Subs.sub (by repeat (first | exact Subs.nil _ | apply Subs.cons | exact List.Mem.head _ | refine List.Mem.tail _ ?_))) (Picks.perm (by repeat (first | exact Picks.nil _ | apply Picks.cons | exact Pull.here _ _ | apply Pull.there))) ?_
                          trivial
                        · have hg190' := hg190
                          try simp only [decide_eq_true_eq, decide_eq_false_iff_not, Bool.not_eq_true', Bool.not_eq_false', ne_eq, Decidable.not_not, Bool.not_eq_true, Bool.and_eq_true, Bool.or_eq_true, BitVec.reduceToNat] at hg190'
                          refine JO.gt (g := 182) rfl rfl hg190 ?_
                          refine JO.v (Yv.move rfl) (by decide) ?_
                          refine JO.gt (g := 182) rfl rfl hg190 ?_
                          refine JO.v (Yv.move rfl) (by decide) ?_
                          refine JO.gt (g := 182) rfl rfl hg190 ?_
                          refine JO.v (Yv.bin rfl rfl BinR.geq_i) (by decide) ?_
                          refine JO.gt (g := 179) rfl rfl rfl ?_
                          refine JO.v (Yv.pick0 rfl hg190 rfl) (by decide) ?_
                          refine JO.gt (g := 179) rfl rfl rfl ?_
                          refine JO.v (Yv.move rfl) (by decide) ?_
                          refine JO.gsplit (g := 186) rfl (fun hg195 => ?_) (fun hg195 => ?_)
                          · have hg195' := hg195
                            try simp only [decide_eq_true_eq, decide_eq_false_iff_not, Bool.not_eq_true', Bool.not_eq_false', ne_eq, Decidable.not_not, Bool.not_eq_true, Bool.and_eq_true, Bool.or_eq_true, BitVec.reduceToNat] at hg195'
                            refine JO.gt (g := 187) rfl rfl hg195 ?_
                            refine JO.v (Yv.move rfl) (by decide) ?_
                            refine JO.gt (g := 187) rfl rfl hg195 ?_
                            refine JO.v (Yv.as (v' := .bool false) (Yv.bin rfl rfl (BinR.neq_u64 (b := 0#64))) (congrArg Value.bool (by rw [has_out (by omega)]; rfl))) (by decide) ?_
                            refine JO.gt (g := 179) rfl rfl rfl ?_
                            refine JO.v (Yv.pick1 rfl hg195 rfl) (by decide) ?_
                            refine JO.v (Yv.pick0 rfl rfl rfl) (by decide) ?_
                            refine JO.nil ?_
                            refine JQ.head () (by first | (refine ⟨by first | rfl | (exfalso; omega), ?_⟩; repeat (first | exact trivial | refine ⟨rfl, ?_⟩))) (Subs.sub (by repeat (first | exact Subs.nil _ | apply Subs.cons | exact List.Mem.head _ | refine List.Mem.tail _ ?_))) (Picks.perm (by repeat (first | exact Picks.nil _ | apply Picks.cons | exact Pull.here _ _ | apply Pull.there))) ?_
                            trivial
                          · have hg195' := hg195
                            try simp only [decide_eq_true_eq, decide_eq_false_iff_not, Bool.not_eq_true', Bool.not_eq_false', ne_eq, Decidable.not_not, Bool.not_eq_true, Bool.and_eq_true, Bool.or_eq_true, BitVec.reduceToNat] at hg195'
                            refine JO.gf (g := 187) rfl rfl hg195 (by decide) ?_
                            refine JO.gf (g := 187) rfl rfl hg195 (by decide) ?_
                            refine JO.gt (g := 179) rfl rfl rfl ?_
                            refine JO.v (Yv.pick0 rfl hg195 rfl) (by decide) ?_
                            refine JO.v (Yv.pick0 rfl rfl rfl) (by decide) ?_
                            refine JO.nil ?_
                            refine JQ.head () (by first | (refine ⟨by first | rfl | (exfalso; omega), ?_⟩; repeat (first | exact trivial | refine ⟨rfl, ?_⟩))) (Subs.sub (by repeat (first | exact Subs.nil _ | apply Subs.cons | exact List.Mem.head _ | refine List.Mem.tail _ ?_))) (Picks.perm (by repeat (first | exact Picks.nil _ | apply Picks.cons | exact Pull.here _ _ | apply Pull.there))) ?_
                            trivial
                    · have hg174' := hg174
                      try simp only [decide_eq_true_eq, decide_eq_false_iff_not, Bool.not_eq_true', Bool.not_eq_false', ne_eq, Decidable.not_not, Bool.not_eq_true, Bool.and_eq_true, Bool.or_eq_true, BitVec.reduceToNat] at hg174'
                      refine JO.gf (g := 166) rfl rfl hg174 (by decide) ?_
                      refine JO.gf (g := 166) rfl rfl hg174 (by decide) ?_
                      refine JO.gf (g := 166) rfl rfl hg174 (by decide) ?_
                      refine JO.v (Yv.pick0 rfl hg174 rfl) (by decide) ?_
                      refine JO.v (Yv.move rfl) (by decide) ?_
                      refine JO.gf (g := 171) rfl rfl rfl (by decide) ?_
                      refine JO.gf (g := 171) rfl rfl rfl (by decide) ?_
                      refine JO.gf (g := 171) rfl rfl rfl (by decide) ?_
                      refine JO.gf (g := 171) rfl rfl rfl (by decide) ?_
                      refine JO.gf (g := 171) rfl rfl rfl (by decide) ?_
                      refine JO.gf (g := 171) rfl rfl rfl (by decide) ?_
                      refine JO.v (Yv.pick0 rfl rfl rfl) (by decide) ?_
                      refine JO.v (Yv.move rfl) (by decide) ?_
                      refine JO.gt (g := 179) rfl rfl rfl ?_
                      refine JO.v (Yv.move rfl) (by decide) ?_
                      refine JO.gt (g := 179) rfl rfl rfl ?_
                      refine JO.v (Yv.bin rfl rfl BinR.lss_i) (by decide) ?_
                      refine JO.gt (g := 179) rfl rfl rfl ?_
                      refine JO.v (Yv.move rfl) (by decide) ?_
                      refine JO.gsplit (g := 181) rfl (fun hg190 => ?_) (fun hg190 => ?_)
                      · have hg190' := hg190
                        try simp only [decide_eq_true_eq, decide_eq_false_iff_not, Bool.not_eq_true', Bool.not_eq_false', ne_eq, Decidable.not_not, Bool.not_eq_true, Bool.and_eq_true, Bool.or_eq_true, BitVec.reduceToNat] at hg190'
                        refine JO.gf (g := 182) rfl rfl hg190 (by decide) ?_
                        refine JO.gf (g := 182) rfl rfl hg190 (by decide) ?_
                        refine JO.gf (g := 182) rfl rfl hg190 (by decide) ?_
                        refine JO.gt (g := 179) rfl rfl rfl ?_
                        refine JO.v (Yv.pick1 rfl hg190 rfl) (by decide) ?_
                        refine JO.gt (g := 179) rfl rfl rfl ?_
                        refine JO.v (Yv.move rfl) (by decide) ?_
                        refine JO.gt (g := 187) rfl rfl rfl ?_
                        refine JO.v (Yv.move rfl) (by decide) ?_
                        refine JO.gt (g := 187) rfl rfl rfl ?_
                        refine JO.v (Yv.as (v' := .bool false) (Yv.bin rfl rfl (BinR.neq_u64 (b := 0#64))) (congrArg Value.bool (by rw [has_out (by omega)]; rfl))) (by decide) ?_
                        refine JO.gt (g := 179) rfl rfl rfl ?_
                        refine JO.v (Yv.pick1 rfl rfl rfl) (by decide) ?_
                        refine JO.v (Yv.pick0 rfl rfl rfl) (by decide) ?_
                        refine JO.nil ?_
                        refine JQ.head () (by first | (refine ⟨by first | rfl | (exfalso; omega), ?_⟩; repeat (first | exact trivial | refine ⟨rfl, ?_⟩))) (Subs.sub (by repeat (first | exact Subs.nil _ | apply Subs.cons | exact List.Mem.head _ | refine List.Mem.tail _ ?_))) (Picks.perm (by repeat (first | exact Picks.nil _ | apply Picks.cons | exact Pull.here _ _ | apply Pull.there))) ?_
                        trivial
                      · have hg190' := hg190
                        try simp only [decide_eq_true_eq, decide_eq_false_iff_not, Bool.not_eq_true', Bool.not_eq_false', ne_eq, Decidable.not_not, Bool.not_eq_true, Bool.and_eq_true, Bool.or_eq_true, BitVec.reduceToNat] at hg190'
                        refine JO.gt (g := 182) rfl rfl hg190 ?_
                        refine JO.v (Yv.move rfl) (by decide) ?_
                        refine JO.gt (g := 182) rfl rfl hg190 ?_
                        refine JO.v (Yv.move rfl) (by decide) ?_
                        refine JO.gt (g := 182) rfl rfl hg190 ?_
                        refine JO.v (Yv.bin rfl rfl BinR.geq_i) (by decide) ?_
                        refine JO.gt (g := 179) rfl rfl rfl ?_
                        refine JO.v (Yv.pick0 rfl hg190 rfl) (by decide) ?_
                        refine JO.gt (g := 179) rfl rfl rfl ?_
                        refine JO.v (Yv.move rfl) (by decide) ?_
                        refine JO.gsplit (g := 186) rfl (fun hg195 => ?_) (fun hg195 => ?_)
                        · have hg195' := hg195
                          try simp only [decide_eq_true_eq, decide_eq_false_iff_not, Bool.not_eq_true', Bool.not_eq_false', ne_eq, Decidable.not_not, Bool.not_eq_true, Bool.and_eq_true, Bool.or_eq_true, BitVec.reduceToNat] at hg195'
                          refine JO.gt (g := 187) rfl rfl hg195 ?_
                          refine JO.v (Yv.move rfl) (by decide) ?_
                          refine JO.gt (g := 187) rfl rfl hg195 ?_
                          refine JO.v (Yv.as (v' := .bool false) (Yv.bin rfl rfl (BinR.neq_u64 (b := 0#64))) (congrArg Value.bool (by rw [has_out (by omega)]; rfl))) (by decide) ?_
                          refine JO.gt (g := 179) rfl rfl rfl ?_
                          refine JO.v (Yv.pick1 rfl hg195 rfl) (by decide) ?_
                          refine JO.v (Yv.pick0 rfl rfl rfl) (by decide) ?_
                          refine JO.nil ?_
                          refine JQ.head () (by first | (refine ⟨by first | rfl | (exfalso; omega), ?_⟩; repeat (first | exact trivial | refine ⟨rfl, ?_⟩))) (Subs.sub (by repeat (first | exact Subs.nil _ | apply Subs.cons | exact List.Mem.head _ | refine List.Mem.tail _ ?_))) (Picks.perm (by repeat (first | exact Picks.nil _ | apply Picks.cons | exact Pull.here _ _ | apply Pull.there))) ?_
                          trivial
                        · have hg195' := hg195
                          try simp only [decide_eq_true_eq, decide_eq_false_iff_not, Bool.not_eq_true', Bool.not_eq_false', ne_eq, Decidable.not_not, Bool.not_eq_true, Bool.and_eq_true, Bool.or_eq_true, BitVec.reduceToNat] at hg195'
                          refine JO.gf (g := 187) rfl rfl hg195 (by decide) ?_
                          refine JO.gf (g := 187) rfl rfl hg195 (by decide) ?_
                          refine JO.gt (g := 179) rfl rfl rfl ?_
                          refine JO.v (Yv.pick0 rfl hg195 rfl) (by decide) ?_
                          refine JO.v (Yv.pick0 rfl rfl rfl) (by decide) ?_
                          refine JO.nil ?_
                          refine JQ.head () (by first | (refine ⟨by first | rfl | (exfalso; omega), ?_⟩; repeat (first | exact trivial | refine ⟨rfl, ?_⟩))) (Subs.sub (by repeat (first | exact Subs.nil _ | apply Subs.cons | exact List.Mem.head _ | refine List.Mem.tail _ ?_))) (Picks.perm (by repeat (first | exact Picks.nil _ | apply Picks.cons | exact Pull.here _ _ | apply Pull.there))) ?_
                          trivial
                  · skip
                    refine JO.nil ?_
                    refine JQ.then_normal ?_
                    refine JC.cond rfl (fun hc10 => ?_) (fun hc10 => ?_)
                    · try simp only [decide_eq_true_eq, decide_eq_false_iff_not, Bool.not_eq_true', Bool.not_eq_false', ne_eq, Decidable.not_not, Bool.not_eq_true, Bool.and_eq_true, Bool.or_eq_true, BitVec.reduceToNat] at hc10
                      exact absurd hc10 (by decide)
                    · try simp only [decide_eq_true_eq, decide_eq_false_iff_not, Bool.not_eq_true', Bool.not_eq_false', ne_eq, Decidable.not_not, Bool.not_eq_true, Bool.and_eq_true, Bool.or_eq_true, BitVec.reduceToNat] at hc10
                      refine JC.skip ?_
                      refine JQ.block_normal ?_
                      refine JQ.then_normal ?_
                      refine JC.region ?_
                      refine JO.v (Yv.move rfl) (by decide) ?_
                      refine JO.v (Yv.as (v' := it (((x + 1 : Nat) : Int) - 1)) (Yv.bin rfl rfl (BinR.add_i (by first | (constructor <;> omega) | (constructor <;> simp <;> omega)))) (congrArg it (by omega))) (by decide) ?_
                      refine JO.v (Yv.assign rfl) (by decide) ?_
                      refine JO.nil ?_
                      refine JQ.head (x + 1) (by repeat (first | exact trivial | refine ⟨by first | rfl | (simp; done), ?_⟩)) (Subs.sub (by repeat (first | exact Subs.nil _ | apply Subs.cons | exact List.Mem.head _ | refine List.Mem.tail _ ?_))) (Picks.perm (by repeat (first | exact Picks.nil _ | apply Picks.cons | exact Pull.here _ _ | apply Pull.there))) ?_
                      exact ⟨by omega, by omega⟩
                · try simp only [decide_eq_true_eq, decide_eq_false_iff_not, Bool.not_eq_true', Bool.not_eq_false', ne_eq, Decidable.not_not, Bool.not_eq_true, Bool.and_eq_true, Bool.or_eq_true, BitVec.reduceToNat] at hc9
                  refine JC.exit ?_
                  refine JQ.then_exit ?_
                  refine JQ.then_exit ?_
                  refine JQ.block_exit ?_
                  refine JQ.block_normal ?_
                  refine JQ.then_normal ?_
                  refine JC.region ?_
                  refine JO.v (Yv.move rfl) (by decide) ?_
                  refine JO.v (Yv.bin rfl rfl (BinR.add_i (by first | (constructor <;> omega) | (constructor <;> simp <;> omega)))) (by decide) ?_
                  refine JO.v (Yv.assign rfl) (by decide) ?_
                  refine JO.nil ?_
                  refine JQ.head (k + 1, m', vw') (by repeat (first | exact trivial | refine ⟨by first | rfl | (simp; done), ?_⟩)) (Subs.sub (by repeat (first | exact Subs.nil _ | apply Subs.cons | exact List.Mem.head _ | refine List.Mem.tail _ ?_))) (Picks.perm (by repeat (first | exact Picks.nil _ | apply Picks.cons | exact Pull.here _ _ | apply Pull.there))) ?_
                  exact ⟨⟨by dsimp only; omega, hlm⟩, by dsimp only; omega⟩
        · try simp only [decide_eq_true_eq, decide_eq_false_iff_not, Bool.not_eq_true', Bool.not_eq_false', ne_eq, Decidable.not_not, Bool.not_eq_true, Bool.and_eq_true, Bool.or_eq_true, BitVec.reduceToNat] at hc3
          refine JC.exit ?_
          refine JQ.then_exit ?_
          refine JQ.then_exit ?_
          refine JQ.block_exit ?_
          refine JQ.then_normal ?_
          refine JC.seq ?_
          refine JC.region ?_
          refine JO.v (Yv.move rfl) (by decide) ?_
          refine JO.v (Yv.move rfl) (by decide) ?_
          refine JO.gt (g := 193) rfl rfl rfl ?_
          refine JO.v (Yv.move rfl) (by decide) ?_
          refine JO.gt (g := 193) rfl rfl rfl ?_
          refine JO.v (Yv.move rfl) (by decide) ?_
          refine JO.gt (g := 193) rfl rfl rfl ?_
          refine JO.v (Yv.as (v' := .bool true) (Yv.bin rfl rfl BinR.eql_i) rfl) (by decide) ?_
          refine JO.v (Yv.pick1 rfl rfl rfl) (by decide) ?_
          refine JO.v (Yv.assign rfl) (by decide) ?_
          refine JO.nil ?_
          refine JQ.then_normal ?_
          refine JC.ret ?_
          exact JQ.done (.inr rfl) (Γ' := []) (H' := []) (res1 rfl (RV.tmp rfl)) (Subs.sub (by repeat (first | exact Subs.nil _ | apply Subs.cons | exact List.Mem.head _ | refine List.Mem.tail _ ?_))) (Picks.perm (by repeat (first | exact Picks.nil _ | apply Picks.cons | exact Pull.here _ _ | apply Pull.there))) ⟨rfl, rfl, rfl⟩


theorem f6b_spec (u vo : Value) (l : List W64) (os : List OpD) (hn : newE l ≠ 0) :
    Spec Tryd.prog 6 #[u, vo] [Res.var 0 ((wd 9223372036854775808).map u64), Res.rd u l.length 1 (l.map u64), Res.rd vo os.length 5 (opCells os), Res.all (opRes os)] []
      (fun r Γ' H' => r = (.bool true) ∧ Γ' = [] ∧ H' = []) := by
  refine Spec.of_args Tryd.func6 rfl Tryd.ntmps6 (by simp) fun w => ?_
  refine JC.seq ?_
  refine JC.region ?_
  refine JO.v (Yv.assign rfl) (by decide) ?_
  refine JO.nil ?_
  refine JQ.then_normal ?_
  refine JC.seq ?_
  refine JC.region ?_
  refine JO.callB f8_spec body_8 rfl (by repeat (first | exact Picks.nil _ | apply Picks.cons | exact Pull.here _ _ | apply Pull.there)) (by repeat (first | exact Lends.nil _ | apply Lends.cons | exact Lend.same _ _ | exact Lend.row _ _ _ _ _ _ (by decide) | apply Lend.there)) (by rintro _ _ _ ⟨_, h, _⟩; exact h) (by decide) ?_
  rintro _ _ ⟨_, ⟨rfl, _, rfl⟩, hH⟩
  simp only [List.cons_append, List.nil_append] at hH; subst hH
  refine JO.v (Yv.assign rfl) (by decide) ?_
  refine JO.nil ?_
  refine JQ.then_normal ?_
  refine JC.seq ?_
  refine JC.seq ?_
  refine JC.region ?_
  refine JO.v (Yv.move rfl) (by decide) ?_
  first | refine JO.v (Yv.len_s Tryd.underlying22 rfl) (by decide) ?_ | refine JO.v (Yv.lenRd Tryd.underlying22 rfl (by repeat (first | exact Lend.same _ _ | exact Lend.row _ _ _ _ _ _ (by decide) | apply Lend.there))) (by decide) ?_
  refine JO.v (Yv.bin rfl rfl BinR.gtr_i) (by decide) ?_
  refine JO.v (Yv.move rfl) (by decide) ?_
  refine JO.join 4 28 (.bool (decide ((l.length : Int) > 45 ∨ (os.length : Int) > 40))) ?_ ?_
  · skip
    refine JO.gsplit (g := 23) rfl (fun hg8 => ?_) (fun hg8 => ?_)
    · have hg8' := hg8
      try simp only [decide_eq_true_eq, decide_eq_false_iff_not, Bool.not_eq_true', Bool.not_eq_false', ne_eq, Decidable.not_not, Bool.not_eq_true, Bool.and_eq_true, Bool.or_eq_true, BitVec.reduceToNat] at hg8'
      refine JO.gf (g := 24) rfl rfl hg8 (by decide) ?_
      refine JO.gf (g := 24) rfl rfl hg8 (by decide) ?_
      refine JO.gf (g := 24) rfl rfl hg8 (by decide) ?_
      refine JO.v (Yv.pick1 rfl hg8 rfl) (by decide) ?_
      refine JO.nil ?_
      refine JQ.head () (by first | (refine ⟨by first | rfl | (simp [*]; done) | (show some _ = some _; simp [*]; done), ?_⟩; repeat (first | exact trivial | refine ⟨rfl, ?_⟩))) (Subs.sub (by repeat (first | exact Subs.nil _ | apply Subs.cons | exact List.Mem.head _ | refine List.Mem.tail _ ?_))) (Picks.perm (by repeat (first | exact Picks.nil _ | apply Picks.cons | exact Pull.here _ _ | apply Pull.there))) ?_
      trivial
    · have hg8' := hg8
      try simp only [decide_eq_true_eq, decide_eq_false_iff_not, Bool.not_eq_true', Bool.not_eq_false', ne_eq, Decidable.not_not, Bool.not_eq_true, Bool.and_eq_true, Bool.or_eq_true, BitVec.reduceToNat] at hg8'
      refine JO.gt (g := 24) rfl rfl hg8 ?_
      refine JO.v (Yv.move rfl) (by decide) ?_
      refine JO.gt (g := 24) rfl rfl hg8 ?_
      first | refine JO.v (Yv.len_s Tryd.underlying38 rfl) (by decide) ?_ | refine JO.v (Yv.lenRd Tryd.underlying38 rfl (by repeat (first | exact Lend.same _ _ | exact Lend.row _ _ _ _ _ _ (by decide) | apply Lend.there))) (by decide) ?_
      refine JO.gt (g := 24) rfl rfl hg8 ?_
      refine JO.v (Yv.bin rfl rfl BinR.gtr_i) (by decide) ?_
      refine JO.v (Yv.pick0 rfl hg8 rfl) (by decide) ?_
      refine JO.nil ?_
      refine JQ.head () (by first | (refine ⟨by first | rfl | (simp [*]; done) | (show some _ = some _; simp [*]; done), ?_⟩; repeat (first | exact trivial | refine ⟨rfl, ?_⟩))) (Subs.sub (by repeat (first | exact Subs.nil _ | apply Subs.cons | exact List.Mem.head _ | refine List.Mem.tail _ ?_))) (Picks.perm (by repeat (first | exact Picks.nil _ | apply Picks.cons | exact Pull.here _ _ | apply Pull.there))) ?_
      trivial
  · skip
    refine JO.nil ?_
    refine JQ.then_normal ?_
    refine JC.cond rfl (fun hc1 => ?_) (fun hc1 => ?_)
    · try simp only [decide_eq_true_eq, decide_eq_false_iff_not, Bool.not_eq_true', Bool.not_eq_false', ne_eq, Decidable.not_not, Bool.not_eq_true, Bool.and_eq_true, Bool.or_eq_true, BitVec.reduceToNat] at hc1
      skip
      refine JC.seq ?_
      refine JC.region ?_
      refine JO.v (Yv.move rfl) (by decide) ?_
      refine JO.v (Yv.assign rfl) (by decide) ?_
      refine JO.nil ?_
      refine JQ.then_normal ?_
      refine JC.ret ?_
      refine JQ.then_ret ?_
      exact JQ.done (.inr rfl) (Γ' := []) (H' := []) (res1 rfl (RV.tmp rfl)) (Subs.sub (by repeat (first | exact Subs.nil _ | apply Subs.cons | exact List.Mem.head _ | refine List.Mem.tail _ ?_))) (Picks.perm (by repeat (first | exact Picks.nil _ | apply Picks.cons | exact Pull.here _ _ | apply Pull.there))) ⟨rfl, rfl, rfl⟩
    · try simp only [decide_eq_true_eq, decide_eq_false_iff_not, Bool.not_eq_true', Bool.not_eq_false', ne_eq, Decidable.not_not, Bool.not_eq_true, Bool.and_eq_true, Bool.or_eq_true, BitVec.reduceToNat] at hc1
      skip
      refine JC.skip ?_
      refine JQ.then_normal ?_
      refine JC.seq ?_
      refine JC.region ?_
      refine JO.v (Yv.move rfl) (by decide) ?_
      refine JO.callB (f9b_spec u l hn) body_9 rfl (by repeat (first | exact Picks.nil _ | apply Picks.cons | exact Pull.here _ _ | apply Pull.there)) (by repeat (first | exact Lends.nil _ | apply Lends.cons | exact Lend.same _ _ | exact Lend.row _ _ _ _ _ _ (by decide) | apply Lend.there)) (by rintro _ _ _ ⟨_, h, _⟩; exact h) (by decide) ?_
      rintro _ _ ⟨_, ⟨rfl, _, rfl⟩, hH⟩
      simp only [List.cons_append, List.nil_append] at hH; subst hH
      refine JO.v (Yv.move rfl) (by decide) ?_
      refine JO.v (Yv.as (v' := .pointer none) (Yv.extract rfl rfl) rfl) (by decide) ?_
      refine JO.v (Yv.as (v' := it (newE l)) (Yv.extract rfl rfl) rfl) (by decide) ?_
      refine JO.v (Yv.assign rfl) (by decide) ?_
      refine JO.v (Yv.assign rfl) (by decide) ?_
      refine JO.nil ?_
      refine JQ.then_normal ?_
      refine JC.seq ?_
      refine JC.region ?_
      refine JO.v (Yv.move rfl) (by decide) ?_
      refine JO.callB (f17_spec u l) body_17 rfl (by repeat (first | exact Picks.nil _ | apply Picks.cons | exact Pull.here _ _ | apply Pull.there)) (by repeat (first | exact Lends.nil _ | apply Lends.cons | exact Lend.same _ _ | exact Lend.row _ _ _ _ _ _ (by decide) | apply Lend.there)) (by rintro _ _ _ ⟨_, h, _⟩; exact h) (by decide) ?_
      rintro _ _ ⟨_, ⟨rfl, _, rfl⟩, hH⟩
      simp only [List.cons_append, List.nil_append] at hH; subst hH
      refine JO.v (Yv.assign rfl) (by decide) ?_
      refine JO.nil ?_
      refine JQ.then_normal ?_
      refine JC.seq ?_
      refine JC.seq ?_
      refine JC.region ?_
      refine JO.v (Yv.move rfl) (by decide) ?_
      refine JO.v (Yv.as (v' := .bool true) (Yv.bin rfl rfl (BinR.eql_p Tryd.underlying25)) rfl) (by decide) ?_
      refine JO.nil ?_
      refine JQ.then_normal ?_
      refine JC.cond rfl (fun hc2 => ?_) (fun hc2 => ?_)
      · try simp only [decide_eq_true_eq, decide_eq_false_iff_not, Bool.not_eq_true', Bool.not_eq_false', ne_eq, Decidable.not_not, Bool.not_eq_true, Bool.and_eq_true, Bool.or_eq_true, BitVec.reduceToNat] at hc2
        skip
        refine JC.seq ?_
        refine JC.region ?_
        refine JO.v (Yv.move rfl) (by decide) ?_
        refine JO.v (Yv.move rfl) (by decide) ?_
        refine JO.gt (g := 40) rfl rfl rfl ?_
        refine JO.v (Yv.move rfl) (by decide) ?_
        refine JO.gt (g := 40) rfl rfl rfl ?_
        refine JO.v (Yv.move rfl) (by decide) ?_
        refine JO.gt (g := 40) rfl rfl rfl ?_
        refine JO.v (Yv.as (v' := .bool true) (Yv.bin rfl rfl BinR.eql_i) (congrArg Value.bool (decide_eq_true rfl))) (by decide) ?_
        refine JO.v (Yv.pick1 rfl rfl rfl) (by decide) ?_
        refine JO.v (Yv.move rfl) (by decide) ?_
        refine JO.gt (g := 45) rfl rfl rfl ?_
        refine JO.v (Yv.move rfl) (by decide) ?_
        refine JO.gt (g := 45) rfl rfl rfl ?_
        refine JO.v (Yv.as (v' := .bool true) (Yv.bin rfl rfl BinR.neq_i) (congrArg Value.bool (by simpa using hn))) (by decide) ?_
        refine JO.v (Yv.pick1 rfl rfl rfl) (by decide) ?_
        refine JO.v (Yv.assign rfl) (by decide) ?_
        refine JO.nil ?_
        refine JQ.then_normal ?_
        refine JC.ret ?_
        refine JQ.then_ret ?_
        exact JQ.done (.inr rfl) (Γ' := []) (H' := []) (res1 rfl (RV.tmp rfl)) (Subs.sub (by repeat (first | exact Subs.nil _ | apply Subs.cons | exact List.Mem.head _ | refine List.Mem.tail _ ?_))) (Picks.perm (by repeat (first | exact Picks.nil _ | apply Picks.cons | exact Pull.here _ _ | apply Pull.there))) ⟨rfl, rfl, rfl⟩
      · try simp only [decide_eq_true_eq, decide_eq_false_iff_not, Bool.not_eq_true', Bool.not_eq_false', ne_eq, Decidable.not_not, Bool.not_eq_true, Bool.and_eq_true, Bool.or_eq_true, BitVec.reduceToNat] at hc2
        exact absurd hc2 (by decide)

theorem f6_spec (u vo : Value) (l : List W64) (os : List OpD) : Spec Tryd.prog 6 #[u, vo] [Res.var 0 ((wd 9223372036854775808).map u64), Res.rd u l.length 1 (l.map u64), Res.rd vo os.length 5 (opCells os), Res.all (opRes os)] [] (fun r Γ' H' => r = (.bool true) ∧ Γ' = [] ∧ H' = []) := by
  by_cases h : newE l = 0
  · exact f6a_spec u vo l os h
  · exact f6b_spec u vo l os h
end Go.Proofs.YtjjcciefjcfdmaaDoor
