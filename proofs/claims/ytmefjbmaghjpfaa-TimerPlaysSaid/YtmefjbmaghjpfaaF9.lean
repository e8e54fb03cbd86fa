/- Walk: TimerPlays. -/
import Derived.Test.YtmefjbmaghjpfaaF6
namespace Go.Proofs.Ytmefjbmaghjpfaa
open Go.RowKit
set_option maxRecDepth 100000
set_option linter.unusedVariables false
set_option linter.unusedSimpArgs false
set_option maxHeartbeats 2000000 in
theorem f4_spec (u : Value) (ops : List OpD) :
    Spec Try.prog 4 #[u] [Res.rd u ops.length 3 (opC ops)] []
      (fun r Γ' H' => r = (.bool true) ∧ Γ' = [] ∧ H' = []) := by
  refine Spec.of_args Try.func4 rfl Try.ntmps4 (by simp) fun w => ?_
  refine JC.know (φ := ops.length ≤ 9223372036854775807) (fun w hs => by obtain ⟨_, _, _, _, _, _, h⟩ := hs.rdForm (.head _); unfold maxLen at h; omega) fun hll => ?_
  refine JC.seq ?_
  refine JC.region ?_
  refine JO.v (Yv.assign rfl) (by decide) ?_
  refine JO.nil ?_
  refine JQ.then_normal ?_
  refine JC.seq ?_
  refine JC.region ?_
  refine JO.callB f6_spec body_6 rfl (by repeat (first | exact Picks.nil _ | apply Picks.cons | exact Pull.here _ _ | apply Pull.there)) (by repeat (first | exact Lends.nil _ | apply Lends.cons | exact Lend.same _ _ | exact Lend.row _ _ _ _ _ _ (by decide) | apply Lend.there)) (by rintro _ _ _ ⟨_, h, _⟩; exact h) (by decide) ?_
  rintro _ _ ⟨_, ⟨rfl, _, rfl⟩, hH⟩
  simp only [List.cons_append, List.nil_append] at hH; subst hH
  refine JO.v (Yv.assign rfl) (by decide) ?_
  refine JO.nil ?_
  refine JQ.then_normal ?_
  refine JC.seq ?_
  refine JC.region ?_
  refine JO.v (Yv.as (v' := .agg [.slice none 0 0, u64 (BitVec.ofNat 64 0)].toArray) (Yv.build bld_28 rfl rfl) rfl) (by decide) ?_
  refine JO.nilRow 59 3 ?_
  refine JO.box rfl _ rfl (by decide) fun b19 => ?_
  refine JO.v (Yv.assign rfl) (by decide) ?_
  refine JO.nil ?_
  refine JQ.then_normal ?_
  refine JC.seq ?_
  refine JC.region ?_
  refine JO.v (Yv.as (v' := .agg [.slice none 0 0].toArray) (Yv.build bld_41 rfl rfl) rfl) (by decide) ?_
  refine JO.nilRow 46 2 ?_
  refine JO.freeze (v := .slice none 0 0) (e := 46) (xs := []) (by repeat (first | exact Pull.here _ _ | apply Pull.there)) (by decide) ?_
  refine JO.box rfl _ rfl (by decide) fun b21 => ?_
  refine JO.v (Yv.assign rfl) (by decide) ?_
  refine JO.nil ?_
  refine JQ.then_normal ?_
  refine JC.seq ?_
  refine JC.seq ?_
  refine JC.region ?_
  refine JO.v (Yv.move rfl) (by decide) ?_
  first | refine JO.v (Yv.len_s Try.underlying37 rfl) (by decide) ?_ | refine JO.v (Yv.lenRd Try.underlying37 rfl (by repeat (first | exact Lend.same _ _ | exact Lend.row _ _ _ _ _ _ (by decide) | apply Lend.there))) (by decide) ?_
  refine JO.v (Yv.bin rfl rfl BinR.gtr_i) (by decide) ?_
  refine JO.nil ?_
  refine JQ.then_normal ?_
  refine JC.cond rfl (fun hc1 => ?_) (fun hc1 => ?_)
  · try simp only [decide_eq_true_eq, decide_eq_false_iff_not, Bool.not_eq_true', Bool.not_eq_false', ne_eq, Decidable.not_not, Bool.not_eq_true, Bool.and_eq_true, Bool.or_eq_true, BitVec.reduceToNat] at hc1
    skip
    refine JC.seq ?_
    refine JC.region ?_
    refine JO.v (Yv.move rfl) (by decide) ?_
    refine JO.v (Yv.assign rfl) (by decide) ?_
    refine JO.nil ?_
    refine JQ.then_normal ?_
    refine JC.ret ?_
    refine JQ.then_ret ?_
    exact JQ.done (.inr rfl) (Γ' := []) (H' := []) (res1 rfl (RV.tmp rfl)) (Subs.sub (by repeat (first | exact Subs.nil _ | apply Subs.cons | exact List.Mem.head _ | refine List.Mem.tail _ ?_))) (Picks.perm (by repeat (first | exact Picks.nil _ | apply Picks.cons | exact Pull.here _ _ | apply Pull.there))) ⟨rfl, rfl, rfl⟩
  · try simp only [decide_eq_true_eq, decide_eq_false_iff_not, Bool.not_eq_true', Bool.not_eq_false', ne_eq, Decidable.not_not, Bool.not_eq_true, Bool.and_eq_true, Bool.or_eq_true, BitVec.reduceToNat] at hc1
    have hl200 : ops.length ≤ 200 := by omega
    refine JC.skip ?_
    refine JQ.then_normal ?_
    refine JC.seq ?_
    refine JC.seq ?_
    refine JC.region ?_
    refine JO.v (Yv.assign rfl) (by decide) ?_
    refine JO.nil ?_
    refine JQ.then_normal ?_
    refine JC.block ?_
    refine JC.loop (ι := Nat × Value × Value × List En × Nat × List It) (fun x => x.1 ≤ ops.length ∧ QR x.2.2.2.1 x.2.2.2.2.1 x.2.2.2.2.2 ∧ x.2.2.2.2.2.length ≤ 100 ∧ x.2.2.2.2.1 ≤ x.1) (fun x => [(0, u), (3, .bool true), (4, ptr b19 0), (5, ptr b21 0), (6, it (x.1 : Int))]) (fun x => [Res.rd u ops.length 3 (opC ops), Res.rd x.2.2.1 (x.2.2.2.2.2).length 2 (itC (x.2.2.2.2.2))]) (fun x => [Res.cells b19 [x.2.1, (u64 (BitVec.ofNat 64 x.2.2.2.2.1))] 28, Res.row x.2.1 x.2.2.2.1.length 59 3 (enC x.2.2.2.1), Res.cells b21 [x.2.2.1] 41]) (fun x => ops.length - x.1) (0, .slice none 0 0, .slice none 0 0, [], 0, []) (by repeat (first | exact trivial | refine ⟨by first | rfl | (simp; done), ?_⟩)) (Subs.sub (by repeat (first | exact Subs.nil _ | apply Subs.cons | exact List.Mem.head _ | refine List.Mem.tail _ ?_))) (Picks.perm (by repeat (first | exact Picks.nil _ | apply Picks.cons | exact Pull.here _ _ | apply Pull.there))) ?_ (fun x hx => ?_)
    · exact ⟨Nat.zero_le _, QR.nil, by decide, Nat.le_refl _⟩
    obtain ⟨i, v, vr, hs, o, L⟩ := x
    obtain ⟨hi, hQ, hl, ho⟩ := hx
    dsimp only at hi hQ hl ho ⊢
    refine JC.seq ?_
    refine JC.seq ?_
    refine JC.region ?_
    refine JO.v (Yv.move rfl) (by decide) ?_
    refine JO.v (Yv.move rfl) (by decide) ?_
    first | refine JO.v (Yv.len_s Try.underlying37 rfl) (by decide) ?_ | refine JO.v (Yv.lenRd Try.underlying37 rfl (by repeat (first | exact Lend.same _ _ | exact Lend.row _ _ _ _ _ _ (by decide) | apply Lend.there))) (by decide) ?_
    refine JO.v (Yv.bin rfl rfl BinR.lss_i) (by decide) ?_
    refine JO.nil ?_
    refine JQ.then_normal ?_
    refine JC.cond rfl (fun hc2 => ?_) (fun hc2 => ?_)
    · try simp only [decide_eq_true_eq, decide_eq_false_iff_not, Bool.not_eq_true', Bool.not_eq_false', ne_eq, Decidable.not_not, Bool.not_eq_true, Bool.and_eq_true, Bool.or_eq_true, BitVec.reduceToNat] at hc2
      have hil : i < ops.length := by omega
      refine JC.skip ?_
      refine JQ.then_normal ?_
      refine JC.seq ?_
      refine JC.block ?_
      refine JC.seq ?_
      refine JC.region ?_
      refine JO.v (Yv.move rfl) (by decide) ?_
      refine JO.v (Yv.move rfl) (by decide) ?_
      first | refine JO.v (Yv.indexRow Try.underlying37 sz_43 rfl rfl (by repeat (first | exact List.Mem.head _ | refine List.Mem.tail _ ?_)) (by first | exact ltb rfl | (simp; done) | (simp; omega) | omega | (simp [*]; omega))) (by decide) ?_ | refine JO.v (Yv.indexRd Try.underlying37 sz_43 rfl rfl (by repeat (first | exact Lend.same _ _ | exact Lend.row _ _ _ _ _ _ (by decide) | apply Lend.there)) (by decide) (by first | exact ltb rfl | (simp; done) | (simp; omega) | omega | (simp [*]; omega))) (by decide) ?_
      first | refine JO.v (Yv.as (v' := .agg (ops.getD i opD0).cells.toArray) (Yv.loadOwn agg_43 (by repeat (first | exact List.Mem.head _ | refine List.Mem.tail _ ?_)) rfl (by first | rfl | (simp; done) | (simp; omega) | (simp [*]; done))) (congrArg (fun l : List Value => Value.agg l.toArray) (op_piece hil))) (by decide) ?_ | refine JO.v (Yv.as (v' := .agg (ops.getD i opD0).cells.toArray) (Yv.loadOwnAt agg_43 (by repeat (first | exact List.Mem.head _ | refine List.Mem.tail _ ?_)) rfl (by first | rfl | (simp; done) | (simp; omega) | (simp [*]; done))) (congrArg (fun l : List Value => Value.agg l.toArray) (op_piece hil))) (by decide) ?_ | refine JO.v (Yv.as (v' := .agg (ops.getD i opD0).cells.toArray) (Yv.loadRow agg_43 (by repeat (first | exact List.Mem.head _ | refine List.Mem.tail _ ?_)) rfl (by first | rfl | (simp; done) | (simp; omega) | (simp [*]; done))) (congrArg (fun l : List Value => Value.agg l.toArray) (op_piece hil))) (by decide) ?_ | refine JO.v (Yv.as (v' := .agg (ops.getD i opD0).cells.toArray) (Yv.loadRd agg_43 (by repeat (first | exact Lend.same _ _ | exact Lend.row _ _ _ _ _ _ (by decide) | apply Lend.there)) rfl (by first | rfl | (simp; done) | (simp; omega) | (simp [*]; done))) (congrArg (fun l : List Value => Value.agg l.toArray) (op_piece hil))) (by decide) ?_ | refine JO.v (Yv.as (v' := .agg (ops.getD i opD0).cells.toArray) (Yv.loadRo agg_43 (by repeat (first | exact List.Mem.head _ | refine List.Mem.tail _ ?_)) rfl (by first | rfl | (simp; done) | (simp; omega) | (simp [*]; done))) (congrArg (fun l : List Value => Value.agg l.toArray) (op_piece hil))) (by decide) ?_
      refine JO.alloc _ zero_43 rfl (by decide) fun b7 => ?_
      refine JO.storeAll sz_43 rfl rfl rfl rfl (op_one _) (by repeat (first | exact Upd.here _ _ _ | apply Upd.there)) rfl ?_
      refine JO.nil ?_
      refine JQ.then_normal ?_
      refine JC.seq ?_
      refine JC.region ?_
      refine JO.frz (r := Res.cells b7 (ops.getD i opD0).cells 43) (by repeat (first | exact Pull.here _ _ | apply Pull.there)) ?_
      refine JO.v (Yv.assign rfl) (by decide) ?_
      refine JO.nil ?_
      refine JQ.then_normal ?_
      refine JC.seq ?_
      refine JC.region ?_
      refine JO.v (Yv.assign rfl) (by decide) ?_
      refine JO.nil ?_
      refine JQ.then_normal ?_
      refine JC.seq ?_
      refine JC.region ?_
      refine JO.v (Yv.assign rfl) (by decide) ?_
      refine JO.nil ?_
      refine JQ.then_normal ?_
      refine JC.cut (ι := Value × Value × List En × Nat × List It × Int) (fun x => QR x.2.2.1 x.2.2.2.1 x.2.2.2.2.1 ∧ x.2.2.2.2.1.length ≤ 100 ∧ x.2.2.2.1 ≤ i + 1) (fun x => [(0, u), (3, .bool true), (4, ptr b19 0), (5, ptr b21 0), (6, it (i : Int)), (8, it x.2.2.2.2.2), (9, it x.2.2.2.2.2), (10, .bool true)]) (fun x => [Res.rd u ops.length 3 (opC ops), Res.rd x.2.1 (x.2.2.2.2.1).length 2 (itC (x.2.2.2.2.1))]) (fun x => [Res.cells b19 [x.1, (u64 (BitVec.ofNat 64 x.2.2.2.1))] 28, Res.row x.1 x.2.2.1.length 59 3 (enC x.2.2.1), Res.cells b21 [x.2.1] 41]) ?_ (fun x hx => ?_)
      · skip
        refine JC.seq ?_
        refine JC.region ?_
        refine JO.v (Yv.fieldAddr fa_43_0 rfl) (by decide) ?_
        refine JO.v (Yv.load1 one_3 rfl (by first | exact Kn.own (by repeat (first | exact List.Mem.head _ | refine List.Mem.tail _ ?_)) (by first  | rfl | exact tab_get (by first | omega | (simp; omega)) | exact gm (d := 0) (by first | omega | (simp; omega))) | exact Kn.ro (by repeat (first | exact List.Mem.head _ | refine List.Mem.tail _ ?_)) (by first  | rfl | exact tab_get (by first | omega | (simp; omega)) | exact gm (d := 0) (by first | omega | (simp; omega))) | exact Kn.row (by repeat (first | exact List.Mem.head _ | refine List.Mem.tail _ ?_)) (by first  | rfl | exact tab_get (by first | omega | (simp; omega)) | exact gm (d := 0) (by first | omega | (simp; omega))) | exact Kn.rd (by repeat (first | exact Lend.same _ _ | exact Lend.row _ _ _ _ _ _ (by decide) | apply Lend.there)) (by first  | rfl | exact tab_get (by first | omega | (simp; omega)) | exact gm (d := 0) (by first | omega | (simp; omega))) | exact Kn.rd2 (by repeat (first | exact Lend.same _ _ | exact Lend.row _ _ _ _ _ _ (by decide) | apply Lend.there)) (by first  | rfl | exact tab_get (by first | omega | (simp; omega)) | exact gm (d := 0) (by first | omega | (simp; omega))))) (by decide) ?_
        refine JO.nil ?_
        refine JQ.then_normal ?_
        refine JC.block ?_
        refine JC.seq ?_
        refine JC.region ?_
        refine JO.v (Yv.bin rfl rfl BinR.eql_i) (by decide) ?_
        refine JO.v (Yv.assign rfl) (by decide) ?_
        refine JO.nil ?_
        refine JQ.then_normal ?_
        refine JC.cond rfl (fun hc3 => ?_) (fun hc3 => ?_)
        · try simp only [decide_eq_true_eq, decide_eq_false_iff_not, Bool.not_eq_true', Bool.not_eq_false', ne_eq, Decidable.not_not, Bool.not_eq_true, Bool.and_eq_true, Bool.or_eq_true, BitVec.reduceToNat] at hc3
          skip
          refine JC.seq ?_
          refine JC.region ?_
          refine JO.v (Yv.move rfl) (by decide) ?_
          refine JO.v (Yv.fieldAddr fa_43_2 rfl) (by decide) ?_
          refine JO.v (Yv.load1 one_23 rfl (by first | exact Kn.own (by repeat (first | exact List.Mem.head _ | refine List.Mem.tail _ ?_)) (by first  | rfl | exact tab_get (by first | omega | (simp; omega)) | exact gm (d := 0) (by first | omega | (simp; omega))) | exact Kn.ro (by repeat (first | exact List.Mem.head _ | refine List.Mem.tail _ ?_)) (by first  | rfl | exact tab_get (by first | omega | (simp; omega)) | exact gm (d := 0) (by first | omega | (simp; omega))) | exact Kn.row (by repeat (first | exact List.Mem.head _ | refine List.Mem.tail _ ?_)) (by first  | rfl | exact tab_get (by first | omega | (simp; omega)) | exact gm (d := 0) (by first | omega | (simp; omega))) | exact Kn.rd (by repeat (first | exact Lend.same _ _ | exact Lend.row _ _ _ _ _ _ (by decide) | apply Lend.there)) (by first  | rfl | exact tab_get (by first | omega | (simp; omega)) | exact gm (d := 0) (by first | omega | (simp; omega))) | exact Kn.rd2 (by repeat (first | exact Lend.same _ _ | exact Lend.row _ _ _ _ _ _ (by decide) | apply Lend.there)) (by first  | rfl | exact tab_get (by first | omega | (simp; omega)) | exact gm (d := 0) (by first | omega | (simp; omega))))) (by decide) ?_
          refine JO.v (Yv.fieldAddr fa_43_1 rfl) (by decide) ?_
          refine JO.v (Yv.load1 one_3 rfl (by first | exact Kn.own (by repeat (first | exact List.Mem.head _ | refine List.Mem.tail _ ?_)) (by first  | rfl | exact tab_get (by first | omega | (simp; omega)) | exact gm (d := 0) (by first | omega | (simp; omega))) | exact Kn.ro (by repeat (first | exact List.Mem.head _ | refine List.Mem.tail _ ?_)) (by first  | rfl | exact tab_get (by first | omega | (simp; omega)) | exact gm (d := 0) (by first | omega | (simp; omega))) | exact Kn.row (by repeat (first | exact List.Mem.head _ | refine List.Mem.tail _ ?_)) (by first  | rfl | exact tab_get (by first | omega | (simp; omega)) | exact gm (d := 0) (by first | omega | (simp; omega))) | exact Kn.rd (by repeat (first | exact Lend.same _ _ | exact Lend.row _ _ _ _ _ _ (by decide) | apply Lend.there)) (by first  | rfl | exact tab_get (by first | omega | (simp; omega)) | exact gm (d := 0) (by first | omega | (simp; omega))) | exact Kn.rd2 (by repeat (first | exact Lend.same _ _ | exact Lend.row _ _ _ _ _ _ (by decide) | apply Lend.there)) (by first  | rfl | exact tab_get (by first | omega | (simp; omega)) | exact gm (d := 0) (by first | omega | (simp; omega))))) (by decide) ?_
          refine JO.callB (f7_spec b19 v hs o L hQ (by omega) (by omega) (ops.getD i opD0).due (ops.getD i opD0).id) body_7 rfl (by repeat (first | exact Picks.nil _ | apply Picks.cons | exact Pull.here _ _ | apply Pull.there)) (by repeat (first | exact Lends.nil _ | apply Lends.cons | exact Lend.same _ _ | exact Lend.row _ _ _ _ _ _ (by decide) | apply Lend.there)) (by rintro _ _ _ ⟨_, _, _, _, h, _⟩; exact h) (by decide) ?_
          rintro _ _ ⟨_, ⟨v2, hs2, rfl, hQ2, _, rfl⟩, hH⟩
          simp only [List.cons_append, List.nil_append] at hH; subst hH
          refine JO.v (Yv.assign rfl) (by decide) ?_
          refine JO.nil ?_
          refine JQ.then_normal ?_
          refine JC.region ?_
          refine JO.v (Yv.move rfl) (by decide) ?_
          refine JO.v (Yv.fieldAddr fa_43_2 rfl) (by decide) ?_
          refine JO.v (Yv.load1 one_23 rfl (by first | exact Kn.own (by repeat (first | exact List.Mem.head _ | refine List.Mem.tail _ ?_)) (by first  | rfl | exact tab_get (by first | omega | (simp; omega)) | exact gm (d := 0) (by first | omega | (simp; omega))) | exact Kn.ro (by repeat (first | exact List.Mem.head _ | refine List.Mem.tail _ ?_)) (by first  | rfl | exact tab_get (by first | omega | (simp; omega)) | exact gm (d := 0) (by first | omega | (simp; omega))) | exact Kn.row (by repeat (first | exact List.Mem.head _ | refine List.Mem.tail _ ?_)) (by first  | rfl | exact tab_get (by first | omega | (simp; omega)) | exact gm (d := 0) (by first | omega | (simp; omega))) | exact Kn.rd (by repeat (first | exact Lend.same _ _ | exact Lend.row _ _ _ _ _ _ (by decide) | apply Lend.there)) (by first  | rfl | exact tab_get (by first | omega | (simp; omega)) | exact gm (d := 0) (by first | omega | (simp; omega))) | exact Kn.rd2 (by repeat (first | exact Lend.same _ _ | exact Lend.row _ _ _ _ _ _ (by decide) | apply Lend.there)) (by first  | rfl | exact tab_get (by first | omega | (simp; omega)) | exact gm (d := 0) (by first | omega | (simp; omega))))) (by decide) ?_
          refine JO.v (Yv.fieldAddr fa_43_1 rfl) (by decide) ?_
          refine JO.v (Yv.load1 one_3 rfl (by first | exact Kn.own (by repeat (first | exact List.Mem.head _ | refine List.Mem.tail _ ?_)) (by first  | rfl | exact tab_get (by first | omega | (simp; omega)) | exact gm (d := 0) (by first | omega | (simp; omega))) | exact Kn.ro (by repeat (first | exact List.Mem.head _ | refine List.Mem.tail _ ?_)) (by first  | rfl | exact tab_get (by first | omega | (simp; omega)) | exact gm (d := 0) (by first | omega | (simp; omega))) | exact Kn.row (by repeat (first | exact List.Mem.head _ | refine List.Mem.tail _ ?_)) (by first  | rfl | exact tab_get (by first | omega | (simp; omega)) | exact gm (d := 0) (by first | omega | (simp; omega))) | exact Kn.rd (by repeat (first | exact Lend.same _ _ | exact Lend.row _ _ _ _ _ _ (by decide) | apply Lend.there)) (by first  | rfl | exact tab_get (by first | omega | (simp; omega)) | exact gm (d := 0) (by first | omega | (simp; omega))) | exact Kn.rd2 (by repeat (first | exact Lend.same _ _ | exact Lend.row _ _ _ _ _ _ (by decide) | apply Lend.there)) (by first  | rfl | exact tab_get (by first | omega | (simp; omega)) | exact gm (d := 0) (by first | omega | (simp; omega))))) (by decide) ?_
          refine JO.call (f10_spec b21 vr L (by omega) (ops.getD i opD0).due (ops.getD i opD0).id) body_10 rfl (by repeat (first | exact Picks.nil _ | apply Picks.cons | exact Pull.here _ _ | apply Pull.there)) (by repeat (first | exact Subs.nil _ | apply Subs.cons | exact List.Mem.head _ | refine List.Mem.tail _ ?_)) (by decide) ?_
          rintro _ _ _ ⟨_, _, ⟨vr2, rfl, rfl, rfl⟩, hΓ, hH⟩
          simp only [List.cons_append, List.nil_append] at hΓ hH; subst hΓ hH
          refine JO.v (Yv.assign rfl) (by decide) ?_
          refine JO.nil ?_
          refine JQ.block_normal ?_
          refine JQ.head (v2, vr2, hs2, addO o L, addL ⟨(ops.getD i opD0).due, (ops.getD i opD0).id⟩ L, addE L) (by repeat (first | exact trivial | refine ⟨by first | rfl | (simp; done), ?_⟩)) (Subs.sub (by repeat (first | exact Subs.nil _ | apply Subs.cons | exact List.Mem.head _ | refine List.Mem.tail _ ?_))) (Picks.perm (by repeat (first | exact Picks.nil _ | apply Picks.cons | exact Pull.here _ _ | apply Pull.there))) ?_
          first | exact ⟨hQ2, addL_cap _ hl, addO_le _ ho⟩ | exact ⟨hQ2, by dsimp only; simp; omega, by dsimp only; omega⟩ | exact ⟨hQ2, by dsimp only; have := tw_dw_len (dueP (ops.getD i opD0).due) L; omega, by dsimp only; omega⟩ | exact ⟨hQ2, by dsimp only; have := List.length_filter_le (keepP (ops.getD i opD0).id) L; omega, by dsimp only; omega⟩ | exact ⟨hQ, hl, by dsimp only; omega⟩
        · try simp only [decide_eq_true_eq, decide_eq_false_iff_not, Bool.not_eq_true', Bool.not_eq_false', ne_eq, Decidable.not_not, Bool.not_eq_true, Bool.and_eq_true, Bool.or_eq_true, BitVec.reduceToNat] at hc3
          skip
          refine JC.seq ?_
          refine JC.region ?_
          refine JO.v (Yv.bin rfl rfl BinR.eql_i) (by decide) ?_
          refine JO.v (Yv.assign rfl) (by decide) ?_
          refine JO.nil ?_
          refine JQ.then_normal ?_
          refine JC.cond rfl (fun hc4 => ?_) (fun hc4 => ?_)
          · try simp only [decide_eq_true_eq, decide_eq_false_iff_not, Bool.not_eq_true', Bool.not_eq_false', ne_eq, Decidable.not_not, Bool.not_eq_true, Bool.and_eq_true, Bool.or_eq_true, BitVec.reduceToNat] at hc4
            skip
            refine JC.seq ?_
            refine JC.region ?_
            refine JO.v (Yv.move rfl) (by decide) ?_
            refine JO.callB (f11_spec b19 v (u64 (BitVec.ofNat 64 o)) hs o L hQ (by omega)) body_11 rfl (by repeat (first | exact Picks.nil _ | apply Picks.cons | exact Pull.here _ _ | apply Pull.there)) (by repeat (first | exact Lends.nil _ | apply Lends.cons | exact Lend.same _ _ | exact Lend.row _ _ _ _ _ _ (by decide) | apply Lend.there)) (by rintro _ _ _ ⟨_, _, _, _, h, _⟩; exact h) (by decide) ?_
            rintro _ _ ⟨_, ⟨v2, hs2, rfl, hQ2, _, rfl⟩, hH⟩
            simp only [List.cons_append, List.nil_append] at hH; subst hH
            refine JO.v (Yv.move rfl) (by decide) ?_
            refine JO.v (Yv.as (v' := .agg (L.getD 0 itD).cells.toArray) (Yv.extract rfl rfl) rfl) (by decide) ?_
            refine JO.v (Yv.as (v' := it (nxE L)) (Yv.extract rfl rfl) rfl) (by decide) ?_
            refine JO.alloc _ zero_35 rfl (by decide) fun b11 => ?_
            refine JO.storeAll sz_35 rfl rfl rfl rfl (it_one1 _) (by repeat (first | exact Upd.here _ _ _ | apply Upd.there)) rfl ?_
            refine JO.v (Yv.assign rfl) (by decide) ?_
            refine JO.nil ?_
            refine JQ.then_normal ?_
            refine JC.seq ?_
            refine JC.region ?_
            refine JO.v (Yv.move rfl) (by decide) ?_
            refine JO.call (f12_spec b21 vr L (by omega)) body_12 rfl (by repeat (first | exact Picks.nil _ | apply Picks.cons | exact Pull.here _ _ | apply Pull.there)) (by repeat (first | exact Subs.nil _ | apply Subs.cons | exact List.Mem.head _ | refine List.Mem.tail _ ?_)) (by decide) ?_
            rintro _ _ _ ⟨_, _, ⟨vr2, rfl, rfl, rfl⟩, hΓ, hH⟩
            simp only [List.cons_append, List.nil_append] at hΓ hH; subst hΓ hH
            refine JO.v (Yv.move rfl) (by decide) ?_
            refine JO.v (Yv.as (v' := .agg (L.getD 0 itD).cells.toArray) (Yv.extract rfl rfl) rfl) (by decide) ?_
            refine JO.v (Yv.as (v' := it (nxE L)) (Yv.extract rfl rfl) rfl) (by decide) ?_
            refine JO.alloc _ zero_46 rfl (by decide) fun b13 => ?_
            refine JO.storeAll sz_46 rfl rfl rfl rfl (it_one1 _) (by repeat (first | exact Upd.here _ _ _ | apply Upd.there)) rfl ?_
            refine JO.v (Yv.assign rfl) (by decide) ?_
            refine JO.nil ?_
            refine JQ.then_normal ?_
            refine JC.seq ?_
            refine JC.region ?_
            refine JO.v (Yv.move rfl) (by decide) ?_
            refine JO.v (Yv.assign rfl) (by decide) ?_
            refine JO.nil ?_
            refine JQ.then_normal ?_
            refine JC.seq ?_
            refine JC.region ?_
            refine JO.v (Yv.move rfl) (by decide) ?_
            refine JO.v (Yv.assign rfl) (by decide) ?_
            refine JO.nil ?_
            refine JQ.then_normal ?_
            refine JC.region ?_
            refine JO.v (Yv.fieldAddr fa_35_0 rfl) (by decide) ?_
            refine JO.v (Yv.load1 one_23 rfl (by first | exact Kn.own (by repeat (first | exact List.Mem.head _ | refine List.Mem.tail _ ?_)) (by first  | rfl | exact tab_get (by first | omega | (simp; omega)) | exact gm (d := 0) (by first | omega | (simp; omega))) | exact Kn.ro (by repeat (first | exact List.Mem.head _ | refine List.Mem.tail _ ?_)) (by first  | rfl | exact tab_get (by first | omega | (simp; omega)) | exact gm (d := 0) (by first | omega | (simp; omega))) | exact Kn.row (by repeat (first | exact List.Mem.head _ | refine List.Mem.tail _ ?_)) (by first  | rfl | exact tab_get (by first | omega | (simp; omega)) | exact gm (d := 0) (by first | omega | (simp; omega))) | exact Kn.rd (by repeat (first | exact Lend.same _ _ | exact Lend.row _ _ _ _ _ _ (by decide) | apply Lend.there)) (by first  | rfl | exact tab_get (by first | omega | (simp; omega)) | exact gm (d := 0) (by first | omega | (simp; omega))) | exact Kn.rd2 (by repeat (first | exact Lend.same _ _ | exact Lend.row _ _ _ _ _ _ (by decide) | apply Lend.there)) (by first  | rfl | exact tab_get (by first | omega | (simp; omega)) | exact gm (d := 0) (by first | omega | (simp; omega))))) (by decide) ?_
            refine JO.v (Yv.fieldAddr fa_46_0 rfl) (by decide) ?_
            refine JO.v (Yv.load1 one_23 rfl (by first | exact Kn.own (by repeat (first | exact List.Mem.head _ | refine List.Mem.tail _ ?_)) (by first  | rfl | exact tab_get (by first | omega | (simp; omega)) | exact gm (d := 0) (by first | omega | (simp; omega))) | exact Kn.ro (by repeat (first | exact List.Mem.head _ | refine List.Mem.tail _ ?_)) (by first  | rfl | exact tab_get (by first | omega | (simp; omega)) | exact gm (d := 0) (by first | omega | (simp; omega))) | exact Kn.row (by repeat (first | exact List.Mem.head _ | refine List.Mem.tail _ ?_)) (by first  | rfl | exact tab_get (by first | omega | (simp; omega)) | exact gm (d := 0) (by first | omega | (simp; omega))) | exact Kn.rd (by repeat (first | exact Lend.same _ _ | exact Lend.row _ _ _ _ _ _ (by decide) | apply Lend.there)) (by first  | rfl | exact tab_get (by first | omega | (simp; omega)) | exact gm (d := 0) (by first | omega | (simp; omega))) | exact Kn.rd2 (by repeat (first | exact Lend.same _ _ | exact Lend.row _ _ _ _ _ _ (by decide) | apply Lend.there)) (by first  | rfl | exact tab_get (by first | omega | (simp; omega)) | exact gm (d := 0) (by first | omega | (simp; omega))))) (by decide) ?_
            refine JO.v (Yv.as (v' := .bool true) (Yv.bin rfl rfl (BinR.eql_u64)) (congrArg Value.bool (decide_eq_true rfl))) (by decide) ?_
            refine JO.v (Yv.move rfl) (by decide) ?_
            refine JO.gt (g := 71) rfl rfl rfl ?_
            refine JO.v (Yv.fieldAddr fa_35_1 rfl) (by decide) ?_
            refine JO.gt (g := 71) rfl rfl rfl ?_
            refine JO.v (Yv.load1 one_3 rfl (by first | exact Kn.own (by repeat (first | exact List.Mem.head _ | refine List.Mem.tail _ ?_)) (by first  | rfl | exact tab_get (by first | omega | (simp; omega)) | exact gm (d := 0) (by first | omega | (simp; omega))) | exact Kn.ro (by repeat (first | exact List.Mem.head _ | refine List.Mem.tail _ ?_)) (by first  | rfl | exact tab_get (by first | omega | (simp; omega)) | exact gm (d := 0) (by first | omega | (simp; omega))) | exact Kn.row (by repeat (first | exact List.Mem.head _ | refine List.Mem.tail _ ?_)) (by first  | rfl | exact tab_get (by first | omega | (simp; omega)) | exact gm (d := 0) (by first | omega | (simp; omega))) | exact Kn.rd (by repeat (first | exact Lend.same _ _ | exact Lend.row _ _ _ _ _ _ (by decide) | apply Lend.there)) (by first  | rfl | exact tab_get (by first | omega | (simp; omega)) | exact gm (d := 0) (by first | omega | (simp; omega))) | exact Kn.rd2 (by repeat (first | exact Lend.same _ _ | exact Lend.row _ _ _ _ _ _ (by decide) | apply Lend.there)) (by first  | rfl | exact tab_get (by first | omega | (simp; omega)) | exact gm (d := 0) (by first | omega | (simp; omega))))) (by decide) ?_
            refine JO.gt (g := 71) rfl rfl rfl ?_
            refine JO.v (Yv.fieldAddr fa_46_1 rfl) (by decide) ?_
            refine JO.gt (g := 71) rfl rfl rfl ?_
            refine JO.v (Yv.load1 one_3 rfl (by first | exact Kn.own (by repeat (first | exact List.Mem.head _ | refine List.Mem.tail _ ?_)) (by first  | rfl | exact tab_get (by first | omega | (simp; omega)) | exact gm (d := 0) (by first | omega | (simp; omega))) | exact Kn.ro (by repeat (first | exact List.Mem.head _ | refine List.Mem.tail _ ?_)) (by first  | rfl | exact tab_get (by first | omega | (simp; omega)) | exact gm (d := 0) (by first | omega | (simp; omega))) | exact Kn.row (by repeat (first | exact List.Mem.head _ | refine List.Mem.tail _ ?_)) (by first  | rfl | exact tab_get (by first | omega | (simp; omega)) | exact gm (d := 0) (by first | omega | (simp; omega))) | exact Kn.rd (by repeat (first | exact Lend.same _ _ | exact Lend.row _ _ _ _ _ _ (by decide) | apply Lend.there)) (by first  | rfl | exact tab_get (by first | omega | (simp; omega)) | exact gm (d := 0) (by first | omega | (simp; omega))) | exact Kn.rd2 (by repeat (first | exact Lend.same _ _ | exact Lend.row _ _ _ _ _ _ (by decide) | apply Lend.there)) (by first  | rfl | exact tab_get (by first | omega | (simp; omega)) | exact gm (d := 0) (by first | omega | (simp; omega))))) (by decide) ?_
            refine JO.gt (g := 71) rfl rfl rfl ?_
            refine JO.v (Yv.as (v' := .bool true) (Yv.bin rfl rfl BinR.eql_i) (congrArg Value.bool (decide_eq_true rfl))) (by decide) ?_
            refine JO.v (Yv.pick1 rfl rfl rfl) (by decide) ?_
            refine JO.v (Yv.assign rfl) (by decide) ?_
            refine JO.nil ?_
            refine JQ.block_normal ?_
            refine JQ.head (v2, vr2, hs2, o, L.tail, nxE L) (by repeat (first | exact trivial | refine ⟨by first | rfl | (simp; done), ?_⟩)) (Subs.sub (by repeat (first | exact Subs.nil _ | apply Subs.cons | exact List.Mem.head _ | refine List.Mem.tail _ ?_))) (Picks.perm (by repeat (first | exact Picks.nil _ | apply Picks.cons | exact Pull.here _ _ | apply Pull.there))) ?_
            first | exact ⟨hQ2, addL_cap _ hl, addO_le _ ho⟩ | exact ⟨hQ2, by dsimp only; simp; omega, by dsimp only; omega⟩ | exact ⟨hQ2, by dsimp only; have := tw_dw_len (dueP (ops.getD i opD0).due) L; omega, by dsimp only; omega⟩ | exact ⟨hQ2, by dsimp only; have := List.length_filter_le (keepP (ops.getD i opD0).id) L; omega, by dsimp only; omega⟩ | exact ⟨hQ, hl, by dsimp only; omega⟩
          · try simp only [decide_eq_true_eq, decide_eq_false_iff_not, Bool.not_eq_true', Bool.not_eq_false', ne_eq, Decidable.not_not, Bool.not_eq_true, Bool.and_eq_true, Bool.or_eq_true, BitVec.reduceToNat] at hc4
            skip
            refine JC.seq ?_
            refine JC.region ?_
            refine JO.v (Yv.bin rfl rfl BinR.eql_i) (by decide) ?_
            refine JO.v (Yv.assign rfl) (by decide) ?_
            refine JO.nil ?_
            refine JQ.then_normal ?_
            refine JC.cond rfl (fun hc5 => ?_) (fun hc5 => ?_)
            · try simp only [decide_eq_true_eq, decide_eq_false_iff_not, Bool.not_eq_true', Bool.not_eq_false', ne_eq, Decidable.not_not, Bool.not_eq_true, Bool.and_eq_true, Bool.or_eq_true, BitVec.reduceToNat] at hc5
              skip
              refine JC.draw (.one 0 (.one 1 (.one 2 (.one 4 (.one 5 (.one 6 (.one 3 (.one 7 (.one 8 (.one 9 .nil)))))))))) (fun i => ([3, 7, 8] : List Nat).contains i) (fun i => ([3, 7, 8] : List Nat).contains i) (fun i => ([0, 1, 2, 4, 5, 6, 9] : List Nat).contains i) mixed (by kernel_rfl) (by decide) (by kernel_rfl) ?_
              refine JR.u rfl rfl rfl (Yv.move rfl) (by decide) ?_
              refine JR.u rfl rfl rfl (Yv.fieldAddr fa_43_2 rfl) (by decide) ?_
              refine JR.u rfl rfl rfl (Yv.load1 one_23 rfl (by first | exact Kn.own (by repeat (first | exact List.Mem.head _ | refine List.Mem.tail _ ?_)) (by first  | rfl | exact tab_get (by first | omega | (simp; omega)) | exact gm (d := 0) (by first | omega | (simp; omega))) | exact Kn.ro (by repeat (first | exact List.Mem.head _ | refine List.Mem.tail _ ?_)) (by first  | rfl | exact tab_get (by first | omega | (simp; omega)) | exact gm (d := 0) (by first | omega | (simp; omega))) | exact Kn.row (by repeat (first | exact List.Mem.head _ | refine List.Mem.tail _ ?_)) (by first  | rfl | exact tab_get (by first | omega | (simp; omega)) | exact gm (d := 0) (by first | omega | (simp; omega))) | exact Kn.rd (by repeat (first | exact Lend.same _ _ | exact Lend.row _ _ _ _ _ _ (by decide) | apply Lend.there)) (by first  | rfl | exact tab_get (by first | omega | (simp; omega)) | exact gm (d := 0) (by first | omega | (simp; omega))) | exact Kn.rd2 (by repeat (first | exact Lend.same _ _ | exact Lend.row _ _ _ _ _ _ (by decide) | apply Lend.there)) (by first  | rfl | exact tab_get (by first | omega | (simp; omega)) | exact gm (d := 0) (by first | omega | (simp; omega))))) (by decide) ?_
              refine JR.u rfl rfl rfl (Yv.move rfl) (by decide) ?_
              refine JR.u rfl rfl rfl (Yv.fieldAddr fa_43_2 rfl) (by decide) ?_
              refine JR.u rfl rfl rfl (Yv.load1 one_23 rfl (by first | exact Kn.own (by repeat (first | exact List.Mem.head _ | refine List.Mem.tail _ ?_)) (by first  | rfl | exact tab_get (by first | omega | (simp; omega)) | exact gm (d := 0) (by first | omega | (simp; omega))) | exact Kn.ro (by repeat (first | exact List.Mem.head _ | refine List.Mem.tail _ ?_)) (by first  | rfl | exact tab_get (by first | omega | (simp; omega)) | exact gm (d := 0) (by first | omega | (simp; omega))) | exact Kn.row (by repeat (first | exact List.Mem.head _ | refine List.Mem.tail _ ?_)) (by first  | rfl | exact tab_get (by first | omega | (simp; omega)) | exact gm (d := 0) (by first | omega | (simp; omega))) | exact Kn.rd (by repeat (first | exact Lend.same _ _ | exact Lend.row _ _ _ _ _ _ (by decide) | apply Lend.there)) (by first  | rfl | exact tab_get (by first | omega | (simp; omega)) | exact gm (d := 0) (by first | omega | (simp; omega))) | exact Kn.rd2 (by repeat (first | exact Lend.same _ _ | exact Lend.row _ _ _ _ _ _ (by decide) | apply Lend.there)) (by first  | rfl | exact tab_get (by first | omega | (simp; omega)) | exact gm (d := 0) (by first | omega | (simp; omega))))) (by decide) ?_
              refine JR.m rfl rfl (Mv.callB body_8 rfl (f8_spec b19 v (u64 (BitVec.ofNat 64 o)) hs o L hQ (by omega) (ops.getD i opD0).due) (by repeat (first | exact Picks.nil _ | apply Picks.cons | exact Pull.here _ _ | apply Pull.there)) (by repeat (first | exact Lends.nil _ | apply Lends.cons | exact Lend.same _ _ | exact Lend.row _ _ _ _ _ _ (by decide) | apply Lend.there)) (by rintro _ _ _ ⟨_, _, _, h, _⟩; exact h)) (by decide) ?_
              rintro vo _ _ ⟨_, ⟨v2, hs2, hQ2, _, rfl⟩, hΓ, hH⟩
              simp only [List.cons_append, List.nil_append] at hH; subst hΓ hH
              refine ⟨⟨Subs.sub (by repeat (first | exact Subs.nil _ | apply Subs.cons | exact List.Mem.head _ | refine List.Mem.tail _ ?_)), .inl rfl⟩, ?_⟩
              refine JR.m rfl rfl (Mv.call body_14 rfl (f14_spec b21 vr L (by omega) (ops.getD i opD0).due) (by repeat (first | exact Picks.nil _ | apply Picks.cons | exact Pull.here _ _ | apply Pull.there)) (by repeat (first | exact Subs.nil _ | apply Subs.cons | exact List.Mem.head _ | refine List.Mem.tail _ ?_))) (by decide) ?_
              rintro vo2 _ _ ⟨_, _, ⟨vr2, rfl, rfl⟩, hΓ, hH⟩
              simp only [List.cons_append, List.nil_append] at hΓ hH; subst hΓ hH
              refine ⟨⟨Subs.sub (by repeat (first | exact Subs.nil _ | apply Subs.cons | exact List.Mem.head _ | refine List.Mem.tail _ ?_)), .inl rfl⟩, ?_⟩
              refine JR.m rfl rfl (Mv.callB body_13 rfl (f13_spec vo vo2 (L.takeWhile (dueP (ops.getD i opD0).due)) (L.takeWhile (dueP (ops.getD i opD0).due))) (by repeat (first | exact Picks.nil _ | apply Picks.cons | exact Pull.here _ _ | apply Pull.there)) (by repeat (first | exact Lends.nil _ | apply Lends.cons | exact Lend.same _ _ | exact Lend.row _ _ _ _ _ _ (by decide) | apply Lend.there)) (by rintro _ _ _ ⟨_, h, _⟩; exact h)) (by decide) ?_
              rintro _ _ _ ⟨_, ⟨rfl, _, rfl⟩, hΓ, hH⟩
              simp only [List.cons_append, List.nil_append] at hH; subst hΓ hH
              rw [decide_eq_true rfl]
              refine ⟨⟨Subs.sub (by repeat (first | exact Subs.nil _ | apply Subs.cons | exact List.Mem.head _ | refine List.Mem.tail _ ?_)), .inl rfl⟩, ?_⟩
              refine JR.u rfl rfl rfl (Yv.assign rfl) (by decide) ?_
              refine JR.nil ?_
              refine JQ.block_normal ?_
              refine JQ.head (v2, vr2, hs2, o, L.dropWhile (dueP (ops.getD i opD0).due), 0) (by repeat (first | exact trivial | refine ⟨by first | rfl | (simp; done), ?_⟩)) (Subs.sub (by repeat (first | exact Subs.nil _ | apply Subs.cons | exact List.Mem.head _ | refine List.Mem.tail _ ?_))) (Picks.perm (by repeat (first | exact Picks.nil _ | apply Picks.cons | exact Pull.here _ _ | apply Pull.there))) ?_
              first | exact ⟨hQ2, addL_cap _ hl, addO_le _ ho⟩ | exact ⟨hQ2, by dsimp only; simp; omega, by dsimp only; omega⟩ | exact ⟨hQ2, by dsimp only; have := tw_dw_len (dueP (ops.getD i opD0).due) L; omega, by dsimp only; omega⟩ | exact ⟨hQ2, by dsimp only; have := List.length_filter_le (keepP (ops.getD i opD0).id) L; omega, by dsimp only; omega⟩ | exact ⟨hQ, hl, by dsimp only; omega⟩
            · try simp only [decide_eq_true_eq, decide_eq_false_iff_not, Bool.not_eq_true', Bool.not_eq_false', ne_eq, Decidable.not_not, Bool.not_eq_true, Bool.and_eq_true, Bool.or_eq_true, BitVec.reduceToNat] at hc5
              skip
              refine JC.seq ?_
              refine JC.region ?_
              refine JO.v (Yv.bin rfl rfl BinR.eql_i) (by decide) ?_
              refine JO.v (Yv.assign rfl) (by decide) ?_
              refine JO.nil ?_
              refine JQ.then_normal ?_
              refine JC.cond rfl (fun hc6 => ?_) (fun hc6 => ?_)
              · try simp only [decide_eq_true_eq, decide_eq_false_iff_not, Bool.not_eq_true', Bool.not_eq_false', ne_eq, Decidable.not_not, Bool.not_eq_true, Bool.and_eq_true, Bool.or_eq_true, BitVec.reduceToNat] at hc6
                skip
                refine JC.draw (.one 0 (.one 1 (.one 2 (.one 4 (.one 5 (.one 6 (.one 3 (.one 7 (.one 8 (.one 9 .nil)))))))))) (fun i => ([3, 7] : List Nat).contains i) (fun i => ([3, 7] : List Nat).contains i) (fun i => ([0, 1, 2, 4, 5, 6, 8, 9] : List Nat).contains i) mixed (by kernel_rfl) (by decide) (by kernel_rfl) ?_
                refine JR.u rfl rfl rfl (Yv.move rfl) (by decide) ?_
                refine JR.u rfl rfl rfl (Yv.fieldAddr fa_43_1 rfl) (by decide) ?_
                refine JR.u rfl rfl rfl (Yv.load1 one_3 rfl (by first | exact Kn.own (by repeat (first | exact List.Mem.head _ | refine List.Mem.tail _ ?_)) (by first  | rfl | exact tab_get (by first | omega | (simp; omega)) | exact gm (d := 0) (by first | omega | (simp; omega))) | exact Kn.ro (by repeat (first | exact List.Mem.head _ | refine List.Mem.tail _ ?_)) (by first  | rfl | exact tab_get (by first | omega | (simp; omega)) | exact gm (d := 0) (by first | omega | (simp; omega))) | exact Kn.row (by repeat (first | exact List.Mem.head _ | refine List.Mem.tail _ ?_)) (by first  | rfl | exact tab_get (by first | omega | (simp; omega)) | exact gm (d := 0) (by first | omega | (simp; omega))) | exact Kn.rd (by repeat (first | exact Lend.same _ _ | exact Lend.row _ _ _ _ _ _ (by decide) | apply Lend.there)) (by first  | rfl | exact tab_get (by first | omega | (simp; omega)) | exact gm (d := 0) (by first | omega | (simp; omega))) | exact Kn.rd2 (by repeat (first | exact Lend.same _ _ | exact Lend.row _ _ _ _ _ _ (by decide) | apply Lend.there)) (by first  | rfl | exact tab_get (by first | omega | (simp; omega)) | exact gm (d := 0) (by first | omega | (simp; omega))))) (by decide) ?_
                refine JR.u rfl rfl rfl (Yv.move rfl) (by decide) ?_
                refine JR.u rfl rfl rfl (Yv.fieldAddr fa_43_1 rfl) (by decide) ?_
                refine JR.u rfl rfl rfl (Yv.load1 one_3 rfl (by first | exact Kn.own (by repeat (first | exact List.Mem.head _ | refine List.Mem.tail _ ?_)) (by first  | rfl | exact tab_get (by first | omega | (simp; omega)) | exact gm (d := 0) (by first | omega | (simp; omega))) | exact Kn.ro (by repeat (first | exact List.Mem.head _ | refine List.Mem.tail _ ?_)) (by first  | rfl | exact tab_get (by first | omega | (simp; omega)) | exact gm (d := 0) (by first | omega | (simp; omega))) | exact Kn.row (by repeat (first | exact List.Mem.head _ | refine List.Mem.tail _ ?_)) (by first  | rfl | exact tab_get (by first | omega | (simp; omega)) | exact gm (d := 0) (by first | omega | (simp; omega))) | exact Kn.rd (by repeat (first | exact Lend.same _ _ | exact Lend.row _ _ _ _ _ _ (by decide) | apply Lend.there)) (by first  | rfl | exact tab_get (by first | omega | (simp; omega)) | exact gm (d := 0) (by first | omega | (simp; omega))) | exact Kn.rd2 (by repeat (first | exact Lend.same _ _ | exact Lend.row _ _ _ _ _ _ (by decide) | apply Lend.there)) (by first  | rfl | exact tab_get (by first | omega | (simp; omega)) | exact gm (d := 0) (by first | omega | (simp; omega))))) (by decide) ?_
                refine JR.m rfl rfl (Mv.callB body_15 rfl (f15_spec b19 v (u64 (BitVec.ofNat 64 o)) hs o L hQ (by omega) (ops.getD i opD0).id) (by repeat (first | exact Picks.nil _ | apply Picks.cons | exact Pull.here _ _ | apply Pull.there)) (by repeat (first | exact Lends.nil _ | apply Lends.cons | exact Lend.same _ _ | exact Lend.row _ _ _ _ _ _ (by decide) | apply Lend.there)) (by rintro _ _ _ ⟨_, _, _, _, h, _⟩; exact h)) (by decide) ?_
                rintro _ _ _ ⟨_, ⟨v2, hs2, rfl, hQ2, _, rfl⟩, hΓ, hH⟩
                simp only [List.cons_append, List.nil_append] at hH; subst hΓ hH
                refine ⟨⟨Subs.sub (by repeat (first | exact Subs.nil _ | apply Subs.cons | exact List.Mem.head _ | refine List.Mem.tail _ ?_)), .inl rfl⟩, ?_⟩
                refine JR.m rfl rfl (Mv.call body_16 rfl (f16_spec b21 vr L (by omega) (ops.getD i opD0).id) (by repeat (first | exact Picks.nil _ | apply Picks.cons | exact Pull.here _ _ | apply Pull.there)) (by repeat (first | exact Subs.nil _ | apply Subs.cons | exact List.Mem.head _ | refine List.Mem.tail _ ?_))) (by decide) ?_
                rintro _ _ _ ⟨_, _, ⟨vr2, rfl, rfl, rfl⟩, hΓ, hH⟩
                simp only [List.cons_append, List.nil_append] at hΓ hH; subst hΓ hH
                refine ⟨⟨Subs.sub (by repeat (first | exact Subs.nil _ | apply Subs.cons | exact List.Mem.head _ | refine List.Mem.tail _ ?_)), .inl rfl⟩, ?_⟩
                refine JR.u rfl rfl rfl (Yv.as (v' := .bool true) (Yv.bin rfl rfl BinR.eql_i) (congrArg Value.bool (decide_eq_true rfl))) (by decide) ?_
                refine JR.u rfl rfl rfl (Yv.assign rfl) (by decide) ?_
                refine JR.nil ?_
                refine JQ.block_normal ?_
                refine JQ.head (v2, vr2, hs2, o, L.filter (keepP (ops.getD i opD0).id), 0) (by repeat (first | exact trivial | refine ⟨by first | rfl | (simp; done), ?_⟩)) (Subs.sub (by repeat (first | exact Subs.nil _ | apply Subs.cons | exact List.Mem.head _ | refine List.Mem.tail _ ?_))) (Picks.perm (by repeat (first | exact Picks.nil _ | apply Picks.cons | exact Pull.here _ _ | apply Pull.there))) ?_
                first | exact ⟨hQ2, addL_cap _ hl, addO_le _ ho⟩ | exact ⟨hQ2, by dsimp only; simp; omega, by dsimp only; omega⟩ | exact ⟨hQ2, by dsimp only; have := tw_dw_len (dueP (ops.getD i opD0).due) L; omega, by dsimp only; omega⟩ | exact ⟨hQ2, by dsimp only; have := List.length_filter_le (keepP (ops.getD i opD0).id) L; omega, by dsimp only; omega⟩ | exact ⟨hQ, hl, by dsimp only; omega⟩
              · try simp only [decide_eq_true_eq, decide_eq_false_iff_not, Bool.not_eq_true', Bool.not_eq_false', ne_eq, Decidable.not_not, Bool.not_eq_true, Bool.and_eq_true, Bool.or_eq_true, BitVec.reduceToNat] at hc6
                skip
                refine JC.skip ?_
                refine JQ.block_normal ?_
                refine JQ.head (v, vr, hs, o, L, 0) (by repeat (first | exact trivial | refine ⟨by first | rfl | (simp; done), ?_⟩)) (Subs.sub (by repeat (first | exact Subs.nil _ | apply Subs.cons | exact List.Mem.head _ | refine List.Mem.tail _ ?_))) (Picks.perm (by repeat (first | exact Picks.nil _ | apply Picks.cons | exact Pull.here _ _ | apply Pull.there))) ?_
                first | exact ⟨hQ2, addL_cap _ hl, addO_le _ ho⟩ | exact ⟨hQ2, by dsimp only; simp; omega, by dsimp only; omega⟩ | exact ⟨hQ2, by dsimp only; have := tw_dw_len (dueP (ops.getD i opD0).due) L; omega, by dsimp only; omega⟩ | exact ⟨hQ2, by dsimp only; have := List.length_filter_le (keepP (ops.getD i opD0).id) L; omega, by dsimp only; omega⟩ | exact ⟨hQ, hl, by dsimp only; omega⟩
      · skip
        obtain ⟨v, vr, hs, o, L, e⟩ := x
        obtain ⟨hQ, hl, ho⟩ := hx
        dsimp only at hQ hl ho ⊢
        have hlen := hQ.len
        refine JC.seq ?_
        refine JC.region ?_
        refine JO.v (Yv.move rfl) (by decide) ?_
        refine JO.callB (f17_spec b19 v (u64 (BitVec.ofNat 64 o)) hs o L hQ (by omega)) body_17 rfl (by repeat (first | exact Picks.nil _ | apply Picks.cons | exact Pull.here _ _ | apply Pull.there)) (by repeat (first | exact Lends.nil _ | apply Lends.cons | exact Lend.same _ _ | exact Lend.row _ _ _ _ _ _ (by decide) | apply Lend.there)) (by rintro _ _ _ ⟨h, _⟩; exact h) (by decide) ?_
        rintro v15 _ ⟨_, ⟨_, rfl⟩, hH⟩
        simp only [List.cons_append, List.nil_append] at hH; subst hH
        refine JO.v (Yv.assign rfl) (by decide) ?_
        refine JO.nil ?_
        refine JQ.then_normal ?_
        refine JC.seq ?_
        refine JC.region ?_
        refine JO.v (Yv.move rfl) (by decide) ?_
        refine JO.callB (f9_spec b19 v (u64 (BitVec.ofNat 64 o)) hs) body_9 rfl (by repeat (first | exact Picks.nil _ | apply Picks.cons | exact Pull.here _ _ | apply Pull.there)) (by repeat (first | exact Lends.nil _ | apply Lends.cons | exact Lend.same _ _ | exact Lend.row _ _ _ _ _ _ (by decide) | apply Lend.there)) (by rintro _ _ _ ⟨_, h, _⟩; exact h) (by decide) ?_
        rintro _ _ ⟨_, ⟨rfl, _, rfl⟩, hH⟩
        simp only [List.cons_append, List.nil_append] at hH; subst hH
        refine JO.v (Yv.assign rfl) (by decide) ?_
        refine JO.nil ?_
        refine JQ.then_normal ?_
        refine JC.seq ?_
        refine JC.region ?_
        refine JO.v (Yv.move rfl) (by decide) ?_
        refine JO.v (Yv.as (v' := .bool false) (Yv.not rfl) rfl) (by decide) ?_
        refine JO.v (Yv.move rfl) (by decide) ?_
        refine JO.gt (g := 106) rfl rfl rfl ?_
        refine JO.v (Yv.move rfl) (by decide) ?_
        refine JO.gt (g := 106) rfl rfl rfl ?_
        refine JO.v (Yv.move rfl) (by decide) ?_
        refine JO.gt (g := 106) rfl rfl rfl ?_
        refine JO.v (Yv.as (v' := .bool false) (Yv.bin rfl rfl BinR.neq_i) (congrArg Value.bool (decide_eq_false (fun h => h rfl)))) (by decide) ?_
        refine JO.v (Yv.pick0 rfl rfl rfl) (by decide) ?_
        refine JO.v (Yv.move rfl) (by decide) ?_
        refine JO.gt (g := 111) rfl rfl rfl ?_
        refine JO.v (Yv.move rfl) (by decide) ?_
        refine JO.gt (g := 111) rfl rfl rfl ?_
        refine JO.v (Yv.move rfl) (by decide) ?_
        refine JO.gt (g := 111) rfl rfl rfl ?_
        refine JO.v (Yv.nilCheck rfl) (by decide) ?_
        refine JO.gt (g := 111) rfl rfl rfl ?_
        refine JO.v (Yv.fieldAddr fa_41_0 rfl) (by decide) ?_
        refine JO.gt (g := 111) rfl rfl rfl ?_
        refine JO.v (Yv.load1 one_39 rfl (by first | exact Kn.own (by repeat (first | exact List.Mem.head _ | refine List.Mem.tail _ ?_)) (by first  | rfl | exact tab_get (by first | omega | (simp; omega)) | exact gm (d := 0) (by first | omega | (simp; omega))) | exact Kn.ro (by repeat (first | exact List.Mem.head _ | refine List.Mem.tail _ ?_)) (by first  | rfl | exact tab_get (by first | omega | (simp; omega)) | exact gm (d := 0) (by first | omega | (simp; omega))) | exact Kn.row (by repeat (first | exact List.Mem.head _ | refine List.Mem.tail _ ?_)) (by first  | rfl | exact tab_get (by first | omega | (simp; omega)) | exact gm (d := 0) (by first | omega | (simp; omega))) | exact Kn.rd (by repeat (first | exact Lend.same _ _ | exact Lend.row _ _ _ _ _ _ (by decide) | apply Lend.there)) (by first  | rfl | exact tab_get (by first | omega | (simp; omega)) | exact gm (d := 0) (by first | omega | (simp; omega))) | exact Kn.rd2 (by repeat (first | exact Lend.same _ _ | exact Lend.row _ _ _ _ _ _ (by decide) | apply Lend.there)) (by first  | rfl | exact tab_get (by first | omega | (simp; omega)) | exact gm (d := 0) (by first | omega | (simp; omega))))) (by decide) ?_
        refine JO.gt (g := 111) rfl rfl rfl ?_
        refine JO.callB (f13_spec v15 vr L L) body_13 rfl (by repeat (first | exact Picks.nil _ | apply Picks.cons | exact Pull.here _ _ | apply Pull.there)) (by repeat (first | exact Lends.nil _ | apply Lends.cons | exact Lend.same _ _ | exact Lend.row _ _ _ _ _ _ (by decide) | apply Lend.there)) (by rintro _ _ _ ⟨_, h, _⟩; exact h) (by decide) ?_
        rintro _ _ ⟨_, ⟨rfl, _, rfl⟩, hH⟩
        simp only [List.cons_append, List.nil_append] at hH; subst hH
        rw [decide_eq_true rfl]
        refine JO.gt (g := 111) rfl rfl rfl ?_
        refine JO.v (Yv.as (v' := .bool false) (Yv.not rfl) rfl) (by decide) ?_
        refine JO.v (Yv.pick0 rfl rfl rfl) (by decide) ?_
        refine JO.v (Yv.move rfl) (by decide) ?_
        refine JO.gt (g := 120) rfl rfl rfl ?_
        refine JO.v (Yv.move rfl) (by decide) ?_
        refine JO.gt (g := 120) rfl rfl rfl ?_
        refine JO.v (Yv.move rfl) (by decide) ?_
        refine JO.gt (g := 120) rfl rfl rfl ?_
        refine JO.v (Yv.nilCheck rfl) (by decide) ?_
        refine JO.gt (g := 120) rfl rfl rfl ?_
        refine JO.v (Yv.fieldAddr fa_41_0 rfl) (by decide) ?_
        refine JO.gt (g := 120) rfl rfl rfl ?_
        refine JO.v (Yv.load1 one_39 rfl (by first | exact Kn.own (by repeat (first | exact List.Mem.head _ | refine List.Mem.tail _ ?_)) (by first  | rfl | exact tab_get (by first | omega | (simp; omega)) | exact gm (d := 0) (by first | omega | (simp; omega))) | exact Kn.ro (by repeat (first | exact List.Mem.head _ | refine List.Mem.tail _ ?_)) (by first  | rfl | exact tab_get (by first | omega | (simp; omega)) | exact gm (d := 0) (by first | omega | (simp; omega))) | exact Kn.row (by repeat (first | exact List.Mem.head _ | refine List.Mem.tail _ ?_)) (by first  | rfl | exact tab_get (by first | omega | (simp; omega)) | exact gm (d := 0) (by first | omega | (simp; omega))) | exact Kn.rd (by repeat (first | exact Lend.same _ _ | exact Lend.row _ _ _ _ _ _ (by decide) | apply Lend.there)) (by first  | rfl | exact tab_get (by first | omega | (simp; omega)) | exact gm (d := 0) (by first | omega | (simp; omega))) | exact Kn.rd2 (by repeat (first | exact Lend.same _ _ | exact Lend.row _ _ _ _ _ _ (by decide) | apply Lend.there)) (by first  | rfl | exact tab_get (by first | omega | (simp; omega)) | exact gm (d := 0) (by first | omega | (simp; omega))))) (by decide) ?_
        refine JO.gt (g := 120) rfl rfl rfl ?_
        first | refine JO.v (Yv.len_s Try.underlying39 rfl) (by decide) ?_ | refine JO.v (Yv.lenRd Try.underlying39 rfl (by repeat (first | exact Lend.same _ _ | exact Lend.row _ _ _ _ _ _ (by decide) | apply Lend.there))) (by decide) ?_
        refine JO.gt (g := 120) rfl rfl rfl ?_
        refine JO.v (Yv.as (v' := .bool false) (Yv.bin rfl rfl BinR.neq_i) (congrArg Value.bool (decide_eq_false (by omega)))) (by decide) ?_
        refine JO.v (Yv.pick0 rfl rfl rfl) (by decide) ?_
        refine JO.nil ?_
        refine JQ.then_normal ?_
        refine JC.cond rfl (fun hc7 => ?_) (fun hc7 => ?_)
        · try simp only [decide_eq_true_eq, decide_eq_false_iff_not, Bool.not_eq_true', Bool.not_eq_false', ne_eq, Decidable.not_not, Bool.not_eq_true, Bool.and_eq_true, Bool.or_eq_true, BitVec.reduceToNat] at hc7
          exact absurd hc7 (by decide)
        · try simp only [decide_eq_true_eq, decide_eq_false_iff_not, Bool.not_eq_true', Bool.not_eq_false', ne_eq, Decidable.not_not, Bool.not_eq_true, Bool.and_eq_true, Bool.or_eq_true, BitVec.reduceToNat] at hc7
          refine JC.skip ?_
          refine JQ.block_normal ?_
          refine JQ.then_normal ?_
          refine JC.region ?_
          refine JO.v (Yv.move rfl) (by decide) ?_
          refine JO.v (Yv.as (v' := it ((i + 1 : Nat) : Int)) (Yv.bin rfl rfl (BinR.add_i (by first | (constructor <;> omega) | (constructor <;> simp <;> omega)))) (congrArg it (by omega))) (by decide) ?_
          refine JO.v (Yv.assign rfl) (by decide) ?_
          refine JO.nil ?_
          refine JQ.head (i + 1, v, vr, hs, o, L) (by repeat (first | exact trivial | refine ⟨by first | rfl | (simp; done), ?_⟩)) (Subs.sub (by repeat (first | exact Subs.nil _ | apply Subs.cons | exact List.Mem.head _ | refine List.Mem.tail _ ?_))) (Picks.perm (by repeat (first | exact Picks.nil _ | apply Picks.cons | exact Pull.here _ _ | apply Pull.there))) ?_
          exact ⟨⟨by dsimp only; omega, hQ, hl, ho⟩, by dsimp only; omega⟩
    · try simp only [decide_eq_true_eq, decide_eq_false_iff_not, Bool.not_eq_true', Bool.not_eq_false', ne_eq, Decidable.not_not, Bool.not_eq_true, Bool.and_eq_true, Bool.or_eq_true, BitVec.reduceToNat] at hc2
      skip
      refine JC.exit ?_
      refine JQ.then_exit ?_
      refine JQ.then_exit ?_
      refine JQ.block_exit ?_
      refine JQ.then_normal ?_
      refine JC.seq ?_
      refine JC.region ?_
      refine JO.v (Yv.move rfl) (by decide) ?_
      refine JO.v (Yv.assign rfl) (by decide) ?_
      refine JO.nil ?_
      refine JQ.then_normal ?_
      refine JC.ret ?_
      exact JQ.done (.inr rfl) (Γ' := []) (H' := []) (res1 rfl (RV.tmp rfl)) (Subs.sub (by repeat (first | exact Subs.nil _ | apply Subs.cons | exact List.Mem.head _ | refine List.Mem.tail _ ?_))) (Picks.perm (by repeat (first | exact Picks.nil _ | apply Picks.cons | exact Pull.here _ _ | apply Pull.there))) ⟨rfl, rfl, rfl⟩
end Go.Proofs.Ytmefjbmaghjpfaa
