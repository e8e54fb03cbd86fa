/- Walk: TimerCancels. -/
import Derived.Test.YtmefjbmaghjpfaaF6
namespace Go.Proofs.Ytmefjbmaghjpfaa
open Go.RowKit
set_option maxRecDepth 100000
set_option linter.unusedVariables false
set_option linter.unusedSimpArgs false
theorem neq_it {x y : Operand} (a b : It) : BinR Try.prog .neq 35 x y (.agg a.cells.toArray) (.agg b.cells.toArray) (.bool (!decide (a = b))) := by
  have h := BinR.neq_two (x := x) (y := y) (k1 := .u64) (k2 := .i64) Try.underlying35 Try.underlying23 Try.underlying3 rfl rfl (by decide) (by decide) (by kernel_rfl) (by kernel_rfl) (a.due.toNat : Int) b.due.toNat a.id b.id
  have e : decide (a = b) = decide ((a.due.toNat : Int) = b.due.toNat ∧ a.id = b.id) := decide_eq_decide.2 ⟨fun e => by subst e; exact ⟨rfl, rfl⟩, fun ⟨h1, h2⟩ => by cases a; cases b; simp only [It.mk.injEq] at h1 h2 ⊢; exact ⟨BitVec.eq_of_toNat_eq (by omega), h2⟩⟩
  rw [e]
  exact h

set_option maxHeartbeats 1000000 in
theorem f5_spec (u : Value) (ds : List W64) (id : Int) :
    Spec Try.prog 5 #[u, (it id)] [Res.rd u ds.length 1 (ds.map u64)] []
      (fun r Γ' H' => r = (.bool true) ∧ Γ' = [] ∧ H' = []) := by
  refine Spec.of_args Try.func5 rfl Try.ntmps5 (by simp) fun w => ?_
  refine JC.know (φ := ds.length ≤ 9223372036854775807) (fun w hs => by obtain ⟨_, _, _, _, _, _, h⟩ := hs.rdForm (.head _); unfold maxLen at h; omega) fun hll => ?_
  refine JC.seq ?_
  refine JC.region ?_
  refine JO.v (Yv.assign rfl) (by decide) ?_
  refine JO.nil ?_
  refine JQ.then_normal ?_
  refine JC.seq ?_
  refine JC.region ?_
  refine JO.callB f6_spec body_6 rfl (by repeat (first | exact Picks.nil _ | apply Picks.cons | exact Pull.here _ _ | apply Pull.there)) (by repeat (first | exact Lends.nil _ | apply Lends.cons | exact Lend.same _ _ | exact Lend.row _ _ _ _ _ _ (by decide) | apply Lend.there)) (by rintro _ _ _ ⟨_, h, _⟩; exact h) (by decide) ?_
  rintro _ _ ⟨_, ⟨rfl, _, rfl⟩, hH⟩
  simp only [List.cons_append, List.nil_append] at hH; subst hH
  refine JO.v (Yv.assign rfl) (by decide) ?_
  refine JO.nil ?_
  refine JQ.then_normal ?_
  refine JC.seq ?_
  refine JC.region ?_
  refine JO.v (Yv.as (v' := .agg [.slice none 0 0, u64 (BitVec.ofNat 64 0)].toArray) (Yv.build bld_28 rfl rfl) rfl) (by decide) ?_
  refine JO.nilRow 59 3 ?_
  refine JO.box rfl _ rfl (by decide) fun b16 => ?_
  refine JO.v (Yv.assign rfl) (by decide) ?_
  refine JO.nil ?_
  refine JQ.then_normal ?_
  refine JC.seq ?_
  refine JC.region ?_
  refine JO.v (Yv.as (v' := .agg [.slice none 0 0, u64 (BitVec.ofNat 64 0)].toArray) (Yv.build bld_28 rfl rfl) rfl) (by decide) ?_
  refine JO.nilRow 59 3 ?_
  refine JO.box rfl _ rfl (by decide) fun b18 => ?_
  refine JO.v (Yv.assign rfl) (by decide) ?_
  refine JO.nil ?_
  refine JQ.then_normal ?_
  refine JC.seq ?_
  refine JC.seq ?_
  refine JC.region ?_
  refine JO.v (Yv.move rfl) (by decide) ?_
  first | refine JO.v (Yv.len_s Try.underlying22 rfl) (by decide) ?_ | refine JO.v (Yv.lenRd Try.underlying22 rfl (by repeat (first | exact Lend.same _ _ | exact Lend.row _ _ _ _ _ _ (by decide) | apply Lend.there))) (by decide) ?_
  refine JO.v (Yv.bin rfl rfl BinR.gtr_i) (by decide) ?_
  refine JO.nil ?_
  refine JQ.then_normal ?_
  refine JC.cond rfl (fun hc1 => ?_) (fun hc1 => ?_)
  · try simp only [decide_eq_true_eq, decide_eq_false_iff_not, Bool.not_eq_true', Bool.not_eq_false', ne_eq, Decidable.not_not, Bool.not_eq_true, Bool.and_eq_true, Bool.or_eq_true, BitVec.reduceToNat] at hc1
    skip
    refine JC.seq ?_
    refine JC.region ?_
    refine JO.v (Yv.move rfl) (by decide) ?_
    refine JO.v (Yv.assign rfl) (by decide) ?_
    refine JO.nil ?_
    refine JQ.then_normal ?_
    refine JC.ret ?_
    refine JQ.then_ret ?_
    exact JQ.done (.inr rfl) (Γ' := []) (H' := []) (res1 rfl (RV.tmp rfl)) (Subs.sub (by repeat (first | exact Subs.nil _ | apply Subs.cons | exact List.Mem.head _ | refine List.Mem.tail _ ?_))) (Picks.perm (by repeat (first | exact Picks.nil _ | apply Picks.cons | exact Pull.here _ _ | apply Pull.there))) ⟨rfl, rfl, rfl⟩
  · try simp only [decide_eq_true_eq, decide_eq_false_iff_not, Bool.not_eq_true', Bool.not_eq_false', ne_eq, Decidable.not_not, Bool.not_eq_true, Bool.and_eq_true, Bool.or_eq_true, BitVec.reduceToNat] at hc1
    have hl100 : ds.length ≤ 100 := by omega
    refine JC.skip ?_
    refine JQ.then_normal ?_
    refine JC.seq ?_
    refine JC.region ?_
    refine JO.v (Yv.assign rfl) (by decide) ?_
    refine JO.nil ?_
    refine JQ.then_normal ?_
    refine JC.seq ?_
    refine JC.seq ?_
    refine JC.region ?_
    refine JO.v (Yv.assign rfl) (by decide) ?_
    refine JO.nil ?_
    refine JQ.then_normal ?_
    refine JC.block ?_
    refine JC.loop (ι := Nat × List It × Nat × Nat × Value × Value × List En × List En) (fun x => x.1 ≤ ds.length ∧ x.2.1.length = x.1 ∧ x.2.2.1 ≤ x.1 ∧ x.2.2.2.1 ≤ x.1 ∧ QR x.2.2.2.2.2.2.1 x.2.2.1 x.2.1 ∧ QR x.2.2.2.2.2.2.2 x.2.2.2.1 (x.2.1.filter (keepP id))) (fun x => [(0, u), (1, it id), (5, .bool true), (6, ptr b16 0), (7, ptr b18 0), (8, it ((x.1 : Int) - ((x.2.1.filter (keepP id)).length : Int))), (9, it (x.1 : Int))]) (fun x => [Res.rd u ds.length 1 (ds.map u64)]) (fun x => [Res.cells b16 [x.2.2.2.2.1, (u64 (BitVec.ofNat 64 x.2.2.1))] 28, Res.row x.2.2.2.2.1 x.2.2.2.2.2.2.1.length 59 3 (enC x.2.2.2.2.2.2.1), Res.cells b18 [x.2.2.2.2.2.1, (u64 (BitVec.ofNat 64 x.2.2.2.1))] 28, Res.row x.2.2.2.2.2.1 x.2.2.2.2.2.2.2.length 59 3 (enC x.2.2.2.2.2.2.2)]) (fun x => ds.length - x.1) (0, [], 0, 0, .slice none 0 0, .slice none 0 0, [], []) (by repeat (first | exact trivial | refine ⟨by first | rfl | (simp; done), ?_⟩)) (Subs.sub (by repeat (first | exact Subs.nil _ | apply Subs.cons | exact List.Mem.head _ | refine List.Mem.tail _ ?_))) (Picks.perm (by repeat (first | exact Picks.nil _ | apply Picks.cons | exact Pull.here _ _ | apply Pull.there))) ?_ (fun x hx => ?_)
    · exact ⟨Nat.zero_le _, rfl, Nat.le_refl _, Nat.le_refl _, QR.nil, QR.nil⟩
    obtain ⟨i, L, o1, o2, vp, vq, hp, hq⟩ := x
    obtain ⟨hi, hL, ho1, ho2, hQ, hP⟩ := hx
    dsimp only at hi hL ho1 ho2 hQ hP ⊢
    refine JC.seq ?_
    refine JC.seq ?_
    refine JC.region ?_
    refine JO.v (Yv.move rfl) (by decide) ?_
    refine JO.v (Yv.move rfl) (by decide) ?_
    first | refine JO.v (Yv.len_s Try.underlying22 rfl) (by decide) ?_ | refine JO.v (Yv.lenRd Try.underlying22 rfl (by repeat (first | exact Lend.same _ _ | exact Lend.row _ _ _ _ _ _ (by decide) | apply Lend.there))) (by decide) ?_
    refine JO.v (Yv.bin rfl rfl BinR.lss_i) (by decide) ?_
    refine JO.nil ?_
    refine JQ.then_normal ?_
    refine JC.cond rfl (fun hc2 => ?_) (fun hc2 => ?_)
    · try simp only [decide_eq_true_eq, decide_eq_false_iff_not, Bool.not_eq_true', Bool.not_eq_false', ne_eq, Decidable.not_not, Bool.not_eq_true, Bool.and_eq_true, Bool.or_eq_true, BitVec.reduceToNat] at hc2
      have hil : i < ds.length := by omega
      have hLl : L.length < 100 := by omega
      have hak := add_keep (x := ⟨ds.getD i 0, ((i % 5 : Nat) : Int)⟩) (id := id) hQ hLl
      have hal := addL_len' (x := ⟨ds.getD i 0, ((i % 5 : Nat) : Int)⟩) hLl
      have hfl := List.length_filter_le (keepP id) L
      refine JC.skip ?_
      refine JQ.then_normal ?_
      refine JC.seq ?_
      refine JC.block ?_
      refine JC.seq ?_
      refine JC.region ?_
      refine JO.v (Yv.move rfl) (by decide) ?_
      refine JO.v (Yv.move rfl) (by decide) ?_
      refine JO.v (Yv.move rfl) (by decide) ?_
      first | refine JO.v (Yv.indexRow1 Try.underlying22 sz_23 rfl rfl (by repeat (first | exact List.Mem.head _ | refine List.Mem.tail _ ?_)) (by first | exact ltb rfl | (simp; done) | (simp; omega) | omega | (simp [*]; omega))) (by decide) ?_ | refine JO.v (Yv.indexRd1 Try.underlying22 sz_23 rfl rfl (by repeat (first | exact Lend.same _ _ | exact Lend.row _ _ _ _ _ _ (by decide) | apply Lend.there)) (by first | exact ltb rfl | (simp; done) | (simp; omega) | omega | (simp [*]; omega))) (by decide) ?_
      refine JO.v (Yv.load1 one_23 rfl (Kn.rd (by repeat (first | exact Lend.same _ _ | exact Lend.row _ _ _ _ _ _ (by decide) | apply Lend.there)) (by exact gm (d := 0) (by omega)))) (by decide) ?_
      refine JO.v (Yv.move rfl) (by decide) ?_
      refine JO.v (Yv.as (v' := it ((i % 5 : Nat) : Int)) (Yv.bin rfl rfl (BinR.rem_i (by first | omega | decide | (simp; omega)) (by first | omega | decide | (simp; omega)))) (congrArg it (by omega))) (by decide) ?_
      refine JO.callB (f7_spec b16 vp hp o1 L hQ (by omega) (by omega) (ds.getD i 0) ((i % 5 : Nat) : Int)) body_7 rfl (by repeat (first | exact Picks.nil _ | apply Picks.cons | exact Pull.here _ _ | apply Pull.there)) (by repeat (first | exact Lends.nil _ | apply Lends.cons | exact Lend.same _ _ | exact Lend.row _ _ _ _ _ _ (by decide) | apply Lend.there)) (by rintro _ _ _ ⟨_, _, _, _, h, _⟩; exact h) (by decide) ?_
      rintro _ _ ⟨_, ⟨vp2, hp2, rfl, hQ2, _, rfl⟩, hH⟩
      simp only [List.cons_append, List.nil_append] at hH; subst hH
      refine JO.nil ?_
      refine JQ.then_normal ?_
      refine JC.seq ?_
      refine JC.region ?_
      refine JO.v (Yv.move rfl) (by decide) ?_
      refine JO.v (Yv.as (v' := it ((i % 5 : Nat) : Int)) (Yv.bin rfl rfl (BinR.rem_i (by first | omega | decide | (simp; omega)) (by first | omega | decide | (simp; omega)))) (congrArg it (by omega))) (by decide) ?_
      refine JO.v (Yv.move rfl) (by decide) ?_
      refine JO.v (Yv.bin rfl rfl BinR.eql_i) (by decide) ?_
      refine JO.nil ?_
      refine JQ.then_normal ?_
      refine JC.cond rfl (fun hc3 => ?_) (fun hc3 => ?_)
      · try simp only [decide_eq_true_eq, decide_eq_false_iff_not, Bool.not_eq_true', Bool.not_eq_false', ne_eq, Decidable.not_not, Bool.not_eq_true, Bool.and_eq_true, Bool.or_eq_true, BitVec.reduceToNat] at hc3
        rw [if_pos hc3] at hak
        refine JC.region ?_
        refine JO.v (Yv.move rfl) (by decide) ?_
        refine JO.v (Yv.as (v' := it (((i + 1 : Nat) : Int) - (((addL ⟨ds.getD i 0, ((i % 5 : Nat) : Int)⟩ L).filter (keepP id)).length : Int))) (Yv.bin rfl rfl (BinR.add_i (by first | (constructor <;> omega) | (constructor <;> simp <;> omega)))) (congrArg it (by rw [hak]; omega))) (by decide) ?_
        refine JO.v (Yv.assign rfl) (by decide) ?_
        refine JO.nil ?_
        refine JQ.block_normal ?_
        refine JQ.then_normal ?_
        refine JC.region ?_
        refine JO.v (Yv.move rfl) (by decide) ?_
        refine JO.v (Yv.as (v' := it ((i + 1 : Nat) : Int)) (Yv.bin rfl rfl (BinR.add_i (by first | (constructor <;> omega) | (constructor <;> simp <;> omega)))) (congrArg it (by omega))) (by decide) ?_
        refine JO.v (Yv.assign rfl) (by decide) ?_
        refine JO.nil ?_
        have hfl2 := congrArg List.length hak
        first | refine JQ.head (i + 1, addL ⟨ds.getD i 0, ((i % 5 : Nat) : Int)⟩ L, addO o1 L, o2, vp2, vq, hp2, hq) (by dsimp only; repeat (first | exact trivial | refine ⟨by first | rfl | (simp; done) | exact congrArg (fun k => some (it k)) (by omega), ?_⟩)) (Subs.sub (by repeat (first | exact Subs.nil _ | apply Subs.cons | exact List.Mem.head _ | refine List.Mem.tail _ ?_))) (Picks.perm (by repeat (first | exact Picks.nil _ | apply Picks.cons | exact Pull.here _ _ | apply Pull.there))) ?_ | refine JQ.head (i + 1, addL ⟨ds.getD i 0, ((i % 5 : Nat) : Int)⟩ L, addO o1 L, addO o2 (L.filter (keepP id)), vp2, vq2, hp2, hq2) (by dsimp only; repeat (first | exact trivial | refine ⟨by first | rfl | (simp; done) | exact congrArg (fun k => some (it k)) (by omega), ?_⟩)) (Subs.sub (by repeat (first | exact Subs.nil _ | apply Subs.cons | exact List.Mem.head _ | refine List.Mem.tail _ ?_))) (Picks.perm (by repeat (first | exact Picks.nil _ | apply Picks.cons | exact Pull.here _ _ | apply Pull.there))) ?_
        first | exact ⟨⟨by dsimp only; omega, by dsimp only; omega, addO_le _ ho1, by dsimp only; omega, hQ2, by dsimp only; rw [hak]; exact hP⟩, by dsimp only; omega⟩ | exact ⟨⟨by dsimp only; omega, by dsimp only; omega, addO_le _ ho1, addO_le _ ho2, hQ2, by dsimp only; rw [hak]; exact hP2⟩, by dsimp only; omega⟩
      · try simp only [decide_eq_true_eq, decide_eq_false_iff_not, Bool.not_eq_true', Bool.not_eq_false', ne_eq, Decidable.not_not, Bool.not_eq_true, Bool.and_eq_true, Bool.or_eq_true, BitVec.reduceToNat] at hc3
        rw [if_neg hc3] at hak
        have hal2 := addL_len' (x := ⟨ds.getD i 0, ((i % 5 : Nat) : Int)⟩) (L := L.filter (keepP id)) (by omega)
        refine JC.region ?_
        refine JO.v (Yv.move rfl) (by decide) ?_
        refine JO.v (Yv.move rfl) (by decide) ?_
        refine JO.v (Yv.move rfl) (by decide) ?_
        first | refine JO.v (Yv.indexRow1 Try.underlying22 sz_23 rfl rfl (by repeat (first | exact List.Mem.head _ | refine List.Mem.tail _ ?_)) (by first | exact ltb rfl | (simp; done) | (simp; omega) | omega | (simp [*]; omega))) (by decide) ?_ | refine JO.v (Yv.indexRd1 Try.underlying22 sz_23 rfl rfl (by repeat (first | exact Lend.same _ _ | exact Lend.row _ _ _ _ _ _ (by decide) | apply Lend.there)) (by first | exact ltb rfl | (simp; done) | (simp; omega) | omega | (simp [*]; omega))) (by decide) ?_
        refine JO.v (Yv.load1 one_23 rfl (Kn.rd (by repeat (first | exact Lend.same _ _ | exact Lend.row _ _ _ _ _ _ (by decide) | apply Lend.there)) (by exact gm (d := 0) (by omega)))) (by decide) ?_
        refine JO.v (Yv.move rfl) (by decide) ?_
        refine JO.v (Yv.as (v' := it ((i % 5 : Nat) : Int)) (Yv.bin rfl rfl (BinR.rem_i (by first | omega | decide | (simp; omega)) (by first | omega | decide | (simp; omega)))) (congrArg it (by omega))) (by decide) ?_
        refine JO.callB (f7_spec b18 vq hq o2 (L.filter (keepP id)) hP (by omega) (by omega) (ds.getD i 0) ((i % 5 : Nat) : Int)) body_7 rfl (by repeat (first | exact Picks.nil _ | apply Picks.cons | exact Pull.here _ _ | apply Pull.there)) (by repeat (first | exact Lends.nil _ | apply Lends.cons | exact Lend.same _ _ | exact Lend.row _ _ _ _ _ _ (by decide) | apply Lend.there)) (by rintro _ _ _ ⟨_, _, _, _, h, _⟩; exact h) (by decide) ?_
        rintro _ _ ⟨_, ⟨vq2, hq2, rfl, hP2, _, rfl⟩, hH⟩
        simp only [List.cons_append, List.nil_append] at hH; subst hH
        refine JO.nil ?_
        refine JQ.block_normal ?_
        refine JQ.then_normal ?_
        refine JC.region ?_
        refine JO.v (Yv.move rfl) (by decide) ?_
        refine JO.v (Yv.as (v' := it ((i + 1 : Nat) : Int)) (Yv.bin rfl rfl (BinR.add_i (by first | (constructor <;> omega) | (constructor <;> simp <;> omega)))) (congrArg it (by omega))) (by decide) ?_
        refine JO.v (Yv.assign rfl) (by decide) ?_
        refine JO.nil ?_
        have hfl2 := congrArg List.length hak
        first | refine JQ.head (i + 1, addL ⟨ds.getD i 0, ((i % 5 : Nat) : Int)⟩ L, addO o1 L, o2, vp2, vq, hp2, hq) (by dsimp only; repeat (first | exact trivial | refine ⟨by first | rfl | (simp; done) | exact congrArg (fun k => some (it k)) (by omega), ?_⟩)) (Subs.sub (by repeat (first | exact Subs.nil _ | apply Subs.cons | exact List.Mem.head _ | refine List.Mem.tail _ ?_))) (Picks.perm (by repeat (first | exact Picks.nil _ | apply Picks.cons | exact Pull.here _ _ | apply Pull.there))) ?_ | refine JQ.head (i + 1, addL ⟨ds.getD i 0, ((i % 5 : Nat) : Int)⟩ L, addO o1 L, addO o2 (L.filter (keepP id)), vp2, vq2, hp2, hq2) (by dsimp only; repeat (first | exact trivial | refine ⟨by first | rfl | (simp; done) | exact congrArg (fun k => some (it k)) (by omega), ?_⟩)) (Subs.sub (by repeat (first | exact Subs.nil _ | apply Subs.cons | exact List.Mem.head _ | refine List.Mem.tail _ ?_))) (Picks.perm (by repeat (first | exact Picks.nil _ | apply Picks.cons | exact Pull.here _ _ | apply Pull.there))) ?_
        first | exact ⟨⟨by dsimp only; omega, by dsimp only; omega, addO_le _ ho1, by dsimp only; omega, hQ2, by dsimp only; rw [hak]; exact hP⟩, by dsimp only; omega⟩ | exact ⟨⟨by dsimp only; omega, by dsimp only; omega, addO_le _ ho1, addO_le _ ho2, hQ2, by dsimp only; rw [hak]; exact hP2⟩, by dsimp only; omega⟩
    · try simp only [decide_eq_true_eq, decide_eq_false_iff_not, Bool.not_eq_true', Bool.not_eq_false', ne_eq, Decidable.not_not, Bool.not_eq_true, Bool.and_eq_true, Bool.or_eq_true, BitVec.reduceToNat] at hc2
      obtain rfl : i = ds.length := by omega
      have hfl := List.length_filter_le (keepP id) L
      refine JC.exit ?_
      refine JQ.then_exit ?_
      refine JQ.then_exit ?_
      refine JQ.block_exit ?_
      refine JQ.then_normal ?_
      refine JC.seq ?_
      refine JC.region ?_
      refine JO.v (Yv.move rfl) (by decide) ?_
      refine JO.v (Yv.move rfl) (by decide) ?_
      refine JO.callB (f15_spec b16 vp (u64 (BitVec.ofNat 64 o1)) hp o1 L hQ (by omega) id) body_15 rfl (by repeat (first | exact Picks.nil _ | apply Picks.cons | exact Pull.here _ _ | apply Pull.there)) (by repeat (first | exact Lends.nil _ | apply Lends.cons | exact Lend.same _ _ | exact Lend.row _ _ _ _ _ _ (by decide) | apply Lend.there)) (by rintro _ _ _ ⟨_, _, _, _, h, _⟩; exact h) (by decide) ?_
      rintro _ _ ⟨_, ⟨vp2, hp2, rfl, hQ2, _, rfl⟩, hH⟩
      simp only [List.cons_append, List.nil_append] at hH; subst hH
      have hkf : (L.filter fun x => decide (x.id ≠ id)) = L.filter (keepP id) := rfl
      rw [hkf] at hQ2 ⊢
      refine JO.v (Yv.assign rfl) (by decide) ?_
      refine JO.nil ?_
      refine JQ.then_normal ?_
      refine JC.seq ?_
      refine JC.region ?_
      refine JO.v (Yv.move rfl) (by decide) ?_
      refine JO.callB (f17_spec b16 vp2 (u64 (BitVec.ofNat 64 o1)) hp2 o1 (L.filter (keepP id)) hQ2 (by omega)) body_17 rfl (by repeat (first | exact Picks.nil _ | apply Picks.cons | exact Pull.here _ _ | apply Pull.there)) (by repeat (first | exact Lends.nil _ | apply Lends.cons | exact Lend.same _ _ | exact Lend.row _ _ _ _ _ _ (by decide) | apply Lend.there)) (by rintro _ _ _ ⟨h, _⟩; exact h) (by decide) ?_
      rintro v55 _ ⟨_, ⟨_, rfl⟩, hH⟩
      simp only [List.cons_append, List.nil_append] at hH; subst hH
      refine JO.v (Yv.assign rfl) (by decide) ?_
      refine JO.nil ?_
      refine JQ.then_normal ?_
      refine JC.seq ?_
      refine JC.region ?_
      refine JO.v (Yv.move rfl) (by decide) ?_
      refine JO.callB (f17_spec b18 vq (u64 (BitVec.ofNat 64 o2)) hq o2 (L.filter (keepP id)) hP (by omega)) body_17 rfl (by repeat (first | exact Picks.nil _ | apply Picks.cons | exact Pull.here _ _ | apply Pull.there)) (by repeat (first | exact Lends.nil _ | apply Lends.cons | exact Lend.same _ _ | exact Lend.row _ _ _ _ _ _ (by decide) | apply Lend.there)) (by rintro _ _ _ ⟨h, _⟩; exact h) (by decide) ?_
      rintro v57 _ ⟨_, ⟨_, rfl⟩, hH⟩
      simp only [List.cons_append, List.nil_append] at hH; subst hH
      refine JO.v (Yv.assign rfl) (by decide) ?_
      refine JO.nil ?_
      refine JQ.then_normal ?_
      refine JC.seq ?_
      refine JC.seq ?_
      refine JC.region ?_
      refine JO.v (Yv.move rfl) (by decide) ?_
      refine JO.v (Yv.move rfl) (by decide) ?_
      refine JO.v (Yv.as (v' := .bool false) (Yv.bin rfl rfl BinR.neq_i) (congrArg Value.bool (decide_eq_false (by omega)))) (by decide) ?_
      refine JO.v (Yv.move rfl) (by decide) ?_
      refine JO.gt (g := 61) rfl rfl rfl ?_
      refine JO.v (Yv.move rfl) (by decide) ?_
      refine JO.gt (g := 61) rfl rfl rfl ?_
      first | refine JO.v (Yv.len_s Try.underlying31 rfl) (by decide) ?_ | refine JO.v (Yv.lenRd Try.underlying31 rfl (by repeat (first | exact Lend.same _ _ | exact Lend.row _ _ _ _ _ _ (by decide) | apply Lend.there))) (by decide) ?_
      refine JO.gt (g := 61) rfl rfl rfl ?_
      refine JO.v (Yv.move rfl) (by decide) ?_
      refine JO.gt (g := 61) rfl rfl rfl ?_
      first | refine JO.v (Yv.len_s Try.underlying31 rfl) (by decide) ?_ | refine JO.v (Yv.lenRd Try.underlying31 rfl (by repeat (first | exact Lend.same _ _ | exact Lend.row _ _ _ _ _ _ (by decide) | apply Lend.there))) (by decide) ?_
      refine JO.gt (g := 61) rfl rfl rfl ?_
      refine JO.v (Yv.as (v' := .bool false) (Yv.bin rfl rfl BinR.neq_i) (congrArg Value.bool (decide_eq_false (fun h => h rfl)))) (by decide) ?_
      refine JO.v (Yv.pick0 rfl rfl rfl) (by decide) ?_
      refine JO.nil ?_
      refine JQ.then_normal ?_
      refine JC.cond rfl (fun hc4 => ?_) (fun hc4 => ?_)
      · try simp only [decide_eq_true_eq, decide_eq_false_iff_not, Bool.not_eq_true', Bool.not_eq_false', ne_eq, Decidable.not_not, Bool.not_eq_true, Bool.and_eq_true, Bool.or_eq_true, BitVec.reduceToNat] at hc4
        exact absurd hc4 (by decide)
      · try simp only [decide_eq_true_eq, decide_eq_false_iff_not, Bool.not_eq_true', Bool.not_eq_false', ne_eq, Decidable.not_not, Bool.not_eq_true, Bool.and_eq_true, Bool.or_eq_true, BitVec.reduceToNat] at hc4
        refine JC.skip ?_
        refine JQ.then_normal ?_
        refine JC.seq ?_
        refine JC.seq ?_
        refine JC.region ?_
        refine JO.v (Yv.assign rfl) (by decide) ?_
        refine JO.nil ?_
        refine JQ.then_normal ?_
        refine JC.block ?_
        refine JC.loop (ι := Nat) (fun x => x ≤ (L.filter (keepP id)).length) (fun x => [(5, .bool true), (11, v55), (12, v57), (13, it (x : Int))]) (fun x => []) (fun x => [Res.row v55 (L.filter (keepP id)).length 35 2 (itC (L.filter (keepP id))), Res.row v57 (L.filter (keepP id)).length 35 2 (itC (L.filter (keepP id)))]) (fun x => (L.filter (keepP id)).length - x) 0 (by repeat (first | exact trivial | refine ⟨by first | rfl | (simp; done), ?_⟩)) (Subs.sub (by repeat (first | exact Subs.nil _ | apply Subs.cons | exact List.Mem.head _ | refine List.Mem.tail _ ?_))) (Picks.perm (by repeat (first | exact Picks.nil _ | apply Picks.cons | exact Pull.here _ _ | apply Pull.there))) ?_ (fun x hx => ?_)
        · exact Nat.zero_le _
        refine JC.seq ?_
        refine JC.seq ?_
        refine JC.region ?_
        refine JO.v (Yv.move rfl) (by decide) ?_
        refine JO.v (Yv.move rfl) (by decide) ?_
        first | refine JO.v (Yv.len_s Try.underlying31 rfl) (by decide) ?_ | refine JO.v (Yv.lenRd Try.underlying31 rfl (by repeat (first | exact Lend.same _ _ | exact Lend.row _ _ _ _ _ _ (by decide) | apply Lend.there))) (by decide) ?_
        refine JO.v (Yv.bin rfl rfl BinR.lss_i) (by decide) ?_
        refine JO.nil ?_
        refine JQ.then_normal ?_
        refine JC.cond rfl (fun hc5 => ?_) (fun hc5 => ?_)
        · try simp only [decide_eq_true_eq, decide_eq_false_iff_not, Bool.not_eq_true', Bool.not_eq_false', ne_eq, Decidable.not_not, Bool.not_eq_true, Bool.and_eq_true, Bool.or_eq_true, BitVec.reduceToNat] at hc5
          have hxl : x < (L.filter (keepP id)).length := by omega
          refine JC.skip ?_
          refine JQ.then_normal ?_
          refine JC.seq ?_
          refine JC.block ?_
          refine JC.seq ?_
          refine JC.draw (.one 0 (.one 1 (.one 2 (.one 3 (.one 4 (.one 5 (.one 6 (.one 7 (.one 8 .nil))))))))) (fun i => ([] : List Nat).contains i) (fun i => ([] : List Nat).contains i) (fun i => ([0, 1, 4, 5, 8] : List Nat).contains i) mixed (by kernel_rfl) (by decide) (by kernel_rfl) ?_
          refine JR.u rfl rfl rfl (Yv.move rfl) (by decide) ?_
          refine JR.u rfl rfl rfl (Yv.move rfl) (by decide) ?_
          first | refine JR.v rfl rfl rfl (Yv.indexRow Try.underlying31 sz_35 rfl rfl (by repeat (first | exact List.Mem.head _ | refine List.Mem.tail _ ?_)) (by first | exact ltb rfl | (simp; done) | (simp; omega) | omega | (simp [*]; omega))) (by decide) ?_ | refine JR.v rfl rfl rfl (Yv.indexRd Try.underlying31 sz_35 rfl rfl (by repeat (first | exact Lend.same _ _ | exact Lend.row _ _ _ _ _ _ (by decide) | apply Lend.there)) (by decide) (by first | exact ltb rfl | (simp; done) | (simp; omega) | omega | (simp [*]; omega))) (by decide) ?_
          first | refine JR.v rfl rfl rfl (Yv.as (v' := .agg ((L.filter (keepP id)).getD x itD).cells.toArray) (Yv.loadOwn agg_35 (by repeat (first | exact List.Mem.head _ | refine List.Mem.tail _ ?_)) rfl (by first | rfl | (simp; done) | (simp; omega) | (simp [*]; done))) (congrArg (fun l : List Value => Value.agg l.toArray) (it_piece (by omega)))) (by decide) ?_ | refine JR.v rfl rfl rfl (Yv.as (v' := .agg ((L.filter (keepP id)).getD x itD).cells.toArray) (Yv.loadOwnAt agg_35 (by repeat (first | exact List.Mem.head _ | refine List.Mem.tail _ ?_)) rfl (by first | rfl | (simp; done) | (simp; omega) | (simp [*]; done))) (congrArg (fun l : List Value => Value.agg l.toArray) (it_piece (by omega)))) (by decide) ?_ | refine JR.v rfl rfl rfl (Yv.as (v' := .agg ((L.filter (keepP id)).getD x itD).cells.toArray) (Yv.loadRow agg_35 (by repeat (first | exact List.Mem.head _ | refine List.Mem.tail _ ?_)) rfl (by first | rfl | (simp; done) | (simp; omega) | (simp [*]; done))) (congrArg (fun l : List Value => Value.agg l.toArray) (it_piece (by omega)))) (by decide) ?_ | refine JR.v rfl rfl rfl (Yv.as (v' := .agg ((L.filter (keepP id)).getD x itD).cells.toArray) (Yv.loadRd agg_35 (by repeat (first | exact Lend.same _ _ | exact Lend.row _ _ _ _ _ _ (by decide) | apply Lend.there)) rfl (by first | rfl | (simp; done) | (simp; omega) | (simp [*]; done))) (congrArg (fun l : List Value => Value.agg l.toArray) (it_piece (by omega)))) (by decide) ?_ | refine JR.v rfl rfl rfl (Yv.as (v' := .agg ((L.filter (keepP id)).getD x itD).cells.toArray) (Yv.loadRo agg_35 (by repeat (first | exact List.Mem.head _ | refine List.Mem.tail _ ?_)) rfl (by first | rfl | (simp; done) | (simp; omega) | (simp [*]; done))) (congrArg (fun l : List Value => Value.agg l.toArray) (it_piece (by omega)))) (by decide) ?_
          refine JR.u rfl rfl rfl (Yv.move rfl) (by decide) ?_
          refine JR.u rfl rfl rfl (Yv.move rfl) (by decide) ?_
          first | refine JR.v rfl rfl rfl (Yv.indexRow Try.underlying31 sz_35 rfl rfl (by repeat (first | exact List.Mem.head _ | refine List.Mem.tail _ ?_)) (by first | exact ltb rfl | (simp; done) | (simp; omega) | omega | (simp [*]; omega))) (by decide) ?_ | refine JR.v rfl rfl rfl (Yv.indexRd Try.underlying31 sz_35 rfl rfl (by repeat (first | exact Lend.same _ _ | exact Lend.row _ _ _ _ _ _ (by decide) | apply Lend.there)) (by decide) (by first | exact ltb rfl | (simp; done) | (simp; omega) | omega | (simp [*]; omega))) (by decide) ?_
          first | refine JR.v rfl rfl rfl (Yv.as (v' := .agg ((L.filter (keepP id)).getD x itD).cells.toArray) (Yv.loadOwn agg_35 (by repeat (first | exact List.Mem.head _ | refine List.Mem.tail _ ?_)) rfl (by first | rfl | (simp; done) | (simp; omega) | (simp [*]; done))) (congrArg (fun l : List Value => Value.agg l.toArray) (it_piece (by omega)))) (by decide) ?_ | refine JR.v rfl rfl rfl (Yv.as (v' := .agg ((L.filter (keepP id)).getD x itD).cells.toArray) (Yv.loadOwnAt agg_35 (by repeat (first | exact List.Mem.head _ | refine List.Mem.tail _ ?_)) rfl (by first | rfl | (simp; done) | (simp; omega) | (simp [*]; done))) (congrArg (fun l : List Value => Value.agg l.toArray) (it_piece (by omega)))) (by decide) ?_ | refine JR.v rfl rfl rfl (Yv.as (v' := .agg ((L.filter (keepP id)).getD x itD).cells.toArray) (Yv.loadRow agg_35 (by repeat (first | exact List.Mem.head _ | refine List.Mem.tail _ ?_)) rfl (by first | rfl | (simp; done) | (simp; omega) | (simp [*]; done))) (congrArg (fun l : List Value => Value.agg l.toArray) (it_piece (by omega)))) (by decide) ?_ | refine JR.v rfl rfl rfl (Yv.as (v' := .agg ((L.filter (keepP id)).getD x itD).cells.toArray) (Yv.loadRd agg_35 (by repeat (first | exact Lend.same _ _ | exact Lend.row _ _ _ _ _ _ (by decide) | apply Lend.there)) rfl (by first | rfl | (simp; done) | (simp; omega) | (simp [*]; done))) (congrArg (fun l : List Value => Value.agg l.toArray) (it_piece (by omega)))) (by decide) ?_ | refine JR.v rfl rfl rfl (Yv.as (v' := .agg ((L.filter (keepP id)).getD x itD).cells.toArray) (Yv.loadRo agg_35 (by repeat (first | exact List.Mem.head _ | refine List.Mem.tail _ ?_)) rfl (by first | rfl | (simp; done) | (simp; omega) | (simp [*]; done))) (congrArg (fun l : List Value => Value.agg l.toArray) (it_piece (by omega)))) (by decide) ?_
          refine JR.u rfl rfl rfl (Yv.as (v' := .bool false) (Yv.bin rfl rfl (neq_it _ _)) (congrArg Value.bool (by simp))) (by decide) ?_
          refine JR.nil ?_
          refine JQ.then_normal ?_
          refine JC.cond rfl (fun hc6 => ?_) (fun hc6 => ?_)
          · try simp only [decide_eq_true_eq, decide_eq_false_iff_not, Bool.not_eq_true', Bool.not_eq_false', ne_eq, Decidable.not_not, Bool.not_eq_true, Bool.and_eq_true, Bool.or_eq_true, BitVec.reduceToNat] at hc6
            exact absurd hc6 (by decide)
          · try simp only [decide_eq_true_eq, decide_eq_false_iff_not, Bool.not_eq_true', Bool.not_eq_false', ne_eq, Decidable.not_not, Bool.not_eq_true, Bool.and_eq_true, Bool.or_eq_true, BitVec.reduceToNat] at hc6
            refine JC.skip ?_
            refine JQ.block_normal ?_
            refine JQ.then_normal ?_
            refine JC.region ?_
            refine JO.v (Yv.move rfl) (by decide) ?_
            refine JO.v (Yv.as (v' := it ((x + 1 : Nat) : Int)) (Yv.bin rfl rfl (BinR.add_i (by first | (constructor <;> omega) | (constructor <;> simp <;> omega)))) (congrArg it (by omega))) (by decide) ?_
            refine JO.v (Yv.assign rfl) (by decide) ?_
            refine JO.nil ?_
            refine JQ.head (x + 1) (by repeat (first | exact trivial | refine ⟨by first | rfl | (simp; done), ?_⟩)) (Subs.sub (by repeat (first | exact Subs.nil _ | apply Subs.cons | exact List.Mem.head _ | refine List.Mem.tail _ ?_))) (Picks.perm (by repeat (first | exact Picks.nil _ | apply Picks.cons | exact Pull.here _ _ | apply Pull.there))) ?_
            exact ⟨by omega, by omega⟩
        · try simp only [decide_eq_true_eq, decide_eq_false_iff_not, Bool.not_eq_true', Bool.not_eq_false', ne_eq, Decidable.not_not, Bool.not_eq_true, Bool.and_eq_true, Bool.or_eq_true, BitVec.reduceToNat] at hc5
          skip
          refine JC.exit ?_
          refine JQ.then_exit ?_
          refine JQ.then_exit ?_
          refine JQ.block_exit ?_
          refine JQ.then_normal ?_
          refine JC.seq ?_
          refine JC.region ?_
          refine JO.v (Yv.move rfl) (by decide) ?_
          refine JO.v (Yv.assign rfl) (by decide) ?_
          refine JO.nil ?_
          refine JQ.then_normal ?_
          refine JC.ret ?_
          exact JQ.done (.inr rfl) (Γ' := []) (H' := []) (res1 rfl (RV.tmp rfl)) (Subs.sub (by repeat (first | exact Subs.nil _ | apply Subs.cons | exact List.Mem.head _ | refine List.Mem.tail _ ?_))) (Picks.perm (by repeat (first | exact Picks.nil _ | apply Picks.cons | exact Pull.here _ _ | apply Pull.there))) ⟨rfl, rfl, rfl⟩
end Go.Proofs.Ytmefjbmaghjpfaa
