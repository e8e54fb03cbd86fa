/- Walk: TimerSplit. -/
import Derived.Test.YtmefjbmaghjpfaaF6
namespace Go.Proofs.Ytmefjbmaghjpfaa
open Go.RowKit
set_option maxRecDepth 100000
set_option linter.unusedVariables false
set_option linter.unusedSimpArgs false
theorem neq_it {x y : Operand} (a b : It) : BinR Try.prog .neq 35 x y (.agg a.cells.toArray) (.agg b.cells.toArray) (.bool (!decide (a = b))) := by
  have h := BinR.neq_two (x := x) (y := y) (k1 := .u64) (k2 := .i64) Try.underlying35 Try.underlying23 Try.underlying3 rfl rfl (by decide) (by decide) (by kernel_rfl) (by kernel_rfl) (a.due.toNat : Int) b.due.toNat a.id b.id
  have e : decide (a = b) = decide ((a.due.toNat : Int) = b.due.toNat ∧ a.id = b.id) := decide_eq_decide.2 ⟨fun e => by subst e; exact ⟨rfl, rfl⟩, fun ⟨h1, h2⟩ => by cases a; cases b; simp only [It.mk.injEq] at h1 h2 ⊢; exact ⟨BitVec.eq_of_toNat_eq (by omega), h2⟩⟩
  rw [e]
  exact h

set_option maxHeartbeats 1000000 in
theorem f3_spec (u : Value) (ds : List W64) (a b : W64) :
    Spec Try.prog 3 #[u, (u64 a), (u64 b)] [Res.rd u ds.length 1 (ds.map u64)] []
      (fun r Γ' H' => r = (.bool true) ∧ Γ' = [] ∧ H' = []) := by
  refine Spec.of_args Try.func3 rfl Try.ntmps3 (by simp) fun w => ?_
  refine JC.know (φ := ds.length ≤ 9223372036854775807) (fun w hs => by obtain ⟨_, _, _, _, _, _, h⟩ := hs.rdForm (.head _); unfold maxLen at h; omega) fun hll => ?_
  refine JC.seq ?_
  refine JC.region ?_
  refine JO.v (Yv.assign rfl) (by decide) ?_
  refine JO.nil ?_
  refine JQ.then_normal ?_
  refine JC.seq ?_
  refine JC.region ?_
  refine JO.callB f6_spec body_6 rfl (by repeat (first | exact Picks.nil _ | apply Picks.cons | exact Pull.here _ _ | apply Pull.there)) (by repeat (first | exact Lends.nil _ | apply Lends.cons | exact Lend.same _ _ | exact Lend.row _ _ _ _ _ _ (by decide) | apply Lend.there)) (by rintro _ _ _ ⟨_, h, _⟩; exact h) (by decide) ?_
  rintro _ _ ⟨_, ⟨rfl, _, rfl⟩, hH⟩
  simp only [List.cons_append, List.nil_append] at hH; subst hH
  refine JO.v (Yv.assign rfl) (by decide) ?_
  refine JO.nil ?_
  refine JQ.then_normal ?_
  refine JC.seq ?_
  refine JC.region ?_
  refine JO.v (Yv.as (v' := .agg [.slice none 0 0, u64 (BitVec.ofNat 64 0)].toArray) (Yv.build bld_28 rfl rfl) rfl) (by decide) ?_
  refine JO.nilRow 59 3 ?_
  refine JO.box rfl _ rfl (by decide) fun b18 => ?_
  refine JO.v (Yv.assign rfl) (by decide) ?_
  refine JO.nil ?_
  refine JQ.then_normal ?_
  refine JC.seq ?_
  refine JC.region ?_
  refine JO.v (Yv.as (v' := .agg [.slice none 0 0, u64 (BitVec.ofNat 64 0)].toArray) (Yv.build bld_28 rfl rfl) rfl) (by decide) ?_
  refine JO.nilRow 59 3 ?_
  refine JO.box rfl _ rfl (by decide) fun b20 => ?_
  refine JO.v (Yv.assign rfl) (by decide) ?_
  refine JO.nil ?_
  refine JQ.then_normal ?_
  refine JC.seq ?_
  refine JC.seq ?_
  refine JC.region ?_
  refine JO.v (Yv.move rfl) (by decide) ?_
  first | refine JO.v (Yv.len_s Try.underlying22 rfl) (by decide) ?_ | refine JO.v (Yv.lenRd Try.underlying22 rfl (by repeat (first | exact Lend.same _ _ | exact Lend.row _ _ _ _ _ _ (by decide) | apply Lend.there))) (by decide) ?_
  refine JO.v (Yv.as (v' := .bool (decide (ds.length > 100))) (Yv.bin rfl rfl BinR.gtr_i) (congrArg Value.bool (decide_eq_decide.2 (by omega)))) (by decide) ?_
  refine JO.v (Yv.move rfl) (by decide) ?_
  refine JO.join 4 28 (.bool (decide (ds.length > 100 ∨ a.toNat > b.toNat))) ?_ ?_
  · skip
    refine JO.gsplit (g := 23) rfl (fun hg14 => ?_) (fun hg14 => ?_)
    · have hg14' := hg14
      try simp only [decide_eq_true_eq, decide_eq_false_iff_not, Bool.not_eq_true', Bool.not_eq_false', ne_eq, Decidable.not_not, Bool.not_eq_true, Bool.and_eq_true, Bool.or_eq_true, BitVec.reduceToNat] at hg14'
      refine JO.gf (g := 24) rfl rfl hg14 (by decide) ?_
      refine JO.gf (g := 24) rfl rfl hg14 (by decide) ?_
      refine JO.gf (g := 24) rfl rfl hg14 (by decide) ?_
      refine JO.v (Yv.pick1 rfl hg14 rfl) (by decide) ?_
      refine JO.nil ?_
      refine JQ.head () (by first | (refine ⟨by first | rfl | (simp [*]; done) | (show some _ = some _; simp [*]; done), ?_⟩; repeat (first | exact trivial | refine ⟨rfl, ?_⟩))) (Subs.sub (by repeat (first | exact Subs.nil _ | apply Subs.cons | exact List.Mem.head _ | refine List.Mem.tail _ ?_))) (Picks.perm (by repeat (first | exact Picks.nil _ | apply Picks.cons | exact Pull.here _ _ | apply Pull.there))) ?_
      trivial
    · have hg14' := hg14
      try simp only [decide_eq_true_eq, decide_eq_false_iff_not, Bool.not_eq_true', Bool.not_eq_false', ne_eq, Decidable.not_not, Bool.not_eq_true, Bool.and_eq_true, Bool.or_eq_true, BitVec.reduceToNat] at hg14'
      refine JO.gt (g := 24) rfl rfl hg14 ?_
      refine JO.v (Yv.move rfl) (by decide) ?_
      refine JO.gt (g := 24) rfl rfl hg14 ?_
      refine JO.v (Yv.move rfl) (by decide) ?_
      refine JO.gt (g := 24) rfl rfl hg14 ?_
      refine JO.v (Yv.bin rfl rfl (BinR.gtr_u64)) (by decide) ?_
      refine JO.v (Yv.pick0 rfl hg14 rfl) (by decide) ?_
      refine JO.nil ?_
      refine JQ.head () (by first | (refine ⟨by first | rfl | (simp [*]; done) | (show some _ = some _; simp [*]; done), ?_⟩; repeat (first | exact trivial | refine ⟨rfl, ?_⟩))) (Subs.sub (by repeat (first | exact Subs.nil _ | apply Subs.cons | exact List.Mem.head _ | refine List.Mem.tail _ ?_))) (Picks.perm (by repeat (first | exact Picks.nil _ | apply Picks.cons | exact Pull.here _ _ | apply Pull.there))) ?_
      trivial
  · skip
    refine JO.nil ?_
    refine JQ.then_normal ?_
    refine JC.cond rfl (fun hc1 => ?_) (fun hc1 => ?_)
    · try simp only [decide_eq_true_eq, decide_eq_false_iff_not, Bool.not_eq_true', Bool.not_eq_false', ne_eq, Decidable.not_not, Bool.not_eq_true, Bool.and_eq_true, Bool.or_eq_true, BitVec.reduceToNat] at hc1
      skip
      refine JC.seq ?_
      refine JC.region ?_
      refine JO.v (Yv.move rfl) (by decide) ?_
      refine JO.v (Yv.assign rfl) (by decide) ?_
      refine JO.nil ?_
      refine JQ.then_normal ?_
      refine JC.ret ?_
      refine JQ.then_ret ?_
      exact JQ.done (.inr rfl) (Γ' := []) (H' := []) (res1 rfl (RV.tmp rfl)) (Subs.sub (by repeat (first | exact Subs.nil _ | apply Subs.cons | exact List.Mem.head _ | refine List.Mem.tail _ ?_))) (Picks.perm (by repeat (first | exact Picks.nil _ | apply Picks.cons | exact Pull.here _ _ | apply Pull.there))) ⟨rfl, rfl, rfl⟩
    · try simp only [decide_eq_true_eq, decide_eq_false_iff_not, Bool.not_eq_true', Bool.not_eq_false', ne_eq, Decidable.not_not, Bool.not_eq_true, Bool.and_eq_true, Bool.or_eq_true, BitVec.reduceToNat] at hc1
      have hl100 : ds.length ≤ 100 := by omega
      have hab : a.toNat ≤ b.toNat := by omega
      refine JC.skip ?_
      refine JQ.then_normal ?_
      refine JC.seq ?_
      refine JC.seq ?_
      refine JC.region ?_
      refine JO.v (Yv.assign rfl) (by decide) ?_
      refine JO.nil ?_
      refine JQ.then_normal ?_
      refine JC.block ?_
      refine JC.loop (ι := Nat × Value × Value × List En × List En) (fun x => x.1 ≤ ds.length ∧ QR x.2.2.2.1 (qO ds x.1) (qL ds x.1) ∧ QR x.2.2.2.2 (qO ds x.1) (qL ds x.1)) (fun x => [(0, u), (1, u64 a), (2, u64 b), (7, .bool true), (8, ptr b18 0), (9, ptr b20 0), (10, it (x.1 : Int))]) (fun x => [Res.rd u ds.length 1 (ds.map u64)]) (fun x => [Res.cells b18 [x.2.1, (u64 (BitVec.ofNat 64 (qO ds x.1)))] 28, Res.row x.2.1 x.2.2.2.1.length 59 3 (enC x.2.2.2.1), Res.cells b20 [x.2.2.1, (u64 (BitVec.ofNat 64 (qO ds x.1)))] 28, Res.row x.2.2.1 x.2.2.2.2.length 59 3 (enC x.2.2.2.2)]) (fun x => ds.length - x.1) (0, .slice none 0 0, .slice none 0 0, [], []) (by repeat (first | exact trivial | refine ⟨by first | rfl | (simp; done), ?_⟩)) (Subs.sub (by repeat (first | exact Subs.nil _ | apply Subs.cons | exact List.Mem.head _ | refine List.Mem.tail _ ?_))) (Picks.perm (by repeat (first | exact Picks.nil _ | apply Picks.cons | exact Pull.here _ _ | apply Pull.there))) ?_ (fun x hx => ?_)
      · exact ⟨Nat.zero_le _, QR.nil, QR.nil⟩
      obtain ⟨i, vp, vq, hp, hq⟩ := x
      obtain ⟨hi, hP, hQ⟩ := hx
      dsimp only at hi hP hQ ⊢
      have hLn := qL_len ds (k := i) (by omega)
      have hOn := qO_le ds i
      refine JC.seq ?_
      refine JC.seq ?_
      refine JC.region ?_
      refine JO.v (Yv.move rfl) (by decide) ?_
      refine JO.v (Yv.move rfl) (by decide) ?_
      first | refine JO.v (Yv.len_s Try.underlying22 rfl) (by decide) ?_ | refine JO.v (Yv.lenRd Try.underlying22 rfl (by repeat (first | exact Lend.same _ _ | exact Lend.row _ _ _ _ _ _ (by decide) | apply Lend.there))) (by decide) ?_
      refine JO.v (Yv.bin rfl rfl BinR.lss_i) (by decide) ?_
      refine JO.nil ?_
      refine JQ.then_normal ?_
      refine JC.cond rfl (fun hc2 => ?_) (fun hc2 => ?_)
      · try simp only [decide_eq_true_eq, decide_eq_false_iff_not, Bool.not_eq_true', Bool.not_eq_false', ne_eq, Decidable.not_not, Bool.not_eq_true, Bool.and_eq_true, Bool.or_eq_true, BitVec.reduceToNat] at hc2
        skip
        refine JC.skip ?_
        refine JQ.then_normal ?_
        refine JC.seq ?_
        refine JC.block ?_
        refine JC.seq ?_
        refine JC.region ?_
        refine JO.v (Yv.move rfl) (by decide) ?_
        refine JO.v (Yv.move rfl) (by decide) ?_
        refine JO.v (Yv.move rfl) (by decide) ?_
        first | refine JO.v (Yv.indexRow1 Try.underlying22 sz_23 rfl rfl (by repeat (first | exact List.Mem.head _ | refine List.Mem.tail _ ?_)) (by first | exact ltb rfl | (simp; done) | (simp; omega) | omega | (simp [*]; omega))) (by decide) ?_ | refine JO.v (Yv.indexRd1 Try.underlying22 sz_23 rfl rfl (by repeat (first | exact Lend.same _ _ | exact Lend.row _ _ _ _ _ _ (by decide) | apply Lend.there)) (by first | exact ltb rfl | (simp; done) | (simp; omega) | omega | (simp [*]; omega))) (by decide) ?_
        refine JO.v (Yv.load1 one_23 rfl (Kn.rd (by repeat (first | exact Lend.same _ _ | exact Lend.row _ _ _ _ _ _ (by decide) | apply Lend.there)) (by exact gm (d := 0) (by omega)))) (by decide) ?_
        refine JO.v (Yv.move rfl) (by decide) ?_
        refine JO.callB (f7_spec b18 vp hp (qO ds i) (qL ds i) hP (by omega) (by omega) (ds.getD i 0) i) body_7 rfl (by repeat (first | exact Picks.nil _ | apply Picks.cons | exact Pull.here _ _ | apply Pull.there)) (by repeat (first | exact Lends.nil _ | apply Lends.cons | exact Lend.same _ _ | exact Lend.row _ _ _ _ _ _ (by decide) | apply Lend.there)) (by rintro _ _ _ ⟨_, _, _, _, h, _⟩; exact h) (by decide) ?_
        rintro _ _ ⟨_, ⟨vp2, hp2, rfl, hP2, _, rfl⟩, hH⟩
        simp only [List.cons_append, List.nil_append] at hH; subst hH
        refine JO.nil ?_
        refine JQ.then_normal ?_
        refine JC.region ?_
        refine JO.v (Yv.move rfl) (by decide) ?_
        refine JO.v (Yv.move rfl) (by decide) ?_
        refine JO.v (Yv.move rfl) (by decide) ?_
        first | refine JO.v (Yv.indexRow1 Try.underlying22 sz_23 rfl rfl (by repeat (first | exact List.Mem.head _ | refine List.Mem.tail _ ?_)) (by first | exact ltb rfl | (simp; done) | (simp; omega) | omega | (simp [*]; omega))) (by decide) ?_ | refine JO.v (Yv.indexRd1 Try.underlying22 sz_23 rfl rfl (by repeat (first | exact Lend.same _ _ | exact Lend.row _ _ _ _ _ _ (by decide) | apply Lend.there)) (by first | exact ltb rfl | (simp; done) | (simp; omega) | omega | (simp [*]; omega))) (by decide) ?_
        refine JO.v (Yv.load1 one_23 rfl (Kn.rd (by repeat (first | exact Lend.same _ _ | exact Lend.row _ _ _ _ _ _ (by decide) | apply Lend.there)) (by exact gm (d := 0) (by omega)))) (by decide) ?_
        refine JO.v (Yv.move rfl) (by decide) ?_
        refine JO.callB (f7_spec b20 vq hq (qO ds i) (qL ds i) hQ (by omega) (by omega) (ds.getD i 0) i) body_7 rfl (by repeat (first | exact Picks.nil _ | apply Picks.cons | exact Pull.here _ _ | apply Pull.there)) (by repeat (first | exact Lends.nil _ | apply Lends.cons | exact Lend.same _ _ | exact Lend.row _ _ _ _ _ _ (by decide) | apply Lend.there)) (by rintro _ _ _ ⟨_, _, _, _, h, _⟩; exact h) (by decide) ?_
        rintro _ _ ⟨_, ⟨vq2, hq2, rfl, hQ2, _, rfl⟩, hH⟩
        simp only [List.cons_append, List.nil_append] at hH; subst hH
        refine JO.nil ?_
        refine JQ.block_normal ?_
        refine JQ.then_normal ?_
        refine JC.region ?_
        refine JO.v (Yv.move rfl) (by decide) ?_
        refine JO.v (Yv.as (v' := it ((i + 1 : Nat) : Int)) (Yv.bin rfl rfl (BinR.add_i (by first | (constructor <;> omega) | (constructor <;> simp <;> omega)))) (congrArg it (by omega))) (by decide) ?_
        refine JO.v (Yv.assign rfl) (by decide) ?_
        refine JO.nil ?_
        refine JQ.head (i + 1, vp2, vq2, hp2, hq2) (by repeat (first | exact trivial | refine ⟨by first | rfl | (simp; done), ?_⟩)) (Subs.sub (by repeat (first | exact Subs.nil _ | apply Subs.cons | exact List.Mem.head _ | refine List.Mem.tail _ ?_))) (Picks.perm (by repeat (first | exact Picks.nil _ | apply Picks.cons | exact Pull.here _ _ | apply Pull.there))) ?_
        exact ⟨⟨by dsimp only; omega, hP2, hQ2⟩, by dsimp only; omega⟩
      · try simp only [decide_eq_true_eq, decide_eq_false_iff_not, Bool.not_eq_true', Bool.not_eq_false', ne_eq, Decidable.not_not, Bool.not_eq_true, Bool.and_eq_true, Bool.or_eq_true, BitVec.reduceToNat] at hc2
        obtain rfl : i = ds.length := by omega
        have hLl := qL_len ds hl100
        have htl := tw_dw_len (dueP b) (qL ds ds.length)
        obtain ⟨htw, hdw⟩ := tw_two hab (qL ds ds.length)
        refine JC.exit ?_
        refine JQ.then_exit ?_
        refine JQ.then_exit ?_
        refine JQ.block_exit ?_
        refine JQ.then_normal ?_
        refine JC.seq ?_
        refine JC.region ?_
        refine JO.v (Yv.move rfl) (by decide) ?_
        refine JO.v (Yv.move rfl) (by decide) ?_
        refine JO.callB (f8_spec b18 vp (u64 (BitVec.ofNat 64 (qO ds ds.length))) hp (qO ds ds.length) (qL ds ds.length) hP (by omega) a) body_8 rfl (by repeat (first | exact Picks.nil _ | apply Picks.cons | exact Pull.here _ _ | apply Pull.there)) (by repeat (first | exact Lends.nil _ | apply Lends.cons | exact Lend.same _ _ | exact Lend.row _ _ _ _ _ _ (by decide) | apply Lend.there)) (by rintro _ _ _ ⟨_, _, _, h, _⟩; exact h) (by decide) ?_
        rintro v52 _ ⟨_, ⟨vp2, hp2, hP2, _, rfl⟩, hH⟩
        simp only [List.cons_append, List.nil_append] at hH; subst hH
        refine JO.v (Yv.move rfl) (by decide) ?_
        refine JO.v (Yv.move rfl) (by decide) ?_
        refine JO.callB (f8_spec b18 vp2 (u64 (BitVec.ofNat 64 (qO ds ds.length))) hp2 (qO ds ds.length) ((qL ds ds.length).dropWhile (dueP a)) hP2 (by have := tw_dw_len (dueP a) (qL ds ds.length); omega) b) body_8 rfl (by repeat (first | exact Picks.nil _ | apply Picks.cons | exact Pull.here _ _ | apply Pull.there)) (by repeat (first | exact Lends.nil _ | apply Lends.cons | exact Lend.same _ _ | exact Lend.row _ _ _ _ _ _ (by decide) | apply Lend.there)) (by rintro _ _ _ ⟨_, _, _, h, _⟩; exact h) (by decide) ?_
        rintro v55 _ ⟨_, ⟨vp3, hp3, hP3, _, rfl⟩, hH⟩
        simp only [List.cons_append, List.nil_append] at hH; subst hH
        refine JO.append Try.underlying31 info_35 rfl (by decide) rfl rfl (by repeat (first | exact Pull.here _ _ | apply Pull.there)) (by first | exact Src.nil | exact Src.rd (by repeat (first | exact Lend.same _ _ | exact Lend.row _ _ _ _ _ _ (by decide) | apply Lend.there)) (by decide) | exact Src.cells (by repeat (first | exact List.Mem.head _ | refine List.Mem.tail _ ?_)) (by simp)) (it_ones _) (by have := congrArg List.length htw; rw [List.length_append] at this; unfold maxLen; omega) (by have := congrArg List.length htw; rw [List.length_append] at this; omega) (by decide) fun v56 => ?_
        rw [show itC ((qL ds ds.length).takeWhile (dueP a)) ++ itC (((qL ds ds.length).dropWhile (dueP a)).takeWhile (dueP b)) = itC ((qL ds ds.length).takeWhile (dueP b)) from by rw [← itC_append, htw], show ((qL ds ds.length).takeWhile (dueP a)).length + (((qL ds ds.length).dropWhile (dueP a)).takeWhile (dueP b)).length = ((qL ds ds.length).takeWhile (dueP b)).length from by rw [← List.length_append, htw]]
        refine JO.v (Yv.assign rfl) (by decide) ?_
        refine JO.nil ?_
        refine JQ.then_normal ?_
        refine JC.seq ?_
        refine JC.region ?_
        refine JO.v (Yv.move rfl) (by decide) ?_
        refine JO.v (Yv.move rfl) (by decide) ?_
        refine JO.callB (f8_spec b20 vq (u64 (BitVec.ofNat 64 (qO ds ds.length))) hq (qO ds ds.length) (qL ds ds.length) hQ (by omega) b) body_8 rfl (by repeat (first | exact Picks.nil _ | apply Picks.cons | exact Pull.here _ _ | apply Pull.there)) (by repeat (first | exact Lends.nil _ | apply Lends.cons | exact Lend.same _ _ | exact Lend.row _ _ _ _ _ _ (by decide) | apply Lend.there)) (by rintro _ _ _ ⟨_, _, _, h, _⟩; exact h) (by decide) ?_
        rintro v59 _ ⟨_, ⟨vq2, hq2, hQ2, _, rfl⟩, hH⟩
        simp only [List.cons_append, List.nil_append] at hH; subst hH
        refine JO.v (Yv.assign rfl) (by decide) ?_
        refine JO.nil ?_
        refine JQ.then_normal ?_
        refine JC.seq ?_
        refine JC.region ?_
        refine JO.v (Yv.move rfl) (by decide) ?_
        have hlp := hP3.len
        rw [hdw] at hlp
        have hlq := hQ2.len
        refine JO.callB (f9_spec b18 vp3 (u64 (BitVec.ofNat 64 (qO ds ds.length))) hp3) body_9 rfl (by repeat (first | exact Picks.nil _ | apply Picks.cons | exact Pull.here _ _ | apply Pull.there)) (by repeat (first | exact Lends.nil _ | apply Lends.cons | exact Lend.same _ _ | exact Lend.row _ _ _ _ _ _ (by decide) | apply Lend.there)) (by rintro _ _ _ ⟨_, h, _⟩; exact h) (by decide) ?_
        rintro _ _ ⟨_, ⟨rfl, _, rfl⟩, hH⟩
        simp only [List.cons_append, List.nil_append] at hH; subst hH
        refine JO.v (Yv.assign rfl) (by decide) ?_
        refine JO.nil ?_
        refine JQ.then_normal ?_
        refine JC.seq ?_
        refine JC.region ?_
        refine JO.v (Yv.move rfl) (by decide) ?_
        refine JO.callB (f9_spec b20 vq2 (u64 (BitVec.ofNat 64 (qO ds ds.length))) hq2) body_9 rfl (by repeat (first | exact Picks.nil _ | apply Picks.cons | exact Pull.here _ _ | apply Pull.there)) (by repeat (first | exact Lends.nil _ | apply Lends.cons | exact Lend.same _ _ | exact Lend.row _ _ _ _ _ _ (by decide) | apply Lend.there)) (by rintro _ _ _ ⟨_, h, _⟩; exact h) (by decide) ?_
        rintro _ _ ⟨_, ⟨rfl, _, rfl⟩, hH⟩
        simp only [List.cons_append, List.nil_append] at hH; subst hH
        refine JO.v (Yv.assign rfl) (by decide) ?_
        refine JO.nil ?_
        refine JQ.then_normal ?_
        refine JC.seq ?_
        refine JC.seq ?_
        refine JC.region ?_
        refine JO.v (Yv.move rfl) (by decide) ?_
        first | refine JO.v (Yv.len_s Try.underlying31 rfl) (by decide) ?_ | refine JO.v (Yv.lenRd Try.underlying31 rfl (by repeat (first | exact Lend.same _ _ | exact Lend.row _ _ _ _ _ _ (by decide) | apply Lend.there))) (by decide) ?_
        refine JO.v (Yv.move rfl) (by decide) ?_
        first | refine JO.v (Yv.len_s Try.underlying31 rfl) (by decide) ?_ | refine JO.v (Yv.lenRd Try.underlying31 rfl (by repeat (first | exact Lend.same _ _ | exact Lend.row _ _ _ _ _ _ (by decide) | apply Lend.there))) (by decide) ?_
        refine JO.v (Yv.as (v' := .bool false) (Yv.bin rfl rfl BinR.neq_i) (congrArg Value.bool (decide_eq_false (fun h => h rfl)))) (by decide) ?_
        refine JO.v (Yv.move rfl) (by decide) ?_
        refine JO.gt (g := 69) rfl rfl rfl ?_
        refine JO.v (Yv.move rfl) (by decide) ?_
        refine JO.gt (g := 69) rfl rfl rfl ?_
        refine JO.v (Yv.move rfl) (by decide) ?_
        refine JO.gt (g := 69) rfl rfl rfl ?_
        refine JO.v (Yv.as (v' := .bool false) (Yv.bin rfl rfl BinR.neq_i) (congrArg Value.bool (decide_eq_false (by omega)))) (by decide) ?_
        refine JO.v (Yv.pick0 rfl rfl rfl) (by decide) ?_
        refine JO.v (Yv.move rfl) (by decide) ?_
        refine JO.gt (g := 74) rfl rfl rfl ?_
        refine JO.v (Yv.move rfl) (by decide) ?_
        refine JO.gt (g := 74) rfl rfl rfl ?_
        first | refine JO.v (Yv.len_s Try.underlying31 rfl) (by decide) ?_ | refine JO.v (Yv.lenRd Try.underlying31 rfl (by repeat (first | exact Lend.same _ _ | exact Lend.row _ _ _ _ _ _ (by decide) | apply Lend.there))) (by decide) ?_
        refine JO.gt (g := 74) rfl rfl rfl ?_
        refine JO.v (Yv.move rfl) (by decide) ?_
        refine JO.gt (g := 74) rfl rfl rfl ?_
        refine JO.v (Yv.bin rfl rfl (BinR.add_i (by first | (constructor <;> omega) | (constructor <;> simp <;> omega)))) (by decide) ?_
        refine JO.gt (g := 74) rfl rfl rfl ?_
        refine JO.v (Yv.move rfl) (by decide) ?_
        refine JO.gt (g := 74) rfl rfl rfl ?_
        first | refine JO.v (Yv.len_s Try.underlying22 rfl) (by decide) ?_ | refine JO.v (Yv.lenRd Try.underlying22 rfl (by repeat (first | exact Lend.same _ _ | exact Lend.row _ _ _ _ _ _ (by decide) | apply Lend.there))) (by decide) ?_
        refine JO.gt (g := 74) rfl rfl rfl ?_
        refine JO.v (Yv.as (v' := .bool false) (Yv.bin rfl rfl BinR.neq_i) (congrArg Value.bool (decide_eq_false (by omega)))) (by decide) ?_
        refine JO.v (Yv.pick0 rfl rfl rfl) (by decide) ?_
        refine JO.nil ?_
        refine JQ.then_normal ?_
        refine JC.cond rfl (fun hc3 => ?_) (fun hc3 => ?_)
        · try simp only [decide_eq_true_eq, decide_eq_false_iff_not, Bool.not_eq_true', Bool.not_eq_false', ne_eq, Decidable.not_not, Bool.not_eq_true, Bool.and_eq_true, Bool.or_eq_true, BitVec.reduceToNat] at hc3
          exact absurd hc3 (by decide)
        · try simp only [decide_eq_true_eq, decide_eq_false_iff_not, Bool.not_eq_true', Bool.not_eq_false', ne_eq, Decidable.not_not, Bool.not_eq_true, Bool.and_eq_true, Bool.or_eq_true, BitVec.reduceToNat] at hc3
          refine JC.skip ?_
          refine JQ.then_normal ?_
          refine JC.seq ?_
          refine JC.seq ?_
          refine JC.region ?_
          refine JO.v (Yv.assign rfl) (by decide) ?_
          refine JO.nil ?_
          refine JQ.then_normal ?_
          refine JC.block ?_
          refine JC.loop (ι := Nat) (fun x => x ≤ ((qL ds ds.length).takeWhile (dueP b)).length) (fun x => [(0, u), (1, u64 a), (2, u64 b), (7, .bool true), (11, v56), (12, v59), (15, it (x : Int))]) (fun x => []) (fun x => [Res.row v56 ((qL ds ds.length).takeWhile (dueP b)).length 35 2 (itC ((qL ds ds.length).takeWhile (dueP b))), Res.row v59 ((qL ds ds.length).takeWhile (dueP b)).length 35 2 (itC ((qL ds ds.length).takeWhile (dueP b)))]) (fun x => ((qL ds ds.length).takeWhile (dueP b)).length - x) 0 (by repeat (first | exact trivial | refine ⟨by first | rfl | (simp; done), ?_⟩)) (Subs.sub (by repeat (first | exact Subs.nil _ | apply Subs.cons | exact List.Mem.head _ | refine List.Mem.tail _ ?_))) (Picks.perm (by repeat (first | exact Picks.nil _ | apply Picks.cons | exact Pull.here _ _ | apply Pull.there))) ?_ (fun x hx => ?_)
          · exact Nat.zero_le _
          refine JC.seq ?_
          refine JC.seq ?_
          refine JC.region ?_
          refine JO.v (Yv.move rfl) (by decide) ?_
          refine JO.v (Yv.move rfl) (by decide) ?_
          first | refine JO.v (Yv.len_s Try.underlying31 rfl) (by decide) ?_ | refine JO.v (Yv.lenRd Try.underlying31 rfl (by repeat (first | exact Lend.same _ _ | exact Lend.row _ _ _ _ _ _ (by decide) | apply Lend.there))) (by decide) ?_
          refine JO.v (Yv.bin rfl rfl BinR.lss_i) (by decide) ?_
          refine JO.nil ?_
          refine JQ.then_normal ?_
          refine JC.cond rfl (fun hc4 => ?_) (fun hc4 => ?_)
          · try simp only [decide_eq_true_eq, decide_eq_false_iff_not, Bool.not_eq_true', Bool.not_eq_false', ne_eq, Decidable.not_not, Bool.not_eq_true, Bool.and_eq_true, Bool.or_eq_true, BitVec.reduceToNat] at hc4
            have hxl : x < ((qL ds ds.length).takeWhile (dueP b)).length := by omega
            refine JC.skip ?_
            refine JQ.then_normal ?_
            refine JC.seq ?_
            refine JC.block ?_
            refine JC.seq ?_
            refine JC.draw (.one 0 (.one 1 (.one 2 (.one 3 (.one 4 (.one 5 (.one 6 (.one 7 (.one 8 (.one 9 (.one 10 (.one 11 (.one 12 (.one 13 (.one 14 (.one 15 (.one 16 (.one 17 .nil)))))))))))))))))) (fun i => ([] : List Nat).contains i) (fun i => ([] : List Nat).contains i) (fun i => ([0, 1, 4, 5, 8, 9, 10, 11, 13, 15, 16, 17] : List Nat).contains i) mixed (by kernel_rfl) (by decide) (by kernel_rfl) ?_
            refine JR.u rfl rfl rfl (Yv.move rfl) (by decide) ?_
            refine JR.u rfl rfl rfl (Yv.move rfl) (by decide) ?_
            first | refine JR.v rfl rfl rfl (Yv.indexRow Try.underlying31 sz_35 rfl rfl (by repeat (first | exact List.Mem.head _ | refine List.Mem.tail _ ?_)) (by first | exact ltb rfl | (simp; done) | (simp; omega) | omega | (simp [*]; omega))) (by decide) ?_ | refine JR.v rfl rfl rfl (Yv.indexRd Try.underlying31 sz_35 rfl rfl (by repeat (first | exact Lend.same _ _ | exact Lend.row _ _ _ _ _ _ (by decide) | apply Lend.there)) (by decide) (by first | exact ltb rfl | (simp; done) | (simp; omega) | omega | (simp [*]; omega))) (by decide) ?_
            first | refine JR.v rfl rfl rfl (Yv.as (v' := .agg (((qL ds ds.length).takeWhile (dueP b)).getD x itD).cells.toArray) (Yv.loadOwn agg_35 (by repeat (first | exact List.Mem.head _ | refine List.Mem.tail _ ?_)) rfl (by first | rfl | (simp; done) | (simp; omega) | (simp [*]; done))) (congrArg (fun l : List Value => Value.agg l.toArray) (it_piece (by omega)))) (by decide) ?_ | refine JR.v rfl rfl rfl (Yv.as (v' := .agg (((qL ds ds.length).takeWhile (dueP b)).getD x itD).cells.toArray) (Yv.loadOwnAt agg_35 (by repeat (first | exact List.Mem.head _ | refine List.Mem.tail _ ?_)) rfl (by first | rfl | (simp; done) | (simp; omega) | (simp [*]; done))) (congrArg (fun l : List Value => Value.agg l.toArray) (it_piece (by omega)))) (by decide) ?_ | refine JR.v rfl rfl rfl (Yv.as (v' := .agg (((qL ds ds.length).takeWhile (dueP b)).getD x itD).cells.toArray) (Yv.loadRow agg_35 (by repeat (first | exact List.Mem.head _ | refine List.Mem.tail _ ?_)) rfl (by first | rfl | (simp; done) | (simp; omega) | (simp [*]; done))) (congrArg (fun l : List Value => Value.agg l.toArray) (it_piece (by omega)))) (by decide) ?_ | refine JR.v rfl rfl rfl (Yv.as (v' := .agg (((qL ds ds.length).takeWhile (dueP b)).getD x itD).cells.toArray) (Yv.loadRd agg_35 (by repeat (first | exact Lend.same _ _ | exact Lend.row _ _ _ _ _ _ (by decide) | apply Lend.there)) rfl (by first | rfl | (simp; done) | (simp; omega) | (simp [*]; done))) (congrArg (fun l : List Value => Value.agg l.toArray) (it_piece (by omega)))) (by decide) ?_ | refine JR.v rfl rfl rfl (Yv.as (v' := .agg (((qL ds ds.length).takeWhile (dueP b)).getD x itD).cells.toArray) (Yv.loadRo agg_35 (by repeat (first | exact List.Mem.head _ | refine List.Mem.tail _ ?_)) rfl (by first | rfl | (simp; done) | (simp; omega) | (simp [*]; done))) (congrArg (fun l : List Value => Value.agg l.toArray) (it_piece (by omega)))) (by decide) ?_
            refine JR.u rfl rfl rfl (Yv.move rfl) (by decide) ?_
            refine JR.u rfl rfl rfl (Yv.move rfl) (by decide) ?_
            first | refine JR.v rfl rfl rfl (Yv.indexRow Try.underlying31 sz_35 rfl rfl (by repeat (first | exact List.Mem.head _ | refine List.Mem.tail _ ?_)) (by first | exact ltb rfl | (simp; done) | (simp; omega) | omega | (simp [*]; omega))) (by decide) ?_ | refine JR.v rfl rfl rfl (Yv.indexRd Try.underlying31 sz_35 rfl rfl (by repeat (first | exact Lend.same _ _ | exact Lend.row _ _ _ _ _ _ (by decide) | apply Lend.there)) (by decide) (by first | exact ltb rfl | (simp; done) | (simp; omega) | omega | (simp [*]; omega))) (by decide) ?_
            first | refine JR.v rfl rfl rfl (Yv.as (v' := .agg (((qL ds ds.length).takeWhile (dueP b)).getD x itD).cells.toArray) (Yv.loadOwn agg_35 (by repeat (first | exact List.Mem.head _ | refine List.Mem.tail _ ?_)) rfl (by first | rfl | (simp; done) | (simp; omega) | (simp [*]; done))) (congrArg (fun l : List Value => Value.agg l.toArray) (it_piece (by omega)))) (by decide) ?_ | refine JR.v rfl rfl rfl (Yv.as (v' := .agg (((qL ds ds.length).takeWhile (dueP b)).getD x itD).cells.toArray) (Yv.loadOwnAt agg_35 (by repeat (first | exact List.Mem.head _ | refine List.Mem.tail _ ?_)) rfl (by first | rfl | (simp; done) | (simp; omega) | (simp [*]; done))) (congrArg (fun l : List Value => Value.agg l.toArray) (it_piece (by omega)))) (by decide) ?_ | refine JR.v rfl rfl rfl (Yv.as (v' := .agg (((qL ds ds.length).takeWhile (dueP b)).getD x itD).cells.toArray) (Yv.loadRow agg_35 (by repeat (first | exact List.Mem.head _ | refine List.Mem.tail _ ?_)) rfl (by first | rfl | (simp; done) | (simp; omega) | (simp [*]; done))) (congrArg (fun l : List Value => Value.agg l.toArray) (it_piece (by omega)))) (by decide) ?_ | refine JR.v rfl rfl rfl (Yv.as (v' := .agg (((qL ds ds.length).takeWhile (dueP b)).getD x itD).cells.toArray) (Yv.loadRd agg_35 (by repeat (first | exact Lend.same _ _ | exact Lend.row _ _ _ _ _ _ (by decide) | apply Lend.there)) rfl (by first | rfl | (simp; done) | (simp; omega) | (simp [*]; done))) (congrArg (fun l : List Value => Value.agg l.toArray) (it_piece (by omega)))) (by decide) ?_ | refine JR.v rfl rfl rfl (Yv.as (v' := .agg (((qL ds ds.length).takeWhile (dueP b)).getD x itD).cells.toArray) (Yv.loadRo agg_35 (by repeat (first | exact List.Mem.head _ | refine List.Mem.tail _ ?_)) rfl (by first | rfl | (simp; done) | (simp; omega) | (simp [*]; done))) (congrArg (fun l : List Value => Value.agg l.toArray) (it_piece (by omega)))) (by decide) ?_
            refine JR.u rfl rfl rfl (Yv.as (v' := .bool false) (Yv.bin rfl rfl (neq_it _ _)) (congrArg Value.bool (by simp))) (by decide) ?_
            refine JR.u rfl rfl rfl (Yv.move rfl) (by decide) ?_
            refine JR.ugt (g := 98) rfl rfl rfl rfl rfl rfl (Yv.move rfl) (by decide) ?_
            refine JR.ugt (g := 98) rfl rfl rfl rfl rfl rfl (Yv.move rfl) (by decide) ?_
            first | refine JR.vgt (g := 98) rfl rfl rfl rfl rfl rfl (Yv.indexRow Try.underlying31 sz_35 rfl rfl (by repeat (first | exact List.Mem.head _ | refine List.Mem.tail _ ?_)) (by first | exact ltb rfl | (simp; done) | (simp; omega) | omega | (simp [*]; omega))) (by decide) ?_ | refine JR.vgt (g := 98) rfl rfl rfl rfl rfl rfl (Yv.indexRd Try.underlying31 sz_35 rfl rfl (by repeat (first | exact Lend.same _ _ | exact Lend.row _ _ _ _ _ _ (by decide) | apply Lend.there)) (by decide) (by first | exact ltb rfl | (simp; done) | (simp; omega) | omega | (simp [*]; omega))) (by decide) ?_
            refine JR.ugt (g := 98) rfl rfl rfl rfl rfl rfl (Yv.fieldAddr fa_35_0 rfl) (by decide) ?_
            refine JR.vgt (g := 98) rfl rfl rfl rfl rfl rfl (Yv.load1 one_23 rfl (by first | exact Kn.own (by repeat (first | exact List.Mem.head _ | refine List.Mem.tail _ ?_)) (by first | exact it_due (by omega) | rfl | exact tab_get (by first | omega | (simp; omega)) | exact gm (d := 0) (by first | omega | (simp; omega))) | exact Kn.ro (by repeat (first | exact List.Mem.head _ | refine List.Mem.tail _ ?_)) (by first | exact it_due (by omega) | rfl | exact tab_get (by first | omega | (simp; omega)) | exact gm (d := 0) (by first | omega | (simp; omega))) | exact Kn.row (by repeat (first | exact List.Mem.head _ | refine List.Mem.tail _ ?_)) (by first | exact it_due (by omega) | rfl | exact tab_get (by first | omega | (simp; omega)) | exact gm (d := 0) (by first | omega | (simp; omega))) | exact Kn.rd (by repeat (first | exact Lend.same _ _ | exact Lend.row _ _ _ _ _ _ (by decide) | apply Lend.there)) (by first | exact it_due (by omega) | rfl | exact tab_get (by first | omega | (simp; omega)) | exact gm (d := 0) (by first | omega | (simp; omega))) | exact Kn.rd2 (by repeat (first | exact Lend.same _ _ | exact Lend.row _ _ _ _ _ _ (by decide) | apply Lend.there)) (by first | exact it_due (by omega) | rfl | exact tab_get (by first | omega | (simp; omega)) | exact gm (d := 0) (by first | omega | (simp; omega))))) (by decide) ?_
            refine JR.ugt (g := 98) rfl rfl rfl rfl rfl rfl (Yv.move rfl) (by decide) ?_
            refine JR.ugt (g := 98) rfl rfl rfl rfl rfl rfl (Yv.as (v' := .bool false) (Yv.bin rfl rfl (BinR.gtr_u64)) (congrArg Value.bool (decide_eq_false (by have := tw_at hxl; omega)))) (by decide) ?_
            refine JR.u rfl rfl rfl (Yv.pick0 rfl rfl rfl) (by decide) ?_
            refine JR.nil ?_
            refine JQ.then_normal ?_
            refine JC.cond rfl (fun hc5 => ?_) (fun hc5 => ?_)
            · try simp only [decide_eq_true_eq, decide_eq_false_iff_not, Bool.not_eq_true', Bool.not_eq_false', ne_eq, Decidable.not_not, Bool.not_eq_true, Bool.and_eq_true, Bool.or_eq_true, BitVec.reduceToNat] at hc5
              exact absurd hc5 (by decide)
            · try simp only [decide_eq_true_eq, decide_eq_false_iff_not, Bool.not_eq_true', Bool.not_eq_false', ne_eq, Decidable.not_not, Bool.not_eq_true, Bool.and_eq_true, Bool.or_eq_true, BitVec.reduceToNat] at hc5
              refine JC.skip ?_
              refine JQ.block_normal ?_
              refine JQ.then_normal ?_
              refine JC.region ?_
              refine JO.v (Yv.move rfl) (by decide) ?_
              refine JO.v (Yv.as (v' := it ((x + 1 : Nat) : Int)) (Yv.bin rfl rfl (BinR.add_i (by first | (constructor <;> omega) | (constructor <;> simp <;> omega)))) (congrArg it (by omega))) (by decide) ?_
              refine JO.v (Yv.assign rfl) (by decide) ?_
              refine JO.nil ?_
              refine JQ.head (x + 1) (by repeat (first | exact trivial | refine ⟨by first | rfl | (simp; done), ?_⟩)) (Subs.sub (by repeat (first | exact Subs.nil _ | apply Subs.cons | exact List.Mem.head _ | refine List.Mem.tail _ ?_))) (Picks.perm (by repeat (first | exact Picks.nil _ | apply Picks.cons | exact Pull.here _ _ | apply Pull.there))) ?_
              exact ⟨by omega, by omega⟩
          · try simp only [decide_eq_true_eq, decide_eq_false_iff_not, Bool.not_eq_true', Bool.not_eq_false', ne_eq, Decidable.not_not, Bool.not_eq_true, Bool.and_eq_true, Bool.or_eq_true, BitVec.reduceToNat] at hc4
            skip
            refine JC.exit ?_
            refine JQ.then_exit ?_
            refine JQ.then_exit ?_
            refine JQ.block_exit ?_
            refine JQ.then_normal ?_
            refine JC.seq ?_
            refine JC.region ?_
            refine JO.v (Yv.move rfl) (by decide) ?_
            refine JO.v (Yv.assign rfl) (by decide) ?_
            refine JO.nil ?_
            refine JQ.then_normal ?_
            refine JC.ret ?_
            exact JQ.done (.inr rfl) (Γ' := []) (H' := []) (res1 rfl (RV.tmp rfl)) (Subs.sub (by repeat (first | exact Subs.nil _ | apply Subs.cons | exact List.Mem.head _ | refine List.Mem.tail _ ?_))) (Picks.perm (by repeat (first | exact Picks.nil _ | apply Picks.cons | exact Pull.here _ _ | apply Pull.there))) ⟨rfl, rfl, rfl⟩
end Go.Proofs.Ytmefjbmaghjpfaa
