/- Walks: the document's queue. -/
import Derived.Test.YtmefjbmaghjpfaaF4
namespace Go.Proofs.Ytmefjbmaghjpfaa
open Go.RowKit
set_option maxRecDepth 100000
set_option linter.unusedVariables false
set_option linter.unusedSimpArgs false

theorem f10_spec (p : Nat) (v : Value) (L : List It) (hl : L.length ≤ 1000) (d : W64) (id : Int) :
    Spec Try.prog 10 #[(ptr p 0), (u64 d), (it id)] [Res.rd v (L).length 2 (itC (L))] [Res.cells p [v] 41]
      (fun r Γ' H' => ∃ v', r = it (addE L) ∧ Γ' = [Res.rd v' (addL ⟨d, id⟩ L).length 2 (itC (addL ⟨d, id⟩ L))] ∧ H' = [Res.cells p [v'] 41]) := by
  refine Spec.of_args Try.func10 rfl Try.ntmps10 (by simp) fun w => ?_
  refine JC.seq ?_
  refine JC.region ?_
  refine JO.v (Yv.assign rfl) (by decide) ?_
  refine JO.nil ?_
  refine JQ.then_normal ?_
  refine JC.seq ?_
  refine JC.seq ?_
  refine JC.region ?_
  refine JO.v (Yv.move rfl) (by decide) ?_
  refine JO.v (Yv.nilCheck rfl) (by decide) ?_
  refine JO.v (Yv.fieldAddr fa_41_0 rfl) (by decide) ?_
  refine JO.v (Yv.load1 one_39 rfl (by first | exact Kn.own (by repeat (first | exact List.Mem.head _ | refine List.Mem.tail _ ?_)) (by first | exact it_due (by omega) | rfl | exact tab_get (by first | omega | (simp; omega)) | exact gm (d := 0) (by first | omega | (simp; omega))) | exact Kn.ro (by repeat (first | exact List.Mem.head _ | refine List.Mem.tail _ ?_)) (by first | exact it_due (by omega) | rfl | exact tab_get (by first | omega | (simp; omega)) | exact gm (d := 0) (by first | omega | (simp; omega))) | exact Kn.row (by repeat (first | exact List.Mem.head _ | refine List.Mem.tail _ ?_)) (by first | exact it_due (by omega) | rfl | exact tab_get (by first | omega | (simp; omega)) | exact gm (d := 0) (by first | omega | (simp; omega))) | exact Kn.rd (by repeat (first | exact Lend.same _ _ | exact Lend.row _ _ _ _ _ _ (by decide) | apply Lend.there)) (by first | exact it_due (by omega) | rfl | exact tab_get (by first | omega | (simp; omega)) | exact gm (d := 0) (by first | omega | (simp; omega))) | exact Kn.rd2 (by repeat (first | exact Lend.same _ _ | exact Lend.row _ _ _ _ _ _ (by decide) | apply Lend.there)) (by first | exact it_due (by omega) | rfl | exact tab_get (by first | omega | (simp; omega)) | exact gm (d := 0) (by first | omega | (simp; omega))))) (by decide) ?_
  first | refine JO.v (Yv.len_s Try.underlying39 rfl) (by decide) ?_ | refine JO.v (Yv.lenRd Try.underlying39 rfl (by repeat (first | exact Lend.same _ _ | exact Lend.row _ _ _ _ _ _ (by decide) | apply Lend.there))) (by decide) ?_
  refine JO.v (Yv.as (v' := .bool (decide (100 ≤ L.length))) (Yv.bin rfl rfl BinR.geq_i) (congrArg Value.bool (decide_eq_decide.2 (by omega)))) (by decide) ?_
  refine JO.nil ?_
  refine JQ.then_normal ?_
  refine JC.cond rfl (fun hc1 => ?_) (fun hc1 => ?_)
  · try simp only [decide_eq_true_eq, decide_eq_false_iff_not, Bool.not_eq_true', Bool.not_eq_false', ne_eq, Decidable.not_not, Bool.not_eq_true, Bool.and_eq_true, Bool.or_eq_true, BitVec.reduceToNat] at hc1
    have h100 : 100 ≤ L.length := by omega
    refine JC.seq ?_
    refine JC.region ?_
    refine JO.v (Yv.assign rfl) (by decide) ?_
    refine JO.nil ?_
    refine JQ.then_normal ?_
    refine JC.ret ?_
    refine JQ.then_ret ?_
    exact JQ.done (.inr rfl) (Γ' := [Res.rd _ _ 2 _]) (H' := [Res.cells p [_] 41]) (res1 rfl (RV.tmp rfl)) (Subs.sub (by repeat (first | exact Subs.nil _ | apply Subs.cons | exact List.Mem.head _ | refine List.Mem.tail _ ?_))) (Picks.perm (by repeat (first | exact Picks.nil _ | apply Picks.cons | exact Pull.here _ _ | apply Pull.there))) ⟨v, by rw [addE, if_pos h100], by rw [addL, if_pos h100], rfl⟩
  · try simp only [decide_eq_true_eq, decide_eq_false_iff_not, Bool.not_eq_true', Bool.not_eq_false', ne_eq, Decidable.not_not, Bool.not_eq_true, Bool.and_eq_true, Bool.or_eq_true, BitVec.reduceToNat] at hc1
    have h100 : ¬ 100 ≤ L.length := by omega
    refine JC.skip ?_
    refine JQ.then_normal ?_
    refine JC.seq ?_
    refine JC.region ?_
    refine JO.v (Yv.assign rfl) (by decide) ?_
    refine JO.nil ?_
    refine JQ.then_normal ?_
    refine JC.seq ?_
    refine JC.block ?_
    refine JC.loop (ι := Nat) (fun x => x ≤ L.length ∧ ∀ j, j < x → (L.getD j itD).due.toNat ≤ d.toNat) (fun x => [(0, ptr p 0), (1, u64 d), (2, it id), (7, it (x : Int))]) (fun x => [Res.rd v (L).length 2 (itC (L))]) (fun x => [Res.cells p [v] 41]) (fun x => L.length - x) 0 (by repeat (first | exact trivial | refine ⟨by first | rfl | (simp; done), ?_⟩)) (Subs.sub (by repeat (first | exact Subs.nil _ | apply Subs.cons | exact List.Mem.head _ | refine List.Mem.tail _ ?_))) (Picks.perm (by repeat (first | exact Picks.nil _ | apply Picks.cons | exact Pull.here _ _ | apply Pull.there))) ?_ (fun x hx => ?_)
    · exact ⟨Nat.zero_le _, fun j hj => absurd hj (Nat.not_lt_zero _)⟩
    obtain ⟨hx, hn⟩ := hx
    refine JC.seq ?_
    refine JC.seq ?_
    refine JC.region ?_
    refine JO.v (Yv.move rfl) (by decide) ?_
    refine JO.v (Yv.move rfl) (by decide) ?_
    refine JO.v (Yv.nilCheck rfl) (by decide) ?_
    refine JO.v (Yv.fieldAddr fa_41_0 rfl) (by decide) ?_
    refine JO.v (Yv.load1 one_39 rfl (by first | exact Kn.own (by repeat (first | exact List.Mem.head _ | refine List.Mem.tail _ ?_)) (by first | exact it_due (by omega) | rfl | exact tab_get (by first | omega | (simp; omega)) | exact gm (d := 0) (by first | omega | (simp; omega))) | exact Kn.ro (by repeat (first | exact List.Mem.head _ | refine List.Mem.tail _ ?_)) (by first | exact it_due (by omega) | rfl | exact tab_get (by first | omega | (simp; omega)) | exact gm (d := 0) (by first | omega | (simp; omega))) | exact Kn.row (by repeat (first | exact List.Mem.head _ | refine List.Mem.tail _ ?_)) (by first | exact it_due (by omega) | rfl | exact tab_get (by first | omega | (simp; omega)) | exact gm (d := 0) (by first | omega | (simp; omega))) | exact Kn.rd (by repeat (first | exact Lend.same _ _ | exact Lend.row _ _ _ _ _ _ (by decide) | apply Lend.there)) (by first | exact it_due (by omega) | rfl | exact tab_get (by first | omega | (simp; omega)) | exact gm (d := 0) (by first | omega | (simp; omega))) | exact Kn.rd2 (by repeat (first | exact Lend.same _ _ | exact Lend.row _ _ _ _ _ _ (by decide) | apply Lend.there)) (by first | exact it_due (by omega) | rfl | exact tab_get (by first | omega | (simp; omega)) | exact gm (d := 0) (by first | omega | (simp; omega))))) (by decide) ?_
    first | refine JO.v (Yv.len_s Try.underlying39 rfl) (by decide) ?_ | refine JO.v (Yv.lenRd Try.underlying39 rfl (by repeat (first | exact Lend.same _ _ | exact Lend.row _ _ _ _ _ _ (by decide) | apply Lend.there))) (by decide) ?_
    refine JO.v (Yv.as (v' := .bool (decide (x < L.length))) (Yv.bin rfl rfl BinR.lss_i) (congrArg Value.bool (decide_eq_decide.2 (by omega)))) (by decide) ?_
    refine JO.v (Yv.move rfl) (by decide) ?_
    refine JO.join 11 32 (.bool (decide (x < L.length ∧ (L.getD x itD).due.toNat ≤ d.toNat))) ?_ ?_
    · skip
      refine JO.gsplit (g := 20) rfl (fun hg18 => ?_) (fun hg18 => ?_)
      · have hg18' := hg18
        try simp only [decide_eq_true_eq, decide_eq_false_iff_not, Bool.not_eq_true', Bool.not_eq_false', ne_eq, Decidable.not_not, Bool.not_eq_true, Bool.and_eq_true, Bool.or_eq_true, BitVec.reduceToNat] at hg18'
        refine JO.gt (g := 21) rfl rfl hg18 ?_
        refine JO.v (Yv.move rfl) (by decide) ?_
        refine JO.gt (g := 21) rfl rfl hg18 ?_
        refine JO.v (Yv.nilCheck rfl) (by decide) ?_
        refine JO.gt (g := 21) rfl rfl hg18 ?_
        refine JO.v (Yv.fieldAddr fa_41_0 rfl) (by decide) ?_
        refine JO.gt (g := 21) rfl rfl hg18 ?_
        refine JO.v (Yv.load1 one_39 rfl (by first | exact Kn.own (by repeat (first | exact List.Mem.head _ | refine List.Mem.tail _ ?_)) (by first | exact it_due (by omega) | rfl | exact tab_get (by first | omega | (simp; omega)) | exact gm (d := 0) (by first | omega | (simp; omega))) | exact Kn.ro (by repeat (first | exact List.Mem.head _ | refine List.Mem.tail _ ?_)) (by first | exact it_due (by omega) | rfl | exact tab_get (by first | omega | (simp; omega)) | exact gm (d := 0) (by first | omega | (simp; omega))) | exact Kn.row (by repeat (first | exact List.Mem.head _ | refine List.Mem.tail _ ?_)) (by first | exact it_due (by omega) | rfl | exact tab_get (by first | omega | (simp; omega)) | exact gm (d := 0) (by first | omega | (simp; omega))) | exact Kn.rd (by repeat (first | exact Lend.same _ _ | exact Lend.row _ _ _ _ _ _ (by decide) | apply Lend.there)) (by first | exact it_due (by omega) | rfl | exact tab_get (by first | omega | (simp; omega)) | exact gm (d := 0) (by first | omega | (simp; omega))) | exact Kn.rd2 (by repeat (first | exact Lend.same _ _ | exact Lend.row _ _ _ _ _ _ (by decide) | apply Lend.there)) (by first | exact it_due (by omega) | rfl | exact tab_get (by first | omega | (simp; omega)) | exact gm (d := 0) (by first | omega | (simp; omega))))) (by decide) ?_
        refine JO.gt (g := 21) rfl rfl hg18 ?_
        refine JO.v (Yv.move rfl) (by decide) ?_
        refine JO.gt (g := 21) rfl rfl hg18 ?_
        first | refine JO.v (Yv.indexRow Try.underlying39 sz_46 rfl rfl (by repeat (first | exact List.Mem.head _ | refine List.Mem.tail _ ?_)) (by first | exact ltb rfl | (simp; done) | (simp; omega) | omega | (simp [*]; omega))) (by decide) ?_ | refine JO.v (Yv.indexRd Try.underlying39 sz_46 rfl rfl (by repeat (first | exact Lend.same _ _ | exact Lend.row _ _ _ _ _ _ (by decide) | apply Lend.there)) (by decide) (by first | exact ltb rfl | (simp; done) | (simp; omega) | omega | (simp [*]; omega))) (by decide) ?_
        refine JO.gt (g := 21) rfl rfl hg18 ?_
        refine JO.v (Yv.fieldAddr fa_46_0 rfl) (by decide) ?_
        refine JO.gt (g := 21) rfl rfl hg18 ?_
        refine JO.v (Yv.load1 one_23 rfl (by first | exact Kn.own (by repeat (first | exact List.Mem.head _ | refine List.Mem.tail _ ?_)) (by first | exact it_due (by omega) | rfl | exact tab_get (by first | omega | (simp; omega)) | exact gm (d := 0) (by first | omega | (simp; omega))) | exact Kn.ro (by repeat (first | exact List.Mem.head _ | refine List.Mem.tail _ ?_)) (by first | exact it_due (by omega) | rfl | exact tab_get (by first | omega | (simp; omega)) | exact gm (d := 0) (by first | omega | (simp; omega))) | exact Kn.row (by repeat (first | exact List.Mem.head _ | refine List.Mem.tail _ ?_)) (by first | exact it_due (by omega) | rfl | exact tab_get (by first | omega | (simp; omega)) | exact gm (d := 0) (by first | omega | (simp; omega))) | exact Kn.rd (by repeat (first | exact Lend.same _ _ | exact Lend.row _ _ _ _ _ _ (by decide) | apply Lend.there)) (by first | exact it_due (by omega) | rfl | exact tab_get (by first | omega | (simp; omega)) | exact gm (d := 0) (by first | omega | (simp; omega))) | exact Kn.rd2 (by repeat (first | exact Lend.same _ _ | exact Lend.row _ _ _ _ _ _ (by decide) | apply Lend.there)) (by first | exact it_due (by omega) | rfl | exact tab_get (by first | omega | (simp; omega)) | exact gm (d := 0) (by first | omega | (simp; omega))))) (by decide) ?_
        refine JO.gt (g := 21) rfl rfl hg18 ?_
        refine JO.v (Yv.move rfl) (by decide) ?_
        refine JO.gt (g := 21) rfl rfl hg18 ?_
        refine JO.v (Yv.bin rfl rfl (BinR.leq_u64)) (by decide) ?_
        refine JO.v (Yv.pick1 rfl hg18 rfl) (by decide) ?_
        refine JO.nil ?_
        refine JQ.head () (by first | (refine ⟨by first | rfl | (simp [*]; done) | (show some _ = some _; simp [*]; done), ?_⟩; repeat (first | exact trivial | refine ⟨rfl, ?_⟩))) (Subs.sub (by repeat (first | exact Subs.nil _ | apply Subs.cons | exact List.Mem.head _ | refine List.Mem.tail _ ?_))) (Picks.perm (by repeat (first | exact Picks.nil _ | apply Picks.cons | exact Pull.here _ _ | apply Pull.there))) ?_
        trivial
      · have hg18' := hg18
        try simp only [decide_eq_true_eq, decide_eq_false_iff_not, Bool.not_eq_true', Bool.not_eq_false', ne_eq, Decidable.not_not, Bool.not_eq_true, Bool.and_eq_true, Bool.or_eq_true, BitVec.reduceToNat] at hg18'
        refine JO.gf (g := 21) rfl rfl hg18 (by decide) ?_
        refine JO.gf (g := 21) rfl rfl hg18 (by decide) ?_
        refine JO.gf (g := 21) rfl rfl hg18 (by decide) ?_
        refine JO.gf (g := 21) rfl rfl hg18 (by decide) ?_
        refine JO.gf (g := 21) rfl rfl hg18 (by decide) ?_
        refine JO.gf (g := 21) rfl rfl hg18 (by decide) ?_
        refine JO.gf (g := 21) rfl rfl hg18 (by decide) ?_
        refine JO.gf (g := 21) rfl rfl hg18 (by decide) ?_
        refine JO.gf (g := 21) rfl rfl hg18 (by decide) ?_
        refine JO.gf (g := 21) rfl rfl hg18 (by decide) ?_
        refine JO.v (Yv.pick0 rfl hg18 rfl) (by decide) ?_
        refine JO.nil ?_
        refine JQ.head () (by first | (refine ⟨by first | rfl | (simp [*]; done) | (show some _ = some _; simp [*]; done), ?_⟩; repeat (first | exact trivial | refine ⟨rfl, ?_⟩))) (Subs.sub (by repeat (first | exact Subs.nil _ | apply Subs.cons | exact List.Mem.head _ | refine List.Mem.tail _ ?_))) (Picks.perm (by repeat (first | exact Picks.nil _ | apply Picks.cons | exact Pull.here _ _ | apply Pull.there))) ?_
        trivial
    · skip
      refine JO.nil ?_
      refine JQ.then_normal ?_
      refine JC.cond rfl (fun hc2 => ?_) (fun hc2 => ?_)
      · try simp only [decide_eq_true_eq, decide_eq_false_iff_not, Bool.not_eq_true', Bool.not_eq_false', ne_eq, Decidable.not_not, Bool.not_eq_true, Bool.and_eq_true, Bool.or_eq_true, BitVec.reduceToNat] at hc2
        skip
        refine JC.skip ?_
        refine JQ.then_normal ?_
        refine JC.block ?_
        refine JC.region ?_
        refine JO.v (Yv.move rfl) (by decide) ?_
        refine JO.v (Yv.as (v' := it ((x + 1 : Nat) : Int)) (Yv.bin rfl rfl (BinR.add_i (by first | (constructor <;> omega) | (constructor <;> simp <;> omega)))) (congrArg it (by omega))) (by decide) ?_
        refine JO.v (Yv.assign rfl) (by decide) ?_
        refine JO.nil ?_
        refine JQ.block_normal ?_
        refine JQ.head (x + 1) (by repeat (first | exact trivial | refine ⟨by first | rfl | (simp; done), ?_⟩)) (Subs.sub (by repeat (first | exact Subs.nil _ | apply Subs.cons | exact List.Mem.head _ | refine List.Mem.tail _ ?_))) (Picks.perm (by repeat (first | exact Picks.nil _ | apply Picks.cons | exact Pull.here _ _ | apply Pull.there))) ?_
        refine ⟨⟨by omega, fun j hj => ?_⟩, by omega⟩
        rcases Nat.lt_succ_iff_lt_or_eq.1 hj with h1 | rfl
        · exact hn j h1
        · exact hc2.2
      · try simp only [decide_eq_true_eq, decide_eq_false_iff_not, Bool.not_eq_true', Bool.not_eq_false', ne_eq, Decidable.not_not, Bool.not_eq_true, Bool.and_eq_true, Bool.or_eq_true, BitVec.reduceToNat] at hc2
        have hins := ins_at (x := ⟨d, id⟩) hx hn hc2
        refine JC.exit ?_
        refine JQ.then_exit ?_
        refine JQ.then_exit ?_
        refine JQ.block_exit ?_
        refine JQ.then_normal ?_
        refine JC.seq ?_
        refine JC.draw (.one 0 (.one 2 (.one 3 (.one 4 (.one 5 (.one 6 (.one 7 (.one 9 (.one 10 (.one 11 (.one 14 (.one 15 (.one 16 (.one 17 (.one 18 (.one 19 (.alt 1 (.alt 8 (.one 12 (.one 13 (.one 20 (.one 21 (.one 22 (.one 23 .nil)))))) (.alt 12 (.one 8 (.one 13 (.one 20 (.one 21 (.one 22 (.one 23 .nil)))))) .nil)) (.alt 12 (.one 1 (.one 8 (.one 13 (.one 20 (.one 21 (.one 22 (.one 23 .nil))))))) .nil)))))))))))))))))) (fun i => ([23] : List Nat).contains i) (fun i => ([1, 8, 12, 13, 20, 23] : List Nat).contains i) (fun i => ([0, 2, 3, 4, 6, 7, 9, 10, 11, 14, 15, 16, 18, 19, 21, 22] : List Nat).contains i) mixed (by kernel_rfl) (by decide) (by kernel_rfl) ?_
        refine JR.u rfl rfl rfl (Yv.move rfl) (by decide) ?_
        refine JR.u rfl rfl rfl (Yv.move rfl) (by decide) ?_
        refine JR.u rfl rfl rfl (Yv.nilCheck rfl) (by decide) ?_
        refine JR.u rfl rfl rfl (Yv.fieldAddr fa_41_0 rfl) (by decide) ?_
        refine JR.v rfl rfl rfl (Yv.load1 one_39 rfl (by first | exact Kn.own (by repeat (first | exact List.Mem.head _ | refine List.Mem.tail _ ?_)) (by first | exact it_due (by omega) | rfl | exact tab_get (by first | omega | (simp; omega)) | exact gm (d := 0) (by first | omega | (simp; omega))) | exact Kn.ro (by repeat (first | exact List.Mem.head _ | refine List.Mem.tail _ ?_)) (by first | exact it_due (by omega) | rfl | exact tab_get (by first | omega | (simp; omega)) | exact gm (d := 0) (by first | omega | (simp; omega))) | exact Kn.row (by repeat (first | exact List.Mem.head _ | refine List.Mem.tail _ ?_)) (by first | exact it_due (by omega) | rfl | exact tab_get (by first | omega | (simp; omega)) | exact gm (d := 0) (by first | omega | (simp; omega))) | exact Kn.rd (by repeat (first | exact Lend.same _ _ | exact Lend.row _ _ _ _ _ _ (by decide) | apply Lend.there)) (by first | exact it_due (by omega) | rfl | exact tab_get (by first | omega | (simp; omega)) | exact gm (d := 0) (by first | omega | (simp; omega))) | exact Kn.rd2 (by repeat (first | exact Lend.same _ _ | exact Lend.row _ _ _ _ _ _ (by decide) | apply Lend.there)) (by first | exact it_due (by omega) | rfl | exact tab_get (by first | omega | (simp; omega)) | exact gm (d := 0) (by first | omega | (simp; omega))))) (by decide) ?_
        refine JR.u rfl rfl rfl (Yv.move rfl) (by decide) ?_
        refine JR.u rfl rfl rfl (Yv.cutRd (l := 0) (h := x) Try.underlying39 sz_46 rfl (by repeat (first | exact List.Mem.head _ | refine List.Mem.tail _ ?_)) rfl ⟨_, rfl⟩ (by first | (simp; done) | omega | (simp; omega)) (by first | (simp; done) | omega | (simp; omega))) (by decide) ?_
        refine JR.u rfl rfl rfl (Yv.move rfl) (by decide) ?_
        refine JR.u rfl rfl rfl (Yv.move rfl) (by decide) ?_
        refine JR.u rfl rfl rfl (Yv.as (v' := .agg (⟨d, id⟩ : It).cells.toArray) (Yv.build bld_46 rfl rfl) rfl) (by decide) ?_
        refine JR.u rfl rfl rfl (Yv.move rfl) (by decide) ?_
        refine JR.u rfl rfl rfl (Yv.nilCheck rfl) (by decide) ?_
        refine JR.u rfl rfl rfl (Yv.fieldAddr fa_41_0 rfl) (by decide) ?_
        refine JR.v rfl rfl rfl (Yv.load1 one_39 rfl (by first | exact Kn.own (by repeat (first | exact List.Mem.head _ | refine List.Mem.tail _ ?_)) (by first | exact it_due (by omega) | rfl | exact tab_get (by first | omega | (simp; omega)) | exact gm (d := 0) (by first | omega | (simp; omega))) | exact Kn.ro (by repeat (first | exact List.Mem.head _ | refine List.Mem.tail _ ?_)) (by first | exact it_due (by omega) | rfl | exact tab_get (by first | omega | (simp; omega)) | exact gm (d := 0) (by first | omega | (simp; omega))) | exact Kn.row (by repeat (first | exact List.Mem.head _ | refine List.Mem.tail _ ?_)) (by first | exact it_due (by omega) | rfl | exact tab_get (by first | omega | (simp; omega)) | exact gm (d := 0) (by first | omega | (simp; omega))) | exact Kn.rd (by repeat (first | exact Lend.same _ _ | exact Lend.row _ _ _ _ _ _ (by decide) | apply Lend.there)) (by first | exact it_due (by omega) | rfl | exact tab_get (by first | omega | (simp; omega)) | exact gm (d := 0) (by first | omega | (simp; omega))) | exact Kn.rd2 (by repeat (first | exact Lend.same _ _ | exact Lend.row _ _ _ _ _ _ (by decide) | apply Lend.there)) (by first | exact it_due (by omega) | rfl | exact tab_get (by first | omega | (simp; omega)) | exact gm (d := 0) (by first | omega | (simp; omega))))) (by decide) ?_
        refine JR.u rfl rfl rfl (Yv.move rfl) (by decide) ?_
        refine JR.u rfl rfl rfl (Yv.cutRd (l := x) (h := L.length) Try.underlying39 sz_46 rfl (by repeat (first | exact List.Mem.head _ | refine List.Mem.tail _ ?_)) ⟨_, rfl⟩ rfl (by first | (simp; done) | omega | (simp; omega)) (by first | (simp; done) | omega | (simp; omega))) (by decide) ?_
        refine JR.alt rfl ?_ ?_
        · skip
          refine JR.m rfl rfl (Mv.buildEmpty Try.underlying39 sz_46) (by decide) ?_
          rintro v36 _ _ ⟨rfl, rfl⟩
          refine ⟨⟨Subs.sub (by repeat (first | exact Subs.nil _ | apply Subs.cons | exact List.Mem.head _ | refine List.Mem.tail _ ?_)), .inr (St.keep (by repeat (first | exact Subs.nil _ | apply Subs.cons | exact List.Mem.head _ | refine List.Mem.tail _ ?_)) (by repeat (first | exact Picks.nil _ | apply Picks.cons | exact Pull.here _ _ | apply Pull.there)))⟩, ?_⟩
          refine JR.alt rfl ?_ ?_
          · skip
            refine JR.cutRd (v := v) (0) (x) (by repeat (first | exact List.Mem.head _ | refine List.Mem.tail _ ?_)) (by first | omega | (simp; try omega)) (by first | omega | (simp; try omega)) ?_
            rw [cut_it]
            refine JR.m rfl rfl (Mv.append Try.underlying39 info_46 rfl (by decide) rfl rfl (by repeat (first | exact Pull.here _ _ | apply Pull.there)) (by first | exact Src.nil | exact Src.rd (by repeat (first | exact Lend.same _ _ | exact Lend.row _ _ _ _ _ _ (by decide) | apply Lend.there)) (by decide) | exact Src.cells (by repeat (first | exact List.Mem.head _ | refine List.Mem.tail _ ?_)) (by simp)) (by first | exact it_ones _ | (intro a ha; exact it_one1 ⟨d, id⟩ a ha)) (by unfold maxLen; first | omega | (simp; omega)) (by first | omega | (simp; omega))) (by decide) ?_
            rintro v43 _ _ ⟨rfl, rfl⟩
            refine ⟨⟨Subs.sub (by repeat (first | exact Subs.nil _ | apply Subs.cons | exact List.Mem.head _ | refine List.Mem.tail _ ?_)), .inr (St.keep (by repeat (first | exact Subs.nil _ | apply Subs.cons | exact List.Mem.head _ | refine List.Mem.tail _ ?_)) (by repeat (first | exact Picks.nil _ | apply Picks.cons | exact Pull.here _ _ | apply Pull.there)))⟩, ?_⟩
            refine JR.m rfl rfl (Mv.lit Try.underlying39 info_46 rfl rfl (by intro v hv; simp at hv; subst hv; rfl) (by decide) (by decide) (by unfold maxLen; omega)) (by decide) ?_
            rintro v47 _ _ ⟨rfl, rfl⟩
            refine ⟨⟨Subs.sub (by repeat (first | exact Subs.nil _ | apply Subs.cons | exact List.Mem.head _ | refine List.Mem.tail _ ?_)), .inr (St.keep (by repeat (first | exact Subs.nil _ | apply Subs.cons | exact List.Mem.head _ | refine List.Mem.tail _ ?_)) (by repeat (first | exact Picks.nil _ | apply Picks.cons | exact Pull.here _ _ | apply Pull.there)))⟩, ?_⟩
            refine JR.m rfl rfl (Mv.append Try.underlying39 info_46 rfl (by decide) rfl rfl (by repeat (first | exact Pull.here _ _ | apply Pull.there)) (by first | exact Src.nil | exact Src.rd (by repeat (first | exact Lend.same _ _ | exact Lend.row _ _ _ _ _ _ (by decide) | apply Lend.there)) (by decide) | exact Src.cells (by repeat (first | exact List.Mem.head _ | refine List.Mem.tail _ ?_)) (by simp)) (by first | exact it_ones _ | (intro a ha; exact it_one1 ⟨d, id⟩ a ha)) (by unfold maxLen; first | omega | (simp; omega)) (by first | omega | (simp; omega))) (by decide) ?_
            rintro v48 _ _ ⟨rfl, rfl⟩
            refine ⟨⟨Subs.sub (by repeat (first | exact Subs.nil _ | apply Subs.cons | exact List.Mem.head _ | refine List.Mem.tail _ ?_)), .inr (St.keep (by repeat (first | exact Subs.nil _ | apply Subs.cons | exact List.Mem.head _ | refine List.Mem.tail _ ?_)) (by repeat (first | exact Picks.nil _ | apply Picks.cons | exact Pull.here _ _ | apply Pull.there)))⟩, ?_⟩
            refine JR.cutRd (v := v) (x) (L.length) (by repeat (first | exact List.Mem.head _ | refine List.Mem.tail _ ?_)) (by first | omega | (simp; try omega)) (by first | omega | (simp; try omega)) ?_
            rw [cut_it]
            refine JR.m rfl rfl (Mv.append Try.underlying39 info_46 rfl (by decide) rfl rfl (by repeat (first | exact Pull.here _ _ | apply Pull.there)) (by first | exact Src.nil | exact Src.rd (by repeat (first | exact Lend.same _ _ | exact Lend.row _ _ _ _ _ _ (by decide) | apply Lend.there)) (by decide) | exact Src.cells (by repeat (first | exact List.Mem.head _ | refine List.Mem.tail _ ?_)) (by simp)) (by first | exact it_ones _ | (intro a ha; exact it_one1 ⟨d, id⟩ a ha)) (by unfold maxLen; first | omega | (simp; omega)) (by first | omega | (simp; omega))) (by decide) ?_
            rintro v55 _ _ ⟨rfl, rfl⟩
            refine ⟨⟨Subs.sub (by repeat (first | exact Subs.nil _ | apply Subs.cons | exact List.Mem.head _ | refine List.Mem.tail _ ?_)), .inr (St.keep (by repeat (first | exact Subs.nil _ | apply Subs.cons | exact List.Mem.head _ | refine List.Mem.tail _ ?_)) (by repeat (first | exact Picks.nil _ | apply Picks.cons | exact Pull.here _ _ | apply Pull.there)))⟩, ?_⟩
            refine JR.u rfl rfl rfl (Yv.nilCheck rfl) (by decide) ?_
            refine JR.u rfl rfl rfl (Yv.fieldAddr fa_41_0 rfl) (by decide) ?_
            first | refine JR.m0 rfl rfl (Mv.store1 sz_39 rfl rfl rfl (by repeat (first | exact Upd.here _ _ _ | apply Upd.there)) (by first | exact ltb rfl | (simp; done) | (simp; omega) | omega | (simp [*]; omega))) ?_ | refine JR.m0 rfl rfl (Mv.store1s sz_39 rfl rfl (by repeat (first | exact Lend.same _ _ | exact Lend.row _ _ _ _ _ _ (by decide) | apply Lend.there)) (by repeat (first | exact Upd.here _ _ _ | apply Upd.there)) (by first | exact ltb rfl | (simp; done) | (simp; omega) | omega | (simp [*]; omega))) ?_ | refine JR.m0 rfl rfl (Mv.storeRow1 sz_39 rfl rfl rfl (by repeat (first | exact Upd.here _ _ _ | apply Upd.there)) (by first | exact ltb rfl | (simp; done) | (simp; omega) | omega | (simp [*]; omega)) (by first | rfl | (simp; done) | omega | (simp; omega))) ?_
            rintro _ _ _ ⟨rfl, rfl⟩
            refine ⟨⟨Subs.sub (by repeat (first | exact Subs.nil _ | apply Subs.cons | exact List.Mem.head _ | refine List.Mem.tail _ ?_)), .inl rfl⟩, ?_⟩
            refine JR.nil ?_
            refine JQ.then_normal ?_
            refine JC.seq ?_
            refine JC.region ?_
            refine JO.freeze (by repeat (first | exact Pull.here _ _ | apply Pull.there)) (by decide) ?_
            refine JO.v (Yv.assign rfl) (by decide) ?_
            refine JO.nil ?_
            refine JQ.then_normal ?_
            refine JC.ret ?_
            exact JQ.done (.inr rfl) (Γ' := [Res.rd _ _ 2 _]) (H' := [Res.cells p [_] 41]) (res1 rfl (RV.tmp rfl)) (Subs.sub (by repeat (first | exact Subs.nil _ | apply Subs.cons | exact List.Mem.head _ | refine List.Mem.tail _ ?_))) (Picks.perm (by repeat (first | exact Picks.nil _ | apply Picks.cons | exact Pull.here _ _ | apply Pull.there))) ⟨_, by rw [addE, if_neg h100], by rw [addL, if_neg h100, hins]; exact congrArg (fun r => [r]) (radd_eq hx), rfl⟩
          refine JA.alt rfl ?_ ?_
          · skip
            refine JR.m rfl rfl (Mv.lit Try.underlying39 info_46 rfl rfl (by intro v hv; simp at hv; subst hv; rfl) (by decide) (by decide) (by unfold maxLen; omega)) (by decide) ?_
            rintro v47 _ _ ⟨rfl, rfl⟩
            refine ⟨⟨Subs.sub (by repeat (first | exact Subs.nil _ | apply Subs.cons | exact List.Mem.head _ | refine List.Mem.tail _ ?_)), .inr (St.keep (by repeat (first | exact Subs.nil _ | apply Subs.cons | exact List.Mem.head _ | refine List.Mem.tail _ ?_)) (by repeat (first | exact Picks.nil _ | apply Picks.cons | exact Pull.here _ _ | apply Pull.there)))⟩, ?_⟩
            refine JR.cutRd (v := v) (0) (x) (by repeat (first | exact List.Mem.head _ | refine List.Mem.tail _ ?_)) (by first | omega | (simp; try omega)) (by first | omega | (simp; try omega)) ?_
            rw [cut_it]
            refine JR.m rfl rfl (Mv.append Try.underlying39 info_46 rfl (by decide) rfl rfl (by repeat (first | exact Pull.here _ _ | apply Pull.there)) (by first | exact Src.nil | exact Src.rd (by repeat (first | exact Lend.same _ _ | exact Lend.row _ _ _ _ _ _ (by decide) | apply Lend.there)) (by decide) | exact Src.cells (by repeat (first | exact List.Mem.head _ | refine List.Mem.tail _ ?_)) (by simp)) (by first | exact it_ones _ | (intro a ha; exact it_one1 ⟨d, id⟩ a ha)) (by unfold maxLen; first | omega | (simp; omega)) (by first | omega | (simp; omega))) (by decide) ?_
            rintro v43 _ _ ⟨rfl, rfl⟩
            refine ⟨⟨Subs.sub (by repeat (first | exact Subs.nil _ | apply Subs.cons | exact List.Mem.head _ | refine List.Mem.tail _ ?_)), .inr (St.keep (by repeat (first | exact Subs.nil _ | apply Subs.cons | exact List.Mem.head _ | refine List.Mem.tail _ ?_)) (by repeat (first | exact Picks.nil _ | apply Picks.cons | exact Pull.here _ _ | apply Pull.there)))⟩, ?_⟩
            refine JR.m rfl rfl (Mv.append Try.underlying39 info_46 rfl (by decide) rfl rfl (by repeat (first | exact Pull.here _ _ | apply Pull.there)) (by first | exact Src.nil | exact Src.rd (by repeat (first | exact Lend.same _ _ | exact Lend.row _ _ _ _ _ _ (by decide) | apply Lend.there)) (by decide) | exact Src.cells (by repeat (first | exact List.Mem.head _ | refine List.Mem.tail _ ?_)) (by simp)) (by first | exact it_ones _ | (intro a ha; exact it_one1 ⟨d, id⟩ a ha)) (by unfold maxLen; first | omega | (simp; omega)) (by first | omega | (simp; omega))) (by decide) ?_
            rintro v48 _ _ ⟨rfl, rfl⟩
            refine ⟨⟨Subs.sub (by repeat (first | exact Subs.nil _ | apply Subs.cons | exact List.Mem.head _ | refine List.Mem.tail _ ?_)), .inr (St.keep (by repeat (first | exact Subs.nil _ | apply Subs.cons | exact List.Mem.head _ | refine List.Mem.tail _ ?_)) (by repeat (first | exact Picks.nil _ | apply Picks.cons | exact Pull.here _ _ | apply Pull.there)))⟩, ?_⟩
            refine JR.cutRd (v := v) (x) (L.length) (by repeat (first | exact List.Mem.head _ | refine List.Mem.tail _ ?_)) (by first | omega | (simp; try omega)) (by first | omega | (simp; try omega)) ?_
            rw [cut_it]
            refine JR.m rfl rfl (Mv.append Try.underlying39 info_46 rfl (by decide) rfl rfl (by repeat (first | exact Pull.here _ _ | apply Pull.there)) (by first | exact Src.nil | exact Src.rd (by repeat (first | exact Lend.same _ _ | exact Lend.row _ _ _ _ _ _ (by decide) | apply Lend.there)) (by decide) | exact Src.cells (by repeat (first | exact List.Mem.head _ | refine List.Mem.tail _ ?_)) (by simp)) (by first | exact it_ones _ | (intro a ha; exact it_one1 ⟨d, id⟩ a ha)) (by unfold maxLen; first | omega | (simp; omega)) (by first | omega | (simp; omega))) (by decide) ?_
            rintro v55 _ _ ⟨rfl, rfl⟩
            refine ⟨⟨Subs.sub (by repeat (first | exact Subs.nil _ | apply Subs.cons | exact List.Mem.head _ | refine List.Mem.tail _ ?_)), .inr (St.keep (by repeat (first | exact Subs.nil _ | apply Subs.cons | exact List.Mem.head _ | refine List.Mem.tail _ ?_)) (by repeat (first | exact Picks.nil _ | apply Picks.cons | exact Pull.here _ _ | apply Pull.there)))⟩, ?_⟩
            refine JR.u rfl rfl rfl (Yv.nilCheck rfl) (by decide) ?_
            refine JR.u rfl rfl rfl (Yv.fieldAddr fa_41_0 rfl) (by decide) ?_
            first | refine JR.m0 rfl rfl (Mv.store1 sz_39 rfl rfl rfl (by repeat (first | exact Upd.here _ _ _ | apply Upd.there)) (by first | exact ltb rfl | (simp; done) | (simp; omega) | omega | (simp [*]; omega))) ?_ | refine JR.m0 rfl rfl (Mv.store1s sz_39 rfl rfl (by repeat (first | exact Lend.same _ _ | exact Lend.row _ _ _ _ _ _ (by decide) | apply Lend.there)) (by repeat (first | exact Upd.here _ _ _ | apply Upd.there)) (by first | exact ltb rfl | (simp; done) | (simp; omega) | omega | (simp [*]; omega))) ?_ | refine JR.m0 rfl rfl (Mv.storeRow1 sz_39 rfl rfl rfl (by repeat (first | exact Upd.here _ _ _ | apply Upd.there)) (by first | exact ltb rfl | (simp; done) | (simp; omega) | omega | (simp [*]; omega)) (by first | rfl | (simp; done) | omega | (simp; omega))) ?_
            rintro _ _ _ ⟨rfl, rfl⟩
            refine ⟨⟨Subs.sub (by repeat (first | exact Subs.nil _ | apply Subs.cons | exact List.Mem.head _ | refine List.Mem.tail _ ?_)), .inl rfl⟩, ?_⟩
            refine JR.nil ?_
            refine JQ.then_normal ?_
            refine JC.seq ?_
            refine JC.region ?_
            refine JO.freeze (by repeat (first | exact Pull.here _ _ | apply Pull.there)) (by decide) ?_
            refine JO.v (Yv.assign rfl) (by decide) ?_
            refine JO.nil ?_
            refine JQ.then_normal ?_
            refine JC.ret ?_
            exact JQ.done (.inr rfl) (Γ' := [Res.rd _ _ 2 _]) (H' := [Res.cells p [_] 41]) (res1 rfl (RV.tmp rfl)) (Subs.sub (by repeat (first | exact Subs.nil _ | apply Subs.cons | exact List.Mem.head _ | refine List.Mem.tail _ ?_))) (Picks.perm (by repeat (first | exact Picks.nil _ | apply Picks.cons | exact Pull.here _ _ | apply Pull.there))) ⟨_, by rw [addE, if_neg h100], by rw [addL, if_neg h100, hins]; exact congrArg (fun r => [r]) (radd_eq hx), rfl⟩
          exact JA.nil
        refine JA.alt rfl ?_ ?_
        · skip
          refine JR.m rfl rfl (Mv.lit Try.underlying39 info_46 rfl rfl (by intro v hv; simp at hv; subst hv; rfl) (by decide) (by decide) (by unfold maxLen; omega)) (by decide) ?_
          rintro v47 _ _ ⟨rfl, rfl⟩
          refine ⟨⟨Subs.sub (by repeat (first | exact Subs.nil _ | apply Subs.cons | exact List.Mem.head _ | refine List.Mem.tail _ ?_)), .inr (St.keep (by repeat (first | exact Subs.nil _ | apply Subs.cons | exact List.Mem.head _ | refine List.Mem.tail _ ?_)) (by repeat (first | exact Picks.nil _ | apply Picks.cons | exact Pull.here _ _ | apply Pull.there)))⟩, ?_⟩
          refine JR.m rfl rfl (Mv.buildEmpty Try.underlying39 sz_46) (by decide) ?_
          rintro v36 _ _ ⟨rfl, rfl⟩
          refine ⟨⟨Subs.sub (by repeat (first | exact Subs.nil _ | apply Subs.cons | exact List.Mem.head _ | refine List.Mem.tail _ ?_)), .inr (St.keep (by repeat (first | exact Subs.nil _ | apply Subs.cons | exact List.Mem.head _ | refine List.Mem.tail _ ?_)) (by repeat (first | exact Picks.nil _ | apply Picks.cons | exact Pull.here _ _ | apply Pull.there)))⟩, ?_⟩
          refine JR.cutRd (v := v) (0) (x) (by repeat (first | exact List.Mem.head _ | refine List.Mem.tail _ ?_)) (by first | omega | (simp; try omega)) (by first | omega | (simp; try omega)) ?_
          rw [cut_it]
          refine JR.m rfl rfl (Mv.append Try.underlying39 info_46 rfl (by decide) rfl rfl (by repeat (first | exact Pull.here _ _ | apply Pull.there)) (by first | exact Src.nil | exact Src.rd (by repeat (first | exact Lend.same _ _ | exact Lend.row _ _ _ _ _ _ (by decide) | apply Lend.there)) (by decide) | exact Src.cells (by repeat (first | exact List.Mem.head _ | refine List.Mem.tail _ ?_)) (by simp)) (by first | exact it_ones _ | (intro a ha; exact it_one1 ⟨d, id⟩ a ha)) (by unfold maxLen; first | omega | (simp; omega)) (by first | omega | (simp; omega))) (by decide) ?_
          rintro v43 _ _ ⟨rfl, rfl⟩
          refine ⟨⟨Subs.sub (by repeat (first | exact Subs.nil _ | apply Subs.cons | exact List.Mem.head _ | refine List.Mem.tail _ ?_)), .inr (St.keep (by repeat (first | exact Subs.nil _ | apply Subs.cons | exact List.Mem.head _ | refine List.Mem.tail _ ?_)) (by repeat (first | exact Picks.nil _ | apply Picks.cons | exact Pull.here _ _ | apply Pull.there)))⟩, ?_⟩
          refine JR.m rfl rfl (Mv.append Try.underlying39 info_46 rfl (by decide) rfl rfl (by repeat (first | exact Pull.here _ _ | apply Pull.there)) (by first | exact Src.nil | exact Src.rd (by repeat (first | exact Lend.same _ _ | exact Lend.row _ _ _ _ _ _ (by decide) | apply Lend.there)) (by decide) | exact Src.cells (by repeat (first | exact List.Mem.head _ | refine List.Mem.tail _ ?_)) (by simp)) (by first | exact it_ones _ | (intro a ha; exact it_one1 ⟨d, id⟩ a ha)) (by unfold maxLen; first | omega | (simp; omega)) (by first | omega | (simp; omega))) (by decide) ?_
          rintro v48 _ _ ⟨rfl, rfl⟩
          refine ⟨⟨Subs.sub (by repeat (first | exact Subs.nil _ | apply Subs.cons | exact List.Mem.head _ | refine List.Mem.tail _ ?_)), .inr (St.keep (by repeat (first | exact Subs.nil _ | apply Subs.cons | exact List.Mem.head _ | refine List.Mem.tail _ ?_)) (by repeat (first | exact Picks.nil _ | apply Picks.cons | exact Pull.here _ _ | apply Pull.there)))⟩, ?_⟩
          refine JR.cutRd (v := v) (x) (L.length) (by repeat (first | exact List.Mem.head _ | refine List.Mem.tail _ ?_)) (by first | omega | (simp; try omega)) (by first | omega | (simp; try omega)) ?_
          rw [cut_it]
          refine JR.m rfl rfl (Mv.append Try.underlying39 info_46 rfl (by decide) rfl rfl (by repeat (first | exact Pull.here _ _ | apply Pull.there)) (by first | exact Src.nil | exact Src.rd (by repeat (first | exact Lend.same _ _ | exact Lend.row _ _ _ _ _ _ (by decide) | apply Lend.there)) (by decide) | exact Src.cells (by repeat (first | exact List.Mem.head _ | refine List.Mem.tail _ ?_)) (by simp)) (by first | exact it_ones _ | (intro a ha; exact it_one1 ⟨d, id⟩ a ha)) (by unfold maxLen; first | omega | (simp; omega)) (by first | omega | (simp; omega))) (by decide) ?_
          rintro v55 _ _ ⟨rfl, rfl⟩
          refine ⟨⟨Subs.sub (by repeat (first | exact Subs.nil _ | apply Subs.cons | exact List.Mem.head _ | refine List.Mem.tail _ ?_)), .inr (St.keep (by repeat (first | exact Subs.nil _ | apply Subs.cons | exact List.Mem.head _ | refine List.Mem.tail _ ?_)) (by repeat (first | exact Picks.nil _ | apply Picks.cons | exact Pull.here _ _ | apply Pull.there)))⟩, ?_⟩
          refine JR.u rfl rfl rfl (Yv.nilCheck rfl) (by decide) ?_
          refine JR.u rfl rfl rfl (Yv.fieldAddr fa_41_0 rfl) (by decide) ?_
          first | refine JR.m0 rfl rfl (Mv.store1 sz_39 rfl rfl rfl (by repeat (first | exact Upd.here _ _ _ | apply Upd.there)) (by first | exact ltb rfl | (simp; done) | (simp; omega) | omega | (simp [*]; omega))) ?_ | refine JR.m0 rfl rfl (Mv.store1s sz_39 rfl rfl (by repeat (first | exact Lend.same _ _ | exact Lend.row _ _ _ _ _ _ (by decide) | apply Lend.there)) (by repeat (first | exact Upd.here _ _ _ | apply Upd.there)) (by first | exact ltb rfl | (simp; done) | (simp; omega) | omega | (simp [*]; omega))) ?_ | refine JR.m0 rfl rfl (Mv.storeRow1 sz_39 rfl rfl rfl (by repeat (first | exact Upd.here _ _ _ | apply Upd.there)) (by first | exact ltb rfl | (simp; done) | (simp; omega) | omega | (simp [*]; omega)) (by first | rfl | (simp; done) | omega | (simp; omega))) ?_
          rintro _ _ _ ⟨rfl, rfl⟩
          refine ⟨⟨Subs.sub (by repeat (first | exact Subs.nil _ | apply Subs.cons | exact List.Mem.head _ | refine List.Mem.tail _ ?_)), .inl rfl⟩, ?_⟩
          refine JR.nil ?_
          refine JQ.then_normal ?_
          refine JC.seq ?_
          refine JC.region ?_
          refine JO.freeze (by repeat (first | exact Pull.here _ _ | apply Pull.there)) (by decide) ?_
          refine JO.v (Yv.assign rfl) (by decide) ?_
          refine JO.nil ?_
          refine JQ.then_normal ?_
          refine JC.ret ?_
          exact JQ.done (.inr rfl) (Γ' := [Res.rd _ _ 2 _]) (H' := [Res.cells p [_] 41]) (res1 rfl (RV.tmp rfl)) (Subs.sub (by repeat (first | exact Subs.nil _ | apply Subs.cons | exact List.Mem.head _ | refine List.Mem.tail _ ?_))) (Picks.perm (by repeat (first | exact Picks.nil _ | apply Picks.cons | exact Pull.here _ _ | apply Pull.there))) ⟨_, by rw [addE, if_neg h100], by rw [addL, if_neg h100, hins]; exact congrArg (fun r => [r]) (radd_eq hx), rfl⟩
        exact JA.nil


theorem f12_spec (p : Nat) (v : Value) (L : List It) (hl : L.length ≤ 1000) :
    Spec Try.prog 12 #[(ptr p 0)] [Res.rd v (L).length 2 (itC (L))] [Res.cells p [v] 41]
      (fun r Γ' H' => ∃ v', r = .tuple #[.agg (L.getD 0 itD).cells.toArray, it (nxE L)] ∧ Γ' = [Res.rd v' (L.tail).length 2 (itC (L.tail))] ∧ H' = [Res.cells p [v'] 41]) := by
  refine Spec.of_args Try.func12 rfl Try.ntmps12 (by simp) fun w => ?_
  refine JC.seq ?_
  refine JC.region ?_
  refine JO.alloc _ zero_46 rfl (by decide) fun b2 => ?_
  refine JO.v (Yv.assign rfl) (by decide) ?_
  refine JO.nil ?_
  refine JQ.then_normal ?_
  refine JC.seq ?_
  refine JC.seq ?_
  refine JC.region ?_
  refine JO.v (Yv.move rfl) (by decide) ?_
  refine JO.v (Yv.nilCheck rfl) (by decide) ?_
  refine JO.v (Yv.fieldAddr fa_41_0 rfl) (by decide) ?_
  refine JO.v (Yv.load1 one_39 rfl (by first | exact Kn.own (by repeat (first | exact List.Mem.head _ | refine List.Mem.tail _ ?_)) (by first  | rfl | exact tab_get (by first | omega | (simp; omega)) | exact gm (d := 0) (by first | omega | (simp; omega))) | exact Kn.ro (by repeat (first | exact List.Mem.head _ | refine List.Mem.tail _ ?_)) (by first  | rfl | exact tab_get (by first | omega | (simp; omega)) | exact gm (d := 0) (by first | omega | (simp; omega))) | exact Kn.row (by repeat (first | exact List.Mem.head _ | refine List.Mem.tail _ ?_)) (by first  | rfl | exact tab_get (by first | omega | (simp; omega)) | exact gm (d := 0) (by first | omega | (simp; omega))) | exact Kn.rd (by repeat (first | exact Lend.same _ _ | exact Lend.row _ _ _ _ _ _ (by decide) | apply Lend.there)) (by first  | rfl | exact tab_get (by first | omega | (simp; omega)) | exact gm (d := 0) (by first | omega | (simp; omega))) | exact Kn.rd2 (by repeat (first | exact Lend.same _ _ | exact Lend.row _ _ _ _ _ _ (by decide) | apply Lend.there)) (by first  | rfl | exact tab_get (by first | omega | (simp; omega)) | exact gm (d := 0) (by first | omega | (simp; omega))))) (by decide) ?_
  first | refine JO.v (Yv.len_s Try.underlying39 rfl) (by decide) ?_ | refine JO.v (Yv.lenRd Try.underlying39 rfl (by repeat (first | exact Lend.same _ _ | exact Lend.row _ _ _ _ _ _ (by decide) | apply Lend.there))) (by decide) ?_
  refine JO.v (Yv.as (v' := .bool (decide (L.length = 0))) (Yv.bin rfl rfl BinR.eql_i) (congrArg Value.bool (decide_eq_decide.2 (by omega)))) (by decide) ?_
  refine JO.nil ?_
  refine JQ.then_normal ?_
  refine JC.cond rfl (fun hc1 => ?_) (fun hc1 => ?_)
  · try simp only [decide_eq_true_eq, decide_eq_false_iff_not, Bool.not_eq_true', Bool.not_eq_false', ne_eq, Decidable.not_not, Bool.not_eq_true, Bool.and_eq_true, Bool.or_eq_true, BitVec.reduceToNat] at hc1
    obtain rfl : L = [] := List.eq_nil_of_length_eq_zero (by omega)
    refine JC.seq ?_
    refine JC.region ?_
    refine JO.v (Yv.as (v' := .agg itD.cells.toArray) (Yv.build bld_46 rfl rfl) rfl) (by decide) ?_
    refine JO.storeAll sz_46 rfl rfl rfl rfl (it_one1 _) (by repeat (first | exact Upd.here _ _ _ | apply Upd.there)) rfl ?_
    refine JO.v (Yv.as (v' := it (nxE [])) (Yv.assign rfl) rfl) (by decide) ?_
    refine JO.nil ?_
    refine JQ.then_normal ?_
    refine JC.ret ?_
    refine JQ.then_ret ?_
    exact JQ.done (.inr rfl) (Γ' := [Res.rd _ _ 2 _]) (H' := [Res.cells p [_] 41]) (res2 rfl (RV.cell agg_46 (by repeat (first | exact List.Mem.head _ | refine List.Mem.tail _ ?_)) rfl (by first | rfl | (simp; done) | (simp; omega))) (RV.tmp rfl)) (Subs.sub (by repeat (first | exact Subs.nil _ | apply Subs.cons | exact List.Mem.head _ | refine List.Mem.tail _ ?_))) (Picks.perm (by repeat (first | exact Picks.nil _ | apply Picks.cons | exact Pull.here _ _ | apply Pull.there))) ⟨v, rfl, rfl, rfl⟩
  · try simp only [decide_eq_true_eq, decide_eq_false_iff_not, Bool.not_eq_true', Bool.not_eq_false', ne_eq, Decidable.not_not, Bool.not_eq_true, Bool.and_eq_true, Bool.or_eq_true, BitVec.reduceToNat] at hc1
    obtain ⟨x, L', rfl⟩ : ∃ x L', L = x :: L' := by
      cases L with
      | nil => exact absurd rfl hc1
      | cons x L' => exact ⟨x, L', rfl⟩
    refine JC.skip ?_
    refine JQ.then_normal ?_
    refine JC.seq ?_
    refine JC.region ?_
    refine JO.v (Yv.move rfl) (by decide) ?_
    refine JO.v (Yv.nilCheck rfl) (by decide) ?_
    refine JO.v (Yv.fieldAddr fa_41_0 rfl) (by decide) ?_
    refine JO.v (Yv.load1 one_39 rfl (by first | exact Kn.own (by repeat (first | exact List.Mem.head _ | refine List.Mem.tail _ ?_)) (by first  | rfl | exact tab_get (by first | omega | (simp; omega)) | exact gm (d := 0) (by first | omega | (simp; omega))) | exact Kn.ro (by repeat (first | exact List.Mem.head _ | refine List.Mem.tail _ ?_)) (by first  | rfl | exact tab_get (by first | omega | (simp; omega)) | exact gm (d := 0) (by first | omega | (simp; omega))) | exact Kn.row (by repeat (first | exact List.Mem.head _ | refine List.Mem.tail _ ?_)) (by first  | rfl | exact tab_get (by first | omega | (simp; omega)) | exact gm (d := 0) (by first | omega | (simp; omega))) | exact Kn.rd (by repeat (first | exact Lend.same _ _ | exact Lend.row _ _ _ _ _ _ (by decide) | apply Lend.there)) (by first  | rfl | exact tab_get (by first | omega | (simp; omega)) | exact gm (d := 0) (by first | omega | (simp; omega))) | exact Kn.rd2 (by repeat (first | exact Lend.same _ _ | exact Lend.row _ _ _ _ _ _ (by decide) | apply Lend.there)) (by first  | rfl | exact tab_get (by first | omega | (simp; omega)) | exact gm (d := 0) (by first | omega | (simp; omega))))) (by decide) ?_
    first | refine JO.v (Yv.indexRow (j := 0) Try.underlying39 sz_46 rfl rfl (by repeat (first | exact List.Mem.head _ | refine List.Mem.tail _ ?_)) (by first | exact ltb rfl | (simp; done) | (simp; omega) | omega | (simp [*]; omega))) (by decide) ?_ | refine JO.v (Yv.indexRd (j := 0) Try.underlying39 sz_46 rfl rfl (by repeat (first | exact Lend.same _ _ | exact Lend.row _ _ _ _ _ _ (by decide) | apply Lend.there)) (by decide) (by first | exact ltb rfl | (simp; done) | (simp; omega) | omega | (simp [*]; omega))) (by decide) ?_
    first | refine JO.v (Yv.as (v' := .agg x.cells.toArray) (Yv.loadOwn agg_46 (by repeat (first | exact List.Mem.head _ | refine List.Mem.tail _ ?_)) rfl (by first | rfl | (simp; done) | (simp; omega) | (simp [*]; done))) (congrArg (fun l : List Value => Value.agg l.toArray) (it_piece (l := x :: L') (k := 0) (by simp)))) (by decide) ?_ | refine JO.v (Yv.as (v' := .agg x.cells.toArray) (Yv.loadOwnAt agg_46 (by repeat (first | exact List.Mem.head _ | refine List.Mem.tail _ ?_)) rfl (by first | rfl | (simp; done) | (simp; omega) | (simp [*]; done))) (congrArg (fun l : List Value => Value.agg l.toArray) (it_piece (l := x :: L') (k := 0) (by simp)))) (by decide) ?_ | refine JO.v (Yv.as (v' := .agg x.cells.toArray) (Yv.loadRow agg_46 (by repeat (first | exact List.Mem.head _ | refine List.Mem.tail _ ?_)) rfl (by first | rfl | (simp; done) | (simp; omega) | (simp [*]; done))) (congrArg (fun l : List Value => Value.agg l.toArray) (it_piece (l := x :: L') (k := 0) (by simp)))) (by decide) ?_ | refine JO.v (Yv.as (v' := .agg x.cells.toArray) (Yv.loadRd agg_46 (by repeat (first | exact Lend.same _ _ | exact Lend.row _ _ _ _ _ _ (by decide) | apply Lend.there)) rfl (by first | rfl | (simp; done) | (simp; omega) | (simp [*]; done))) (congrArg (fun l : List Value => Value.agg l.toArray) (it_piece (l := x :: L') (k := 0) (by simp)))) (by decide) ?_ | refine JO.v (Yv.as (v' := .agg x.cells.toArray) (Yv.loadRo agg_46 (by repeat (first | exact List.Mem.head _ | refine List.Mem.tail _ ?_)) rfl (by first | rfl | (simp; done) | (simp; omega) | (simp [*]; done))) (congrArg (fun l : List Value => Value.agg l.toArray) (it_piece (l := x :: L') (k := 0) (by simp)))) (by decide) ?_
    refine JO.alloc _ zero_46 rfl (by decide) fun b4 => ?_
    refine JO.storeAll sz_46 rfl rfl rfl rfl (it_one1 _) (by repeat (first | exact Upd.here _ _ _ | apply Upd.there)) rfl ?_
    refine JO.nil ?_
    refine JQ.then_normal ?_
    refine JC.seq ?_
    refine JC.region ?_
    refine JO.v (Yv.move rfl) (by decide) ?_
    refine JO.v (Yv.move rfl) (by decide) ?_
    refine JO.v (Yv.nilCheck rfl) (by decide) ?_
    refine JO.v (Yv.fieldAddr fa_41_0 rfl) (by decide) ?_
    refine JO.v (Yv.load1 one_39 rfl (by first | exact Kn.own (by repeat (first | exact List.Mem.head _ | refine List.Mem.tail _ ?_)) (by first  | rfl | exact tab_get (by first | omega | (simp; omega)) | exact gm (d := 0) (by first | omega | (simp; omega))) | exact Kn.ro (by repeat (first | exact List.Mem.head _ | refine List.Mem.tail _ ?_)) (by first  | rfl | exact tab_get (by first | omega | (simp; omega)) | exact gm (d := 0) (by first | omega | (simp; omega))) | exact Kn.row (by repeat (first | exact List.Mem.head _ | refine List.Mem.tail _ ?_)) (by first  | rfl | exact tab_get (by first | omega | (simp; omega)) | exact gm (d := 0) (by first | omega | (simp; omega))) | exact Kn.rd (by repeat (first | exact Lend.same _ _ | exact Lend.row _ _ _ _ _ _ (by decide) | apply Lend.there)) (by first  | rfl | exact tab_get (by first | omega | (simp; omega)) | exact gm (d := 0) (by first | omega | (simp; omega))) | exact Kn.rd2 (by repeat (first | exact Lend.same _ _ | exact Lend.row _ _ _ _ _ _ (by decide) | apply Lend.there)) (by first  | rfl | exact tab_get (by first | omega | (simp; omega)) | exact gm (d := 0) (by first | omega | (simp; omega))))) (by decide) ?_
    refine JO.v (Yv.cutRd (l := 1) (h := (x :: L').length) Try.underlying39 sz_46 rfl (by repeat (first | exact List.Mem.head _ | refine List.Mem.tail _ ?_)) ⟨_, rfl⟩ rfl (by first | (simp; done) | omega | (simp; omega)) (by first | (simp; done) | omega | (simp; omega))) (by decide) ?_
    refine JO.v (Yv.nilCheck rfl) (by decide) ?_
    refine JO.v (Yv.fieldAddr fa_41_0 rfl) (by decide) ?_
    refine JO.cutRd (v := v) (1) ((x :: L').length) (by repeat (first | exact List.Mem.head _ | refine List.Mem.tail _ ?_)) (by first | omega | (simp; try omega)) (by first | omega | (simp; try omega)) ?_
    rw [cut_it]
    first | refine JO.store1 sz_39 rfl rfl rfl (by repeat (first | exact Upd.here _ _ _ | apply Upd.there)) (by first | exact ltb rfl | (simp; done) | (simp; omega) | omega | (simp [*]; omega)) ?_ | refine JO.store1s sz_39 rfl rfl (by repeat (first | exact Lend.same _ _ | exact Lend.row _ _ _ _ _ _ (by decide) | apply Lend.there)) (by repeat (first | exact Upd.here _ _ _ | apply Upd.there)) (by first | exact ltb rfl | (simp; done) | (simp; omega) | omega | (simp [*]; omega)) ?_ | refine JO.storeRow1 sz_39 rfl rfl rfl (by repeat (first | exact Upd.here _ _ _ | apply Upd.there)) (by first | exact ltb rfl | (simp; done) | (simp; omega) | omega | (simp [*]; omega)) (by first | rfl | (simp; done) | omega | (simp; omega)) ?_
    refine JO.nil ?_
    refine JQ.then_normal ?_
    refine JC.seq ?_
    refine JC.region ?_
    first | refine JO.v (Yv.loadOwn agg_46 (by repeat (first | exact List.Mem.head _ | refine List.Mem.tail _ ?_)) rfl (by first | rfl | (simp; done) | (simp; omega) | (simp [*]; done))) (by decide) ?_ | refine JO.v (Yv.loadOwnAt agg_46 (by repeat (first | exact List.Mem.head _ | refine List.Mem.tail _ ?_)) rfl (by first | rfl | (simp; done) | (simp; omega) | (simp [*]; done))) (by decide) ?_ | refine JO.v (Yv.loadRow agg_46 (by repeat (first | exact List.Mem.head _ | refine List.Mem.tail _ ?_)) rfl (by first | rfl | (simp; done) | (simp; omega) | (simp [*]; done))) (by decide) ?_ | refine JO.v (Yv.loadRd agg_46 (by repeat (first | exact Lend.same _ _ | exact Lend.row _ _ _ _ _ _ (by decide) | apply Lend.there)) rfl (by first | rfl | (simp; done) | (simp; omega) | (simp [*]; done))) (by decide) ?_ | refine JO.v (Yv.loadRo agg_46 (by repeat (first | exact List.Mem.head _ | refine List.Mem.tail _ ?_)) rfl (by first | rfl | (simp; done) | (simp; omega) | (simp [*]; done))) (by decide) ?_
    refine JO.storeAll sz_46 rfl rfl rfl rfl (it_one1 _) (by repeat (first | exact Upd.here _ _ _ | apply Upd.there)) rfl ?_
    refine JO.v (Yv.as (v' := it (nxE (x :: L'))) (Yv.assign rfl) rfl) (by decide) ?_
    refine JO.nil ?_
    refine JQ.then_normal ?_
    refine JC.ret ?_
    exact JQ.done (.inr rfl) (Γ' := [Res.rd _ _ 2 _]) (H' := [Res.cells p [_] 41]) (res2 rfl (RV.cell agg_46 (by repeat (first | exact List.Mem.head _ | refine List.Mem.tail _ ?_)) rfl (by first | rfl | (simp; done) | (simp; omega))) (RV.tmp rfl)) (Subs.sub (by repeat (first | exact Subs.nil _ | apply Subs.cons | exact List.Mem.head _ | refine List.Mem.tail _ ?_))) (Picks.perm (by repeat (first | exact Picks.nil _ | apply Picks.cons | exact Pull.here _ _ | apply Pull.there))) ⟨_, rfl, by simp, rfl⟩


theorem f14_spec (p : Nat) (v : Value) (L : List It) (hl : L.length ≤ 1000) (now : W64) :
    Spec Try.prog 14 #[(ptr p 0), (u64 now)] [Res.rd v (L).length 2 (itC (L))] [Res.cells p [v] 41]
      (fun r Γ' H' => ∃ v', Γ' = [Res.rd v' (L.dropWhile (dueP now)).length 2 (itC (L.dropWhile (dueP now)))] ∧ H' = [Res.cells p [v'] 41, Res.row r (L.takeWhile (dueP now)).length 46 2 (itC (L.takeWhile (dueP now)))]) := by
  refine Spec.of_args Try.func14 rfl Try.ntmps14 (by simp) fun w => ?_
  refine JC.seq ?_
  refine JC.region ?_
  refine JO.v (Yv.assign rfl) (by decide) ?_
  refine JO.nil ?_
  refine JQ.then_normal ?_
  refine JC.seq ?_
  refine JC.region ?_
  refine JO.nilRow 46 2 ?_
  refine JO.v (Yv.assign rfl) (by decide) ?_
  refine JO.nil ?_
  refine JQ.then_normal ?_
  refine JC.seq ?_
  refine JC.block ?_
  refine JC.loop (ι := List It × List It × Value × Value) (fun x => L.takeWhile (dueP now) = x.1 ++ x.2.1.takeWhile (dueP now) ∧ L.dropWhile (dueP now) = x.2.1.dropWhile (dueP now) ∧ x.1.length + x.2.1.length ≤ 1000) (fun x => [(0, ptr p 0), (1, u64 now), (5, x.2.2.2)]) (fun x => [Res.rd x.2.2.1 (x.2.1).length 2 (itC (x.2.1))]) (fun x => [Res.cells p [x.2.2.1] 41, Res.row x.2.2.2 (x.1).length 46 2 (itC (x.1))]) (fun x => x.2.1.length) ([], L, v, .slice none 0 0) (by repeat (first | exact trivial | refine ⟨by first | rfl | (simp; done), ?_⟩)) (Subs.sub (by repeat (first | exact Subs.nil _ | apply Subs.cons | exact List.Mem.head _ | refine List.Mem.tail _ ?_))) (Picks.perm (by repeat (first | exact Picks.nil _ | apply Picks.cons | exact Pull.here _ _ | apply Pull.there))) ?_ (fun x hx => ?_)
  · exact ⟨rfl, rfl, by dsimp only [List.length_nil]; omega⟩
  obtain ⟨out, R, v, vo⟩ := x
  obtain ⟨hT, hD, hol⟩ := hx
  dsimp only at hT hD hol ⊢
  refine JC.seq ?_
  refine JC.seq ?_
  refine JC.region ?_
  refine JO.v (Yv.move rfl) (by decide) ?_
  refine JO.v (Yv.nilCheck rfl) (by decide) ?_
  refine JO.v (Yv.fieldAddr fa_41_0 rfl) (by decide) ?_
  refine JO.v (Yv.load1 one_39 rfl (by first | exact Kn.own (by repeat (first | exact List.Mem.head _ | refine List.Mem.tail _ ?_)) (by first | exact it_due (k := 0) (by omega) | rfl | exact tab_get (by first | omega | (simp; omega)) | exact gm (d := 0) (by first | omega | (simp; omega))) | exact Kn.ro (by repeat (first | exact List.Mem.head _ | refine List.Mem.tail _ ?_)) (by first | exact it_due (k := 0) (by omega) | rfl | exact tab_get (by first | omega | (simp; omega)) | exact gm (d := 0) (by first | omega | (simp; omega))) | exact Kn.row (by repeat (first | exact List.Mem.head _ | refine List.Mem.tail _ ?_)) (by first | exact it_due (k := 0) (by omega) | rfl | exact tab_get (by first | omega | (simp; omega)) | exact gm (d := 0) (by first | omega | (simp; omega))) | exact Kn.rd (by repeat (first | exact Lend.same _ _ | exact Lend.row _ _ _ _ _ _ (by decide) | apply Lend.there)) (by first | exact it_due (k := 0) (by omega) | rfl | exact tab_get (by first | omega | (simp; omega)) | exact gm (d := 0) (by first | omega | (simp; omega))) | exact Kn.rd2 (by repeat (first | exact Lend.same _ _ | exact Lend.row _ _ _ _ _ _ (by decide) | apply Lend.there)) (by first | exact it_due (k := 0) (by omega) | rfl | exact tab_get (by first | omega | (simp; omega)) | exact gm (d := 0) (by first | omega | (simp; omega))))) (by decide) ?_
  first | refine JO.v (Yv.len_s Try.underlying39 rfl) (by decide) ?_ | refine JO.v (Yv.lenRd Try.underlying39 rfl (by repeat (first | exact Lend.same _ _ | exact Lend.row _ _ _ _ _ _ (by decide) | apply Lend.there))) (by decide) ?_
  refine JO.v (Yv.as (v' := .bool (decide (0 < R.length))) (Yv.bin rfl rfl BinR.gtr_i) (congrArg Value.bool (decide_eq_decide.2 (by omega)))) (by decide) ?_
  refine JO.v (Yv.move rfl) (by decide) ?_
  refine JO.join 10 22 (.bool (decide (0 < R.length ∧ (R.getD 0 itD).due.toNat ≤ now.toNat))) ?_ ?_
  · skip
    refine JO.gsplit (g := 11) rfl (fun hg10 => ?_) (fun hg10 => ?_)
    · have hg10' := hg10
      try simp only [decide_eq_true_eq, decide_eq_false_iff_not, Bool.not_eq_true', Bool.not_eq_false', ne_eq, Decidable.not_not, Bool.not_eq_true, Bool.and_eq_true, Bool.or_eq_true, BitVec.reduceToNat] at hg10'
      refine JO.gt (g := 12) rfl rfl hg10 ?_
      refine JO.v (Yv.move rfl) (by decide) ?_
      refine JO.gt (g := 12) rfl rfl hg10 ?_
      refine JO.v (Yv.nilCheck rfl) (by decide) ?_
      refine JO.gt (g := 12) rfl rfl hg10 ?_
      refine JO.v (Yv.fieldAddr fa_41_0 rfl) (by decide) ?_
      refine JO.gt (g := 12) rfl rfl hg10 ?_
      refine JO.v (Yv.load1 one_39 rfl (by first | exact Kn.own (by repeat (first | exact List.Mem.head _ | refine List.Mem.tail _ ?_)) (by first | exact it_due (k := 0) (by omega) | rfl | exact tab_get (by first | omega | (simp; omega)) | exact gm (d := 0) (by first | omega | (simp; omega))) | exact Kn.ro (by repeat (first | exact List.Mem.head _ | refine List.Mem.tail _ ?_)) (by first | exact it_due (k := 0) (by omega) | rfl | exact tab_get (by first | omega | (simp; omega)) | exact gm (d := 0) (by first | omega | (simp; omega))) | exact Kn.row (by repeat (first | exact List.Mem.head _ | refine List.Mem.tail _ ?_)) (by first | exact it_due (k := 0) (by omega) | rfl | exact tab_get (by first | omega | (simp; omega)) | exact gm (d := 0) (by first | omega | (simp; omega))) | exact Kn.rd (by repeat (first | exact Lend.same _ _ | exact Lend.row _ _ _ _ _ _ (by decide) | apply Lend.there)) (by first | exact it_due (k := 0) (by omega) | rfl | exact tab_get (by first | omega | (simp; omega)) | exact gm (d := 0) (by first | omega | (simp; omega))) | exact Kn.rd2 (by repeat (first | exact Lend.same _ _ | exact Lend.row _ _ _ _ _ _ (by decide) | apply Lend.there)) (by first | exact it_due (k := 0) (by omega) | rfl | exact tab_get (by first | omega | (simp; omega)) | exact gm (d := 0) (by first | omega | (simp; omega))))) (by decide) ?_
      refine JO.gt (g := 12) rfl rfl hg10 ?_
      first | refine JO.v (Yv.indexRow (j := 0) Try.underlying39 sz_46 rfl rfl (by repeat (first | exact List.Mem.head _ | refine List.Mem.tail _ ?_)) (by first | exact ltb rfl | (simp; done) | (simp; omega) | omega | (simp [*]; omega))) (by decide) ?_ | refine JO.v (Yv.indexRd (j := 0) Try.underlying39 sz_46 rfl rfl (by repeat (first | exact Lend.same _ _ | exact Lend.row _ _ _ _ _ _ (by decide) | apply Lend.there)) (by decide) (by first | exact ltb rfl | (simp; done) | (simp; omega) | omega | (simp [*]; omega))) (by decide) ?_
      refine JO.gt (g := 12) rfl rfl hg10 ?_
      refine JO.v (Yv.fieldAddr fa_46_0 rfl) (by decide) ?_
      refine JO.gt (g := 12) rfl rfl hg10 ?_
      refine JO.v (Yv.load1 one_23 rfl (by first | exact Kn.own (by repeat (first | exact List.Mem.head _ | refine List.Mem.tail _ ?_)) (by first | exact it_due (k := 0) (by omega) | rfl | exact tab_get (by first | omega | (simp; omega)) | exact gm (d := 0) (by first | omega | (simp; omega))) | exact Kn.ro (by repeat (first | exact List.Mem.head _ | refine List.Mem.tail _ ?_)) (by first | exact it_due (k := 0) (by omega) | rfl | exact tab_get (by first | omega | (simp; omega)) | exact gm (d := 0) (by first | omega | (simp; omega))) | exact Kn.row (by repeat (first | exact List.Mem.head _ | refine List.Mem.tail _ ?_)) (by first | exact it_due (k := 0) (by omega) | rfl | exact tab_get (by first | omega | (simp; omega)) | exact gm (d := 0) (by first | omega | (simp; omega))) | exact Kn.rd (by repeat (first | exact Lend.same _ _ | exact Lend.row _ _ _ _ _ _ (by decide) | apply Lend.there)) (by first | exact it_due (k := 0) (by omega) | rfl | exact tab_get (by first | omega | (simp; omega)) | exact gm (d := 0) (by first | omega | (simp; omega))) | exact Kn.rd2 (by repeat (first | exact Lend.same _ _ | exact Lend.row _ _ _ _ _ _ (by decide) | apply Lend.there)) (by first | exact it_due (k := 0) (by omega) | rfl | exact tab_get (by first | omega | (simp; omega)) | exact gm (d := 0) (by first | omega | (simp; omega))))) (by decide) ?_
      refine JO.gt (g := 12) rfl rfl hg10 ?_
      refine JO.v (Yv.move rfl) (by decide) ?_
      refine JO.gt (g := 12) rfl rfl hg10 ?_
      refine JO.v (Yv.bin rfl rfl (BinR.leq_u64)) (by decide) ?_
      refine JO.v (Yv.pick1 rfl hg10 rfl) (by decide) ?_
      refine JO.nil ?_
      refine JQ.head () (by first | (refine ⟨by first | rfl | (simp [*]; done) | (show some _ = some _; simp [*]; done), ?_⟩; repeat (first | exact trivial | refine ⟨rfl, ?_⟩))) (Subs.sub (by repeat (first | exact Subs.nil _ | apply Subs.cons | exact List.Mem.head _ | refine List.Mem.tail _ ?_))) (Picks.perm (by repeat (first | exact Picks.nil _ | apply Picks.cons | exact Pull.here _ _ | apply Pull.there))) ?_
      trivial
    · have hg10' := hg10
      try simp only [decide_eq_true_eq, decide_eq_false_iff_not, Bool.not_eq_true', Bool.not_eq_false', ne_eq, Decidable.not_not, Bool.not_eq_true, Bool.and_eq_true, Bool.or_eq_true, BitVec.reduceToNat] at hg10'
      refine JO.gf (g := 12) rfl rfl hg10 (by decide) ?_
      refine JO.gf (g := 12) rfl rfl hg10 (by decide) ?_
      refine JO.gf (g := 12) rfl rfl hg10 (by decide) ?_
      refine JO.gf (g := 12) rfl rfl hg10 (by decide) ?_
      refine JO.gf (g := 12) rfl rfl hg10 (by decide) ?_
      refine JO.gf (g := 12) rfl rfl hg10 (by decide) ?_
      refine JO.gf (g := 12) rfl rfl hg10 (by decide) ?_
      refine JO.gf (g := 12) rfl rfl hg10 (by decide) ?_
      refine JO.gf (g := 12) rfl rfl hg10 (by decide) ?_
      refine JO.v (Yv.pick0 rfl hg10 rfl) (by decide) ?_
      refine JO.nil ?_
      refine JQ.head () (by first | (refine ⟨by first | rfl | (simp [*]; done) | (show some _ = some _; simp [*]; done), ?_⟩; repeat (first | exact trivial | refine ⟨rfl, ?_⟩))) (Subs.sub (by repeat (first | exact Subs.nil _ | apply Subs.cons | exact List.Mem.head _ | refine List.Mem.tail _ ?_))) (Picks.perm (by repeat (first | exact Picks.nil _ | apply Picks.cons | exact Pull.here _ _ | apply Pull.there))) ?_
      trivial
  · skip
    refine JO.nil ?_
    refine JQ.then_normal ?_
    refine JC.cond rfl (fun hc1 => ?_) (fun hc1 => ?_)
    · try simp only [decide_eq_true_eq, decide_eq_false_iff_not, Bool.not_eq_true', Bool.not_eq_false', ne_eq, Decidable.not_not, Bool.not_eq_true, Bool.and_eq_true, Bool.or_eq_true, BitVec.reduceToNat] at hc1
      obtain ⟨x, R', rfl⟩ : ∃ x R', R = x :: R' := by
        cases R with
        | nil => exact absurd hc1.1 (by simp)
        | cons x R' => exact ⟨x, R', rfl⟩
      refine JC.skip ?_
      refine JQ.then_normal ?_
      refine JC.block ?_
      refine JC.seq ?_
      refine JC.region ?_
      refine JO.v (Yv.move rfl) (by decide) ?_
      refine JO.v (Yv.move rfl) (by decide) ?_
      refine JO.v (Yv.nilCheck rfl) (by decide) ?_
      refine JO.v (Yv.fieldAddr fa_41_0 rfl) (by decide) ?_
      refine JO.v (Yv.load1 one_39 rfl (by first | exact Kn.own (by repeat (first | exact List.Mem.head _ | refine List.Mem.tail _ ?_)) (by first | exact it_due (k := 0) (by omega) | rfl | exact tab_get (by first | omega | (simp; omega)) | exact gm (d := 0) (by first | omega | (simp; omega))) | exact Kn.ro (by repeat (first | exact List.Mem.head _ | refine List.Mem.tail _ ?_)) (by first | exact it_due (k := 0) (by omega) | rfl | exact tab_get (by first | omega | (simp; omega)) | exact gm (d := 0) (by first | omega | (simp; omega))) | exact Kn.row (by repeat (first | exact List.Mem.head _ | refine List.Mem.tail _ ?_)) (by first | exact it_due (k := 0) (by omega) | rfl | exact tab_get (by first | omega | (simp; omega)) | exact gm (d := 0) (by first | omega | (simp; omega))) | exact Kn.rd (by repeat (first | exact Lend.same _ _ | exact Lend.row _ _ _ _ _ _ (by decide) | apply Lend.there)) (by first | exact it_due (k := 0) (by omega) | rfl | exact tab_get (by first | omega | (simp; omega)) | exact gm (d := 0) (by first | omega | (simp; omega))) | exact Kn.rd2 (by repeat (first | exact Lend.same _ _ | exact Lend.row _ _ _ _ _ _ (by decide) | apply Lend.there)) (by first | exact it_due (k := 0) (by omega) | rfl | exact tab_get (by first | omega | (simp; omega)) | exact gm (d := 0) (by first | omega | (simp; omega))))) (by decide) ?_
      first | refine JO.v (Yv.indexRow (j := 0) Try.underlying39 sz_46 rfl rfl (by repeat (first | exact List.Mem.head _ | refine List.Mem.tail _ ?_)) (by first | exact ltb rfl | (simp; done) | (simp; omega) | omega | (simp [*]; omega))) (by decide) ?_ | refine JO.v (Yv.indexRd (j := 0) Try.underlying39 sz_46 rfl rfl (by repeat (first | exact Lend.same _ _ | exact Lend.row _ _ _ _ _ _ (by decide) | apply Lend.there)) (by decide) (by first | exact ltb rfl | (simp; done) | (simp; omega) | omega | (simp [*]; omega))) (by decide) ?_
      first | refine JO.v (Yv.as (v' := .agg x.cells.toArray) (Yv.loadOwn agg_46 (by repeat (first | exact List.Mem.head _ | refine List.Mem.tail _ ?_)) rfl (by first | rfl | (simp; done) | (simp; omega) | (simp [*]; done))) (congrArg (fun l : List Value => Value.agg l.toArray) (it_piece (l := x :: R') (k := 0) (by simp)))) (by decide) ?_ | refine JO.v (Yv.as (v' := .agg x.cells.toArray) (Yv.loadOwnAt agg_46 (by repeat (first | exact List.Mem.head _ | refine List.Mem.tail _ ?_)) rfl (by first | rfl | (simp; done) | (simp; omega) | (simp [*]; done))) (congrArg (fun l : List Value => Value.agg l.toArray) (it_piece (l := x :: R') (k := 0) (by simp)))) (by decide) ?_ | refine JO.v (Yv.as (v' := .agg x.cells.toArray) (Yv.loadRow agg_46 (by repeat (first | exact List.Mem.head _ | refine List.Mem.tail _ ?_)) rfl (by first | rfl | (simp; done) | (simp; omega) | (simp [*]; done))) (congrArg (fun l : List Value => Value.agg l.toArray) (it_piece (l := x :: R') (k := 0) (by simp)))) (by decide) ?_ | refine JO.v (Yv.as (v' := .agg x.cells.toArray) (Yv.loadRd agg_46 (by repeat (first | exact Lend.same _ _ | exact Lend.row _ _ _ _ _ _ (by decide) | apply Lend.there)) rfl (by first | rfl | (simp; done) | (simp; omega) | (simp [*]; done))) (congrArg (fun l : List Value => Value.agg l.toArray) (it_piece (l := x :: R') (k := 0) (by simp)))) (by decide) ?_ | refine JO.v (Yv.as (v' := .agg x.cells.toArray) (Yv.loadRo agg_46 (by repeat (first | exact List.Mem.head _ | refine List.Mem.tail _ ?_)) rfl (by first | rfl | (simp; done) | (simp; omega) | (simp [*]; done))) (congrArg (fun l : List Value => Value.agg l.toArray) (it_piece (l := x :: R') (k := 0) (by simp)))) (by decide) ?_
      refine JO.lit Try.underlying39 info_46 rfl rfl (by intro v hv; simp at hv; subst hv; rfl) (by decide) (by decide) (by unfold maxLen; omega) (by decide) fun v30 => ?_
      refine JO.append Try.underlying39 info_46 rfl (by decide) rfl rfl (by repeat (first | exact Pull.here _ _ | apply Pull.there)) (by first | exact Src.nil | exact Src.rd (by repeat (first | exact Lend.same _ _ | exact Lend.row _ _ _ _ _ _ (by decide) | apply Lend.there)) (by decide) | exact Src.cells (by repeat (first | exact List.Mem.head _ | refine List.Mem.tail _ ?_)) (by simp)) (by first | exact it_ones [x] | (intro a ha; exact it_ones [x] a (by rw [itC_one]; simpa using ha))) (by unfold maxLen; simp at hol; omega) (by simp at hol; omega) (by decide) fun v31 => ?_
      refine JO.v (Yv.assign rfl) (by decide) ?_
      refine JO.nil ?_
      refine JQ.then_normal ?_
      refine JC.region ?_
      refine JO.v (Yv.move rfl) (by decide) ?_
      refine JO.v (Yv.move rfl) (by decide) ?_
      refine JO.v (Yv.nilCheck rfl) (by decide) ?_
      refine JO.v (Yv.fieldAddr fa_41_0 rfl) (by decide) ?_
      refine JO.v (Yv.load1 one_39 rfl (by first | exact Kn.own (by repeat (first | exact List.Mem.head _ | refine List.Mem.tail _ ?_)) (by first | exact it_due (k := 0) (by omega) | rfl | exact tab_get (by first | omega | (simp; omega)) | exact gm (d := 0) (by first | omega | (simp; omega))) | exact Kn.ro (by repeat (first | exact List.Mem.head _ | refine List.Mem.tail _ ?_)) (by first | exact it_due (k := 0) (by omega) | rfl | exact tab_get (by first | omega | (simp; omega)) | exact gm (d := 0) (by first | omega | (simp; omega))) | exact Kn.row (by repeat (first | exact List.Mem.head _ | refine List.Mem.tail _ ?_)) (by first | exact it_due (k := 0) (by omega) | rfl | exact tab_get (by first | omega | (simp; omega)) | exact gm (d := 0) (by first | omega | (simp; omega))) | exact Kn.rd (by repeat (first | exact Lend.same _ _ | exact Lend.row _ _ _ _ _ _ (by decide) | apply Lend.there)) (by first | exact it_due (k := 0) (by omega) | rfl | exact tab_get (by first | omega | (simp; omega)) | exact gm (d := 0) (by first | omega | (simp; omega))) | exact Kn.rd2 (by repeat (first | exact Lend.same _ _ | exact Lend.row _ _ _ _ _ _ (by decide) | apply Lend.there)) (by first | exact it_due (k := 0) (by omega) | rfl | exact tab_get (by first | omega | (simp; omega)) | exact gm (d := 0) (by first | omega | (simp; omega))))) (by decide) ?_
      refine JO.v (Yv.cutRd (l := 1) (h := (x :: R').length) Try.underlying39 sz_46 rfl (by repeat (first | exact List.Mem.head _ | refine List.Mem.tail _ ?_)) ⟨_, rfl⟩ rfl (by first | (simp; done) | omega | (simp; omega)) (by first | (simp; done) | omega | (simp; omega))) (by decide) ?_
      refine JO.v (Yv.nilCheck rfl) (by decide) ?_
      refine JO.v (Yv.fieldAddr fa_41_0 rfl) (by decide) ?_
      refine JO.cutRd (v := v) (1) ((x :: R').length) (by repeat (first | exact List.Mem.head _ | refine List.Mem.tail _ ?_)) (by first | omega | (simp; try omega)) (by first | omega | (simp; try omega)) ?_
      rw [cut_it]
      rw [show List.take ((x :: R').length - 1) (List.drop 1 (x :: R')) = R' from by simp, show (x :: R').length - 1 = R'.length from rfl]
      first | refine JO.store1 sz_39 rfl rfl rfl (by repeat (first | exact Upd.here _ _ _ | apply Upd.there)) (by first | exact ltb rfl | (simp; done) | (simp; omega) | omega | (simp [*]; omega)) ?_ | refine JO.store1s sz_39 rfl rfl (by repeat (first | exact Lend.same _ _ | exact Lend.row _ _ _ _ _ _ (by decide) | apply Lend.there)) (by repeat (first | exact Upd.here _ _ _ | apply Upd.there)) (by first | exact ltb rfl | (simp; done) | (simp; omega) | omega | (simp [*]; omega)) ?_ | refine JO.storeRow1 sz_39 rfl rfl rfl (by repeat (first | exact Upd.here _ _ _ | apply Upd.there)) (by first | exact ltb rfl | (simp; done) | (simp; omega) | omega | (simp [*]; omega)) (by first | rfl | (simp; done) | omega | (simp; omega)) ?_
      refine JO.nil ?_
      refine JQ.block_normal ?_
      rw [show itC out ++ List.flatMap (fun v : Value => v.cells.toList) [.agg x.cells.toArray] = itC (out ++ [x]) from by rw [itC_append, itC_one]; rfl, show out.length + 1 = (out ++ [x]).length from by simp]
      refine JQ.head (out ++ [x], R', _, v31) (by repeat (first | exact trivial | refine ⟨by first | rfl | (simp; done), ?_⟩)) (Subs.sub (by repeat (first | exact Subs.nil _ | apply Subs.cons | exact List.Mem.head _ | refine List.Mem.tail _ ?_))) (Picks.perm (by repeat (first | exact Picks.nil _ | apply Picks.cons | exact Pull.here _ _ | apply Pull.there))) ?_
      refine ⟨⟨?_, ?_, by simp at hol ⊢; omega⟩, by simp⟩
      · dsimp only; rw [hT, (due_some (x := x) (R := R') hc1.2).1, List.append_assoc]; rfl
      · dsimp only; rw [hD, (due_some (x := x) (R := R') hc1.2).2]
    · try simp only [decide_eq_true_eq, decide_eq_false_iff_not, Bool.not_eq_true', Bool.not_eq_false', ne_eq, Decidable.not_not, Bool.not_eq_true, Bool.and_eq_true, Bool.or_eq_true, BitVec.reduceToNat] at hc1
      obtain ⟨e1, e2⟩ := due_none hc1
      rw [e1, List.append_nil] at hT
      rw [e2] at hD
      refine JC.exit ?_
      refine JQ.then_exit ?_
      refine JQ.then_exit ?_
      refine JQ.block_exit ?_
      refine JQ.then_normal ?_
      refine JC.seq ?_
      refine JC.region ?_
      refine JO.v (Yv.move rfl) (by decide) ?_
      refine JO.v (Yv.assign rfl) (by decide) ?_
      refine JO.nil ?_
      refine JQ.then_normal ?_
      refine JC.ret ?_
      exact JQ.done (.inr rfl) (Γ' := [Res.rd _ _ 2 _]) (H' := [Res.cells p [_] 41, Res.row _ _ 46 2 _]) (res1 rfl (RV.tmp rfl)) (Subs.sub (by repeat (first | exact Subs.nil _ | apply Subs.cons | exact List.Mem.head _ | refine List.Mem.tail _ ?_))) (Picks.perm (by repeat (first | exact Picks.nil _ | apply Picks.cons | exact Pull.here _ _ | apply Pull.there))) ⟨_, by rw [hD], by rw [hT]⟩


theorem f16_spec (p : Nat) (v : Value) (L : List It) (hl : L.length ≤ 1000) (id : Int) :
    Spec Try.prog 16 #[(ptr p 0), (it id)] [Res.rd v (L).length 2 (itC (L))] [Res.cells p [v] 41]
      (fun r Γ' H' => ∃ v', r = it ((L.length : Int) - ((L.filter fun x => decide (x.id ≠ id)).length : Int)) ∧ Γ' = [Res.rd v' ((L.filter fun x => decide (x.id ≠ id))).length 2 (itC ((L.filter fun x => decide (x.id ≠ id))))] ∧ H' = [Res.cells p [v'] 41]) := by
  refine Spec.of_args Try.func16 rfl Try.ntmps16 (by simp) fun w => ?_
  refine JC.seq ?_
  refine JC.region ?_
  refine JO.v (Yv.assign rfl) (by decide) ?_
  refine JO.nil ?_
  refine JQ.then_normal ?_
  refine JC.seq ?_
  refine JC.region ?_
  refine JO.nilRow 46 2 ?_
  refine JO.v (Yv.assign rfl) (by decide) ?_
  refine JO.nil ?_
  refine JQ.then_normal ?_
  refine JC.seq ?_
  refine JC.seq ?_
  refine JC.region ?_
  refine JO.v (Yv.assign rfl) (by decide) ?_
  refine JO.nil ?_
  refine JQ.then_normal ?_
  refine JC.block ?_
  refine JC.loop (ι := Nat × Value) (fun x => x.1 ≤ L.length) (fun x => [(0, ptr p 0), (1, it id), (5, x.2), (6, it (x.1 : Int))]) (fun x => [Res.rd v (L).length 2 (itC (L))]) (fun x => [Res.cells p [v] 41, Res.row x.2 ((L.take x.1).filter fun x => decide (x.id ≠ id)).length 46 2 (itC ((L.take x.1).filter fun x => decide (x.id ≠ id)))]) (fun x => L.length - x.1) (0, .slice none 0 0) (by repeat (first | exact trivial | refine ⟨by first | rfl | (simp; done), ?_⟩)) (Subs.sub (by repeat (first | exact Subs.nil _ | apply Subs.cons | exact List.Mem.head _ | refine List.Mem.tail _ ?_))) (Picks.perm (by repeat (first | exact Picks.nil _ | apply Picks.cons | exact Pull.here _ _ | apply Pull.there))) ?_ (fun x hx => ?_)
  · exact Nat.zero_le _
  obtain ⟨x, vo⟩ := x
  have hx' := hx
  dsimp only at hx' ⊢
  have hfl := List.length_filter_le (fun x : It => decide (x.id ≠ id)) (L.take x)
  rw [List.length_take] at hfl
  refine JC.seq ?_
  refine JC.seq ?_
  refine JC.region ?_
  refine JO.v (Yv.move rfl) (by decide) ?_
  refine JO.v (Yv.move rfl) (by decide) ?_
  refine JO.v (Yv.nilCheck rfl) (by decide) ?_
  refine JO.v (Yv.fieldAddr fa_41_0 rfl) (by decide) ?_
  refine JO.v (Yv.load1 one_39 rfl (by first | exact Kn.own (by repeat (first | exact List.Mem.head _ | refine List.Mem.tail _ ?_)) (by first | exact it_id (by omega) | rfl | exact tab_get (by first | omega | (simp; omega)) | exact gm (d := 0) (by first | omega | (simp; omega))) | exact Kn.ro (by repeat (first | exact List.Mem.head _ | refine List.Mem.tail _ ?_)) (by first | exact it_id (by omega) | rfl | exact tab_get (by first | omega | (simp; omega)) | exact gm (d := 0) (by first | omega | (simp; omega))) | exact Kn.row (by repeat (first | exact List.Mem.head _ | refine List.Mem.tail _ ?_)) (by first | exact it_id (by omega) | rfl | exact tab_get (by first | omega | (simp; omega)) | exact gm (d := 0) (by first | omega | (simp; omega))) | exact Kn.rd (by repeat (first | exact Lend.same _ _ | exact Lend.row _ _ _ _ _ _ (by decide) | apply Lend.there)) (by first | exact it_id (by omega) | rfl | exact tab_get (by first | omega | (simp; omega)) | exact gm (d := 0) (by first | omega | (simp; omega))) | exact Kn.rd2 (by repeat (first | exact Lend.same _ _ | exact Lend.row _ _ _ _ _ _ (by decide) | apply Lend.there)) (by first | exact it_id (by omega) | rfl | exact tab_get (by first | omega | (simp; omega)) | exact gm (d := 0) (by first | omega | (simp; omega))))) (by decide) ?_
  first | refine JO.v (Yv.len_s Try.underlying39 rfl) (by decide) ?_ | refine JO.v (Yv.lenRd Try.underlying39 rfl (by repeat (first | exact Lend.same _ _ | exact Lend.row _ _ _ _ _ _ (by decide) | apply Lend.there))) (by decide) ?_
  refine JO.v (Yv.bin rfl rfl BinR.lss_i) (by decide) ?_
  refine JO.nil ?_
  refine JQ.then_normal ?_
  refine JC.cond rfl (fun hc1 => ?_) (fun hc1 => ?_)
  · try simp only [decide_eq_true_eq, decide_eq_false_iff_not, Bool.not_eq_true', Bool.not_eq_false', ne_eq, Decidable.not_not, Bool.not_eq_true, Bool.and_eq_true, Bool.or_eq_true, BitVec.reduceToNat] at hc1
    skip
    refine JC.skip ?_
    refine JQ.then_normal ?_
    refine JC.seq ?_
    refine JC.block ?_
    refine JC.seq ?_
    refine JC.region ?_
    refine JO.v (Yv.move rfl) (by decide) ?_
    refine JO.v (Yv.nilCheck rfl) (by decide) ?_
    refine JO.v (Yv.fieldAddr fa_41_0 rfl) (by decide) ?_
    refine JO.v (Yv.load1 one_39 rfl (by first | exact Kn.own (by repeat (first | exact List.Mem.head _ | refine List.Mem.tail _ ?_)) (by first | exact it_id (by omega) | rfl | exact tab_get (by first | omega | (simp; omega)) | exact gm (d := 0) (by first | omega | (simp; omega))) | exact Kn.ro (by repeat (first | exact List.Mem.head _ | refine List.Mem.tail _ ?_)) (by first | exact it_id (by omega) | rfl | exact tab_get (by first | omega | (simp; omega)) | exact gm (d := 0) (by first | omega | (simp; omega))) | exact Kn.row (by repeat (first | exact List.Mem.head _ | refine List.Mem.tail _ ?_)) (by first | exact it_id (by omega) | rfl | exact tab_get (by first | omega | (simp; omega)) | exact gm (d := 0) (by first | omega | (simp; omega))) | exact Kn.rd (by repeat (first | exact Lend.same _ _ | exact Lend.row _ _ _ _ _ _ (by decide) | apply Lend.there)) (by first | exact it_id (by omega) | rfl | exact tab_get (by first | omega | (simp; omega)) | exact gm (d := 0) (by first | omega | (simp; omega))) | exact Kn.rd2 (by repeat (first | exact Lend.same _ _ | exact Lend.row _ _ _ _ _ _ (by decide) | apply Lend.there)) (by first | exact it_id (by omega) | rfl | exact tab_get (by first | omega | (simp; omega)) | exact gm (d := 0) (by first | omega | (simp; omega))))) (by decide) ?_
    refine JO.v (Yv.move rfl) (by decide) ?_
    first | refine JO.v (Yv.indexRow Try.underlying39 sz_46 rfl rfl (by repeat (first | exact List.Mem.head _ | refine List.Mem.tail _ ?_)) (by first | exact ltb rfl | (simp; done) | (simp; omega) | omega | (simp [*]; omega))) (by decide) ?_ | refine JO.v (Yv.indexRd Try.underlying39 sz_46 rfl rfl (by repeat (first | exact Lend.same _ _ | exact Lend.row _ _ _ _ _ _ (by decide) | apply Lend.there)) (by decide) (by first | exact ltb rfl | (simp; done) | (simp; omega) | omega | (simp [*]; omega))) (by decide) ?_
    refine JO.v (Yv.fieldAddr fa_46_1 rfl) (by decide) ?_
    refine JO.v (Yv.load1 one_3 rfl (by first | exact Kn.own (by repeat (first | exact List.Mem.head _ | refine List.Mem.tail _ ?_)) (by first | exact it_id (by omega) | rfl | exact tab_get (by first | omega | (simp; omega)) | exact gm (d := 0) (by first | omega | (simp; omega))) | exact Kn.ro (by repeat (first | exact List.Mem.head _ | refine List.Mem.tail _ ?_)) (by first | exact it_id (by omega) | rfl | exact tab_get (by first | omega | (simp; omega)) | exact gm (d := 0) (by first | omega | (simp; omega))) | exact Kn.row (by repeat (first | exact List.Mem.head _ | refine List.Mem.tail _ ?_)) (by first | exact it_id (by omega) | rfl | exact tab_get (by first | omega | (simp; omega)) | exact gm (d := 0) (by first | omega | (simp; omega))) | exact Kn.rd (by repeat (first | exact Lend.same _ _ | exact Lend.row _ _ _ _ _ _ (by decide) | apply Lend.there)) (by first | exact it_id (by omega) | rfl | exact tab_get (by first | omega | (simp; omega)) | exact gm (d := 0) (by first | omega | (simp; omega))) | exact Kn.rd2 (by repeat (first | exact Lend.same _ _ | exact Lend.row _ _ _ _ _ _ (by decide) | apply Lend.there)) (by first | exact it_id (by omega) | rfl | exact tab_get (by first | omega | (simp; omega)) | exact gm (d := 0) (by first | omega | (simp; omega))))) (by decide) ?_
    refine JO.v (Yv.move rfl) (by decide) ?_
    refine JO.v (Yv.bin rfl rfl BinR.neq_i) (by decide) ?_
    refine JO.nil ?_
    refine JQ.then_normal ?_
    refine JC.cond rfl (fun hc2 => ?_) (fun hc2 => ?_)
    · try simp only [decide_eq_true_eq, decide_eq_false_iff_not, Bool.not_eq_true', Bool.not_eq_false', ne_eq, Decidable.not_not, Bool.not_eq_true, Bool.and_eq_true, Bool.or_eq_true, BitVec.reduceToNat] at hc2
      have hkeep : itC ((L.take x).filter fun x => decide (x.id ≠ id)) ++ List.flatMap (fun v : Value => v.cells.toList) [.agg (L.getD x itD).cells.toArray] = itC ((L.take (x + 1)).filter fun x => decide (x.id ≠ id)) ∧ ((L.take x).filter fun x => decide (x.id ≠ id)).length + 1 = ((L.take (x + 1)).filter fun x => decide (x.id ≠ id)).length := by
        rw [keepI_succ (by omega), if_pos (decide_eq_true hc2), itC_append, itC_one]
        exact ⟨rfl, by simp⟩
      obtain ⟨hkeep, hkl⟩ := hkeep
      refine JC.region ?_
      refine JO.v (Yv.move rfl) (by decide) ?_
      refine JO.v (Yv.move rfl) (by decide) ?_
      refine JO.v (Yv.nilCheck rfl) (by decide) ?_
      refine JO.v (Yv.fieldAddr fa_41_0 rfl) (by decide) ?_
      refine JO.v (Yv.load1 one_39 rfl (by first | exact Kn.own (by repeat (first | exact List.Mem.head _ | refine List.Mem.tail _ ?_)) (by first | exact it_id (by omega) | rfl | exact tab_get (by first | omega | (simp; omega)) | exact gm (d := 0) (by first | omega | (simp; omega))) | exact Kn.ro (by repeat (first | exact List.Mem.head _ | refine List.Mem.tail _ ?_)) (by first | exact it_id (by omega) | rfl | exact tab_get (by first | omega | (simp; omega)) | exact gm (d := 0) (by first | omega | (simp; omega))) | exact Kn.row (by repeat (first | exact List.Mem.head _ | refine List.Mem.tail _ ?_)) (by first | exact it_id (by omega) | rfl | exact tab_get (by first | omega | (simp; omega)) | exact gm (d := 0) (by first | omega | (simp; omega))) | exact Kn.rd (by repeat (first | exact Lend.same _ _ | exact Lend.row _ _ _ _ _ _ (by decide) | apply Lend.there)) (by first | exact it_id (by omega) | rfl | exact tab_get (by first | omega | (simp; omega)) | exact gm (d := 0) (by first | omega | (simp; omega))) | exact Kn.rd2 (by repeat (first | exact Lend.same _ _ | exact Lend.row _ _ _ _ _ _ (by decide) | apply Lend.there)) (by first | exact it_id (by omega) | rfl | exact tab_get (by first | omega | (simp; omega)) | exact gm (d := 0) (by first | omega | (simp; omega))))) (by decide) ?_
      refine JO.v (Yv.move rfl) (by decide) ?_
      first | refine JO.v (Yv.indexRow Try.underlying39 sz_46 rfl rfl (by repeat (first | exact List.Mem.head _ | refine List.Mem.tail _ ?_)) (by first | exact ltb rfl | (simp; done) | (simp; omega) | omega | (simp [*]; omega))) (by decide) ?_ | refine JO.v (Yv.indexRd Try.underlying39 sz_46 rfl rfl (by repeat (first | exact Lend.same _ _ | exact Lend.row _ _ _ _ _ _ (by decide) | apply Lend.there)) (by decide) (by first | exact ltb rfl | (simp; done) | (simp; omega) | omega | (simp [*]; omega))) (by decide) ?_
      first | refine JO.v (Yv.as (v' := .agg (L.getD x itD).cells.toArray) (Yv.loadOwn agg_46 (by repeat (first | exact List.Mem.head _ | refine List.Mem.tail _ ?_)) rfl (by first | rfl | (simp; done) | (simp; omega) | (simp [*]; done))) (congrArg (fun l : List Value => Value.agg l.toArray) (it_piece (by omega)))) (by decide) ?_ | refine JO.v (Yv.as (v' := .agg (L.getD x itD).cells.toArray) (Yv.loadOwnAt agg_46 (by repeat (first | exact List.Mem.head _ | refine List.Mem.tail _ ?_)) rfl (by first | rfl | (simp; done) | (simp; omega) | (simp [*]; done))) (congrArg (fun l : List Value => Value.agg l.toArray) (it_piece (by omega)))) (by decide) ?_ | refine JO.v (Yv.as (v' := .agg (L.getD x itD).cells.toArray) (Yv.loadRow agg_46 (by repeat (first | exact List.Mem.head _ | refine List.Mem.tail _ ?_)) rfl (by first | rfl | (simp; done) | (simp; omega) | (simp [*]; done))) (congrArg (fun l : List Value => Value.agg l.toArray) (it_piece (by omega)))) (by decide) ?_ | refine JO.v (Yv.as (v' := .agg (L.getD x itD).cells.toArray) (Yv.loadRd agg_46 (by repeat (first | exact Lend.same _ _ | exact Lend.row _ _ _ _ _ _ (by decide) | apply Lend.there)) rfl (by first | rfl | (simp; done) | (simp; omega) | (simp [*]; done))) (congrArg (fun l : List Value => Value.agg l.toArray) (it_piece (by omega)))) (by decide) ?_ | refine JO.v (Yv.as (v' := .agg (L.getD x itD).cells.toArray) (Yv.loadRo agg_46 (by repeat (first | exact List.Mem.head _ | refine List.Mem.tail _ ?_)) rfl (by first | rfl | (simp; done) | (simp; omega) | (simp [*]; done))) (congrArg (fun l : List Value => Value.agg l.toArray) (it_piece (by omega)))) (by decide) ?_
      refine JO.lit Try.underlying39 info_46 rfl rfl (by intro v hv; simp at hv; subst hv; rfl) (by decide) (by decide) (by unfold maxLen; omega) (by decide) fun v35 => ?_
      refine JO.append Try.underlying39 info_46 rfl (by decide) rfl rfl (by repeat (first | exact Pull.here _ _ | apply Pull.there)) (by first | exact Src.nil | exact Src.rd (by repeat (first | exact Lend.same _ _ | exact Lend.row _ _ _ _ _ _ (by decide) | apply Lend.there)) (by decide) | exact Src.cells (by repeat (first | exact List.Mem.head _ | refine List.Mem.tail _ ?_)) (by simp)) (by first | exact it_ones [L.getD x itD] | (intro a ha; exact it_ones [L.getD x itD] a (by rw [itC_one]; simpa using ha))) (by unfold maxLen; omega) (by omega) (by decide) fun v36 => ?_
      refine JO.v (Yv.assign rfl) (by decide) ?_
      refine JO.nil ?_
      refine JQ.block_normal ?_
      refine JQ.then_normal ?_
      refine JC.region ?_
      refine JO.v (Yv.move rfl) (by decide) ?_
      refine JO.v (Yv.as (v' := it ((x + 1 : Nat) : Int)) (Yv.bin rfl rfl (BinR.add_i (by first | (constructor <;> omega) | (constructor <;> simp <;> omega)))) (congrArg it (by omega))) (by decide) ?_
      refine JO.v (Yv.assign rfl) (by decide) ?_
      refine JO.nil ?_
      first | rw [hkeep, hkl] | rw [hkeep]
      first | refine JQ.head (x + 1, v36) (by (repeat (first | exact trivial | refine ⟨by first | rfl | (simp; done), ?_⟩)); done) (Subs.sub (by repeat (first | exact Subs.nil _ | apply Subs.cons | exact List.Mem.head _ | refine List.Mem.tail _ ?_))) (Picks.perm (by repeat (first | exact Picks.nil _ | apply Picks.cons | exact Pull.here _ _ | apply Pull.there))) ?_ | refine JQ.head (x + 1, vo) (by (repeat (first | exact trivial | refine ⟨by first | rfl | (simp; done), ?_⟩)); done) (Subs.sub (by repeat (first | exact Subs.nil _ | apply Subs.cons | exact List.Mem.head _ | refine List.Mem.tail _ ?_))) (Picks.perm (by repeat (first | exact Picks.nil _ | apply Picks.cons | exact Pull.here _ _ | apply Pull.there))) ?_
      exact ⟨by dsimp only; omega, by dsimp only; omega⟩
    · try simp only [decide_eq_true_eq, decide_eq_false_iff_not, Bool.not_eq_true', Bool.not_eq_false', ne_eq, Decidable.not_not, Bool.not_eq_true, Bool.and_eq_true, Bool.or_eq_true, BitVec.reduceToNat] at hc2
      have hkeep : ((L.take x).filter fun x => decide (x.id ≠ id)) = ((L.take (x + 1)).filter fun x => decide (x.id ≠ id)) := by rw [keepI_succ (by omega), if_neg (by simpa using hc2), List.append_nil]
      have hkl : True := trivial
      refine JC.skip ?_
      refine JQ.block_normal ?_
      refine JQ.then_normal ?_
      refine JC.region ?_
      refine JO.v (Yv.move rfl) (by decide) ?_
      refine JO.v (Yv.as (v' := it ((x + 1 : Nat) : Int)) (Yv.bin rfl rfl (BinR.add_i (by first | (constructor <;> omega) | (constructor <;> simp <;> omega)))) (congrArg it (by omega))) (by decide) ?_
      refine JO.v (Yv.assign rfl) (by decide) ?_
      refine JO.nil ?_
      first | rw [hkeep, hkl] | rw [hkeep]
      first | refine JQ.head (x + 1, v36) (by (repeat (first | exact trivial | refine ⟨by first | rfl | (simp; done), ?_⟩)); done) (Subs.sub (by repeat (first | exact Subs.nil _ | apply Subs.cons | exact List.Mem.head _ | refine List.Mem.tail _ ?_))) (Picks.perm (by repeat (first | exact Picks.nil _ | apply Picks.cons | exact Pull.here _ _ | apply Pull.there))) ?_ | refine JQ.head (x + 1, vo) (by (repeat (first | exact trivial | refine ⟨by first | rfl | (simp; done), ?_⟩)); done) (Subs.sub (by repeat (first | exact Subs.nil _ | apply Subs.cons | exact List.Mem.head _ | refine List.Mem.tail _ ?_))) (Picks.perm (by repeat (first | exact Picks.nil _ | apply Picks.cons | exact Pull.here _ _ | apply Pull.there))) ?_
      exact ⟨by dsimp only; omega, by dsimp only; omega⟩
  · try simp only [decide_eq_true_eq, decide_eq_false_iff_not, Bool.not_eq_true', Bool.not_eq_false', ne_eq, Decidable.not_not, Bool.not_eq_true, Bool.and_eq_true, Bool.or_eq_true, BitVec.reduceToNat] at hc1
    obtain rfl : x = L.length := by omega
    rw [List.take_length] at hfl ⊢
    refine JC.exit ?_
    refine JQ.then_exit ?_
    refine JQ.then_exit ?_
    refine JQ.block_exit ?_
    refine JQ.then_normal ?_
    refine JC.seq ?_
    refine JC.region ?_
    refine JO.v (Yv.move rfl) (by decide) ?_
    refine JO.v (Yv.nilCheck rfl) (by decide) ?_
    refine JO.v (Yv.fieldAddr fa_41_0 rfl) (by decide) ?_
    refine JO.v (Yv.load1 one_39 rfl (by first | exact Kn.own (by repeat (first | exact List.Mem.head _ | refine List.Mem.tail _ ?_)) (by first | exact it_id (by omega) | rfl | exact tab_get (by first | omega | (simp; omega)) | exact gm (d := 0) (by first | omega | (simp; omega))) | exact Kn.ro (by repeat (first | exact List.Mem.head _ | refine List.Mem.tail _ ?_)) (by first | exact it_id (by omega) | rfl | exact tab_get (by first | omega | (simp; omega)) | exact gm (d := 0) (by first | omega | (simp; omega))) | exact Kn.row (by repeat (first | exact List.Mem.head _ | refine List.Mem.tail _ ?_)) (by first | exact it_id (by omega) | rfl | exact tab_get (by first | omega | (simp; omega)) | exact gm (d := 0) (by first | omega | (simp; omega))) | exact Kn.rd (by repeat (first | exact Lend.same _ _ | exact Lend.row _ _ _ _ _ _ (by decide) | apply Lend.there)) (by first | exact it_id (by omega) | rfl | exact tab_get (by first | omega | (simp; omega)) | exact gm (d := 0) (by first | omega | (simp; omega))) | exact Kn.rd2 (by repeat (first | exact Lend.same _ _ | exact Lend.row _ _ _ _ _ _ (by decide) | apply Lend.there)) (by first | exact it_id (by omega) | rfl | exact tab_get (by first | omega | (simp; omega)) | exact gm (d := 0) (by first | omega | (simp; omega))))) (by decide) ?_
    first | refine JO.v (Yv.len_s Try.underlying39 rfl) (by decide) ?_ | refine JO.v (Yv.lenRd Try.underlying39 rfl (by repeat (first | exact Lend.same _ _ | exact Lend.row _ _ _ _ _ _ (by decide) | apply Lend.there))) (by decide) ?_
    refine JO.v (Yv.move rfl) (by decide) ?_
    first | refine JO.v (Yv.len_s Try.underlying39 rfl) (by decide) ?_ | refine JO.v (Yv.lenRd Try.underlying39 rfl (by repeat (first | exact Lend.same _ _ | exact Lend.row _ _ _ _ _ _ (by decide) | apply Lend.there))) (by decide) ?_
    refine JO.v (Yv.bin rfl rfl (BinR.sub_i (by first | (constructor <;> omega) | (constructor <;> simp <;> omega)))) (by decide) ?_
    refine JO.v (Yv.assign rfl) (by decide) ?_
    refine JO.nil ?_
    refine JQ.then_normal ?_
    refine JC.seq ?_
    refine JC.region ?_
    refine JO.v (Yv.move rfl) (by decide) ?_
    refine JO.v (Yv.move rfl) (by decide) ?_
    refine JO.v (Yv.nilCheck rfl) (by decide) ?_
    refine JO.v (Yv.fieldAddr fa_41_0 rfl) (by decide) ?_
    first | refine JO.store1 sz_39 rfl rfl rfl (by repeat (first | exact Upd.here _ _ _ | apply Upd.there)) (by first | exact ltb rfl | (simp; done) | (simp; omega) | omega | (simp [*]; omega)) ?_ | refine JO.store1s sz_39 rfl rfl (by repeat (first | exact Lend.same _ _ | exact Lend.row _ _ _ _ _ _ (by decide) | apply Lend.there)) (by repeat (first | exact Upd.here _ _ _ | apply Upd.there)) (by first | exact ltb rfl | (simp; done) | (simp; omega) | omega | (simp [*]; omega)) ?_ | refine JO.storeRow1 sz_39 rfl rfl rfl (by repeat (first | exact Upd.here _ _ _ | apply Upd.there)) (by first | exact ltb rfl | (simp; done) | (simp; omega) | omega | (simp [*]; omega)) (by first | rfl | (simp; done) | omega | (simp; omega)) ?_
    refine JO.nil ?_
    refine JQ.then_normal ?_
    refine JC.seq ?_
    refine JC.region ?_
    refine JO.freeze (by repeat (first | exact Pull.here _ _ | apply Pull.there)) (by decide) ?_
    refine JO.v (Yv.move rfl) (by decide) ?_
    refine JO.v (Yv.assign rfl) (by decide) ?_
    refine JO.nil ?_
    refine JQ.then_normal ?_
    refine JC.ret ?_
    exact JQ.done (.inr rfl) (Γ' := [Res.rd _ _ 2 _]) (H' := [Res.cells p [_] 41]) (res1 rfl (RV.tmp rfl)) (Subs.sub (by repeat (first | exact Subs.nil _ | apply Subs.cons | exact List.Mem.head _ | refine List.Mem.tail _ ?_))) (Picks.perm (by repeat (first | exact Picks.nil _ | apply Picks.cons | exact Pull.here _ _ | apply Pull.there))) ⟨_, rfl, rfl, rfl⟩


theorem f13_spec (u v : Value) (a b : List It) :
    Spec Try.prog 13 #[u, v] [Res.rd u (a).length 2 (itC (a)), Res.rd v (b).length 2 (itC (b))] []
      (fun r Γ' H' => r = (.bool (decide (a = b))) ∧ Γ' = [] ∧ H' = []) := by
  refine Spec.of_args Try.func13 rfl Try.ntmps13 (by simp) fun w => ?_
  refine JC.know (φ := a.length ≤ 9223372036854775807) (fun w hs => by obtain ⟨_, _, _, _, _, _, h⟩ := hs.rdForm (.head _); unfold maxLen at h; omega) fun hll => ?_
  refine JC.seq ?_
  refine JC.region ?_
  refine JO.v (Yv.assign rfl) (by decide) ?_
  refine JO.nil ?_
  refine JQ.then_normal ?_
  refine JC.seq ?_
  refine JC.seq ?_
  refine JC.region ?_
  refine JO.v (Yv.move rfl) (by decide) ?_
  first | refine JO.v (Yv.len_s Try.underlying31 rfl) (by decide) ?_ | refine JO.v (Yv.lenRd Try.underlying31 rfl (by repeat (first | exact Lend.same _ _ | exact Lend.row _ _ _ _ _ _ (by decide) | apply Lend.there))) (by decide) ?_
  refine JO.v (Yv.move rfl) (by decide) ?_
  first | refine JO.v (Yv.len_s Try.underlying39 rfl) (by decide) ?_ | refine JO.v (Yv.lenRd Try.underlying39 rfl (by repeat (first | exact Lend.same _ _ | exact Lend.row _ _ _ _ _ _ (by decide) | apply Lend.there))) (by decide) ?_
  refine JO.v (Yv.bin rfl rfl BinR.neq_i) (by decide) ?_
  refine JO.nil ?_
  refine JQ.then_normal ?_
  refine JC.cond rfl (fun hc1 => ?_) (fun hc1 => ?_)
  · try simp only [decide_eq_true_eq, decide_eq_false_iff_not, Bool.not_eq_true', Bool.not_eq_false', ne_eq, Decidable.not_not, Bool.not_eq_true, Bool.and_eq_true, Bool.or_eq_true, BitVec.reduceToNat] at hc1
    have hne : a ≠ b := fun h => by rw [h] at hc1; exact hc1 rfl
    refine JC.seq ?_
    refine JC.region ?_
    refine JO.v (Yv.as (v' := .bool (decide (a = b))) (Yv.assign rfl) (congrArg Value.bool (decide_eq_false hne).symm)) (by decide) ?_
    refine JO.nil ?_
    refine JQ.then_normal ?_
    refine JC.ret ?_
    refine JQ.then_ret ?_
    exact JQ.done (.inr rfl) (Γ' := []) (H' := []) (res1 rfl (RV.tmp rfl)) (Subs.sub (by repeat (first | exact Subs.nil _ | apply Subs.cons | exact List.Mem.head _ | refine List.Mem.tail _ ?_))) (Picks.perm (by repeat (first | exact Picks.nil _ | apply Picks.cons | exact Pull.here _ _ | apply Pull.there))) ⟨rfl, rfl, rfl⟩
  · try simp only [decide_eq_true_eq, decide_eq_false_iff_not, Bool.not_eq_true', Bool.not_eq_false', ne_eq, Decidable.not_not, Bool.not_eq_true, Bool.and_eq_true, Bool.or_eq_true, BitVec.reduceToNat] at hc1
    have hab : a.length = b.length := by omega
    refine JC.skip ?_
    refine JQ.then_normal ?_
    refine JC.seq ?_
    refine JC.seq ?_
    refine JC.region ?_
    refine JO.v (Yv.assign rfl) (by decide) ?_
    refine JO.nil ?_
    refine JQ.then_normal ?_
    refine JC.block ?_
    refine JC.loop (ι := Nat) (fun x => x ≤ a.length ∧ ∀ j, j < x → a.getD j itD = b.getD j itD) (fun x => [(0, u), (1, v), (5, it (x : Int))]) (fun x => [Res.rd u (a).length 2 (itC (a)), Res.rd v (b).length 2 (itC (b))]) (fun x => []) (fun x => a.length - x) 0 (by repeat (first | exact trivial | refine ⟨by first | rfl | (simp; done), ?_⟩)) (Subs.sub (by repeat (first | exact Subs.nil _ | apply Subs.cons | exact List.Mem.head _ | refine List.Mem.tail _ ?_))) (Picks.perm (by repeat (first | exact Picks.nil _ | apply Picks.cons | exact Pull.here _ _ | apply Pull.there))) ?_ (fun x hx => ?_)
    · exact ⟨Nat.zero_le _, fun j hj => absurd hj (Nat.not_lt_zero _)⟩
    obtain ⟨hx, hn⟩ := hx
    refine JC.seq ?_
    refine JC.seq ?_
    refine JC.region ?_
    refine JO.v (Yv.move rfl) (by decide) ?_
    refine JO.v (Yv.move rfl) (by decide) ?_
    first | refine JO.v (Yv.len_s Try.underlying31 rfl) (by decide) ?_ | refine JO.v (Yv.lenRd Try.underlying31 rfl (by repeat (first | exact Lend.same _ _ | exact Lend.row _ _ _ _ _ _ (by decide) | apply Lend.there))) (by decide) ?_
    refine JO.v (Yv.bin rfl rfl BinR.lss_i) (by decide) ?_
    refine JO.nil ?_
    refine JQ.then_normal ?_
    refine JC.cond rfl (fun hc2 => ?_) (fun hc2 => ?_)
    · try simp only [decide_eq_true_eq, decide_eq_false_iff_not, Bool.not_eq_true', Bool.not_eq_false', ne_eq, Decidable.not_not, Bool.not_eq_true, Bool.and_eq_true, Bool.or_eq_true, BitVec.reduceToNat] at hc2
      skip
      refine JC.skip ?_
      refine JQ.then_normal ?_
      refine JC.seq ?_
      refine JC.block ?_
      refine JC.seq ?_
      refine JC.draw (.one 0 (.one 1 (.one 2 (.one 3 (.one 4 (.one 5 (.one 6 (.one 7 (.one 8 (.one 9 (.one 10 (.one 11 (.one 12 (.one 13 (.one 14 (.one 15 (.one 16 (.one 17 (.one 18 (.one 19 (.one 20 (.one 21 (.one 22 (.one 23 .nil)))))))))))))))))))))))) (fun i => ([] : List Nat).contains i) (fun i => ([] : List Nat).contains i) (fun i => ([0, 1, 2, 3, 5, 6, 7, 8, 10, 11, 12, 13, 14, 15, 17, 18, 19, 20, 22, 23] : List Nat).contains i) mixed (by kernel_rfl) (by decide) (by kernel_rfl) ?_
      refine JR.u rfl rfl rfl (Yv.move rfl) (by decide) ?_
      refine JR.u rfl rfl rfl (Yv.move rfl) (by decide) ?_
      first | refine JR.u rfl rfl rfl (Yv.indexRow Try.underlying31 sz_35 rfl rfl (by repeat (first | exact List.Mem.head _ | refine List.Mem.tail _ ?_)) (by first | exact ltb rfl | (simp; done) | (simp; omega) | omega | (simp [*]; omega))) (by decide) ?_ | refine JR.u rfl rfl rfl (Yv.indexRd Try.underlying31 sz_35 rfl rfl (by repeat (first | exact Lend.same _ _ | exact Lend.row _ _ _ _ _ _ (by decide) | apply Lend.there)) (by decide) (by first | exact ltb rfl | (simp; done) | (simp; omega) | omega | (simp [*]; omega))) (by decide) ?_
      refine JR.u rfl rfl rfl (Yv.fieldAddr fa_35_0 rfl) (by decide) ?_
      refine JR.v rfl rfl rfl (Yv.load1 one_23 rfl (by first | exact Kn.own (by repeat (first | exact List.Mem.head _ | refine List.Mem.tail _ ?_)) (by first | first | exact it_due (by omega) | exact it_id (by omega) | rfl | exact tab_get (by first | omega | (simp; omega)) | exact gm (d := 0) (by first | omega | (simp; omega))) | exact Kn.ro (by repeat (first | exact List.Mem.head _ | refine List.Mem.tail _ ?_)) (by first | first | exact it_due (by omega) | exact it_id (by omega) | rfl | exact tab_get (by first | omega | (simp; omega)) | exact gm (d := 0) (by first | omega | (simp; omega))) | exact Kn.row (by repeat (first | exact List.Mem.head _ | refine List.Mem.tail _ ?_)) (by first | first | exact it_due (by omega) | exact it_id (by omega) | rfl | exact tab_get (by first | omega | (simp; omega)) | exact gm (d := 0) (by first | omega | (simp; omega))) | exact Kn.rd (by repeat (first | exact Lend.same _ _ | exact Lend.row _ _ _ _ _ _ (by decide) | apply Lend.there)) (by first | first | exact it_due (by omega) | exact it_id (by omega) | rfl | exact tab_get (by first | omega | (simp; omega)) | exact gm (d := 0) (by first | omega | (simp; omega))) | exact Kn.rd2 (by repeat (first | exact Lend.same _ _ | exact Lend.row _ _ _ _ _ _ (by decide) | apply Lend.there)) (by first | first | exact it_due (by omega) | exact it_id (by omega) | rfl | exact tab_get (by first | omega | (simp; omega)) | exact gm (d := 0) (by first | omega | (simp; omega))))) (by decide) ?_
      refine JR.u rfl rfl rfl (Yv.move rfl) (by decide) ?_
      refine JR.u rfl rfl rfl (Yv.move rfl) (by decide) ?_
      first | refine JR.u rfl rfl rfl (Yv.indexRow Try.underlying39 sz_46 rfl rfl (by repeat (first | exact List.Mem.head _ | refine List.Mem.tail _ ?_)) (by first | exact ltb rfl | (simp; done) | (simp; omega) | omega | (simp [*]; omega))) (by decide) ?_ | refine JR.u rfl rfl rfl (Yv.indexRd Try.underlying39 sz_46 rfl rfl (by repeat (first | exact Lend.same _ _ | exact Lend.row _ _ _ _ _ _ (by decide) | apply Lend.there)) (by decide) (by first | exact ltb rfl | (simp; done) | (simp; omega) | omega | (simp [*]; omega))) (by decide) ?_
      refine JR.u rfl rfl rfl (Yv.fieldAddr fa_46_0 rfl) (by decide) ?_
      refine JR.v rfl rfl rfl (Yv.load1 one_23 rfl (by first | exact Kn.own (by repeat (first | exact List.Mem.head _ | refine List.Mem.tail _ ?_)) (by first | first | exact it_due (by omega) | exact it_id (by omega) | rfl | exact tab_get (by first | omega | (simp; omega)) | exact gm (d := 0) (by first | omega | (simp; omega))) | exact Kn.ro (by repeat (first | exact List.Mem.head _ | refine List.Mem.tail _ ?_)) (by first | first | exact it_due (by omega) | exact it_id (by omega) | rfl | exact tab_get (by first | omega | (simp; omega)) | exact gm (d := 0) (by first | omega | (simp; omega))) | exact Kn.row (by repeat (first | exact List.Mem.head _ | refine List.Mem.tail _ ?_)) (by first | first | exact it_due (by omega) | exact it_id (by omega) | rfl | exact tab_get (by first | omega | (simp; omega)) | exact gm (d := 0) (by first | omega | (simp; omega))) | exact Kn.rd (by repeat (first | exact Lend.same _ _ | exact Lend.row _ _ _ _ _ _ (by decide) | apply Lend.there)) (by first | first | exact it_due (by omega) | exact it_id (by omega) | rfl | exact tab_get (by first | omega | (simp; omega)) | exact gm (d := 0) (by first | omega | (simp; omega))) | exact Kn.rd2 (by repeat (first | exact Lend.same _ _ | exact Lend.row _ _ _ _ _ _ (by decide) | apply Lend.there)) (by first | first | exact it_due (by omega) | exact it_id (by omega) | rfl | exact tab_get (by first | omega | (simp; omega)) | exact gm (d := 0) (by first | omega | (simp; omega))))) (by decide) ?_
      refine JR.u rfl rfl rfl (Yv.bin rfl rfl (BinR.neq_u64)) (by decide) ?_
      refine JR.u rfl rfl rfl (Yv.move rfl) (by decide) ?_
      refine JR.gsplit (g := 27) rfl (fun hg25 => ?_) (fun hg25 => ?_)
      · have hg25' := hg25
        try simp only [decide_eq_true_eq, decide_eq_false_iff_not, Bool.not_eq_true', Bool.not_eq_false', ne_eq, Decidable.not_not, Bool.not_eq_true, Bool.and_eq_true, Bool.or_eq_true, BitVec.reduceToNat] at hg25'
        refine JR.gf (g := 28) rfl rfl rfl rfl hg25 (by decide) ?_
        refine JR.gf (g := 28) rfl rfl rfl rfl hg25 (by decide) ?_
        refine JR.gf (g := 28) rfl rfl rfl rfl hg25 (by decide) ?_
        refine JR.gf (g := 28) rfl rfl rfl rfl hg25 (by decide) ?_
        refine JR.gf (g := 28) rfl rfl rfl rfl hg25 (by decide) ?_
        refine JR.gf (g := 28) rfl rfl rfl rfl hg25 (by decide) ?_
        refine JR.gf (g := 28) rfl rfl rfl rfl hg25 (by decide) ?_
        refine JR.gf (g := 28) rfl rfl rfl rfl hg25 (by decide) ?_
        refine JR.gf (g := 28) rfl rfl rfl rfl hg25 (by decide) ?_
        refine JR.gf (g := 28) rfl rfl rfl rfl hg25 (by decide) ?_
        refine JR.gf (g := 28) rfl rfl rfl rfl hg25 (by decide) ?_
        refine JR.u rfl rfl rfl (Yv.pick1 rfl hg25 rfl) (by decide) ?_
        refine JR.nil ?_
        refine JQ.then_normal ?_
        refine JC.cond rfl (fun hc3 => ?_) (fun hc3 => ?_)
        · try simp only [decide_eq_true_eq, decide_eq_false_iff_not, Bool.not_eq_true', Bool.not_eq_false', ne_eq, Decidable.not_not, Bool.not_eq_true, Bool.and_eq_true, Bool.or_eq_true, BitVec.reduceToNat] at hc3
          have hne : a ≠ b := fun h => by subst h; first | exact hg25' rfl | exact hc3 rfl
          refine JC.seq ?_
          refine JC.region ?_
          refine JO.v (Yv.as (v' := .bool (decide (a = b))) (Yv.assign rfl) (congrArg Value.bool (decide_eq_false hne).symm)) (by decide) ?_
          refine JO.nil ?_
          refine JQ.then_normal ?_
          refine JC.ret ?_
          refine JQ.block_ret ?_
          refine JQ.then_ret ?_
          refine JQ.then_ret ?_
          refine JQ.block_ret ?_
          refine JQ.then_ret ?_
          exact JQ.done (.inr rfl) (Γ' := []) (H' := []) (res1 rfl (RV.tmp rfl)) (Subs.sub (by repeat (first | exact Subs.nil _ | apply Subs.cons | exact List.Mem.head _ | refine List.Mem.tail _ ?_))) (Picks.perm (by repeat (first | exact Picks.nil _ | apply Picks.cons | exact Pull.here _ _ | apply Pull.there))) ⟨rfl, rfl, rfl⟩
        · try simp only [decide_eq_true_eq, decide_eq_false_iff_not, Bool.not_eq_true', Bool.not_eq_false', ne_eq, Decidable.not_not, Bool.not_eq_true, Bool.and_eq_true, Bool.or_eq_true, BitVec.reduceToNat] at hc3
          have hnx : ∀ j, j < x + 1 → a.getD j itD = b.getD j itD := by first | exact getI_succ hn hg25' hc3 | exact absurd hc3 (by decide) | (exfalso; simp at hc3; done) | contradiction
          refine JC.skip ?_
          refine JQ.block_normal ?_
          refine JQ.then_normal ?_
          refine JC.region ?_
          refine JO.v (Yv.move rfl) (by decide) ?_
          refine JO.v (Yv.as (v' := it ((x + 1 : Nat) : Int)) (Yv.bin rfl rfl (BinR.add_i (by first | (constructor <;> omega) | (constructor <;> simp <;> omega)))) (congrArg it (by omega))) (by decide) ?_
          refine JO.v (Yv.assign rfl) (by decide) ?_
          refine JO.nil ?_
          refine JQ.head (x + 1) (by repeat (first | exact trivial | refine ⟨by first | rfl | (simp; done), ?_⟩)) (Subs.sub (by repeat (first | exact Subs.nil _ | apply Subs.cons | exact List.Mem.head _ | refine List.Mem.tail _ ?_))) (Picks.perm (by repeat (first | exact Picks.nil _ | apply Picks.cons | exact Pull.here _ _ | apply Pull.there))) ?_
          exact ⟨⟨by omega, hnx⟩, by omega⟩
      · have hg25' := hg25
        try simp only [decide_eq_true_eq, decide_eq_false_iff_not, Bool.not_eq_true', Bool.not_eq_false', ne_eq, Decidable.not_not, Bool.not_eq_true, Bool.and_eq_true, Bool.or_eq_true, BitVec.reduceToNat] at hg25'
        refine JR.ugt (g := 28) rfl rfl rfl rfl rfl hg25 (Yv.move rfl) (by decide) ?_
        refine JR.ugt (g := 28) rfl rfl rfl rfl rfl hg25 (Yv.move rfl) (by decide) ?_
        first | refine JR.ugt (g := 28) rfl rfl rfl rfl rfl hg25 (Yv.indexRow Try.underlying31 sz_35 rfl rfl (by repeat (first | exact List.Mem.head _ | refine List.Mem.tail _ ?_)) (by first | exact ltb rfl | (simp; done) | (simp; omega) | omega | (simp [*]; omega))) (by decide) ?_ | refine JR.ugt (g := 28) rfl rfl rfl rfl rfl hg25 (Yv.indexRd Try.underlying31 sz_35 rfl rfl (by repeat (first | exact Lend.same _ _ | exact Lend.row _ _ _ _ _ _ (by decide) | apply Lend.there)) (by decide) (by first | exact ltb rfl | (simp; done) | (simp; omega) | omega | (simp [*]; omega))) (by decide) ?_
        refine JR.ugt (g := 28) rfl rfl rfl rfl rfl hg25 (Yv.fieldAddr fa_35_1 rfl) (by decide) ?_
        refine JR.vgt (g := 28) rfl rfl rfl rfl rfl hg25 (Yv.load1 one_3 rfl (by first | exact Kn.own (by repeat (first | exact List.Mem.head _ | refine List.Mem.tail _ ?_)) (by first | first | exact it_due (by omega) | exact it_id (by omega) | rfl | exact tab_get (by first | omega | (simp; omega)) | exact gm (d := 0) (by first | omega | (simp; omega))) | exact Kn.ro (by repeat (first | exact List.Mem.head _ | refine List.Mem.tail _ ?_)) (by first | first | exact it_due (by omega) | exact it_id (by omega) | rfl | exact tab_get (by first | omega | (simp; omega)) | exact gm (d := 0) (by first | omega | (simp; omega))) | exact Kn.row (by repeat (first | exact List.Mem.head _ | refine List.Mem.tail _ ?_)) (by first | first | exact it_due (by omega) | exact it_id (by omega) | rfl | exact tab_get (by first | omega | (simp; omega)) | exact gm (d := 0) (by first | omega | (simp; omega))) | exact Kn.rd (by repeat (first | exact Lend.same _ _ | exact Lend.row _ _ _ _ _ _ (by decide) | apply Lend.there)) (by first | first | exact it_due (by omega) | exact it_id (by omega) | rfl | exact tab_get (by first | omega | (simp; omega)) | exact gm (d := 0) (by first | omega | (simp; omega))) | exact Kn.rd2 (by repeat (first | exact Lend.same _ _ | exact Lend.row _ _ _ _ _ _ (by decide) | apply Lend.there)) (by first | first | exact it_due (by omega) | exact it_id (by omega) | rfl | exact tab_get (by first | omega | (simp; omega)) | exact gm (d := 0) (by first | omega | (simp; omega))))) (by decide) ?_
        refine JR.ugt (g := 28) rfl rfl rfl rfl rfl hg25 (Yv.move rfl) (by decide) ?_
        refine JR.ugt (g := 28) rfl rfl rfl rfl rfl hg25 (Yv.move rfl) (by decide) ?_
        first | refine JR.ugt (g := 28) rfl rfl rfl rfl rfl hg25 (Yv.indexRow Try.underlying39 sz_46 rfl rfl (by repeat (first | exact List.Mem.head _ | refine List.Mem.tail _ ?_)) (by first | exact ltb rfl | (simp; done) | (simp; omega) | omega | (simp [*]; omega))) (by decide) ?_ | refine JR.ugt (g := 28) rfl rfl rfl rfl rfl hg25 (Yv.indexRd Try.underlying39 sz_46 rfl rfl (by repeat (first | exact Lend.same _ _ | exact Lend.row _ _ _ _ _ _ (by decide) | apply Lend.there)) (by decide) (by first | exact ltb rfl | (simp; done) | (simp; omega) | omega | (simp [*]; omega))) (by decide) ?_
        refine JR.ugt (g := 28) rfl rfl rfl rfl rfl hg25 (Yv.fieldAddr fa_46_1 rfl) (by decide) ?_
        refine JR.vgt (g := 28) rfl rfl rfl rfl rfl hg25 (Yv.load1 one_3 rfl (by first | exact Kn.own (by repeat (first | exact List.Mem.head _ | refine List.Mem.tail _ ?_)) (by first | first | exact it_due (by omega) | exact it_id (by omega) | rfl | exact tab_get (by first | omega | (simp; omega)) | exact gm (d := 0) (by first | omega | (simp; omega))) | exact Kn.ro (by repeat (first | exact List.Mem.head _ | refine List.Mem.tail _ ?_)) (by first | first | exact it_due (by omega) | exact it_id (by omega) | rfl | exact tab_get (by first | omega | (simp; omega)) | exact gm (d := 0) (by first | omega | (simp; omega))) | exact Kn.row (by repeat (first | exact List.Mem.head _ | refine List.Mem.tail _ ?_)) (by first | first | exact it_due (by omega) | exact it_id (by omega) | rfl | exact tab_get (by first | omega | (simp; omega)) | exact gm (d := 0) (by first | omega | (simp; omega))) | exact Kn.rd (by repeat (first | exact Lend.same _ _ | exact Lend.row _ _ _ _ _ _ (by decide) | apply Lend.there)) (by first | first | exact it_due (by omega) | exact it_id (by omega) | rfl | exact tab_get (by first | omega | (simp; omega)) | exact gm (d := 0) (by first | omega | (simp; omega))) | exact Kn.rd2 (by repeat (first | exact Lend.same _ _ | exact Lend.row _ _ _ _ _ _ (by decide) | apply Lend.there)) (by first | first | exact it_due (by omega) | exact it_id (by omega) | rfl | exact tab_get (by first | omega | (simp; omega)) | exact gm (d := 0) (by first | omega | (simp; omega))))) (by decide) ?_
        refine JR.ugt (g := 28) rfl rfl rfl rfl rfl hg25 (Yv.bin rfl rfl BinR.neq_i) (by decide) ?_
        refine JR.u rfl rfl rfl (Yv.pick0 rfl hg25 rfl) (by decide) ?_
        refine JR.nil ?_
        refine JQ.then_normal ?_
        refine JC.cond rfl (fun hc3 => ?_) (fun hc3 => ?_)
        · try simp only [decide_eq_true_eq, decide_eq_false_iff_not, Bool.not_eq_true', Bool.not_eq_false', ne_eq, Decidable.not_not, Bool.not_eq_true, Bool.and_eq_true, Bool.or_eq_true, BitVec.reduceToNat] at hc3
          have hne : a ≠ b := fun h => by subst h; first | exact hg25' rfl | exact hc3 rfl
          refine JC.seq ?_
          refine JC.region ?_
          refine JO.v (Yv.as (v' := .bool (decide (a = b))) (Yv.assign rfl) (congrArg Value.bool (decide_eq_false hne).symm)) (by decide) ?_
          refine JO.nil ?_
          refine JQ.then_normal ?_
          refine JC.ret ?_
          refine JQ.block_ret ?_
          refine JQ.then_ret ?_
          refine JQ.then_ret ?_
          refine JQ.block_ret ?_
          refine JQ.then_ret ?_
          exact JQ.done (.inr rfl) (Γ' := []) (H' := []) (res1 rfl (RV.tmp rfl)) (Subs.sub (by repeat (first | exact Subs.nil _ | apply Subs.cons | exact List.Mem.head _ | refine List.Mem.tail _ ?_))) (Picks.perm (by repeat (first | exact Picks.nil _ | apply Picks.cons | exact Pull.here _ _ | apply Pull.there))) ⟨rfl, rfl, rfl⟩
        · try simp only [decide_eq_true_eq, decide_eq_false_iff_not, Bool.not_eq_true', Bool.not_eq_false', ne_eq, Decidable.not_not, Bool.not_eq_true, Bool.and_eq_true, Bool.or_eq_true, BitVec.reduceToNat] at hc3
          have hnx : ∀ j, j < x + 1 → a.getD j itD = b.getD j itD := by first | exact getI_succ hn hg25' hc3 | exact absurd hc3 (by decide) | (exfalso; simp at hc3; done) | contradiction
          refine JC.skip ?_
          refine JQ.block_normal ?_
          refine JQ.then_normal ?_
          refine JC.region ?_
          refine JO.v (Yv.move rfl) (by decide) ?_
          refine JO.v (Yv.as (v' := it ((x + 1 : Nat) : Int)) (Yv.bin rfl rfl (BinR.add_i (by first | (constructor <;> omega) | (constructor <;> simp <;> omega)))) (congrArg it (by omega))) (by decide) ?_
          refine JO.v (Yv.assign rfl) (by decide) ?_
          refine JO.nil ?_
          refine JQ.head (x + 1) (by repeat (first | exact trivial | refine ⟨by first | rfl | (simp; done), ?_⟩)) (Subs.sub (by repeat (first | exact Subs.nil _ | apply Subs.cons | exact List.Mem.head _ | refine List.Mem.tail _ ?_))) (Picks.perm (by repeat (first | exact Picks.nil _ | apply Picks.cons | exact Pull.here _ _ | apply Pull.there))) ?_
          exact ⟨⟨by omega, hnx⟩, by omega⟩
    · try simp only [decide_eq_true_eq, decide_eq_false_iff_not, Bool.not_eq_true', Bool.not_eq_false', ne_eq, Decidable.not_not, Bool.not_eq_true, Bool.and_eq_true, Bool.or_eq_true, BitVec.reduceToNat] at hc2
      obtain rfl : x = a.length := by omega
      refine JC.exit ?_
      refine JQ.then_exit ?_
      refine JQ.then_exit ?_
      refine JQ.block_exit ?_
      refine JQ.then_normal ?_
      refine JC.seq ?_
      refine JC.region ?_
      refine JO.v (Yv.as (v' := .bool (decide (a = b))) (Yv.assign rfl) (congrArg Value.bool (decide_eq_true (getI_all hab hn)).symm)) (by decide) ?_
      refine JO.nil ?_
      refine JQ.then_normal ?_
      refine JC.ret ?_
      exact JQ.done (.inr rfl) (Γ' := []) (H' := []) (res1 rfl (RV.tmp rfl)) (Subs.sub (by repeat (first | exact Subs.nil _ | apply Subs.cons | exact List.Mem.head _ | refine List.Mem.tail _ ?_))) (Picks.perm (by repeat (first | exact Picks.nil _ | apply Picks.cons | exact Pull.here _ _ | apply Pull.there))) ⟨rfl, rfl, rfl⟩
end Go.Proofs.Ytmefjbmaghjpfaa
