/- Walks: the heap. -/
import Derived.Test.YtmefjbmaghjpfaaF1
namespace Go.Proofs.Ytmefjbmaghjpfaa
open Go.RowKit
set_option maxRecDepth 100000
set_option linter.unusedVariables false
set_option linter.unusedSimpArgs false

theorem f26_spec (q : Nat) (v : Value) (xs : List En) (j : Nat) (hj : j < xs.length) (hI : upInv (K xs) xs.length j) (hll : xs.length ≤ 1000001) :
    Spec Try.prog 26 #[(.iface 55 (ptr q 0)), (it (j : Int))] [] [Res.cells q [v, (.func (.func 25) #[] #[])] 62, Res.row v xs.length 59 3 (enC xs)]
      (fun r Γ' H' => ∃ ys, ys.Perm xs ∧ heapTo (K ys) ys.length ∧ Γ' = [] ∧ H' = [Res.cells q [v, (.func (.func 25) #[] #[])] 62, Res.row v ys.length 59 3 (enC ys)]) := by
  refine Spec.of_args Try.func26 rfl Try.ntmps26 (by simp) fun w => ?_
  refine JC.block ?_
  refine JC.loop (ι := List En × Nat) (fun x => x.1.Perm xs ∧ x.2 < x.1.length ∧ upInv (K x.1) x.1.length x.2) (fun x => [(0, (.iface 55 (ptr q 0))), (1, it (x.2 : Int))]) (fun x => []) (fun x => [Res.cells q [v, (.func (.func 25) #[] #[])] 62, Res.row v x.1.length 59 3 (enC x.1)]) (fun x => x.2) (xs, j) (by repeat (first | exact trivial | refine ⟨by first | rfl | (simp; done), ?_⟩)) (Subs.sub (by repeat (first | exact Subs.nil _ | apply Subs.cons | exact List.Mem.head _ | refine List.Mem.tail _ ?_))) (Picks.perm (by repeat (first | exact Picks.nil _ | apply Picks.cons | exact Pull.here _ _ | apply Pull.there))) ?_ (fun x hx => ?_)
  · exact ⟨.refl _, hj, hI⟩
  obtain ⟨ys, j⟩ := x
  obtain ⟨hp, hj, hI⟩ := hx
  dsimp only at hp hj hI ⊢
  have hlen := hp.length_eq
  refine JC.block ?_
  refine JC.seq ?_
  refine JC.region ?_
  refine JO.v (Yv.move rfl) (by decide) ?_
  refine JO.v (Yv.bin rfl rfl (BinR.sub_i (by first | (constructor <;> omega) | (constructor <;> simp <;> omega)))) (by decide) ?_
  refine JO.v (Yv.as (v' := it (((j - 1) / 2 : Nat) : Int)) (Yv.bin rfl rfl (BinR.quo_it (by decide) (by rw [par_div]; constructor <;> omega))) (congrArg it (par_div j))) (by decide) ?_
  refine JO.v (Yv.assign rfl) (by decide) ?_
  refine JO.nil ?_
  refine JQ.then_normal ?_
  refine JC.seq ?_
  refine JC.seq ?_
  refine JC.region ?_
  refine JO.v (Yv.move rfl) (by decide) ?_
  refine JO.v (Yv.move rfl) (by decide) ?_
  refine JO.v (Yv.as (v' := .bool (decide (j = 0))) (Yv.bin rfl rfl BinR.eql_i) (congrArg Value.bool (decide_eq_decide.2 (by omega)))) (by decide) ?_
  refine JO.v (Yv.move rfl) (by decide) ?_
  refine JO.join 6 17 (.bool (decide (j = 0 ∨ K ys ((j - 1) / 2) ≤ K ys j))) ?_ ?_
  · skip
    refine JO.gsplit (g := 10) rfl (fun hg9 => ?_) (fun hg9 => ?_)
    · have hg9' := hg9
      try simp only [decide_eq_true_eq, decide_eq_false_iff_not, Bool.not_eq_true', Bool.not_eq_false', ne_eq, Decidable.not_not, Bool.not_eq_true, Bool.and_eq_true, Bool.or_eq_true, BitVec.reduceToNat] at hg9'
      refine JO.gf (g := 11) rfl rfl hg9 (by decide) ?_
      refine JO.gf (g := 11) rfl rfl hg9 (by decide) ?_
      refine JO.gf (g := 11) rfl rfl hg9 (by decide) ?_
      refine JO.gf (g := 11) rfl rfl hg9 (by decide) ?_
      refine JO.gf (g := 11) rfl rfl hg9 (by decide) ?_
      refine JO.v (Yv.pick1 rfl hg9 rfl) (by decide) ?_
      refine JO.nil ?_
      refine JQ.head () (by first | (refine ⟨by first | rfl | (simp [*]; done) | (show some _ = some _; simp [*]; done), ?_⟩; repeat (first | exact trivial | refine ⟨rfl, ?_⟩))) (Subs.sub (by repeat (first | exact Subs.nil _ | apply Subs.cons | exact List.Mem.head _ | refine List.Mem.tail _ ?_))) (Picks.perm (by repeat (first | exact Picks.nil _ | apply Picks.cons | exact Pull.here _ _ | apply Pull.there))) ?_
      trivial
    · have hg9' := hg9
      try simp only [decide_eq_true_eq, decide_eq_false_iff_not, Bool.not_eq_true', Bool.not_eq_false', ne_eq, Decidable.not_not, Bool.not_eq_true, Bool.and_eq_true, Bool.or_eq_true, BitVec.reduceToNat] at hg9'
      refine JO.gt (g := 11) rfl rfl hg9 ?_
      refine JO.v (Yv.move rfl) (by decide) ?_
      refine JO.gt (g := 11) rfl rfl hg9 ?_
      refine JO.v (Yv.move rfl) (by decide) ?_
      refine JO.gt (g := 11) rfl rfl hg9 ?_
      refine JO.v (Yv.move rfl) (by decide) ?_
      refine JO.gt (g := 11) rfl rfl hg9 ?_
      refine JO.callI (f47_spec q v ys j ((j - 1) / 2) hj (by omega)) (Mth.self row_55_Less Try.underlying55) body_47 rfl rfl (by repeat (first | exact Picks.nil _ | apply Picks.cons | exact Pull.here _ _ | apply Pull.there)) (by repeat (first | exact Lends.nil _ | apply Lends.cons | exact Lend.same _ _ | exact Lend.row _ _ _ _ _ _ (by decide) | apply Lend.there)) (by rintro _ _ _ ⟨_, h, _⟩; exact h) (by decide) ?_
      rintro _ _ ⟨_, ⟨rfl, _, rfl⟩, hH⟩
      simp only [List.cons_append, List.nil_append] at hH; subst hH
      refine JO.gt (g := 11) rfl rfl hg9 ?_
      refine JO.v (Yv.as (v' := .bool (decide (K ys ((j - 1) / 2) ≤ K ys j))) (Yv.not rfl) (congrArg Value.bool (by rw [← decide_not]; exact decide_eq_decide.2 Nat.not_lt))) (by decide) ?_
      refine JO.v (Yv.pick0 rfl hg9 rfl) (by decide) ?_
      refine JO.nil ?_
      refine JQ.head () (by first | (refine ⟨by first | rfl | (simp [*]; done) | (show some _ = some _; simp [*]; done), ?_⟩; repeat (first | exact trivial | refine ⟨rfl, ?_⟩))) (Subs.sub (by repeat (first | exact Subs.nil _ | apply Subs.cons | exact List.Mem.head _ | refine List.Mem.tail _ ?_))) (Picks.perm (by repeat (first | exact Picks.nil _ | apply Picks.cons | exact Pull.here _ _ | apply Pull.there))) ?_
      trivial
  · skip
    refine JO.nil ?_
    refine JQ.then_normal ?_
    refine JC.cond rfl (fun hc1 => ?_) (fun hc1 => ?_)
    · try simp only [decide_eq_true_eq, decide_eq_false_iff_not, Bool.not_eq_true', Bool.not_eq_false', ne_eq, Decidable.not_not, Bool.not_eq_true, Bool.and_eq_true, Bool.or_eq_true, BitVec.reduceToNat] at hc1
      skip
      refine JC.exit ?_
      refine JQ.then_exit ?_
      refine JQ.block_other (by decide) ?_
      refine JQ.then_exit ?_
      refine JQ.block_exit ?_
      exact JQ.done (.inl rfl) (Γ' := []) (H' := [Res.cells q [v, (.func (.func 25) #[] #[])] 62, Res.row v _ 59 3 _]) (res_none rfl) (Subs.sub (by repeat (first | exact Subs.nil _ | apply Subs.cons | exact List.Mem.head _ | refine List.Mem.tail _ ?_))) (Picks.perm (by repeat (first | exact Picks.nil _ | apply Picks.cons | exact Pull.here _ _ | apply Pull.there))) ⟨_, hp, up_done hI hc1, rfl, rfl⟩
    · try simp only [decide_eq_true_eq, decide_eq_false_iff_not, Bool.not_eq_true', Bool.not_eq_false', ne_eq, Decidable.not_not, Bool.not_eq_true, Bool.and_eq_true, Bool.or_eq_true, BitVec.reduceToNat] at hc1
      have hj0 : 0 < j := by omega
      have hi2 : (j - 1) / 2 < ys.length := by omega
      have hlt : K ys j < K ys ((j - 1) / 2) := by omega
      refine JC.skip ?_
      refine JQ.then_normal ?_
      refine JC.seq ?_
      refine JC.region ?_
      refine JO.v (Yv.move rfl) (by decide) ?_
      refine JO.v (Yv.move rfl) (by decide) ?_
      refine JO.v (Yv.move rfl) (by decide) ?_
      refine JO.callI (f50_spec q v ys ((j - 1) / 2) j (by omega) hj) (Mth.self row_55_Swap Try.underlying55) body_50 rfl rfl (by repeat (first | exact Picks.nil _ | apply Picks.cons | exact Pull.here _ _ | apply Pull.there)) (by repeat (first | exact Lends.nil _ | apply Lends.cons | exact Lend.same _ _ | exact Lend.row _ _ _ _ _ _ (by decide) | apply Lend.there)) (by rintro _ _ _ ⟨h, _⟩; exact h) (by decide) ?_
      rintro _ _ ⟨_, ⟨_, rfl⟩, hH⟩
      simp only [List.cons_append, List.nil_append] at hH; subst hH
      refine JO.nil ?_
      refine JQ.then_normal ?_
      refine JC.region ?_
      refine JO.v (Yv.move rfl) (by decide) ?_
      refine JO.v (Yv.assign rfl) (by decide) ?_
      refine JO.nil ?_
      refine JQ.block_normal ?_
      refine JQ.head (swp enD ys ((j - 1) / 2) j, (j - 1) / 2) (by repeat (first | exact trivial | refine ⟨by first | rfl | (simp; done), ?_⟩)) (Subs.sub (by repeat (first | exact Subs.nil _ | apply Subs.cons | exact List.Mem.head _ | refine List.Mem.tail _ ?_))) (Picks.perm (by repeat (first | exact Picks.nil _ | apply Picks.cons | exact Pull.here _ _ | apply Pull.there))) ?_
      refine ⟨⟨(swp_perm hi2 hj).trans hp, by dsimp only; rw [swp_len]; omega, ?_⟩, by dsimp only; omega⟩
      dsimp only
      rw [swp_len, swp_K hi2 hj]
      exact up_step hI hj hj0 rfl hlt


theorem f27_spec (q : Nat) (v : Value) (xs : List En) (n a : Nat) (hn : n ≤ xs.length) (ha : a < 1000001) (hI : dnInvA (K xs) n a a) (hll : xs.length ≤ 1000001) :
    Spec Try.prog 27 #[(.iface 55 (ptr q 0)), (it (a : Int)), (it (n : Int))] [] [Res.cells q [v, (.func (.func 25) #[] #[])] 62, Res.row v xs.length 59 3 (enC xs)]
      (fun r Γ' H' => ∃ ys, ys.Perm xs ∧ (∀ k, n ≤ k → ys.getD k enD = xs.getD k enD) ∧ hpFrom (K ys) n a ∧ Γ' = [] ∧ H' = [Res.cells q [v, (.func (.func 25) #[] #[])] 62, Res.row v ys.length 59 3 (enC ys)]) := by
  refine Spec.of_args Try.func27 rfl Try.ntmps27 (by simp) fun w => ?_
  refine JC.seq ?_
  refine JC.region ?_
  refine JO.v (Yv.assign rfl) (by decide) ?_
  refine JO.nil ?_
  refine JQ.then_normal ?_
  refine JC.seq ?_
  refine JC.region ?_
  refine JO.v (Yv.move rfl) (by decide) ?_
  refine JO.v (Yv.as (v' := it (a : Int)) (Yv.assign rfl) rfl) (by decide) ?_
  refine JO.nil ?_
  refine JQ.then_normal ?_
  refine JC.seq ?_
  refine JC.block ?_
  refine JC.loop (ι := List En × Nat) (fun x => x.1.Perm xs ∧ (∀ k, n ≤ k → x.1.getD k enD = xs.getD k enD) ∧ dnInvA (K x.1) n a x.2 ∧ (x.2 < n ∨ x.2 = a) ∧ a ≤ x.2) (fun x => [(0, (.iface 55 (ptr q 0))), (1, it (a : Int)), (2, it (n : Int)), (7, it (x.2 : Int))]) (fun x => []) (fun x => [Res.cells q [v, (.func (.func 25) #[] #[])] 62, Res.row v x.1.length 59 3 (enC x.1)]) (fun x => n - x.2) (xs, a) (by repeat (first | exact trivial | refine ⟨by first | rfl | (simp; done), ?_⟩)) (Subs.sub (by repeat (first | exact Subs.nil _ | apply Subs.cons | exact List.Mem.head _ | refine List.Mem.tail _ ?_))) (Picks.perm (by repeat (first | exact Picks.nil _ | apply Picks.cons | exact Pull.here _ _ | apply Pull.there))) ?_ (fun x hx => ?_)
  · exact ⟨.refl _, fun _ _ => rfl, hI, .inr rfl, Nat.le_refl _⟩
  obtain ⟨ys, i⟩ := x
  obtain ⟨hp, hk, hI, hi, hai⟩ := hx
  dsimp only at hp hk hI hi hai ⊢
  have hlen := hp.length_eq
  refine JC.block ?_
  refine JC.seq ?_
  refine JC.region ?_
  refine JO.v (Yv.move rfl) (by decide) ?_
  refine JO.v (Yv.as (v' := it ((2 * i : Nat) : Int)) (Yv.bin rfl rfl (BinR.mul_i (by first | (constructor <;> omega) | (constructor <;> simp <;> omega)))) (congrArg it (by omega))) (by decide) ?_
  refine JO.v (Yv.as (v' := it ((2 * i + 1 : Nat) : Int)) (Yv.bin rfl rfl (BinR.add_i (by first | (constructor <;> omega) | (constructor <;> simp <;> omega)))) (congrArg it (by omega))) (by decide) ?_
  refine JO.v (Yv.assign rfl) (by decide) ?_
  refine JO.nil ?_
  refine JQ.then_normal ?_
  refine JC.seq ?_
  refine JC.seq ?_
  refine JC.region ?_
  refine JO.v (Yv.move rfl) (by decide) ?_
  refine JO.v (Yv.move rfl) (by decide) ?_
  refine JO.v (Yv.as (v' := .bool (decide (n ≤ 2 * i + 1))) (Yv.bin rfl rfl BinR.geq_i) (congrArg Value.bool (decide_eq_decide.2 (by omega)))) (by decide) ?_
  refine JO.v (Yv.move rfl) (by decide) ?_
  refine JO.join 3 21 (.bool (decide (n ≤ 2 * i + 1))) ?_ ?_
  · skip
    refine JO.gsplit (g := 17) rfl (fun hg12 => ?_) (fun hg12 => ?_)
    · have hg12' := hg12
      try simp only [decide_eq_true_eq, decide_eq_false_iff_not, Bool.not_eq_true', Bool.not_eq_false', ne_eq, Decidable.not_not, Bool.not_eq_true, Bool.and_eq_true, Bool.or_eq_true, BitVec.reduceToNat] at hg12'
      refine JO.gf (g := 18) rfl rfl hg12 (by decide) ?_
      refine JO.gf (g := 18) rfl rfl hg12 (by decide) ?_
      refine JO.v (Yv.pick1 rfl hg12 rfl) (by decide) ?_
      refine JO.nil ?_
      refine JQ.head () (by first | (refine ⟨by first | rfl | (simp [*]; done) | (show some _ = some _; simp [*]; done), ?_⟩; repeat (first | exact trivial | refine ⟨rfl, ?_⟩))) (Subs.sub (by repeat (first | exact Subs.nil _ | apply Subs.cons | exact List.Mem.head _ | refine List.Mem.tail _ ?_))) (Picks.perm (by repeat (first | exact Picks.nil _ | apply Picks.cons | exact Pull.here _ _ | apply Pull.there))) ?_
      trivial
    · have hg12' := hg12
      try simp only [decide_eq_true_eq, decide_eq_false_iff_not, Bool.not_eq_true', Bool.not_eq_false', ne_eq, Decidable.not_not, Bool.not_eq_true, Bool.and_eq_true, Bool.or_eq_true, BitVec.reduceToNat] at hg12'
      refine JO.gt (g := 18) rfl rfl hg12 ?_
      refine JO.v (Yv.move rfl) (by decide) ?_
      refine JO.gt (g := 18) rfl rfl hg12 ?_
      refine JO.v (Yv.as (v' := .bool false) (Yv.bin rfl rfl BinR.lss_i) (congrArg Value.bool (decide_eq_false (by omega)))) (by decide) ?_
      refine JO.v (Yv.pick0 rfl hg12 rfl) (by decide) ?_
      refine JO.nil ?_
      refine JQ.head () (by first | (refine ⟨by first | rfl | (simp [*]; done) | (show some _ = some _; simp [*]; done), ?_⟩; repeat (first | exact trivial | refine ⟨rfl, ?_⟩))) (Subs.sub (by repeat (first | exact Subs.nil _ | apply Subs.cons | exact List.Mem.head _ | refine List.Mem.tail _ ?_))) (Picks.perm (by repeat (first | exact Picks.nil _ | apply Picks.cons | exact Pull.here _ _ | apply Pull.there))) ?_
      trivial
  · skip
    refine JO.nil ?_
    refine JQ.then_normal ?_
    refine JC.cond rfl (fun hc1 => ?_) (fun hc1 => ?_)
    · try simp only [decide_eq_true_eq, decide_eq_false_iff_not, Bool.not_eq_true', Bool.not_eq_false', ne_eq, Decidable.not_not, Bool.not_eq_true, Bool.and_eq_true, Bool.or_eq_true, BitVec.reduceToNat] at hc1
      have hdone : hpFrom (K ys) n a := dn_doneA hI fun k k0 kn kp => by omega
      refine JC.exit ?_
      refine JQ.then_exit ?_
      refine JQ.block_other (by decide) ?_
      refine JQ.then_exit ?_
      refine JQ.block_exit ?_
      refine JQ.then_normal ?_
      refine JC.seq ?_
      refine JC.region ?_
      refine JO.v (Yv.move rfl) (by decide) ?_
      refine JO.v (Yv.move rfl) (by decide) ?_
      refine JO.v (Yv.bin rfl rfl BinR.gtr_i) (by decide) ?_
      refine JO.v (Yv.assign rfl) (by decide) ?_
      refine JO.nil ?_
      refine JQ.then_normal ?_
      refine JC.ret ?_
      exact JQ.done (.inr rfl) (Γ' := []) (H' := [Res.cells q [v, (.func (.func 25) #[] #[])] 62, Res.row v _ 59 3 _]) (res1 rfl (RV.tmp rfl)) (Subs.sub (by repeat (first | exact Subs.nil _ | apply Subs.cons | exact List.Mem.head _ | refine List.Mem.tail _ ?_))) (Picks.perm (by repeat (first | exact Picks.nil _ | apply Picks.cons | exact Pull.here _ _ | apply Pull.there))) ⟨_, hp, hk, hdone, rfl, rfl⟩
    · try simp only [decide_eq_true_eq, decide_eq_false_iff_not, Bool.not_eq_true', Bool.not_eq_false', ne_eq, Decidable.not_not, Bool.not_eq_true, Bool.and_eq_true, Bool.or_eq_true, BitVec.reduceToNat] at hc1
      skip
      refine JC.skip ?_
      refine JQ.then_normal ?_
      refine JC.seq ?_
      refine JC.region ?_
      refine JO.v (Yv.move rfl) (by decide) ?_
      refine JO.v (Yv.assign rfl) (by decide) ?_
      refine JO.nil ?_
      refine JQ.then_normal ?_
      refine JC.cut (ι := Nat) (fun x => x < n ∧ 0 < x ∧ i = (x - 1) / 2 ∧ ∀ k, 0 < k → k < n → (k - 1) / 2 = i → K ys x ≤ K ys k) (fun x => [(0, (.iface 55 (ptr q 0))), (1, it (a : Int)), (2, it (n : Int)), (7, it (i : Int)), (9, it (x : Int))]) (fun x => []) (fun x => [Res.cells q [v, (.func (.func 25) #[] #[])] 62, Res.row v ys.length 59 3 (enC ys)]) ?_ (fun x hx => ?_)
      · skip
        refine JC.seq ?_
        refine JC.region ?_
        refine JO.v (Yv.move rfl) (by decide) ?_
        refine JO.v (Yv.as (v' := it ((2 * i + 2 : Nat) : Int)) (Yv.bin rfl rfl (BinR.add_i (by first | (constructor <;> omega) | (constructor <;> simp <;> omega)))) (congrArg it (by omega))) (by decide) ?_
        refine JO.v (Yv.assign rfl) (by decide) ?_
        refine JO.nil ?_
        refine JQ.then_normal ?_
        refine JC.seq ?_
        refine JC.region ?_
        refine JO.v (Yv.move rfl) (by decide) ?_
        refine JO.v (Yv.move rfl) (by decide) ?_
        refine JO.v (Yv.as (v' := .bool (decide (2 * i + 2 < n))) (Yv.bin rfl rfl BinR.lss_i) (congrArg Value.bool (decide_eq_decide.2 (by omega)))) (by decide) ?_
        refine JO.v (Yv.move rfl) (by decide) ?_
        refine JO.join 5 33 (.bool (decide (2 * i + 2 < n ∧ K ys (2 * i + 2) < K ys (2 * i + 1)))) ?_ ?_
        · skip
          refine JO.gsplit (g := 27) rfl (fun hg24 => ?_) (fun hg24 => ?_)
          · have hg24' := hg24
            try simp only [decide_eq_true_eq, decide_eq_false_iff_not, Bool.not_eq_true', Bool.not_eq_false', ne_eq, Decidable.not_not, Bool.not_eq_true, Bool.and_eq_true, Bool.or_eq_true, BitVec.reduceToNat] at hg24'
            refine JO.gt (g := 28) rfl rfl hg24 ?_
            refine JO.v (Yv.move rfl) (by decide) ?_
            refine JO.gt (g := 28) rfl rfl hg24 ?_
            refine JO.v (Yv.move rfl) (by decide) ?_
            refine JO.gt (g := 28) rfl rfl hg24 ?_
            refine JO.v (Yv.move rfl) (by decide) ?_
            refine JO.gt (g := 28) rfl rfl hg24 ?_
            refine JO.callI (f47_spec q v ys (2 * i + 2) (2 * i + 1) (by omega) (by omega)) (Mth.self row_55_Less Try.underlying55) body_47 rfl rfl (by repeat (first | exact Picks.nil _ | apply Picks.cons | exact Pull.here _ _ | apply Pull.there)) (by repeat (first | exact Lends.nil _ | apply Lends.cons | exact Lend.same _ _ | exact Lend.row _ _ _ _ _ _ (by decide) | apply Lend.there)) (by rintro _ _ _ ⟨_, h, _⟩; exact h) (by decide) ?_
            rintro _ _ ⟨_, ⟨rfl, _, rfl⟩, hH⟩
            simp only [List.cons_append, List.nil_append] at hH; subst hH
            refine JO.v (Yv.pick1 rfl hg24 rfl) (by decide) ?_
            refine JO.nil ?_
            refine JQ.head () (by first | (refine ⟨by first | rfl | (show some _ = some _; exact congrArg (fun b => some (Value.bool b)) (by first | (simp [K, hg24']; done) | (simp [hg24']; omega))), ?_⟩; repeat (first | exact trivial | refine ⟨rfl, ?_⟩))) (Subs.sub (by repeat (first | exact Subs.nil _ | apply Subs.cons | exact List.Mem.head _ | refine List.Mem.tail _ ?_))) (Picks.perm (by repeat (first | exact Picks.nil _ | apply Picks.cons | exact Pull.here _ _ | apply Pull.there))) ?_
            trivial
          · have hg24' := hg24
            try simp only [decide_eq_true_eq, decide_eq_false_iff_not, Bool.not_eq_true', Bool.not_eq_false', ne_eq, Decidable.not_not, Bool.not_eq_true, Bool.and_eq_true, Bool.or_eq_true, BitVec.reduceToNat] at hg24'
            refine JO.gf (g := 28) rfl rfl hg24 (by decide) ?_
            refine JO.gf (g := 28) rfl rfl hg24 (by decide) ?_
            refine JO.gf (g := 28) rfl rfl hg24 (by decide) ?_
            refine JO.gf (g := 28) rfl rfl hg24 (by decide) ?_
            refine JO.v (Yv.pick0 rfl hg24 rfl) (by decide) ?_
            refine JO.nil ?_
            refine JQ.head () (by first | (refine ⟨by first | rfl | (show some _ = some _; exact congrArg (fun b => some (Value.bool b)) (by first | (simp [K, hg24']; done) | (simp [hg24']; omega))), ?_⟩; repeat (first | exact trivial | refine ⟨rfl, ?_⟩))) (Subs.sub (by repeat (first | exact Subs.nil _ | apply Subs.cons | exact List.Mem.head _ | refine List.Mem.tail _ ?_))) (Picks.perm (by repeat (first | exact Picks.nil _ | apply Picks.cons | exact Pull.here _ _ | apply Pull.there))) ?_
            trivial
        · skip
          refine JO.nil ?_
          refine JQ.then_normal ?_
          refine JC.cond rfl (fun hc2 => ?_) (fun hc2 => ?_)
          · try simp only [decide_eq_true_eq, decide_eq_false_iff_not, Bool.not_eq_true', Bool.not_eq_false', ne_eq, Decidable.not_not, Bool.not_eq_true, Bool.and_eq_true, Bool.or_eq_true, BitVec.reduceToNat] at hc2
            generalize hjx : 2 * i + 2 = jx at *
            refine JC.region ?_
            refine JO.v (Yv.move rfl) (by decide) ?_
            refine JO.v (Yv.assign rfl) (by decide) ?_
            refine JO.nil ?_
            refine JQ.head jx (by repeat (first | exact trivial | refine ⟨by first | rfl | (simp; done), ?_⟩)) (Subs.sub (by repeat (first | exact Subs.nil _ | apply Subs.cons | exact List.Mem.head _ | refine List.Mem.tail _ ?_))) (Picks.perm (by repeat (first | exact Picks.nil _ | apply Picks.cons | exact Pull.here _ _ | apply Pull.there))) ?_
            refine ⟨by omega, by omega, by omega, fun k k0 kn kp => ?_⟩
            obtain rfl | rfl : k = 2 * i + 1 ∨ k = 2 * i + 2 := by omega
            all_goals first | omega | (rw [hjx]; omega) | (rw [hjx]; exact Nat.le_refl _)
          · try simp only [decide_eq_true_eq, decide_eq_false_iff_not, Bool.not_eq_true', Bool.not_eq_false', ne_eq, Decidable.not_not, Bool.not_eq_true, Bool.and_eq_true, Bool.or_eq_true, BitVec.reduceToNat] at hc2
            generalize hjx : 2 * i + 1 = jx at *
            refine JC.skip ?_
            refine JQ.head jx (by repeat (first | exact trivial | refine ⟨by first | rfl | (simp; done), ?_⟩)) (Subs.sub (by repeat (first | exact Subs.nil _ | apply Subs.cons | exact List.Mem.head _ | refine List.Mem.tail _ ?_))) (Picks.perm (by repeat (first | exact Picks.nil _ | apply Picks.cons | exact Pull.here _ _ | apply Pull.there))) ?_
            refine ⟨by omega, by omega, by omega, fun k k0 kn kp => ?_⟩
            obtain rfl | rfl : k = 2 * i + 1 ∨ k = 2 * i + 2 := by omega
            all_goals first | omega | (rw [hjx]; omega) | (rw [hjx]; exact Nat.le_refl _)
      · skip
        revert hx
        generalize x = j
        rintro ⟨hjn, hj0, hij, hmin⟩
        refine JC.seq ?_
        refine JC.seq ?_
        refine JC.region ?_
        refine JO.v (Yv.move rfl) (by decide) ?_
        refine JO.v (Yv.move rfl) (by decide) ?_
        refine JO.v (Yv.move rfl) (by decide) ?_
        refine JO.callI (f47_spec q v ys j i (by omega) (by omega)) (Mth.self row_55_Less Try.underlying55) body_47 rfl rfl (by repeat (first | exact Picks.nil _ | apply Picks.cons | exact Pull.here _ _ | apply Pull.there)) (by repeat (first | exact Lends.nil _ | apply Lends.cons | exact Lend.same _ _ | exact Lend.row _ _ _ _ _ _ (by decide) | apply Lend.there)) (by rintro _ _ _ ⟨_, h, _⟩; exact h) (by decide) ?_
        rintro _ _ ⟨_, ⟨rfl, _, rfl⟩, hH⟩
        simp only [List.cons_append, List.nil_append] at hH; subst hH
        refine JO.v (Yv.as (v' := .bool (decide (K ys i ≤ K ys j))) (Yv.not rfl) (congrArg Value.bool (by rw [← decide_not]; exact decide_eq_decide.2 Nat.not_lt))) (by decide) ?_
        refine JO.nil ?_
        refine JQ.then_normal ?_
        refine JC.cond rfl (fun hc3 => ?_) (fun hc3 => ?_)
        · try simp only [decide_eq_true_eq, decide_eq_false_iff_not, Bool.not_eq_true', Bool.not_eq_false', ne_eq, Decidable.not_not, Bool.not_eq_true, Bool.and_eq_true, Bool.or_eq_true, BitVec.reduceToNat] at hc3
          have hdone : hpFrom (K ys) n a := dn_doneA hI fun k k0 kn kp => Nat.le_trans hc3 (hmin k k0 kn kp)
          refine JC.exit ?_
          refine JQ.then_exit ?_
          refine JQ.block_other (by decide) ?_
          refine JQ.then_exit ?_
          refine JQ.block_exit ?_
          refine JQ.then_normal ?_
          refine JC.seq ?_
          refine JC.region ?_
          refine JO.v (Yv.move rfl) (by decide) ?_
          refine JO.v (Yv.move rfl) (by decide) ?_
          refine JO.v (Yv.bin rfl rfl BinR.gtr_i) (by decide) ?_
          refine JO.v (Yv.assign rfl) (by decide) ?_
          refine JO.nil ?_
          refine JQ.then_normal ?_
          refine JC.ret ?_
          exact JQ.done (.inr rfl) (Γ' := []) (H' := [Res.cells q [v, (.func (.func 25) #[] #[])] 62, Res.row v _ 59 3 _]) (res1 rfl (RV.tmp rfl)) (Subs.sub (by repeat (first | exact Subs.nil _ | apply Subs.cons | exact List.Mem.head _ | refine List.Mem.tail _ ?_))) (Picks.perm (by repeat (first | exact Picks.nil _ | apply Picks.cons | exact Pull.here _ _ | apply Pull.there))) ⟨_, hp, hk, hdone, rfl, rfl⟩
        · try simp only [decide_eq_true_eq, decide_eq_false_iff_not, Bool.not_eq_true', Bool.not_eq_false', ne_eq, Decidable.not_not, Bool.not_eq_true, Bool.and_eq_true, Bool.or_eq_true, BitVec.reduceToNat] at hc3
          have hlt : K ys j < K ys i := by omega
          refine JC.skip ?_
          refine JQ.then_normal ?_
          refine JC.seq ?_
          refine JC.region ?_
          refine JO.v (Yv.move rfl) (by decide) ?_
          refine JO.v (Yv.move rfl) (by decide) ?_
          refine JO.v (Yv.move rfl) (by decide) ?_
          refine JO.callI (f50_spec q v ys i j (by omega) (by omega)) (Mth.self row_55_Swap Try.underlying55) body_50 rfl rfl (by repeat (first | exact Picks.nil _ | apply Picks.cons | exact Pull.here _ _ | apply Pull.there)) (by repeat (first | exact Lends.nil _ | apply Lends.cons | exact Lend.same _ _ | exact Lend.row _ _ _ _ _ _ (by decide) | apply Lend.there)) (by rintro _ _ _ ⟨h, _⟩; exact h) (by decide) ?_
          rintro _ _ ⟨_, ⟨_, rfl⟩, hH⟩
          simp only [List.cons_append, List.nil_append] at hH; subst hH
          refine JO.nil ?_
          refine JQ.then_normal ?_
          refine JC.region ?_
          refine JO.v (Yv.move rfl) (by decide) ?_
          refine JO.v (Yv.assign rfl) (by decide) ?_
          refine JO.nil ?_
          refine JQ.block_normal ?_
          refine JQ.head (swp enD ys i j, j) (by repeat (first | exact trivial | refine ⟨by first | rfl | (simp; done), ?_⟩)) (Subs.sub (by repeat (first | exact Subs.nil _ | apply Subs.cons | exact List.Mem.head _ | refine List.Mem.tail _ ?_))) (Picks.perm (by repeat (first | exact Picks.nil _ | apply Picks.cons | exact Pull.here _ _ | apply Pull.there))) ?_
          refine ⟨⟨(swp_perm (by omega) (by omega)).trans hp, fun k hkn => ?_, ?_, .inl hjn, by dsimp only; omega⟩, by dsimp only; omega⟩
          · dsimp only
            by_cases hkl : k < ys.length
            · rw [swp_get (by omega) (by omega) hkl, if_neg (by omega), if_neg (by omega)]
              exact hk k hkn
            · rw [← hk k hkn, List.getD_eq_getElem?_getD, List.getElem?_eq_none (by simp; omega), List.getD_eq_getElem?_getD, List.getElem?_eq_none (by omega)]
          · dsimp only
            rw [swp_K (by omega) (by omega)]
            exact dn_stepA hI hai hjn hj0 hij hmin hlt


theorem f19_spec (q : Nat) (v : Value) (xs : List En) (x : En) (hh : heapTo (K xs) xs.length) (hl : xs.length ≤ 1000000) :
    Spec Try.prog 19 #[(.iface 55 (ptr q 0)), (.iface 59 (.agg (x).cells.toArray))] [] [Res.cells q [v, (.func (.func 25) #[] #[])] 62, Res.row v xs.length 59 3 (enC xs)]
      (fun r Γ' H' => ∃ v' ys, ys.Perm (xs ++ [x]) ∧ heapTo (K ys) ys.length ∧ Γ' = [] ∧ H' = [Res.cells q [v', (.func (.func 25) #[] #[])] 62, Res.row v' ys.length 59 3 (enC ys)]) := by
  refine Spec.of_args Try.func19 rfl Try.ntmps19 (by simp) fun w => ?_
  refine JC.seq ?_
  refine JC.region ?_
  refine JO.v (Yv.move rfl) (by decide) ?_
  refine JO.v (Yv.move rfl) (by decide) ?_
  refine JO.callI (f49_spec q v xs x hl) (Mth.self row_55_Push Try.underlying55) body_49 rfl rfl (by repeat (first | exact Picks.nil _ | apply Picks.cons | exact Pull.here _ _ | apply Pull.there)) (by repeat (first | exact Lends.nil _ | apply Lends.cons | exact Lend.same _ _ | exact Lend.row _ _ _ _ _ _ (by decide) | apply Lend.there)) (by rintro _ _ _ ⟨_, h, _⟩; exact h) (by decide) ?_
  rintro _ _ ⟨_, ⟨v2, _, rfl⟩, hH⟩
  simp only [List.cons_append, List.nil_append] at hH; subst hH
  refine JO.nil ?_
  refine JQ.then_normal ?_
  refine JC.region ?_
  refine JO.v (Yv.move rfl) (by decide) ?_
  refine JO.v (Yv.move rfl) (by decide) ?_
  refine JO.callI (f46_spec q v2 (xs ++ [x])) (Mth.self row_55_Len Try.underlying55) body_46 rfl rfl (by repeat (first | exact Picks.nil _ | apply Picks.cons | exact Pull.here _ _ | apply Pull.there)) (by repeat (first | exact Lends.nil _ | apply Lends.cons | exact Lend.same _ _ | exact Lend.row _ _ _ _ _ _ (by decide) | apply Lend.there)) (by rintro _ _ _ ⟨_, h, _⟩; exact h) (by decide) ?_
  rintro _ _ ⟨_, ⟨rfl, _, rfl⟩, hH⟩
  simp only [List.cons_append, List.nil_append] at hH; subst hH
  refine JO.v (Yv.as (v' := it (xs.length : Int)) (Yv.bin rfl rfl (BinR.sub_i (by first | (constructor <;> omega) | (constructor <;> simp <;> omega)))) (congrArg it (by simp))) (by decide) ?_
  refine JO.callB (f26_spec q v2 (xs ++ [x]) xs.length (by simp) (push_inv hh) (by simp; omega)) body_26 rfl (by repeat (first | exact Picks.nil _ | apply Picks.cons | exact Pull.here _ _ | apply Pull.there)) (by repeat (first | exact Lends.nil _ | apply Lends.cons | exact Lend.same _ _ | exact Lend.row _ _ _ _ _ _ (by decide) | apply Lend.there)) (by rintro _ _ _ ⟨_, _, _, h, _⟩; exact h) (by decide) ?_
  rintro _ _ ⟨_, ⟨ys, hp, hys, _, rfl⟩, hH⟩
  simp only [List.cons_append, List.nil_append] at hH; subst hH
  refine JO.nil ?_
  exact JQ.done (.inl rfl) (Γ' := []) (H' := [Res.cells q [_, (.func (.func 25) #[] #[])] 62, Res.row _ _ 59 3 _]) (res_none rfl) (Subs.sub (by repeat (first | exact Subs.nil _ | apply Subs.cons | exact List.Mem.head _ | refine List.Mem.tail _ ?_))) (Picks.perm (by repeat (first | exact Picks.nil _ | apply Picks.cons | exact Pull.here _ _ | apply Pull.there))) ⟨_, ys, hp, hys, rfl, rfl⟩


theorem f20_spec (q : Nat) (v : Value) (xs : List En) (n : Nat) (hn : xs.length = n + 1) (hh : heapTo (K xs) xs.length) (hl : xs.length ≤ 1000000) :
    Spec Try.prog 20 #[(.iface 55 (ptr q 0))] [] [Res.cells q [v, (.func (.func 25) #[] #[])] 62, Res.row v xs.length 59 3 (enC xs)]
      (fun r Γ' H' => ∃ v' ys x, (x :: ys).Perm xs ∧ heapTo (K ys) ys.length ∧ (∀ y ∈ ys, key x ≤ key y) ∧ r = .iface 59 (.agg (x).cells.toArray) ∧ Γ' = [] ∧ H' = [Res.cells q [v', (.func (.func 25) #[] #[])] 62, Res.row v' ys.length 59 3 (enC ys)]) := by
  refine Spec.of_args Try.func20 rfl Try.ntmps20 (by simp) fun w => ?_
  refine JC.seq ?_
  refine JC.region ?_
  refine JO.v (Yv.assign rfl) (by decide) ?_
  refine JO.nil ?_
  refine JQ.then_normal ?_
  refine JC.seq ?_
  refine JC.region ?_
  refine JO.v (Yv.move rfl) (by decide) ?_
  refine JO.callI (f46_spec q v xs) (Mth.self row_55_Len Try.underlying55) body_46 rfl rfl (by repeat (first | exact Picks.nil _ | apply Picks.cons | exact Pull.here _ _ | apply Pull.there)) (by repeat (first | exact Lends.nil _ | apply Lends.cons | exact Lend.same _ _ | exact Lend.row _ _ _ _ _ _ (by decide) | apply Lend.there)) (by rintro _ _ _ ⟨_, h, _⟩; exact h) (by decide) ?_
  rintro _ _ ⟨_, ⟨rfl, _, rfl⟩, hH⟩
  simp only [List.cons_append, List.nil_append] at hH; subst hH
  refine JO.v (Yv.as (v' := it (n : Int)) (Yv.bin rfl rfl (BinR.sub_i (by first | (constructor <;> omega) | (constructor <;> simp <;> omega)))) (congrArg it (by omega))) (by decide) ?_
  refine JO.v (Yv.assign rfl) (by decide) ?_
  refine JO.nil ?_
  refine JQ.then_normal ?_
  refine JC.seq ?_
  refine JC.region ?_
  refine JO.v (Yv.move rfl) (by decide) ?_
  refine JO.v (Yv.move rfl) (by decide) ?_
  refine JO.callI (f50_spec q v xs 0 n (by omega) (by omega)) (Mth.self row_55_Swap Try.underlying55) body_50 rfl rfl (by repeat (first | exact Picks.nil _ | apply Picks.cons | exact Pull.here _ _ | apply Pull.there)) (by repeat (first | exact Lends.nil _ | apply Lends.cons | exact Lend.same _ _ | exact Lend.row _ _ _ _ _ _ (by decide) | apply Lend.there)) (by rintro _ _ _ ⟨h, _⟩; exact h) (by decide) ?_
  rintro _ _ ⟨_, ⟨_, rfl⟩, hH⟩
  simp only [List.cons_append, List.nil_append] at hH; subst hH
  refine JO.nil ?_
  refine JQ.then_normal ?_
  refine JC.seq ?_
  refine JC.region ?_
  refine JO.v (Yv.move rfl) (by decide) ?_
  refine JO.v (Yv.move rfl) (by decide) ?_
  refine JO.callB (f27_spec q v (swp enD xs 0 n) n 0 (by rw [swp_len]; omega) (by decide) (pop_inv hn hh) (by rw [swp_len]; omega)) body_27 rfl (by repeat (first | exact Picks.nil _ | apply Picks.cons | exact Pull.here _ _ | apply Pull.there)) (by repeat (first | exact Lends.nil _ | apply Lends.cons | exact Lend.same _ _ | exact Lend.row _ _ _ _ _ _ (by decide) | apply Lend.there)) (by rintro _ _ _ ⟨_, _, _, _, h, _⟩; exact h) (by decide) ?_
  rintro _ _ ⟨_, ⟨zs, hp, hk, hz, _, rfl⟩, hH⟩
  simp only [List.cons_append, List.nil_append] at hH; subst hH
  have hzl : zs.length = n + 1 := by rw [hp.length_eq, swp_len, hn]
  have hmin := pop_min hn hzl hp hh (hk n (Nat.le_refl _))
  have hth := take_heap hzl (hp_all hz)
  have hsp := pop_split hzl
  generalize zs.take n = ys at *
  generalize zs.getD n enD = y at *
  subst hsp
  refine JO.nil ?_
  refine JQ.then_normal ?_
  refine JC.seq ?_
  refine JC.region ?_
  refine JO.v (Yv.move rfl) (by decide) ?_
  refine JO.callI (f48_spec q v ys y (by simp at hzl; omega)) (Mth.self row_55_Pop Try.underlying55) body_48 rfl rfl (by repeat (first | exact Picks.nil _ | apply Picks.cons | exact Pull.here _ _ | apply Pull.there)) (by repeat (first | exact Lends.nil _ | apply Lends.cons | exact Lend.same _ _ | exact Lend.row _ _ _ _ _ _ (by decide) | apply Lend.there)) (by rintro _ _ _ ⟨_, _, h, _⟩; exact h) (by decide) ?_
  rintro _ _ ⟨_, ⟨v2, rfl, _, rfl⟩, hH⟩
  simp only [List.cons_append, List.nil_append] at hH; subst hH
  refine JO.v (Yv.assign rfl) (by decide) ?_
  refine JO.nil ?_
  refine JQ.then_normal ?_
  refine JC.ret ?_
  exact JQ.done (.inr rfl) (Γ' := []) (H' := [Res.cells q [_, (.func (.func 25) #[] #[])] 62, Res.row _ _ 59 3 _]) (res1 rfl (RV.tmp rfl)) (Subs.sub (by repeat (first | exact Subs.nil _ | apply Subs.cons | exact List.Mem.head _ | refine List.Mem.tail _ ?_))) (Picks.perm (by repeat (first | exact Picks.nil _ | apply Picks.cons | exact Pull.here _ _ | apply Pull.there))) ⟨_, ys, y, hmin.1, hth, hmin.2, rfl, rfl, rfl⟩


theorem f23_spec (q : Nat) (v : Value) (xs : List En) (hl : xs.length ≤ 1000000) :
    Spec Try.prog 23 #[(.iface 55 (ptr q 0))] [] [Res.cells q [v, (.func (.func 25) #[] #[])] 62, Res.row v xs.length 59 3 (enC xs)]
      (fun r Γ' H' => ∃ ys, ys.Perm xs ∧ heapTo (K ys) ys.length ∧ Γ' = [] ∧ H' = [Res.cells q [v, (.func (.func 25) #[] #[])] 62, Res.row v ys.length 59 3 (enC ys)]) := by
  refine Spec.of_args Try.func23 rfl Try.ntmps23 (by simp) fun w => ?_
  refine JC.seq ?_
  refine JC.region ?_
  refine JO.v (Yv.move rfl) (by decide) ?_
  refine JO.callI (f46_spec q v xs) (Mth.self row_55_Len Try.underlying55) body_46 rfl rfl (by repeat (first | exact Picks.nil _ | apply Picks.cons | exact Pull.here _ _ | apply Pull.there)) (by repeat (first | exact Lends.nil _ | apply Lends.cons | exact Lend.same _ _ | exact Lend.row _ _ _ _ _ _ (by decide) | apply Lend.there)) (by rintro _ _ _ ⟨_, h, _⟩; exact h) (by decide) ?_
  rintro _ _ ⟨_, ⟨rfl, _, rfl⟩, hH⟩
  simp only [List.cons_append, List.nil_append] at hH; subst hH
  refine JO.v (Yv.assign rfl) (by decide) ?_
  refine JO.nil ?_
  refine JQ.then_normal ?_
  refine JC.seq ?_
  refine JC.region ?_
  refine JO.v (Yv.move rfl) (by decide) ?_
  refine JO.v (Yv.as (v' := it ((xs.length / 2 : Nat) : Int)) (Yv.bin rfl rfl (BinR.quo_i (by first | omega | decide | (simp; omega)) (by first | omega | decide | (simp; omega)) (by first | (constructor <;> omega) | (constructor <;> simp <;> omega)))) (congrArg it (by omega))) (by decide) ?_
  refine JO.v (Yv.bin rfl rfl (BinR.sub_i (by first | (constructor <;> omega) | (constructor <;> simp <;> omega)))) (by decide) ?_
  refine JO.v (Yv.assign rfl) (by decide) ?_
  refine JO.nil ?_
  refine JQ.then_normal ?_
  refine JC.block ?_
  refine JC.loop (ι := List En × Nat) (fun x => x.1.Perm xs ∧ hpFrom (K x.1) xs.length x.2 ∧ x.2 ≤ xs.length) (fun x => [(0, (.iface 55 (ptr q 0))), (2, it (xs.length : Int)), (3, it ((x.2 : Int) - 1))]) (fun x => []) (fun x => [Res.cells q [v, (.func (.func 25) #[] #[])] 62, Res.row v x.1.length 59 3 (enC x.1)]) (fun x => x.2) (xs, xs.length / 2) (by repeat (first | exact trivial | refine ⟨by first | rfl | (simp; done), ?_⟩)) (Subs.sub (by repeat (first | exact Subs.nil _ | apply Subs.cons | exact List.Mem.head _ | refine List.Mem.tail _ ?_))) (Picks.perm (by repeat (first | exact Picks.nil _ | apply Picks.cons | exact Pull.here _ _ | apply Pull.there))) ?_ (fun x hx => ?_)
  · exact ⟨.refl _, hp_top _ _, by dsimp only; omega⟩
  obtain ⟨ys, i⟩ := x
  obtain ⟨hp, hI, hi⟩ := hx
  dsimp only at hp hI hi ⊢
  have hlen := hp.length_eq
  refine JC.seq ?_
  refine JC.seq ?_
  refine JC.region ?_
  refine JO.v (Yv.move rfl) (by decide) ?_
  refine JO.v (Yv.bin rfl rfl BinR.geq_i) (by decide) ?_
  refine JO.nil ?_
  refine JQ.then_normal ?_
  refine JC.cond rfl (fun hc1 => ?_) (fun hc1 => ?_)
  · try simp only [decide_eq_true_eq, decide_eq_false_iff_not, Bool.not_eq_true', Bool.not_eq_false', ne_eq, Decidable.not_not, Bool.not_eq_true, Bool.and_eq_true, Bool.or_eq_true, BitVec.reduceToNat] at hc1
    obtain ⟨a, rfl⟩ : ∃ a, i = a + 1 := ⟨i - 1, by omega⟩
    refine JC.skip ?_
    refine JQ.then_normal ?_
    refine JC.seq ?_
    refine JC.block ?_
    refine JC.region ?_
    refine JO.v (Yv.move rfl) (by decide) ?_
    refine JO.v (Yv.as (v' := it (a : Int)) (Yv.move rfl) (congrArg it (by omega))) (by decide) ?_
    refine JO.v (Yv.move rfl) (by decide) ?_
    refine JO.callB (f27_spec q v ys xs.length a (by omega) (by omega) (hp_dn hI) (by omega)) body_27 rfl (by repeat (first | exact Picks.nil _ | apply Picks.cons | exact Pull.here _ _ | apply Pull.there)) (by repeat (first | exact Lends.nil _ | apply Lends.cons | exact Lend.same _ _ | exact Lend.row _ _ _ _ _ _ (by decide) | apply Lend.there)) (by rintro _ _ _ ⟨_, _, _, _, h, _⟩; exact h) (by decide) ?_
    rintro _ _ ⟨_, ⟨zs, hzp, _, hz, _, rfl⟩, hH⟩
    simp only [List.cons_append, List.nil_append] at hH; subst hH
    refine JO.nil ?_
    refine JQ.block_normal ?_
    refine JQ.then_normal ?_
    refine JC.region ?_
    refine JO.v (Yv.as (v' := it (a : Int)) (Yv.move rfl) (congrArg it (by omega))) (by decide) ?_
    refine JO.v (Yv.as (v' := it ((a : Int) - 1)) (Yv.bin rfl rfl (BinR.sub_i (by first | (constructor <;> omega) | (constructor <;> simp <;> omega)))) (congrArg it (by omega))) (by decide) ?_
    refine JO.v (Yv.assign rfl) (by decide) ?_
    refine JO.nil ?_
    refine JQ.head (zs, a) (by repeat (first | exact trivial | refine ⟨by first | rfl | (simp; done), ?_⟩)) (Subs.sub (by repeat (first | exact Subs.nil _ | apply Subs.cons | exact List.Mem.head _ | refine List.Mem.tail _ ?_))) (Picks.perm (by repeat (first | exact Picks.nil _ | apply Picks.cons | exact Pull.here _ _ | apply Pull.there))) ?_
    exact ⟨⟨hzp.trans hp, hz, by dsimp only; omega⟩, by dsimp only; omega⟩
  · try simp only [decide_eq_true_eq, decide_eq_false_iff_not, Bool.not_eq_true', Bool.not_eq_false', ne_eq, Decidable.not_not, Bool.not_eq_true, Bool.and_eq_true, Bool.or_eq_true, BitVec.reduceToNat] at hc1
    obtain rfl : i = 0 := by omega
    refine JC.exit ?_
    refine JQ.then_exit ?_
    refine JQ.then_exit ?_
    refine JQ.block_exit ?_
    exact JQ.done (.inl rfl) (Γ' := []) (H' := [Res.cells q [v, (.func (.func 25) #[] #[])] 62, Res.row v _ 59 3 _]) (res_none rfl) (Subs.sub (by repeat (first | exact Subs.nil _ | apply Subs.cons | exact List.Mem.head _ | refine List.Mem.tail _ ?_))) (Picks.perm (by repeat (first | exact Picks.nil _ | apply Picks.cons | exact Pull.here _ _ | apply Pull.there))) ⟨_, hp, by rw [hlen]; exact hp_all hI, rfl, rfl⟩
end Go.Proofs.Ytmefjbmaghjpfaa
