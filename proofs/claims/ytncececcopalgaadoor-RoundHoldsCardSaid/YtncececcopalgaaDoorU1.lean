/- Walks: what is to be done, held against each other. -/
import Derived.Test.YtncececcopalgaaDoorF5
import Derived.Test.YtncececcopalgaaDoorX16
namespace Go.Proofs.YtncececcopalgaaDoor
open Go.RowKit
set_option maxRecDepth 100000
set_option linter.unusedVariables false
set_option linter.unusedSimpArgs false
theorem act_is (a b : Act) : [decide (a.kind = b.kind), decide (a.round = b.round), decide (a.value = b.value), decide (a.valid = b.valid)].all id = true ↔ a = b := by
  obtain ⟨a1, a2, a3, a4⟩ := a
  obtain ⟨b1, b2, b3, b4⟩ := b
  simp
theorem neq_act {x y : Operand} {a b : Act} : BinR Tryd.prog .neq 41 x y (acV a) (acV b) (.bool (decide (a ≠ b))) := by
  rw [show decide (a ≠ b) = !decide (a = b) from decide_not]
  exact BinR.neq_st Tryd.underlying41 (by kernel_rfl) (by kernel_rfl) (fun w => .cons (EqF.int Tryd.underlying3 (by decide) rfl rfl) (.cons (EqF.int Tryd.underlying3 (by decide) rfl rfl) (.cons (EqF.dig agg_24 Tryd.underlying24 Tryd.underlying5 sz_5 (by decide) (act_ex a) (act_ex b)) (.cons (EqF.int Tryd.underlying3 (by decide) (act_34 a) (act_34 b)) .nil)))) (act_is a b)

theorem f24_spec (u v : Value) (l k : List Act) (hl : l.length ≤ 100000) :
    Spec Tryd.prog 24 #[u, v] [Res.rd u l.length 35 (acC l), Res.rd v k.length 35 (acC k)] []
      (fun r Γ' H' => r = (.bool (decide (l = k))) ∧ Γ' = [] ∧ H' = []) := by
  refine Spec.of_args Tryd.func24 rfl Tryd.ntmps24 (by simp) fun w => ?_
  refine .seq (.region ?_)
  refine .w (.assign rfl) ?_
  refine .nil (.tn (.seq (.seq (.region ?_))))
  refine .w (.move rfl) ?_
  refine .w (.len Tryd.underlying31 rfl) ?_
  refine .w (.move rfl) ?_
  refine .w (.len Tryd.underlying31 rfl) ?_
  refine .w (.bin rfl rfl BinR.neq_i) ?_
  refine .nil (.tn ?_)
  refine .cn rfl (fun hc1 => ?_) (fun hc1 => ?_)
  · have hr : decide (l = k) = false := decide_eq_false (fun h => hc1 (by rw [h]))
    refine .seq (.region ?_)
    refine .w (.assign rfl) ?_
    refine .nil (.tn (.ret (.then_ret ?_)))
    exact .dn [] [] (res1 rfl (.tmp rfl)) ⟨by rw [hr], rfl, rfl⟩
  · have hlk : l.length = k.length := by omega
    refine .skip (.tn (.seq (.seq (.region ?_))))
    refine .w (.assign rfl) ?_
    refine .nil (.tn (.block ?_))
    refine .lp (ι := Nat) (fun x => x ≤ l.length ∧ ∀ j : Nat, j < x → actAt l j = actAt k j) (fun T x => (5, it (x : Int)) :: T) (fun T _ => T) (fun T _ => T) (fun x => l.length - x) 0 [0, 1] ?_ (fun x hx => ?_)
    · exact ⟨Nat.zero_le _, fun j hj => absurd hj (Nat.not_lt_zero _)⟩
    obtain ⟨hx, hj⟩ := hx
    refine .seq (.seq (.region ?_))
    refine .w (.move rfl) ?_
    refine .w (.move rfl) ?_
    refine .w (.len Tryd.underlying31 rfl) ?_
    refine .w (.bin rfl rfl BinR.lss_i) ?_
    refine .nil (.tn ?_)
    refine .cn rfl (fun hc2 => ?_) (fun hc2 => ?_)
    · skip
      refine .skip (.tn (.seq (.block (.seq ?_))))
      refine JC.draw (.one 0 (.one 1 (.one 2 (.one 3 (.one 4 (.one 5 (.one 6 (.one 7 (.one 8 .nil))))))))) (fun i => ([] : List Nat).contains i) (fun i => ([] : List Nat).contains i) (fun i => ([0, 1, 2, 4, 5, 6, 8] : List Nat).contains i) mixed (by kernel_rfl) (by decide) (by kernel_rfl) ?_
      refine .uw rfl (.move rfl) ?_
      refine .uw rfl (.move rfl) ?_
      refine .uw rfl (.ix Tryd.underlying31 sz_41 rfl rfl) ?_
      refine .w rfl (.as (v' := acV (actAt l x)) (.lda agg_41 rfl) (congrArg (fun l : List Value => Value.agg l.toArray) (act_all (by omega)))) ?_
      refine .uw rfl (.move rfl) ?_
      refine .uw rfl (.move rfl) ?_
      refine .uw rfl (.ix Tryd.underlying31 sz_41 rfl rfl) ?_
      refine .w rfl (.as (v' := acV (actAt k x)) (.lda agg_41 rfl) (congrArg (fun l : List Value => Value.agg l.toArray) (act_all (by omega)))) ?_
      refine .uw rfl (.bin rfl rfl (neq_act)) ?_
      refine .nil (.tn ?_)
      refine .cn rfl (fun hc3 => ?_) (fun hc3 => ?_)
      · have hr : decide (l = k) = false := decide_eq_false (fun h => hc3 (by rw [h]))
        refine .seq (.region ?_)
        refine .w (.assign rfl) ?_
        refine .nil (.tn (.ret (.block_ret (.then_ret (.then_ret (.block_ret (.then_ret ?_)))))))
        exact .dn [] [] (res1 rfl (.tmp rfl)) ⟨by rw [hr], rfl, rfl⟩
      · skip
        refine .skip (.block_normal (.tn (.region ?_)))
        refine .w (.move rfl) ?_
        refine .w (.asI ((x + 1 : Nat) : Int) (.bin rfl rfl (BinR.add_i (by first | (constructor <;> omega) | (constructor <;> simp <;> omega))))) ?_
        refine .w (.assign rfl) ?_
        refine .nil ?_
        refine .hd (x + 1) ?_
        exact ⟨⟨by omega, fun j h => by
          rcases Nat.lt_succ_iff_lt_or_eq.1 h with h | h
          · exact hj j h
          · subst h; exact hc3⟩, by omega⟩
    · have hr : decide (l = k) = true := decide_eq_true (acts_eq hlk (fun j h => hj j (by omega)))
      refine .exit (.then_exit (.then_exit (.block_exit (.tn (.seq (.region ?_))))))
      refine .w (.assign rfl) ?_
      refine .nil (.tn (.ret ?_))
      exact .dn [] [] (res1 rfl (.tmp rfl)) ⟨by rw [hr], rfl, rfl⟩
end Go.Proofs.YtncececcopalgaaDoor
