/- The calculus, part 13: structs of two numbers held against each other. No program in sight. -/
import Derived.Test.YtffgimlkmfjgmaaDoorA12
namespace Go.Proofs.YtffgimlkmfjgmaaDoor
open Go.RowKit
theorem run_eqTwo {P : Program} {T : TypeId} {f1 f2 : Field} {k1 k2 q1 q2 : IntKind} (hT : P.underlying T = some (.struct #[f1, f2])) (h1 : P.underlying f1.type = some (.int q1)) (h2 : P.underlying f2.type = some (.int q2)) (o1 : f1.offset = 0) (o2 : f2.offset = 1)
    (n1 : f1.name ≠ "_") (n2 : f2.name ≠ "_") (hs : P.stoodInHeld T = false) (a b i j : Int) (d : Nat) (w : World) :
    (Op.equalIn (d + 2) T (.agg #[.int k1 a, .int k2 i]) (.agg #[.int k1 b, .int k2 j])).run P w = .ok (decide (a = b ∧ i = j)) w := by
  have p1 : ∀ (x y : Value), (part f1.type #[x, y] f1.offset).run P w = .ok x w := fun x y => run_parts h1 rfl (by rw [o1]; rfl)
  have p2 : ∀ (x y : Value), (part f2.type #[x, y] f2.offset).run P w = .ok y w := fun x y => run_parts h2 rfl (by rw [o2]; rfl)
  have e1 : ∀ a b : Int, (Op.equalIn (d + 1) f1.type (.int k1 a) (.int k1 b)).run P w = .ok (a == b) w := fun a b => by
    rw [Op.equalIn]
    simp [underlying, h1]
  have e2 : ∀ a b : Int, (Op.equalIn (d + 1) f2.type (.int k2 a) (.int k2 b)).run P w = .ok (a == b) w := fun a b => by
    rw [Op.equalIn]
    simp [underlying, h2]
  rw [Op.equalIn]
  simp only [underlying, Sem.run_bind, run_program, Result.andThen_ok, hT, Sem.run_pure, hs]
  by_cases hab : a = b
  · by_cases hij : i = j
    · simp [p1, p2, e1, e2, n1, n2, hab, hij]
    · simp [p1, p2, e1, e2, n1, n2, hab, hij]
  · simp [p1, e1, n1, hab]
theorem BinR.neq_two {P : Program} {x y : Operand} {T : TypeId} {f1 f2 : Field} {k1 k2 q1 q2 : IntKind} (hT : P.underlying T = some (.struct #[f1, f2])) (h1 : P.underlying f1.type = some (.int q1)) (h2 : P.underlying f2.type = some (.int q2)) (o1 : f1.offset = 0) (o2 : f2.offset = 1)
    (n1 : f1.name ≠ "_") (n2 : f2.name ≠ "_") (hs : P.stoodInHeld T = false) (hm : P.eqGuardType P.depth T = false) (a b i j : Int) :
    BinR P .neq T x y (.agg #[.int k1 a, .int k2 i]) (.agg #[.int k1 b, .int k2 j]) (.bool (!decide (a = b ∧ i = j))) := fun w => by
  have h0 : (Op.equal T (.agg #[.int k1 a, .int k2 i]) (.agg #[.int k1 b, .int k2 j])).run P w = .ok (decide (a = b ∧ i = j)) w := run_eqTwo hT h1 h2 o1 o2 n1 n2 hs a b i j 9998 w
  simp only [Sem.run_bind, run_eqGuard_agg w .neq T x y _ _ hm, Result.andThen_ok, binOp, h0, Sem.run_pure]
end Go.Proofs.YtffgimlkmfjgmaaDoor
