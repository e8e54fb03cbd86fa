/- Values built of parts that are lists; structs held against each other. No program in sight. -/
import Derived.Test.YtffgimlkmfjgmaaDoorK3
namespace Go.Proofs.YtffgimlkmfjgmaaDoor
open Go.RowKit
set_option linter.unusedVariables false
set_option linter.unusedSimpArgs false
theorem foldl_splice : ∀ (c zs : List Value) (o k : Nat), o + k + c.length ≤ zs.length → (c.zipIdx k).foldl (fun (cs : Array Value) (p : Value × Nat) => cs.setIfInBounds (o + p.2) p.1) zs.toArray = (splice zs (o + k) c).toArray
  | [], zs, o, k, _ => by simp [splice]
  | x :: c, zs, o, k, h => by
    simp only [List.length_cons] at h
    have ih := foldl_splice c (zs.set (o + k) x) o (k + 1) (by simp; omega)
    simp only [List.zipIdx_cons, List.foldl_cons]
    have e1 : (zs.toArray.setIfInBounds (o + k) x) = (zs.set (o + k) x).toArray := by simp
    rw [e1, ih]
    congr 1
    unfold splice
    have h1 : (zs.set (o + k) x).take (o + (k + 1)) = zs.take (o + k) ++ [x] := by
      rw [show o + (k + 1) = o + k + 1 by omega, List.take_add_one, List.take_set_of_le (Nat.le_refl _), List.getElem?_set_self (by omega)]
      rfl
    have h2 : (zs.set (o + k) x).drop (o + (k + 1) + c.length) = zs.drop (o + k + (x :: c).length) := by
      rw [List.drop_set_of_lt (by omega), List.length_cons]
      congr 1
      omega
    rw [h1, h2]
    simp
inductive FillL (place : Nat → Option (Nat × Nat)) : List Value → List (Nat × Value) → List Value → Prop
  | nil (zs : List Value) : FillL place zs [] zs
  | cons {zs cs c : List Value} {i off size : Nat} {v : Value} {rest : List (Nat × Value)} : place i = some (off, size) → v.cells = c.toArray → c.length = size → off + size ≤ zs.length → FillL place (splice zs off c) rest cs → FillL place zs ((i, v) :: rest) cs
theorem FillL.fill {place : Nat → Option (Nat × Nat)} {zs cs : List Value} {vs : List (Nat × Value)} (h : FillL place zs vs cs) : Instr.fill place zs.toArray vs = some cs.toArray := by
  induction h with
  | nil zs => rfl
  | @cons zs cs c i off size v rest hp hv hc hl _ ih =>
    have h1 : v.cells.size = size := by rw [hv]; simpa using hc
    unfold Instr.fill
    simp only [hp]
    rw [if_neg (by rw [h1]; simp; omega)]
    have h2 := foldl_splice c zs off 0 (by omega)
    rw [Nat.add_zero] at h2
    rw [hv]
    have h3 : (c.toArray.zipIdx.foldl (fun (cs : Array Value) (x : Value × Nat) => match x with | (c, j) => cs.setIfInBounds (off + j) c) zs.toArray) = (splice zs off c).toArray := by
      rw [← h2]
      simp
    rw [h3]
    exact ih
section
variable {P : Program} {N : Nat} {C : Beg} {E : Env} {Γ H : RL} {ty : TypeId}
theorem Yv.bd {T : TypeId} {parts : List (Nat × Operand)} {vs : List (Nat × Value)} {place : Nat → Option (Nat × Nat)} {zs cs : List Value} (hB : Bld P T place zs) (hp : evp E parts = some vs := by rfl)
    (hf : FillL place zs vs cs := by (repeat (first | exact FillL.nil _ | (apply FillL.cons; rfl; rfl; (focus (first | rfl | (simp; done) | fail)); (focus (first | (simp [splice]; done) | fail))))); first | done | fail) : Yv P N C E Γ H (.build T parts.toArray) ty (.agg cs.toArray) := .build hB hp hf.fill
end
/-! ### Structs held against each other -/
def EqF (P : Program) (d : Nat) (w : World) (f : Field) (xs ys : Array Value) (b : Bool) : Prop :=
  f.name ≠ "_" ∧ ∃ u v, (part f.type xs f.offset).run P w = .ok u w ∧ (part f.type ys f.offset).run P w = .ok v w ∧ (Op.equalIn d f.type u v).run P w = .ok b w
inductive EqFs (P : Program) (d : Nat) (w : World) (xs ys : Array Value) : List Field → List Bool → Prop
  | nil : EqFs P d w xs ys [] []
  | cons {f : Field} {fs : List Field} {b : Bool} {bs : List Bool} : EqF P d w f xs ys b → EqFs P d w xs ys fs bs → EqFs P d w xs ys (f :: fs) (b :: bs)
theorem run_eqFs {P : Program} {d : Nat} {w : World} {xs ys : Array Value} {fs : List Field} {bs : List Bool} (h : EqFs P d w xs ys fs bs) :
    (forIn fs ((none, ()) : Option Bool × Unit) fun f __s => (if f.name ≠ "_" then do
        let a ← part f.type xs f.offset
        let b ← part f.type ys f.offset
        let r ← Op.equalIn d f.type a b
        if (!r) = true then pure (ForInStep.done (some false, ())) else pure (ForInStep.yield (none, ())) else pure (ForInStep.yield (none, ())) : Sem (ForInStep (Option Bool × Unit)))).run P w = .ok (if bs.all id then (none, ()) else (some false, ())) w := by
  induction h with
  | nil => simp
  | cons hf _ ih =>
    obtain ⟨hn, u, v, h1, h2, h3⟩ := hf
    rename_i b bs _
    simp only [List.forIn_cons, if_pos hn, Sem.run_bind, h1, h2, h3, Result.andThen_ok]
    cases b
    · simp
    · simp only [Bool.not_true, Bool.false_eq_true, if_false, Sem.run_pure, Result.andThen_ok]
      rw [ih]
      simp
theorem run_eqStruct {P : Program} {T : TypeId} {fs : List Field} {d : Nat} {w : World} {xs ys : Array Value} {bs : List Bool} (hT : P.underlying T = some (.struct fs.toArray)) (hs : P.stoodInHeld T = false) (h : EqFs P d w xs ys fs bs) :
    (Op.equalIn (d + 1) T (.agg xs) (.agg ys)).run P w = .ok (bs.all id) w := by
  rw [Op.equalIn]
  have h1 := run_eqFs h
  simp only [underlying, Sem.run_bind, run_program, Result.andThen_ok, hT, Sem.run_pure, hs, Bool.false_eq_true, if_false, List.forIn_toArray]
  rw [h1]
  cases bs.all id <;> simp
theorem EqF.int {P : Program} {d : Nat} {w : World} {f : Field} {xs ys : Array Value} {q k : IntKind} {m n : Int} (ht : P.underlying f.type = some (.int q)) (hn : f.name ≠ "_") (hx : xs[f.offset]? = some (.int k m)) (hy : ys[f.offset]? = some (.int k n)) : EqF P (d + 1) w f xs ys (decide (m = n)) :=
  ⟨hn, _, _, run_parts ht rfl hx, run_parts ht rfl hy, by
    rw [Op.equalIn]
    simp [underlying, ht, Bool.beq_eq_decide_eq]⟩
theorem EqF.bool {P : Program} {d : Nat} {w : World} {f : Field} {xs ys : Array Value} {m n : Bool} (ht : P.underlying f.type = some .bool) (hn : f.name ≠ "_") (hx : xs[f.offset]? = some (.bool m)) (hy : ys[f.offset]? = some (.bool n)) : EqF P (d + 1) w f xs ys (decide (m = n)) :=
  ⟨hn, _, _, run_parts ht rfl hx, run_parts ht rfl hy, by
    rw [Op.equalIn]
    simp [underlying, ht]
    cases m <;> cases n <;> rfl⟩
theorem EqF.dig {P : Program} {d : Nat} {w : World} {f : Field} {xs ys : Array Value} {e : TypeId} {a b : D32} (hA : Agg P f.type 32) (ht : P.underlying f.type = some (.array 32 e)) (he : P.underlying e = some (.int .u8)) (hs : (P.info? e).map (·.size) = some 1) (hn : f.name ≠ "_")
    (hx : xs.extract f.offset (f.offset + 32) = (a.1.map u8).toArray) (hy : ys.extract f.offset (f.offset + 32) = (b.1.map u8).toArray) : EqF P (d + 2) w f xs ys (decide (a = b)) := by
  have hp : ∀ zs : Array Value, (part f.type zs f.offset).run P w = .ok (.agg (zs.extract f.offset (f.offset + 32))) w := fun zs => by
    simp [part, (hA w).1, (hA w).2]
  refine ⟨hn, _, _, hp xs, hp ys, ?_⟩
  rw [hx, hy]
  have := run_eqArr (P := P) (f := u8) (g := fun x => (x.toNat : Int)) ht he hs (fun _ => rfl) (fun _ _ h => u8_inj h) a.1 b.1 a.2 b.2 d w
  rw [show decide (a = b) = decide (a.1 = b.1) from decide_eq_decide.2 Subtype.ext_iff]
  exact this
theorem BinR.eql_st {P : Program} {x y : Operand} {T : TypeId} {fs : List Field} {xs ys : Array Value} {bs : List Bool} {p : Prop} [Decidable p] (hT : P.underlying T = some (.struct fs.toArray)) (hs : P.stoodInHeld T = false) (hm : P.eqGuardType P.depth T = false)
    (h : ∀ w, EqFs P 9999 w xs ys fs bs) (hp : bs.all id = true ↔ p) : BinR P .eql T x y (.agg xs) (.agg ys) (.bool (decide p)) := fun w => by
  have h0 : (Op.equal T (.agg xs) (.agg ys)).run P w = .ok (bs.all id) w := run_eqStruct hT hs (h w)
  have h1 : bs.all id = decide p := by rw [Bool.eq_iff_iff, hp, decide_eq_true_iff]
  simp only [Sem.run_bind, run_eqGuard_agg w .eql T x y _ _ hm, Result.andThen_ok, binOp, h0, h1, Sem.run_pure]
theorem BinR.neq_st {P : Program} {x y : Operand} {T : TypeId} {fs : List Field} {xs ys : Array Value} {bs : List Bool} {p : Prop} [Decidable p] (hT : P.underlying T = some (.struct fs.toArray)) (hs : P.stoodInHeld T = false) (hm : P.eqGuardType P.depth T = false)
    (h : ∀ w, EqFs P 9999 w xs ys fs bs) (hp : bs.all id = true ↔ p) : BinR P .neq T x y (.agg xs) (.agg ys) (.bool (!decide p)) := fun w => by
  have h0 : (Op.equal T (.agg xs) (.agg ys)).run P w = .ok (bs.all id) w := run_eqStruct hT hs (h w)
  have h1 : bs.all id = decide p := by rw [Bool.eq_iff_iff, hp, decide_eq_true_iff]
  simp only [Sem.run_bind, run_eqGuard_agg w .neq T x y _ _ hm, Result.andThen_ok, binOp, h0, h1, Sem.run_pure]
end Go.Proofs.YtffgimlkmfjgmaaDoor
