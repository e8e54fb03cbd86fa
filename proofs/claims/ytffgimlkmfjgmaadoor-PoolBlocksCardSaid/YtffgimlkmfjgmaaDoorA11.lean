/- The calculus, part 11: values behind interfaces, calls through them. No program in sight. -/
import Derived.Test.YtffgimlkmfjgmaaDoorA10
namespace Go.Proofs.YtffgimlkmfjgmaaDoor
open Go.RowKit
section
variable {P : Program} {N : Nat} {C : Beg} {Q : Exit → Act → World → Prop} {E : Env} {Γ H : RL} {ty : TypeId} {ops : Array Oper} {rest : List Oper}
theorem Yv.iface {T : TypeId} {x : Operand} {v : Value} {u : TypeDesc} (hT : P.underlying T = some u) (hu : ∀ m, u ≠ .interface m) (hx : ev E x = some v) : Yv P N C E Γ H (.makeInterface T x) ty (.iface T v) := by
  intro dst pos aft gd a w he _
  cases u <;> first | exact absurd rfl (hu _) | simp [execOp, he.ev hx, Instr.makeInterface, underlying, hT]
theorem Yv.assert {T I : TypeId} {x : Operand} {v : Value} {u : TypeDesc} (hT : P.underlying T = some u) (hu : ∀ m, u ≠ .interface m) (hx : ev E x = some (.iface T v)) : Yv P N C E Γ H (.typeAssert x I T false) ty v := by
  intro dst pos aft gd a w he _
  cases u <;> first | exact absurd rfl (hu _) | simp [execOp, he.ev hx, Instr.typeAssert, underlying, hT]
/-- Which function a type's method is. -/
def Row (P : Program) (t : TypeId) (name : String) (f : FuncId) (b : Bool) : Prop :=
  ((P.info? t).bind fun i => i.methods.find? (·.name == name)).map (fun m => (m.path.toList, m.func)) = some ([], some (f, b))
def Mth (P : Program) (Γ H : RL) (t : TypeId) (v : Value) (name : String) (f : FuncId) (r : Value) : Prop := ∀ w, Sat Γ H w → (method (P.types.size + Made.depth) t v name).run P w = .ok (f, r) w
theorem Mth.self {t e : TypeId} {v : Value} {name : String} {f : FuncId} (hr : Row P t name f true) (hu : P.underlying t = some (.pointer e)) : Mth P Γ H t v name f v := by
  intro w _
  obtain ⟨m, hm, hm2⟩ := Option.map_eq_some_iff.1 hr
  obtain ⟨i, hi, hf⟩ := Option.bind_eq_some_iff.1 hm
  simp only [Prod.mk.injEq] at hm2
  have hd : P.types.size + Made.depth = (P.types.size + (Made.depth - 1)) + 1 := by rw [Nat.add_assoc]; rfl
  rw [hd]
  simp [method, typeInfo, hi, hf, hm2.1, hm2.2, follow, receiverAt, underlying, hu, Place.get]
theorem run_nilChk {P : Program} {w : World} {xt : TypeId} {a : Addr} {s s' : String} : (Builtin.ssaWrapNilChk_ #[xt] xt #[.pointer (some a), strVal s, strVal s']).run P w = .ok (.pointer (some a)) w := rfl
theorem Mth.val {t e : TypeId} {b : Nat} {v : Value} {name : String} {f : FuncId} (hr : Row P t name f false) (hu : P.underlying t = some (.pointer e)) (ho : One P e) (hk : Kn Γ H ⟨b, 0, none⟩ v) : Mth P Γ H t (.pointer (some ⟨b, 0, none⟩)) name f v := by
  intro w hs
  obtain ⟨m, hm, hm2⟩ := Option.map_eq_some_iff.1 hr
  obtain ⟨i, hi, hf⟩ := Option.bind_eq_some_iff.1 hm
  simp only [Prod.mk.injEq] at hm2
  have hd : P.types.size + Made.depth = (P.types.size + (Made.depth - 1)) + 1 := by rw [Nat.add_assoc]; rfl
  rw [hd]
  have hc := hk w hs
  have hp : m.path = #[] := by simpa using hm2.1
  simp [method, typeInfo, hi, hf, hp, hm2.2, follow, receiverAt, underlying, hu, Place.get, run_nilChk, asAddr, loadVar, ho w, hc]
/-- A call of a method of a value behind an interface. -/
theorem Mv.callI {f : FuncId} {x : Operand} {t : TypeId} {u r : Value} {name : String} {xs : List Operand} {vs : List Value} {AT : Array TypeId} {Γc Hc G : RL} {post : Value → RL → RL → Prop} (hb : Body P f) (hf : ev E x = some (.iface t u)) (hx : evs E xs = some vs)
    (hm : Mth P Γ H t u name f r) (hc : Spec P f (r :: vs).toArray Γc Hc post) (hp : Picks Hc H G) (hg : Lends Γc (G ++ Γ)) (h0 : ∀ v Γ1 H1, post v Γ1 H1 → Γ1 = []) :
    Mv P N C E Γ H (.call { callee := .invoke x name, args := xs.toArray, argTypes := AT }) ty (fun v Γ' H' => ∃ H1, post v [] H1 ∧ Γ' = Γ ∧ H' = H1 ++ G) := by
  intro dst pos aft gd a w he hs K Q hK
  have hr : (execOp a.eval ⟨dst, .call { callee := .invoke x name, args := xs.toArray, argTypes := AT }, ty, pos, aft, gd⟩).run P w = .ok (.enter f (r :: vs).toArray) w := by
    have h1 := hb (r :: vs).toArray w
    have h2 : xs.toArray.map a.eval = vs.toArray := by rw [← he.evs hx]; simp
    have h3 := hm w hs.sat
    have h4 : (#[Value.iface t u] ++ vs.toArray)[0]? = some (.iface t u) := by simp
    have h5 : (#[Value.iface t u] ++ vs.toArray).extract 1 (#[Value.iface t u] ++ vs.toArray).size = vs.toArray := by simp
    have h6 : (#[r] ++ vs.toArray) = (r :: vs).toArray := by simp
    simp only [execOp, resolve, he.ev hf, h2, Sem.run_bind, Sem.run_pure, Result.andThen_ok, invoke, h4, h5, callMethod, run_program, h3, h6]
    exact h1
  have hst := hs.perm hp.perm
  simp only [Oper.wp, hr, Oper.upon]
  refine (hc w (hst.sat.lend hg)).mono ?_
  rintro e w' ⟨v, Γ', H', rfl, hpost, hst'⟩
  have e0 := h0 _ _ _ hpost
  subst e0
  have hst2 : St ⟨w, [], Hc⟩ [] H' w' := by
    refine ⟨⟨by simp, by simp, hst'.sat.hok, hst'.sat.hlt, hst'.sat.hdj, by simp⟩, hst'.stp, hst'.hsub, ?_⟩
    rintro k ⟨r, hr, _⟩
    cases hr
  have := hst.frame (Γc := []) (by simp) hst2
  exact hK _ _ _ _ ⟨_, hpost, rfl, rfl⟩ (by simpa using this)
theorem JO.callI {d : Nat} {pos : String} {aft : Array Edge} {f : FuncId} {x : Operand} {t : TypeId} {u r : Value} {name : String} {xs : List Operand} {vs : List Value} {AT : Array TypeId} {Γc Hc G : RL} {post : Value → RL → RL → Prop} (hc : Spec P f (r :: vs).toArray Γc Hc post) (hm : Mth P Γ H t u name f r) (hb : Body P f) (hf : ev E x = some (.iface t u)) (hx : evs E xs = some vs)
    (hp : Picks Hc H G) (hg : Lends Γc (G ++ Γ)) (h0 : ∀ v Γ1 H1, post v Γ1 H1 → Γ1 = []) (hd : d < N)
    (h : ∀ v H2, (∃ H1, post v [] H1 ∧ H2 = H1 ++ G) → JO P N C ops rest Q ((d, v) :: E) Γ H2) :
    JO P N C ops (⟨some d, .call { callee := .invoke x name, args := xs.toArray, argTypes := AT }, ty, pos, aft, none⟩ :: rest) Q E Γ H :=
  .m (Mv.callI hb hf hx hm hc hp hg h0) hd fun v Γ' H' ⟨H1, hp, hΓ, hH⟩ => by subst hΓ; exact h v H' ⟨H1, hp, hH⟩
theorem JO.callI0 {pos : String} {aft : Array Edge} {f : FuncId} {x : Operand} {t : TypeId} {u r : Value} {name : String} {xs : List Operand} {vs : List Value} {AT : Array TypeId} {Γc Hc G : RL} {post : Value → RL → RL → Prop} (hc : Spec P f (r :: vs).toArray Γc Hc post) (hm : Mth P Γ H t u name f r) (hb : Body P f) (hf : ev E x = some (.iface t u)) (hx : evs E xs = some vs)
    (hp : Picks Hc H G) (hg : Lends Γc (G ++ Γ)) (h0 : ∀ v Γ1 H1, post v Γ1 H1 → Γ1 = [])
    (h : ∀ v H2, (∃ H1, post v [] H1 ∧ H2 = H1 ++ G) → JO P N C ops rest Q E Γ H2) :
    JO P N C ops (⟨none, .call { callee := .invoke x name, args := xs.toArray, argTypes := AT }, ty, pos, aft, none⟩ :: rest) Q E Γ H :=
  .m0 (Mv.callI hb hf hx hm hc hp hg h0) fun v Γ' H' ⟨H1, hp, hΓ, hH⟩ => by subst hΓ; exact h v H' ⟨H1, hp, hH⟩
/-! ### Rows whose form is known -/
theorem Sat.rowForm {v : Value} {n : Nat} {e : TypeId} {size : Nat} {xs : List Value} {w : World} (hs : Sat Γ H w) (hm : Res.row v n e size xs ∈ H) (h0 : 0 < n) : ∃ g c, v = .slice (some ⟨g, 0, none⟩) n c := by
  rcases (Res.row_ok.1 (hs.hok _ hm)).2 with ⟨_, h⟩ | ⟨g, cap, cur, rfl, _⟩
  · omega
  · exact ⟨g, cap, rfl⟩
theorem Yv.indexSlK {x ix : Operand} {T e : TypeId} {b o n c size j : Nat} {k : IntKind} (hT : P.underlying T = some (.slice e)) (hsz : (P.info? e).map (·.size) = some size) (hx : ev E x = some (.slice (some ⟨b, o, none⟩) n c)) (hi : ev E ix = some (.int k (j : Int)))
    (hj : j < n) : Yv P N C E Γ H (.indexAddr T x ix) ty (.pointer (some ⟨b, o + j * size, none⟩)) := by
  intro dst pos aft gd a w he _
  obtain ⟨i, hi1, hi2⟩ := Option.map_eq_some_iff.1 hsz
  have h1 : (0 : Int) ≤ j ∧ (j : Int) < n := by omega
  simp [execOp, he.ev hx, he.ev hi, Instr.indexAt, asIntOf, underlying, hT, h1, sizeOf, typeInfo, hi1, hi2, add_none, hj]
theorem Yv.indexSl0 {x ix : Operand} {T e : TypeId} {b n c size j : Nat} {k : IntKind} (hT : P.underlying T = some (.slice e)) (hsz : (P.info? e).map (·.size) = some size) (hx : ev E x = some (.slice (some ⟨b, 0, none⟩) n c)) (hi : ev E ix = some (.int k (j : Int)))
    (hj : j < n) : Yv P N C E Γ H (.indexAddr T x ix) ty (.pointer (some ⟨b, j * size, none⟩)) := by
  have := Yv.indexSlK (N := N) (C := C) (E := E) (Γ := Γ) (H := H) (ty := ty) hT hsz hx hi hj
  simpa using this
/-! ### Aggregates in rows, at a field -/
theorem Yv.loadRd2 {T n m size i j : Nat} {x : Operand} {u : Value} {xs : List Value} (hA : Agg P T n) (hm : Lend (Res.rd u m size xs) (H ++ Γ)) (hx : ev E x = some (ptr (blk u) (off u + i + j))) (hl : i + j + n ≤ xs.length) : Yv P N C E Γ H (.load T x) ty (.agg ((xs.drop (i + j)).take n).toArray) :=
  .loadRd hA hm (by rw [hx, Nat.add_assoc]) hl
end
end Go.Proofs.YtffgimlkmfjgmaaDoor
