/- Operations that move the memory: new blocks, stores, calls; slices that are read or owned. No program in sight. -/
import Derived.Test.YtffgimlkmfjgmaaDoorA2
import Derived.Laws.OwnMore
import Derived.Laws.MakeOwn
namespace Go.Proofs.YtffgimlkmfjgmaaDoor
open Go.RowKit

/-! ### Finding a resource in a list -/
inductive Pull : Res → RL → RL → Prop
  | here (r : Res) (l : RL) : Pull r (r :: l) l
  | there (r x : Res) (l m : RL) : Pull r l m → Pull r (x :: l) (x :: m)
theorem Pull.perm {r : Res} {H G : RL} (h : Pull r H G) : H.Perm (r :: G) := by
  induction h with
  | here => exact .refl _
  | there x _ _ _ ih => exact (ih.cons x).trans (.swap _ _ _)
inductive Picks : RL → RL → RL → Prop
  | nil (H : RL) : Picks [] H H
  | cons (r : Res) (l H H1 G : RL) : Pull r H H1 → Picks l H1 G → Picks (r :: l) H G
theorem Picks.perm {l H G : RL} (h : Picks l H G) : H.Perm (l ++ G) := by
  induction h with
  | nil H => exact .refl _
  | cons r l H H1 G hp _ ih => exact hp.perm.trans (ih.cons r)
inductive Upd : RL → Res → Res → RL → Prop
  | here (r r' : Res) (l : RL) : Upd (r :: l) r r' (r' :: l)
  | there (r r' x : Res) (l m : RL) : Upd l r r' m → Upd (x :: l) r r' (x :: m)
theorem Upd.ex {H H' : RL} {r r' : Res} (h : Upd H r r' H') : ∃ G, H.Perm (r :: G) ∧ H'.Perm (r' :: G) := by
  induction h with
  | here r r' l => exact ⟨l, .refl _, .refl _⟩
  | there r r' x l m _ ih =>
    obtain ⟨G, h1, h2⟩ := ih
    exact ⟨x :: G, (h1.cons x).trans (.swap _ _ _), (h2.cons x).trans (.swap _ _ _)⟩
theorem Upd.mem {H H' : RL} {r r' : Res} (h : Upd H r r' H') : r ∈ H := by
  induction h with
  | here => exact .head _
  | there _ _ _ _ _ _ ih => exact .tail _ ih

/-- All of these may be read. -/
inductive Subs : RL → RL → Prop
  | nil (Γ : RL) : Subs [] Γ
  | cons (r : Res) (l Γ : RL) : r ∈ Γ → Subs l Γ → Subs (r :: l) Γ
theorem Subs.sub {l Γ : RL} (h : Subs l Γ) : ∀ r ∈ l, r ∈ Γ := by
  induction h with
  | nil => simp
  | cons r l Γ hr _ ih =>
    intro s hs
    rcases List.mem_cons.1 hs with rfl | hs
    · exact hr
    · exact ih s hs

/-- An operation that may move the memory: what it leaves. -/
def Mv (P : Program) (N : Nat) (C : Beg) (E : Env) (Γ H : RL) (op : Op) (ty : TypeId) (post : Value → RL → RL → Prop) : Prop :=
  ∀ dst pos aft gd a w, EnvOk N E a → St C Γ H w → ∀ (K : Act → World → Prop) (Q : Exit → Act → World → Prop),
    (∀ v Γ' H' w', post v Γ' H' → St C Γ' H' w' → K (a.put dst v) w') → Oper.wp P ⟨dst, op, ty, pos, aft, gd⟩ a w K Q

section
variable {P : Program} {N : Nat} {C : Beg} {Q : Exit → Act → World → Prop} {E : Env} {Γ H : RL} {ty : TypeId} {ops : Array Oper} {rest : List Oper}

theorem JO.m {d : Nat} {op : Op} {pos : String} {aft : Array Edge} {post : Value → RL → RL → Prop} (hm : Mv P N C E Γ H op ty post) (hd : d < N)
    (h : ∀ v Γ' H', post v Γ' H' → JO P N C ops rest Q ((d, v) :: E) Γ' H') : JO P N C ops (⟨some d, op, ty, pos, aft, none⟩ :: rest) Q E Γ H := by
  intro hn a w he hs
  refine wpList_plain rfl fun K hK => ?_
  exact hm _ _ _ _ a w he hs K Q fun v Γ' H' w' hp hs' => hK _ _ (h v Γ' H' hp hn _ _ (he.put d hd v) hs')
theorem JO.m0 {op : Op} {pos : String} {aft : Array Edge} {post : Value → RL → RL → Prop} (hm : Mv P N C E Γ H op ty post)
    (h : ∀ v Γ' H', post v Γ' H' → JO P N C ops rest Q E Γ' H') : JO P N C ops (⟨none, op, ty, pos, aft, none⟩ :: rest) Q E Γ H := by
  intro hn a w he hs
  refine wpList_plain rfl fun K hK => ?_
  exact hm _ _ _ _ a w he hs K Q fun v Γ' H' w' hp hs' => hK _ _ (h v Γ' H' hp hn _ _ he hs')

/-- What is held says something plain. -/
theorem JO.know {l : List Oper} {φ : Prop} (hφ : ∀ w, Sat Γ H w → φ) (h : φ → JO P N C ops l Q E Γ H) : JO P N C ops l Q E Γ H :=
  fun hn a w he hs => h (hφ w hs.sat) hn a w he hs
theorem JC.know {c : Code} {φ : Prop} (hφ : ∀ w, Sat Γ H w → φ) (h : φ → JC P N C c Q E Γ H) : JC P N C c Q E Γ H :=
  fun hn a w he hs => h (hφ w hs.sat) hn a w he hs
theorem Spec.know {f : FuncId} {args : Array Value} {post : Value → RL → RL → Prop} {φ : Prop} (hφ : ∀ w, Sat Γ H w → φ) (h : φ → Spec P f args Γ H post) : Spec P f args Γ H post :=
  fun w hs => h (hφ w hs) w hs

/-! ### New blocks -/
theorem Mv.alloc {T : TypeId} {z : Value} (hz : (P.info? T).map (·.zero) = some (some z)) :
    Mv P N C E Γ H (.alloc T) ty (fun v Γ' H' => ∃ b, v = ptr b 0 ∧ Γ' = Γ ∧ H' = Res.cells b z.cells.toList T :: H) := by
  intro dst pos aft gd a w he hs K Q hK
  obtain ⟨i, hi, hz'⟩ := Option.map_eq_some_iff.1 hz
  have hr : (execOp a.eval ⟨dst, .alloc T, ty, pos, aft, gd⟩).run P w = .ok (.value (ptr w.heap.size 0)) { w with heap := w.heap.push (.cells z.cells.toList.toArray T) } := by
    simp [execOp, Instr.alloc, zeroValue, typeInfo, hi, hz', newVar, newRow]
  simp only [Oper.wp, hr, Oper.upon]
  exact hK _ _ _ _ ⟨_, rfl, rfl, rfl⟩ (hs.alloc _ _)
theorem Mv.box {T : TypeId} {x : Operand} {v : Value} (hx : ev E x = some v) :
    Mv P N C E Γ H (.box T x) ty (fun u Γ' H' => ∃ b, u = ptr b 0 ∧ Γ' = Γ ∧ H' = Res.cells b v.cells.toList T :: H) := by
  intro dst pos aft gd a w he hs K Q hK
  have hr : (execOp a.eval ⟨dst, .box T x, ty, pos, aft, gd⟩).run P w = .ok (.value (ptr w.heap.size 0)) { w with heap := w.heap.push (.cells v.cells.toList.toArray T) } := by
    simp [execOp, Instr.box, he.ev hx, newVar, newRow]
  simp only [Oper.wp, hr, Oper.upon]
  exact hK _ _ _ _ ⟨_, rfl, rfl, rfl⟩ (hs.alloc _ _)
theorem JO.alloc {d : Nat} {T : TypeId} {pos : String} {aft : Array Edge} {z : Value} (zs : List Value) (hz : (P.info? T).map (·.zero) = some (some z)) (hzs : z.cells.toList = zs) (hd : d < N)
    (h : ∀ b, JO P N C ops rest Q ((d, ptr b 0) :: E) Γ (Res.cells b zs T :: H)) : JO P N C ops (⟨some d, .alloc T, ty, pos, aft, none⟩ :: rest) Q E Γ H :=
  .m (Mv.alloc hz) hd fun v Γ' H' ⟨b, hv, hΓ, hH⟩ => by subst hv hΓ hH hzs; exact h b
theorem JO.box {d : Nat} {T : TypeId} {pos : String} {aft : Array Edge} {x : Operand} {v : Value} (hx : ev E x = some v) (vs : List Value) (hvs : v.cells.toList = vs) (hd : d < N)
    (h : ∀ b, JO P N C ops rest Q ((d, ptr b 0) :: E) Γ (Res.cells b vs T :: H)) : JO P N C ops (⟨some d, .box T x, ty, pos, aft, none⟩ :: rest) Q E Γ H :=
  .m (Mv.box hx) hd fun v Γ' H' ⟨b, hv, hΓ, hH⟩ => by subst hv hΓ hH hvs; exact h b

/-! ### Stores -/
/-- vs laid over cs from o on. -/
def splice (cs : List Value) (o : Nat) (vs : List Value) : List Value := cs.take o ++ vs ++ cs.drop (o + vs.length)
theorem splice_length {cs : List Value} {o : Nat} {vs : List Value} (h : o + vs.length ≤ cs.length) : (splice cs o vs).length = cs.length := by
  simp [splice]; omega
theorem splice_one {cs : List Value} {o : Nat} {v : Value} (h : o < cs.length) : splice cs o [v] = cs.set o v := by
  simp only [splice, List.length_singleton]
  rw [List.set_eq_take_append_cons_drop, if_pos h]
  simp

theorem St.splice {b o : Nat} {cs vs : List Value} {T : TypeId} {w : World} (h : St C Γ (Res.cells b cs T :: H) w) (hl : o + vs.length ≤ cs.length) (h1 : ∀ v ∈ vs, v.oneCell' = true) :
    ∃ w', (storeCells ⟨b, o, none⟩ vs).run P w = .ok () w' ∧ St C Γ (Res.cells b (splice cs o vs) T :: H) w' := by
  have hb := Res.cells_ok.1 (h.sat.hok _ (.head _))
  have hr := run_storeCells_at (P := P) b o T vs 0 cs.toArray w hb (by simpa using hl) h1
  refine ⟨_, hr, h.setBlock (cs' := Proofs.YtffgimlkmfjgmaaDoor.splice cs o vs) rfl rfl rfl (by simp) ?_ (fun k hk => setRow_other w b k _ hk)⟩
  have := setRow_heap w b cs.toArray (Proofs.YtffgimlkmfjgmaaDoor.splice cs o vs).toArray T (0, 0) hb
  simpa [Proofs.YtffgimlkmfjgmaaDoor.splice] using this

theorem Mv.store {T n : TypeId} {x y : Operand} {b o : Nat} {v : Value} {vs cs : List Value} {T' : TypeId} {H' : RL} (hT : (P.info? T).map (·.size) = some n) (hx : ev E x = some (ptr b o)) (hy : ev E y = some v)
    (hv : v.cells = vs.toArray) (hn : vs.length = n) (h1 : ∀ u ∈ vs, u.oneCell' = true) (hu : Upd H (Res.cells b cs T') (Res.cells b (splice cs o vs) T') H') (hl : o + n ≤ cs.length) :
    Mv P N C E Γ H (.store T x y) ty (fun _ Γ1 H1 => Γ1 = Γ ∧ H1 = H') := by
  intro dst pos aft gd a w he hs K Q hK
  subst hn
  obtain ⟨G, hp, hp'⟩ := hu.ex
  obtain ⟨w', hr, hs'⟩ := (hs.perm hp).splice (P := P) hl h1
  obtain ⟨i, hi1, hi2⟩ := Option.map_eq_some_iff.1 hT
  have hr' : (execOp a.eval ⟨dst, .store T x y, ty, pos, aft, gd⟩).run P w = .ok .skip w' := by
    simp [execOp, he.ev hx, he.ev hy, Instr.storeAt, Instr.sureAddr, storeVar, sizeOf, typeInfo, hi1, hi2, hv, hr]
  simp only [Oper.wp, hr', Oper.upon]
  exact hK _ _ _ _ ⟨rfl, rfl⟩ (hs'.perm hp'.symm)
theorem JO.store {T n : TypeId} {pos : String} {aft : Array Edge} {x y : Operand} {b o : Nat} {v : Value} {vs cs : List Value} {T' : TypeId} {H' : RL} (hT : (P.info? T).map (·.size) = some n) (hx : ev E x = some (ptr b o)) (hy : ev E y = some v)
    (hv : v.cells = vs.toArray) (hn : vs.length = n) (h1 : ∀ u ∈ vs, u.oneCell' = true) (hu : Upd H (Res.cells b cs T') (Res.cells b (splice cs o vs) T') H') (hl : o + n ≤ cs.length)
    (h : JO P N C ops rest Q E Γ H') : JO P N C ops (⟨none, .store T x y, ty, pos, aft, none⟩ :: rest) Q E Γ H :=
  .m0 (Mv.store hT hx hy hv hn h1 hu hl) fun v Γ' H' ⟨hΓ, hH⟩ => by subst hΓ hH; exact h
theorem one_cells {v : Value} (h : v.oneCell' = true) : v.cells = #[v] := by cases v <;> first | rfl | cases h
theorem JO.store1 {T : TypeId} {pos : String} {aft : Array Edge} {x y : Operand} {b o : Nat} {v : Value} {cs : List Value} {T' : TypeId} {H' : RL} (hT : (P.info? T).map (·.size) = some 1) (hx : ev E x = some (ptr b o)) (hy : ev E y = some v)
    (h1 : v.oneCell' = true) (hu : Upd H (Res.cells b cs T') (Res.cells b (cs.set o v) T') H') (hl : o < cs.length)
    (h : JO P N C ops rest Q E Γ H') : JO P N C ops (⟨none, .store T x y, ty, pos, aft, none⟩ :: rest) Q E Γ H :=
  .store (vs := [v]) hT hx hy (one_cells h1) rfl (by simpa using h1) (by rw [splice_one hl]; exact hu) hl h

/-! ### Calls -/
def evs (E : Env) : List Operand → Option (List Value)
  | [] => some []
  | x :: l => match ev E x, evs E l with
    | some v, some vs => some (v :: vs)
    | _, _ => none
theorem EnvOk.evs {a : Act} (h : EnvOk N E a) : ∀ {xs : List Operand} {vs : List Value}, evs E xs = some vs → xs.map a.eval = vs
  | [], vs, hx => by simpa [Proofs.YtffgimlkmfjgmaaDoor.evs] using hx
  | x :: xs, vs, hx => by
    simp only [Proofs.YtffgimlkmfjgmaaDoor.evs] at hx
    split at hx
    · rename_i v us h1 h2
      obtain rfl := Option.some.inj hx
      simp [h.ev h1, h.evs h2]
    · cases hx

/-- A Go function with a body of its own. -/
def Body (P : Program) (f : FuncId) : Prop := ∀ args w, (callFunc f args).run P w = .ok (.enter f args) w
theorem Body.mk {f : FuncId} {fn : Func} (hf : P.funcs[f]? = some fn) (hb : fn.body.isNone = false) (hn : (fn.name == "runtime.NumGoroutine") = false) : Body P f := by
  intro args w
  simp only [callFunc, Sem.run_bind, run_program, Result.andThen_ok, hf, hn, hb, Bool.false_eq_true, if_false, Sem.run_pure]

theorem Mv.call {f : FuncId} {xs : List Operand} {vs : List Value} {AT : Array TypeId} {Γc Hc G : RL} {post : Value → RL → RL → Prop} (hb : Body P f) (hx : evs E xs = some vs)
    (hc : Spec P f vs.toArray Γc Hc post) (hp : Picks Hc H G) (hg : Subs Γc Γ) :
    Mv P N C E Γ H (.call { callee := .value (.func f), args := xs.toArray, argTypes := AT }) ty (fun v Γ' H' => ∃ Γ1 H1, post v Γ1 H1 ∧ Γ' = Γ1 ++ Γ ∧ H' = H1 ++ G) := by
  intro dst pos aft gd a w he hs K Q hK
  have hr : (execOp a.eval ⟨dst, .call { callee := .value (.func f), args := xs.toArray, argTypes := AT }, ty, pos, aft, gd⟩).run P w = .ok (.enter f vs.toArray) w := by
    have := hb vs.toArray w
    simp [execOp, resolve, Deferred.ofValue, Act.eval, invoke, he.evs hx, this]
  have hst := hs.perm hp.perm
  simp only [Oper.wp, hr, Oper.upon]
  refine (hc w (hst.sat.weak hg.sub)).mono ?_
  rintro e w' ⟨v, Γ', H', rfl, hpost, hst'⟩
  exact hK _ _ _ _ ⟨_, _, hpost, rfl, rfl⟩ (hst.frame hg.sub hst')
theorem JO.call {d : Nat} {pos : String} {aft : Array Edge} {f : FuncId} {xs : List Operand} {vs : List Value} {AT : Array TypeId} {Γc Hc G : RL} {post : Value → RL → RL → Prop} (hc : Spec P f vs.toArray Γc Hc post) (hb : Body P f) (hx : evs E xs = some vs)
    (hp : Picks Hc H G) (hg : Subs Γc Γ) (hd : d < N)
    (h : ∀ v Γ2 H2, (∃ Γ1 H1, post v Γ1 H1 ∧ Γ2 = Γ1 ++ Γ ∧ H2 = H1 ++ G) → JO P N C ops rest Q ((d, v) :: E) Γ2 H2) :
    JO P N C ops (⟨some d, .call { callee := .value (.func f), args := xs.toArray, argTypes := AT }, ty, pos, aft, none⟩ :: rest) Q E Γ H :=
  .m (Mv.call hb hx hc hp hg) hd h
theorem JO.call0 {pos : String} {aft : Array Edge} {f : FuncId} {xs : List Operand} {vs : List Value} {AT : Array TypeId} {Γc Hc G : RL} {post : Value → RL → RL → Prop} (hc : Spec P f vs.toArray Γc Hc post) (hb : Body P f) (hx : evs E xs = some vs)
    (hp : Picks Hc H G) (hg : Subs Γc Γ)
    (h : ∀ v Γ2 H2, (∃ Γ1 H1, post v Γ1 H1 ∧ Γ2 = Γ1 ++ Γ ∧ H2 = H1 ++ G) → JO P N C ops rest Q E Γ2 H2) :
    JO P N C ops (⟨none, .call { callee := .value (.func f), args := xs.toArray, argTypes := AT }, ty, pos, aft, none⟩ :: rest) Q E Γ H :=
  .m0 (Mv.call hb hx hc hp hg) h

/-! ### The ends that lie in cells -/
theorem res_cell {fn : Func} {w : World} {Γ0 H0 : RL} {t T n b o : Nat} {vs : List Value} (h : fn.results = #[.cell t T]) (ht : lk E t = some (ptr b o)) (hA : Agg P T n) (hn : vs.length = n)
    (hk : ∀ i v, vs[i]? = some v → Kn Γ H ⟨b, o + i, none⟩ v) : ∀ a w', EnvOk N E a → St ⟨w, Γ0, H0⟩ Γ H w' → (results fn a.tmps).run P w' = .ok (.agg vs.toArray) w' := by
  intro a w' he hs
  have hc := run_loadCells_list (P := P) w' ⟨b, o, none⟩ vs (fun j v hj => by rw [add_none]; exact hk j v hj w' hs.sat)
  subst hn
  have hv := he.val t _ ht
  rw [Array.getD_eq_getD_getElem?] at hv
  simp [results, h, hv, asAddr, loadVar, (hA w').1, (hA w').2, hc]
end
end Go.Proofs.YtffgimlkmfjgmaaDoor
