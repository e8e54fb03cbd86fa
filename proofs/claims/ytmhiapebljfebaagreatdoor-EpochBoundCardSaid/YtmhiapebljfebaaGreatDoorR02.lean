/- Texts of ours, gathered: A7 A8 A9 S6 A10 L1 ZV6 A11 A12 A13. -/
import Derived.WalkKit
import Derived.ProofKit
import Derived.OpenShut
import Derived.ShutString
import Derived.ChangeOld
import Derived.Below
import Derived.Deep.Slices
import Derived.Scope
import Derived.Laws.Externs
import Derived.Test.YtmhiapebljfebaaGreatDoorRows
import Derived.LaidMore
import Derived.Stop.Joined
import Derived.Test.YtmhiapebljfebaaGreatDoorR01
set_option linter.unusedVariables false
set_option linter.unusedSimpArgs false
set_option maxRecDepth 100000
/- Guards, joins, short forms of the rules, arrays held against each other. No program in sight. -/
namespace Go.Proofs.YtmhiapebljfebaaGreatDoor
open Go.RowKit

section
variable {P : Program} {N : Nat} {C : Beg} {Q : Exit → Act → World → Prop} {E : Env} {Γ H : RL} {ty : TypeId} {ops : Array Oper} {rest : List Oper}

theorem JO.gsplit {g : Nat} {b : Bool} {l : List Oper} (hg : lk E g = some (.bool b)) (ht : b = true → JO P N C ops l Q E Γ H) (hf : b = false → JO P N C ops l Q E Γ H) : JO P N C ops l Q E Γ H := by
 cases b
 ·exact hf rfl
 ·exact ht rfl
theorem JO.gt {o : Option Nat} {op : Op} {pos : String} {aft : Array Edge} {j g : Nat} {want b : Bool} (hj : ((ops[j]?).bind (·.dst)) = some g) (hg : lk E g = some (.bool b)) (hb : b = want)
  (h : JO P N C ops (⟨o, op, ty, pos, aft, none⟩ :: rest) Q E Γ H) : JO P N C ops (⟨o, op, ty, pos, aft, some (j, want)⟩ :: rest) Q E Γ H := by
 intro hn a w he hs
 have hy := yielded_of (ops := ops) he hj hg
 have := h hn a w he hs
 unfold wpList at this ⊢
 have h1 : Region.wanted ⟨o, op, ty, pos, aft, some (j, want)⟩ (yielded ops a.tmps) = true := by simp [Region.wanted, hy, hb]
 have h2 : Region.wanted ⟨o, op, ty, pos, aft, none⟩ (yielded ops a.tmps) = true := by simp [Region.wanted]
 rw [if_pos h2] at this
 rw [if_pos h1]
 exact this
theorem JO.gf {d : Nat} {op : Op} {pos : String} {aft : Array Edge} {j g : Nat} {want b : Bool} (hj : ((ops[j]?).bind (·.dst)) = some g) (hg : lk E g = some (.bool b)) (hb : b = !want) (hd : d < N)
  (h : JO P N C ops rest Q ((d, undef) :: E) Γ H) : JO P N C ops (⟨some d, op, ty, pos, aft, some (j, want)⟩ :: rest) Q E Γ H := by
 intro hn a w he hs
 have hy := yielded_of (ops := ops) he hj hg
 have h1 : Region.wanted ⟨some d, op, ty, pos, aft, some (j, want)⟩ (yielded ops a.tmps) = false := by subst hb; cases want <;> simp [Region.wanted, hy]
 unfold wpList
 rw [if_neg (by rw [h1]; decide)]
 exact h hn _ w (he.put d hd undef) hs
theorem Yv.pick1 {c x y : Operand} {b : Bool} {v : Value} (hc : ev E c = some (.bool b)) (hb : b = true) (hx : ev E x = some v) : Yv P N C E Γ H (.pick c x y) ty v := by
 subst hb; exact Yv.pick_t hc hx
theorem Yv.pick0 {c x y : Operand} {b : Bool} {v : Value} (hc : ev E c = some (.bool b)) (hb : b = false) (hy : ev E y = some v) : Yv P N C E Γ H (.pick c x y) ty v := by
 subst hb; exact Yv.pick_f hc hy

theorem JR.gsplit {T M U : Nat → Bool} {Γ0 H0 : RL} {g : Nat} {b : Bool} {l : OT} (hg : lk E g = some (.bool b)) (ht : b = true → JR P N C ops T M U Γ0 H0 l Q E Γ H) (hf : b = false → JR P N C ops T M U Γ0 H0 l Q E Γ H) : JR P N C ops T M U Γ0 H0 l Q E Γ H := by
 cases b
 ·exact hf rfl
 ·exact ht rfl
section
variable {T M U : Nat → Bool} {Γ0 H0 : RL} {l : OT}
theorem JR.gf {i d : Nat} {op : Op} {pos : String} {aft : Array Edge} {j g : Nat} {want b : Bool} (ho : ops[i]? = some ⟨some d, op, ty, pos, aft, some (j, want)⟩) (hM : M i = false)
  (hj : ((ops[j]?).bind (·.dst)) = some g) (hg : lk E g = some (.bool b)) (hb : b = !want) (hd : d < N)
  (h : JR P N C ops T M U Γ0 H0 l Q ((d, undef) :: E) Γ H) : JR P N C ops T M U Γ0 H0 (.one i l) Q E Γ H := by
 have hne : b ≠ want := by subst hb; cases want <;> decide
 exact JR.gv (fun _ => undef) ho hM hj hg (fun e => absurd e hne) hd (fun e => absurd e hne) (fun _ => h)
theorem JR.gfm {i d : Nat} {op : Op} {pos : String} {aft : Array Edge} {j g : Nat} {want b : Bool} (ho : ops[i]? = some ⟨some d, op, ty, pos, aft, some (j, want)⟩) (hM : M i = true)
  (hj : ((ops[j]?).bind (·.dst)) = some g) (hg : lk E g = some (.bool b)) (hb : b = !want) (hd : d < N)
  (hk : (∀ r ∈ Γ0, r ∈ Γ) ∧ (T i = true ∨ ∀ w, St C Γ H w → St C Γ0 H0 w))
  (h : JR P N C ops T M U Γ0 H0 l Q ((d, undef) :: E) Γ H) : JR P N C ops T M U Γ0 H0 (.one i l) Q E Γ H := by
 have hne : b ≠ want := by subst hb; cases want <;> decide
 exact JR.gm (post := fun _ _ _ => False) ho hM hj hg (fun e => absurd e hne) hd (fun e => absurd e hne) (fun _ => ⟨hk, h⟩)
theorem JR.vgt {i d : Nat} {op : Op} {pos : String} {aft : Array Edge} {j g : Nat} {want b : Bool} {v : Value} (ho : ops[i]? = some ⟨some d, op, ty, pos, aft, some (j, want)⟩) (hM : M i = false) (hU : U i = false)
  (hj : ((ops[j]?).bind (·.dst)) = some g) (hg : lk E g = some (.bool b)) (hb : b = want) (hv : Yv P N C E Γ0 H0 op ty v) (hd : d < N)
  (h : JR P N C ops T M U Γ0 H0 l Q ((d, v) :: E) Γ H) : JR P N C ops T M U Γ0 H0 (.one i l) Q E Γ H :=
 JR.gv (fun _ => v) ho hM hj hg (fun _ => by rw [hU]; exact hv) hd (fun _ => h) (fun e => absurd hb e)
theorem JR.ugt {i d : Nat} {op : Op} {pos : String} {aft : Array Edge} {j g : Nat} {want b : Bool} {v : Value} (ho : ops[i]? = some ⟨some d, op, ty, pos, aft, some (j, want)⟩) (hM : M i = false) (hU : U i = true)
  (hj : ((ops[j]?).bind (·.dst)) = some g) (hg : lk E g = some (.bool b)) (hb : b = want) (hv : Yv P N C E Γ0 [] op ty v) (hd : d < N)
  (h : JR P N C ops T M U Γ0 H0 l Q ((d, v) :: E) Γ H) : JR P N C ops T M U Γ0 H0 (.one i l) Q E Γ H :=
 JR.gv (fun _ => v) ho hM hj hg (fun _ => by rw [hU]; exact hv) hd (fun _ => h) (fun e => absurd hb e)
theorem JR.mgt {i d : Nat} {op : Op} {pos : String} {aft : Array Edge} {j g : Nat} {want b : Bool} {post : Value → RL → RL → Prop} (ho : ops[i]? = some ⟨some d, op, ty, pos, aft, some (j, want)⟩) (hM : M i = true)
  (hj : ((ops[j]?).bind (·.dst)) = some g) (hg : lk E g = some (.bool b)) (hb : b = want) (hm : Mv P N C E Γ H op ty post) (hd : d < N)
  (h : ∀ v Γ' H', post v Γ' H' → ((∀ r ∈ Γ0, r ∈ Γ') ∧ (T i = true ∨ ∀ w, St C Γ' H' w → St C Γ0 H0 w)) ∧ JR P N C ops T M U Γ0 H0 l Q ((d, v) :: E) Γ' H') : JR P N C ops T M U Γ0 H0 (.one i l) Q E Γ H :=
 JR.gm ho hM hj hg (fun _ => hm) hd (fun _ => h) (fun e => absurd hb e)
end

theorem wpList_append {K : Act → World → Prop} {l2 : List Oper} (hK : ∀ a w, K a w → wpList P ops Q l2 a w) : ∀ (l1 : List Oper) (a : Act) (w : World),
  wpList P ops (Exit.then K Q) l1 a w → wpList P ops Q (l1 ++ l2) a w
 | [], _, _, h => hK _ _ h
 | o :: l1, a, w, h => by
  have ih := wpList_append hK l1
  simp only [List.cons_append]
  unfold wpList at h ⊢
  split
  ·rename_i hw
   rw [if_pos hw] at h
   rcases h with h | ⟨h1, a0, w0, h2⟩
   ·refine .inl ?_
    unfold Oper.wp at *
    generalize (execOp a.eval o).run P w = r at *
    cases r with
    | ok n w' =>
     cases n <;> simp only [Oper.upon] at h ⊢ <;>
      first
       | exact ih _ _ h
       | exact Calls.mono h (fun e w'' he => by cases e <;> first | exact ih _ _ he | exact he)
       | exact Rows.mono h (fun _ _ he => ih _ _ he)
       | exact h
    | halt x w' => cases x <;> simp only [Oper.upon] at h ⊢ <;> exact h
   ·exact .inr ⟨h1, a0, w0, h2⟩
  ·rename_i hw
   rw [if_neg hw] at h
   exact ih _ _ h

theorem JO.join {l : List Oper} (k d : Nat) (v : Value) (h1 : JO P N C ops (l.take k) (Exit.then (Head N C (fun _ : Unit => (d, v) :: E) (fun _ => Γ) (fun _ => H) (fun _ => True)) Q) E Γ H)
  (h2 : JO P N C ops (l.drop k) Q ((d, v) :: E) Γ H) : JO P N C ops l Q E Γ H := by
 intro hn a w he hs
 rw [← List.take_append_drop k l]
 exact wpList_append (fun a' w' ⟨_, _, hea, hst⟩ => h2 hn a' w' hea hst) _ _ _ (h1 hn.then a w he hs)

theorem Yv.as {op : Op} {v v' : Value} (h : Yv P N C E Γ H op ty v) (e : v = v') : Yv P N C E Γ H op ty v' := e ▸ h
theorem Yv.indexArr1 {T e n : Nat} {x ix : Operand} {b j : Nat} {k : IntKind} (hT : P.underlying T = some (.array n e)) (hs : (P.info? e).map (·.size) = some 1)
  (hx : ev E x = some (ptr b 0)) (hi : ev E ix = some (.int k (j : Int))) (hj : j < n) : Yv P N C E Γ H (.indexAddr T x ix) ty (ptr b j) := by
 have := Yv.indexArr_u (N := N) (C := C) (E := E) (Γ := Γ) (H := H) (ty := ty) hT hs hx hi hj
 simpa using this
theorem Yv.indexArr1o {T e n : Nat} {x ix : Operand} {b o j : Nat} {k : IntKind} (hT : P.underlying T = some (.array n e)) (hs : (P.info? e).map (·.size) = some 1)
  (hx : ev E x = some (ptr b o)) (hi : ev E ix = some (.int k (j : Int))) (hj : j < n) : Yv P N C E Γ H (.indexAddr T x ix) ty (ptr b (o + j)) := by
 have := Yv.indexArr_u (N := N) (C := C) (E := E) (Γ := Γ) (H := H) (ty := ty) hT hs hx hi hj
 simpa using this
theorem Yv.indexRd1 {x ix : Operand} {T e : TypeId} {v : Value} {n j : Nat} {xs : List Value} {k : IntKind} (hT : P.underlying T = some (.slice e)) (hsz : (P.info? e).map (·.size) = some 1) (hx : ev E x = some v) (hi : ev E ix = some (.int k (j : Int)))
  (hm : Lend (Res.rd v n 1 xs) (H ++ Γ)) (hj : j < n) : Yv P N C E Γ H (.indexAddr T x ix) ty (ptr (blk v) (off v + j)) := by
 have := Yv.indexRd (N := N) (C := C) (E := E) (Γ := Γ) (H := H) (ty := ty) hT hsz hx hi hm (by decide) hj
 simpa using this
theorem Yv.indexRow1 {x ix : Operand} {T e : TypeId} {v : Value} {n j : Nat} {xs : List Value} {k : IntKind} (hT : P.underlying T = some (.slice e)) (hsz : (P.info? e).map (·.size) = some 1) (hx : ev E x = some v) (hi : ev E ix = some (.int k (j : Int)))
  (hm : Res.row v n e 1 xs ∈ H) (hj : j < n) : Yv P N C E Γ H (.indexAddr T x ix) ty (ptr (blk v) j) := by
 have := Yv.indexRow (N := N) (C := C) (E := E) (Γ := Γ) (H := H) (ty := ty) hT hsz hx hi hm hj
 simpa using this
theorem JO.storeRow1 {T : TypeId} {pos : String} {aft : Array Edge} {x y : Operand} {v u : Value} {o n : Nat} {e : TypeId} {xs : List Value} {H' : RL} (hT : (P.info? T).map (·.size) = some 1) (hx : ev E x = some (ptr (blk v) o)) (hy : ev E y = some u)
  (h1 : u.oneCell' = true) (hp : Upd H (Res.row v n e 1 xs) (Res.row v n e 1 (xs.set o u)) H') (hl : o < n) (hlen : xs.length = n)
  (h : JO P N C ops rest Q E Γ H') : JO P N C ops (⟨none, .store T x y, ty, pos, aft, none⟩ :: rest) Q E Γ H := by
 subst hlen
 have e := splice_one (cs := xs) (o := o) (v := u) hl
 exact JO.storeRow (us := [u]) (xs := xs) hT hx hy (one_cells h1) rfl (by simpa using h1) (by rw [e]; exact hp) (by omega) (by omega) h
theorem Kn.rd2 {v : Value} {n size i j : Nat} {xs : List Value} {u : Value} (hm : Lend (Res.rd v n size xs) (H ++ Γ)) (hj : xs[i + j]? = some u) : Kn Γ H ⟨blk v, off v + i + j, none⟩ u := by
 rw [Nat.add_assoc]; exact Kn.rd hm hj

theorem Pull.eq {r r' : Res} (l : RL) (e : r' = r) : Pull r (r' :: l) l := e ▸ Pull.here r' l
theorem gm {α : Type} {f : α → Value} {xs : List α} {k : Nat} {d : α} (h : k < xs.length) : (xs.map f)[k]? = some (f (xs.getD k d)) := by
 simp [List.getElem?_eq_getElem h, List.getD_eq_getElem?_getD]
def tab (n : Nat) (f : Nat → Value) : List Value := (List.range n).map f
theorem tab_get {n : Nat} {f : Nat → Value} {j : Nat} (h : j < n) : (tab n f)[j]? = some (f j) := by
 simp [tab, List.getElem?_range h]
theorem tab_len {n : Nat} {f : Nat → Value} : (tab n f).length = n := by simp [tab]
theorem tab_set {n : Nat} {f : Nat → Value} {j : Nat} {v : Value} : (tab n f).set j v = tab n (fun i => if i = j then v else f i) := by
 apply List.ext_getElem?
 intro i
 rw [List.getElem?_set]
 by_cases hij : j = i
 ·subst hij
  rw [if_pos rfl, tab_len]
  by_cases h : j < n
  ·rw [if_pos h, tab_get h]; simp
  ·rw [if_neg h, List.getElem?_eq_none (by rw [tab_len]; omega)]
 ·rw [if_neg hij]
  by_cases h : i < n
  ·rw [tab_get h, tab_get h, if_neg (Ne.symm hij)]
  ·rw [List.getElem?_eq_none (by rw [tab_len]; omega), List.getElem?_eq_none (by rw [tab_len]; omega)]
theorem tab_congr {n : Nat} {f g : Nat → Value} (h : ∀ i, i < n → f i = g i) : tab n f = tab n g :=
 List.map_congr_left fun i hi => h i (List.mem_range.1 hi)
theorem one_map {α : Type} {f : α → Value} {xs : List α} (h : ∀ x, (f x).oneCell' = true) : ∀ a ∈ xs.map f, a.oneCell' = true := by
 intro a ha
 obtain ⟨x, _, rfl⟩ := List.mem_map.1 ha
 exact h x
theorem one_tab {n : Nat} {f : Nat → Value} (h : ∀ x, (f x).oneCell' = true) : ∀ a ∈ tab n f, a.oneCell' = true := one_map h

theorem Mv.store1 {T : TypeId} {x y : Operand} {b o : Nat} {v : Value} {cs : List Value} {T' : TypeId} {H' : RL} (hT : (P.info? T).map (·.size) = some 1) (hx : ev E x = some (ptr b o)) (hy : ev E y = some v)
  (h1 : v.oneCell' = true) (hu : Upd H (Res.cells b cs T') (Res.cells b (cs.set o v) T') H') (hl : o < cs.length) : Mv P N C E Γ H (.store T x y) ty (fun _ Γ1 H1 => Γ1 = Γ ∧ H1 = H') :=
 .store (vs := [v]) hT hx hy (one_cells h1) rfl (by simpa using h1) (by rw [splice_one hl]; exact hu) hl
theorem Mv.storeRow1 {T : TypeId} {x y : Operand} {v u : Value} {o n : Nat} {e : TypeId} {xs : List Value} {H' : RL} (hT : (P.info? T).map (·.size) = some 1) (hx : ev E x = some (ptr (blk v) o)) (hy : ev E y = some u)
  (h1 : u.oneCell' = true) (hp : Upd H (Res.row v n e 1 xs) (Res.row v n e 1 (xs.set o u)) H') (hl : o < n) (hlen : xs.length = n) : Mv P N C E Γ H (.store T x y) ty (fun _ Γ1 H1 => Γ1 = Γ ∧ H1 = H') := by
 subst hlen
 have e := splice_one (cs := xs) (o := o) (v := u) hl
 exact Mv.storeRow (us := [u]) (xs := xs) hT hx hy (one_cells h1) rfl (by simpa using h1) (by rw [e]; exact hp) (by omega) (by omega)
theorem splice_all {cs vs : List Value} (h : vs.length = cs.length) : splice cs 0 vs = vs := by simp [splice, h]
theorem Mv.storeAll {T n : TypeId} {x y : Operand} {b : Nat} {v : Value} {vs cs : List Value} {T' : TypeId} {H' : RL} (hT : (P.info? T).map (·.size) = some n) (hx : ev E x = some (ptr b 0)) (hy : ev E y = some v)
  (hv : v.cells = vs.toArray) (hn : vs.length = n) (h1 : ∀ u ∈ vs, u.oneCell' = true) (hu : Upd H (Res.cells b cs T') (Res.cells b vs T') H') (hl : cs.length = n) :
  Mv P N C E Γ H (.store T x y) ty (fun _ Γ1 H1 => Γ1 = Γ ∧ H1 = H') :=
 .store (o := 0) (cs := cs) hT hx hy hv hn h1 (by rw [splice_all (cs := cs) (by omega)]; exact hu) (by omega)
theorem JO.storeAll {T n : TypeId} {pos : String} {aft : Array Edge} {x y : Operand} {b : Nat} {v : Value} {vs cs : List Value} {T' : TypeId} {H' : RL} (hT : (P.info? T).map (·.size) = some n) (hx : ev E x = some (ptr b 0)) (hy : ev E y = some v)
  (hv : v.cells = vs.toArray) (hn : vs.length = n) (h1 : ∀ u ∈ vs, u.oneCell' = true) (hu : Upd H (Res.cells b cs T') (Res.cells b vs T') H') (hl : cs.length = n)
  (h : JO P N C ops rest Q E Γ H') : JO P N C ops (⟨none, .store T x y, ty, pos, aft, none⟩ :: rest) Q E Γ H :=
 .m0 (Mv.storeAll hT hx hy hv hn h1 hu hl) fun v Γ' H' ⟨hΓ, hH⟩ => by subst hΓ hH; exact h

theorem flatMap_get {f : Value → List Value} {s : Nat} (hs : 0 < s) : ∀ (vs : List Value), (∀ v ∈ vs, (f v).length = s) → ∀ k, (vs.flatMap f)[k]? = (vs[k / s]?).bind fun v => (f v)[k % s]?
 | [], _, k => by simp
 | v :: vs, h, k => by
  have h1 := h v List.mem_cons_self
  rw [List.flatMap_cons]
  rcases Nat.lt_or_ge k s with hk | hk
  ·rw [List.getElem?_append_left (by omega), Nat.div_eq_of_lt hk, Nat.mod_eq_of_lt hk]; rfl
  ·rw [List.getElem?_append_right (by omega), flatMap_get hs vs (fun u hu => h u (List.mem_cons_of_mem _ hu)), h1]
   have e1 : k / s = (k - s) / s + 1 := by rw [← Nat.sub_add_cancel hk, Nat.add_div_right _ hs]; simp
   have e2 : k % s = (k - s) % s := by rw [← Nat.sub_add_cancel hk, Nat.add_mod_right]; simp
   rw [e1, e2]; rfl
theorem flatMap_len {f : Value → List Value} {s : Nat} : ∀ (vs : List Value), (∀ v ∈ vs, (f v).length = s) → (vs.flatMap f).length = vs.length * s
 | [], _ => by simp
 | v :: vs, h => by
  rw [List.flatMap_cons, List.length_append, h v List.mem_cons_self, flatMap_len vs (fun u hu => h u (List.mem_cons_of_mem _ hu)), List.length_cons, Nat.add_mul]
  omega
theorem Mv.lit {t e : TypeId} {len : Nat} {parts : List (Nat × Operand)} {vs : List Value} {z : Value} {size bytes : Nat} (hu : P.underlying t = some (.slice e))
  (hinfo : (P.info? e).map (fun i => (i.zero, i.size, i.bytes)) = some (some z, size, bytes)) (hidx : parts.map (·.1) = List.range len) (hp : evs E (parts.map (·.2)) = some vs) (hsz : ∀ v ∈ vs, v.cells.size = size)
  (hsmall : len * size ≤ 2 ^ 24) (hpos : 0 < len * size) (hm : len ≤ maxLen) :
  Mv P N C E Γ H (.buildSlice t len parts.toArray) ty (fun v Γ' H' => Γ' = Γ ∧ H' = Res.row v len e size (vs.flatMap fun v => v.cells.toList) :: H) := by
 intro dst pos aft gd a w he hs K Q hK
 obtain ⟨i, hi, hzz⟩ := Option.map_eq_some_iff.1 hinfo
 simp only [Prod.mk.injEq] at hzz
 obtain ⟨hz0, hz1, hz2⟩ := hzz
 have hs0 : 0 < size := by rcases Nat.eq_zero_or_pos size with h | h; subst h; omega; exact h
 have hvs := he.evs hp
 have hlen : vs.length = len := by rw [← hvs, List.length_map, List.length_map, ← List.length_map (f := (·.1)), hidx, List.length_range]
 have hpl : parts.length = len := by rw [← List.length_map (f := (·.1)), hidx, List.length_range]
 have hpp : (parts.toArray.map fun (i, x) => (i, a.eval x)).toList = (vs.zipIdx 0).map fun x => (x.2, x.1) := by
  rw [← hvs]
  apply List.ext_getElem?
  intro j
  simp only [Array.toList_map, List.getElem?_map, List.getElem?_zipIdx, List.map_map, Nat.zero_add]
  have h1 : (parts.map (·.1))[j]? = (List.range len)[j]? := by rw [hidx]
  rw [List.getElem?_map] at h1
  cases hq : parts[j]? with
  | none => simp
  | some p =>
   have hj := (List.getElem?_eq_some_iff.1 hq).1
   rw [hq, List.getElem?_range (by omega)] at h1
   have : p.1 = j := by simpa using h1
   simp [← this]
 have hzs : ((Array.range (len * size)).map (z.cells[· % z.cells.size]!)).size = len * size := by simp
 obtain ⟨r, hr, hrs, hrk⟩ := Great.fill_dense (s := size) hs0 vs 0 ((Array.range (len * size)).map (z.cells[· % z.cells.size]!)) hsz (by rw [hzs, hlen, Nat.zero_add]; exact Nat.le_refl _)
 have hcs : r = (vs.flatMap fun v => v.cells.toList).toArray := by
  apply Array.ext'
  apply List.ext_getElem?
  intro k
  rw [flatMap_get (f := fun v => v.cells.toList) hs0 vs (fun v hv => by simpa using hsz v hv)]
  have := hrk k
  simp only [Nat.zero_mul, Nat.zero_le, true_and, Nat.zero_add, Nat.sub_zero, hlen] at this
  rw [Array.getElem?_toList, this]
  rcases Nat.lt_or_ge k (len * size) with hk | hk
  ·rw [if_pos hk]; simp
  ·rw [if_neg (by omega), Array.getElem?_eq_none (by rw [hzs]; exact hk)]
   have : vs[k / size]? = none := List.getElem?_eq_none (by rw [hlen]; exact (Nat.le_div_iff_mul_le hs0).2 hk)
   rw [this]; rfl
 rw [hcs] at hr
 have hrun := run_buildSlice (P := P) w t e len (parts.toArray.map fun (i, x) => (i, a.eval x)) _ i z hu hi hz0 (by rw [hz1]; omega) (by rw [hz1]; omega) (by rw [hz1, hpp]; exact hr)
 have hr' : (execOp a.eval ⟨dst, .buildSlice t len parts.toArray, ty, pos, aft, gd⟩).run P w = .ok (.value (.slice (some ⟨w.heap.size, 0, none⟩) len len)) (w.alloc (.cells (vs.flatMap fun v => v.cells.toList).toArray e)) := by
  simp only [execOp, Sem.run_bind, hrun, Result.andThen_ok, Sem.run_pure]
 simp only [Oper.wp, hr', Oper.upon]
 exact hK _ _ _ _ ⟨rfl, rfl⟩ ((hs.alloc _ e).cellsRow (by rw [flatMap_len (s := size) vs (fun v hv => by simpa using hsz v hv), hlen]) hm)
theorem flatMap_one : ∀ (vs : List Value), (∀ v ∈ vs, v.oneCell' = true) → (vs.flatMap fun v => v.cells.toList) = vs
 | [], _ => rfl
 | v :: vs, h => by
  rw [List.flatMap_cons, one_cells (h v List.mem_cons_self), flatMap_one vs (fun u hu => h u (List.mem_cons_of_mem _ hu))]
  rfl
theorem Mv.lit1 {t e : TypeId} {len : Nat} {parts : List (Nat × Operand)} {vs : List Value} {z : Value} {bytes : Nat} (hu : P.underlying t = some (.slice e))
  (hinfo : (P.info? e).map (fun i => (i.zero, i.size, i.bytes)) = some (some z, 1, bytes)) (hidx : parts.map (·.1) = List.range len) (hp : evs E (parts.map (·.2)) = some vs) (h1 : ∀ v ∈ vs, v.oneCell' = true)
  (hsmall : len ≤ 2 ^ 24) (hpos : 0 < len) :
  Mv P N C E Γ H (.buildSlice t len parts.toArray) ty (fun v Γ' H' => Γ' = Γ ∧ H' = Res.row v len e 1 vs :: H) := by
 have := Mv.lit (N := N) (C := C) (E := E) (Γ := Γ) (H := H) (ty := ty) hu hinfo hidx hp (fun v hv => by rw [one_cells (h1 v hv)]; rfl) (by omega) (by omega) (by unfold maxLen; omega)
 rw [flatMap_one vs h1] at this
 exact this
theorem JO.lit {d : Nat} {pos : String} {aft : Array Edge} {t e : TypeId} {len : Nat} {parts : List (Nat × Operand)} {vs : List Value} {z : Value} {size bytes : Nat} (hu : P.underlying t = some (.slice e))
  (hinfo : (P.info? e).map (fun i => (i.zero, i.size, i.bytes)) = some (some z, size, bytes)) (hidx : parts.map (·.1) = List.range len) (hp : evs E (parts.map (·.2)) = some vs) (hsz : ∀ v ∈ vs, v.cells.size = size)
  (hsmall : len * size ≤ 2 ^ 24) (hpos : 0 < len * size) (hm : len ≤ maxLen) (hd : d < N)
  (h : ∀ v, JO P N C ops rest Q ((d, v) :: E) Γ (Res.row v len e size (vs.flatMap fun v => v.cells.toList) :: H)) : JO P N C ops (⟨some d, .buildSlice t len parts.toArray, ty, pos, aft, none⟩ :: rest) Q E Γ H :=
 .m (Mv.lit hu hinfo hidx hp hsz hsmall hpos hm) hd fun v Γ' H' ⟨hΓ, hH⟩ => by subst hΓ hH; exact h v
theorem JO.lit1 {d : Nat} {pos : String} {aft : Array Edge} {t e : TypeId} {len : Nat} {parts : List (Nat × Operand)} {vs : List Value} {z : Value} {bytes : Nat} (hu : P.underlying t = some (.slice e))
  (hinfo : (P.info? e).map (fun i => (i.zero, i.size, i.bytes)) = some (some z, 1, bytes)) (hidx : parts.map (·.1) = List.range len) (hp : evs E (parts.map (·.2)) = some vs) (h1 : ∀ v ∈ vs, v.oneCell' = true)
  (hsmall : len ≤ 2 ^ 24) (hpos : 0 < len) (hd : d < N)
  (h : ∀ v, JO P N C ops rest Q ((d, v) :: E) Γ (Res.row v len e 1 vs :: H)) : JO P N C ops (⟨some d, .buildSlice t len parts.toArray, ty, pos, aft, none⟩ :: rest) Q E Γ H :=
 .m (Mv.lit1 hu hinfo hidx hp h1 hsmall hpos) hd fun v Γ' H' ⟨hΓ, hH⟩ => by subst hΓ hH; exact h v

def resv (tmps : Array Value) (r : ResultVar) : Sem Value :=
 match r with
 | .tmp t => pure (tmps.getD t undef)
 | .cell a t => do loadVar t (← asAddr (tmps.getD a undef))
theorem results_resv (fn : Func) (tmps : Array Value) : results fn tmps = (do let vs ← fn.results.mapM (resv tmps); pure (if h : vs.size = 1 then vs[0] else .tuple vs)) := rfl
def RV (P : Program) (N : Nat) (C : Beg) (E : Env) (Γ H : RL) (r : ResultVar) (v : Value) : Prop :=
 ∀ a w, EnvOk N E a → St C Γ H w → (resv a.tmps r).run P w = .ok v w
theorem RV.tmp {t : Nat} {v : Value} (h : lk E t = some v) : RV P N C E Γ H (.tmp t) v := fun a w he _ => by
 have := he.val t v h
 simp only [resv, this, Sem.run_pure]
theorem RV.cell {t T n b : Nat} {cs : List Value} {T' : TypeId} (hA : Agg P T n) (hm : Res.cells b cs T' ∈ H) (ht : lk E t = some (ptr b 0)) (hn : cs.length = n) : RV P N C E Γ H (.cell t T) (.agg cs.toArray) := fun a w he hs => by
 have hv := he.val t _ ht
 have hc := run_loadCells_list (P := P) w ⟨b, 0, none⟩ cs (fun j v hj => by rw [add_none, Nat.zero_add]; exact Kn.own hm hj w hs.sat)
 subst hn
 rw [Array.getD_eq_getD_getElem?] at hv
 simp [resv, hv, asAddr, loadVar, (hA w).1, (hA w).2, hc]
section
variable {fn : Func} {r1 r2 r3 : ResultVar} {v1 v2 v3 : Value}
theorem res1 (h : fn.results = #[r1]) (h1 : RV P N C E Γ H r1 v1) : ∀ a w, EnvOk N E a → St C Γ H w → (results fn a.tmps).run P w = .ok v1 w := by
 intro a w he hs
 have e1 := h1 a w he hs
 rw [results_resv, h]
 generalize resv a.tmps = g at *
 simp [e1]
theorem res2 (h : fn.results = #[r1, r2]) (h1 : RV P N C E Γ H r1 v1) (h2 : RV P N C E Γ H r2 v2) : ∀ a w, EnvOk N E a → St C Γ H w → (results fn a.tmps).run P w = .ok (.tuple #[v1, v2]) w := by
 intro a w he hs
 have e1 := h1 a w he hs
 have e2 := h2 a w he hs
 rw [results_resv, h]
 generalize resv a.tmps = g at *
 simp [e1, e2]
theorem res3 (h : fn.results = #[r1, r2, r3]) (h1 : RV P N C E Γ H r1 v1) (h2 : RV P N C E Γ H r2 v2) (h3 : RV P N C E Γ H r3 v3) : ∀ a w, EnvOk N E a → St C Γ H w → (results fn a.tmps).run P w = .ok (.tuple #[v1, v2, v3]) w := by
 intro a w he hs
 have e1 := h1 a w he hs
 have e2 := h2 a w he hs
 have e3 := h3 a w he hs
 rw [results_resv, h]
 generalize resv a.tmps = g at *
 simp [e1, e2, e3]
end

theorem Yv.loadOwn {T T' n b : Nat} {x : Operand} {cs : List Value} (hA : Agg P T n) (hm : Res.cells b cs T' ∈ H) (hx : ev E x = some (ptr b 0)) (hl : cs.length = n) : Yv P N C E Γ H (.load T x) ty (.agg cs.toArray) :=
 .loadA hA hx hl fun i v hv => by rw [Nat.zero_add]; exact Kn.own hm hv
theorem getElem?_piece {xs : List Value} {o n i : Nat} {v : Value} (h : ((xs.drop o).take n)[i]? = some v) : xs[o + i]? = some v := by
 have hlt : i < n := by have := (List.getElem?_eq_some_iff.1 h).1; simp at this; omega
 rw [List.getElem?_take_of_lt hlt, List.getElem?_drop] at h
 exact h
theorem Yv.loadOwnAt {T T' n b o : Nat} {x : Operand} {cs : List Value} (hA : Agg P T n) (hm : Res.cells b cs T' ∈ H) (hx : ev E x = some (ptr b o)) (hl : o + n ≤ cs.length) : Yv P N C E Γ H (.load T x) ty (.agg ((cs.drop o).take n).toArray) :=
 .loadA hA hx (by simp; omega) fun _ _ hv => Kn.own hm (getElem?_piece hv)
theorem Yv.loadRd {T n m size j : Nat} {x : Operand} {u : Value} {xs : List Value} (hA : Agg P T n) (hm : Lend (Res.rd u m size xs) (H ++ Γ)) (hx : ev E x = some (ptr (blk u) (off u + j))) (hl : j + n ≤ xs.length) : Yv P N C E Γ H (.load T x) ty (.agg ((xs.drop j).take n).toArray) :=
 .loadA hA hx (by simp; omega) fun i _ hv => by rw [Nat.add_assoc]; exact Kn.rd hm (getElem?_piece hv)
theorem Yv.loadRow {T n m size j : Nat} {x : Operand} {u : Value} {e : TypeId} {xs : List Value} (hA : Agg P T n) (hm : Res.row u m e size xs ∈ H) (hx : ev E x = some (ptr (blk u) j)) (hl : j + n ≤ xs.length) : Yv P N C E Γ H (.load T x) ty (.agg ((xs.drop j).take n).toArray) :=
 .loadA hA hx (by simp; omega) fun _ _ hv => Kn.row hm (getElem?_piece hv)

theorem Yv.indexStr {T : TypeId} {x ix : Operand} {s : ByteArray} {k : IntKind} {j : Nat} (hT : P.underlying T = some .string) (hx : ev E x = some (.string s)) (hi : ev E ix = some (.int k (j : Int))) (hj : j < s.size) :
  Yv P N C E Γ H (.index T x ix) ty (u8 (s[j]).toBitVec) := by
 intro dst pos aft gd a w he _
 have h1 : (0 : Int) ≤ j := by omega
 have h2 : s[j]? = some s[j] := by simp [hj]
 simp [execOp, he.ev hx, he.ev hi, Instr.index, asIntOf, underlying, hT, h1, h2]
theorem Sat.rdForm {v : Value} {n size : Nat} {xs : List Value} {w : World} (hs : Sat Γ H w) (hm : Res.rd v n size xs ∈ Γ) : ∃ A c, v = .slice A n c ∧ (A = none → xs = []) ∧ xs.length = n * size ∧ n ≤ c ∧ n ≤ maxLen := by
 obtain ⟨A, c, hv, hl, hx, hc, hcell⟩ := Res.rd_ok.1 (hs.gok _ hm)
 refine ⟨A, c, hv, fun hA => ?_, hl, hc, hx⟩
 cases xs with
 | nil => rfl
 | cons x xs =>
  obtain ⟨b, o, h, _⟩ := hcell 0 x rfl
  rw [hA] at h
  cases h
theorem Mv.buildEmpty {t e : TypeId} {size : Nat} (hu : P.underlying t = some (.slice e)) (hs : (P.info? e).map (·.size) = some size) :
  Mv P N C E Γ H (.buildSlice t 0 #[]) ty (fun v Γ' H' => Γ' = Γ ∧ H' = Res.row v 0 e size [] :: H) := by
 intro dst pos aft gd a w he hst K Q hK
 obtain ⟨i, hi1, hi2⟩ := Option.map_eq_some_iff.1 hs
 have hr' : (execOp a.eval ⟨dst, .buildSlice t 0 #[], ty, pos, aft, gd⟩).run P w = .ok (.value (.slice (some ⟨w.heap.size, 0, none⟩) 0 0)) (w.alloc (.cells ([] : List Value).toArray e)) := by
  simp [execOp, Instr.buildSlice, underlying, hu, sizeOf, typeInfo, hi1, Instr.fill, newRow]
  congr 2
  apply Array.ext'
  simp
 simp only [Oper.wp, hr', Oper.upon]
 exact hK _ _ _ _ ⟨rfl, rfl⟩ ((hst.alloc [] e).cellsRow (by simp) (Nat.zero_le _))
theorem JO.buildEmpty {d : Nat} {pos : String} {aft : Array Edge} {t e : TypeId} {size : Nat} (hu : P.underlying t = some (.slice e)) (hs : (P.info? e).map (·.size) = some size) (hd : d < N)
  (h : ∀ v, JO P N C ops rest Q ((d, v) :: E) Γ (Res.row v 0 e size [] :: H)) : JO P N C ops (⟨some d, .buildSlice t 0 #[], ty, pos, aft, none⟩ :: rest) Q E Γ H :=
 .m (Mv.buildEmpty hu hs) hd fun v Γ' H' ⟨hΓ, hH⟩ => by subst hΓ hH; exact h v

theorem run_parts {w : World} {e : TypeId} {d : TypeDesc} (hd : P.underlying e = some d) (hd' : (match d with | .struct _ | .array _ _ => true | _ => false) = false) {cs : Array Value} {i : Nat} {v : Value} (hv : cs[i]? = some v) :
  (part e cs i).run P w = .ok v w := by
 have hag : (isAgg e).run P w = .ok false w := by
  simp only [isAgg, underlying, Sem.run_bind, run_program, Result.andThen_ok, hd, Sem.run_pure]
  cases d <;> simp_all
 simp [part, hag, hv]
end
theorem run_eqLoop {P : Program} {α : Type} [DecidableEq α] {e n : Nat} {k k' : IntKind} {f : α → Value} {g : α → Int} (he : P.underlying e = some (.int k'))
  (hf : ∀ x, f x = .int k (g x)) (hg : ∀ x y, g x = g y → x = y) (as_ bs : List α) (ha : as_.length = n) (hb : bs.length = n) (d : Nat) (w : World) : ∀ (m s : Nat), s + m = n →
  (forIn (List.range' s m) ((none, ()) : Option Bool × Unit) fun i __s => (do
    let a ← part e (as_.map f).toArray i
    let b ← part e (bs.map f).toArray i
    let r ← Op.equalIn (d + 1) e a b
    if (!r) = true then pure (ForInStep.done (some false, ())) else pure (ForInStep.yield (none, ())) : Sem (ForInStep (Option Bool × Unit)))).run P w =
   .ok (if as_.drop s = bs.drop s then (none, ()) else (some false, ())) w := by
 intro m
 induction m with
 | zero =>
  intro s hs
  rw [List.drop_eq_nil_of_le (by omega), List.drop_eq_nil_of_le (by omega)]
  simp
 | succ m ih =>
  intro s hs
  have h1 : s < as_.length := by omega
  have h2 : s < bs.length := by omega
  have p1 := run_parts (P := P) (w := w) he rfl (show (as_.map f).toArray[s]? = some (f as_[s]) by simp [h1])
  have p2 := run_parts (P := P) (w := w) he rfl (show (bs.map f).toArray[s]? = some (f bs[s]) by simp [h2])
  have e1 : (Op.equalIn (d + 1) e (f as_[s]) (f bs[s])).run P w = .ok (decide (as_[s] = bs[s])) w := by
   rw [hf, hf]
   simp only [Op.equalIn, underlying, Sem.run_bind, run_program, Result.andThen_ok, he, Sem.run_pure, if_true]
   congr 1
   rw [Bool.eq_iff_iff, beq_iff_eq, decide_eq_true_iff]
   exact ⟨hg _ _, fun h => by rw [h]⟩
  rw [List.range'_succ]
  simp only [List.forIn_cons, Sem.run_bind, p1, p2, e1, Result.andThen_ok]
  rw [List.drop_eq_getElem_cons h1, List.drop_eq_getElem_cons h2]
  by_cases heq : as_[s] = bs[s]
  ·have := ih (s + 1) (by omega)
   simp only [heq, decide_true, Bool.not_true, Bool.false_eq_true, if_false, Sem.run_pure, Result.andThen_ok, List.cons.injEq, true_and]
   exact this
  ·rw [if_neg (fun h => heq (List.cons.inj h).1)]
   simp [heq]
theorem run_eqArr {P : Program} {α : Type} [DecidableEq α] {T e n : Nat} {k k' : IntKind} {f : α → Value} {g : α → Int} (hT : P.underlying T = some (.array n e)) (he : P.underlying e = some (.int k')) (hs : (P.info? e).map (·.size) = some 1)
  (hf : ∀ x, f x = .int k (g x)) (hg : ∀ x y, g x = g y → x = y) (as_ bs : List α) (ha : as_.length = n) (hb : bs.length = n) (d : Nat) (w : World) :
  (Op.equalIn (d + 2) T (.agg (as_.map f).toArray) (.agg (bs.map f).toArray)).run P w = .ok (decide (as_ = bs)) w := by
 obtain ⟨i, hi1, hi2⟩ := Option.map_eq_some_iff.1 hs
 have hl := run_eqLoop (P := P) he hf hg as_ bs ha hb d w n 0 (by omega)
 rw [Op.equalIn]
 simp only [underlying, Sem.run_bind, run_program, Result.andThen_ok, hT, Sem.run_pure, sizeOf, typeInfo, hi1, hi2, Nat.mul_one, Std.Legacy.Range.forIn_eq_forIn_range', Std.Legacy.Range.size,
  Nat.sub_zero, Nat.add_sub_cancel, Nat.div_one]
 rw [hl]
 by_cases h : as_ = bs <;> simp [h]
theorem BinR.eql_arr {P : Program} {x y : Operand} {α : Type} [DecidableEq α] {T e n : Nat} {k k' : IntKind} {f : α → Value} {g : α → Int} (hT : P.underlying T = some (.array n e)) (he : P.underlying e = some (.int k')) (hs : (P.info? e).map (·.size) = some 1)
  (hm : P.eqGuardType P.depth T = false) (hf : ∀ x, f x = .int k (g x)) (hg : ∀ x y, g x = g y → x = y) (as_ bs : List α) (ha : as_.length = n) (hb : bs.length = n) :
  BinR P .eql T x y (.agg (as_.map f).toArray) (.agg (bs.map f).toArray) (.bool (decide (as_ = bs))) := fun w => by
 have h0 : (Op.equal T (.agg (as_.map f).toArray) (.agg (bs.map f).toArray)).run P w = .ok (decide (as_ = bs)) w := run_eqArr hT he hs hf hg as_ bs ha hb 9998 w
 simp only [Sem.run_bind, run_eqGuard_agg w .eql T x y _ _ hm, Result.andThen_ok, binOp, h0, Sem.run_pure]
theorem BinR.neq_arr {P : Program} {x y : Operand} {α : Type} [DecidableEq α] {T e n : Nat} {k k' : IntKind} {f : α → Value} {g : α → Int} (hT : P.underlying T = some (.array n e)) (he : P.underlying e = some (.int k')) (hs : (P.info? e).map (·.size) = some 1)
  (hm : P.eqGuardType P.depth T = false) (hf : ∀ x, f x = .int k (g x)) (hg : ∀ x y, g x = g y → x = y) (as_ bs : List α) (ha : as_.length = n) (hb : bs.length = n) :
  BinR P .neq T x y (.agg (as_.map f).toArray) (.agg (bs.map f).toArray) (.bool (!decide (as_ = bs))) := fun w => by
 have h0 : (Op.equal T (.agg (as_.map f).toArray) (.agg (bs.map f).toArray)).run P w = .ok (decide (as_ = bs)) w := run_eqArr hT he hs hf hg as_ bs ha hb 9998 w
 simp only [Sem.run_bind, run_eqGuard_agg w .neq T x y _ _ hm, Result.andThen_ok, binOp, h0, Sem.run_pure]
@[simp] theorem u8_oneCell (x : BitVec 8) : (u8 x).oneCell' = true := rfl
@[simp] theorem u32_oneCell (x : BitVec 32) : (u32 x).oneCell' = true := rfl
@[simp] theorem u64_oneCell (x : BitVec 64) : (u64 x).oneCell' = true := rfl
@[simp] theorem it_oneCell (x : Int) : (it x).oneCell' = true := rfl
@[simp] theorem int_oneCell (k : IntKind) (x : Int) : ((.int k x : Value)).oneCell' = true := rfl
@[simp] theorem bl_oneCell (x : Bool) : ((.bool x : Value)).oneCell' = true := rfl
@[simp] theorem slice_oneCell (A : Option Addr) (n c : Nat) : ((.slice A n c : Value)).oneCell' = true := rfl
@[simp] theorem pt_oneCell (A : Option Addr) : ((.pointer A : Value)).oneCell' = true := rfl
@[simp] theorem str_oneCell (x : ByteArray) : ((.string x : Value)).oneCell' = true := rfl
theorem one_sing {a : Value} (h : a.oneCell' = true) : ∀ x ∈ [a], x.oneCell' = true := fun x hx => by rw [List.mem_singleton.1 hx]; exact h
theorem one_piece {xs : List Value} {i n : Nat} (h : ∀ a ∈ xs, a.oneCell' = true) : ∀ a ∈ (xs.drop i).take n, a.oneCell' = true := fun a ha => h a (List.mem_of_mem_drop (List.mem_of_mem_take ha))
def Res.all (G : RL) : Res where
 fp k := ∃ r ∈ G, r.fp k
 ok w := ∀ r ∈ G, r.ok w
 loc w w' h ho := fun r hr => r.loc w w' (fun k hk => h k ⟨r, hr, hk⟩) (ho r hr)
def Res.var (b : Nat) (cs : List Value) : Res where
 fp k := k = b
 ok w := ∃ T r, w.heap[b]? = some (.cells cs.toArray T r)
 loc _ _ h ho := by
  obtain ⟨T, r, ho⟩ := ho
  exact ⟨T, r, (h b rfl).trans ho⟩
section
variable {P : Program} {N : Nat} {C : Beg} {Q : Exit → Act → World → Prop} {E : Env} {Γ H : RL} {ty : TypeId} {ops : Array Oper} {rest : List Oper}
theorem Mv.cutFr {T e : TypeId} {x : Operand} {lo hi : Option Operand} {v : Value} {n size l h : Nat} {xs : List Value} {G : RL} (hT : P.underlying T = some (.slice e)) (hsz : (P.info? e).map (·.size) = some size) (hx : ev E x = some v)
  (hp : Pull (Res.row v n e size xs) H G) (h0 : 0 < size) (hlo : Bd E lo 0 l) (hhi : Bd E hi n h) (hlh : l ≤ h) (hn : h ≤ n) :
  Mv P N C E Γ H (.slice T x lo hi none) ty (fun v' Γ' H' => Γ' = Res.rd v' (h - l) size ((xs.drop (l * size)).take ((h - l) * size)) :: Res.rd v n size xs :: Γ ∧ H' = G) :=
 fun dst pos aft gd a w he hs K Q hK => Mv.cut hT hsz hx (.head _) hlo hhi hlh hn dst pos aft gd a w he (hs.freezeRow hp h0) K Q hK
theorem JO.cutFr {d : Nat} {pos : String} {aft : Array Edge} {T e : TypeId} {x : Operand} {lo hi : Option Operand} {v : Value} {n size : Nat} (l h : Nat) {xs : List Value} {G : RL} (hT : P.underlying T = some (.slice e)) (hsz : (P.info? e).map (·.size) = some size) (hx : ev E x = some v)
  (hp : Pull (Res.row v n e size xs) H G) (h0 : 0 < size) (hlo : Bd E lo 0 l) (hhi : Bd E hi n h) (hlh : l ≤ h) (hn : h ≤ n) (hd : d < N)
  (hk : ∀ v', JO P N C ops rest Q ((d, v') :: E) (Res.rd v' (h - l) size ((xs.drop (l * size)).take ((h - l) * size)) :: Res.rd v n size xs :: Γ) G) :
  JO P N C ops (⟨some d, .slice T x lo hi none, ty, pos, aft, none⟩ :: rest) Q E Γ H :=
 .m (Mv.cutFr hT hsz hx hp h0 hlo hhi hlh hn) hd fun v' Γ' H' ⟨hΓ, hH⟩ => by subst hΓ hH; exact hk v'


theorem Mv.store1s {T : TypeId} {x y : Operand} {b o n size : Nat} {v : Value} {xs cs : List Value} {T' : TypeId} {H' : RL} (hT : (P.info? T).map (·.size) = some 1) (hx : ev E x = some (ptr b o)) (hy : ev E y = some v)
  (hm : Lend (Res.rd v n size xs) (H ++ Γ)) (hu : Upd H (Res.cells b cs T') (Res.cells b (cs.set o v) T') H') (hl : o < cs.length) : Mv P N C E Γ H (.store T x y) ty (fun _ Γ1 H1 => Γ1 = Γ ∧ H1 = H') := by
 intro dst pos aft gd a w he hs
 obtain ⟨A, c, rfl, _⟩ := hs.sat.rd hm
 exact Mv.store1 hT hx hy rfl hu hl dst pos aft gd a w he hs
theorem JO.store1s {T : TypeId} {pos : String} {aft : Array Edge} {x y : Operand} {b o n size : Nat} {v : Value} {xs cs : List Value} {T' : TypeId} {H' : RL} (hT : (P.info? T).map (·.size) = some 1) (hx : ev E x = some (ptr b o)) (hy : ev E y = some v)
  (hm : Lend (Res.rd v n size xs) (H ++ Γ)) (hu : Upd H (Res.cells b cs T') (Res.cells b (cs.set o v) T') H') (hl : o < cs.length)
  (h : JO P N C ops rest Q E Γ H') : JO P N C ops (⟨none, .store T x y, ty, pos, aft, none⟩ :: rest) Q E Γ H :=
 .m0 (Mv.store1s hT hx hy hm hu hl) fun _ Γ' H' ⟨hΓ, hH⟩ => by subst hΓ hH; exact h
theorem JO.frz {l : List Oper} {r : Res} {G : RL} (hp : Pull r H G) (h : JO P N C ops l Q E (r :: Γ) G) : JO P N C ops l Q E Γ H :=
 fun hn a w he hs => h hn a w he ((hs.perm hp.perm).freeze)
theorem yielded_undef {a : Act} {j g : Nat} (he : EnvOk N E a) (hj : ((ops[j]?).bind (·.dst)) = some g) (hg : lk E g = some undef) : yielded ops a.tmps j = none := by
 have h1 := he.val g _ hg
 obtain ⟨o, ho, hd⟩ := Option.bind_eq_some_iff.1 hj
 simp only [yielded, ho, hd, Option.bind_some]
 have h2 : g < a.tmps.size ∨ ¬ g < a.tmps.size := by omega
 rcases h2 with h2 | h2
 ·simp [h2] at h1
  simp [h2, h1, undef]
 ·simp [h2]
theorem JO.gu {d : Nat} {op : Op} {pos : String} {aft : Array Edge} {j g : Nat} {want : Bool} (hj : ((ops[j]?).bind (·.dst)) = some g) (hg : lk E g = some undef) (hd : d < N)
  (h : JO P N C ops rest Q ((d, undef) :: E) Γ H) : JO P N C ops (⟨some d, op, ty, pos, aft, some (j, want)⟩ :: rest) Q E Γ H := by
 intro hn a w he hs
 have hy := yielded_undef (ops := ops) he hj hg
 have h1 : Region.wanted ⟨some d, op, ty, pos, aft, some (j, want)⟩ (yielded ops a.tmps) = false := by simp [Region.wanted, hy]
 unfold wpList
 rw [if_neg (by rw [h1]; decide)]
 exact h hn _ w (he.put d hd undef) hs
theorem JR.gu {T M U : Nat → Bool} {Γ0 H0 : RL} {l : OT} {i d : Nat} {op : Op} {pos : String} {aft : Array Edge} {j g : Nat} {want : Bool} (ho : ops[i]? = some ⟨some d, op, ty, pos, aft, some (j, want)⟩) (hM : M i = false)
  (hj : ((ops[j]?).bind (·.dst)) = some g) (hg : lk E g = some undef) (hd : d < N)
  (h : JR P N C ops T M U Γ0 H0 l Q ((d, undef) :: E) Γ H) : JR P N C ops T M U Γ0 H0 (.one i l) Q E Γ H := by
 intro hn a w he hs
 have hy := yielded_undef (ops := ops) he hj hg
 exact .inr ⟨hM, _, undef, ho, .inr ⟨by simp [Region.wanted, hy], rfl⟩, h hn _ w (he.put d hd undef) hs⟩
theorem JR.gum {T M U : Nat → Bool} {Γ0 H0 : RL} {l : OT} {i d : Nat} {op : Op} {pos : String} {aft : Array Edge} {j g : Nat} {want : Bool} (ho : ops[i]? = some ⟨some d, op, ty, pos, aft, some (j, want)⟩) (hM : M i = true)
  (hj : ((ops[j]?).bind (·.dst)) = some g) (hg : lk E g = some undef) (hd : d < N)
  (hk : (∀ r ∈ Γ0, r ∈ Γ) ∧ (T i = true ∨ ∀ w, St C Γ H w → St C Γ0 H0 w))
  (h : JR P N C ops T M U Γ0 H0 l Q ((d, undef) :: E) Γ H) : JR P N C ops T M U Γ0 H0 (.one i l) Q E Γ H := by
 intro hn a w he hs
 have hy := yielded_undef (ops := ops) he hj hg
 refine .inl ⟨hM, ?_⟩
 unfold wpOp
 have h0 : ((none : Option Bool) == some want) = false := rfl
 simp only [ho, Region.wanted, hy, h0]
 exact ⟨⟨St.keep0' hk.1 hs, hk.2.imp id fun h1 => h1 w hs⟩, h hn _ _ (he.put d hd undef) hs⟩
theorem St.open {G : RL} {r : Res} {w : World} (hs : St C Γ H w) (hm : Res.all G ∈ Γ) (hr : r ∈ G) : St C (r :: Γ) H w := hs.conv' hm (fun _ hk => ⟨r, hr, hk⟩) (fun h => h r hr)
theorem JO.open {L : List Oper} {G : RL} {r : Res} (hm : Res.all G ∈ Γ) (hr : r ∈ G) (k : JO P N C ops L Q E (r :: Γ) H) : JO P N C ops L Q E Γ H := fun hq a w he hs => k hq a w he (hs.open hm hr)
theorem JC.open {c : Code} {G : RL} {r : Res} (hm : Res.all G ∈ Γ) (hr : r ∈ G) (k : JC P N C c Q E (r :: Γ) H) : JC P N C c Q E Γ H := fun hq a w he hs => k hq a w he (hs.open hm hr)
theorem Yv.indexAgg {T e : TypeId} {n : Nat} {q : IntKind} {x ix : Operand} {cs : List Value} {k : IntKind} {j : Nat} {v : Value} (hT : P.underlying T = some (.array n e)) (he : P.underlying e = some (.int q)) (hsz : (P.info? e).map (·.size) = some 1)
  (hx : ev E x = some (.agg cs.toArray)) (hi : ev E ix = some (.int k (j : Int))) (hj : j < n) (hv : cs[j]? = some v) : Yv P N C E Γ H (.index T x ix) ty v := by
 intro dst pos aft gd a w hE _
 obtain ⟨i, hi1, hi2⟩ := Option.map_eq_some_iff.1 hsz
 have h2 : (part e cs.toArray j).run P w = .ok v w := run_parts he rfl (by simpa using hv)
 have h3 : ¬ n ≤ j := by omega
 simp [execOp, hE.ev hx, hE.ev hi, Instr.index, asIntOf, underlying, hT, sizeOf, typeInfo, hi1, hi2, h2, h3]
theorem St.rdCells {b n : Nat} {cs : List Value} {T' : TypeId} {w : World} (hs : St C Γ H w) (hm : Res.cells b cs T' ∈ Γ) (hn : cs.length = n) (hx : n ≤ maxLen) : St C (Res.rd (.slice (some ⟨b, 0, none⟩) n n) n 1 cs :: Γ) H w := by
 refine hs.conv' hm (fun k hk => ?_) (fun h => Res.rd_ok.2 ⟨_, _, rfl, by omega, hx, Nat.le_refl _, fun j u hj => ⟨b, 0, rfl, ?_⟩⟩)
 ·have h2 := (Res.rd_fp.1 hk).2
  simp only [Value.ownBlock, Option.some.injEq] at h2
  exact Res.cells_fp.2 h2.symm
 ·have h1 : w.heap[b]? = some (.cells cs.toArray T' (0, 0)) := Res.cells_ok.1 h
  simp [World.cell?, h1, hj]
theorem JO.rdCells {L : List Oper} {b n : Nat} {cs : List Value} {T' : TypeId} (hm : Res.cells b cs T' ∈ Γ) (hn : cs.length = n) (hx : n ≤ maxLen) (k : JO P N C ops L Q E (Res.rd (.slice (some ⟨b, 0, none⟩) n n) n 1 cs :: Γ) H) : JO P N C ops L Q E Γ H :=
 fun hq a w he hs => k hq a w he (hs.rdCells hm hn hx)
theorem St.bundle {G : RL} {w : World} (hs : St C Γ H w) (hg : ∀ r ∈ G, r ∈ Γ) : St C (Res.all G :: Γ) H w := by
 refine ⟨⟨fun r hr => ?_, fun r hr k hk => ?_, hs.sat.hok, hs.sat.hlt, hs.sat.hdj, fun r hr s hsH k hk => ?_⟩, hs.stp, hs.hsub, fun k hk => ?_⟩
 ·rcases List.mem_cons.1 hr with rfl | hr
  ·exact fun s hs' => hs.sat.gok s (hg s hs')
  ·exact hs.sat.gok r hr
 ·rcases List.mem_cons.1 hr with rfl | hr
  ·obtain ⟨s, hs', hk⟩ := hk
   exact hs.sat.glt s (hg s hs') k hk
  ·exact hs.sat.glt r hr k hk
 ·rcases List.mem_cons.1 hr with rfl | hr
  ·obtain ⟨t, ht, hk⟩ := hk
   exact hs.sat.ghd t (hg t ht) s hsH k hk
  ·exact hs.sat.ghd r hr s hsH k hk
 ·obtain ⟨r, hr, hk⟩ := hk
  rcases List.mem_cons.1 hr with rfl | hr
  ·obtain ⟨s, hs', hk⟩ := hk
   exact hs.gsub k ⟨s, hg s hs', hk⟩
  ·exact hs.gsub k ⟨r, hr, hk⟩
theorem JO.bundle {L : List Oper} (G : RL) (hg : ∀ r ∈ G, r ∈ Γ) (k : JO P N C ops L Q E (Res.all G :: Γ) H) : JO P N C ops L Q E Γ H := fun hq a w he hs => k hq a w he (hs.bundle hg)
theorem Kn.var {b j : Nat} {cs : List Value} {u : Value} (hm : Res.var b cs ∈ Γ) (hj : cs[j]? = some u) : Kn Γ H ⟨b, j, none⟩ u := fun w hs => by
 obtain ⟨T, r, h⟩ := hs.gok _ hm
 simp [World.cell?, h, hj]
end
theorem FP_nil {k : Nat} : ¬ FP [] k := fun ⟨r, hr, _⟩ => by cases hr
theorem St.below {Γ Γ0 H : RL} {w w' : World} (h : St ⟨w, Γ0, []⟩ Γ H w') : Below w.heap.size w w' := (h.stp.mono (fun _ _ hk => absurd hk FP_nil)).below
theorem u64_of {a : Int} (h : (Lit.int .u64 a).wf = true) : ∃ x : BitVec 64, Value.int .u64 a = u64 x := by
 simp only [Lit.wf, Bool.and_eq_true, decide_eq_true_eq, show IntKind.u64.min = 0 from rfl, show IntKind.u64.max = 18446744073709551615 from rfl] at h
 refine ⟨BitVec.ofNat 64 a.toNat, ?_⟩
 unfold u64
 rw [BitVec.toNat_ofNat, Nat.mod_eq_of_lt (by omega)]
 congr 1
 omega
theorem u8_of {a : Int} (h : (Lit.int .u8 a).wf = true) : ∃ x : BitVec 8, Value.int .u8 a = u8 x := by
 simp only [Lit.wf, Bool.and_eq_true, decide_eq_true_eq, show IntKind.u8.min = 0 from rfl, show IntKind.u8.max = 255 from rfl] at h
 refine ⟨BitVec.ofNat 8 a.toNat, ?_⟩
 unfold u8
 rw [BitVec.toNat_ofNat, Nat.mod_eq_of_lt (by omega)]
 congr 1
 omega
theorem it_of {a : Int} (h : (Lit.int .i64 a).wf = true) : Fits a := by
 simp only [Lit.wf, Bool.and_eq_true, decide_eq_true_eq, show IntKind.i64.min = -9223372036854775808 from rfl, show IntKind.i64.max = 9223372036854775807 from rfl] at h
 exact h

section
variable {H : Type} {enc : TypeId × Value → H} {P : Program} {w : World}
def Came (enc : TypeId × Value → H) (P : Program) (w : World) (t : TypeId) (cs : List Value) : Prop := ∃ base spare held fuel x, DataW.trod enc P w base spare held fuel t cs = some x
theorem Came.int {t : TypeId} {k : IntKind} {cs : List Value} (ht : P.underlying t = some (.int k)) (h : Came enc P w t cs) : ∃ n, cs = [.int k n] ∧ (Lit.int k n).wf = true := by
 obtain ⟨_, _, _, _, _, h⟩ := h
 obtain ⟨n, h1, _, h2⟩ := DataW.trod_int ht h
 exact ⟨n, h1, h2⟩
theorem Came.u64 {t : TypeId} {cs : List Value} (ht : P.underlying t = some (.int .u64)) (h : Came enc P w t cs) : ∃ x : BitVec 64, cs = [Go.Proofs.YtmhiapebljfebaaGreatDoor.u64 x] := by
 obtain ⟨n, rfl, hn⟩ := h.int ht
 obtain ⟨x, hx⟩ := u64_of hn
 exact ⟨x, by rw [hx]⟩
theorem Came.u8 {t : TypeId} {cs : List Value} (ht : P.underlying t = some (.int .u8)) (h : Came enc P w t cs) : ∃ x : BitVec 8, cs = [Go.Proofs.YtmhiapebljfebaaGreatDoor.u8 x] := by
 obtain ⟨n, rfl, hn⟩ := h.int ht
 obtain ⟨x, hx⟩ := u8_of hn
 exact ⟨x, by rw [hx]⟩
theorem Came.it {t : TypeId} {cs : List Value} (ht : P.underlying t = some (.int .i64)) (h : Came enc P w t cs) : ∃ n, cs = [Go.Proofs.YtmhiapebljfebaaGreatDoor.it n] ∧ Fits n := by
 obtain ⟨n, rfl, hn⟩ := h.int ht
 exact ⟨n, rfl, it_of hn⟩
theorem Came.bool {t : TypeId} {cs : List Value} (ht : P.underlying t = some .bool) (h : Came enc P w t cs) : ∃ b, cs = [.bool b] := by
 obtain ⟨_, _, _, _, _, h⟩ := h
 obtain ⟨b, h1, _⟩ := DataW.trod_bool ht h
 exact ⟨b, h1⟩
theorem Came.string {t : TypeId} {cs : List Value} (ht : P.underlying t = some .string) (h : Came enc P w t cs) : ∃ s, cs = [.string s] ∧ s.size ≤ maxLen := by
 obtain ⟨_, _, _, _, _, h⟩ := h
 obtain ⟨b, h1, _, h2⟩ := DataW.trod_string ht h
 exact ⟨b, h1, h2⟩
theorem Came.struct {t : TypeId} {fs : Array Field} {cs : List Value} (ht : P.underlying t = some (.struct fs)) (h : Came enc P w t cs) :
  cs.length = P.cellsOf t ∧ ∀ (i : Nat) (f : Field), fs[i]? = some f → Came enc P w f.type ((cs.drop f.offset).take (P.cellsOf f.type)) := by
 obtain ⟨base, spare, held, fuel, x, h⟩ := h
 obtain ⟨xs, n, _, _, h1, h2, h3⟩ := DataW.trod_struct ht h
 refine ⟨h1, fun i f hf => ?_⟩
 have hi : i < xs.length := by rw [h2]; exact (Array.getElem?_eq_some_iff.1 hf).1
 exact ⟨base, spare, held, n, xs[i], by rw [h3 i f hf, List.getElem?_eq_getElem hi]⟩
theorem Came.array {t e : TypeId} {m : Nat} {cs : List Value} (ht : P.underlying t = some (.array m e)) (h : Came enc P w t cs) :
  cs.length = P.cellsOf t ∧ ∀ i : Nat, i < m → Came enc P w e ((cs.drop (i * P.cellsOf e)).take (P.cellsOf e)) := by
 obtain ⟨base, spare, held, fuel, x, h⟩ := h
 cases fuel with
 | zero => simp [DataW.trod] at h
 | succ n =>
  unfold DataW.trod at h
  rw [ht] at h
  dsimp only at h
  split at h
  ·rename_i hl
   refine ⟨hl, fun i hi => ?_⟩
   obtain ⟨xs, hxs, _⟩ := Option.map_eq_some_iff.1 h
   have h1 := mapM_some_get hxs i i (by simp [hi])
   have h2 : xs.length = m := by simpa using mapM_some_length hxs
   exact ⟨base, spare, held, n, xs[i], by rw [h1, List.getElem?_eq_getElem (by omega)]⟩
  ·cases h
theorem range_flat_len {f : Nat → List Value} {s : Nat} : ∀ n, (∀ i, i < n → (f i).length = s) → ((List.range n).flatMap f).length = n * s
 | 0, _ => by simp
 | n + 1, h => by
  rw [List.range_succ, List.flatMap_append, List.length_append, range_flat_len n fun i hi => h i (by omega), Nat.succ_mul]
  simp [h n (by omega)]
theorem range_flat_piece {f : Nat → List Value} {s : Nat} : ∀ n, (∀ i, i < n → (f i).length = s) → ∀ i, i < n → ((((List.range n).flatMap f).drop (i * s)).take s) = f i
 | 0, _, i, hi => absurd hi (by omega)
 | n + 1, h, i, hi => by
  have hl := range_flat_len (f := f) (s := s) n fun i hi => h i (by omega)
  rw [List.range_succ, List.flatMap_append]
  by_cases hin : i = n
  ·subst hin
   rw [List.drop_append_of_le_length (by omega), List.drop_of_length_le (by omega)]
   simp only [List.flatMap_cons, List.flatMap_nil, List.append_nil, List.nil_append]
   exact List.take_of_length_le (by rw [h i (by omega)]; exact Nat.le_refl _)
  ·have h2 : (i + 1) * s ≤ n * s := Nat.mul_le_mul_right _ (by omega)
   rw [Nat.succ_mul] at h2
   rw [List.drop_append_of_le_length (by omega), List.take_append_of_le_length (by rw [List.length_drop]; omega)]
   exact range_flat_piece n (fun i hi => h i (by omega)) i (by omega)
theorem Came.slice {t e size : TypeId} {v : Value} (ht : P.underlying t = some (.slice e)) (hs : P.cellsOf e = size) (h0 : 0 < size) (h : Came enc P w t [v]) :
  ∃ n xs, IsRd w v n size xs ∧ ∀ i, i < n → Came enc P w e ((xs.drop (i * size)).take size) := by
 subst hs
 obtain ⟨base, spare, held, fuel, x, h⟩ := h
 rcases Deep.open_slice ht h with ⟨h1, _⟩ | ⟨a, len, cap, m, n, D, Pl, h1, _, hl, hm, hmm, _, hx⟩
 ·obtain rfl : v = .slice none 0 0 := by simpa using h1
  exact ⟨0, [], ⟨none, 0, rfl, by simp, Nat.zero_le _, Nat.le_refl _, by simp⟩, fun i hi => absurd hi (by omega)⟩
 ·obtain rfl : v = .slice (some a) len cap := by simpa using h1
  have hle : len ≤ m := by rw [hmm]; split <;> omega
  obtain ⟨f, hf⟩ := Deep.choose_lt (α := List Value) (n := len) (p := fun i cs' => w.cells? base (a.add (i * P.cellsOf e)) (P.cellsOf e) = some cs' ∧ DataW.trod enc P w base spare held n e cs' = some (D i, Pl i)) fun i hi => hx i (by omega)
  have hfl : ∀ i, i < len → (f i).length = P.cellsOf e := fun i hi => (World.cells?_some (hf i hi).1).2.1
  refine ⟨len, (List.range len).flatMap f, ⟨some a, cap, rfl, range_flat_len len hfl, by omega, hl, fun j u hj => ?_⟩, fun i hi => ?_⟩
  ·have hlt := (List.getElem?_eq_some_iff.1 hj).1
   rw [range_flat_len len hfl] at hlt
   have hi : j / P.cellsOf e < len := (Nat.div_lt_iff_lt_mul h0).2 hlt
   have hr : j % P.cellsOf e < P.cellsOf e := Nat.mod_lt _ h0
   have hp := range_flat_piece len hfl _ hi
   have he : (f (j / P.cellsOf e))[j % P.cellsOf e]? = some u := by
    rw [← hp, List.getElem?_take_of_lt hr, List.getElem?_drop, Nat.mul_comm, Nat.div_add_mod]
    exact hj
   have hc := (World.cells?_some (hf _ hi).1).2.2 _ hr
   rw [he, Deep.add_add, Nat.mul_comm, Nat.div_add_mod] at hc
   obtain ⟨b, o, sp⟩ := a
   have hpos : 0 < len := Nat.lt_of_le_of_lt (Nat.zero_le _) hi
   have hsp : sp = none := by
    have h1 := (World.cells?_some (hf 0 hpos).1).2.2 0 h0
    have h2 := hfl 0 hpos
    rw [List.getElem?_eq_getElem (by omega), Deep.add_add, Nat.zero_mul] at h1
    exact World.cell?_spot (a := ⟨b, o, sp⟩) h1
   subst hsp
   refine ⟨b, o, rfl, ?_⟩
   rw [← add_none]
   exact hc
  ·rw [range_flat_piece len hfl i hi]
   exact ⟨base, spare, held, n, _, (hf i hi).2⟩
theorem pieces {α : Type} {f : α → List Value} {p : α → Prop} {s : Nat} (h0 : 0 < s) : ∀ (n : Nat) (xs : List Value), xs.length = n * s → (∀ i, i < n → ∃ d, (xs.drop (i * s)).take s = f d ∧ p d) →
  ∃ l : List α, l.length = n ∧ xs = l.flatMap f ∧ ∀ d ∈ l, p d
 | 0, xs, hl, _ => ⟨[], rfl, by simpa using hl, by simp⟩
 | n + 1, xs, hl, h => by
  rw [Nat.succ_mul] at hl
  obtain ⟨d, hd, hp⟩ := h 0 (by omega)
  rw [Nat.zero_mul, List.drop_zero] at hd
  obtain ⟨l, h1, h2, h3⟩ := pieces h0 n (xs.drop s) (by rw [List.length_drop]; omega) (fun i hi => by
   obtain ⟨d, hd, hp⟩ := h (i + 1) (by omega)
   refine ⟨d, ?_, hp⟩
   rw [List.drop_drop, show s + i * s = (i + 1) * s by rw [Nat.succ_mul, Nat.add_comm]]
   exact hd)
  refine ⟨d :: l, by rw [List.length_cons, h1], ?_, fun x hx => ?_⟩
  ·rw [List.flatMap_cons, ← h2, ← hd, List.take_append_drop]
  ·rcases List.mem_cons.1 hx with rfl | hx
   ·exact hp
   ·exact h3 x hx
theorem map_flat {α : Type} (f : α → Value) (l : List α) : l.flatMap (fun x => [f x]) = l.map f := by
 induction l with
 | nil => rfl
 | cons x l ih => simp [ih]
theorem Came.bytes {t e : TypeId} {v : Value} (ht : P.underlying t = some (.slice e)) (hs : P.cellsOf e = 1) (he : P.underlying e = some (.int .u8)) (h : Came enc P w t [v]) : ∃ b : List (BitVec 8), IsRd w v b.length 1 (b.map Go.Proofs.YtmhiapebljfebaaGreatDoor.u8) := by
 obtain ⟨n, xs, h1, h2⟩ := h.slice ht hs (by decide)
 obtain ⟨l, rfl, rfl, _⟩ := pieces (f := fun x => [Go.Proofs.YtmhiapebljfebaaGreatDoor.u8 x]) (p := fun _ => True) (s := 1) (by decide) n xs (by obtain ⟨_, _, _, hl, _⟩ := h1; exact hl) (fun i hi => by
  obtain ⟨x, hx⟩ := (h2 i hi).u8 he
  exact ⟨x, hx, trivial⟩)
 rw [map_flat] at h1
 exact ⟨l, h1⟩
def Rds (w : World) (G : RL) : Prop := ∀ r ∈ G, r.ok w ∧ ∀ k, r.fp k → k < w.heap.size
theorem Rds.one {v : Value} {n s : Nat} {xs : List Value} (h1 : IsRd w v n s xs) : Rds w [Res.rd v n s xs] := fun r hr => by
 obtain rfl := List.mem_singleton.1 hr
 refine ⟨Res.rd_ok.2 h1, fun k hk => ?_⟩
 obtain ⟨hne, hkb⟩ := Res.rd_fp.1 hk
 cases xs with
 | nil => exact absurd rfl hne
 | cons x xs =>
  obtain ⟨A, c, rfl, _, _, _, hx⟩ := h1
  obtain ⟨b, o, rfl, hc⟩ := hx 0 x rfl
  obtain rfl : b = k := by simpa [Value.ownBlock] using hkb
  exact World.block_lt_of_cell? w _ hc
theorem Rds.nil : Rds w [] := fun _ hr => by cases hr
theorem Rds.append {G K : RL} (h : Rds w G) (k : Rds w K) : Rds w (G ++ K) := fun r hr => (List.mem_append.1 hr).elim (h r) (k r)
theorem Rds.all {G : RL} (h : Rds w G) : Rds w [Res.all G] := fun r hr => by
 obtain rfl := List.mem_singleton.1 hr
 exact ⟨fun r hr => (h r hr).1, fun k ⟨r, hr, hk⟩ => (h r hr).2 k hk⟩
theorem Sat.came {G : RL} (h : Rds w G) : Sat G [] w := ⟨fun r hr => (h r hr).1, fun r hr => (h r hr).2, by simp, by simp, .nil, by simp⟩
end

abbrev B8 := List (BitVec 8)
abbrev W32 := BitVec 32
def rr (x : W32) (n : Nat) : W32 := x >>> n ||| x <<< (32 - n)
def sqr : List W32 := [0x6a09e667, 0xbb67ae85, 0x3c6ef372, 0xa54ff53a, 0x510e527f, 0x9b05688c, 0x1f83d9ab, 0x5be0cd19]
def cub : List W32 := [0x428a2f98, 0x71374491, 0xb5c0fbcf, 0xe9b5dba5, 0x3956c25b, 0x59f111f1, 0x923f82a4, 0xab1c5ed5, 0xd807aa98, 0x12835b01, 0x243185be, 0x550c7dc3, 0x72be5d74, 0x80deb1fe, 0x9bdc06a7, 0xc19bf174, 0xe49b69c1, 0xefbe4786, 0x0fc19dc6, 0x240ca1cc, 0x2de92c6f, 0x4a7484aa, 0x5cb0a9dc, 0x76f988da, 0x983e5152, 0xa831c66d, 0xb00327c8, 0xbf597fc7, 0xc6e00bf3, 0xd5a79147, 0x06ca6351, 0x14292967, 0x27b70a85, 0x2e1b2138, 0x4d2c6dfc, 0x53380d13, 0x650a7354, 0x766a0abb, 0x81c2c92e, 0x92722c85, 0xa2bfe8a1, 0xa81a664b, 0xc24b8b70, 0xc76c51a3, 0xd192e819, 0xd6990624, 0xf40e3585, 0x106aa070, 0x19a4c116, 0x1e376c08, 0x2748774c, 0x34b0bcb5, 0x391c0cb3, 0x4ed8aa4a, 0x5b9cca4f, 0x682e6ff3, 0x748f82ee, 0x78a5636f, 0x84c87814, 0x8cc70208, 0x90befffa, 0xa4506ceb, 0xbef9a3f7, 0xc67178f2]
def wdB (b : B8) (i : Nat) : W32 := (b.getD (4 * i) 0).setWidth 32 <<< 24 ||| (b.getD (4 * i + 1) 0).setWidth 32 <<< 16 ||| (b.getD (4 * i + 2) 0).setWidth 32 <<< 8 ||| (b.getD (4 * i + 3) 0).setWidth 32
def sg0 (x : W32) : W32 := rr x 7 ^^^ rr x 18 ^^^ x >>> 3
def sg1 (x : W32) : W32 := rr x 17 ^^^ rr x 19 ^^^ x >>> 10
def bg1 (x : W32) : W32 := rr x 6 ^^^ rr x 11 ^^^ rr x 25
def bg0 (x : W32) : W32 := rr x 2 ^^^ rr x 13 ^^^ rr x 22
def nxt (b : B8) (l : List W32) (k : Nat) : W32 :=
 if k < 16 then wdB b k else l.getD (k - 16) 0 + l.getD (k - 7) 0 + sg0 (l.getD (k - 15) 0) + sg1 (l.getD (k - 2) 0)
def sch (b : B8) : Nat → List W32
 | 0 => []
 | k + 1 => sch b k ++ [nxt b (sch b k) k]
theorem sch_len (b : B8) : ∀ k, (sch b k).length = k
 | 0 => rfl
 | k + 1 => by rw [sch, List.length_append, sch_len b k]; rfl
theorem sch_get (b : B8) {j : Nat} : ∀ {k}, j < k → (sch b k).getD j 0 = nxt b (sch b j) j
 | 0, h => absurd h (by omega)
 | k + 1, h => by
  rw [sch, List.getD_eq_getElem?_getD]
  by_cases hj : j = k
  ·subst hj
   rw [List.getElem?_append_right (by rw [sch_len]; exact Nat.le_refl _), sch_len, Nat.sub_self]
   rfl
  ·rw [List.getElem?_append_left (by rw [sch_len]; omega), ← List.getD_eq_getElem?_getD]
   exact sch_get b (by omega)
def W (b : B8) (j : Nat) : W32 := nxt b (sch b j) j
theorem sch_W (b : B8) {j k : Nat} (h : j < k) : (sch b k).getD j 0 = W b j := sch_get b h
theorem W_lo (b : B8) {j : Nat} (h : j < 16) : W b j = wdB b j := if_pos h
theorem W_hi (b : B8) {j : Nat} (h : 16 ≤ j) : W b j = W b (j - 16) + W b (j - 7) + sg0 (W b (j - 15)) + sg1 (W b (j - 2)) := by
 have h1 : W b j = (sch b j).getD (j - 16) 0 + (sch b j).getD (j - 7) 0 + sg0 ((sch b j).getD (j - 15) 0) + sg1 ((sch b j).getD (j - 2) 0) := if_neg (by omega)
 rw [h1, sch_W b (by omega), sch_W b (by omega), sch_W b (by omega), sch_W b (by omega)]
def rnd (k w : W32) (s : List W32) : List W32 :=
 let a := s.getD 0 0; let b := s.getD 1 0; let c := s.getD 2 0; let d := s.getD 3 0; let e := s.getD 4 0; let f := s.getD 5 0; let g := s.getD 6 0; let h := s.getD 7 0
 let x := h + bg1 e + (g ^^^ (e &&& (f ^^^ g))) + k + w
 let y := bg0 a + ((a &&& b) ||| (c &&& (a ||| b)))
 [x + y, a, b, c, d + x, e, f, g]
def rnds (ws : List W32) (s : List W32) : Nat → List W32
 | 0 => s
 | k + 1 => rnd (cub.getD k 0) (ws.getD k 0) (rnds ws s k)
@[simp] theorem rnd_len (k w : W32) (s : List W32) : (rnd k w s).length = 8 := rfl
theorem rnds_len (ws s : List W32) (hs : s.length = 8) : ∀ k, (rnds ws s k).length = 8
 | 0 => hs
 | _ + 1 => rfl
def add8 (a b : List W32) : List W32 := (List.range 8).map fun i => a.getD i 0 + b.getD i 0
def comp (s : List W32) (b : B8) : List W32 := add8 s (rnds (sch b 64) s 64)
@[simp] theorem comp_len (s : List W32) (b : B8) : (comp s b).length = 8 := by simp [comp, add8]
def hashN (xs : B8) : Nat → List W32
 | 0 => sqr
 | m + 1 => comp (hashN xs m) ((xs.drop (64 * m)).take 64)
@[simp] theorem hashN_len (xs : B8) : ∀ m, (hashN xs m).length = 8
 | 0 => rfl
 | _ + 1 => comp_len _ _
def zeros (n : Nat) : Nat := (119 - n % 64) % 64
def size8 (n : Nat) : B8 := (List.range 8).map fun i => ((BitVec.ofNat 64 n * 8) >>> (56 - 8 * i)).setWidth 8
def padded (xs : B8) : B8 := xs ++ [128] ++ List.replicate (zeros xs.length) 0 ++ size8 xs.length
def outB (s : List W32) : B8 := (List.range 32).map fun i => (s.getD (i / 4) 0 >>> (24 - 8 * (i % 4))).setWidth 8
def sha (xs : B8) : B8 := outB (hashN (padded xs) ((padded xs).length / 64))

theorem rot_all : ∀ a : Nat, a < 32 → 0 < a → BitVec.ofInt 64 (-(a : Int)) &&& 31#64 = BitVec.ofNat 64 (32 - a) ∧ 32#64 - BitVec.ofNat 64 (32 - a) = BitVec.ofNat 64 a := by decide
theorem rot_and (a : Nat) (h0 : 0 < a) (ha : a < 32) : BitVec.ofInt 64 (-(a : Int)) &&& 31#64 = BitVec.ofNat 64 (32 - a) := (rot_all a ha h0).1
theorem rot_sub (a : Nat) (h0 : 0 < a) (ha : a < 32) : 32#64 - BitVec.ofNat 64 (32 - a) = BitVec.ofNat 64 a := (rot_all a ha h0).2

@[simp] theorem sqr_len : sqr.length = 8 := rfl
@[simp] theorem cub_len : cub.length = 64 := rfl
def mix (s : List W32) : List W32 := (List.range 8).map fun j => s.getD j 0 ^^^ sqr.getD j 0
def hcells (s : List W32) (bs : B8) (n : BitVec 64) : List Value := (mix s).map u32 ++ bs.map u8 ++ [u64 n]
theorem mix_len (s : List W32) : (mix s).length = 8 := by simp [mix]
theorem hcells_len {s : List W32} {bs : B8} {n : BitVec 64} (hb : bs.length = 64) : (hcells s bs n).length = 73 := by simp [hcells, mix_len, hb]
theorem hcells_one (s : List W32) (bs : B8) (n : BitVec 64) : ∀ a ∈ hcells s bs n, a.oneCell' = true := by
 intro a ha
 simp only [hcells, List.mem_append, List.mem_map, List.mem_singleton] at ha
 rcases ha with (⟨x, _, rfl⟩ | ⟨x, _, rfl⟩) | rfl <;> rfl
def nowT (s : List W32) (k : Nat) : List Value := tab 8 fun j => if j < k then u32 (s.getD j 0) else u32 (s.getD j 0 ^^^ sqr.getD j 0)
theorem nowT_0 (s : List W32) : (mix s).map u32 = nowT s 0 := by simp [mix, nowT, tab, Function.comp_def]
@[simp] theorem nowT_len (s : List W32) (k : Nat) : (nowT s k).length = 8 := tab_len
theorem nowT_get (s : List W32) {k : Nat} (h : k < 8) : (nowT s k)[k]? = some (u32 (s.getD k 0 ^^^ sqr.getD k 0)) := by
 unfold nowT
 rw [tab_get h, if_neg (Nat.lt_irrefl _)]
theorem nowT_set (s : List W32) (k : Nat) : (nowT s k).set k (u32 (s.getD k 0)) = nowT s (k + 1) := by
 unfold nowT
 rw [tab_set]
 refine tab_congr fun j hj => ?_
 by_cases h1 : j = k
 ·subst h1; rw [if_pos rfl, if_pos (by omega)]
 ·rw [if_neg h1]
  by_cases h2 : j < k
  ·rw [if_pos h2, if_pos (by omega)]
  ·rw [if_neg h2, if_neg (by omega)]
theorem nowT_8 {s : List W32} (h : s.length = 8) : nowT s 8 = s.map u32 := by
 unfold nowT tab
 apply List.ext_getElem (by simp [h])
 intro i h1 h2
 have : i < 8 := by simpa using h1
 simp [this, h]
theorem xor_back (a b : W32) : a ^^^ b ^^^ b = a := by rw [BitVec.xor_assoc, BitVec.xor_self, BitVec.xor_zero]
theorem hc_words (s : List W32) (bs : B8) (n : BitVec 64) : ((hcells s bs n).drop 0).take 8 = nowT s 0 := by
 rw [List.drop_zero, hcells, List.append_assoc, List.take_append_of_le_length (by simp [mix_len]), List.take_of_length_le (by simp [mix_len]), nowT_0]
theorem hc_n {s : List W32} {bs : B8} {n : BitVec 64} (hb : bs.length = 64) : (hcells s bs n)[72]? = some (u64 n) := by
 rw [hcells, List.getElem?_append_right (by simp [mix_len, hb])]
 simp [mix_len, hb]
theorem hc_b {s : List W32} {bs : B8} {n : BitVec 64} (hb : bs.length = 64) {j : Nat} (hj : j < 64) : (hcells s bs n)[8 + j]? = some (u8 (bs.getD j 0)) := by
 rw [hcells, List.getElem?_append_left (by simp [mix_len, hb]; omega), List.getElem?_append_right (by simp [mix_len])]
 simp only [List.length_map, mix_len, Nat.add_sub_cancel_left]
 exact gm (by omega)

def schT (b : B8) (k : Nat) : List Value := tab 64 fun j => if j < k then u32 (W b j) else u32 0
@[simp] theorem schT_len (b : B8) (k : Nat) : (schT b k).length = 64 := tab_len
theorem schT_get (b : B8) {j k : Nat} (h : j < k) (hk : k ≤ 64) : (schT b k)[j]? = some (u32 (W b j)) := by
 unfold schT
 rw [tab_get (by omega), if_pos h]
theorem schT_set (b : B8) (k : Nat) : (schT b k).set k (u32 (W b k)) = schT b (k + 1) := by
 unfold schT
 rw [tab_set]
 refine tab_congr fun j hj => ?_
 by_cases h1 : j = k
 ·subst h1; rw [if_pos rfl, if_pos (by omega)]
 ·rw [if_neg h1]
  by_cases h2 : j < k
  ·rw [if_pos h2, if_pos (by omega)]
  ·rw [if_neg h2, if_neg (by omega)]
theorem list8 {l : List W32} (h : l.length = 8) : [u32 (l.getD 0 0), u32 (l.getD 1 0), u32 (l.getD 2 0), u32 (l.getD 3 0), u32 (l.getD 4 0), u32 (l.getD 5 0), u32 (l.getD 6 0), u32 (l.getD 7 0)] = l.map u32 := by
 match l, h with
 | [_, _, _, _, _, _, _, _], _ => rfl
theorem comp_get (s : List W32) (b : B8) {i : Nat} (h : i < 8) : (comp s b).getD i 0 = s.getD i 0 + (rnds (sch b 64) s 64).getD i 0 := by
 unfold comp add8
 rw [List.getD_eq_getElem?_getD, List.getElem?_map, List.getElem?_range h]
 rfl
def mixT (s t : List W32) (k : Nat) : List W32 := (List.range 8).map fun j => if j < k then t.getD j 0 ^^^ sqr.getD j 0 else s.getD j 0 ^^^ sqr.getD j 0
theorem mixT_0 (s t : List W32) : mixT s t 0 = mix s := by simp [mixT, mix]
theorem mixT_8 (s t : List W32) : mixT s t 8 = mix t := by
 unfold mixT mix
 apply List.map_congr_left
 intro j hj
 rw [if_pos (List.mem_range.1 hj)]
theorem mixT_set (s t : List W32) (k : Nat) (R : List Value) (hk : k < 8) : ((mixT s t k).map u32 ++ R).set k (u32 (t.getD k 0 ^^^ sqr.getD k 0)) = (mixT s t (k + 1)).map u32 ++ R := by
 have hl : (mixT s t k).length = 8 := by simp [mixT]
 rw [List.set_append_left _ _ (by rw [List.length_map, hl]; exact hk)]
 congr 1
 apply List.ext_getElem (by simp [mixT])
 intro i h1 h2
 rw [List.getElem_set]
 simp only [mixT, List.getElem_map, List.getElem_range]
 by_cases h : k = i
 ·subst h; rw [if_pos rfl, if_pos (by omega)]
 ·rw [if_neg h]
  by_cases h3 : i < k
  ·rw [if_pos h3, if_pos (by omega)]
  ·rw [if_neg h3, if_neg (by omega)]
section
variable (ws s : List W32) (k : Nat)
def rx (ws v : List W32) (k : Nat) : W32 := v.getD 7 0 + (rr (v.getD 4 0) 6 ^^^ rr (v.getD 4 0) 11 ^^^ rr (v.getD 4 0) 25) + (v.getD 6 0 ^^^ (v.getD 4 0 &&& (v.getD 5 0 ^^^ v.getD 6 0))) + cub.getD k 0 + ws.getD k 0
def ry (v : List W32) : W32 := (rr (v.getD 0 0) 2 ^^^ rr (v.getD 0 0) 13 ^^^ rr (v.getD 0 0) 22) + ((v.getD 0 0 &&& v.getD 1 0) ||| (v.getD 2 0 &&& (v.getD 0 0 ||| v.getD 1 0)))
theorem rs0 : (rnds ws s (k + 1)).getD 0 0 = rx ws (rnds ws s k) k + ry (rnds ws s k) := rfl
theorem rs1 : (rnds ws s (k + 1)).getD 1 0 = (rnds ws s k).getD 0 0 := rfl
theorem rs2 : (rnds ws s (k + 1)).getD 2 0 = (rnds ws s k).getD 1 0 := rfl
theorem rs3 : (rnds ws s (k + 1)).getD 3 0 = (rnds ws s k).getD 2 0 := rfl
theorem rs5 : (rnds ws s (k + 1)).getD 5 0 = (rnds ws s k).getD 4 0 := rfl
theorem rs6 : (rnds ws s (k + 1)).getD 6 0 = (rnds ws s k).getD 5 0 := rfl
theorem rs7 : (rnds ws s (k + 1)).getD 7 0 = (rnds ws s k).getD 6 0 := rfl
theorem rs4 : (rnds ws s (k + 1)).getD 4 0 = (rnds ws s k).getD 3 0 + rx ws (rnds ws s k) k := rfl
end

theorem hashN_pre (xs ys : B8) : ∀ m, 64 * m ≤ xs.length → hashN (xs ++ ys) m = hashN xs m
 | 0, _ => rfl
 | m + 1, h => by
  rw [hashN, hashN, hashN_pre xs ys m (by omega), List.drop_append_of_le_length (by omega), List.take_append_of_le_length (by rw [List.length_drop]; omega)]
def HOK (xs bs : B8) : Prop := bs.length = 64 ∧ bs.take (xs.length % 64) = xs.drop (64 * (xs.length / 64))
def hst (xs bs : B8) : List Value := hcells (hashN xs (xs.length / 64)) bs (BitVec.ofNat 64 xs.length)
def putB (bs : B8) (a : Nat) (c : B8) : B8 := bs.take a ++ c ++ bs.drop (a + c.length)
theorem putB_len {bs : B8} {a : Nat} {c : B8} (hb : bs.length = 64) (h : a + c.length ≤ 64) : (putB bs a c).length = 64 := by
 simp only [putB, List.length_append, List.length_take, List.length_drop]
 omega
theorem mod64 (L : Nat) : (BitVec.ofNat 64 L % 64#64).toNat = L % 64 := by
 rw [BitVec.toNat_umod, BitVec.toNat_ofNat]
 show L % 2 ^ 64 % 64 = L % 64
 omega
theorem splice_mid {A B C vs : List Value} {k a : Nat} (hA : A.length = k) (h : a + vs.length ≤ B.length) : splice (A ++ B ++ C) (k + a) vs = A ++ (B.take a ++ vs ++ B.drop (a + vs.length)) ++ C := by
 subst hA
 unfold splice
 rw [List.append_assoc A B C, List.take_length_add_append, Nat.add_assoc, List.drop_length_add_append, List.take_append_of_le_length (by omega), List.drop_append_of_le_length h]
 simp only [List.append_assoc]
theorem hc_splice {s : List W32} {bs : B8} {n : BitVec 64} {a : Nat} {c : B8} (hb : bs.length = 64) (h : a + c.length ≤ 64) : splice (hcells s bs n) (8 + a) (c.map u8) = hcells s (putB bs a c) n := by
 unfold hcells putB
 rw [splice_mid (by simp [mix_len]) (by rw [List.length_map, List.length_map]; omega)]
 simp only [List.map_append, List.map_take, List.map_drop, List.length_map]
theorem hc_setn {s : List W32} {bs : B8} {n n' : BitVec 64} (hb : bs.length = 64) : (hcells s bs n).set 72 (u64 n') = hcells s bs n' := by
 unfold hcells
 rw [List.set_append_right _ _ (by simp [mix_len, hb])]
 simp [mix_len, hb]
section
variable {X bs c : B8} (h : HOK X bs) (hc : X.length % 64 + c.length ≤ 64)
include h
theorem putB_take : (putB bs (X.length % 64) c).take (X.length % 64 + c.length) = X.drop (64 * (X.length / 64)) ++ c := by
 have hl : (bs.take (X.length % 64)).length = X.length % 64 := by rw [List.length_take, h.1]; omega
 unfold putB
 rw [List.take_append_of_le_length (by rw [List.length_append, hl]; exact Nat.le_refl _), List.take_of_length_le (by rw [List.length_append, hl]; exact Nat.le_refl _), h.2]
include hc
theorem write_lo (hlt : X.length % 64 + c.length < 64) : HOK (X ++ c) (putB bs (X.length % 64) c) ∧ hcells (hashN X (X.length / 64)) (putB bs (X.length % 64) c) (BitVec.ofNat 64 (X.length + c.length)) = hst (X ++ c) (putB bs (X.length % 64) c) := by
 have hd : (X ++ c).length / 64 = X.length / 64 := by rw [List.length_append]; omega
 have hm : (X ++ c).length % 64 = X.length % 64 + c.length := by rw [List.length_append]; omega
 refine ⟨⟨putB_len h.1 hc, ?_⟩, ?_⟩
 ·rw [hd, hm, putB_take h, List.drop_append_of_le_length (by omega)]
 ·rw [hst, hd, hashN_pre X c _ (by omega), List.length_append]
theorem write_hi (he : X.length % 64 + c.length = 64) : HOK (X ++ c) (putB bs (X.length % 64) c) ∧ hcells (comp (hashN X (X.length / 64)) (putB bs (X.length % 64) c)) (putB bs (X.length % 64) c) (BitVec.ofNat 64 (X.length + c.length)) = hst (X ++ c) (putB bs (X.length % 64) c) := by
 have hd : (X ++ c).length / 64 = X.length / 64 + 1 := by rw [List.length_append]; omega
 have hm : (X ++ c).length % 64 = 0 := by rw [List.length_append]; omega
 have hpl := putB_len h.1 hc
 refine ⟨⟨hpl, ?_⟩, ?_⟩
 ·rw [hd, hm, List.take_zero, List.drop_of_length_le (by rw [List.length_append]; omega)]
 ·have hb : putB bs (X.length % 64) c = ((X ++ c).drop (64 * (X.length / 64))).take 64 := by
   have h1 := putB_take (c := c) h
   rw [he, List.take_of_length_le (by omega)] at h1
   rw [h1, List.drop_append_of_le_length (by omega), List.take_of_length_le (by rw [List.length_append, List.length_drop]; omega)]
  rw [hst, hd, hashN, hashN_pre X c _ (by omega), ← hb, List.length_append]
end
theorem rd_drop {v : Value} {b : B8} {n : Nat} : Res.rd v (b.length - n) 1 (((b.map u8).drop (n * 1)).take ((b.length - n) * 1)) = Res.rd v (b.drop n).length 1 ((b.drop n).map u8) := by
 rw [Nat.mul_one, Nat.mul_one, List.map_drop, List.length_drop, List.take_of_length_le (by simp)]
theorem take_rest (r : B8) (n : Nat) : r.take n ++ r.drop (r.take n).length = r := by
 rw [List.length_take]
 by_cases h : n ≤ r.length
 ·rw [Nat.min_eq_left h, List.take_append_drop]
 ·rw [Nat.min_eq_right (by omega), List.take_of_length_le (by omega), List.drop_length, List.append_nil]

def adT (s v : List W32) (k : Nat) : List W32 := (List.range 8).map fun j => if j < k then s.getD j 0 + v.getD j 0 else v.getD j 0
@[simp] theorem adT_len (s v : List W32) (k : Nat) : (adT s v k).length = 8 := by simp [adT]
def padZ (b : B8) (z : Nat) : B8 := b ++ [128] ++ List.replicate z 0
@[simp] theorem padZ_len (b : B8) (z : Nat) : (padZ b z).length = b.length + 1 + z := by simp only [padZ, List.length_append, List.length_replicate, List.length_cons, List.length_nil]
theorem padZ_succ (b : B8) (z : Nat) : padZ b z ++ [0#8] = padZ b (z + 1) := by
 simp only [padZ, List.append_assoc, List.replicate_succ']
 rfl
@[simp] theorem size8_len (n : Nat) : (size8 n).length = 8 := by simp [size8]
theorem padded_eq (b : B8) : padded b = padZ b (zeros b.length) ++ size8 b.length := rfl
theorem padded_len (b : B8) : (padded b).length = b.length + 1 + zeros b.length + 8 := by rw [padded_eq, List.length_append, padZ_len, size8_len]
theorem zeros_lt (n : Nat) : zeros n < 64 := Nat.mod_lt _ (by decide)
theorem padded_mod (b : B8) : (padded b).length % 64 = 0 := by
 rw [padded_len]
 unfold zeros
 omega
theorem map_cat (xs ys : B8) : xs.map u8 ++ ys.map u8 = (xs ++ ys).map u8 := List.map_append.symm
theorem len_cat (xs ys : B8) : xs.length + ys.length = (xs ++ ys).length := List.length_append.symm
def ob (s : List W32) (j : Nat) : BitVec 8 := (s.getD (j / 4) 0 >>> (24 - 8 * (j % 4))).setWidth 8
theorem outB_eq (s : List W32) : (outB s).map u8 = tab 32 fun j => u8 (ob s j) := by simp [outB, tab, ob, Function.comp_def]
@[simp] theorem outB_len (s : List W32) : (outB s).length = 32 := by simp [outB]
def outT (s : List W32) (k : Nat) : List Value := tab 32 fun j => if j < k then u8 (ob s j) else u8 0
@[simp] theorem outT_len (s : List W32) (k : Nat) : (outT s k).length = 32 := tab_len
theorem outT_set (s : List W32) (k : Nat) : (outT s k).set k (u8 (ob s k)) = outT s (k + 1) := by
 unfold outT
 rw [tab_set]
 refine tab_congr fun j hj => ?_
 by_cases h1 : j = k
 ·subst h1; rw [if_pos rfl, if_pos (by omega)]
 ·rw [if_neg h1]
  by_cases h2 : j < k
  ·rw [if_pos h2, if_pos (by omega)]
  ·rw [if_neg h2, if_neg (by omega)]
theorem outT_32 (s : List W32) : outT s 32 = (outB s).map u8 := by
 rw [outB_eq]
 exact tab_congr fun j hj => if_pos hj

theorem padZ_0 (b : B8) : padZ b 0 = b ++ [128] := by simp [padZ]
theorem pad56 (L : Nat) : (BitVec.ofNat 64 L % 64#64 = 56#64) ↔ L % 64 = 56 := by
 constructor
 ·intro h
  have := congrArg BitVec.toNat h
  rw [mod64] at this
  exact this
 ·intro h
  exact BitVec.eq_of_toNat_eq (by rw [mod64, h]; rfl)
def sizeT (n k : Nat) : List Value := tab 8 fun j => if j < k then u8 (((BitVec.ofNat 64 n * 8#64) >>> (56 - 8 * j)).setWidth 8) else u8 0
@[simp] theorem sizeT_len (n k : Nat) : (sizeT n k).length = 8 := tab_len
theorem sizeT_set (n k : Nat) : (sizeT n k).set k (u8 (((BitVec.ofNat 64 n * 8#64) >>> (56 - 8 * k)).setWidth 8)) = sizeT n (k + 1) := by
 unfold sizeT
 rw [tab_set]
 refine tab_congr fun j hj => ?_
 by_cases h1 : j = k
 ·subst h1; rw [if_pos rfl, if_pos (by omega)]
 ·rw [if_neg h1]
  by_cases h2 : j < k
  ·rw [if_pos h2, if_pos (by omega)]
  ·rw [if_neg h2, if_neg (by omega)]
theorem sizeT_8 (n : Nat) : sizeT n 8 = (size8 n).map u8 := by
 have h : (size8 n).map u8 = tab 8 fun j => u8 (((BitVec.ofNat 64 n * 8#64) >>> (56 - 8 * j)).setWidth 8) := by simp [size8, tab, Function.comp_def]
 rw [h]
 exact tab_congr fun j hj => if_pos hj
theorem ob_at (s : List W32) {i k : Nat} (h : k < 4) : (s.getD i 0 >>> (24 - 8 * k)).setWidth 8 = ob s (4 * i + k) := by
 unfold ob
 rw [show (4 * i + k) / 4 = i by omega, show (4 * i + k) % 4 = k by omega]
@[simp] theorem sha_len (b : B8) : (sha b).length = 32 := outB_len _
theorem hok_nil : HOK [] (List.replicate 64 0) := ⟨List.length_replicate, rfl⟩
abbrev Pcs := List (Value × B8)
def pcAt (l : Pcs) (k : Nat) : Value × B8 := l.getD k (.slice none 0 0, [])
def pcRes (l : Pcs) : RL := l.map fun x => Res.rd x.1 x.2.length 1 (x.2.map u8)
theorem pc_mem {l : Pcs} {k : Nat} (h : k < l.length) : pcAt l k ∈ l := by
 unfold pcAt
 rw [List.getD_eq_getElem?_getD, List.getElem?_eq_getElem h]
 exact List.getElem_mem h
theorem pc_get {l : Pcs} {k : Nat} (h : k < l.length) : (l.map Prod.fst)[k]? = some (pcAt l k).1 := gm h
theorem pc_res {l : Pcs} {k : Nat} (h : k < l.length) : Res.rd (pcAt l k).1 (pcAt l k).2.length 1 ((pcAt l k).2.map u8) ∈ pcRes l := List.mem_map.2 ⟨_, pc_mem h, rfl⟩
section
variable {P : Program} {N : Nat} {C : Beg} {Q : Exit → Act → World → Prop} {E : Env} {Γ H : RL} {ty : TypeId} {ops : Array Oper} {rest : List Oper}
theorem Yv.makeFunc {fn : Fn} {xs ys : List Operand} {us vs : List Value} (hx : evs E xs = some us) (hy : evs E ys = some vs) : Yv P N C E Γ H (.makeFunc fn xs.toArray ys.toArray) ty (.func fn us.toArray vs.toArray) := by
 intro dst pos aft gd a w he _
 have h1 : xs.toArray.map a.eval = us.toArray := by rw [← he.evs hx]; simp
 have h2 : ys.toArray.map a.eval = vs.toArray := by rw [← he.evs hy]; simp
 simp only [execOp, Instr.makeFunc, h1, h2, Sem.run_bind, Sem.run_pure, Result.andThen_ok]
theorem Mv.callF {f : FuncId} {x : Operand} {fst cap args : Array Value} {xs : List Operand} {vs : List Value} {AT : Array TypeId} {Γc Hc G : RL} {post : Value → RL → RL → Prop} (hb : Body P f) (hf : ev E x = some (.func (.func f) fst cap)) (hx : evs E xs = some vs)
  (ha : fst ++ vs.toArray ++ cap = args) (hc : Spec P f args Γc Hc post) (hp : Picks Hc H G) (hg : Lends Γc (G ++ Γ)) (h0 : ∀ v Γ1 H1, post v Γ1 H1 → Γ1 = []) :
  Mv P N C E Γ H (.call { callee := .value x, args := xs.toArray, argTypes := AT }) ty (fun v Γ' H' => ∃ H1, post v [] H1 ∧ Γ' = Γ ∧ H' = H1 ++ G) := by
 subst ha
 intro dst pos aft gd a w he hs K Q hK
 have hr : (execOp a.eval ⟨dst, .call { callee := .value x, args := xs.toArray, argTypes := AT }, ty, pos, aft, gd⟩).run P w = .ok (.enter f (fst ++ vs.toArray ++ cap)) w := by
  have h1 := hb (fst ++ vs.toArray ++ cap) w
  have h2 : xs.toArray.map a.eval = vs.toArray := by rw [← he.evs hx]; simp
  simp only [execOp, resolve, Deferred.ofValue, he.ev hf, h2, Sem.run_bind, Sem.run_pure, Result.andThen_ok, invoke]
  exact h1
 have hst := hs.perm hp.perm
 simp only [Oper.wp, hr, Oper.upon]
 refine (hc w (hst.sat.lend hg)).mono ?_
 rintro e w' ⟨v, Γ', H', rfl, hpost, hst'⟩
 have e0 := h0 _ _ _ hpost
 subst e0
 have hst2 : St ⟨w, [], Hc⟩ [] H' w' := by
  refine ⟨⟨by simp, by simp, hst'.sat.hok, hst'.sat.hlt, hst'.sat.hdj, by simp⟩, hst'.stp, hst'.hsub, ?_⟩
  rintro k ⟨r, hr, _⟩
  cases hr
 have := hst.frame (Γc := []) (by simp) hst2
 exact hK _ _ _ _ ⟨_, hpost, rfl, rfl⟩ (by simpa using this)
theorem JO.callF {d : Nat} {pos : String} {aft : Array Edge} {f : FuncId} {x : Operand} {fst cap args : Array Value} {xs : List Operand} {vs : List Value} {AT : Array TypeId} {Γc Hc G : RL} {post : Value → RL → RL → Prop} (hc : Spec P f args Γc Hc post) (hb : Body P f) (hf : ev E x = some (.func (.func f) fst cap)) (hx : evs E xs = some vs)
  (ha : fst ++ vs.toArray ++ cap = args) (hp : Picks Hc H G) (hg : Lends Γc (G ++ Γ)) (h0 : ∀ v Γ1 H1, post v Γ1 H1 → Γ1 = []) (hd : d < N)
  (h : ∀ v H2, (∃ H1, post v [] H1 ∧ H2 = H1 ++ G) → JO P N C ops rest Q ((d, v) :: E) Γ H2) :
  JO P N C ops (⟨some d, .call { callee := .value x, args := xs.toArray, argTypes := AT }, ty, pos, aft, none⟩ :: rest) Q E Γ H :=
 .m (Mv.callF hb hf hx ha hc hp hg h0) hd fun v Γ' H' ⟨H1, hp, hΓ, hH⟩ => by subst hΓ; exact h v H' ⟨H1, hp, hH⟩
theorem JC.frz {c : Code} {r : Res} {G : RL} (hp : Pull r H G) (h : JC P N C c Q E (r :: Γ) G) : JC P N C c Q E Γ H :=
 fun hn a w he hs => h hn a w he ((hs.perm hp.perm).freeze)
theorem NP.noGoto {Q : Exit → Act → World → Prop} (h : NP Q) : NP (Exit.noGoto Q) := fun c a w hq => h c a w hq
theorem JC.scope {c : Code} (h : JC P N C c (Exit.noGoto Q) E Γ H) : JC P N C (.scope c) Q E Γ H := fun hn a w he hs => wp_scope_straight (h hn.noGoto a w he hs)
theorem JC.label {l : Nat} (h : JQ N C .normal Q E Γ H) : JC P N C (.label l) Q E Γ H := fun hn a w he hs => wp_label (h hn a w he hs)
theorem JQ.scope_ret (h : JQ N C .ret Q E Γ H) : JQ N C .ret (Exit.noGoto Q) E Γ H := fun hn a w he hs => h (fun c a w hq => hn c a w hq) a w he hs
theorem Yv.loadVar {T n b : Nat} {x : Operand} {cs : List Value} (hA : Agg P T n) (hm : Res.var b cs ∈ Γ) (hx : ev E x = some (ptr b 0)) (hl : cs.length = n) : Yv P N C E Γ H (.load T x) ty (.agg cs.toArray) :=
 .loadA hA hx hl fun i v hv => by rw [Nat.zero_add]; exact Kn.var hm hv
theorem Yv.ext {f : FuncId} {xs : List Operand} {vs : List Value} {AT : Array TypeId} {v : Value} (hx : evs E xs = some vs) (hr : ∀ w, (callFunc f vs.toArray).run P w = .ok (.value v) w) :
  Yv P N C E Γ H (.call { callee := .value (.func f), args := xs.toArray, argTypes := AT }) ty v := by
 intro dst pos aft gd a w he _
 have h2 : xs.toArray.map a.eval = vs.toArray := by rw [← he.evs hx]; simp
 simp only [execOp, resolve, Deferred.ofValue, Act.eval, h2, Sem.run_bind, Sem.run_pure, Result.andThen_ok, invoke]
 have := hr w
 simpa using this
end
theorem add64 {P : Program} {f : FuncId} {fn : Func} (hf : P.funcs[f]? = some fn) (hb : fn.body.isNone = true) (hn : (fn.name == "runtime.NumGoroutine") = false) (hx : Extern.findNext fn = none) (he : Extern.find fn = some add64Entry)
  (x y c : BitVec 64) (hc : c.toNat ≤ 1) (w : World) :
  (callFunc f #[u64 x, u64 y, u64 c]).run P w = .ok (.value (.tuple #[u64 (x + y + c), u64 (BitVec.ofNat 64 ((x.toNat + y.toNat + c.toNat) / 18446744073709551616))])) w := by
 unfold u64
 rw [run_callFunc_extern hf hn hb hx he, run_add64 x.toNat y.toNat c.toNat (by omega) (by omega) (by omega) (by omega)]
 simp only [Result.andThen]
 have h1 := x.isLt; have h2 := y.isLt
 congr 5 <;> simp <;> omega
def sub64Entry : Array Value → Sem Value := fun args => do
 let (x, y, b) ← Extern.MathBitsCarry.three "Sub64" args
 pure (Extern.MathBitsCarry.pair ((x + Extern.MathBitsCarry.m64 - y - b) % Extern.MathBitsCarry.m64) (if x < y + b then 1 else 0))
theorem run_sub64 {P : Program} (x y b : Nat) (hb : b ≤ 1) (w : World) :
  (sub64Entry #[.int .u64 x, .int .u64 y, .int .u64 b]).run P w =
   .ok (.tuple #[.int .u64 (((x + 18446744073709551616 - y - b) % 18446744073709551616 : Nat) : Int), .int .u64 ((if x < y + b then 1 else 0 : Nat) : Int)]) w := by
 have : b = 0 ∨ b = 1 := by omega
 rcases this with rfl | rfl <;> rfl
theorem sub64 {P : Program} {f : FuncId} {fn : Func} (hf : P.funcs[f]? = some fn) (hb : fn.body.isNone = true) (hn : (fn.name == "runtime.NumGoroutine") = false) (hx : Extern.findNext fn = none) (he : Extern.find fn = some sub64Entry)
  (x y c : BitVec 64) (hc : c.toNat ≤ 1) (w : World) :
  (callFunc f #[u64 x, u64 y, u64 c]).run P w = .ok (.value (.tuple #[u64 (x - y - c), u64 (if x.toNat < y.toNat + c.toNat then 1 else 0)])) w := by
 unfold u64
 rw [run_callFunc_extern hf hn hb hx he, run_sub64 x.toNat y.toNat c.toNat hc]
 simp only [Result.andThen]
 have h1 := x.isLt; have h2 := y.isLt
 have e : (x.toNat + 18446744073709551616 - y.toNat - c.toNat) % 18446744073709551616 = (x - y - c).toNat := by simp only [BitVec.toNat_sub]; omega
 have e2 : (if x.toNat < y.toNat + c.toNat then 1 else 0 : Nat) = (if x.toNat < y.toNat + c.toNat then 1 else 0 : BitVec 64).toNat := by split <;> rfl
 rw [e, e2]
abbrev W64 := BitVec 64
/-- A number's four words. -/
def wd (n : Nat) : List W64 := [BitVec.ofNat 64 n, BitVec.ofNat 64 (n / 18446744073709551616), BitVec.ofNat 64 (n / 340282366920938463463374607431768211456), BitVec.ofNat 64 (n / 6277101735386680763835789423207666416102355444464034512896)]
@[simp] theorem wd_len (n : Nat) : (wd n).length = 4 := rfl
/-- One of its words. -/
def wat (n j : Nat) : W64 := (wd n).getD j 0
theorem wat_0 (n : Nat) : wat n 0 = BitVec.ofNat 64 n := rfl
theorem wat_1 (n : Nat) : wat n 1 = BitVec.ofNat 64 (n / 18446744073709551616) := rfl
theorem wat_2 (n : Nat) : wat n 2 = BitVec.ofNat 64 (n / 340282366920938463463374607431768211456) := rfl
theorem wat_3 (n : Nat) : wat n 3 = BitVec.ofNat 64 (n / 6277101735386680763835789423207666416102355444464034512896) := rfl
theorem four {i : Nat} (h : i < 4) : i = 0 ∨ i = 1 ∨ i = 2 ∨ i = 3 := by omega
theorem wd_get (n : Nat) {j : Nat} (h : j < 4) : ((wd n).map u64)[j]? = some (u64 (wat n j)) := gm (d := 0) (by simpa using h)
def tw (f : Nat → W64) (k : Nat) : List Value := tab 4 fun j => if j < k then u64 (f j) else u64 0
@[simp] theorem tw_len (f : Nat → W64) (k : Nat) : (tw f k).length = 4 := tab_len
theorem tw_set (f : Nat → W64) (k : Nat) : (tw f k).set k (u64 (f k)) = tw f (k + 1) := by
  unfold tw
  rw [tab_set]
  refine tab_congr fun j hj => ?_
  by_cases h1 : j = k
  · subst h1; rw [if_pos rfl, if_pos (by omega)]
  · rw [if_neg h1]
    by_cases h2 : j < k
    · rw [if_pos h2, if_pos (by omega)]
    · rw [if_neg h2, if_neg (by omega)]
theorem tw_4 (n : Nat) : tw (wat n) 4 = (wd n).map u64 := rfl
theorem wd_mod (n : Nat) : wd (n % 115792089237316195423570985008687907853269984665640564039457584007913129639936) = wd n := by
  unfold wd
  congr 1
  · apply BitVec.eq_of_toNat_eq; simp only [BitVec.toNat_ofNat]; omega
  · congr 1
    · apply BitVec.eq_of_toNat_eq; simp only [BitVec.toNat_ofNat]; omega
    · congr 1
      · apply BitVec.eq_of_toNat_eq; simp only [BitVec.toNat_ofNat]; omega
      · congr 1
        apply BitVec.eq_of_toNat_eq; simp only [BitVec.toNat_ofNat]; omega
theorem wd_inj {a b : Nat} (ha : a < 115792089237316195423570985008687907853269984665640564039457584007913129639936) (hb : b < 115792089237316195423570985008687907853269984665640564039457584007913129639936) (h : wd a = wd b) : a = b := by
  unfold wd at h
  simp only [List.cons.injEq, and_true] at h
  obtain ⟨h0, h1, h2, h3⟩ := h
  have h0 := congrArg BitVec.toNat h0
  have h1 := congrArg BitVec.toNat h1
  have h2 := congrArg BitVec.toNat h2
  have h3 := congrArg BitVec.toNat h3
  simp only [BitVec.toNat_ofNat] at h0 h1 h2 h3
  omega
theorem wd_eq {a b : Nat} (ha : a < 115792089237316195423570985008687907853269984665640564039457584007913129639936) (hb : b < 115792089237316195423570985008687907853269984665640564039457584007913129639936) : (wd a = wd b) = (a = b) := propext ⟨wd_inj ha hb, fun h => by rw [h]⟩
theorem wd_small (x : W64) : wd x.toNat = [x, 0, 0, 0] := by
  have := x.isLt
  unfold wd
  congr 1
  · exact BitVec.eq_of_toNat_eq (by simp)
  · rw [Nat.div_eq_of_lt (by omega), Nat.div_eq_of_lt (by omega), Nat.div_eq_of_lt (by omega)]; rfl

/-! ### Sums and differences -/
def pw (i : Nat) : Nat := 2 ^ (64 * i)
theorem pw_0 : pw 0 = 1 := rfl
theorem pw_4 : pw 4 = 115792089237316195423570985008687907853269984665640564039457584007913129639936 := rfl
/-- What is carried into word i. -/
def cry (a b i : Nat) : W64 := BitVec.ofNat 64 ((a % pw i + b % pw i) / pw i)
theorem cry_0 (a b : Nat) : cry a b 0 = 0 := by simp [cry, pw_0, Nat.mod_one]
theorem cry_4 {a b : Nat} (ha : a < 115792089237316195423570985008687907853269984665640564039457584007913129639936) (hb : b < 115792089237316195423570985008687907853269984665640564039457584007913129639936) : cry a b 4 = BitVec.ofNat 64 ((a + b) / 115792089237316195423570985008687907853269984665640564039457584007913129639936) := by rw [cry, pw_4, Nat.mod_eq_of_lt ha, Nat.mod_eq_of_lt hb]
theorem cry_le' (a b i : Nat) : (a % pw i + b % pw i) / pw i < 2 := by
  have hp : 0 < pw i := Nat.pow_pos (by decide)
  have h1 := Nat.mod_lt a hp
  have h2 := Nat.mod_lt b hp
  exact (Nat.div_lt_iff_lt_mul hp).2 (by omega)
theorem cry_le (a b i : Nat) : (cry a b i).toNat ≤ 1 := by
  have := cry_le' a b i
  rw [cry, BitVec.toNat_ofNat]
  generalize (a % pw i + b % pw i) / pw i = c at this ⊢
  omega
theorem pw_succ (i : Nat) : pw (i + 1) = pw i * 18446744073709551616 := by unfold pw; rw [show 64 * (i + 1) = 64 * i + 64 by omega, Nat.pow_add]
theorem pw_pos (i : Nat) : 0 < pw i := Nat.pow_pos (by decide)
theorem wat_eq (n : Nat) {j : Nat} (h : j < 4) : wat n j = BitVec.ofNat 64 (n / pw j) := by
  rcases four h with rfl | rfl | rfl | rfl
  · rw [wat_0, pw_0, Nat.div_one]
  · rfl
  · rfl
  · rfl
theorem add_div' (a b P : Nat) (hP : 0 < P) : (a + b) / P = a / P + b / P + (a % P + b % P) / P := by
  have e : a + b = (a % P + b % P) + P * (a / P + b / P) := by
    have h1 := Nat.div_add_mod a P
    have h2 := Nat.div_add_mod b P
    rw [Nat.mul_add]
    omega
  rw [e, Nat.add_mul_div_left _ _ hP]
  exact Nat.add_comm _ _
theorem add_word (a b : Nat) {i : Nat} (h : i < 4) : wat a i + wat b i + cry a b i = wat (a + b) i := by
  apply BitVec.eq_of_toNat_eq
  rw [wat_eq _ h, wat_eq _ h, wat_eq _ h, cry, add_div' a b (pw i) (pw_pos i)]
  simp only [BitVec.toNat_add, BitVec.toNat_ofNat]
  generalize a / pw i = A
  generalize b / pw i = Bq
  generalize (a % pw i + b % pw i) / pw i = c
  omega
theorem add_cry (a b : Nat) {i : Nat} (h : i < 4) : BitVec.ofNat 64 (((wat a i).toNat + (wat b i).toNat + (cry a b i).toNat) / 18446744073709551616) = cry a b (i + 1) := by
  have hc := cry_le' a b i
  apply BitVec.eq_of_toNat_eq
  rw [wat_eq _ h, wat_eq _ h]
  unfold cry
  rw [pw_succ, Nat.mod_mul, Nat.mod_mul, ← Nat.div_div_eq_div_mul]
  have e : (a % pw i + pw i * (a / pw i % 18446744073709551616) + (b % pw i + pw i * (b / pw i % 18446744073709551616))) / pw i = (a % pw i + b % pw i) / pw i + (a / pw i % 18446744073709551616 + b / pw i % 18446744073709551616) := by
    rw [show a % pw i + pw i * (a / pw i % 18446744073709551616) + (b % pw i + pw i * (b / pw i % 18446744073709551616)) = (a % pw i + b % pw i) + pw i * (a / pw i % 18446744073709551616 + b / pw i % 18446744073709551616) by rw [Nat.mul_add]; omega, Nat.add_mul_div_left _ _ (pw_pos i)]
  rw [e]
  clear e
  simp only [BitVec.toNat_ofNat]
  generalize a / pw i = A at *
  generalize b / pw i = Bq at *
  generalize (a % pw i + b % pw i) / pw i = c at *
  have h1 := Nat.mod_lt A (show 0 < 18446744073709551616 by decide)
  have h2 := Nat.mod_lt Bq (show 0 < 18446744073709551616 by decide)
  omega
/-- What is borrowed from word i. -/
def brw (a b i : Nat) : W64 := if a % pw i < b % pw i then 1 else 0
theorem brw_0 (a b : Nat) : brw a b 0 = 0 := by simp [brw, pw_0, Nat.mod_one]
theorem brw_4 {a b : Nat} (ha : a < 115792089237316195423570985008687907853269984665640564039457584007913129639936) (hb : b < 115792089237316195423570985008687907853269984665640564039457584007913129639936) : brw a b 4 = if a < b then 1 else 0 := by rw [brw, pw_4, Nat.mod_eq_of_lt ha, Nat.mod_eq_of_lt hb]
theorem brw_nat (a b i : Nat) : (brw a b i).toNat = if a % pw i < b % pw i then 1 else 0 := by unfold brw; split <;> rfl
theorem brw_le (a b i : Nat) : (brw a b i).toNat ≤ 1 := by rw [brw_nat]; split <;> omega
theorem sub_div {a b P K : Nat} (hP : 0 < P) (hb : b < P * K) : (P * K + a - b) / P = K + a / P - b / P - (if a % P < b % P then 1 else 0) := by
  have h1 := Nat.div_add_mod a P
  have h2 := Nat.div_add_mod b P
  have h3 := Nat.mod_lt a hP
  have h4 := Nat.mod_lt b hP
  have hK : b / P < K := (Nat.div_lt_iff_lt_mul hP).2 (by rw [Nat.mul_comm]; exact hb)
  generalize a / P = A at *
  generalize b / P = D at *
  generalize a % P = r at *
  generalize b % P = s at *
  subst h1 h2
  obtain ⟨j, rfl⟩ : ∃ j, K = D + 1 + j := ⟨K - D - 1, by omega⟩
  split
  · rename_i hrs
    rw [show P * (D + 1 + j) + (P * A + r) - (P * D + s) = (P + r - s) + P * (j + A) by rw [Nat.mul_add, Nat.mul_add, Nat.mul_add, Nat.mul_one]; omega, Nat.add_mul_div_left _ _ hP, Nat.div_eq_of_lt (by omega)]
    omega
  · rename_i hrs
    rw [show P * (D + 1 + j) + (P * A + r) - (P * D + s) = (r - s) + P * (1 + j + A) by rw [Nat.mul_add, Nat.mul_add, Nat.mul_add, Nat.mul_add, Nat.mul_one]; omega, Nat.add_mul_div_left _ _ hP, Nat.div_eq_of_lt (by omega)]
    omega
theorem pw_split {i : Nat} (h : i < 4) : ∃ K, 115792089237316195423570985008687907853269984665640564039457584007913129639936 = pw i * (18446744073709551616 * K) ∧ 0 < K := by
  rcases four h with rfl | rfl | rfl | rfl
  · exact ⟨6277101735386680763835789423207666416102355444464034512896, rfl, by decide⟩
  · exact ⟨340282366920938463463374607431768211456, rfl, by decide⟩
  · exact ⟨18446744073709551616, rfl, by decide⟩
  · exact ⟨1, rfl, by decide⟩
theorem sub_word {a b : Nat} (hb : b < 115792089237316195423570985008687907853269984665640564039457584007913129639936) {i : Nat} (h : i < 4) : wat a i - wat b i - brw a b i = wat (115792089237316195423570985008687907853269984665640564039457584007913129639936 + a - b) i := by
  apply BitVec.eq_of_toNat_eq
  have hn := brw_nat a b i
  obtain ⟨K, hK, hK0⟩ := pw_split h
  rw [wat_eq _ h, wat_eq _ h, wat_eq _ h]
  rw [hK] at hb ⊢
  rw [sub_div (pw_pos i) hb, ← hn]
  have hD : b / pw i < 18446744073709551616 * K := (Nat.div_lt_iff_lt_mul (pw_pos i)).2 (by rw [Nat.mul_comm]; exact hb)
  have hle := brw_le a b i
  simp only [BitVec.toNat_sub, BitVec.toNat_ofNat]
  generalize a / pw i = A at *
  generalize b / pw i = D at *
  generalize (brw a b i).toNat = c at *
  omega
theorem sub_brw (a b : Nat) {i : Nat} (h : i < 4) : (if (wat a i).toNat < (wat b i).toNat + (brw a b i).toNat then 1 else 0) = brw a b (i + 1) := by
  have hn := brw_nat a b i
  have h3 := Nat.mod_lt a (pw_pos i)
  have h4 := Nat.mod_lt b (pw_pos i)
  rw [wat_eq _ h, wat_eq _ h, BitVec.toNat_ofNat, BitVec.toNat_ofNat, show brw a b (i + 1) = if a % pw (i + 1) < b % pw (i + 1) then 1 else 0 from rfl, pw_succ, Nat.mod_mul, Nat.mod_mul, hn]
  rw [show (2 : Nat) ^ 64 = 18446744073709551616 from rfl]
  have e : ∀ A D : Nat, A < D → pw i * A + pw i ≤ pw i * D := fun A D h => by
    have := Nat.mul_le_mul_left (pw i) h
    rw [Nat.succ_eq_add_one, Nat.mul_add, Nat.mul_one] at this
    exact this
  generalize a / pw i % 18446744073709551616 = A at *
  generalize b / pw i % 18446744073709551616 = D at *
  generalize a % pw i = r at *
  generalize b % pw i = s at *
  rcases Nat.lt_trichotomy A D with h1 | h1 | h1
  · have := e A D h1
    rw [if_pos (by omega), if_pos (by omega)]
  · subst h1
    by_cases hrs : r < s
    · rw [if_pos hrs, if_pos (by omega), if_pos (by omega)]
    · rw [if_neg hrs, if_neg (by omega), if_neg (by omega)]
  · have := e D A h1
    rw [if_neg (by split <;> omega), if_neg (by omega)]

/-! ### Comparing -/
def cmpN (a b : Nat) : Int := if a < b then -1 else if b < a then 1 else 0
theorem pw_three {x : Nat} (hx : x < 4) : pw (4 - x) = pw (3 - x) * 18446744073709551616 := by rw [← pw_succ]; congr 1; omega
theorem div_ne_lt {a b P : Nat} (h : a / P < b / P) : a < b := Nat.lt_of_not_le fun hh => absurd (Nat.div_le_div_right (c := P) hh) (by omega)
theorem cmp_step {a b x : Nat} (hx : x < 4) (h : a / pw (4 - x) = b / pw (4 - x)) (h1 : (wat a (3 - x)).toNat < (wat b (3 - x)).toNat) : a < b := by
  rw [pw_three hx, ← Nat.div_div_eq_div_mul, ← Nat.div_div_eq_div_mul] at h
  rw [wat_eq _ (by omega), wat_eq _ (by omega), BitVec.toNat_ofNat, BitVec.toNat_ofNat] at h1
  refine div_ne_lt (P := pw (3 - x)) ?_
  generalize a / pw (3 - x) = A at *
  generalize b / pw (3 - x) = D at *
  omega
theorem cmp_next {a b x : Nat} (hx : x < 4) (h : a / pw (4 - x) = b / pw (4 - x)) (h1 : ¬ (wat a (3 - x)).toNat < (wat b (3 - x)).toNat) (h2 : ¬ (wat b (3 - x)).toNat < (wat a (3 - x)).toNat) : a / pw (4 - (x + 1)) = b / pw (4 - (x + 1)) := by
  rw [pw_three hx, ← Nat.div_div_eq_div_mul, ← Nat.div_div_eq_div_mul] at h
  rw [wat_eq _ (by omega), wat_eq _ (by omega), BitVec.toNat_ofNat, BitVec.toNat_ofNat] at h1 h2
  rw [show 4 - (x + 1) = 3 - x by omega]
  generalize a / pw (3 - x) = A at *
  generalize b / pw (3 - x) = D at *
  omega

/-! ### One bit more -/
def bitN (a i : Nat) : W64 := BitVec.ofNat 64 (a / 2 ^ i % 2)
theorem wat_nat (a j : Nat) (h : j < 4) : (wat a j).toNat = a / 2 ^ (64 * j) % 2 ^ 64 := by
  rcases four h with rfl | rfl | rfl | rfl <;> simp only [wat_0, wat_1, wat_2, wat_3, BitVec.toNat_ofNat] <;> simp
theorem bit_at (a : Nat) {i : Nat} (h : i < 256) : (wat a (i / 64) >>> (i % 64)) &&& 1#64 = bitN a i := by
  apply BitVec.eq_of_toNat_eq
  have h1 : ∀ n : Nat, n &&& 1 = n % 2 := fun n => Nat.and_one_is_mod n
  simp only [BitVec.toNat_and, BitVec.toNat_ushiftRight, Nat.shiftRight_eq_div_pow, wat_nat a (i / 64) (by omega), bitN, BitVec.toNat_ofNat, Nat.reducePow, Nat.reduceMod, h1]
  have h2 : 64 * (i / 64) + i % 64 = i := by omega
  have h3 : a / 2 ^ i = a / 2 ^ (64 * (i / 64)) / 2 ^ (i % 64) := by rw [Nat.div_div_eq_div_mul, ← Nat.pow_add, h2]
  rw [h3]
  generalize a / 2 ^ (64 * (i / 64)) = c
  have h4 : c % 18446744073709551616 / 2 ^ (i % 64) % 2 = c / 2 ^ (i % 64) % 2 := by
    have hs : i % 64 < 64 := Nat.mod_lt _ (by decide)
    have e1 := Nat.mod_mul_right_div_self c (2 ^ (i % 64)) (2 ^ (64 - i % 64))
    rw [← Nat.pow_add, show i % 64 + (64 - i % 64) = 64 by omega] at e1
    rw [show (18446744073709551616 : Nat) = 2 ^ 64 from rfl, e1]
    refine Nat.mod_mod_of_dvd _ ?_
    exact Nat.dvd_of_pow_dvd (k := 1) (by omega) (by rw [Nat.pow_one]; exact Nat.pow_dvd_pow 2 (by omega : 1 ≤ 64 - i % 64) |> fun h => by simpa using h)
  omega
theorem shift_word (a : Nat) {j : Nat} (h : j < 4) (h0 : 0 < j) : (wat a j <<< 1) ||| (wat a (j - 1) >>> 1 >>> 62) = wat (2 * a) j := by
  apply BitVec.eq_of_toNat_eq
  have key : ∀ c d : Nat, d < 2 → (c * 2 % 18446744073709551616) ||| d = c * 2 % 18446744073709551616 + d := fun c d hd => by
    have := Nat.two_pow_add_eq_or_of_lt (i := 1) (b := d) (by simpa using hd) (c * 2 % 18446744073709551616 / 2)
    rw [Nat.pow_one, show 2 * (c * 2 % 18446744073709551616 / 2) = c * 2 % 18446744073709551616 by omega] at this
    exact this.symm
  simp only [BitVec.toNat_or, BitVec.toNat_shiftLeft, BitVec.toNat_ushiftRight, Nat.shiftRight_eq_div_pow, Nat.shiftLeft_eq, Nat.reducePow]
  rw [key _ _ (by have := (wat a (j - 1)).isLt; omega)]
  rcases four h with rfl | rfl | rfl | rfl
  · omega
  all_goals simp only [Nat.reduceSub, wat_0, wat_1, wat_2, wat_3, BitVec.toNat_ofNat]; omega
theorem shift_word0 (a : Nat) : (wat a 0 <<< 1) ||| (0#64 >>> 1 >>> 62) = wat (2 * a) 0 := by
  apply BitVec.eq_of_toNat_eq
  simp [wat_0, Nat.shiftLeft_eq, Nat.mul_comm]
theorem dbl_or {a : Nat} {bit : W64} (hb : bit.toNat < 2) : (wd (2 * a)).set 0 (wat (2 * a) 0 ||| bit) = wd (2 * a + bit.toNat) := by
  have h0 : wat (2 * a) 0 ||| bit = BitVec.ofNat 64 (2 * a + bit.toNat) := by
    apply BitVec.eq_of_toNat_eq
    have := Nat.two_pow_add_eq_or_of_lt (i := 1) (b := bit.toNat) (by simpa using hb) ((2 * a) % 2 ^ 64 / 2)
    rw [Nat.pow_one, show 2 * ((2 * a) % 2 ^ 64 / 2) = (2 * a) % 2 ^ 64 by omega] at this
    rw [BitVec.toNat_or, wat_0, BitVec.toNat_ofNat, BitVec.toNat_ofNat, ← this]
    omega
  rw [h0]
  simp only [wd, List.set_cons_zero]
  congr 1
  rw [show (2 * a + bit.toNat) / 18446744073709551616 = 2 * a / 18446744073709551616 by omega, show (2 * a + bit.toNat) / 340282366920938463463374607431768211456 = 2 * a / 340282366920938463463374607431768211456 by omega, show (2 * a + bit.toNat) / 6277101735386680763835789423207666416102355444464034512896 = 2 * a / 6277101735386680763835789423207666416102355444464034512896 by omega]
/-- A bit set in a number whose lower bits are none. -/
theorem quo_set {q g : Nat} {i : Nat} (hi : i < 256) (hg : g < 2) (hq : q % 2 ^ (i + 1) = 0) : (wd q).set (i / 64) (wat q (i / 64) ||| (BitVec.ofNat 64 g <<< (i % 64))) = wd (q + g * 2 ^ i) := by
  obtain ⟨c, rfl⟩ : ∃ c, q = 2 ^ (i + 1) * c := ⟨q / 2 ^ (i + 1), by have := Nat.div_add_mod q (2 ^ (i + 1)); omega⟩
  have hs : i % 64 < 64 := Nat.mod_lt _ (by decide)
  have hij : i = 64 * (i / 64) + i % 64 := by omega
  have hj4 : i / 64 < 4 := by omega
  have hw : wat (2 ^ (i + 1) * c) (i / 64) ||| (BitVec.ofNat 64 g <<< (i % 64)) = wat (2 ^ (i + 1) * c + g * 2 ^ i) (i / 64) := by
    apply BitVec.eq_of_toNat_eq
    have e1 : 2 ^ (i + 1) * c / 2 ^ (64 * (i / 64)) = 2 ^ (i % 64 + 1) * c := by
      rw [show i + 1 = 64 * (i / 64) + (i % 64 + 1) by omega, Nat.pow_add, Nat.mul_assoc, Nat.mul_div_cancel_left _ (Nat.pow_pos (by decide))]
    have e2 : (2 ^ (i + 1) * c + g * 2 ^ i) / 2 ^ (64 * (i / 64)) = 2 ^ (i % 64 + 1) * c + g * 2 ^ (i % 64) := by
      have : 2 ^ (i + 1) * c + g * 2 ^ i = 2 ^ (64 * (i / 64)) * (2 ^ (i % 64 + 1) * c + g * 2 ^ (i % 64)) := by
        rw [Nat.mul_add, ← Nat.mul_assoc, ← Nat.pow_add, Nat.mul_left_comm, ← Nat.pow_add, ← hij, show 64 * (i / 64) + (i % 64 + 1) = i + 1 by omega]
      rw [this, Nat.mul_div_cancel_left _ (Nat.pow_pos (by decide))]
    rw [BitVec.toNat_or, wat_nat _ _ hj4, wat_nat _ _ hj4, e1, e2, BitVec.toNat_shiftLeft, BitVec.toNat_ofNat, Nat.shiftLeft_eq, Nat.mod_eq_of_lt (show g < 2 ^ 64 by omega)]
    have hg2 : g * 2 ^ (i % 64) < 2 ^ (i % 64 + 1) := by rw [Nat.pow_succ, Nat.mul_comm]; exact Nat.mul_lt_mul_of_pos_left hg (Nat.pow_pos (by decide))
    have hp64 : 2 ^ (i % 64 + 1) ∣ 2 ^ 64 := Nat.pow_dvd_pow 2 (by omega)
    obtain ⟨d, hd⟩ := hp64
    have hle : 2 ^ (i % 64 + 1) ≤ 2 ^ 64 := Nat.pow_le_pow_right (by decide) (by omega)
    rw [Nat.mod_eq_of_lt (show g * 2 ^ (i % 64) < 2 ^ 64 by omega)]
    have e3 : 2 ^ (i % 64 + 1) * c % 2 ^ 64 = 2 ^ (i % 64 + 1) * (c % d) := by rw [hd, Nat.mul_mod_mul_left]
    have hd0 : 0 < d := by rcases Nat.eq_zero_or_pos d with h | h; · subst h; simp at hd
                           · exact h
    have e4 : (2 ^ (i % 64 + 1) * c + g * 2 ^ (i % 64)) % 2 ^ 64 = 2 ^ (i % 64 + 1) * (c % d) + g * 2 ^ (i % 64) := by
      have hlt : 2 ^ (i % 64 + 1) * (c % d) + g * 2 ^ (i % 64) < 2 ^ 64 := by
        have h1 : 2 ^ (i % 64 + 1) * (c % d + 1) ≤ 2 ^ (i % 64 + 1) * d := Nat.mul_le_mul_left _ (Nat.mod_lt c hd0)
        rw [Nat.mul_add, Nat.mul_one, ← hd] at h1
        omega
      rw [Nat.add_mod, e3, Nat.mod_eq_of_lt (show g * 2 ^ (i % 64) < 2 ^ 64 by omega), Nat.mod_eq_of_lt hlt]
    rw [e3, e4, Nat.two_pow_add_eq_or_of_lt hg2]
  have hup : ∀ k, i + 1 ≤ k → (2 ^ (i + 1) * c + g * 2 ^ i) / 2 ^ k = 2 ^ (i + 1) * c / 2 ^ k := by
    intro k hk
    have hgi : g * 2 ^ i < 2 ^ (i + 1) := by rw [Nat.pow_succ, Nat.mul_comm]; exact Nat.mul_lt_mul_of_pos_left hg (Nat.pow_pos (by decide))
    obtain ⟨r, rfl⟩ : ∃ r, k = (i + 1) + r := ⟨k - (i + 1), by omega⟩
    rw [Nat.pow_add 2 (i + 1) r, ← Nat.div_div_eq_div_mul, ← Nat.div_div_eq_div_mul, Nat.mul_add_div (Nat.pow_pos (by decide)), Nat.div_eq_of_lt hgi, Nat.add_zero, Nat.mul_div_cancel_left _ (Nat.pow_pos (by decide))]
  have hlo : ∀ k, 64 * (k + 1) ≤ i → (2 ^ (i + 1) * c + g * 2 ^ i) / 2 ^ (64 * k) % 2 ^ 64 = 2 ^ (i + 1) * c / 2 ^ (64 * k) % 2 ^ 64 := by
    intro k hk
    have e1 : 2 ^ (i + 1) * c + g * 2 ^ i = 2 ^ (64 * k) * (2 ^ 64 * (2 ^ (i + 1 - 64 * (k + 1)) * c + g * 2 ^ (i - 64 * (k + 1)))) := by
      rw [← Nat.mul_assoc, ← Nat.pow_add, Nat.mul_add, ← Nat.mul_assoc, ← Nat.pow_add, Nat.mul_left_comm, ← Nat.pow_add]
      rw [show 64 * k + 64 + (i + 1 - 64 * (k + 1)) = i + 1 by omega, show 64 * k + 64 + (i - 64 * (k + 1)) = i by omega]
    have e2 : 2 ^ (i + 1) * c = 2 ^ (64 * k) * (2 ^ 64 * (2 ^ (i + 1 - 64 * (k + 1)) * c)) := by
      rw [← Nat.mul_assoc, ← Nat.pow_add, ← Nat.mul_assoc, ← Nat.pow_add]
      rw [show 64 * k + 64 + (i + 1 - 64 * (k + 1)) = i + 1 by omega]
    rw [e1, e2, Nat.mul_div_cancel_left _ (Nat.pow_pos (by decide)), Nat.mul_div_cancel_left _ (Nat.pow_pos (by decide)), Nat.mul_mod_right, Nat.mul_mod_right]
  rw [hw]
  have hwat : ∀ j, j < 4 → j ≠ i / 64 → wat (2 ^ (i + 1) * c) j = wat (2 ^ (i + 1) * c + g * 2 ^ i) j := by
    intro j hj hne
    apply BitVec.eq_of_toNat_eq
    rw [wat_nat _ _ hj, wat_nat _ _ hj]
    by_cases h : j < i / 64
    · exact (hlo j (by omega)).symm
    · rw [hup (64 * j) (by omega)]
  generalize hA : 2 ^ (i + 1) * c + g * 2 ^ i = A at *
  generalize 2 ^ (i + 1) * c = Bq at *
  have e : ∀ n : Nat, wd n = [wat n 0, wat n 1, wat n 2, wat n 3] := fun _ => rfl
  rcases four hj4 with h | h | h | h <;> rw [h] at hwat ⊢ <;> rw [e Bq, e A] <;> simp only [List.set_cons_zero, List.set_cons_succ]
  · rw [hwat 1 (by decide) (by decide), hwat 2 (by decide) (by decide), hwat 3 (by decide) (by decide)]
  · rw [hwat 0 (by decide) (by decide), hwat 2 (by decide) (by decide), hwat 3 (by decide) (by decide)]
  · rw [hwat 0 (by decide) (by decide), hwat 1 (by decide) (by decide), hwat 3 (by decide) (by decide)]
  · rw [hwat 0 (by decide) (by decide), hwat 1 (by decide) (by decide), hwat 2 (by decide) (by decide)]

/-! ### Division, bit by bit -/
/-- What is left, and the quotient, where bits from k on were taken. -/
def restK (a m k : Nat) : Nat := a / 2 ^ k % m
def quoK (a m k : Nat) : Nat := a / 2 ^ k / m * 2 ^ k
theorem div_step (a k : Nat) : a / 2 ^ k = 2 * (a / 2 ^ (k + 1)) + a / 2 ^ k % 2 := by
  rw [Nat.pow_succ, ← Nat.div_div_eq_div_mul]; omega
theorem rest_step {a m k : Nat} (hm : 0 < m) : restK a m k = if m ≤ 2 * restK a m (k + 1) + a / 2 ^ k % 2 then 2 * restK a m (k + 1) + a / 2 ^ k % 2 - m else 2 * restK a m (k + 1) + a / 2 ^ k % 2 := by
  unfold restK
  have h1 := div_step a k
  have h2 : a / 2 ^ k % 2 < 2 := Nat.mod_lt _ (by decide)
  generalize a / 2 ^ k = A at *
  generalize a / 2 ^ (k + 1) = D at *
  generalize A % 2 = t at *
  have hD := Nat.div_add_mod D m
  have hr := Nat.mod_lt D hm
  generalize D % m = r at *
  have e : A = m * (2 * (D / m)) + (2 * r + t) := by rw [h1]; have : m * (2 * (D / m)) = 2 * (m * (D / m)) := by rw [Nat.mul_left_comm]
                                                     omega
  rw [e, Nat.mul_add_mod]
  split
  · rw [Nat.mod_eq_sub_mod (by omega), Nat.mod_eq_of_lt (by omega)]
  · rw [Nat.mod_eq_of_lt (by omega)]
theorem quo_step {a m k : Nat} (hm : 0 < m) : quoK a m k = quoK a m (k + 1) + (if m ≤ 2 * restK a m (k + 1) + a / 2 ^ k % 2 then 1 else 0) * 2 ^ k := by
  unfold restK quoK
  have h1 := div_step a k
  have h2 : a / 2 ^ k % 2 < 2 := Nat.mod_lt _ (by decide)
  generalize a / 2 ^ k = A at *
  generalize a / 2 ^ (k + 1) = D at *
  generalize A % 2 = t at *
  have hD := Nat.div_add_mod D m
  have hr := Nat.mod_lt D hm
  generalize D % m = r at *
  have e : A = m * (2 * (D / m)) + (2 * r + t) := by rw [h1]; have : m * (2 * (D / m)) = 2 * (m * (D / m)) := by rw [Nat.mul_left_comm]
                                                     omega
  have e2 : A / m = 2 * (D / m) + (if m ≤ 2 * r + t then 1 else 0) := by
    rw [e, Nat.mul_add_div hm]
    congr 1
    split
    · exact Nat.div_eq_of_lt_le (by omega) (by omega)
    · exact Nat.div_eq_of_lt (by omega)
  rw [e2, Nat.pow_succ, Nat.add_mul, Nat.mul_comm (2 ^ k) 2, ← Nat.mul_assoc, Nat.mul_comm 2 (D / m)]
theorem quo_dvd (a m k : Nat) : quoK a m k % 2 ^ k = 0 := by unfold quoK; exact Nat.mul_mod_left _ _
theorem rest_lt {a m k : Nat} (hm : 0 < m) : restK a m k < m := Nat.mod_lt _ hm
theorem rest_top {a m : Nat} (ha : a < 115792089237316195423570985008687907853269984665640564039457584007913129639936) : restK a m 256 = 0 := by unfold restK; rw [Nat.div_eq_of_lt (show a < 2 ^ 256 from ha), Nat.zero_mod]
theorem quo_top {a m : Nat} (ha : a < 115792089237316195423570985008687907853269984665640564039457584007913129639936) : quoK a m 256 = 0 := by unfold quoK; rw [Nat.div_eq_of_lt (show a < 2 ^ 256 from ha), Nat.zero_div, Nat.zero_mul]
theorem rest_0 (a m : Nat) : restK a m 0 = a % m := by simp [restK]
theorem quo_0 (a m : Nat) : quoK a m 0 = a / m := by simp [quoK]
/-! ### Products of two words -/
theorem mul64 (x y : W64) :
    let x0 := x &&& 4294967295#64; let x1 := x >>> 32; let y0 := y &&& 4294967295#64; let y1 := y >>> 32
    let w0 := x0 * y0; let t := x1 * y0 + w0 >>> 32; let w1 := (t &&& 4294967295#64) + x0 * y1
    x1 * y1 + t >>> 32 + w1 >>> 32 = BitVec.ofNat 64 (x.toNat * y.toNat / 18446744073709551616) := by
  intro x0 x1 y0 y1 w0 t w1
  apply BitVec.eq_of_toNat_eq
  have m32 : ∀ n : Nat, n &&& 4294967295 = n % 4294967296 := fun n => Nat.and_two_pow_sub_one_eq_mod n 32
  have hx := x.isLt; have hy := y.isLt
  have ex : x.toNat = 4294967296 * (x.toNat / 4294967296) + x.toNat % 4294967296 := by omega
  have ey : y.toNat = 4294967296 * (y.toNat / 4294967296) + y.toNat % 4294967296 := by omega
  simp only [x0, x1, y0, y1, w0, t, w1, BitVec.toNat_add, BitVec.toNat_mul, BitVec.toNat_and, BitVec.toNat_ushiftRight, BitVec.toNat_ofNat, Nat.shiftRight_eq_div_pow, Nat.reducePow, Nat.reduceMod, m32]
  have a1 : x.toNat / 4294967296 ≤ 4294967295 := by omega
  have a0 : x.toNat % 4294967296 ≤ 4294967295 := by omega
  have b1 : y.toNat / 4294967296 ≤ 4294967295 := by omega
  have b0 : y.toNat % 4294967296 ≤ 4294967295 := by omega
  rw [show x.toNat * y.toNat = (4294967296 * (x.toNat / 4294967296) + x.toNat % 4294967296) * (4294967296 * (y.toNat / 4294967296) + y.toNat % 4294967296) by rw [← ex, ← ey]]
  generalize x.toNat / 4294967296 = X1 at *
  generalize x.toNat % 4294967296 = X0 at *
  generalize y.toNat / 4294967296 = Y1 at *
  generalize y.toNat % 4294967296 = Y0 at *
  have p11 := Nat.mul_le_mul a1 b1
  have p10 := Nat.mul_le_mul a1 b0
  have p01 := Nat.mul_le_mul a0 b1
  have p00 := Nat.mul_le_mul a0 b0
  have e : (4294967296 * X1 + X0) * (4294967296 * Y1 + Y0) = 18446744073709551616 * (X1 * Y1) + 4294967296 * (X1 * Y0) + 4294967296 * (X0 * Y1) + X0 * Y0 := by
    rw [Nat.add_mul, Nat.mul_add, Nat.mul_add, Nat.mul_assoc, Nat.mul_left_comm X1 4294967296 Y1, ← Nat.mul_assoc 4294967296 4294967296, Nat.mul_assoc 4294967296 X1 Y0, Nat.mul_left_comm X0 4294967296 Y1]
    omega
  rw [e]
  generalize X1 * Y1 = q11 at *
  generalize X1 * Y0 = q10 at *
  generalize X0 * Y1 = q01 at *
  generalize X0 * Y0 = q00 at *
  omega
theorem wd_prod (x y : W64) : wd (x.toNat * y.toNat) = [x * y, BitVec.ofNat 64 (x.toNat * y.toNat / 18446744073709551616), 0, 0] := by
  have hlt : x.toNat * y.toNat < 340282366920938463463374607431768211456 := Nat.mul_lt_mul'' x.isLt y.isLt
  unfold wd
  rw [Nat.div_eq_of_lt hlt, Nat.div_eq_of_lt (show x.toNat * y.toNat < 6277101735386680763835789423207666416102355444464034512896 by omega)]
  rw [show BitVec.ofNat 64 (x.toNat * y.toNat) = x * y from BitVec.eq_of_toNat_eq (by simp)]
  rfl
attribute [irreducible] restK quoK
end Go.Proofs.YtmhiapebljfebaaGreatDoor

/- The packages' variables, as_ the row lays them. -/
namespace Go.Proofs.YtmhiapebljfebaaGreatDoor
open Go.ChangeShapes Go.WideShapes Go.ChangeAt Go.RowKit
set_option maxRecDepth 100000
def laid2 : List (String × DataW Unit) := [("sortition/sha.cubes", Rows.laid_sortition_sha_cubes), ("sortition/sha.squares", Rows.laid_sortition_sha_squares), ("sortition/pratt.least", Rows.laid_sortition_pratt_least), ("sortition/group.one", Rows.laid_sortition_group_one), ("sortition/group.two", Rows.laid_sortition_group_two), ("sortition/group.low", Rows.laid_sortition_group_low)]
theorem g0_ : Tryz.prog.globalNamed "sortition/sha.cubes" = some 4 := by kernel_rfl
theorem t0_ : (Tryz.prog.globals[4]?).map (·.type) = some 277 := by kernel_rfl
theorem d0_ : (Rows.laid_sortition_sha_cubes : DataW Unit) = .agg (cub.map fun x => .lit (.int .u32 (x.toNat : Int))) := by kernel_rfl
theorem g1_ : Tryz.prog.globalNamed "sortition/sha.squares" = some 5 := by kernel_rfl
theorem t1_ : (Tryz.prog.globals[5]?).map (·.type) = some 256 := by kernel_rfl
theorem d1_ : (Rows.laid_sortition_sha_squares : DataW Unit) = .agg (sqr.map fun x => .lit (.int .u32 (x.toNat : Int))) := by kernel_rfl
theorem g2_ : Tryz.prog.globalNamed "sortition/pratt.least" = some 3 := by kernel_rfl
theorem t2_ : (Tryz.prog.globals[3]?).map (·.type) = some 40 := by kernel_rfl
theorem d2_ : (Rows.laid_sortition_pratt_least : DataW Unit) = .agg (([2, 0, 0, 0] : List W64).map fun x => .lit (.int .u64 (x.toNat : Int))) := by kernel_rfl
theorem g3_ : Tryz.prog.globalNamed "sortition/group.one" = some 2 := by kernel_rfl
theorem t3_ : (Tryz.prog.globals[2]?).map (·.type) = some 40 := by kernel_rfl
theorem d3_ : (Rows.laid_sortition_group_one : DataW Unit) = .agg (([1, 0, 0, 0] : List W64).map fun x => .lit (.int .u64 (x.toNat : Int))) := by kernel_rfl
theorem g4_ : Tryz.prog.globalNamed "sortition/group.two" = some 1 := by kernel_rfl
theorem t4_ : (Tryz.prog.globals[1]?).map (·.type) = some 40 := by kernel_rfl
theorem d4_ : (Rows.laid_sortition_group_two : DataW Unit) = .agg (([2, 0, 0, 0] : List W64).map fun x => .lit (.int .u64 (x.toNat : Int))) := by kernel_rfl
theorem g5_ : Tryz.prog.globalNamed "sortition/group.low" = some 0 := by kernel_rfl
theorem t5_ : (Tryz.prog.globals[0]?).map (·.type) = some 40 := by kernel_rfl
theorem d5_ : (Rows.laid_sortition_group_low : DataW Unit) = .agg (([5, 0, 0, 0] : List W64).map fun x => .lit (.int .u64 (x.toNat : Int))) := by kernel_rfl
theorem door_met (os : Os) (args : Array Value) : laidMetH Tryz.prog laid2 ((World.doorLaid Tryz.prog 400 os).forCall (fun _ _ => 0) ⟨#[], args, []⟩).memory :=
 laidMetH_of_parts3 (fuel := 8) (laidMet_of_run' 8 (by kernel_rfl) (by kernel_rfl)) (by kernel_rfl) (by kernel_rfl)
theorem lits32 {H : Type} {enc : TypeId × Value → H} {w : World} {base : Nat} {spare : Nat → Bool} {held : Bool} {n : Nat} {t m : Nat} {cs : List Value} {l : List (BitVec 32)} {ps : List MemPlace} (ht : Tryz.prog.underlying t = some (.array m 169)) (hc : Tryz.prog.cellsOf t = m)
  (hl : l.length = m) (h : DataW.trod enc Tryz.prog w base spare held n t cs = some (.agg (l.map fun x => .lit (.int .u32 (x.toNat : Int))), ps)) : cs = l.map u32 := by
 cases n with
 | zero => simp [DataW.trod] at h
 | succ n =>
  unfold DataW.trod at h
  rw [ht] at h
  dsimp only at h
  split at h
  ·rename_i hlen
   obtain ⟨xs, hxs, hx⟩ := Option.map_eq_some_iff.1 h
   have h2 : xs.length = m := by simpa using mapM_some_length hxs
   simp only [Prod.mk.injEq, DataW.agg.injEq] at hx
   have c1 : Tryz.prog.cellsOf 169 = 1 := by kernel_rfl
   rw [hc] at hlen
   apply List.ext_getElem (by rw [List.length_map]; omega)
   intro i h3 h4
   have hi : i < m := by rw [List.length_map] at h4; omega
   have h5 := mapM_some_get hxs i i (by simp [hi])
   rw [List.getElem?_eq_getElem (show i < xs.length by omega), c1, Nat.mul_one] at h5
   obtain ⟨k, hk1, hk2, _⟩ := DataW.trod_int Tryz.underlying169 h5
   have h6 : (xs.map (·.1))[i]? = (l.map fun x => DataW.lit (.int .u32 (x.toNat : Int)))[i]? := by rw [hx.1]
   rw [List.getElem?_map, List.getElem?_map, List.getElem?_eq_getElem (show i < xs.length by omega), List.getElem?_eq_getElem (show i < l.length by simpa using h4)] at h6
   simp only [Option.map_some, Option.some.injEq, hk2, DataW.lit.injEq, Lit.int.injEq, true_and] at h6
   have h7 : cs[i] = .int .u32 k := by
    have := congrArg (fun x : List Value => x[0]?) hk1
    simp only [List.getElem?_take, List.getElem?_drop] at this
    simpa [h3] using this
   rw [h7, List.getElem_map, h6]
  ·cases h
theorem lits64 {H : Type} {enc : TypeId × Value → H} {w : World} {base : Nat} {spare : Nat → Bool} {held : Bool} {n : Nat} {t m : Nat} {cs : List Value} {l : List (BitVec 64)} {ps : List MemPlace} (ht : Tryz.prog.underlying t = some (.array m 22)) (hc : Tryz.prog.cellsOf t = m)
  (hl : l.length = m) (h : DataW.trod enc Tryz.prog w base spare held n t cs = some (.agg (l.map fun x => .lit (.int .u64 (x.toNat : Int))), ps)) : cs = l.map u64 := by
 cases n with
 | zero => simp [DataW.trod] at h
 | succ n =>
  unfold DataW.trod at h
  rw [ht] at h
  dsimp only at h
  split at h
  ·rename_i hlen
   obtain ⟨xs, hxs, hx⟩ := Option.map_eq_some_iff.1 h
   have h2 : xs.length = m := by simpa using mapM_some_length hxs
   simp only [Prod.mk.injEq, DataW.agg.injEq] at hx
   have c1 : Tryz.prog.cellsOf 22 = 1 := by kernel_rfl
   rw [hc] at hlen
   apply List.ext_getElem (by rw [List.length_map]; omega)
   intro i h3 h4
   have hi : i < m := by rw [List.length_map] at h4; omega
   have h5 := mapM_some_get hxs i i (by simp [hi])
   rw [List.getElem?_eq_getElem (show i < xs.length by omega), c1, Nat.mul_one] at h5
   obtain ⟨k, hk1, hk2, _⟩ := DataW.trod_int Tryz.underlying22 h5
   have h6 : (xs.map (·.1))[i]? = (l.map fun x => DataW.lit (.int .u64 (x.toNat : Int)))[i]? := by rw [hx.1]
   rw [List.getElem?_map, List.getElem?_map, List.getElem?_eq_getElem (show i < xs.length by omega), List.getElem?_eq_getElem (show i < l.length by simpa using h4)] at h6
   simp only [Option.map_some, Option.some.injEq, hk2, DataW.lit.injEq, Lit.int.injEq, true_and] at h6
   have h7 : cs[i] = .int .u64 k := by
    have := congrArg (fun x : List Value => x[0]?) hk1
    simp only [List.getElem?_take, List.getElem?_drop] at this
    simpa [h3] using this
   rw [h7, List.getElem_map, h6]
  ·cases h
theorem var_heap {P : Program} {w : World} {name : String} {g : Nat} {cs : Array Value} (hg : P.globalNamed name = some g) (h : w.var? P name = some cs) : ∃ T r, w.heap[g]? = some (.cells cs T r) := by
 unfold World.var? at h
 rw [hg] at h
 simp only [Option.bind_some] at h
 split at h
 ·rename_i c T r hh
  obtain rfl := Option.some.inj h
  exact ⟨T, r, hh⟩
 ·cases h
theorem of_laid {w : World} (h : laidMetH Tryz.prog laid2 w) : Rds w [Res.var 0 (([5, 0, 0, 0] : List W64).map u64), Res.var 1 (([2, 0, 0, 0] : List W64).map u64), Res.var 2 (([1, 0, 0, 0] : List W64).map u64), Res.var 3 (([2, 0, 0, 0] : List W64).map u64), Res.var 5 (sqr.map u32), Res.var 4 (cub.map u32)] := by
 rw [MakeChecks.laidMetH_plain _ _ _ (by kernel_rfl)] at h
 obtain ⟨ps, ⟨g0, t0, cs0, f0, p0, q0, hg0, ht0, hv0, hd0, ⟨g1, t1, cs1, f1, p1, q1, hg1, ht1, hv1, hd1, ⟨g2, t2, cs2, f2, p2, q2, hg2, ht2, hv2, hd2, ⟨g3, t3, cs3, f3, p3, q3, hg3, ht3, hv3, hd3, ⟨g4, t4, cs4, f4, p4, q4, hg4, ht4, hv4, hd4, ⟨g5, t5, cs5, f5, p5, q5, hg5, ht5, hv5, hd5, _, _⟩, _⟩, _⟩, _⟩, _⟩, _⟩, _, _⟩ := h
 obtain rfl := Option.some.inj (g0_.symm.trans hg0)
 obtain rfl := Option.some.inj (t0_.symm.trans ht0)
 rw [d0_] at hd0
 have e0 := lits32 Tryz.underlying277 (by kernel_rfl) cub_len hd0
 obtain ⟨T0, r0, k0⟩ := var_heap hg0 hv0
 obtain rfl := Option.some.inj (g1_.symm.trans hg1)
 obtain rfl := Option.some.inj (t1_.symm.trans ht1)
 rw [d1_] at hd1
 have e1 := lits32 Tryz.underlying256 (by kernel_rfl) sqr_len hd1
 obtain ⟨T1, r1, k1⟩ := var_heap hg1 hv1
 obtain rfl := Option.some.inj (g2_.symm.trans hg2)
 obtain rfl := Option.some.inj (t2_.symm.trans ht2)
 rw [d2_] at hd2
 have e2 := lits64 Tryz.underlying40 (by kernel_rfl) rfl hd2
 obtain ⟨T2, r2, k2⟩ := var_heap hg2 hv2
 obtain rfl := Option.some.inj (g3_.symm.trans hg3)
 obtain rfl := Option.some.inj (t3_.symm.trans ht3)
 rw [d3_] at hd3
 have e3 := lits64 Tryz.underlying40 (by kernel_rfl) rfl hd3
 obtain ⟨T3, r3, k3⟩ := var_heap hg3 hv3
 obtain rfl := Option.some.inj (g4_.symm.trans hg4)
 obtain rfl := Option.some.inj (t4_.symm.trans ht4)
 rw [d4_] at hd4
 have e4 := lits64 Tryz.underlying40 (by kernel_rfl) rfl hd4
 obtain ⟨T4, r4, k4⟩ := var_heap hg4 hv4
 obtain rfl := Option.some.inj (g5_.symm.trans hg5)
 obtain rfl := Option.some.inj (t5_.symm.trans ht5)
 rw [d5_] at hd5
 have e5 := lits64 Tryz.underlying40 (by kernel_rfl) rfl hd5
 obtain ⟨T5, r5, k5⟩ := var_heap hg5 hv5
 intro r hr
 rcases List.mem_cons.1 hr with rfl | hr
 ·exact ⟨⟨T5, r5, by rw [← e5]; exact k5⟩, fun k hk => by cases hk; exact (Array.getElem?_eq_some_iff.1 k5).1⟩
 ·skip
  rcases List.mem_cons.1 hr with rfl | hr
  ·exact ⟨⟨T4, r4, by rw [← e4]; exact k4⟩, fun k hk => by cases hk; exact (Array.getElem?_eq_some_iff.1 k4).1⟩
  ·skip
   rcases List.mem_cons.1 hr with rfl | hr
   ·exact ⟨⟨T3, r3, by rw [← e3]; exact k3⟩, fun k hk => by cases hk; exact (Array.getElem?_eq_some_iff.1 k3).1⟩
   ·skip
    rcases List.mem_cons.1 hr with rfl | hr
    ·exact ⟨⟨T2, r2, by rw [← e2]; exact k2⟩, fun k hk => by cases hk; exact (Array.getElem?_eq_some_iff.1 k2).1⟩
    ·skip
     rcases List.mem_cons.1 hr with rfl | hr
     ·exact ⟨⟨T1, r1, by rw [← e1]; exact k1⟩, fun k hk => by cases hk; exact (Array.getElem?_eq_some_iff.1 k1).1⟩
     ·skip
      obtain rfl := List.mem_singleton.1 hr
      exact ⟨⟨T0, r0, by rw [← e0]; exact k0⟩, fun k hk => by cases hk; exact (Array.getElem?_eq_some_iff.1 k0).1⟩
section
variable {P : Program} {N : Nat} {C : Beg} {Q : Exit → Act → World → Prop} {E : Env} {Γ H : RL} {ty : TypeId} {ops : Array Oper} {rest : List Oper}
theorem Yv.iface {T : TypeId} {x : Operand} {v : Value} {u : TypeDesc} (hT : P.underlying T = some u) (hu : ∀ m, u ≠ .interface m) (hx : ev E x = some v) : Yv P N C E Γ H (.makeInterface T x) ty (.iface T v) := by
 intro dst pos aft gd a w he _
 cases u <;> first | exact absurd rfl (hu _) | simp [execOp, he.ev hx, Instr.makeInterface, underlying, hT]
theorem Yv.assert {T I : TypeId} {x : Operand} {v : Value} {u : TypeDesc} (hT : P.underlying T = some u) (hu : ∀ m, u ≠ .interface m) (hx : ev E x = some (.iface T v)) : Yv P N C E Γ H (.typeAssert x I T false) ty v := by
 intro dst pos aft gd a w he _
 cases u <;> first | exact absurd rfl (hu _) | simp [execOp, he.ev hx, Instr.typeAssert, underlying, hT]
def Row (P : Program) (t : TypeId) (name : String) (f : FuncId) (b : Bool) : Prop :=
 ((P.info? t).bind fun i => i.methods.find? (·.name == name)).map (fun m => (m.path.toList, m.func)) = some ([], some (f, b))
def Mth (P : Program) (Γ H : RL) (t : TypeId) (v : Value) (name : String) (f : FuncId) (r : Value) : Prop := ∀ w, Sat Γ H w → (method (P.types.size + Made.depth) t v name).run P w = .ok (f, r) w
theorem Mth.self {t e : TypeId} {v : Value} {name : String} {f : FuncId} (hr : Row P t name f true) (hu : P.underlying t = some (.pointer e)) : Mth P Γ H t v name f v := by
 intro w _
 obtain ⟨m, hm, hm2⟩ := Option.map_eq_some_iff.1 hr
 obtain ⟨i, hi, hf⟩ := Option.bind_eq_some_iff.1 hm
 simp only [Prod.mk.injEq] at hm2
 have hd : P.types.size + Made.depth = (P.types.size + (Made.depth - 1)) + 1 := by rw [Nat.add_assoc]; rfl
 rw [hd]
 simp [method, typeInfo, hi, hf, hm2.1, hm2.2, follow, receiverAt, underlying, hu, Place.get]
theorem run_nilChk {P : Program} {w : World} {xt : TypeId} {a : Addr} {s s' : String} : (Builtin.ssaWrapNilChk_ #[xt] xt #[.pointer (some a), strVal s, strVal s']).run P w = .ok (.pointer (some a)) w := rfl
theorem Mth.val {t e : TypeId} {b : Nat} {v : Value} {name : String} {f : FuncId} (hr : Row P t name f false) (hu : P.underlying t = some (.pointer e)) (ho : One P e) (hk : Kn Γ H ⟨b, 0, none⟩ v) : Mth P Γ H t (.pointer (some ⟨b, 0, none⟩)) name f v := by
 intro w hs
 obtain ⟨m, hm, hm2⟩ := Option.map_eq_some_iff.1 hr
 obtain ⟨i, hi, hf⟩ := Option.bind_eq_some_iff.1 hm
 simp only [Prod.mk.injEq] at hm2
 have hd : P.types.size + Made.depth = (P.types.size + (Made.depth - 1)) + 1 := by rw [Nat.add_assoc]; rfl
 rw [hd]
 have hc := hk w hs
 have hp : m.path = #[] := by simpa using hm2.1
 simp [method, typeInfo, hi, hf, hp, hm2.2, follow, receiverAt, underlying, hu, Place.get, run_nilChk, asAddr, loadVar, ho w, hc]
theorem Mv.callI {f : FuncId} {x : Operand} {t : TypeId} {u r : Value} {name : String} {xs : List Operand} {vs : List Value} {AT : Array TypeId} {Γc Hc G : RL} {post : Value → RL → RL → Prop} (hb : Body P f) (hf : ev E x = some (.iface t u)) (hx : evs E xs = some vs)
  (hm : Mth P Γ H t u name f r) (hc : Spec P f (r :: vs).toArray Γc Hc post) (hp : Picks Hc H G) (hg : Lends Γc (G ++ Γ)) (h0 : ∀ v Γ1 H1, post v Γ1 H1 → Γ1 = []) :
  Mv P N C E Γ H (.call { callee := .invoke x name, args := xs.toArray, argTypes := AT }) ty (fun v Γ' H' => ∃ H1, post v [] H1 ∧ Γ' = Γ ∧ H' = H1 ++ G) := by
 intro dst pos aft gd a w he hs K Q hK
 have hr : (execOp a.eval ⟨dst, .call { callee := .invoke x name, args := xs.toArray, argTypes := AT }, ty, pos, aft, gd⟩).run P w = .ok (.enter f (r :: vs).toArray) w := by
  have h1 := hb (r :: vs).toArray w
  have h2 : xs.toArray.map a.eval = vs.toArray := by rw [← he.evs hx]; simp
  have h3 := hm w hs.sat
  have h4 : (#[Value.iface t u] ++ vs.toArray)[0]? = some (.iface t u) := by simp
  have h5 : (#[Value.iface t u] ++ vs.toArray).extract 1 (#[Value.iface t u] ++ vs.toArray).size = vs.toArray := by simp
  have h6 : (#[r] ++ vs.toArray) = (r :: vs).toArray := by simp
  simp only [execOp, resolve, he.ev hf, h2, Sem.run_bind, Sem.run_pure, Result.andThen_ok, invoke, h4, h5, callMethod, run_program, h3, h6]
  exact h1
 have hst := hs.perm hp.perm
 simp only [Oper.wp, hr, Oper.upon]
 refine (hc w (hst.sat.lend hg)).mono ?_
 rintro e w' ⟨v, Γ', H', rfl, hpost, hst'⟩
 have e0 := h0 _ _ _ hpost
 subst e0
 have hst2 : St ⟨w, [], Hc⟩ [] H' w' := by
  refine ⟨⟨by simp, by simp, hst'.sat.hok, hst'.sat.hlt, hst'.sat.hdj, by simp⟩, hst'.stp, hst'.hsub, ?_⟩
  rintro k ⟨r, hr, _⟩
  cases hr
 have := hst.frame (Γc := []) (by simp) hst2
 exact hK _ _ _ _ ⟨_, hpost, rfl, rfl⟩ (by simpa using this)
theorem JO.callI {d : Nat} {pos : String} {aft : Array Edge} {f : FuncId} {x : Operand} {t : TypeId} {u r : Value} {name : String} {xs : List Operand} {vs : List Value} {AT : Array TypeId} {Γc Hc G : RL} {post : Value → RL → RL → Prop} (hc : Spec P f (r :: vs).toArray Γc Hc post) (hm : Mth P Γ H t u name f r) (hb : Body P f) (hf : ev E x = some (.iface t u)) (hx : evs E xs = some vs)
  (hp : Picks Hc H G) (hg : Lends Γc (G ++ Γ)) (h0 : ∀ v Γ1 H1, post v Γ1 H1 → Γ1 = []) (hd : d < N)
  (h : ∀ v H2, (∃ H1, post v [] H1 ∧ H2 = H1 ++ G) → JO P N C ops rest Q ((d, v) :: E) Γ H2) :
  JO P N C ops (⟨some d, .call { callee := .invoke x name, args := xs.toArray, argTypes := AT }, ty, pos, aft, none⟩ :: rest) Q E Γ H :=
 .m (Mv.callI hb hf hx hm hc hp hg h0) hd fun v Γ' H' ⟨H1, hp, hΓ, hH⟩ => by subst hΓ; exact h v H' ⟨H1, hp, hH⟩
theorem Sat.rowForm {v : Value} {n : Nat} {e : TypeId} {size : Nat} {xs : List Value} {w : World} (hs : Sat Γ H w) (hm : Res.row v n e size xs ∈ H) (h0 : 0 < n) : ∃ g c, v = .slice (some ⟨g, 0, none⟩) n c := by
 rcases (Res.row_ok.1 (hs.hok _ hm)).2 with ⟨_, h⟩ | ⟨g, cap, cur, rfl, _⟩
 ·omega
 ·exact ⟨g, cap, rfl⟩
theorem Yv.indexSlK {x ix : Operand} {T e : TypeId} {b o n c size j : Nat} {k : IntKind} (hT : P.underlying T = some (.slice e)) (hsz : (P.info? e).map (·.size) = some size) (hx : ev E x = some (.slice (some ⟨b, o, none⟩) n c)) (hi : ev E ix = some (.int k (j : Int)))
  (hj : j < n) : Yv P N C E Γ H (.indexAddr T x ix) ty (.pointer (some ⟨b, o + j * size, none⟩)) := by
 intro dst pos aft gd a w he _
 obtain ⟨i, hi1, hi2⟩ := Option.map_eq_some_iff.1 hsz
 have h1 : (0 : Int) ≤ j ∧ (j : Int) < n := by omega
 simp [execOp, he.ev hx, he.ev hi, Instr.indexAt, asIntOf, underlying, hT, h1, sizeOf, typeInfo, hi1, hi2, add_none, hj]
theorem Yv.indexSl0 {x ix : Operand} {T e : TypeId} {b n c size j : Nat} {k : IntKind} (hT : P.underlying T = some (.slice e)) (hsz : (P.info? e).map (·.size) = some size) (hx : ev E x = some (.slice (some ⟨b, 0, none⟩) n c)) (hi : ev E ix = some (.int k (j : Int)))
  (hj : j < n) : Yv P N C E Γ H (.indexAddr T x ix) ty (.pointer (some ⟨b, j * size, none⟩)) := by
 have := Yv.indexSlK (N := N) (C := C) (E := E) (Γ := Γ) (H := H) (ty := ty) hT hsz hx hi hj
 simpa using this
end
section
variable {P : Program} {N : Nat} {C : Beg} {Q : Exit → Act → World → Prop} {E : Env} {Γ H : RL} {ty : TypeId} {ops : Array Oper} {rest : List Oper}
end
theorem run_eqTwo {P : Program} {T : TypeId} {f1 f2 : Field} {k1 k2 q1 q2 : IntKind} (hT : P.underlying T = some (.struct #[f1, f2])) (h1 : P.underlying f1.type = some (.int q1)) (h2 : P.underlying f2.type = some (.int q2)) (o1 : f1.offset = 0) (o2 : f2.offset = 1)
  (n1 : f1.name ≠ "_") (n2 : f2.name ≠ "_") (hs : P.stoodInHeld T = false) (a b i j : Int) (d : Nat) (w : World) :
  (Op.equalIn (d + 2) T (.agg #[.int k1 a, .int k2 i]) (.agg #[.int k1 b, .int k2 j])).run P w = .ok (decide (a = b ∧ i = j)) w := by
 have p1 : ∀ (x y : Value), (part f1.type #[x, y] f1.offset).run P w = .ok x w := fun x y => run_parts h1 rfl (by rw [o1]; rfl)
 have p2 : ∀ (x y : Value), (part f2.type #[x, y] f2.offset).run P w = .ok y w := fun x y => run_parts h2 rfl (by rw [o2]; rfl)
 have e1 : ∀ a b : Int, (Op.equalIn (d + 1) f1.type (.int k1 a) (.int k1 b)).run P w = .ok (a == b) w := fun a b => by
  rw [Op.equalIn]
  simp [underlying, h1]
 have e2 : ∀ a b : Int, (Op.equalIn (d + 1) f2.type (.int k2 a) (.int k2 b)).run P w = .ok (a == b) w := fun a b => by
  rw [Op.equalIn]
  simp [underlying, h2]
 rw [Op.equalIn]
 simp only [underlying, Sem.run_bind, run_program, Result.andThen_ok, hT, Sem.run_pure, hs]
 by_cases hab : a = b
 ·by_cases hij : i = j
  ·simp [p1, p2, e1, e2, n1, n2, hab, hij]
  ·simp [p1, p2, e1, e2, n1, n2, hab, hij]
 ·simp [p1, e1, n1, hab]
end Go.Proofs.YtmhiapebljfebaaGreatDoor
