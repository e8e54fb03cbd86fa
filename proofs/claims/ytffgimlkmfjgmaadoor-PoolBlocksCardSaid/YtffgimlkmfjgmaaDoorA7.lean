/- Guards, joins, short forms of the rules, arrays held against each other. No program in sight. -/
import Derived.Test.YtffgimlkmfjgmaaDoorA6
namespace Go.Proofs.YtffgimlkmfjgmaaDoor
open Go.RowKit

section
variable {P : Program} {N : Nat} {C : Beg} {Q : Exit → Act → World → Prop} {E : Env} {Γ H : RL} {ty : TypeId} {ops : Array Oper} {rest : List Oper}

/-! ### Guards -/
theorem JO.gsplit {g : Nat} {b : Bool} {l : List Oper} (hg : lk E g = some (.bool b)) (ht : b = true → JO P N C ops l Q E Γ H) (hf : b = false → JO P N C ops l Q E Γ H) : JO P N C ops l Q E Γ H := by
  cases b
  · exact hf rfl
  · exact ht rfl
theorem JO.gt {o : Option Nat} {op : Op} {pos : String} {aft : Array Edge} {j g : Nat} {want b : Bool} (hj : ((ops[j]?).bind (·.dst)) = some g) (hg : lk E g = some (.bool b)) (hb : b = want)
    (h : JO P N C ops (⟨o, op, ty, pos, aft, none⟩ :: rest) Q E Γ H) : JO P N C ops (⟨o, op, ty, pos, aft, some (j, want)⟩ :: rest) Q E Γ H := by
  intro hn a w he hs
  have hy := yielded_of (ops := ops) he hj hg
  have := h hn a w he hs
  unfold wpList at this ⊢
  have h1 : Region.wanted ⟨o, op, ty, pos, aft, some (j, want)⟩ (yielded ops a.tmps) = true := by simp [Region.wanted, hy, hb]
  have h2 : Region.wanted ⟨o, op, ty, pos, aft, none⟩ (yielded ops a.tmps) = true := by simp [Region.wanted]
  rw [if_pos h2] at this
  rw [if_pos h1]
  exact this
theorem JO.gf {d : Nat} {op : Op} {pos : String} {aft : Array Edge} {j g : Nat} {want b : Bool} (hj : ((ops[j]?).bind (·.dst)) = some g) (hg : lk E g = some (.bool b)) (hb : b = !want) (hd : d < N)
    (h : JO P N C ops rest Q ((d, undef) :: E) Γ H) : JO P N C ops (⟨some d, op, ty, pos, aft, some (j, want)⟩ :: rest) Q E Γ H := by
  intro hn a w he hs
  have hy := yielded_of (ops := ops) he hj hg
  have h1 : Region.wanted ⟨some d, op, ty, pos, aft, some (j, want)⟩ (yielded ops a.tmps) = false := by subst hb; cases want <;> simp [Region.wanted, hy]
  unfold wpList
  rw [if_neg (by rw [h1]; decide)]
  exact h hn _ w (he.put d hd undef) hs
theorem JO.gf0 {op : Op} {pos : String} {aft : Array Edge} {j g : Nat} {want b : Bool} (hj : ((ops[j]?).bind (·.dst)) = some g) (hg : lk E g = some (.bool b)) (hb : b = !want)
    (h : JO P N C ops rest Q E Γ H) : JO P N C ops (⟨none, op, ty, pos, aft, some (j, want)⟩ :: rest) Q E Γ H := by
  intro hn a w he hs
  have hy := yielded_of (ops := ops) he hj hg
  have h1 : Region.wanted ⟨none, op, ty, pos, aft, some (j, want)⟩ (yielded ops a.tmps) = false := by subst hb; cases want <;> simp [Region.wanted, hy]
  unfold wpList
  rw [if_neg (by rw [h1]; decide)]
  exact h hn _ w he hs
theorem Yv.pick1 {c x y : Operand} {b : Bool} {v : Value} (hc : ev E c = some (.bool b)) (hb : b = true) (hx : ev E x = some v) : Yv P N C E Γ H (.pick c x y) ty v := by
  subst hb; exact Yv.pick_t hc hx
theorem Yv.pick0 {c x y : Operand} {b : Bool} {v : Value} (hc : ev E c = some (.bool b)) (hb : b = false) (hy : ev E y = some v) : Yv P N C E Γ H (.pick c x y) ty v := by
  subst hb; exact Yv.pick_f hc hy

theorem JR.gsplit {T M U : Nat → Bool} {Γ0 H0 : RL} {g : Nat} {b : Bool} {l : OT} (hg : lk E g = some (.bool b)) (ht : b = true → JR P N C ops T M U Γ0 H0 l Q E Γ H) (hf : b = false → JR P N C ops T M U Γ0 H0 l Q E Γ H) : JR P N C ops T M U Γ0 H0 l Q E Γ H := by
  cases b
  · exact hf rfl
  · exact ht rfl
section
variable {T M U : Nat → Bool} {Γ0 H0 : RL} {l : OT}
theorem JR.gf {i d : Nat} {op : Op} {pos : String} {aft : Array Edge} {j g : Nat} {want b : Bool} (ho : ops[i]? = some ⟨some d, op, ty, pos, aft, some (j, want)⟩) (hM : M i = false)
    (hj : ((ops[j]?).bind (·.dst)) = some g) (hg : lk E g = some (.bool b)) (hb : b = !want) (hd : d < N)
    (h : JR P N C ops T M U Γ0 H0 l Q ((d, undef) :: E) Γ H) : JR P N C ops T M U Γ0 H0 (.one i l) Q E Γ H := by
  have hne : b ≠ want := by subst hb; cases want <;> decide
  exact JR.gv (fun _ => undef) ho hM hj hg (fun e => absurd e hne) hd (fun e => absurd e hne) (fun _ => h)
theorem JR.gfm {i d : Nat} {op : Op} {pos : String} {aft : Array Edge} {j g : Nat} {want b : Bool} (ho : ops[i]? = some ⟨some d, op, ty, pos, aft, some (j, want)⟩) (hM : M i = true)
    (hj : ((ops[j]?).bind (·.dst)) = some g) (hg : lk E g = some (.bool b)) (hb : b = !want) (hd : d < N)
    (hk : (∀ r ∈ Γ0, r ∈ Γ) ∧ (T i = true ∨ ∀ w, St C Γ H w → St C Γ0 H0 w))
    (h : JR P N C ops T M U Γ0 H0 l Q ((d, undef) :: E) Γ H) : JR P N C ops T M U Γ0 H0 (.one i l) Q E Γ H := by
  have hne : b ≠ want := by subst hb; cases want <;> decide
  exact JR.gm (post := fun _ _ _ => False) ho hM hj hg (fun e => absurd e hne) hd (fun e => absurd e hne) (fun _ => ⟨hk, h⟩)
theorem JR.vgt {i d : Nat} {op : Op} {pos : String} {aft : Array Edge} {j g : Nat} {want b : Bool} {v : Value} (ho : ops[i]? = some ⟨some d, op, ty, pos, aft, some (j, want)⟩) (hM : M i = false) (hU : U i = false)
    (hj : ((ops[j]?).bind (·.dst)) = some g) (hg : lk E g = some (.bool b)) (hb : b = want) (hv : Yv P N C E Γ0 H0 op ty v) (hd : d < N)
    (h : JR P N C ops T M U Γ0 H0 l Q ((d, v) :: E) Γ H) : JR P N C ops T M U Γ0 H0 (.one i l) Q E Γ H :=
  JR.gv (fun _ => v) ho hM hj hg (fun _ => by rw [hU]; exact hv) hd (fun _ => h) (fun e => absurd hb e)
theorem JR.ugt {i d : Nat} {op : Op} {pos : String} {aft : Array Edge} {j g : Nat} {want b : Bool} {v : Value} (ho : ops[i]? = some ⟨some d, op, ty, pos, aft, some (j, want)⟩) (hM : M i = false) (hU : U i = true)
    (hj : ((ops[j]?).bind (·.dst)) = some g) (hg : lk E g = some (.bool b)) (hb : b = want) (hv : Yv P N C E Γ0 [] op ty v) (hd : d < N)
    (h : JR P N C ops T M U Γ0 H0 l Q ((d, v) :: E) Γ H) : JR P N C ops T M U Γ0 H0 (.one i l) Q E Γ H :=
  JR.gv (fun _ => v) ho hM hj hg (fun _ => by rw [hU]; exact hv) hd (fun _ => h) (fun e => absurd hb e)
theorem JR.mgt {i d : Nat} {op : Op} {pos : String} {aft : Array Edge} {j g : Nat} {want b : Bool} {post : Value → RL → RL → Prop} (ho : ops[i]? = some ⟨some d, op, ty, pos, aft, some (j, want)⟩) (hM : M i = true)
    (hj : ((ops[j]?).bind (·.dst)) = some g) (hg : lk E g = some (.bool b)) (hb : b = want) (hm : Mv P N C E Γ H op ty post) (hd : d < N)
    (h : ∀ v Γ' H', post v Γ' H' → ((∀ r ∈ Γ0, r ∈ Γ') ∧ (T i = true ∨ ∀ w, St C Γ' H' w → St C Γ0 H0 w)) ∧ JR P N C ops T M U Γ0 H0 l Q ((d, v) :: E) Γ' H') : JR P N C ops T M U Γ0 H0 (.one i l) Q E Γ H :=
  JR.gm ho hM hj hg (fun _ => hm) hd (fun _ => h) (fun e => absurd hb e)
end

/-! ### Ways within a statement that meet again -/
theorem wpList_append {K : Act → World → Prop} {l2 : List Oper} (hK : ∀ a w, K a w → wpList P ops Q l2 a w) : ∀ (l1 : List Oper) (a : Act) (w : World),
    wpList P ops (Exit.then K Q) l1 a w → wpList P ops Q (l1 ++ l2) a w
  | [], _, _, h => hK _ _ h
  | o :: l1, a, w, h => by
    have ih := wpList_append hK l1
    simp only [List.cons_append]
    unfold wpList at h ⊢
    split
    · rename_i hw
      rw [if_pos hw] at h
      rcases h with h | ⟨h1, a0, w0, h2⟩
      · refine .inl ?_
        unfold Oper.wp at *
        generalize (execOp a.eval o).run P w = r at *
        cases r with
        | ok n w' =>
          cases n <;> simp only [Oper.upon] at h ⊢ <;>
            first
              | exact ih _ _ h
              | exact Calls.mono h (fun e w'' he => by cases e <;> first | exact ih _ _ he | exact he)
              | exact Rows.mono h (fun _ _ he => ih _ _ he)
              | exact h
        | halt x w' => cases x <;> simp only [Oper.upon] at h ⊢ <;> exact h
      · exact .inr ⟨h1, a0, w0, h2⟩
    · rename_i hw
      rw [if_neg hw] at h
      exact ih _ _ h

/-- Where ways meet: slot d holds v, all else that was known is known. -/
theorem JO.join {l : List Oper} (k d : Nat) (v : Value) (h1 : JO P N C ops (l.take k) (Exit.then (Head N C (fun _ : Unit => (d, v) :: E) (fun _ => Γ) (fun _ => H) (fun _ => True)) Q) E Γ H)
    (h2 : JO P N C ops (l.drop k) Q ((d, v) :: E) Γ H) : JO P N C ops l Q E Γ H := by
  intro hn a w he hs
  rw [← List.take_append_drop k l]
  exact wpList_append (fun a' w' ⟨_, _, hea, hst⟩ => h2 hn a' w' hea hst) _ _ _ (h1 hn.then a w he hs)

/-! ### Short forms -/
/-- The value, said otherwise. -/
theorem Yv.as {op : Op} {v v' : Value} (h : Yv P N C E Γ H op ty v) (e : v = v') : Yv P N C E Γ H op ty v' := e ▸ h
theorem Yv.indexArr1 {T e n : Nat} {x ix : Operand} {b j : Nat} {k : IntKind} (hT : P.underlying T = some (.array n e)) (hs : (P.info? e).map (·.size) = some 1)
    (hx : ev E x = some (ptr b 0)) (hi : ev E ix = some (.int k (j : Int))) (hj : j < n) : Yv P N C E Γ H (.indexAddr T x ix) ty (ptr b j) := by
  have := Yv.indexArr_u (N := N) (C := C) (E := E) (Γ := Γ) (H := H) (ty := ty) hT hs hx hi hj
  simpa using this
theorem Yv.indexArr1o {T e n : Nat} {x ix : Operand} {b o j : Nat} {k : IntKind} (hT : P.underlying T = some (.array n e)) (hs : (P.info? e).map (·.size) = some 1)
    (hx : ev E x = some (ptr b o)) (hi : ev E ix = some (.int k (j : Int))) (hj : j < n) : Yv P N C E Γ H (.indexAddr T x ix) ty (ptr b (o + j)) := by
  have := Yv.indexArr_u (N := N) (C := C) (E := E) (Γ := Γ) (H := H) (ty := ty) hT hs hx hi hj
  simpa using this
theorem Yv.indexRd1 {x ix : Operand} {T e : TypeId} {v : Value} {n j : Nat} {xs : List Value} {k : IntKind} (hT : P.underlying T = some (.slice e)) (hsz : (P.info? e).map (·.size) = some 1) (hx : ev E x = some v) (hi : ev E ix = some (.int k (j : Int)))
    (hm : Lend (Res.rd v n 1 xs) (H ++ Γ)) (hj : j < n) : Yv P N C E Γ H (.indexAddr T x ix) ty (ptr (blk v) (off v + j)) := by
  have := Yv.indexRd (N := N) (C := C) (E := E) (Γ := Γ) (H := H) (ty := ty) hT hsz hx hi hm (by decide) hj
  simpa using this
theorem Yv.indexRow1 {x ix : Operand} {T e : TypeId} {v : Value} {n j : Nat} {xs : List Value} {k : IntKind} (hT : P.underlying T = some (.slice e)) (hsz : (P.info? e).map (·.size) = some 1) (hx : ev E x = some v) (hi : ev E ix = some (.int k (j : Int)))
    (hm : Res.row v n e 1 xs ∈ H) (hj : j < n) : Yv P N C E Γ H (.indexAddr T x ix) ty (ptr (blk v) j) := by
  have := Yv.indexRow (N := N) (C := C) (E := E) (Γ := Γ) (H := H) (ty := ty) hT hsz hx hi hm hj
  simpa using this
theorem JO.storeRow1 {T : TypeId} {pos : String} {aft : Array Edge} {x y : Operand} {v u : Value} {o n : Nat} {e : TypeId} {xs : List Value} {H' : RL} (hT : (P.info? T).map (·.size) = some 1) (hx : ev E x = some (ptr (blk v) o)) (hy : ev E y = some u)
    (h1 : u.oneCell' = true) (hp : Upd H (Res.row v n e 1 xs) (Res.row v n e 1 (xs.set o u)) H') (hl : o < n) (hlen : xs.length = n)
    (h : JO P N C ops rest Q E Γ H') : JO P N C ops (⟨none, .store T x y, ty, pos, aft, none⟩ :: rest) Q E Γ H := by
  subst hlen
  have e := splice_one (cs := xs) (o := o) (v := u) hl
  exact JO.storeRow (us := [u]) (xs := xs) hT hx hy (one_cells h1) rfl (by simpa using h1) (by rw [e]; exact hp) (by omega) (by omega) h
theorem Kn.rd2 {v : Value} {n size i j : Nat} {xs : List Value} {u : Value} (hm : Lend (Res.rd v n size xs) (H ++ Γ)) (hj : xs[i + j]? = some u) : Kn Γ H ⟨blk v, off v + i + j, none⟩ u := by
  rw [Nat.add_assoc]; exact Kn.rd hm hj

theorem Pull.eq {r r' : Res} (l : RL) (e : r' = r) : Pull r (r' :: l) l := e ▸ Pull.here r' l
theorem gm {α : Type} {f : α → Value} {xs : List α} {k : Nat} {d : α} (h : k < xs.length) : (xs.map f)[k]? = some (f (xs.getD k d)) := by
  simp [List.getElem?_eq_getElem h, List.getD_eq_getElem?_getD]
/-- The values of f, n of them. -/
def tab (n : Nat) (f : Nat → Value) : List Value := (List.range n).map f
theorem tab_get {n : Nat} {f : Nat → Value} {j : Nat} (h : j < n) : (tab n f)[j]? = some (f j) := by
  simp [tab, List.getElem?_range h]
theorem tab_len {n : Nat} {f : Nat → Value} : (tab n f).length = n := by simp [tab]
theorem tab_set {n : Nat} {f : Nat → Value} {j : Nat} {v : Value} : (tab n f).set j v = tab n (fun i => if i = j then v else f i) := by
  apply List.ext_getElem?
  intro i
  rw [List.getElem?_set]
  by_cases hij : j = i
  · subst hij
    rw [if_pos rfl, tab_len]
    by_cases h : j < n
    · rw [if_pos h, tab_get h]; simp
    · rw [if_neg h, List.getElem?_eq_none (by rw [tab_len]; omega)]
  · rw [if_neg hij]
    by_cases h : i < n
    · rw [tab_get h, tab_get h, if_neg (Ne.symm hij)]
    · rw [List.getElem?_eq_none (by rw [tab_len]; omega), List.getElem?_eq_none (by rw [tab_len]; omega)]
theorem tab_congr {n : Nat} {f g : Nat → Value} (h : ∀ i, i < n → f i = g i) : tab n f = tab n g :=
  List.map_congr_left fun i hi => h i (List.mem_range.1 hi)
theorem one_map {α : Type} {f : α → Value} {xs : List α} (h : ∀ x, (f x).oneCell' = true) : ∀ a ∈ xs.map f, a.oneCell' = true := by
  intro a ha
  obtain ⟨x, _, rfl⟩ := List.mem_map.1 ha
  exact h x
theorem one_tab {n : Nat} {f : Nat → Value} (h : ∀ x, (f x).oneCell' = true) : ∀ a ∈ tab n f, a.oneCell' = true := one_map h

theorem Mv.store1 {T : TypeId} {x y : Operand} {b o : Nat} {v : Value} {cs : List Value} {T' : TypeId} {H' : RL} (hT : (P.info? T).map (·.size) = some 1) (hx : ev E x = some (ptr b o)) (hy : ev E y = some v)
    (h1 : v.oneCell' = true) (hu : Upd H (Res.cells b cs T') (Res.cells b (cs.set o v) T') H') (hl : o < cs.length) : Mv P N C E Γ H (.store T x y) ty (fun _ Γ1 H1 => Γ1 = Γ ∧ H1 = H') :=
  .store (vs := [v]) hT hx hy (one_cells h1) rfl (by simpa using h1) (by rw [splice_one hl]; exact hu) hl
theorem Mv.storeRow1 {T : TypeId} {x y : Operand} {v u : Value} {o n : Nat} {e : TypeId} {xs : List Value} {H' : RL} (hT : (P.info? T).map (·.size) = some 1) (hx : ev E x = some (ptr (blk v) o)) (hy : ev E y = some u)
    (h1 : u.oneCell' = true) (hp : Upd H (Res.row v n e 1 xs) (Res.row v n e 1 (xs.set o u)) H') (hl : o < n) (hlen : xs.length = n) : Mv P N C E Γ H (.store T x y) ty (fun _ Γ1 H1 => Γ1 = Γ ∧ H1 = H') := by
  subst hlen
  have e := splice_one (cs := xs) (o := o) (v := u) hl
  exact Mv.storeRow (us := [u]) (xs := xs) hT hx hy (one_cells h1) rfl (by simpa using h1) (by rw [e]; exact hp) (by omega) (by omega)
/-- A block written anew as a whole. -/
theorem splice_all {cs vs : List Value} (h : vs.length = cs.length) : splice cs 0 vs = vs := by simp [splice, h]
theorem Mv.storeAll {T n : TypeId} {x y : Operand} {b : Nat} {v : Value} {vs cs : List Value} {T' : TypeId} {H' : RL} (hT : (P.info? T).map (·.size) = some n) (hx : ev E x = some (ptr b 0)) (hy : ev E y = some v)
    (hv : v.cells = vs.toArray) (hn : vs.length = n) (h1 : ∀ u ∈ vs, u.oneCell' = true) (hu : Upd H (Res.cells b cs T') (Res.cells b vs T') H') (hl : cs.length = n) :
    Mv P N C E Γ H (.store T x y) ty (fun _ Γ1 H1 => Γ1 = Γ ∧ H1 = H') :=
  .store (o := 0) (cs := cs) hT hx hy hv hn h1 (by rw [splice_all (cs := cs) (by omega)]; exact hu) (by omega)
theorem JO.storeAll {T n : TypeId} {pos : String} {aft : Array Edge} {x y : Operand} {b : Nat} {v : Value} {vs cs : List Value} {T' : TypeId} {H' : RL} (hT : (P.info? T).map (·.size) = some n) (hx : ev E x = some (ptr b 0)) (hy : ev E y = some v)
    (hv : v.cells = vs.toArray) (hn : vs.length = n) (h1 : ∀ u ∈ vs, u.oneCell' = true) (hu : Upd H (Res.cells b cs T') (Res.cells b vs T') H') (hl : cs.length = n)
    (h : JO P N C ops rest Q E Γ H') : JO P N C ops (⟨none, .store T x y, ty, pos, aft, none⟩ :: rest) Q E Γ H :=
  .m0 (Mv.storeAll hT hx hy hv hn h1 hu hl) fun v Γ' H' ⟨hΓ, hH⟩ => by subst hΓ hH; exact h

/-! ### A slice written out, each element given -/
theorem flatMap_get {f : Value → List Value} {s : Nat} (hs : 0 < s) : ∀ (vs : List Value), (∀ v ∈ vs, (f v).length = s) → ∀ k, (vs.flatMap f)[k]? = (vs[k / s]?).bind fun v => (f v)[k % s]?
  | [], _, k => by simp
  | v :: vs, h, k => by
    have h1 := h v List.mem_cons_self
    rw [List.flatMap_cons]
    rcases Nat.lt_or_ge k s with hk | hk
    · rw [List.getElem?_append_left (by omega), Nat.div_eq_of_lt hk, Nat.mod_eq_of_lt hk]; rfl
    · rw [List.getElem?_append_right (by omega), flatMap_get hs vs (fun u hu => h u (List.mem_cons_of_mem _ hu)), h1]
      have e1 : k / s = (k - s) / s + 1 := by rw [← Nat.sub_add_cancel hk, Nat.add_div_right _ hs]; simp
      have e2 : k % s = (k - s) % s := by rw [← Nat.sub_add_cancel hk, Nat.add_mod_right]; simp
      rw [e1, e2]; rfl
theorem flatMap_len {f : Value → List Value} {s : Nat} : ∀ (vs : List Value), (∀ v ∈ vs, (f v).length = s) → (vs.flatMap f).length = vs.length * s
  | [], _ => by simp
  | v :: vs, h => by
    rw [List.flatMap_cons, List.length_append, h v List.mem_cons_self, flatMap_len vs (fun u hu => h u (List.mem_cons_of_mem _ hu)), List.length_cons, Nat.add_mul]
    omega
theorem Mv.lit {t e : TypeId} {len : Nat} {parts : List (Nat × Operand)} {vs : List Value} {z : Value} {size bytes : Nat} (hu : P.underlying t = some (.slice e))
    (hinfo : (P.info? e).map (fun i => (i.zero, i.size, i.bytes)) = some (some z, size, bytes)) (hidx : parts.map (·.1) = List.range len) (hp : evs E (parts.map (·.2)) = some vs) (hsz : ∀ v ∈ vs, v.cells.size = size)
    (hsmall : len * size ≤ 2 ^ 24) (hpos : 0 < len * size) (hm : len ≤ maxLen) :
    Mv P N C E Γ H (.buildSlice t len parts.toArray) ty (fun v Γ' H' => Γ' = Γ ∧ H' = Res.row v len e size (vs.flatMap fun v => v.cells.toList) :: H) := by
  intro dst pos aft gd a w he hs K Q hK
  obtain ⟨i, hi, hzz⟩ := Option.map_eq_some_iff.1 hinfo
  simp only [Prod.mk.injEq] at hzz
  obtain ⟨hz0, hz1, hz2⟩ := hzz
  have hs0 : 0 < size := by rcases Nat.eq_zero_or_pos size with h | h; subst h; omega; exact h
  have hvs := he.evs hp
  have hlen : vs.length = len := by rw [← hvs, List.length_map, List.length_map, ← List.length_map (f := (·.1)), hidx, List.length_range]
  have hpl : parts.length = len := by rw [← List.length_map (f := (·.1)), hidx, List.length_range]
  have hpp : (parts.toArray.map fun (i, x) => (i, a.eval x)).toList = (vs.zipIdx 0).map fun x => (x.2, x.1) := by
    rw [← hvs]
    apply List.ext_getElem?
    intro j
    simp only [Array.toList_map, List.getElem?_map, List.getElem?_zipIdx, List.map_map, Nat.zero_add]
    have h1 : (parts.map (·.1))[j]? = (List.range len)[j]? := by rw [hidx]
    rw [List.getElem?_map] at h1
    cases hq : parts[j]? with
    | none => simp
    | some p =>
      have hj := (List.getElem?_eq_some_iff.1 hq).1
      rw [hq, List.getElem?_range (by omega)] at h1
      have : p.1 = j := by simpa using h1
      simp [← this]
  have hzs : ((Array.range (len * size)).map (z.cells[· % z.cells.size]!)).size = len * size := by simp
  obtain ⟨r, hr, hrs, hrk⟩ := Great.fill_dense (s := size) hs0 vs 0 ((Array.range (len * size)).map (z.cells[· % z.cells.size]!)) hsz (by rw [hzs, hlen, Nat.zero_add]; exact Nat.le_refl _)
  have hcs : r = (vs.flatMap fun v => v.cells.toList).toArray := by
    apply Array.ext'
    apply List.ext_getElem?
    intro k
    rw [flatMap_get (f := fun v => v.cells.toList) hs0 vs (fun v hv => by simpa using hsz v hv)]
    have := hrk k
    simp only [Nat.zero_mul, Nat.zero_le, true_and, Nat.zero_add, Nat.sub_zero, hlen] at this
    rw [Array.getElem?_toList, this]
    rcases Nat.lt_or_ge k (len * size) with hk | hk
    · rw [if_pos hk]; simp
    · rw [if_neg (by omega), Array.getElem?_eq_none (by rw [hzs]; exact hk)]
      have : vs[k / size]? = none := List.getElem?_eq_none (by rw [hlen]; exact (Nat.le_div_iff_mul_le hs0).2 hk)
      rw [this]; rfl
  rw [hcs] at hr
  have hrun := run_buildSlice (P := P) w t e len (parts.toArray.map fun (i, x) => (i, a.eval x)) _ i z hu hi hz0 (by rw [hz1]; omega) (by rw [hz1]; omega) (by rw [hz1, hpp]; exact hr)
  have hr' : (execOp a.eval ⟨dst, .buildSlice t len parts.toArray, ty, pos, aft, gd⟩).run P w = .ok (.value (.slice (some ⟨w.heap.size, 0, none⟩) len len)) (w.alloc (.cells (vs.flatMap fun v => v.cells.toList).toArray e)) := by
    simp only [execOp, Sem.run_bind, hrun, Result.andThen_ok, Sem.run_pure]
  simp only [Oper.wp, hr', Oper.upon]
  exact hK _ _ _ _ ⟨rfl, rfl⟩ ((hs.alloc _ e).cellsRow (by rw [flatMap_len (s := size) vs (fun v hv => by simpa using hsz v hv), hlen]) hm)
/-- Each element of one cell. -/
theorem flatMap_one : ∀ (vs : List Value), (∀ v ∈ vs, v.oneCell' = true) → (vs.flatMap fun v => v.cells.toList) = vs
  | [], _ => rfl
  | v :: vs, h => by
    rw [List.flatMap_cons, one_cells (h v List.mem_cons_self), flatMap_one vs (fun u hu => h u (List.mem_cons_of_mem _ hu))]
    rfl
theorem Mv.lit1 {t e : TypeId} {len : Nat} {parts : List (Nat × Operand)} {vs : List Value} {z : Value} {bytes : Nat} (hu : P.underlying t = some (.slice e))
    (hinfo : (P.info? e).map (fun i => (i.zero, i.size, i.bytes)) = some (some z, 1, bytes)) (hidx : parts.map (·.1) = List.range len) (hp : evs E (parts.map (·.2)) = some vs) (h1 : ∀ v ∈ vs, v.oneCell' = true)
    (hsmall : len ≤ 2 ^ 24) (hpos : 0 < len) :
    Mv P N C E Γ H (.buildSlice t len parts.toArray) ty (fun v Γ' H' => Γ' = Γ ∧ H' = Res.row v len e 1 vs :: H) := by
  have := Mv.lit (N := N) (C := C) (E := E) (Γ := Γ) (H := H) (ty := ty) hu hinfo hidx hp (fun v hv => by rw [one_cells (h1 v hv)]; rfl) (by omega) (by omega) (by unfold maxLen; omega)
  rw [flatMap_one vs h1] at this
  exact this
theorem JO.lit {d : Nat} {pos : String} {aft : Array Edge} {t e : TypeId} {len : Nat} {parts : List (Nat × Operand)} {vs : List Value} {z : Value} {size bytes : Nat} (hu : P.underlying t = some (.slice e))
    (hinfo : (P.info? e).map (fun i => (i.zero, i.size, i.bytes)) = some (some z, size, bytes)) (hidx : parts.map (·.1) = List.range len) (hp : evs E (parts.map (·.2)) = some vs) (hsz : ∀ v ∈ vs, v.cells.size = size)
    (hsmall : len * size ≤ 2 ^ 24) (hpos : 0 < len * size) (hm : len ≤ maxLen) (hd : d < N)
    (h : ∀ v, JO P N C ops rest Q ((d, v) :: E) Γ (Res.row v len e size (vs.flatMap fun v => v.cells.toList) :: H)) : JO P N C ops (⟨some d, .buildSlice t len parts.toArray, ty, pos, aft, none⟩ :: rest) Q E Γ H :=
  .m (Mv.lit hu hinfo hidx hp hsz hsmall hpos hm) hd fun v Γ' H' ⟨hΓ, hH⟩ => by subst hΓ hH; exact h v
theorem JO.lit1 {d : Nat} {pos : String} {aft : Array Edge} {t e : TypeId} {len : Nat} {parts : List (Nat × Operand)} {vs : List Value} {z : Value} {bytes : Nat} (hu : P.underlying t = some (.slice e))
    (hinfo : (P.info? e).map (fun i => (i.zero, i.size, i.bytes)) = some (some z, 1, bytes)) (hidx : parts.map (·.1) = List.range len) (hp : evs E (parts.map (·.2)) = some vs) (h1 : ∀ v ∈ vs, v.oneCell' = true)
    (hsmall : len ≤ 2 ^ 24) (hpos : 0 < len) (hd : d < N)
    (h : ∀ v, JO P N C ops rest Q ((d, v) :: E) Γ (Res.row v len e 1 vs :: H)) : JO P N C ops (⟨some d, .buildSlice t len parts.toArray, ty, pos, aft, none⟩ :: rest) Q E Γ H :=
  .m (Mv.lit1 hu hinfo hidx hp h1 hsmall hpos) hd fun v Γ' H' ⟨hΓ, hH⟩ => by subst hΓ hH; exact h v

/-! ### Several results -/
def resv (tmps : Array Value) (r : ResultVar) : Sem Value :=
  match r with
  | .tmp t => pure (tmps.getD t undef)
  | .cell a t => do loadVar t (← asAddr (tmps.getD a undef))
theorem results_resv (fn : Func) (tmps : Array Value) : results fn tmps = (do let vs ← fn.results.mapM (resv tmps); pure (if h : vs.size = 1 then vs[0] else .tuple vs)) := rfl
def RV (P : Program) (N : Nat) (C : Beg) (E : Env) (Γ H : RL) (r : ResultVar) (v : Value) : Prop :=
  ∀ a w, EnvOk N E a → St C Γ H w → (resv a.tmps r).run P w = .ok v w
theorem RV.tmp {t : Nat} {v : Value} (h : lk E t = some v) : RV P N C E Γ H (.tmp t) v := fun a w he _ => by
  have := he.val t v h
  simp only [resv, this, Sem.run_pure]
theorem RV.cell {t T n b : Nat} {cs : List Value} {T' : TypeId} (hA : Agg P T n) (hm : Res.cells b cs T' ∈ H) (ht : lk E t = some (ptr b 0)) (hn : cs.length = n) : RV P N C E Γ H (.cell t T) (.agg cs.toArray) := fun a w he hs => by
  have hv := he.val t _ ht
  have hc := run_loadCells_list (P := P) w ⟨b, 0, none⟩ cs (fun j v hj => by rw [add_none, Nat.zero_add]; exact Kn.own hm hj w hs.sat)
  subst hn
  rw [Array.getD_eq_getD_getElem?] at hv
  simp [resv, hv, asAddr, loadVar, (hA w).1, (hA w).2, hc]
section
variable {fn : Func} {r1 r2 r3 : ResultVar} {v1 v2 v3 : Value}
theorem res1 (h : fn.results = #[r1]) (h1 : RV P N C E Γ H r1 v1) : ∀ a w, EnvOk N E a → St C Γ H w → (results fn a.tmps).run P w = .ok v1 w := by
  intro a w he hs
  have e1 := h1 a w he hs
  rw [results_resv, h]
  generalize resv a.tmps = g at *
  simp [e1]
theorem res2 (h : fn.results = #[r1, r2]) (h1 : RV P N C E Γ H r1 v1) (h2 : RV P N C E Γ H r2 v2) : ∀ a w, EnvOk N E a → St C Γ H w → (results fn a.tmps).run P w = .ok (.tuple #[v1, v2]) w := by
  intro a w he hs
  have e1 := h1 a w he hs
  have e2 := h2 a w he hs
  rw [results_resv, h]
  generalize resv a.tmps = g at *
  simp [e1, e2]
theorem res3 (h : fn.results = #[r1, r2, r3]) (h1 : RV P N C E Γ H r1 v1) (h2 : RV P N C E Γ H r2 v2) (h3 : RV P N C E Γ H r3 v3) : ∀ a w, EnvOk N E a → St C Γ H w → (results fn a.tmps).run P w = .ok (.tuple #[v1, v2, v3]) w := by
  intro a w he hs
  have e1 := h1 a w he hs
  have e2 := h2 a w he hs
  have e3 := h3 a w he hs
  rw [results_resv, h]
  generalize resv a.tmps = g at *
  simp [e1, e2, e3]
end

/-- A value of several cells, out of one's own block; out of a slice that is read, or one's own row. -/
theorem Yv.loadOwn {T T' n b : Nat} {x : Operand} {cs : List Value} (hA : Agg P T n) (hm : Res.cells b cs T' ∈ H) (hx : ev E x = some (ptr b 0)) (hl : cs.length = n) : Yv P N C E Γ H (.load T x) ty (.agg cs.toArray) :=
  .loadA hA hx hl fun i v hv => by rw [Nat.zero_add]; exact Kn.own hm hv
theorem getElem?_piece {xs : List Value} {o n i : Nat} {v : Value} (h : ((xs.drop o).take n)[i]? = some v) : xs[o + i]? = some v := by
  have hlt : i < n := by have := (List.getElem?_eq_some_iff.1 h).1; simp at this; omega
  rw [List.getElem?_take_of_lt hlt, List.getElem?_drop] at h
  exact h
theorem Yv.loadOwnAt {T T' n b o : Nat} {x : Operand} {cs : List Value} (hA : Agg P T n) (hm : Res.cells b cs T' ∈ H) (hx : ev E x = some (ptr b o)) (hl : o + n ≤ cs.length) : Yv P N C E Γ H (.load T x) ty (.agg ((cs.drop o).take n).toArray) :=
  .loadA hA hx (by simp; omega) fun _ _ hv => Kn.own hm (getElem?_piece hv)
theorem Yv.loadRo {T T' n b o : Nat} {x : Operand} {cs : List Value} (hA : Agg P T n) (hm : Res.cells b cs T' ∈ Γ) (hx : ev E x = some (ptr b o)) (hl : o + n ≤ cs.length) : Yv P N C E Γ H (.load T x) ty (.agg ((cs.drop o).take n).toArray) :=
  .loadA hA hx (by simp; omega) fun _ _ hv => Kn.ro hm (getElem?_piece hv)
theorem Yv.loadRd {T n m size j : Nat} {x : Operand} {u : Value} {xs : List Value} (hA : Agg P T n) (hm : Lend (Res.rd u m size xs) (H ++ Γ)) (hx : ev E x = some (ptr (blk u) (off u + j))) (hl : j + n ≤ xs.length) : Yv P N C E Γ H (.load T x) ty (.agg ((xs.drop j).take n).toArray) :=
  .loadA hA hx (by simp; omega) fun i _ hv => by rw [Nat.add_assoc]; exact Kn.rd hm (getElem?_piece hv)
theorem Yv.loadRow {T n m size j : Nat} {x : Operand} {u : Value} {e : TypeId} {xs : List Value} (hA : Agg P T n) (hm : Res.row u m e size xs ∈ H) (hx : ev E x = some (ptr (blk u) j)) (hl : j + n ≤ xs.length) : Yv P N C E Γ H (.load T x) ty (.agg ((xs.drop j).take n).toArray) :=
  .loadA hA hx (by simp; omega) fun _ _ hv => Kn.row hm (getElem?_piece hv)

/-- A byte of a string. -/
theorem Yv.indexStr {T : TypeId} {x ix : Operand} {s : ByteArray} {k : IntKind} {j : Nat} (hT : P.underlying T = some .string) (hx : ev E x = some (.string s)) (hi : ev E ix = some (.int k (j : Int))) (hj : j < s.size) :
    Yv P N C E Γ H (.index T x ix) ty (u8 (s[j]).toBitVec) := by
  intro dst pos aft gd a w he _
  have h1 : (0 : Int) ≤ j := by omega
  have h2 : s[j]? = some s[j] := by simp [hj]
  simp [execOp, he.ev hx, he.ev hi, Instr.index, asIntOf, underlying, hT, h1, h2]
/-- What a slice that is read looks like. -/
theorem Sat.rdForm {v : Value} {n size : Nat} {xs : List Value} {w : World} (hs : Sat Γ H w) (hm : Res.rd v n size xs ∈ Γ) : ∃ A c, v = .slice A n c ∧ (A = none → xs = []) ∧ xs.length = n * size ∧ n ≤ c ∧ n ≤ maxLen := by
  obtain ⟨A, c, hv, hl, hx, hc, hcell⟩ := Res.rd_ok.1 (hs.gok _ hm)
  refine ⟨A, c, hv, fun hA => ?_, hl, hc, hx⟩
  cases xs with
  | nil => rfl
  | cons x xs =>
    obtain ⟨b, o, h, _⟩ := hcell 0 x rfl
    rw [hA] at h
    cases h
/-- An empty slice written out. -/
theorem Mv.buildEmpty {t e : TypeId} {size : Nat} (hu : P.underlying t = some (.slice e)) (hs : (P.info? e).map (·.size) = some size) :
    Mv P N C E Γ H (.buildSlice t 0 #[]) ty (fun v Γ' H' => Γ' = Γ ∧ H' = Res.row v 0 e size [] :: H) := by
  intro dst pos aft gd a w he hst K Q hK
  obtain ⟨i, hi1, hi2⟩ := Option.map_eq_some_iff.1 hs
  have hr' : (execOp a.eval ⟨dst, .buildSlice t 0 #[], ty, pos, aft, gd⟩).run P w = .ok (.value (.slice (some ⟨w.heap.size, 0, none⟩) 0 0)) (w.alloc (.cells ([] : List Value).toArray e)) := by
    simp [execOp, Instr.buildSlice, underlying, hu, sizeOf, typeInfo, hi1, Instr.fill, newRow]
    congr 2
    apply Array.ext'
    simp
  simp only [Oper.wp, hr', Oper.upon]
  exact hK _ _ _ _ ⟨rfl, rfl⟩ ((hst.alloc [] e).cellsRow (by simp) (Nat.zero_le _))
theorem JO.buildEmpty {d : Nat} {pos : String} {aft : Array Edge} {t e : TypeId} {size : Nat} (hu : P.underlying t = some (.slice e)) (hs : (P.info? e).map (·.size) = some size) (hd : d < N)
    (h : ∀ v, JO P N C ops rest Q ((d, v) :: E) Γ (Res.row v 0 e size [] :: H)) : JO P N C ops (⟨some d, .buildSlice t 0 #[], ty, pos, aft, none⟩ :: rest) Q E Γ H :=
  .m (Mv.buildEmpty hu hs) hd fun v Γ' H' ⟨hΓ, hH⟩ => by subst hΓ hH; exact h v

/-! ### Arrays of numbers held against each other -/
theorem run_parts {w : World} {e : TypeId} {d : TypeDesc} (hd : P.underlying e = some d) (hd' : (match d with | .struct _ | .array _ _ => true | _ => false) = false) {cs : Array Value} {i : Nat} {v : Value} (hv : cs[i]? = some v) :
    (part e cs i).run P w = .ok v w := by
  have hag : (isAgg e).run P w = .ok false w := by
    simp only [isAgg, underlying, Sem.run_bind, run_program, Result.andThen_ok, hd, Sem.run_pure]
    cases d <;> simp_all
  simp [part, hag, hv]
end
theorem run_eqLoop {P : Program} {α : Type} [DecidableEq α] {e n : Nat} {k k' : IntKind} {f : α → Value} {g : α → Int} (he : P.underlying e = some (.int k'))
    (hf : ∀ x, f x = .int k (g x)) (hg : ∀ x y, g x = g y → x = y) (as bs : List α) (ha : as.length = n) (hb : bs.length = n) (d : Nat) (w : World) : ∀ (m s : Nat), s + m = n →
    (forIn (List.range' s m) ((none, ()) : Option Bool × Unit) fun i __s => (do
        let a ← part e (as.map f).toArray i
        let b ← part e (bs.map f).toArray i
        let r ← Op.equalIn (d + 1) e a b
        if (!r) = true then pure (ForInStep.done (some false, ())) else pure (ForInStep.yield (none, ())) : Sem (ForInStep (Option Bool × Unit)))).run P w =
      .ok (if as.drop s = bs.drop s then (none, ()) else (some false, ())) w := by
  intro m
  induction m with
  | zero =>
    intro s hs
    rw [List.drop_eq_nil_of_le (by omega), List.drop_eq_nil_of_le (by omega)]
    simp
  | succ m ih =>
    intro s hs
    have h1 : s < as.length := by omega
    have h2 : s < bs.length := by omega
    have p1 := run_parts (P := P) (w := w) he rfl (show (as.map f).toArray[s]? = some (f as[s]) by simp [h1])
    have p2 := run_parts (P := P) (w := w) he rfl (show (bs.map f).toArray[s]? = some (f bs[s]) by simp [h2])
    have e1 : (Op.equalIn (d + 1) e (f as[s]) (f bs[s])).run P w = .ok (decide (as[s] = bs[s])) w := by
      rw [hf, hf]
      simp only [Op.equalIn, underlying, Sem.run_bind, run_program, Result.andThen_ok, he, Sem.run_pure, if_true]
      congr 1
      rw [Bool.eq_iff_iff, beq_iff_eq, decide_eq_true_iff]
      exact ⟨hg _ _, fun h => by rw [h]⟩
    rw [List.range'_succ]
    simp only [List.forIn_cons, Sem.run_bind, p1, p2, e1, Result.andThen_ok]
    rw [List.drop_eq_getElem_cons h1, List.drop_eq_getElem_cons h2]
    by_cases heq : as[s] = bs[s]
    · have := ih (s + 1) (by omega)
      simp only [heq, decide_true, Bool.not_true, Bool.false_eq_true, if_false, Sem.run_pure, Result.andThen_ok, List.cons.injEq, true_and]
      exact this
    · rw [if_neg (fun h => heq (List.cons.inj h).1)]
      simp [heq]
theorem run_eqArr {P : Program} {α : Type} [DecidableEq α] {T e n : Nat} {k k' : IntKind} {f : α → Value} {g : α → Int} (hT : P.underlying T = some (.array n e)) (he : P.underlying e = some (.int k')) (hs : (P.info? e).map (·.size) = some 1)
    (hf : ∀ x, f x = .int k (g x)) (hg : ∀ x y, g x = g y → x = y) (as bs : List α) (ha : as.length = n) (hb : bs.length = n) (d : Nat) (w : World) :
    (Op.equalIn (d + 2) T (.agg (as.map f).toArray) (.agg (bs.map f).toArray)).run P w = .ok (decide (as = bs)) w := by
  obtain ⟨i, hi1, hi2⟩ := Option.map_eq_some_iff.1 hs
  have hl := run_eqLoop (P := P) he hf hg as bs ha hb d w n 0 (by omega)
  rw [Op.equalIn]
  simp only [underlying, Sem.run_bind, run_program, Result.andThen_ok, hT, Sem.run_pure, sizeOf, typeInfo, hi1, hi2, Nat.mul_one, Std.Legacy.Range.forIn_eq_forIn_range', Std.Legacy.Range.size,
    Nat.sub_zero, Nat.add_sub_cancel, Nat.div_one]
  rw [hl]
  by_cases h : as = bs <;> simp [h]
theorem BinR.eql_arr {P : Program} {x y : Operand} {α : Type} [DecidableEq α] {T e n : Nat} {k k' : IntKind} {f : α → Value} {g : α → Int} (hT : P.underlying T = some (.array n e)) (he : P.underlying e = some (.int k')) (hs : (P.info? e).map (·.size) = some 1)
    (hm : P.eqGuardType P.depth T = false) (hf : ∀ x, f x = .int k (g x)) (hg : ∀ x y, g x = g y → x = y) (as bs : List α) (ha : as.length = n) (hb : bs.length = n) :
    BinR P .eql T x y (.agg (as.map f).toArray) (.agg (bs.map f).toArray) (.bool (decide (as = bs))) := fun w => by
  have h0 : (Op.equal T (.agg (as.map f).toArray) (.agg (bs.map f).toArray)).run P w = .ok (decide (as = bs)) w := run_eqArr hT he hs hf hg as bs ha hb 9998 w
  simp only [Sem.run_bind, run_eqGuard_agg w .eql T x y _ _ hm, Result.andThen_ok, binOp, h0, Sem.run_pure]
theorem BinR.neq_arr {P : Program} {x y : Operand} {α : Type} [DecidableEq α] {T e n : Nat} {k k' : IntKind} {f : α → Value} {g : α → Int} (hT : P.underlying T = some (.array n e)) (he : P.underlying e = some (.int k')) (hs : (P.info? e).map (·.size) = some 1)
    (hm : P.eqGuardType P.depth T = false) (hf : ∀ x, f x = .int k (g x)) (hg : ∀ x y, g x = g y → x = y) (as bs : List α) (ha : as.length = n) (hb : bs.length = n) :
    BinR P .neq T x y (.agg (as.map f).toArray) (.agg (bs.map f).toArray) (.bool (!decide (as = bs))) := fun w => by
  have h0 : (Op.equal T (.agg (as.map f).toArray) (.agg (bs.map f).toArray)).run P w = .ok (decide (as = bs)) w := run_eqArr hT he hs hf hg as bs ha hb 9998 w
  simp only [Sem.run_bind, run_eqGuard_agg w .neq T x y _ _ hm, Result.andThen_ok, binOp, h0, Sem.run_pure]
@[simp] theorem u8_oneCell (x : BitVec 8) : (u8 x).oneCell' = true := rfl
@[simp] theorem u32_oneCell (x : BitVec 32) : (u32 x).oneCell' = true := rfl
@[simp] theorem u64_oneCell (x : BitVec 64) : (u64 x).oneCell' = true := rfl
@[simp] theorem it_oneCell (x : Int) : (it x).oneCell' = true := rfl
@[simp] theorem int_oneCell (k : IntKind) (x : Int) : ((.int k x : Value)).oneCell' = true := rfl
@[simp] theorem bl_oneCell (x : Bool) : ((.bool x : Value)).oneCell' = true := rfl
@[simp] theorem slice_oneCell (A : Option Addr) (n c : Nat) : ((.slice A n c : Value)).oneCell' = true := rfl
@[simp] theorem pt_oneCell (A : Option Addr) : ((.pointer A : Value)).oneCell' = true := rfl
@[simp] theorem str_oneCell (x : ByteArray) : ((.string x : Value)).oneCell' = true := rfl
theorem one_sing {a : Value} (h : a.oneCell' = true) : ∀ x ∈ [a], x.oneCell' = true := fun x hx => by rw [List.mem_singleton.1 hx]; exact h
end Go.Proofs.YtffgimlkmfjgmaaDoor
