/- Rows of what has more cells than one: made, read, written by blocks. No program in sight. -/
import Derived.Test.YtffgimlkmfjgmaaK4
namespace Go.Proofs.Ytffgimlkmfjgmaa
open Go.RowKit
set_option linter.unusedVariables false
set_option linter.unusedSimpArgs false
/-! ### Blocks -/
/-- All of them have s cells. -/
class FS {α : Type} (f : α → List Value) (s : outParam Nat) : Prop where
  len : ∀ a, (f a).length = s
  one : ∀ a, ∀ v ∈ f a, v.oneCell' = true
def bks {α : Type} (f : α → List Value) (l : List α) : List Value := l.flatMap f
section
variable {α : Type} {f : α → List Value} {s : Nat} [h : FS f s]
@[simp] theorem bks_nil : bks f [] = [] := rfl
theorem bks_cons (a : α) (l : List α) : bks f (a :: l) = f a ++ bks f l := rfl
theorem bks_app (a b : List α) : bks f (a ++ b) = bks f a ++ bks f b := List.flatMap_append
theorem bks_len (l : List α) : (bks f l).length = l.length * s := by
  induction l with
  | nil => simp
  | cons a l ih => rw [bks_cons, List.length_append, h.len, ih, List.length_cons, Nat.succ_mul, Nat.add_comm]
theorem bks_take (l : List α) (k : Nat) : (bks f l).take (k * s) = bks f (l.take k) := by
  induction l generalizing k with
  | nil => simp
  | cons a l ih =>
    cases k with
    | zero => simp
    | succ k =>
      rw [bks_cons, List.take_succ_cons, bks_cons, ← ih k, List.take_append, h.len, List.take_of_length_le (by rw [h.len, Nat.succ_mul]; omega)]
      congr 2
      rw [Nat.succ_mul]; omega
theorem bks_drop (l : List α) (k : Nat) : (bks f l).drop (k * s) = bks f (l.drop k) := by
  induction l generalizing k with
  | nil => simp
  | cons a l ih =>
    cases k with
    | zero => simp
    | succ k =>
      rw [bks_cons, List.drop_succ_cons, ← ih k, List.drop_append, h.len, List.drop_of_length_le (by rw [h.len, Nat.succ_mul]; omega), List.nil_append]
      congr 1
      rw [Nat.succ_mul]; omega
theorem bks_piece {l : List α} {k : Nat} (d : α) (hk : k < l.length) : ((bks f l).drop (k * s)).take s = f (l.getD k d) := by
  have h1 := bks_take (f := f) (l.drop k) 1
  rw [Nat.one_mul] at h1
  rw [bks_drop, h1, List.drop_eq_getElem_cons hk, List.take_succ_cons, List.take_zero, bks_cons, bks_nil, List.append_nil, List.getD_eq_getElem?_getD, List.getElem?_eq_getElem hk, Option.getD_some]
theorem bks_get {l : List α} {k j : Nat} (d : α) (hk : k < l.length) (hj : j < s) : (bks f l)[k * s + j]? = (f (l.getD k d))[j]? := by
  rw [← bks_piece (f := f) d hk, List.getElem?_take_of_lt hj, List.getElem?_drop]
theorem bks_set {l : List α} {k : Nat} (a : α) (hk : k < l.length) : splice (bks f l) (k * s) (f a) = bks f (l.set k a) := by
  unfold splice
  rw [h.len, bks_take, show k * s + s = (k + 1) * s from (Nat.succ_mul _ _).symm, bks_drop, List.set_eq_take_append_cons_drop, if_pos hk, bks_app, bks_cons, List.append_assoc]
theorem bks_sub {l : List α} (a b : Nat) : ((bks f l).drop (a * s)).take (b * s) = bks f ((l.drop a).take b) := by rw [bks_drop, bks_take]
include h in
theorem bks_one (l : List α) : ∀ v ∈ bks f l, v.oneCell' = true := fun v hv => by
  obtain ⟨a, _, ha⟩ := List.mem_flatMap.1 hv
  exact FS.one a v ha
theorem bks_lit (l : List α) (g : α → Value) (hg : ∀ a, (g a).cells.toList = f a) : (l.map g).flatMap (fun v => v.cells.toList) = bks f l := by
  induction l with
  | nil => rfl
  | cons a l ih => rw [List.map_cons, List.flatMap_cons, ih, hg, bks_cons]
end
/-! ### Rows that are made -/
section
variable {P : Program} {N : Nat} {C : Beg} {Q : Exit → Act → World → Prop} {E : Env} {Γ H : RL} {ty : TypeId} {ops : Array Oper} {rest : List Oper}
theorem madeCells_list (zs : List Value) (n : Nat) : madeCells zs.toArray (n * zs.length) = ((List.replicate n zs).flatten).toArray := by
  unfold madeCells
  apply Array.ext'
  simp only [Array.toList_map, Array.toList_range]
  induction n with
  | zero => simp
  | succ n ih =>
    rw [Nat.succ_mul, List.range_add, List.map_append, ih, List.replicate_succ', List.flatten_append]
    congr 1
    apply List.ext_getElem
    · simp
    · intro i h1 h2
      simp at h1
      simp [Nat.mod_eq_of_lt h1, h1]
theorem Mv.mkN {t e : TypeId} {z : Value} {zs : List Value} {bytes n size : Nat} {x y : Operand} {k k' : IntKind} (ht : P.underlying t = some (.slice e)) (hinfo : (P.info? e).map (fun i => (i.zero, i.size, i.bytes)) = some (some z, size, bytes)) (hn : n ≤ maxLen := by unfold maxLen; omega) (hz : z.cells = zs.toArray := by rfl) (hzl : zs.length = size := by rfl)
    (hx : ev E x = some (.int k (n : Int)) := by rfl) (hy : ev E y = some (.int k' (n : Int)) := by rfl) (hb : bytes * n ≤ 281474976710656 := by omega) :
    Mv P N C E Γ H (.makeSlice t x y) ty (fun v Γ' H' => Γ' = Γ ∧ H' = Res.row v n e size (List.replicate n zs).flatten :: H) := by
  intro dst pos aft gd a w he hs K Q hK
  obtain ⟨i, hi, hzz⟩ := Option.map_eq_some_iff.1 hinfo
  simp only [Prod.mk.injEq] at hzz
  obtain ⟨h1, h2, h3⟩ := hzz
  subst hzl
  have hr := run_make (P := P) w t e i z ht hi h1 k k' n n (by omega) (Int.le_refl _) (by rw [h3]; have : ((bytes * n : Nat) : Int) ≤ 281474976710656 := by omega
                                                                                          rwa [Int.natCast_mul] at this) (by unfold maxLen at hn; omega)
  simp only [Int.toNat_natCast, h2, hz, madeCells_list] at hr
  have hr' : (execOp a.eval ⟨dst, .makeSlice t x y, ty, pos, aft, gd⟩).run P w = .ok (.value (.slice (some ⟨w.heap.size, 0, none⟩) n n)) (w.alloc (.cells (List.replicate n zs).flatten.toArray e)) := by
    simp [execOp, he.ev hx, he.ev hy, hr]
  simp only [Oper.wp, hr', Oper.upon]
  exact hK _ _ _ _ ⟨rfl, rfl⟩ ((hs.alloc (List.replicate n zs).flatten e).cellsRow (by simp) hn)
theorem JO.mkN {d : Nat} {pos : String} {aft : Array Edge} {t e : TypeId} {z : Value} {zs : List Value} {bytes n size : Nat} {x y : Operand} {k k' : IntKind} (ht : P.underlying t = some (.slice e)) (hinfo : (P.info? e).map (fun i => (i.zero, i.size, i.bytes)) = some (some z, size, bytes))
    (h : ∀ v, JO P N C ops rest Q ((d, v) :: E) Γ (Res.row v n e size (List.replicate n zs).flatten :: H)) (hn : n ≤ maxLen := by unfold maxLen; omega) (hz : z.cells = zs.toArray := by rfl) (hzl : zs.length = size := by rfl)
    (hx : ev E x = some (.int k (n : Int)) := by rfl) (hy : ev E y = some (.int k' (n : Int)) := by rfl) (hb : bytes * n ≤ 281474976710656 := by omega) (hd : d < N := by decide) :
    JO P N C ops (⟨some d, .makeSlice t x y, ty, pos, aft, none⟩ :: rest) Q E Γ H :=
  .m (Mv.mkN ht hinfo hn hz hzl hx hy hb) hd fun v Γ' H' ⟨hΓ, hH⟩ => by subst hΓ hH; exact h v
theorem Mv.mk1 {t e : TypeId} {z : Value} {bytes n : Nat} {x y : Operand} {k k' : IntKind} (ht : P.underlying t = some (.slice e)) (hinfo : (P.info? e).map (fun i => (i.zero, i.size, i.bytes)) = some (some z, 1, bytes)) (hn : n ≤ maxLen := by unfold maxLen; omega) (hz1 : z.cells = #[z] := by rfl)
    (hx : ev E x = some (.int k (n : Int)) := by rfl) (hy : ev E y = some (.int k' (n : Int)) := by rfl) (hb : bytes * n ≤ 281474976710656 := by omega) :
    Mv P N C E Γ H (.makeSlice t x y) ty (fun v Γ' H' => Γ' = Γ ∧ H' = Res.row v n e 1 (List.replicate n z) :: H) := .make ht hinfo hz1 hx hy hb hn
theorem JO.mk1 {d : Nat} {pos : String} {aft : Array Edge} {t e : TypeId} {z : Value} {bytes n : Nat} {x y : Operand} {k k' : IntKind} (ht : P.underlying t = some (.slice e)) (hinfo : (P.info? e).map (fun i => (i.zero, i.size, i.bytes)) = some (some z, 1, bytes))
    (h : ∀ v, JO P N C ops rest Q ((d, v) :: E) Γ (Res.row v n e 1 (List.replicate n z) :: H)) (hn : n ≤ maxLen := by unfold maxLen; omega) (hz1 : z.cells = #[z] := by rfl)
    (hx : ev E x = some (.int k (n : Int)) := by rfl) (hy : ev E y = some (.int k' (n : Int)) := by rfl) (hb : bytes * n ≤ 281474976710656 := by omega) (hd : d < N := by decide) :
    JO P N C ops (⟨some d, .makeSlice t x y, ty, pos, aft, none⟩ :: rest) Q E Γ H :=
  .m (Mv.mk1 ht hinfo hn hz1 hx hy hb) hd fun v Γ' H' ⟨hΓ, hH⟩ => by subst hΓ hH; exact h v
theorem Mv.sr {T m : Nat} {x y : Operand} {v u : Value} {o n : Nat} {e : TypeId} {size : Nat} {us xs : List Value} {H' : RL} (hT : (P.info? T).map (·.size) = some m) (hx : ev E x = some (ptr (blk v) o) := by rfl) (hy : ev E y = some u := by rfl) (hu : u.cells = us.toArray := by rfl) (hm : us.length = m := by first | rfl | (simp; done) | (simp; omega) | (simp [*]; done) | fail) (h1 : ∀ a ∈ us, a.oneCell' = true := by first | (simp; done) | exact one_sing rfl | exact one_map (fun _ => rfl) | exact one_piece (one_map (fun _ => rfl)) | exact one_tab (fun _ => rfl) | exact one_tab (fun _ => by split <;> rfl) | fail) (hp : Upd H (Res.row v n e size xs) (Res.row v n e size (splice xs o us)) H' := by (repeat (first | exact Upd.here _ _ _ | apply Upd.there)); first | done | fail) (hn : 0 < n := by first | exact ltb rfl | (simp; done) | (simp; omega) | omega | (simp [*]; omega) | fail) (hl : o + m ≤ n * size := by first | (simp; done) | omega | (simp; omega) | fail) : Mv P N C E Γ H (.store T x y) ty (fun _ Γ1 H1 => Γ1 = Γ ∧ H1 = H') := .storeRow hT hx hy hu hm h1 hp hn hl
end
end Go.Proofs.Ytffgimlkmfjgmaa
