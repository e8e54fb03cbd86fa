/- Purses: the plain side. No program in sight. -/
import Derived.Test.YtjjcciefjcfdmaaDoorL2
namespace Go.Proofs.YtjjcciefjcfdmaaDoor
open Go.RowKit
section
variable {P : Program} {N : Nat} {C : Beg} {E : Env} {Γ H : RL} {ty : TypeId}
/-- The lesser word. -/
def minW (a b : W64) : W64 := if b.toNat < a.toNat then b else a
theorem Yv.min_u64 {x y : Operand} {AT : Array TypeId} {a b : W64} (hx : ev E x = some (u64 a)) (hy : ev E y = some (u64 b)) : Yv P N C E Γ H (.call { callee := .builtin .min, args := #[x, y], argTypes := AT }) ty (u64 (minW a b)) := by
  intro dst pos aft gd c w he _
  have h0 : (if b.toNat < a.toNat then (b.toNat : Int) else (a.toNat : Int)) = ((minW a b).toNat : Int) := by
    unfold minW
    by_cases h : b.toNat < a.toNat
    · rw [if_pos h, if_pos h]
    · rw [if_neg h, if_neg h]
  have hx : ev E x = some (.int .u64 (a.toNat : Int)) := hx
  have hy : ev E y = some (.int .u64 (b.toNat : Int)) := hy
  simp [execOp, he.ev hx, he.ev hy, resolve, invoke, builtin, Builtin.min_, Builtin.min2, h0, u64]
end
theorem set_u64 (l : List W64) (i : Nat) (x : W64) : (l.map u64).set i (u64 x) = (l.set i x).map u64 := List.map_set.symm
/-- Is there such an account? -/
def isI (n : Nat) (i : Int) : Bool := !decide (i < 0 ∨ i ≥ (n : Int))
def okA (n : Nat) (is : List Int) : Bool := is.all (isI n)
theorem isI_iff {n : Nat} {i : Int} : isI n i = true ↔ 0 ≤ i ∧ i < n := by simp only [isI, Bool.not_eq_true', decide_eq_false_iff_not]; omega
theorem okA2 (n : Nat) (f t : Int) : okA n [f, t] = (isI n f && isI n t) := by simp [okA]
theorem okA1 (n : Nat) (f : Int) : okA n [f] = isI n f := by simp [okA]
theorem ok1 {n : Nat} {f : Int} (h : okA n [f] = true) : ∃ i : Nat, f = i ∧ i < n := by
  rw [okA1, isI_iff] at h
  exact ⟨f.toNat, by omega, by omega⟩
theorem ok2 {n : Nat} {f t : Int} (h : okA n [f, t] = true) : ∃ i j : Nat, f = i ∧ t = j ∧ i < n ∧ j < n := by
  rw [okA2, Bool.and_eq_true, isI_iff, isI_iff] at h
  exact ⟨f.toNat, t.toNat, by omega, by omega, by omega, by omega⟩
theorem ok1_nat {n i : Nat} (h : i < n) : okA n [(i : Int)] = true := by rw [okA1, isI_iff]; omega
theorem ok2_nat {n i j : Nat} (h : i < n) (h' : j < n) : okA n [(i : Int), (j : Int)] = true := by rw [okA2, Bool.and_eq_true, isI_iff, isI_iff]; omega
def hasF (l : List W64) (i : Int) : W64 := if okA l.length [i] then l.getD i.toNat 0 else 0
/-- Money moved: the answer, the accounts. -/
def moveE (l : List W64) (f t : Int) (a : W64) : Int := if okA l.length [f, t] then (if (l.getD f.toNat 0).toNat < a.toNat then 50 else 0) else 1
def moveD (l : List W64) (i j : Nat) (a : W64) : List W64 := (l.set i (l.getD i 0 - a)).set j ((l.set i (l.getD i 0 - a)).getD j 0 + a)
def moveL (l : List W64) (f t : Int) (a : W64) : List W64 := if moveE l f t a = 0 then moveD l f.toNat t.toNat a else l
@[simp] theorem moveD_len (l : List W64) (i j : Nat) (a : W64) : (moveD l i j a).length = l.length := by simp [moveD]
@[simp] theorem moveL_len (l : List W64) (f t : Int) (a : W64) : (moveL l f t a).length = l.length := by unfold moveL; split <;> simp
theorem move_no {l : List W64} {f t : Int} {a : W64} (h : ¬ okA l.length [f, t] = true) : moveE l f t a = 1 ∧ moveL l f t a = l := by
  have e : moveE l f t a = 1 := by rw [moveE, if_neg h]
  exact ⟨e, by rw [moveL, e]; rfl⟩
theorem move_funds {l : List W64} {i j : Nat} {a : W64} (hi : i < l.length) (hj : j < l.length) (h : (l.getD i 0).toNat < a.toNat) : moveE l i j a = 50 ∧ moveL l i j a = l := by
  have e : moveE l i j a = 50 := by rw [moveE, if_pos (ok2_nat hi hj), Int.toNat_natCast, if_pos h]
  exact ⟨e, by rw [moveL, e]; rfl⟩
theorem move_ok {l : List W64} {i j : Nat} {a : W64} (hi : i < l.length) (hj : j < l.length) (h : ¬ (l.getD i 0).toNat < a.toNat) : moveE l i j a = 0 ∧ moveL l i j a = moveD l i j a := by
  have e : moveE l i j a = 0 := by rw [moveE, if_pos (ok2_nat hi hj), Int.toNat_natCast, if_neg h]
  exact ⟨e, by rw [moveL, e, if_pos rfl, Int.toNat_natCast, Int.toNat_natCast]⟩
def takeA (l : List W64) (f : Int) (a : W64) : W64 := minW a (hasF l f)
def takeF (l : List W64) (f t : Int) (a : W64) : W64 := if moveE l f t (takeA l f a) = 0 then takeA l f a else 0
def takeL (l : List W64) (f t : Int) (a : W64) : List W64 := moveL l f t (takeA l f a)
@[simp] theorem takeL_len (l : List W64) (f t : Int) (a : W64) : (takeL l f t a).length = l.length := moveL_len _ _ _ _
/-- The parts of a pot, one behind the other. -/
def parts (pot : W64) (ws : List W64) : List W64 := ws.map fun w => partF pot w (totN ws)
def addT (l ps : List W64) (k : Nat) : List W64 := l.mapIdx fun i x => if i < k then x + ps.getD i 0 else x
@[simp] theorem addT_len (l ps : List W64) (k : Nat) : (addT l ps k).length = l.length := by simp [addT]
theorem addT_0 (l ps : List W64) : addT l ps 0 = l := by
  apply List.ext_getElem (by simp)
  intro i h1 h2
  simp [addT]
theorem addT_get {l ps : List W64} {k : Nat} (hk : k < l.length) : (addT l ps k).getD k 0 = l.getD k 0 := by
  rw [List.getD_eq_getElem?_getD, List.getD_eq_getElem?_getD, List.getElem?_eq_getElem (by simpa using hk), List.getElem?_eq_getElem hk]
  simp [addT]
theorem addT_succ {l ps : List W64} {k : Nat} (hk : k < l.length) : (addT l ps k).set k ((addT l ps k).getD k 0 + ps.getD k 0) = addT l ps (k + 1) := by
  rw [addT_get hk]
  apply List.ext_getElem (by simp)
  intro i h1 h2
  rw [List.getElem_set]
  by_cases h : k = i
  · subst h
    rw [if_pos rfl]
    simp only [addT, List.getElem_mapIdx]
    rw [if_pos (by omega), List.getD_eq_getElem?_getD, List.getElem?_eq_getElem hk]
    rfl
  · rw [if_neg h]
    simp only [addT, List.getElem_mapIdx]
    by_cases h3 : i < k
    · rw [if_pos h3, if_pos (by omega)]
    · rw [if_neg h3, if_neg (by omega)]
def leftT (pot : W64) (ps : List W64) (k : Nat) : W64 := pot - (ps.take k).sum
theorem leftT_0 (pot : W64) (ps : List W64) : leftT pot ps 0 = pot := by simp [leftT]
theorem leftT_succ {pot : W64} {ps : List W64} {k : Nat} (hk : k < ps.length) : leftT pot ps k - ps.getD k 0 = leftT pot ps (k + 1) := by
  unfold leftT
  rw [List.take_add_one, List.getElem?_eq_getElem hk, List.getD_eq_getElem?_getD, List.getElem?_eq_getElem hk]
  simp only [Option.toList_some, Option.getD_some, List.sum_append, List.sum_cons, List.sum_nil]
  rw [BitVec.sub_sub, show ps[k] + (0 : W64) = ps[k] from BitVec.add_zero _]
theorem parts_get (pot : W64) {ws : List W64} {k : Nat} (hk : k < ws.length) : partF pot (ws.getD k 0) (totN ws) = (parts pot ws).getD k 0 := by
  simp [parts, List.getD_eq_getElem?_getD, hk]
@[simp] theorem parts_len (pot : W64) (ws : List W64) : (parts pot ws).length = ws.length := by simp [parts]
/-- A pot shared out. -/
def spreadE (l : List W64) (f r : Int) (ws : List W64) : Int := if okA l.length [f, r] = true ∧ ws.length = l.length then 0 else 1
def spreadD (l : List W64) (i j : Nat) (ws : List W64) : List W64 :=
  let pot := l.getD i 0
  let m := addT (l.set i 0) (parts pot ws) ws.length
  m.set j (m.getD j 0 + leftT pot (parts pot ws) ws.length)
def spreadL (l : List W64) (f r : Int) (ws : List W64) : List W64 := if spreadE l f r ws = 0 then spreadD l f.toNat r.toNat ws else l
@[simp] theorem spreadD_len (l : List W64) (i j : Nat) (ws : List W64) : (spreadD l i j ws).length = l.length := by simp [spreadD]
@[simp] theorem spreadL_len (l : List W64) (f t : Int) (ws : List W64) : (spreadL l f t ws).length = l.length := by unfold spreadL; split <;> simp
theorem spread_no {l : List W64} {f t : Int} {ws : List W64} (h : ¬ (okA l.length [f, t] = true ∧ ws.length = l.length)) : spreadE l f t ws = 1 ∧ spreadL l f t ws = l := by
  have e : spreadE l f t ws = 1 := by rw [spreadE, if_neg h]
  exact ⟨e, by rw [spreadL, e]; rfl⟩
theorem spread_ok {l : List W64} {i j : Nat} {ws : List W64} (hi : i < l.length) (hj : j < l.length) (h : ws.length = l.length) : spreadE l i j ws = 0 ∧ spreadL l i j ws = spreadD l i j ws := by
  have e : spreadE l i j ws = 0 := by rw [spreadE, if_pos ⟨ok2_nat hi hj, h⟩]
  exact ⟨e, by rw [spreadL, e, if_pos rfl, Int.toNat_natCast, Int.toNat_natCast]⟩
/-- What may be wrong with accounts at first. -/
def newE (l : List W64) : Int := if l.length > 40 then 2 else if 9223372036854775808 ≤ totN l then 10 else 0
theorem findA {n : Nat} {is : List Int} {x : Nat} (hx : x < is.length) (h : ¬ isI n (is.getD x 0) = true) : okA n is = false := by
  rw [okA, Bool.eq_false_iff]
  intro hh
  refine h ?_
  rw [List.getD_eq_getElem?_getD, List.getElem?_eq_getElem hx]
  exact List.all_eq_true.1 hh _ (List.getElem_mem hx)
theorem allA {n : Nat} {is : List Int} (h : ∀ j, j < is.length → isI n (is.getD j 0) = true) : okA n is = true := by
  refine List.all_eq_true.2 fun x hx => ?_
  obtain ⟨j, hj, rfl⟩ := List.getElem_of_mem hx
  have := h j hj
  rwa [List.getD_eq_getElem?_getD, List.getElem?_eq_getElem hj] at this
theorem allA_succ {n : Nat} {is : List Int} {x : Nat} (h : ∀ j, j < x → isI n (is.getD j 0) = true) (hx : isI n (is.getD x 0) = true) : ∀ j, j < x + 1 → isI n (is.getD j 0) = true := fun j hj => by
  rcases Nat.lt_succ_iff_lt_or_eq.1 hj with h1 | rfl
  · exact h j h1
  · exact hx
theorem eq_succ {a b : List W64} {x : Nat} (h : ∀ j, j < x → a.getD j 0 = b.getD j 0) (hx : a.getD x 0 = b.getD x 0) : ∀ j, j < x + 1 → a.getD j 0 = b.getD j 0 := fun j hj => by
  rcases Nat.lt_succ_iff_lt_or_eq.1 hj with h1 | rfl
  · exact h j h1
  · exact hx
theorem eq_all {a b : List W64} (hl : a.length = b.length) (h : ∀ j, j < a.length → a.getD j 0 = b.getD j 0) : a = b := by
  apply List.ext_getElem hl
  intro i h1 h2
  have := h i h1
  rw [List.getD_eq_getElem?_getD, List.getD_eq_getElem?_getD, List.getElem?_eq_getElem h1, List.getElem?_eq_getElem h2] at this
  exact this
theorem new_0 {l : List W64} (h : newE l = 0) : l.length ≤ 40 ∧ ¬ 9223372036854775808 ≤ totN l := by
  unfold newE at h
  by_cases h1 : l.length > 40
  · rw [if_pos h1] at h; cases h
  · rw [if_neg h1] at h
    refine ⟨by omega, fun h2 => ?_⟩
    rw [if_pos h2] at h
    cases h
theorem new_of {l : List W64} (h1 : ¬ l.length > 40) (h2 : ¬ 9223372036854775808 ≤ totN l) : newE l = 0 := by rw [newE, if_neg h1, if_neg h2]
theorem isI_t {n : Nat} {i : Int} (h : 0 ≤ i) : isI n i = decide (i < n) := by rw [Bool.eq_iff_iff, isI_iff, decide_eq_true_eq]; omega
theorem isI_f {n : Nat} {i : Int} (h : ¬ 0 ≤ i) : isI n i = false := by rw [Bool.eq_false_iff, ne_eq, isI_iff]; omega
theorem le_sum : ∀ {l : List Nat} {x : Nat}, x ∈ l → x ≤ l.sum
  | y :: l, x, h => by
    rw [List.sum_cons]
    rcases List.mem_cons.1 h with rfl | h
    · omega
    · have := le_sum h; omega
/-- There and back. -/
theorem sum_two {l : List W64} {i j : Nat} (hi : i < l.length) (hj : j < l.length) (hij : i ≠ j) : (l.getD i 0).toNat + (l.getD j 0).toNat ≤ (l.map BitVec.toNat).sum := by
  have key : ∀ (l : List W64) (i j : Nat), i < j → j < l.length → (l.getD i 0).toNat + (l.getD j 0).toNat ≤ (l.map BitVec.toNat).sum := by
    intro l
    induction l with
    | nil => intro i j _ h; simp at h
    | cons x l ih =>
      intro i j hij hj
      obtain ⟨j, rfl⟩ : ∃ k, j = k + 1 := ⟨j - 1, by omega⟩
      have hj' : j < l.length := by simpa using hj
      cases i with
      | zero =>
        have : (l.getD j 0).toNat ≤ (l.map BitVec.toNat).sum := by
          rw [List.getD_eq_getElem?_getD, List.getElem?_eq_getElem hj']
          exact le_sum (List.mem_map_of_mem (List.getElem_mem hj'))
        simpa using this
      | succ i =>
        have := ih i j (by omega) hj'
        simp only [List.getD_cons_succ, List.map_cons, List.sum_cons]
        omega
  rcases Nat.lt_or_ge i j with h | h
  · exact key l i j h hj
  · have := key l j i (by omega) hi
    omega
theorem sum_bound (l : List W64) : (l.map BitVec.toNat).sum ≤ l.length * 18446744073709551616 := by
  induction l with
  | nil => simp
  | cons x l ih =>
    have := x.isLt
    simp only [List.map_cons, List.sum_cons, List.length_cons]
    omega
theorem tot_sum {l : List W64} (h : l.length ≤ 1000000) : totN l = (l.map BitVec.toNat).sum := by
  have := sum_bound l
  rw [totN]
  exact Nat.mod_eq_of_lt (by omega)
theorem moveE_cases (l : List W64) (f t : Int) (a : W64) (h : moveE l f t a = 0) : ∃ i j : Nat, f = i ∧ t = j ∧ i < l.length ∧ j < l.length ∧ ¬ (l.getD i 0).toNat < a.toNat := by
  by_cases h1 : okA l.length [f, t] = true
  · obtain ⟨i, j, rfl, rfl, hi, hj⟩ := ok2 h1
    refine ⟨i, j, rfl, rfl, hi, hj, fun h2 => ?_⟩
    rw [(move_funds hi hj h2).1] at h
    cases h
  · rw [(move_no h1).1] at h
    cases h
theorem getD_set (l : List W64) {i j : Nat} (hj : j < l.length) (x : W64) : (l.set i x).getD j 0 = if i = j then x else l.getD j 0 := by
  rw [List.getD_eq_getElem?_getD, List.getElem?_set]
  by_cases h : i = j
  · subst h; rw [if_pos rfl, if_pos hj, if_pos rfl]; rfl
  · rw [if_neg h, if_neg h, List.getD_eq_getElem?_getD]
theorem move_back {l : List W64} {f t : Int} {a : W64} (hn : newE l = 0) (h : moveE l f t a = 0) : moveE (moveL l f t a) t f a = 0 ∧ moveL (moveL l f t a) t f a = l := by
  obtain ⟨i, j, rfl, rfl, hi, hj, h0⟩ := moveE_cases l f t a h
  obtain ⟨hl, ht⟩ := new_0 hn
  rw [tot_sum (by omega)] at ht
  rw [(move_ok hi hj h0).2]
  have hd : (moveD l i j a).getD j 0 = if i = j then l.getD j 0 else l.getD j 0 + a := by
    rw [moveD, getD_set _ (by simpa using hj), if_pos rfl, getD_set _ hj]
    split
    · rename_i e; subst e; rw [BitVec.sub_add_cancel]
    · rfl
  have h1 : ¬ ((moveD l i j a).getD j 0).toNat < a.toNat := by
    rw [hd]
    split
    · rename_i e; subst e; exact h0
    · rename_i e
      have := sum_two hi hj e
      have := (l.getD j 0).isLt
      rw [BitVec.toNat_add, Nat.mod_eq_of_lt (by omega)]
      omega
  have hm := move_ok (l := moveD l i j a) (i := j) (j := i) (a := a) (by simpa using hj) (by simpa using hi) h1
  refine ⟨hm.1, hm.2.trans ?_⟩
  apply List.ext_getElem (by simp)
  intro k h2 h3
  have e1 : ∀ (m : List W64) (hk : k < m.length), m[k] = m.getD k 0 := fun m hk => by rw [List.getD_eq_getElem?_getD, List.getElem?_eq_getElem hk]; rfl
  rw [e1 _ h2, e1 _ h3]
  have hki : i < (moveD l i j a).length := by simpa using hi
  have hkj : j < (moveD l i j a).length := by simpa using hj
  have hkk : k < (moveD l i j a).length := by simpa using h3
  have hdi : (moveD l i j a).getD i 0 = if i = j then l.getD j 0 else l.getD i 0 - a := by
    rw [moveD, getD_set _ (by simpa using hi), getD_set _ hj, getD_set _ hi, if_pos rfl]
    by_cases e : i = j
    · subst e; rw [if_pos rfl, if_pos rfl, if_pos rfl, BitVec.sub_add_cancel]
    · rw [if_neg (Ne.symm e), if_neg e]
  have hdk : k ≠ i → k ≠ j → (moveD l i j a).getD k 0 = l.getD k 0 := fun hi' hj' => by
    rw [moveD, getD_set _ (by simpa using h3), getD_set _ h3, if_neg (Ne.symm hj'), if_neg (Ne.symm hi')]
  rw [show moveD (moveD l i j a) j i a = ((moveD l i j a).set j ((moveD l i j a).getD j 0 - a)).set i (((moveD l i j a).set j ((moveD l i j a).getD j 0 - a)).getD i 0 + a) from rfl]
  rw [getD_set _ (by simpa using hkk), getD_set _ hki, getD_set _ hkk, hd, hdi]
  by_cases e : i = j
  · subst e
    rw [if_pos rfl, if_pos rfl]
    by_cases e2 : i = k
    · subst e2; rw [if_pos rfl, BitVec.sub_add_cancel]
    · rw [if_neg e2, if_neg e2, hdk (Ne.symm e2) (Ne.symm e2)]
  · rw [if_neg (Ne.symm e), if_neg e, if_neg e]
    by_cases e2 : i = k
    · subst e2; rw [if_pos rfl, BitVec.sub_add_cancel]
    · rw [if_neg e2]
      by_cases e3 : j = k
      · subst e3; rw [if_pos rfl, BitVec.add_sub_cancel]
      · rw [if_neg e3, hdk (Ne.symm e2) (Ne.symm e3)]
theorem move_ref {l : List W64} {f t : Int} {a : W64} (h : moveE l f t a ≠ 0) : moveL l f t a = l := by rw [moveL, if_neg h]
theorem spread_ref {l : List W64} {f t : Int} {ws : List W64} (h : spreadE l f t ws ≠ 0) : spreadL l f t ws = l := by rw [spreadL, if_neg h]
theorem set_self {l : List W64} {i : Nat} : l.set i (l.getD i 0) = l := by
  by_cases hi : i < l.length
  · rw [List.getD_eq_getElem?_getD, List.getElem?_eq_getElem hi]; simp
  · rw [List.set_eq_of_length_le (by omega)]
theorem take_ref {l : List W64} {f t : Int} {a : W64} (h : takeF l f t a = 0) : takeL l f t a = l := by
  unfold takeF at h
  unfold takeL
  by_cases h1 : moveE l f t (takeA l f a) = 0
  · rw [if_pos h1] at h
    obtain ⟨i, j, rfl, rfl, hi, hj, h0⟩ := moveE_cases _ _ _ _ h1
    rw [(move_ok hi hj h0).2, h, moveD, show l.getD i 0 - (0 : W64) = l.getD i 0 from BitVec.sub_zero _, set_self, show l.getD j 0 + (0 : W64) = l.getD j 0 from BitVec.add_zero _, set_self]
  · exact move_ref h1
theorem take_there {l : List W64} {f t : Int} {a : W64} (h : (isI l.length f && isI l.length t) = true) : takeF l f t a = minW a (hasF l f) := by
  rw [← okA2] at h
  obtain ⟨i, j, rfl, rfl, hi, hj⟩ := ok2 h
  have h0 : ¬ (l.getD i 0).toNat < (takeA l i a).toNat := by
    unfold takeA minW hasF
    rw [if_pos (ok1_nat hi), Int.toNat_natCast]
    split <;> omega
  rw [takeF, if_pos (move_ok hi hj h0).1, takeA]
theorem take_not {l : List W64} {f t : Int} {a : W64} (h : ¬ (isI l.length f && isI l.length t) = true) : takeF l f t a = 0 := by
  rw [← okA2] at h
  rw [takeF, (move_no h).1]
  rfl
/-! ### Things to do, as they come in -/
structure OpD where
  d : Int
  f : Int
  t : Int
  n : W64
  w : Value
  ws : List W64
def OpD.cells (o : OpD) : List Value := [it o.d, it o.f, it o.t, u64 o.n, o.w]
def OpD.res (o : OpD) : Res := Res.rd o.w o.ws.length 1 (o.ws.map u64)
def opCells (l : List OpD) : List Value := l.flatMap OpD.cells
def opRes (l : List OpD) : RL := l.map OpD.res
def opAt (l : List OpD) (k : Nat) : OpD := l.getD k ⟨0, 0, 0, 0, .slice none 0 0, []⟩
theorem op_res {l : List OpD} {k : Nat} (h : k < l.length) : Res.rd (opAt l k).w (opAt l k).ws.length 1 ((opAt l k).ws.map u64) ∈ opRes l := by
  refine List.mem_map.2 ⟨opAt l k, ?_, rfl⟩
  unfold opAt
  rw [List.getD_eq_getElem?_getD, List.getElem?_eq_getElem h]
  exact List.getElem_mem h
@[simp] theorem opCells_len (l : List OpD) : (opCells l).length = 5 * l.length := by
  induction l with
  | nil => rfl
  | cons x l ih => simp only [opCells, List.flatMap_cons, List.length_append, List.length_cons] at ih ⊢; rw [ih]; simp only [OpD.cells, List.length_cons, List.length_nil]; omega
theorem op_piece : ∀ {l : List OpD} {k : Nat}, k < l.length → ((opCells l).drop (k * 5)).take 5 = (opAt l k).cells
  | [], _, h => by simp at h
  | x :: l, 0, _ => by rw [Nat.zero_mul, List.drop_zero]; exact List.take_left' rfl
  | x :: l, k + 1, h => by
    have := op_piece (l := l) (k := k) (by simpa using h)
    rw [show (k + 1) * 5 = 5 + k * 5 by omega, ← List.drop_drop]
    exact this
theorem op_one {o : OpD} (h : o.w.oneCell' = true) : ∀ u ∈ o.cells, u.oneCell' = true := by
  intro u hu
  simp only [OpD.cells, List.mem_cons, List.not_mem_nil, or_false] at hu
  rcases hu with rfl | rfl | rfl | rfl | rfl <;> first | rfl | exact h
end Go.Proofs.YtjjcciefjcfdmaaDoor
