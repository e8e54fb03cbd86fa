/- Slots shared out: the plain side. No program in sight. -/
import Derived.Test.YtfcodaigdigjmaaP9
namespace Go.Proofs.Ytfcodaigdigjmaa
open Go.RowKit
section
variable {P : Program} {N : Nat} {C : Beg} {E : Env} {Γ H : RL} {ty : TypeId}
/-- A field of a struct that is a value. -/
theorem Yv.fieldV {T : TypeId} {fs : Array Field} {f : Nat} {fd : Field} {q : IntKind} {x : Operand} {cs : List Value} {v : Value} (hT : P.underlying T = some (.struct fs)) (hf : fs[f]? = some fd) (hd : P.underlying fd.type = some (.int q))
    (hx : ev E x = some (.agg cs.toArray)) (hv : cs[fd.offset]? = some v) : Yv P N C E Γ H (.field T x f) ty v := by
  intro dst pos aft gd a w hE _
  have h2 : (part fd.type cs.toArray fd.offset).run P w = .ok v w := run_parts hd rfl (by simpa using hv)
  simp [execOp, hE.ev hx, Instr.field, underlying, hT, hf, asAgg, h2]
end
/-! ### Counts -/
def badC (cs : List Int) (x : Nat) : Prop := ∃ j, j < x ∧ (cs.getD j 0 < 0 ∨ cs.getD j 0 > 200)
instance (cs : List Int) (x : Nat) : Decidable (badC cs x) := inferInstanceAs (Decidable (∃ j, j < x ∧ _))
def sumC (cs : List Int) (x : Nat) : Int := (cs.take x).sum
def rightE (cs : List Int) : Int := if cs.length > 40 then 1 else if badC cs cs.length then 1 else if sumC cs cs.length > 200 then 1 else 0
theorem sumC_0 (cs : List Int) : sumC cs 0 = 0 := rfl
theorem sumC_succ {cs : List Int} {x : Nat} (h : x < cs.length) : sumC cs (x + 1) = sumC cs x + cs.getD x 0 := by
  unfold sumC
  rw [List.take_add_one, List.getElem?_eq_getElem h, List.getD_eq_getElem?_getD, List.getElem?_eq_getElem h]
  simp only [Option.toList_some, Option.getD_some, List.sum_append, List.sum_cons, List.sum_nil]
  omega
theorem bad_succ {cs : List Int} {x : Nat} (h : ¬ badC cs x) (hx : ¬ (cs.getD x 0 < 0 ∨ cs.getD x 0 > 200)) : ¬ badC cs (x + 1) := by
  rintro ⟨j, hj, hb⟩
  rcases Nat.lt_succ_iff_lt_or_eq.1 hj with h1 | rfl
  · exact h ⟨j, h1, hb⟩
  · exact hx hb
theorem right_bad {cs : List Int} {x : Nat} (hx : x < cs.length) (h : cs.getD x 0 < 0 ∨ cs.getD x 0 > 200) : rightE cs = 1 := by
  unfold rightE
  split
  · rfl
  · rw [if_pos ⟨x, hx, h⟩]
theorem sumC_bd {cs : List Int} : ∀ {x : Nat}, ¬ badC cs x → x ≤ cs.length → 0 ≤ sumC cs x ∧ sumC cs x ≤ 200 * x
  | 0, _, _ => by rw [sumC_0]; omega
  | x + 1, h, hx => by
    have h1 : ¬ badC cs x := fun ⟨j, hj, hb⟩ => h ⟨j, by omega, hb⟩
    have h2 : ¬ (cs.getD x 0 < 0 ∨ cs.getD x 0 > 200) := fun hb => h ⟨x, by omega, hb⟩
    have := sumC_bd h1 (by omega)
    rw [sumC_succ (by omega)]
    omega
theorem right_0 {cs : List Int} (h : rightE cs = 0) : cs.length ≤ 40 ∧ ¬ badC cs cs.length ∧ sumC cs cs.length ≤ 200 := by
  unfold rightE at h
  by_cases h1 : cs.length > 40
  · rw [if_pos h1] at h; cases h
  · rw [if_neg h1] at h
    by_cases h2 : badC cs cs.length
    · rw [if_pos h2] at h; cases h
    · rw [if_neg h2] at h
      by_cases h3 : sumC cs cs.length > 200
      · rw [if_pos h3] at h; cases h
      · exact ⟨by omega, h2, by omega⟩
theorem right_01 (cs : List Int) : rightE cs = 0 ∨ rightE cs = 1 := by unfold rightE; split <;> (try split) <;> (try split) <;> simp
theorem count_at {cs : List Int} (h : rightE cs = 0) {x : Nat} (hx : x < cs.length) : ∃ c : Nat, cs.getD x 0 = c ∧ c ≤ 200 ∧ sumC cs (x + 1) = sumC cs x + c ∧ 0 ≤ sumC cs x ∧ sumC cs (x + 1) ≤ 200 := by
  obtain ⟨h1, h2, h3⟩ := right_0 h
  have h4 : ¬ (cs.getD x 0 < 0 ∨ cs.getD x 0 > 200) := fun hb => h2 ⟨x, hx, hb⟩
  have mono : ∀ k, x + 1 + k ≤ cs.length → sumC cs (x + 1) ≤ sumC cs (x + 1 + k) := by
    intro k
    induction k with
    | zero => intro _; exact Int.le_refl _
    | succ k ih =>
      intro hk
      have h5 := ih (by omega)
      have h6 : ¬ (cs.getD (x + 1 + k) 0 < 0 ∨ cs.getD (x + 1 + k) 0 > 200) := fun hb => h2 ⟨_, by omega, hb⟩
      have h7 := sumC_succ (cs := cs) (x := x + 1 + k) (by omega)
      rw [show x + 1 + (k + 1) = x + 1 + k + 1 by omega]
      omega
  have h5 := mono (cs.length - (x + 1)) (by omega)
  rw [show x + 1 + (cs.length - (x + 1)) = cs.length by omega] at h5
  have h6 := sumC_bd (cs := cs) (x := x) (fun ⟨j, hj, hb⟩ => h2 ⟨j, by omega, hb⟩) (by omega)
  have h7 := sumC_succ hx
  exact ⟨(cs.getD x 0).toNat, by omega, by omega, by omega, by omega, by omega⟩
/-- Who has each slot. -/
def ownT (cs : List Int) : Nat → List Int
  | 0 => []
  | x + 1 => ownT cs x ++ List.replicate (cs.getD x 0).toNat (x : Int)
theorem own_len {cs : List Int} (h : rightE cs = 0) : ∀ {x : Nat}, x ≤ cs.length → ((ownT cs x).length : Int) = sumC cs x
  | 0, _ => by simp [ownT, sumC_0]
  | x + 1, hx => by
    obtain ⟨c, h1, h2, h3, h4, h5⟩ := count_at h (show x < cs.length by omega)
    have := own_len h (x := x) (by omega)
    rw [ownT, List.length_append, List.length_replicate, h1, h3]
    omega
theorem rep_succ (l : List Int) (n : Nat) (a : Int) : (l ++ List.replicate n a).map it ++ [it a] = (l ++ List.replicate (n + 1) a).map it := by
  rw [List.replicate_succ', ← List.append_assoc, List.map_append (l₂ := [a])]
  rfl
/-- Which slots each has. -/
def rngT (cs : List Int) (x : Nat) : List (Int × Int) := (List.range x).map fun i => (sumC cs i, sumC cs (i + 1))
@[simp] theorem rngT_len (cs : List Int) (x : Nat) : (rngT cs x).length = x := by simp [rngT]
def prC (l : List (Int × Int)) : List Value := l.flatMap fun p => [it p.1, it p.2]
@[simp] theorem prC_len (l : List (Int × Int)) : (prC l).length = l.length * 2 := by
  induction l with
  | nil => rfl
  | cons x l ih => simp only [prC, List.flatMap_cons, List.length_append, List.length_cons, List.length_nil] at ih ⊢; omega
theorem prC_snoc (l : List (Int × Int)) (p : Int × Int) : prC l ++ [it p.1, it p.2] = prC (l ++ [p]) := by simp [prC]
theorem rngT_succ (cs : List Int) (x : Nat) : rngT cs (x + 1) = rngT cs x ++ [(sumC cs x, sumC cs (x + 1))] := by simp [rngT, List.range_succ]
theorem prC_one (l : List (Int × Int)) : ∀ a ∈ prC l, a.oneCell' = true := by
  intro a ha
  obtain ⟨p, _, hp⟩ := List.mem_flatMap.1 ha
  simp only [List.mem_cons, List.not_mem_nil, or_false] at hp
  rcases hp with rfl | rfl <;> rfl
theorem pr_piece : ∀ {l : List (Int × Int)} {k : Nat}, k < l.length → ((prC l).drop (k * 2)).take 2 = [it (l.getD k (0, 0)).1, it (l.getD k (0, 0)).2]
  | [], _, h => by simp at h
  | x :: l, 0, _ => by rw [Nat.zero_mul, List.drop_zero]; exact List.take_left' rfl
  | x :: l, k + 1, h => by
    have := pr_piece (l := l) (k := k) (by simpa using h)
    rw [show (k + 1) * 2 = 2 + k * 2 by omega, ← List.drop_drop]
    exact this
theorem pr_get0 {l : List (Int × Int)} {k : Nat} (h : k < l.length) : (prC l)[k * 2 + 0]? = some (it (l.getD k (0, 0)).1) := by
  have := congrArg (fun x : List Value => x[0]?) (pr_piece h)
  simpa [List.getElem?_take, List.getElem?_drop] using this
theorem pr_get1 {l : List (Int × Int)} {k : Nat} (h : k < l.length) : (prC l)[k * 2 + 1]? = some (it (l.getD k (0, 0)).2) := by
  have := congrArg (fun x : List Value => x[1]?) (pr_piece h)
  simpa [List.getElem?_take, List.getElem?_drop] using this
theorem rng_get {cs : List Int} {n x : Nat} (h : x < n) : (rngT cs n).getD x (0, 0) = (sumC cs x, sumC cs (x + 1)) := by
  rw [List.getD_eq_getElem?_getD, List.getElem?_eq_getElem (by simpa using h)]
  simp [rngT]
theorem own_at {cs : List Int} (h : rightE cs = 0) : ∀ {n x : Nat}, n ≤ cs.length → x < (ownT cs n).length → ∃ o : Nat, (ownT cs n).getD x 0 = o ∧ o < n ∧ sumC cs o ≤ x ∧ (x : Int) < sumC cs (o + 1)
  | 0, _, _, hx => absurd hx (by simp [ownT])
  | n + 1, x, hn, hx => by
    obtain ⟨c, h1, h2, h3, h4, h5⟩ := count_at h (show n < cs.length by omega)
    have hl := own_len h (x := n) (by omega)
    have hl' := own_len h (x := n + 1) hn
    by_cases h6 : x < (ownT cs n).length
    · obtain ⟨o, e1, e2, e3, e4⟩ := own_at h (n := n) (by omega) h6
      refine ⟨o, ?_, by omega, e3, e4⟩
      rw [← e1, ownT]
      simp only [List.getD_eq_getElem?_getD]
      rw [List.getElem?_append_left h6]
    · refine ⟨n, ?_, by omega, by omega, by omega⟩
      rw [ownT, List.getD_eq_getElem?_getD, List.getElem?_append_right (by omega), List.getElem?_replicate, if_pos, Option.getD_some]
      rw [h1]
      omega
theorem eqI_succ {a b : List Int} {x : Nat} (h : ∀ j, j < x → a.getD j 0 = b.getD j 0) (hx : a.getD x 0 = b.getD x 0) : ∀ j, j < x + 1 → a.getD j 0 = b.getD j 0 := fun j hj => by
  rcases Nat.lt_succ_iff_lt_or_eq.1 hj with h1 | rfl
  · exact h j h1
  · exact hx
theorem eqI_all {a b : List Int} (hl : a.length = b.length) (h : ∀ j, j < a.length → a.getD j 0 = b.getD j 0) : a = b := by
  apply List.ext_getElem hl
  intro i h1 h2
  have := h i h1
  rw [List.getD_eq_getElem?_getD, List.getD_eq_getElem?_getD, List.getElem?_eq_getElem h1, List.getElem?_eq_getElem h2] at this
  exact this
/-! ### Slots by stake -/
def qN (ws : List W64) (n i : Nat) : Nat := n * (ws.getD i 0).toNat / totN ws
def rN (ws : List W64) (n i : Nat) : Nat := remF (n * (ws.getD i 0).toNat) (totN ws)
def lkAt (ws : List W64) (n i : Nat) : Lk := ⟨BitVec.ofNat 32 i, BitVec.ofNat 256 (rN ws n i)⟩
def lks (ws : List W64) (n x : Nat) : List Lk := (List.range x).map (lkAt ws n)
def outT (ws : List W64) (n x : Nat) : List Int := (List.range ws.length).map fun i => if i < x then (qN ws n i : Int) else 0
def sumQ (ws : List W64) (n x : Nat) : Nat := ((List.range x).map (qN ws n)).sum
def leftN (ws : List W64) (n : Nat) : Nat := n - sumQ ws n ws.length
def ins (x : Lk) : List Lk → List Lk
  | [] => [x]
  | y :: l => if key x ≤ key y then x :: y :: l else y :: ins x l
def srt : List Lk → List Lk
  | [] => []
  | x :: l => ins x (srt l)
theorem ins_perm (x : Lk) : ∀ l, (ins x l).Perm (x :: l)
  | [] => .refl _
  | y :: l => by
    unfold ins
    split
    · exact .refl _
    · exact ((ins_perm x l).cons y).trans (.swap x y l)
theorem srt_perm : ∀ l, (srt l).Perm l
  | [] => .refl _
  | x :: l => (ins_perm x _).trans ((srt_perm l).cons x)
theorem ins_sorted (x : Lk) : ∀ {l : List Lk}, l.Pairwise (fun a b => key a ≤ key b) → (ins x l).Pairwise (fun a b => key a ≤ key b)
  | [], _ => by simp [ins]
  | y :: l, h => by
    have hc := List.pairwise_cons.1 h
    unfold ins
    split
    · rename_i hxy
      refine List.pairwise_cons.2 ⟨fun z hz => ?_, h⟩
      rcases List.mem_cons.1 hz with rfl | hz
      · exact hxy
      · exact Nat.le_trans hxy (hc.1 z hz)
    · rename_i hxy
      refine List.pairwise_cons.2 ⟨fun z hz => ?_, ins_sorted x hc.2⟩
      rcases List.mem_cons.1 ((ins_perm x l).mem_iff.1 hz) with rfl | hz
      · omega
      · exact hc.1 z hz
theorem srt_sorted : ∀ l, (srt l).Pairwise (fun a b => key a ≤ key b)
  | [] => .nil
  | x :: l => ins_sorted x (srt_sorted l)
def bump (o : List Int) (l : List Lk) : List Int := l.foldl (fun o x => o.set x.who.toNat (o.getD x.who.toNat 0 + 1)) o
@[simp] theorem bump_len (l : List Lk) : ∀ o, (bump o l).length = o.length := by
  induction l with
  | nil => intro o; rfl
  | cons x l ih => intro o; rw [bump, List.foldl_cons]; exact (ih _).trans (by simp)
theorem bump_snoc (o : List Int) (l : List Lk) (x : Lk) : bump o (l ++ [x]) = (bump o l).set x.who.toNat ((bump o l).getD x.who.toNat 0 + 1) := by simp [bump, List.foldl_append]
def sortT (ws : List W64) (n : Nat) : List Lk := srt (lks ws n ws.length)
theorem sort_len (ws : List W64) (n : Nat) : (sortT ws n).length = ws.length := by rw [sortT, (srt_perm _).length_eq]; simp [lks]
def shareL (ws : List W64) (n : Nat) : List Int := bump (outT ws n ws.length) ((sortT ws n).take (leftN ws n))
def shareE (ws : List W64) (n : Int) : Int := if ws.length > 40 ∨ n < 0 ∨ n > 200 then 2 else if n > 0 ∧ totN ws = 0 then 11 else 0
theorem share_0 {ws : List W64} {n : Int} (h : shareE ws n = 0) : ∃ m : Nat, n = m ∧ m ≤ 200 ∧ ws.length ≤ 40 ∧ (m = 0 ∨ 0 < totN ws) := by
  unfold shareE at h
  by_cases h1 : ws.length > 40 ∨ n < 0 ∨ n > 200
  · rw [if_pos h1] at h; cases h
  · rw [if_neg h1] at h
    by_cases h2 : n > 0 ∧ totN ws = 0
    · rw [if_pos h2] at h; cases h
    · exact ⟨n.toNat, by omega, by omega, by omega, by omega⟩
theorem set_it (l : List Int) (i : Nat) (x : Int) : (l.map it).set i (it x) = (l.set i x).map it := List.map_set.symm
theorem out_0 (ws : List W64) (n : Nat) : (outT ws n 0).map it = List.replicate ws.length (Value.int .i64 0) := by
  rw [List.eq_replicate_iff]
  refine ⟨by simp [outT], fun b hb => ?_⟩
  obtain ⟨x, hx, rfl⟩ := List.mem_map.1 hb
  obtain ⟨i, _, rfl⟩ := List.mem_map.1 hx
  rfl
theorem out_get {ws : List W64} {n x i : Nat} (hi : i < ws.length) : (outT ws n x).getD i 0 = if i < x then (qN ws n i : Int) else 0 := by
  rw [List.getD_eq_getElem?_getD, List.getElem?_eq_getElem (by simpa [outT] using hi)]
  simp [outT]
theorem out_at {ws : List W64} {n i : Nat} (hi : i < ws.length) : (outT ws n (i + 1)).getD i 0 = (qN ws n i : Int) := by rw [out_get hi, if_pos (by omega)]
theorem out_set {ws : List W64} {n i : Nat} (_hi : i < ws.length) : (outT ws n i).set i (qN ws n i : Int) = outT ws n (i + 1) := by
  apply List.ext_getElem (by simp [outT])
  intro j h1 h2
  rw [List.getElem_set]
  simp only [outT, List.getElem_map, List.getElem_range]
  by_cases h : i = j
  · subst h; rw [if_pos rfl, if_pos (by omega)]
  · rw [if_neg h]
    by_cases h3 : j < i
    · rw [if_pos h3, if_pos (by omega)]
    · rw [if_neg h3, if_neg (by omega)]
theorem lks_succ (ws : List W64) (n x : Nat) : lks ws n (x + 1) = lks ws n x ++ [lkAt ws n x] := by simp [lks, List.range_succ]
theorem sumQ_succ (ws : List W64) (n x : Nat) : sumQ ws n (x + 1) = sumQ ws n x + qN ws n x := by simp [sumQ, List.range_succ]
theorem sum_bound (l : List W64) : (l.map BitVec.toNat).sum ≤ l.length * 18446744073709551616 := by
  induction l with
  | nil => simp
  | cons x l ih =>
    have := x.isLt
    simp only [List.map_cons, List.sum_cons, List.length_cons]
    omega
theorem tot_sum {l : List W64} (h : l.length ≤ 1000000) : totN l = (l.map BitVec.toNat).sum := by
  have := sum_bound l
  rw [totN]
  exact Nat.mod_eq_of_lt (by omega)
theorem le_sum : ∀ {l : List Nat} {x : Nat}, x ∈ l → x ≤ l.sum
  | y :: l, x, h => by
    rw [List.sum_cons]
    rcases List.mem_cons.1 h with rfl | h
    · omega
    · have := le_sum h; omega
theorem w_le {ws : List W64} {i : Nat} (hl : ws.length ≤ 40) (hi : i < ws.length) : (ws.getD i 0).toNat ≤ totN ws := by
  rw [tot_sum (by omega), List.getD_eq_getElem?_getD, List.getElem?_eq_getElem hi]
  exact le_sum (List.mem_map_of_mem (List.getElem_mem hi))
theorem qN_le {ws : List W64} {n i : Nat} (hl : ws.length ≤ 40) (hi : i < ws.length) : qN ws n i ≤ n := by
  unfold qN
  by_cases h0 : totN ws = 0
  · rw [h0, Nat.div_zero]; exact Nat.zero_le _
  · have h1 := Nat.div_le_div_right (c := totN ws) (Nat.mul_le_mul_left n (w_le hl hi))
    rwa [Nat.mul_div_cancel _ (Nat.pos_of_ne_zero h0)] at h1
theorem sumQ_bd {ws : List W64} {n : Nat} (hl : ws.length ≤ 40) (hn : n ≤ 200) : ∀ {i : Nat}, i ≤ ws.length → sumQ ws n i ≤ 200 * i
  | 0, _ => Nat.zero_le _
  | i + 1, h => by
    have h1 := sumQ_bd hl hn (i := i) (by omega)
    have h2 := qN_le (n := n) hl (i := i) (by omega)
    rw [sumQ_succ]
    omega
theorem rN_lt (ws : List W64) (n i : Nat) : rN ws n i < 115792089237316195423570985008687907853269984665640564039457584007913129639936 := by
  unfold rN remF
  split
  · decide
  · rename_i h
    exact Nat.lt_trans (Nat.mod_lt _ (Nat.pos_of_ne_zero h)) (tot_lt ws)
theorem lk_make {ws : List W64} {n i : Nat} (hi : i < 4294967296) : [it (i : Int), u64 (wat (rN ws n i) 0), u64 (wat (rN ws n i) 1), u64 (wat (rN ws n i) 2), u64 (wat (rN ws n i) 3)] = (lkAt ws n i).cells := by
  unfold lkAt Lk.cells
  dsimp only
  rw [BitVec.toNat_ofNat, BitVec.toNat_ofNat, Nat.mod_eq_of_lt (show i < 2 ^ 32 from hi), Nat.mod_eq_of_lt (show rN ws n i < 2 ^ 256 from rN_lt ws n i)]
  rfl
/-- What the parts come to. -/
theorem parts_le (P T : Nat) (hT : 0 < T) : ∀ l : List Nat, T * (l.map fun w => P * w / T).sum ≤ P * l.sum ∧ P * l.sum ≤ T * (l.map fun w => P * w / T).sum + l.length * (T - 1)
  | [] => by simp
  | w :: l => by
    obtain ⟨h1, h2⟩ := parts_le P T hT l
    have h3 := Nat.div_add_mod (P * w) T
    have h4 := Nat.mod_lt (P * w) hT
    simp only [List.map_cons, List.sum_cons, List.length_cons, Nat.mul_add, Nat.add_mul, Nat.one_mul]
    generalize T * (P * w / T) = a at *
    generalize (List.map (fun w => P * w / T) l).sum = S at *
    generalize l.length * (T - 1) = e at *
    generalize P * l.sum = d at *
    generalize T * S = f at *
    omega
theorem sumQ_eq (ws : List W64) (n : Nat) : sumQ ws n ws.length = ((ws.map BitVec.toNat).map fun w => n * w / totN ws).sum := by
  unfold sumQ qN
  congr 1
  apply List.ext_getElem (by simp)
  intro i h1 h2
  have hi : i < ws.length := by simpa using h2
  simp [hi]
theorem sumQ_le {ws : List W64} {n : Nat} (hl : ws.length ≤ 40) (hT : n = 0 ∨ 0 < totN ws) : sumQ ws n ws.length ≤ n ∧ n ≤ sumQ ws n ws.length + ws.length := by
  rw [sumQ_eq]
  rcases hT with rfl | hT
  · refine ⟨?_, Nat.zero_le _⟩
    have : ((ws.map BitVec.toNat).map fun w => 0 * w / totN ws) = (ws.map BitVec.toNat).map fun _ => 0 := by simp
    rw [this]
    have : ∀ l : List Nat, (l.map fun _ => 0).sum = 0 := fun l => by induction l with
      | nil => rfl
      | cons x l ih => simpa using ih
    rw [this]
    exact Nat.le_refl _
  · obtain ⟨h1, h2⟩ := parts_le n (totN ws) hT (ws.map BitVec.toNat)
    rw [← tot_sum (by omega), Nat.mul_comm n] at h1 h2
    refine ⟨Nat.le_of_mul_le_mul_left h1 hT, ?_⟩
    rw [List.length_map] at h2
    generalize ((ws.map BitVec.toNat).map fun w => n * w / totN ws).sum = S at *
    have h3 : ws.length * (totN ws - 1) ≤ totN ws * ws.length := by rw [Nat.mul_comm (totN ws)]; exact Nat.mul_le_mul_left _ (by omega)
    have h4 : totN ws * n ≤ totN ws * (S + ws.length) := by rw [Nat.mul_add]; omega
    exact Nat.le_of_mul_le_mul_left h4 hT
theorem left_eq {ws : List W64} {n : Nat} (hl : ws.length ≤ 40) (hT : n = 0 ∨ 0 < totN ws) : ((n : Int) - (sumQ ws n ws.length : Int)) = (leftN ws n : Int) := by
  have := (sumQ_le hl hT).1
  unfold leftN
  omega
theorem left_le {ws : List W64} {n : Nat} (hl : ws.length ≤ 40) (hT : n = 0 ∨ 0 < totN ws) : leftN ws n ≤ ws.length := by
  have := (sumQ_le hl hT).2
  unfold leftN
  omega
theorem who_at {ws : List W64} {n i : Nat} (hi : i < 4294967296) : (lkAt ws n i).who.toNat = i := by
  rw [lkAt, BitVec.toNat_ofNat]
  exact Nat.mod_eq_of_lt hi
theorem who_lt {ws : List W64} {n k : Nat} (hl : ws.length ≤ 40) (hk : k < (sortT ws n).length) : ((sortT ws n).getD k lkD).who.toNat < ws.length := by
  have hm : (sortT ws n).getD k lkD ∈ lks ws n ws.length := by
    rw [List.getD_eq_getElem?_getD, List.getElem?_eq_getElem hk]
    exact (srt_perm _).mem_iff.1 (List.getElem_mem hk)
  obtain ⟨i, hi, he⟩ := List.mem_map.1 hm
  have hi := List.mem_range.1 hi
  rw [← he, who_at (by omega)]
  exact hi
theorem bump_next {o : List Int} {S : List Lk} {k : Nat} (hk : k < S.length) : (bump o (S.take k)).set (S.getD k lkD).who.toNat ((bump o (S.take k)).getD (S.getD k lkD).who.toNat 0 + 1) = bump o (S.take (k + 1)) := by
  rw [List.take_add_one, List.getElem?_eq_getElem hk, Option.toList_some, bump_snoc, List.getD_eq_getElem?_getD (l := S), List.getElem?_eq_getElem hk]
  rfl
theorem bump_bd {M : Int} : ∀ (l : List Lk) (o : List Int), (∀ j, 0 ≤ o.getD j 0 ∧ o.getD j 0 ≤ M) → ∀ j, 0 ≤ (bump o l).getD j 0 ∧ (bump o l).getD j 0 ≤ M + l.length := by
  intro l
  induction l generalizing M with
  | nil => intro o h j; have := h j; simpa [bump] using this
  | cons x l ih =>
    intro o h j
    have h' : ∀ j, 0 ≤ (o.set x.who.toNat (o.getD x.who.toNat 0 + 1)).getD j 0 ∧ (o.set x.who.toNat (o.getD x.who.toNat 0 + 1)).getD j 0 ≤ M + 1 := by
      intro j
      have h1 := h j
      have h2 := h x.who.toNat
      by_cases hj : j < o.length
      · rw [getD_setA hj]
        split <;> omega
      · rw [List.getD_eq_getElem?_getD, List.getElem?_eq_none (by simp; omega)]
        simp only [Option.getD_none]
        omega
    have := ih (M := M + 1) _ h' j
    rw [List.length_cons]
    simp only [bump, List.foldl_cons] at this ⊢
    omega
theorem share_bd {ws : List W64} {n k : Nat} (hl : ws.length ≤ 40) (hn : n ≤ 200) (hT : n = 0 ∨ 0 < totN ws) (_hk : k ≤ leftN ws n) (j : Nat) : 0 ≤ (bump (outT ws n ws.length) ((sortT ws n).take k)).getD j 0 ∧ (bump (outT ws n ws.length) ((sortT ws n).take k)).getD j 0 ≤ 400 := by
  have h := bump_bd (M := 200) ((sortT ws n).take k) (outT ws n ws.length) (fun j => by
    by_cases hj : j < ws.length
    · rw [out_get hj, if_pos hj]
      have := qN_le (n := n) hl hj
      omega
    · rw [List.getD_eq_getElem?_getD, List.getElem?_eq_none (by simp [outT]; omega)]
      simp only [Option.getD_none]
      omega) j
  have hlen : ((sortT ws n).take k).length ≤ 40 := by rw [List.length_take, sort_len]; omega
  have := left_le hl hT
  omega
/-- The best one that is left comes out. -/
theorem pop_next {S hs ys : List Lk} {x : Lk} {k : Nat} (hS : S.Pairwise (fun a b => key a ≤ key b)) (hk : k < S.length) (hp : hs.Perm (S.drop k)) (hx : (x :: ys).Perm hs) (hm : ∀ y ∈ ys, key x ≤ key y) : x = S.getD k lkD ∧ ys.Perm (S.drop (k + 1)) := by
  have hd : S.drop k = S.getD k lkD :: S.drop (k + 1) := by
    rw [List.drop_eq_getElem_cons hk, List.getD_eq_getElem?_getD, List.getElem?_eq_getElem hk]; rfl
  have hpx := hx.trans hp
  rw [hd] at hpx
  have hs' := hS.drop (i := k)
  rw [hd] at hs'
  have h1 : key (S.getD k lkD) ≤ key x := by
    have hx' : x ∈ S.getD k lkD :: S.drop (k + 1) := hpx.mem_iff.1 (.head _)
    rcases List.mem_cons.1 hx' with h | h
    · rw [h]; exact Nat.le_refl _
    · exact (List.pairwise_cons.1 hs').1 x h
  have h2 : key x ≤ key (S.getD k lkD) := by
    have hx' : S.getD k lkD ∈ x :: ys := hpx.mem_iff.2 (.head _)
    rcases List.mem_cons.1 hx' with h | h
    · rw [h]; exact Nat.le_refl _
    · exact hm _ h
  obtain rfl := key_inj (Nat.le_antisymm h2 h1)
  exact ⟨rfl, hpx.cons_inv⟩
end Go.Proofs.Ytfcodaigdigjmaa
