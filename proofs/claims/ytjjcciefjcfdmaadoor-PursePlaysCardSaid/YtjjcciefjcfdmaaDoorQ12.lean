/- Fair shares: the plain law. No program in sight. -/
import Derived.Test.YtjjcciefjcfdmaaDoorP12
import Derived.Test.YtjjcciefjcfdmaaDoorR2
namespace Go.Proofs.YtjjcciefjcfdmaaDoor
open Go.RowKit
def noneT (ws : List W64) (x : Nat) : Bool := decide (∀ j, j < x → ws.getD j 0 = 0)
theorem noneT_0 (ws : List W64) : noneT ws 0 = true := decide_eq_true fun _ h => absurd h (by omega)
theorem noneT_succ (ws : List W64) (x : Nat) : noneT ws (x + 1) = (noneT ws x && decide (ws.getD x 0 = 0)) := by
  rw [Bool.eq_iff_iff, Bool.and_eq_true]
  simp only [noneT, decide_eq_true_eq]
  constructor
  · intro h
    exact ⟨fun j hj => h j (by omega), h x (by omega)⟩
  · rintro ⟨h1, h2⟩ j hj
    rcases Nat.lt_succ_iff_lt_or_eq.1 hj with h | rfl
    · exact h1 j h
    · exact h2
abbrev fairL (ws : List W64) (pot : W64) : List W64 := List.replicate ws.length 0 ++ [pot, 0]
abbrev fairW (ws : List W64) : List W64 := ws ++ [0, 0]
def fairR (ws : List W64) (pot : W64) : List W64 := spreadL (fairL ws pot) (ws.length : Int) ((ws.length + 1 : Nat) : Int) (fairW ws)
abbrev sumN (l : List W64) : Nat := (l.map BitVec.toNat).sum
theorem fairR_def (ws : List W64) (pot : W64) : spreadL (fairL ws pot) (ws.length : Int) ((ws.length + 1 : Nat) : Int) (fairW ws) = fairR ws pot := rfl
theorem fairL_len (ws : List W64) (pot : W64) : (fairL ws pot).length = ws.length + 2 := by simp
theorem fairW_len (ws : List W64) : (fairW ws).length = ws.length + 2 := by simp
theorem sum_rep (n : Nat) : ((List.replicate n (0 : W64)).map BitVec.toNat).sum = 0 := by
  induction n with
  | zero => rfl
  | succ n ih => rw [List.replicate_succ, List.map_cons, List.sum_cons, ih]; rfl
theorem fair_new {ws : List W64} {pot : W64} (h : ws.length ≤ 30) (hp : pot.toNat < 4611686018427387904) : newE (fairL ws pot) = 0 := by
  have hl := fairL_len ws pot
  refine new_of (by omega) ?_
  rw [tot_sum (by omega), List.map_append, List.sum_append_nat, sum_rep]
  simp
  omega
theorem fair_E (ws : List W64) (pot : W64) : spreadE (fairL ws pot) (ws.length : Int) ((ws.length + 1 : Nat) : Int) (fairW ws) = 0 :=
  (spread_ok (by rw [fairL_len]; omega) (by rw [fairL_len]; omega) (by rw [fairL_len, fairW_len])).1
theorem fair_R (ws : List W64) (pot : W64) : fairR ws pot = spreadD (fairL ws pot) ws.length (ws.length + 1) (fairW ws) :=
  (spread_ok (by rw [fairL_len]; omega) (by rw [fairL_len]; omega) (by rw [fairL_len, fairW_len])).2
theorem fair_len (ws : List W64) (pot : W64) : (fairR ws pot).length = ws.length + 2 := by rw [fair_R, spreadD_len, fairL_len]
theorem fair_tot {ws : List W64} (h : ws.length ≤ 30) : totN (fairW ws) = sumN ws := by
  rw [tot_sum (by rw [fairW_len]; omega), List.map_append, List.sum_append_nat]
  simp
theorem part_nat {pot w : W64} {T : Nat} (h : w.toNat ≤ T) : (partF pot w T).toNat = pot.toNat * w.toNat / T := by
  have hp := pot.isLt
  unfold partF
  by_cases h0 : T = 0
  · rw [if_pos h0, h0, Nat.div_zero]; rfl
  · have hT : 0 < T := Nat.pos_of_ne_zero h0
    have hle : pot.toNat * w.toNat / T ≤ pot.toNat := by
      have h1 : pot.toNat * w.toNat ≤ pot.toNat * T := Nat.mul_le_mul_left _ h
      have h2 := Nat.div_le_div_right (c := T) h1
      rwa [Nat.mul_div_cancel _ hT] at h2
    rw [if_neg h0, if_pos (by omega), BitVec.toNat_ofNat, Nat.mod_eq_of_lt (by omega)]
theorem fair_pot (ws : List W64) (pot : W64) : (fairL ws pot).getD ws.length 0 = pot := by
  rw [List.getD_eq_getElem?_getD, List.getElem?_append_right (by simp)]
  simp
theorem addT_at {l ps : List W64} {k i : Nat} (hi : i < l.length) (hk : i < k) : (addT l ps k).getD i 0 = l.getD i 0 + ps.getD i 0 := by
  rw [List.getD_eq_getElem?_getD, List.getElem?_eq_getElem (by simpa using hi), List.getD_eq_getElem?_getD, List.getElem?_eq_getElem hi]
  simp [addT, hk]
theorem fairS_get {ws : List W64} {pot : W64} {i : Nat} (hi : i < ws.length + 2) : ((fairL ws pot).set ws.length 0).getD i 0 = 0 := by
  rw [getD_set _ (by rw [fairL_len]; exact hi)]
  split
  · rfl
  · rename_i h
    by_cases h1 : i < ws.length
    · rw [List.getD_eq_getElem?_getD, List.getElem?_append_left (by simpa using h1)]; simp [h1]
    · obtain rfl : i = ws.length + 1 := by omega
      rw [List.getD_eq_getElem?_getD, List.getElem?_append_right (by simp)]
      simp
theorem fairP_get {ws : List W64} {pot : W64} {i : Nat} (hi : i < ws.length + 2) : (parts pot (fairW ws)).getD i 0 = partF pot ((fairW ws).getD i 0) (totN (fairW ws)) := (parts_get pot (by rw [fairW_len]; exact hi)).symm
theorem fairW_lo {ws : List W64} {i : Nat} (hi : i < ws.length) : (fairW ws).getD i 0 = ws.getD i 0 := by
  rw [List.getD_eq_getElem?_getD, List.getElem?_append_left hi, List.getD_eq_getElem?_getD]
theorem part_0 (pot : W64) (T : Nat) : partF pot 0 T = 0 := by
  apply BitVec.eq_of_toNat_eq
  rw [part_nat (Nat.zero_le _)]
  simp
theorem fairW_hi {ws : List W64} {i : Nat} (hi : ws.length ≤ i) : (fairW ws).getD i 0 = 0 := by
  rw [List.getD_eq_getElem?_getD, List.getElem?_append_right hi]
  match i - ws.length with
  | 0 => rfl
  | 1 => rfl
  | k + 2 => simp
theorem fair_lo {ws : List W64} {pot : W64} {i : Nat} (hn : ws.length ≤ 30) (hi : i < ws.length) : ((fairR ws pot).getD i 0).toNat = pot.toNat * (ws.getD i 0).toNat / sumN ws := by
  rw [fair_R]
  unfold spreadD
  dsimp only
  rw [fair_pot, getD_set _ (by simp; omega), if_neg (by omega), addT_at (by simp; omega) (by rw [fairW_len]; omega), fairS_get (by omega), fairP_get (by omega), fairW_lo hi, fair_tot hn, show (0 : W64) + partF pot (ws.getD i 0) (sumN ws) = partF pot (ws.getD i 0) (sumN ws) from BitVec.zero_add _]
  refine part_nat ?_
  rw [List.getD_eq_getElem?_getD, List.getElem?_eq_getElem hi]
  exact le_sum (List.mem_map_of_mem (List.getElem_mem hi))
theorem fair_n {ws : List W64} {pot : W64} : (fairR ws pot).getD ws.length 0 = 0 := by
  rw [fair_R]
  unfold spreadD
  dsimp only
  rw [fair_pot, getD_set _ (by simp), if_neg (by omega), addT_at (by simp) (by rw [fairW_len]; omega), fairS_get (by omega), fairP_get (by omega), fairW_hi (Nat.le_refl _), part_0]
  rfl
theorem fair_hi {ws : List W64} {pot : W64} : (fairR ws pot).getD (ws.length + 1) 0 = leftT pot (parts pot (fairW ws)) (ws.length + 2) := by
  rw [fair_R]
  unfold spreadD
  dsimp only
  rw [fair_pot, getD_set _ (by simp), if_pos rfl, addT_at (by simp) (by rw [fairW_len]; omega), fairS_get (by omega), fairP_get (by omega), fairW_hi (by omega), part_0, fairW_len]
  exact BitVec.zero_add _
/-- What the parts come to. -/
theorem parts_le (P T : Nat) (hT : 0 < T) : ∀ l : List Nat, T * (l.map fun w => P * w / T).sum ≤ P * l.sum ∧ P * l.sum ≤ T * (l.map fun w => P * w / T).sum + l.length * (T - 1)
  | [] => by simp
  | w :: l => by
    obtain ⟨h1, h2⟩ := parts_le P T hT l
    have h3 := Nat.div_add_mod (P * w) T
    have h4 := Nat.mod_lt (P * w) hT
    simp only [List.map_cons, List.sum_cons, List.length_cons, Nat.mul_add, Nat.add_mul, Nat.one_mul]
    generalize T * (P * w / T) = a at *
    generalize (List.map (fun w => P * w / T) l).sum = S at *
    generalize l.length * (T - 1) = e at *
    generalize P * l.sum = d at *
    generalize T * S = f at *
    omega
theorem sum_nat {ps : List W64} (h : (ps.map BitVec.toNat).sum < 18446744073709551616) : ps.sum.toNat = (ps.map BitVec.toNat).sum := by
  induction ps with
  | nil => rfl
  | cons x l ih =>
    simp only [List.map_cons, List.sum_cons] at h ⊢
    rw [BitVec.toNat_add, ih (by omega), Nat.mod_eq_of_lt (by omega)]
theorem parts_sum {pot : W64} {ws : List W64} (hn : ws.length ≤ 30) : ((parts pot (fairW ws)).map BitVec.toNat).sum = ((ws.map BitVec.toNat).map fun w => pot.toNat * w / sumN ws).sum := by
  unfold parts
  rw [fair_tot hn, List.map_map, List.map_append, List.sum_append_nat]
  simp only [List.map_cons, List.map_nil, Function.comp, part_0, List.sum_cons, List.sum_nil, List.map_map]
  rw [show ((0 : W64).toNat + ((0 : W64).toNat + 0)) = 0 from rfl, Nat.add_zero]
  congr 1
  apply List.map_congr_left
  intro w hw
  exact part_nat (le_sum (List.mem_map_of_mem hw))
theorem sum_zero (l : List Nat) {f : Nat → Nat} (h : ∀ w, f w = 0) : (l.map f).sum = 0 := by
  induction l with
  | nil => rfl
  | cons x l ih => rw [List.map_cons, List.sum_cons, ih, h]
theorem fair_left {ws : List W64} {pot : W64} (hn : ws.length ≤ 30) : ((fairR ws pot).getD (ws.length + 1) 0).toNat = pot.toNat - ((ws.map BitVec.toNat).map fun w => pot.toNat * w / sumN ws).sum ∧ ((ws.map BitVec.toNat).map fun w => pot.toNat * w / sumN ws).sum ≤ pot.toNat := by
  have hp := pot.isLt
  have hs : ((ws.map BitVec.toNat).map fun w => pot.toNat * w / sumN ws).sum ≤ pot.toNat := by
    by_cases h0 : sumN ws = 0
    · rw [h0, sum_zero _ fun w => Nat.div_zero _]
      exact Nat.zero_le _
    · have h := (parts_le pot.toNat (sumN ws) (Nat.pos_of_ne_zero h0) (ws.map BitVec.toNat)).1
      rw [Nat.mul_comm pot.toNat] at h
      exact Nat.le_of_mul_le_mul_left h (Nat.pos_of_ne_zero h0)
  refine ⟨?_, hs⟩
  have hsum : ((parts pot (fairW ws)).map BitVec.toNat).sum ≤ pot.toNat := by rw [parts_sum hn]; exact hs
  have hl : (parts pot (fairW ws)).length = ws.length + 2 := by rw [parts_len, fairW_len]
  rw [fair_hi, leftT, List.take_of_length_le (by omega), BitVec.toNat_sub, sum_nat (by omega), parts_sum hn]
  omega
theorem none_sum {ws : List W64} (h : noneT ws ws.length = true) : sumN ws = 0 := by
  have h := of_decide_eq_true h
  have : ∀ x ∈ ws, x = 0 := fun x hx => by
    obtain ⟨j, hj, rfl⟩ := List.getElem_of_mem hx
    have := h j hj
    rwa [List.getD_eq_getElem?_getD, List.getElem?_eq_getElem hj] at this
  rw [sumN, show ws.map BitVec.toNat = List.replicate ws.length 0 from List.eq_replicate_iff.2 ⟨by simp, fun b hb => by obtain ⟨x, hx, rfl⟩ := List.mem_map.1 hb; rw [this x hx]; rfl⟩]
  simp
theorem sum_pos {ws : List W64} (h : noneT ws ws.length = false) : 0 < sumN ws := by
  refine Nat.pos_of_ne_zero fun h0 => ?_
  rw [noneT, decide_eq_false_iff_not] at h
  refine h fun j hj => ?_
  rw [List.getD_eq_getElem?_getD, List.getElem?_eq_getElem hj]
  have := le_sum (List.mem_map_of_mem (f := BitVec.toNat) (List.getElem_mem hj))
  have h0' : (ws.map BitVec.toNat).sum = 0 := h0
  exact BitVec.eq_of_toNat_eq (by show (ws[j]).toNat = 0; omega)
theorem fair_none {ws : List W64} {pot : W64} (hn : ws.length ≤ 30) (h : noneT ws ws.length = true) : (fairR ws pot).getD (ws.length + 1) 0 = pot := by
  apply BitVec.eq_of_toNat_eq
  rw [(fair_left hn).1, none_sum h, sum_zero _ fun w => Nat.div_zero _]
  rfl
theorem fair_some {ws : List W64} {pot : W64} (hn : ws.length ≤ 30) (h : noneT ws ws.length = false) : ((fairR ws pot).getD (ws.length + 1) 0).toNat < ws.length := by
  have hT := sum_pos h
  have hl : ws ≠ [] := fun e => by subst e; simp [sumN] at hT
  have hlen : 0 < ws.length := List.length_pos_iff.2 hl
  have h1 := (parts_le pot.toNat (sumN ws) hT (ws.map BitVec.toNat)).2
  rw [(fair_left hn).1]
  generalize ((ws.map BitVec.toNat).map fun w => pot.toNat * w / sumN ws).sum = S at *
  rw [List.length_map, show (ws.map BitVec.toNat).sum = sumN ws from rfl] at h1
  generalize sumN ws = T at *
  refine Nat.lt_of_not_le fun hge => ?_
  have h2 : T * (S + ws.length) ≤ pot.toNat * T := by rw [Nat.mul_comm pot.toNat]; exact Nat.mul_le_mul_left _ (by omega)
  have h3 : ws.length * (T - 1) + ws.length = T * ws.length := by
    obtain ⟨t, rfl⟩ : ∃ t, T = t + 1 := ⟨T - 1, by omega⟩
    rw [Nat.add_sub_cancel, Nat.add_mul, Nat.one_mul, Nat.mul_comm t]
  rw [Nat.mul_add] at h2
  generalize T * S = a at *
  generalize pot.toNat * T = b at *
  generalize T * ws.length = c at *
  generalize ws.length * (T - 1) = d at *
  omega
theorem fair_zero {ws : List W64} {pot : W64} {i : Nat} (hn : ws.length ≤ 30) (hi : i < ws.length) (h : ws.getD i 0 = 0) : (fairR ws pot).getD i 0 = 0 := by
  apply BitVec.eq_of_toNat_eq
  rw [fair_lo hn hi, h]
  simp
theorem fair_mono {ws : List W64} {pot : W64} {i k : Nat} (hn : ws.length ≤ 30) (hi : i < ws.length) (hk : k < ws.length) (h : (ws.getD i 0).toNat ≤ (ws.getD k 0).toNat) : ((fairR ws pot).getD i 0).toNat ≤ ((fairR ws pot).getD k 0).toNat := by
  rw [fair_lo hn hi, fair_lo hn hk]
  exact Nat.div_le_div_right (Nat.mul_le_mul_left _ h)
/-! ### What all have together -/
theorem sumN_set : ∀ {l : List W64} {i : Nat} (_ : i < l.length) (x : W64), sumN (l.set i x) + (l.getD i 0).toNat = sumN l + x.toNat
  | y :: l, 0, _, x => by simp [sumN]; omega
  | y :: l, i + 1, h, x => by
    have := sumN_set (l := l) (i := i) (by simpa using h) x
    simp only [sumN, List.set_cons_succ, List.map_cons, List.sum_cons, List.getD_cons_succ] at this ⊢
    omega
theorem get_le (l : List W64) (i : Nat) : (l.getD i 0).toNat ≤ sumN l := by
  by_cases h : i < l.length
  · rw [List.getD_eq_getElem?_getD, List.getElem?_eq_getElem h]
    exact le_sum (List.mem_map_of_mem (List.getElem_mem h))
  · rw [List.getD_eq_getElem?_getD, List.getElem?_eq_none (by omega)]
    exact Nat.zero_le _
theorem move_sum {l : List W64} {f t : Int} {a : W64} (hs : sumN l < 18446744073709551616) : sumN (moveL l f t a) = sumN l := by
  by_cases h : moveE l f t a = 0
  · obtain ⟨i, j, rfl, rfl, hi, hj, h0⟩ := moveE_cases _ _ _ _ h
    rw [(move_ok hi hj h0).2]
    have h1 := sumN_set hi (l.getD i 0 - a)
    have e1 : (l.getD i 0 - a).toNat = (l.getD i 0).toNat - a.toNat := by
      have := (l.getD i 0).isLt
      rw [BitVec.toNat_sub]
      omega
    rw [e1] at h1
    have hj' : j < (l.set i (l.getD i 0 - a)).length := by simpa using hj
    have h2 := sumN_set hj' ((l.set i (l.getD i 0 - a)).getD j 0 + a)
    have h3 := get_le (l.set i (l.getD i 0 - a)) j
    have h4 := get_le l i
    rw [BitVec.toNat_add, Nat.mod_eq_of_lt (by omega)] at h2
    unfold moveD
    omega
  · rw [move_ref h]
theorem addT_zip : ∀ {l ps : List W64}, ps.length = l.length → addT l ps ps.length = List.zipWith (· + ·) l ps
  | [], [], _ => rfl
  | x :: l, y :: ps, h => by
    have h' : ps.length = l.length := by simpa using h
    apply List.ext_getElem (by simp [h'])
    intro i h1 h2
    simp only [addT, List.getElem_mapIdx, List.getElem_zipWith]
    have hi : i < (y :: ps).length := by simp at h2; simp; omega
    rw [if_pos hi, List.getD_eq_getElem?_getD, List.getElem?_eq_getElem hi]
    rfl
theorem zip_sum : ∀ {l ps : List W64}, ps.length = l.length → sumN l + sumN ps < 18446744073709551616 → sumN (List.zipWith (· + ·) l ps) = sumN l + sumN ps
  | [], [], _, _ => rfl
  | x :: l, y :: ps, h, hs => by
    simp only [sumN, List.map_cons, List.sum_cons] at hs
    have := zip_sum (l := l) (ps := ps) (by simpa using h) (by simp only [sumN]; omega)
    simp only [sumN] at this
    simp only [sumN, List.zipWith_cons_cons, List.map_cons, List.sum_cons, BitVec.toNat_add]
    rw [this, Nat.mod_eq_of_lt (by omega)]
    omega
theorem partsN {pot : W64} {ws : List W64} (h : ws.length ≤ 1000000) : sumN (parts pot ws) = ((ws.map BitVec.toNat).map fun w => pot.toNat * w / sumN ws).sum ∧ sumN (parts pot ws) ≤ pot.toNat := by
  have e : sumN (parts pot ws) = ((ws.map BitVec.toNat).map fun w => pot.toNat * w / sumN ws).sum := by
    unfold parts sumN
    rw [tot_sum h, List.map_map, List.map_map]
    congr 1
    apply List.map_congr_left
    intro w hw
    exact part_nat (le_sum (List.mem_map_of_mem hw))
  refine ⟨e, ?_⟩
  rw [e]
  by_cases h0 : sumN ws = 0
  · rw [h0, sum_zero _ fun w => Nat.div_zero _]
    exact Nat.zero_le _
  · have h := (parts_le pot.toNat (sumN ws) (Nat.pos_of_ne_zero h0) (ws.map BitVec.toNat)).1
    rw [Nat.mul_comm pot.toNat] at h
    exact Nat.le_of_mul_le_mul_left h (Nat.pos_of_ne_zero h0)
theorem spread_sum {l : List W64} {f t : Int} {ws : List W64} (hl : l.length ≤ 1000000) (hs : sumN l < 18446744073709551616) : sumN (spreadL l f t ws) = sumN l := by
  by_cases h : spreadE l f t ws = 0
  · by_cases h1 : okA l.length [f, t] = true ∧ ws.length = l.length
    · obtain ⟨h1, h2⟩ := h1
      obtain ⟨i, j, rfl, rfl, hi, hj⟩ := ok2 h1
      rw [(spread_ok hi hj h2).2]
      unfold spreadD
      dsimp only
      have hpl : (parts (l.getD i 0) ws).length = (l.set i 0).length := by simp [h2]
      have hp := (partsN (pot := l.getD i 0) (ws := ws) (by omega)).2
      have h3 := sumN_set hi 0
      rw [show (0 : W64).toNat = 0 from rfl] at h3
      have hw : ws.length = (parts (l.getD i 0) ws).length := by simp
      rw [hw, addT_zip hpl]
      have h4 := zip_sum hpl (by omega)
      have hjz : j < (List.zipWith (· + ·) (l.set i 0) (parts (l.getD i 0) ws)).length := by simp [h2, hj]
      generalize List.zipWith (· + ·) (l.set i 0) (parts (l.getD i 0) ws) = m at *
      have hleft : (leftT (l.getD i 0) (parts (l.getD i 0) ws) (parts (l.getD i 0) ws).length).toNat = (l.getD i 0).toNat - sumN (parts (l.getD i 0) ws) := by
        have := (l.getD i 0).isLt
        have hsn : (parts (l.getD i 0) ws).sum.toNat = sumN (parts (l.getD i 0) ws) := sum_nat (Nat.lt_of_le_of_lt hp this)
        rw [leftT, List.take_length, BitVec.toNat_sub, hsn]
        omega
      have h5 := sumN_set hjz (m.getD j 0 + leftT (l.getD i 0) (parts (l.getD i 0) ws) (parts (l.getD i 0) ws).length)
      have h6 := get_le m j
      rw [BitVec.toNat_add, hleft, Nat.mod_eq_of_lt (by omega)] at h5
      omega
    · rw [(spread_no h1).2]
  · rw [spread_ref h]
theorem wat_tot {l : List W64} (h : l.length ≤ 1000000) : wat (totN l) 0 = BitVec.ofNat 64 (sumN l) := by rw [tot_sum h, wat_0]
theorem sum_of {l : List W64} (h : sumN l < 18446744073709551616) : l.sum = BitVec.ofNat 64 (sumN l) := by
  apply BitVec.eq_of_toNat_eq
  rw [sum_nat h, BitVec.toNat_ofNat, Nat.mod_eq_of_lt h]
theorem sum_succ {l : List W64} {x : Nat} (h : x < l.length) : (l.take x).sum + l.getD x 0 = (l.take (x + 1)).sum := by
  rw [List.take_add_one, List.getElem?_eq_getElem h, List.getD_eq_getElem?_getD, List.getElem?_eq_getElem h]
  simp only [Option.toList_some, Option.getD_some, List.sum_append, List.sum_cons, List.sum_nil]
  rw [show l[x] + (0 : W64) = l[x] from BitVec.add_zero _]
/-! ### The document's answer -/
theorem newT {T : Nat} (hT : T < 115792089237316195423570985008687907853269984665640564039457584007913129639936) (h1 : ¬ (wat T 1).toNat > 0) (h2 : ¬ (wat T 2).toNat > 0) (h3 : ¬ (wat T 3).toNat > 0) : (wat T 0).toNat ≥ 9223372036854775808 ↔ 9223372036854775808 ≤ T := by
  rw [wat_1, BitVec.toNat_ofNat] at h1
  rw [wat_2, BitVec.toNat_ofNat] at h2
  rw [wat_3, BitVec.toNat_ofNat] at h3
  rw [wat_0, BitVec.toNat_ofNat]
  omega
theorem newE_eq (l : List W64) : newE l = if l.length > 40 then 2 else if 9223372036854775808 ≤ totN l then 10 else 0 := rfl
theorem minW_comm (a b : W64) : minW a b = minW b a := by
  unfold minW
  split <;> split
  · omega
  · rfl
  · rfl
  · exact BitVec.eq_of_toNat_eq (by omega)
theorem has_in {l : List W64} {j : Nat} (h : j < l.length) : hasF l (((j + 1 : Nat) : Int) - 1) = l.getD j 0 := by
  rw [show (((j + 1 : Nat) : Int) - 1) = (j : Int) by omega, hasF, if_pos (ok1_nat h), Int.toNat_natCast]
theorem has_out {l : List W64} {i : Int} (h : ¬ (0 ≤ i ∧ i < l.length)) : hasF l i = 0 := by
  rw [hasF, if_neg]
  rw [okA1, isI_iff]
  exact h
theorem takeL_no {l : List W64} {f t : Int} {a : W64} (h : ¬ okA l.length [f, t] = true) : takeL l f t a = l ∧ takeF l f t a = 0 := ⟨(move_no h).2, by rw [takeF, (move_no h).1]; rfl⟩
theorem takeF_in {l : List W64} {i j : Nat} {a : W64} (hi : i < l.length) (hj : j < l.length) : takeF l i j a = takeA l i a := by
  have h := ok2_nat hi hj
  rw [okA2] at h
  exact take_there h
theorem takeA_in {l : List W64} {i : Nat} {a : W64} (hi : i < l.length) : minW (l.getD i 0) a = takeA l i a := by
  rw [takeA, hasF, if_pos (ok1_nat hi), Int.toNat_natCast, minW_comm]
attribute [irreducible] fairR noneT
end Go.Proofs.YtjjcciefjcfdmaaDoor
