/- All who agree, and what was said: a world; how it lies in memory. No program in sight. -/
import Derived.Test.YtncececcopalgaaDoorX16
namespace Go.Proofs.YtncececcopalgaaDoor
open Go.RowKit
set_option linter.unusedVariables false
set_option linter.unusedSimpArgs false
structure PickE where
  do_ : Int
  who : Int
  k : Int
  kind : Int
  m : Msg
def PickE.cells (o : PickE) : List Value := [it o.do_, it o.who, it o.k, it o.kind] ++ o.m.cells
@[simp] theorem PickE.len (o : PickE) : o.cells.length = 40 := by simp [PickE.cells]
def piC (l : List PickE) : List Value := l.flatMap PickE.cells
def piAt (l : List PickE) (k : Nat) : PickE := l.getD k ⟨0, 0, 0, 0, Msg0⟩
@[simp] theorem piC_len (l : List PickE) : (piC l).length = l.length * 40 := by
  unfold piC
  induction l with
  | nil => rfl
  | cons a l ih => rw [List.flatMap_cons, List.length_append, ih, PickE.len, List.length_cons]; omega
theorem pi_all {l : List PickE} {k : Nat} (hk : k < l.length) : ((piC l).drop (k * 40)).take 40 = (piAt l k).cells := flat_drop PickE.len _ hk
theorem pi_who {l : List PickE} {k : Nat} (hk : k < l.length) : (piC l)[k * 40 + 1]? = some (it (piAt l k).who) := flat_get (f := PickE.cells) PickE.len ⟨0, 0, 0, 0, Msg0⟩ hk (by decide)
theorem PickE.one (o : PickE) : ∀ a ∈ o.cells, a.oneCell' = true := by
  intro a ha
  simp only [PickE.cells, List.mem_append, List.mem_cons, List.not_mem_nil, or_false] at ha
  rcases ha with (rfl | rfl | rfl | rfl) | ha
  · rfl
  · rfl
  · rfl
  · rfl
  · exact Msg.one _ a ha
theorem pk_m (o : PickE) : (o.cells.drop 4).take 36 = o.m.cells := by simp [PickE.cells, List.take_of_length_le]
theorem pk_from (o : PickE) : o.cells[4 + 2]? = some (it o.m.from_) := by simp [PickE.cells, Msg.cells, List.getElem?_append]
theorem pk_v (o : PickE) : (o.cells.drop (4 + 3)).take 32 = dgC o.m.value := by
  have h : ((o.cells.drop 4).drop 3).take 32 = dgC o.m.value := by simp [PickE.cells, Msg.cells, List.take_append]
  rw [List.drop_drop] at h
  exact h
def msC (l : List Msg) : List Value := l.flatMap Msg.cells
def msAt (l : List Msg) (k : Nat) : Msg := l.getD k Msg0
@[simp] theorem msC_len (l : List Msg) : (msC l).length = l.length * 36 := by
  unfold msC
  induction l with
  | nil => rfl
  | cons a l ih => rw [List.flatMap_cons, List.length_append, ih, Msg.len, List.length_cons]; omega
theorem msC_app (l k : List Msg) : msC (l ++ k) = msC l ++ msC k := List.flatMap_append
theorem ms_all {l : List Msg} {k : Nat} (hk : k < l.length) : ((msC l).drop (k * 36)).take 36 = (msAt l k).cells := flat_drop Msg.len _ hk
theorem msC_one (l : List Msg) : ∀ a ∈ msC l, a.oneCell' = true := by
  intro a ha
  obtain ⟨x, _, hx⟩ := List.mem_flatMap.1 ha
  exact Msg.one x a hx
theorem ms1 (a : Msg) : [msV a].flatMap (fun v => v.cells.toList) = msC [a] := rfl
theorem msV_size (a : Msg) : (msV a).cells.size = 36 := by
  show a.cells.toArray.size = 36
  simp
def goodV (v : D32) : Bool := decide ((v.1.getD 0 0).toNat % 4 ≠ 3)
theorem good_eq (v : D32) : v.1.getD 0 0 % 4#8 ≠ 3#8 ↔ (v.1.getD 0 0).toNat % 4 ≠ 3 := by
  rw [ne_eq, ← BitVec.toNat_inj, BitVec.toNat_umod]
  exact Iff.rfl
theorem sum_step {S : List W64} {x : Nat} (h : x < S.length) : BitVec.ofNat 64 (sumS (S.take x)) + S.getD x 0 = BitVec.ofNat 64 (sumS (S.take (x + 1))) := by
  rw [List.take_add_one, List.getElem?_eq_getElem h, List.getD_eq_getElem?_getD, List.getElem?_eq_getElem h]
  unfold sumS
  rw [List.map_append, List.sum_append, BitVec.ofNat_add]
  simp
/-! ### What happens in a world -/
structure AW where
  st : List AR
  said : List Msg
namespace AW
def AR0 : AR := AR.new [] 0 0 D0
def at_ (w : AW) (i : Nat) : AR := w.st.getD i AR0
def hearW (w : AW) (i : Nat) (m : Msg) : AW × List Act := (⟨w.st.set i ((w.at_ i).hear m (goodV m.value)).1, w.said⟩, ((w.at_ i).hear m (goodV m.value)).2.1)
def msgOf (who : Nat) (x : Act) : Msg := ⟨x.kind, x.round, who, x.value, x.valid⟩
/-- One act of a list: said, and heard by oneself. -/
def act1 (w : AW) (who : Nat) (x : Act) : AW × List Act :=
  if x.kind < 1 ∨ 3 < x.kind ∨ 400 < w.said.length then (w, []) else (AW.mk w.st (w.said ++ [msgOf who x])).hearW who (msgOf who x)
def actN (who : Nat) : Nat → AW → List Act → Nat → AW
  | 0, w, _, _ => w
  | f + 1, w, l, i => if i < l.length ∧ i < 200 then actN who f (w.act1 who (actAt l i)).1 (l ++ (w.act1 who (actAt l i)).2) (i + 1) else w
def act (w : AW) (who : Nat) (l : List Act) : AW := actN who 201 w l 0
def pick (w : AW) (o : PickE) (bad : List Bool) : AW :=
  if o.who < 0 ∨ (w.st.length : Int) ≤ o.who then w else
  let i := o.who.toNat
  if o.do_ = 1 then (AW.mk (w.st.set i (w.at_ i).start.1) w.said).act i (w.at_ i).start.2
  else if o.do_ = 2 then (if 0 ≤ o.k ∧ o.k < w.said.length then (w.hearW i (msAt w.said o.k.toNat)).1.act i (w.hearW i (msAt w.said o.k.toNat)).2 else w)
  else if o.do_ = 3 then (if 0 ≤ o.m.from_ ∧ o.m.from_ < bad.length ∧ bad.getD o.m.from_.toNat false = true then (w.hearW i o.m).1.act i (w.hearW i o.m).2 else w)
  else if o.do_ = 4 then (AW.mk (w.st.set i ((w.at_ i).timeout o.kind (w.at_ i).rd).1) w.said).act i ((w.at_ i).timeout o.kind (w.at_ i).rd).2
  else w
theorem actN_stop {who f : Nat} {w : AW} {l : List Act} {i : Nat} (h : ¬ (i < l.length ∧ i < 200)) : actN who f w l i = w := by
  cases f with
  | zero => rfl
  | succ f => unfold actN; rw [if_neg h]
theorem actN_go {who f : Nat} {w : AW} {l : List Act} {i : Nat} (h : i < l.length ∧ i < 200) : actN who (f + 1) w l i = actN who f (w.act1 who (actAt l i)).1 (l ++ (w.act1 who (actAt l i)).2) (i + 1) := by
  rw [actN, if_pos h]
def dg4 (i : Nat) : D32 := dg1 (BitVec.ofNat 8 (4 * i + 1))
theorem dg4_ne {i : Nat} (h : i < 7) : dg4 i ≠ D0 := by
  match i, h with
  | 0, _ => decide
  | 1, _ => decide
  | 2, _ => decide
  | 3, _ => decide
  | 4, _ => decide
  | 5, _ => decide
  | 6, _ => decide
def made (S : List W64) (sh : Int) : AW := ⟨(List.range S.length).map fun (i : Nat) => AR.new S (i : Int) sh (dg4 i), []⟩
end AW
namespace AW
theorem act1_no {w : AW} {who : Nat} {x : Act} (h : x.kind < 1 ∨ 3 < x.kind ∨ 400 < w.said.length) : w.act1 who x = (w, []) := if_pos h
theorem act1_yes {w : AW} {who : Nat} {x : Act} (h : ¬ (x.kind < 1 ∨ 3 < x.kind ∨ 400 < w.said.length)) : w.act1 who x = (⟨w.st.set who ((w.at_ who).hear (msgOf who x) (goodV x.value)).1, w.said ++ [msgOf who x]⟩, ((w.at_ who).hear (msgOf who x) (goodV x.value)).2.1) := if_neg h
end AW
def msZ : List Value := [it 0, it 0, it 0] ++ List.replicate 32 (u8 0) ++ [it 0]
theorem ms5 (k r f : Int) (v : D32) (x : Int) : splice (splice (splice (splice (splice msZ 0 [it k]) 1 [it r]) 2 [it f]) 3 (dgC v)) 35 [it x] = (Msg.mk k r f v x).cells := by
  simp [splice, msZ, Msg.cells, List.replicate, List.drop_append, List.take_append, List.drop_eq_nil_of_le, List.take_of_length_le]
theorem dg_get0 (v : D32) : (dgC v)[0]? = some (u8 (v.1.getD 0 0)) := by
  have := v.2
  rw [List.getElem?_map, List.getD_eq_getElem?_getD, List.getElem?_eq_getElem (by omega)]
  rfl
theorem from_join {bad : List Bool} {f : Int} {fr : Nat} (hf : f = fr) (h : f < bad.length) : bad.getD fr false = decide (0 ≤ f ∧ f < bad.length ∧ bad.getD f.toNat false = true) := by
  subst hf
  rw [Int.toNat_natCast]
  cases hb : bad.getD fr false
  · exact (decide_eq_false (fun h2 => by have := h2.2.2; cases this)).symm
  · exact (decide_eq_true ⟨by omega, h, rfl⟩).symm
theorem from_join2 {bad : List Bool} {f : Int} {fr : Nat} (hf : f = fr) (h : f < bad.length) : (!bad.getD fr false) = decide (0 ≤ f ∧ f < bad.length ∧ bad.getD f.toNat false = false) := by
  subst hf
  rw [Int.toNat_natCast]
  cases hb : bad.getD fr false
  · exact (decide_eq_true ⟨by omega, h, rfl⟩).symm
  · exact (decide_eq_false (fun h2 => by have := h2.2.2; cases this)).symm
/-! ### Who is corrupt, and how much that is -/
def badN (S : List W64) (bad : List Bool) : Nat := byN S fun i => bad.getD i false
def badL (S : List W64) (bad : List Bool) (k : Nat) : List W64 := (List.range S.length).map fun i => if i < k ∧ bad.getD i false = true then S.getD i 0 else 0
@[simp] theorem badL_len (S : List W64) (bad : List Bool) (k : Nat) : (badL S bad k).length = S.length := by simp [badL]
theorem badL_0 (S : List W64) (bad : List Bool) : List.replicate S.length (Value.int .u64 0) = (badL S bad 0).map u64 := by
  apply List.ext_getElem (by simp)
  intro i h1 h2
  simp [badL]
theorem badL_set {S : List W64} {bad : List Bool} {k : Nat} (hk : k < S.length) (hb : bad.getD k false = true) : (badL S bad k).set k (S.getD k 0) = badL S bad (k + 1) := by
  apply List.ext_getElem (by simp)
  intro i h1 h2
  rw [List.getElem_set]
  have hi : i < S.length := by simpa using h2
  simp only [badL, List.getElem_map, List.getElem_range]
  by_cases e : k = i
  · subst e
    rw [if_pos rfl, if_pos ⟨by omega, hb⟩]
  · rw [if_neg e]
    by_cases h3 : i < k ∧ bad.getD i false = true
    · rw [if_pos h3, if_pos ⟨by omega, h3.2⟩]
    · rw [if_neg h3, if_neg (fun h4 => h3 ⟨by omega, h4.2⟩)]
theorem badL_no {S : List W64} {bad : List Bool} {k : Nat} (hb : bad.getD k false = false) : badL S bad (k + 1) = badL S bad k := by
  unfold badL
  apply List.map_congr_left
  intro i _
  by_cases h3 : i < k ∧ bad.getD i false = true
  · rw [if_pos h3, if_pos ⟨by omega, h3.2⟩]
  · rw [if_neg h3, if_neg (fun h4 => h3 ⟨by have : i ≠ k := fun e => by rw [e, hb] at h4; cases h4.2
                                            omega, h4.2⟩)]
theorem badL_sum (S : List W64) (bad : List Bool) : sumS (badL S bad S.length) = badN S bad := by
  unfold sumS badN byN badL
  rw [List.map_map]
  congr 1
  apply List.map_congr_left
  intro i hi
  have hi := List.mem_range.1 hi
  simp only [Function.comp]
  by_cases h : bad.getD i false = true
  · rw [if_pos ⟨hi, h⟩, if_pos h]
  · rw [if_neg (fun h2 => h h2.2), if_neg h]; rfl
theorem sum_56 {S : List W64} (h : ∀ j : Nat, j < S.length → (S.getD j 0).toNat < 72057594037927936) : sumS S ≤ S.length * 72057594037927936 := by
  induction S with
  | nil => exact Nat.zero_le _
  | cons x S ih =>
    have h0 := h 0 (by simp)
    have h1 := ih fun j hj => by have := h (j + 1) (by simpa using hj); simpa using this
    simp only [sumS, List.map_cons, List.sum_cons, List.length_cons, List.getD_cons_zero] at h0 h1 ⊢
    omega
theorem less_more {a n : Nat} (ha : a < 1152921504606846976) (hn : n < 1152921504606846976) : decide ((BitVec.ofNat 64 a).toNat < 3 * (BitVec.ofNat 64 n).toNat) = decide (a < 3 * n) := by
  rw [BitVec.toNat_ofNat, BitVec.toNat_ofNat, Nat.mod_eq_of_lt (by omega), Nat.mod_eq_of_lt (by omega)]
theorem less_rem {a n : Nat} (ha : a < 1152921504606846976) (hn : n < 1152921504606846976) : decide (3#64 * (BitVec.ofNat 64 n % 1152921504606846976#64) ≠ BitVec.ofNat 64 a) = decide (3 * n ≠ a) := by
  refine decide_eq_decide.2 (not_congr ?_)
  rw [← BitVec.toNat_inj, BitVec.toNat_mul, BitVec.toNat_umod, BitVec.toNat_ofNat, BitVec.toNat_ofNat, BitVec.toNat_ofNat, BitVec.toNat_ofNat]
  have e1 : n % 2 ^ 64 = n := Nat.mod_eq_of_lt (by omega)
  have e2 : a % 2 ^ 64 = a := Nat.mod_eq_of_lt (by omega)
  have e3 : (1152921504606846976 : Nat) % 2 ^ 64 = 1152921504606846976 := by decide
  have e4 : (3 : Nat) % 2 ^ 64 = 3 := by decide
  have e5 : n % 1152921504606846976 = n := Nat.mod_eq_of_lt hn
  rw [e1, e2, e3, e4, e5, Nat.mod_eq_of_lt (by omega : 3 * n < 2 ^ 64)]
/-! ### In memory -/
abbrev EA := Nat × RA
def stsH (es : List EA) : RL := es.flatMap fun e => RA.H e.1 e.2
structure WA where
  stv : Value
  sdv : Value
  es : List EA
  said : List Msg
namespace WA
abbrev H (p : Nat) (x : WA) : RL := [Res.cells p [x.stv, x.sdv] 59, Res.row x.stv x.es.length 27 1 (x.es.map fun e => ptr e.1 0), Res.row x.sdv x.said.length 33 36 (msC x.said), Res.sep (stsH x.es)]
def abs (x : WA) : AW := ⟨x.es.map fun e => e.2.abs, x.said⟩
def e0 : EA := (0, RA.newA (.slice none 0 0) 0 0 0 [] 0 0 D0)
def at_ (x : WA) (i : Nat) : EA := x.es.getD i e0
structure Ok (x : WA) : Prop where
  st : ∀ e ∈ x.es, e.2.Ok
  said : x.said.length ≤ 401
  len : x.es.length ≤ 7
theorem at_ok {x : WA} (h : x.Ok) {i : Nat} (hi : i < x.es.length) : (x.at_ i).2.Ok := by
  refine h.st _ ?_
  unfold at_
  rw [List.getD_eq_getElem?_getD, List.getElem?_eq_getElem hi]
  exact List.getElem_mem hi
theorem at_abs {x : WA} {i : Nat} (hi : i < x.es.length) : x.abs.at_ i = (x.at_ i).2.abs := by
  unfold AW.at_ at_ abs
  simp [List.getD_eq_getElem?_getD, List.getElem?_eq_getElem hi]
theorem at_ptr {x : WA} {i : Nat} (hi : i < x.es.length) : (x.es.map fun e => ptr e.1 0)[i]? = some (ptr (x.at_ i).1 0) := by
  unfold at_
  rw [List.getElem?_map, List.getD_eq_getElem?_getD, List.getElem?_eq_getElem hi]
  rfl
def set (x : WA) (i : Nat) (s : RA) : WA := { x with es := x.es.set i ((x.at_ i).1, s) }
@[simp] theorem set_len (x : WA) (i : Nat) (s : RA) : (x.set i s).es.length = x.es.length := List.length_set
theorem set_ptrs {x : WA} {i : Nat} (s : RA) : ((x.set i s).es.map fun e => ptr e.1 0) = x.es.map fun e => ptr e.1 0 := by
  by_cases hi : i < x.es.length
  · apply List.ext_getElem?
    intro j
    show ((x.es.set i ((x.at_ i).1, s)).map _)[j]? = _
    rw [List.map_set, List.getElem?_set]
    split
    · rename_i h
      subst h
      rw [at_ptr hi]
      simp [hi]
    · rfl
  · show ((x.es.set i ((x.at_ i).1, s)).map _) = _
    rw [List.set_eq_of_length_le (by omega)]
theorem set_ok {x : WA} (h : x.Ok) (i : Nat) {s : RA} (hs : s.Ok) : (x.set i s).Ok := by
  refine ⟨fun e he => ?_, h.said, by rw [set_len]; exact h.len⟩
  rcases List.mem_or_eq_of_mem_set he with he | rfl
  · exact h.st e he
  · exact hs
theorem set_abs {x : WA} {i : Nat} {s : RA} : (x.set i s).abs = ⟨x.abs.st.set i s.abs, x.said⟩ := by
  unfold set abs
  dsimp only
  rw [List.map_set]
theorem split {x : WA} {i : Nat} (hi : i < x.es.length) : ∃ B, (stsH x.es).Perm (RA.H (x.at_ i).1 (x.at_ i).2 ++ B) ∧ ∀ s, (stsH (x.set i s).es).Perm (RA.H (x.at_ i).1 s ++ B) := by
  have hs : x.es = x.es.take i ++ x.at_ i :: x.es.drop (i + 1) := by
    have : x.at_ i = x.es[i] := by unfold at_; rw [List.getD_eq_getElem?_getD, List.getElem?_eq_getElem hi]; rfl
    rw [this, ← List.drop_eq_getElem_cons hi, List.take_append_drop]
  have key : ∀ s : RA, stsH (x.es.take i ++ ((x.at_ i).1, s) :: x.es.drop (i + 1)) = stsH (x.es.take i) ++ (RA.H (x.at_ i).1 s ++ stsH (x.es.drop (i + 1))) := fun s => by
    unfold stsH
    rw [List.flatMap_append, List.flatMap_cons]
  have perm : ∀ A B C : RL, (A ++ (B ++ C)).Perm (B ++ (A ++ C)) := fun A B C => by
    rw [← List.append_assoc, ← List.append_assoc]
    exact List.perm_append_comm.append_right _
  refine ⟨stsH (x.es.take i) ++ stsH (x.es.drop (i + 1)), ?_, fun s => ?_⟩
  · have h1 := key (x.at_ i).2
    have h2 : stsH x.es = _ := (congrArg stsH hs).trans h1
    rw [h2]
    exact perm _ _ _
  · have h1 : (x.set i s).es = x.es.take i ++ ((x.at_ i).1, s) :: x.es.drop (i + 1) := by
      show x.es.set i _ = _
      rw [List.set_eq_take_append_cons_drop, if_pos hi]
    rw [h1, key]
    exact perm _ _ _
theorem row_set {x : WA} {i : Nat} (s : RA) : Res.row x.stv x.es.length 27 1 (x.es.map fun e => ptr e.1 0) = Res.row (x.set i s).stv (x.set i s).es.length 27 1 ((x.set i s).es.map fun e => ptr e.1 0) := by
  rw [set_ptrs, set_len]
  rfl
def say (x : WA) (v : Value) (m : Msg) : WA := { x with sdv := v, said := x.said ++ [m] }
theorem say_ok {x : WA} (h : x.Ok) (v : Value) (m : Msg) (hs : x.said.length ≤ 400) : (x.say v m).Ok := ⟨h.st, by show (x.said ++ [m]).length ≤ 401; rw [List.length_append]; exact Nat.add_le_add_right hs 1, h.len⟩
theorem say_abs (x : WA) (v : Value) (m : Msg) : (x.say v m).abs = ⟨x.abs.st, x.said ++ [m]⟩ := rfl
theorem stsH_snoc (es : List EA) (e : EA) : (stsH (es ++ [e])).Perm (RA.H e.1 e.2 ++ stsH es) := by
  unfold stsH
  rw [List.flatMap_append]
  have : [e].flatMap (fun e : EA => RA.H e.1 e.2) = RA.H e.1 e.2 := List.append_nil _
  rw [this]
  exact List.perm_append_comm
end WA
namespace AR
theorem start_len {a : AR} (hf : a.Fine) : a.start.2.length ≤ 620 := by
  unfold start
  split
  · exact Nat.zero_le _
  · have b := begin_fine (a := a) (r := 0) (by decide) (by decide)
    have c := follow_fine _ b.1
    dsimp only
    rw [List.length_append]
    have := b.2.2.2.2.2
    omega
theorem hear_len {a : AR} (hf : a.Fine) (m : Msg) (g : Bool) : (a.hear m g).2.1.length ≤ 620 := by
  unfold hear
  have c := follow_fine _ (hear1_fine hf m g)
  split
  · dsimp only; omega
  · exact Nat.zero_le _
theorem timeout_len {a : AR} (hf : a.Fine) (k r : Int) : (a.timeout k r).2.length ≤ 620 := by
  unfold timeout
  split
  · exact Nat.zero_le _
  · have t1 : (a.timeout1 k).1.Fine ∧ (a.timeout1 k).2.length ≤ 1 := by
      unfold timeout1
      split
      · exact ⟨vote_fine hf (by decide) (by decide) _, Nat.le_refl _⟩
      · split
        · exact ⟨vote_fine hf (by decide) (by decide) _, Nat.le_refl _⟩
        · split
          · rename_i h6
            have f1 := hf.1
            have b := begin_fine (a := a) (r := a.rd + 1) (by omega) (by omega)
            exact ⟨b.1, by rw [b.2.2.2.2.2]; exact Nat.le_refl _⟩
          · exact ⟨hf, Nat.zero_le _⟩
    have c := follow_fine _ t1.1
    dsimp only
    rw [List.length_append]
    omega
end AR
namespace AW
theorem pick_out {w : AW} {o : PickE} {bad : List Bool} (h : o.who < 0 ∨ (w.st.length : Int) ≤ o.who) : w.pick o bad = w := if_pos h
theorem pick1 {w : AW} {o : PickE} {bad : List Bool} {i : Nat} (hi : o.who = i) (hl : i < w.st.length) (hd : o.do_ = 1) : w.pick o bad = (AW.mk (w.st.set i (w.at_ i).start.1) w.said).act i (w.at_ i).start.2 := by
  unfold pick
  rw [if_neg (by omega)]
  dsimp only
  rw [if_pos hd, hi]
  rfl
theorem pick2 {w : AW} {o : PickE} {bad : List Bool} {i : Nat} (hi : o.who = i) (hl : i < w.st.length) (hd : o.do_ = 2) (hk : 0 ≤ o.k ∧ o.k < w.said.length) : w.pick o bad = (w.hearW i (msAt w.said o.k.toNat)).1.act i (w.hearW i (msAt w.said o.k.toNat)).2 := by
  unfold pick
  rw [if_neg (by omega)]
  dsimp only
  rw [if_neg (by omega), if_pos hd, if_pos hk, hi]
  rfl
theorem pick2n {w : AW} {o : PickE} {bad : List Bool} {i : Nat} (hi : o.who = i) (hl : i < w.st.length) (hd : o.do_ = 2) (hk : ¬ (0 ≤ o.k ∧ o.k < w.said.length)) : w.pick o bad = w := by
  unfold pick
  rw [if_neg (by omega)]
  dsimp only
  rw [if_neg (by omega), if_pos hd, if_neg hk]
theorem pick3 {w : AW} {o : PickE} {bad : List Bool} {i : Nat} (hi : o.who = i) (hl : i < w.st.length) (hd : o.do_ = 3) (hk : 0 ≤ o.m.from_ ∧ o.m.from_ < bad.length ∧ bad.getD o.m.from_.toNat false = true) : w.pick o bad = (w.hearW i o.m).1.act i (w.hearW i o.m).2 := by
  unfold pick
  rw [if_neg (by omega)]
  dsimp only
  rw [if_neg (by omega), if_neg (by omega), if_pos hd, if_pos hk, hi]
  rfl
theorem pick3n {w : AW} {o : PickE} {bad : List Bool} {i : Nat} (hi : o.who = i) (hl : i < w.st.length) (hd : o.do_ = 3) (hk : ¬ (0 ≤ o.m.from_ ∧ o.m.from_ < bad.length ∧ bad.getD o.m.from_.toNat false = true)) : w.pick o bad = w := by
  unfold pick
  rw [if_neg (by omega)]
  dsimp only
  rw [if_neg (by omega), if_neg (by omega), if_pos hd, if_neg hk]
theorem pick4 {w : AW} {o : PickE} {bad : List Bool} {i : Nat} (hi : o.who = i) (hl : i < w.st.length) (hd : o.do_ = 4) : w.pick o bad = (AW.mk (w.st.set i ((w.at_ i).timeout o.kind (w.at_ i).rd).1) w.said).act i ((w.at_ i).timeout o.kind (w.at_ i).rd).2 := by
  unfold pick
  rw [if_neg (by omega)]
  dsimp only
  rw [if_neg (by omega), if_neg (by omega), if_neg (by omega), if_pos hd, hi]
  rfl
theorem pickn {w : AW} {o : PickE} {bad : List Bool} (h : ¬ (o.who < 0 ∨ (w.st.length : Int) ≤ o.who)) (h1 : o.do_ ≠ 1) (h2 : o.do_ ≠ 2) (h3 : o.do_ ≠ 3) (h4 : o.do_ ≠ 4) : w.pick o bad = w := by
  unfold pick
  rw [if_neg h]
  dsimp only
  rw [if_neg h1, if_neg h2, if_neg h3, if_neg h4]
end AW
end Go.Proofs.YtncececcopalgaaDoor
