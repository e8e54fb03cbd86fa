/- The pool's plain side: which piece is one of a kind, what is left without it; a map that may be nil. No program in sight. -/
import Derived.Test.YtffgimlkmfjgmaaDoorG11
import Derived.Test.YtffgimlkmfjgmaaDoorD8s
import Derived.Test.YtffgimlkmfjgmaaDoorK4
namespace Go.Proofs.YtffgimlkmfjgmaaDoor
open Go.RowKit
set_option linter.unusedVariables false
set_option linter.unusedSimpArgs false
abbrev stK : B8 → Value := fun b => .string (strOf b)
abbrev PB := B8 → Bool
abbrev isB (b : B8) : PB := fun c => decide (b = c)
def fitB (b : B8) : Bool := decide (1 ≤ b.length ∧ b.length ≤ 1000)
def hasP (p : PB) (l : List B8) : Bool := l.any p
def notP (p : PB) (A : Pcs) : Pcs := A.filter fun x => !p x.2
def pcD : Value × B8 := (.slice none 0 0, [])
def ixP (p : PB) (A : Pcs) : Int := if A.findIdx (fun x => p x.2) < A.length then (A.findIdx (fun x => p x.2) : Nat) else -1
theorem pc_eq {A : Pcs} {i : Nat} (h : i < A.length) : A[i] = pcAt A i := by rw [pcAt, List.getD_eq_getElem?_getD, List.getElem?_eq_getElem h]; rfl
theorem ix_hit {p : PB} {A : Pcs} {x : Nat} (hx : x < A.length) (h : p (pcAt A x).2 = true) (hn : ∀ j, j < x → p (pcAt A j).2 = false) : ixP p A = x := by
  have e : A.findIdx (fun x => p x.2) = x := by
    rw [List.findIdx_eq hx]
    refine ⟨by rw [pc_eq hx]; exact h, fun j hj => ?_⟩
    rw [pc_eq (by omega)]; exact hn j hj
  rw [ixP, e, if_pos hx]
theorem ix_none {p : PB} {A : Pcs} (hn : ∀ j, j < A.length → p (pcAt A j).2 = false) : ixP p A = -1 := by
  rw [ixP, if_neg]
  intro h
  have h1 := List.findIdx_getElem (w := h)
  rw [pc_eq h, hn _ h] at h1
  exact absurd h1 (by decide)
theorem ix_has (p : PB) (A : Pcs) : decide (ixP p A ≥ 0) = hasP p (bytesP A) := by
  unfold ixP hasP bytesP
  rw [List.any_map]
  by_cases h : A.findIdx (fun x => p x.2) < A.length
  · rw [if_pos h, decide_eq_true (by omega)]
    exact (List.any_eq_true.2 (List.findIdx_lt_length.1 h)).symm
  · rw [if_neg h, decide_eq_false (by omega)]
    symm
    rw [Bool.eq_false_iff]
    intro h1
    exact h (List.findIdx_lt_length.2 (List.any_eq_true.1 h1))
theorem not_succ {p : PB} {A : Pcs} {i : Nat} (h : i < A.length) : notP p (A.take (i + 1)) = notP p (A.take i) ++ if p (pcAt A i).2 then [] else [pcAt A i] := by
  rw [notP, List.take_add_one, List.getElem?_eq_getElem h, Option.toList_some, List.filter_append, pc_eq h, notP]
  congr 1
  rw [List.filter_cons]
  cases p (pcAt A i).2 <;> simp
theorem ix_is (p : PB) (A : Pcs) : (ixP p A = -1 ∧ notP p A = A) ∨ ∃ i : Nat, ixP p A = i ∧ i < A.length ∧ notP p (A.take (i + 1)) = A.take i := by
  by_cases h : A.findIdx (fun x => p x.2) < A.length
  · refine .inr ⟨_, by rw [ixP, if_pos h], h, ?_⟩
    have h1 := List.findIdx_getElem (w := h)
    rw [pc_eq h] at h1
    rw [not_succ h, if_pos h1, List.append_nil, notP]
    refine List.filter_eq_self.2 fun x hx => ?_
    obtain ⟨j, hj, rfl⟩ := List.getElem_of_mem hx
    rw [List.length_take] at hj
    rw [List.getElem_take]
    have := List.not_of_lt_findIdx (p := fun x : Value × B8 => p x.2) (xs := A) (i := j) (by omega)
    simpa using this
  · refine .inl ⟨by rw [ixP, if_neg h], List.filter_eq_self.2 fun x hx => ?_⟩
    have : ¬ ∃ x ∈ A, p x.2 = true := fun h2 => h (List.findIdx_lt_length.2 h2)
    cases hp : p x.2
    · rfl
    · exact absurd ⟨x, hx, hp⟩ this
theorem not_le (p : PB) (A : Pcs) : (notP p A).length ≤ A.length := List.length_filter_le _ _
theorem not_bytes (p : PB) (A : Pcs) : bytesP (notP p A) = (bytesP A).filter fun b => !p b := by
  induction A with
  | nil => rfl
  | cons x A ih =>
    simp only [notP, bytesP, List.filter_cons, List.map_cons] at ih ⊢
    cases p x.2 <;> simp [ih]
theorem spl_take {cs us : List Value} {o : Nat} (h : o ≤ cs.length) : (splice cs o us).take o = cs.take o := by
  rw [splice, List.append_assoc, List.take_append_of_le_length (by rw [List.length_take]; omega), List.take_take, Nat.min_self]
theorem row_spl {v : Value} {zs : Pcs} {us : List Value} {i : Nat} {e : TypeId} (h : i ≤ zs.length) : Res.row v i e 1 ((splice (zs.map Prod.fst) (0 + i * 1) us).take (i * 1)) = Res.row v (zs.take i).length e 1 ((zs.take i).map Prod.fst) := by
  rw [Nat.zero_add, Nat.mul_one, spl_take (by simpa using h), ← List.map_take, List.length_take, Nat.min_eq_left h]
theorem pc_set_take {l : Pcs} {i : Nat} (h : i < l.length) (x : Value × B8) : (l.set i x).take (i + 1) = l.take i ++ [x] := by
  rw [List.take_add_one, List.getElem?_set_self h, List.take_set_of_le (Nat.le_refl _)]
  rfl
/-! ### A map that may be nil -/
def dnR (v : Value) (m : MM B8 Bool) : Res := match v with
  | .map (some a) => mpR a stK blV m
  | _ => Res.sep []
def DnOk (v : Value) (m : MM B8 Bool) : Prop := (v = .map none ∧ m = MM.nil) ∨ ∃ a, v = .map (some a)
def wasB (m : MM B8 Bool) (b : B8) : Bool := (m.get b).getD false
theorem was_put (m : MM B8 Bool) (b c : B8) : wasB (m.put b true) c = (decide (c = b) || wasB m c) := by
  unfold wasB
  rw [MM.get_put]
  by_cases h : c = b <;> simp [h]
/-- Many pieces, out of others that are known. -/
theorem all_of {X Y Z : Pcs} (h : ∀ z ∈ Z, z ∈ X ∨ z ∈ Y) : (∀ k, (Res.all (pcRes Z)).fp k → (Res.all (pcRes X)).fp k ∨ (Res.all (pcRes Y)).fp k) ∧ ∀ w, (Res.all (pcRes X)).ok w → (Res.all (pcRes Y)).ok w → (Res.all (pcRes Z)).ok w := by
  constructor
  · rintro k ⟨r, hr, hk⟩
    obtain ⟨z, hz, rfl⟩ := List.mem_map.1 hr
    rcases h z hz with h | h
    · exact .inl ⟨_, List.mem_map.2 ⟨z, h, rfl⟩, hk⟩
    · exact .inr ⟨_, List.mem_map.2 ⟨z, h, rfl⟩, hk⟩
  · intro w hx hy r hr
    obtain ⟨z, hz, rfl⟩ := List.mem_map.1 hr
    rcases h z hz with h | h
    · exact hx _ (List.mem_map.2 ⟨z, h, rfl⟩)
    · exact hy _ (List.mem_map.2 ⟨z, h, rfl⟩)
theorem St.addG {C : Beg} {Γ H : RL} {r : Res} {w : World} (hs : St C Γ H w) (hf : ∀ k, r.fp k → ∃ s ∈ Γ, s.fp k) (ho : r.ok w) : St C (r :: Γ) H w := by
  refine ⟨⟨?_, ?_, hs.sat.hok, hs.sat.hlt, hs.sat.hdj, ?_⟩, hs.stp, hs.hsub, ?_⟩
  · intro q hq
    rcases List.mem_cons.1 hq with rfl | hq
    · exact ho
    · exact hs.sat.gok q hq
  · intro q hq k hk
    rcases List.mem_cons.1 hq with rfl | hq
    · obtain ⟨s, h1, h2⟩ := hf k hk
      exact hs.sat.glt s h1 k h2
    · exact hs.sat.glt q hq k hk
  · intro q hq s hs' k hk hk'
    rcases List.mem_cons.1 hq with rfl | hq
    · obtain ⟨t, h1, h2⟩ := hf k hk
      exact hs.sat.ghd t h1 s hs' k h2 hk'
    · exact hs.sat.ghd q hq s hs' k hk hk'
  · rintro k ⟨q, hq, hk⟩
    rcases List.mem_cons.1 hq with rfl | hq
    · obtain ⟨t, h1, h2⟩ := hf k hk
      exact hs.gsub k ⟨t, h1, h2⟩
    · exact hs.gsub k ⟨q, hq, hk⟩
theorem St.allOf {C : Beg} {Γ H : RL} {X Y Z : Pcs} {w : World} (hs : St C Γ H w) (hx : Res.all (pcRes X) ∈ Γ) (hy : Res.all (pcRes Y) ∈ Γ) (h : ∀ z ∈ Z, z ∈ X ∨ z ∈ Y) : St C (Res.all (pcRes Z) :: Γ) H w :=
  hs.addG (fun k hk => ((all_of h).1 k hk).elim (fun h => ⟨_, hx, h⟩) fun h => ⟨_, hy, h⟩) ((all_of h).2 w (hs.sat.gok _ hx) (hs.sat.gok _ hy))
theorem JO.allOf {P : Program} {N : Nat} {C : Beg} {ops : Array Oper} {l : List Oper} {Q : Exit → Act → World → Prop} {E : Env} {Γ H : RL} (X Y Z : Pcs) (hx : Res.all (pcRes X) ∈ Γ) (hy : Res.all (pcRes Y) ∈ Γ) (h : ∀ z ∈ Z, z ∈ X ∨ z ∈ Y) (k : JO P N C ops l Q E (Res.all (pcRes Z) :: Γ) H) : JO P N C ops l Q E Γ H :=
  fun hn a w he hs => k hn a w he (hs.allOf hx hy h)
theorem JC.allOf {P : Program} {N : Nat} {C : Beg} {c : Code} {Q : Exit → Act → World → Prop} {E : Env} {Γ H : RL} (X Y Z : Pcs) (hx : Res.all (pcRes X) ∈ Γ) (hy : Res.all (pcRes Y) ∈ Γ) (h : ∀ z ∈ Z, z ∈ X ∨ z ∈ Y) (k : JC P N C c Q E (Res.all (pcRes Z) :: Γ) H) : JC P N C c Q E Γ H :=
  fun hn a w he hs => k hn a w he (hs.allOf hx hy h)
theorem JQ.allOf {N : Nat} {C : Beg} {e : Exit} {Q : Exit → Act → World → Prop} {E : Env} {Γ H : RL} (X Y Z : Pcs) (hx : Res.all (pcRes X) ∈ Γ) (hy : Res.all (pcRes Y) ∈ Γ) (h : ∀ z ∈ Z, z ∈ X ∨ z ∈ Y) (k : JQ N C e Q E (Res.all (pcRes Z) :: Γ) H) : JQ N C e Q E Γ H :=
  fun hn a w he hs => k hn a w he (hs.allOf hx hy h)
/-- A piece of one's own, given to all, joins the others. -/
theorem JO.allAdd {P : Program} {N : Nat} {C : Beg} {ops : Array Oper} {l : List Oper} {Q : Exit → Act → World → Prop} {E : Env} {Γ H G : RL} (X : Pcs) {v : Value} {b : B8} {n : Nat} {e : TypeId} (hn : n = b.length) (hx : Res.all (pcRes X) ∈ Γ) (hp : Pull (Res.row v n e 1 (b.map u8)) H G) (k : JO P N C ops l Q E (Res.all (pcRes (X ++ [(v, b)])) :: Γ) G) : JO P N C ops l Q E Γ H := fun hn' a w he hs => by
  subst hn
  have h1 := hs.freezeRow hp (by decide)
  have h2 := h1.bundle (G := pcRes [(v, b)]) (fun r hr => by rw [pcRes, List.map_cons, List.map_nil, List.mem_singleton] at hr; subst hr; exact .head _)
  have h3 := h2.allOf (X := X) (Y := [(v, b)]) (Z := X ++ [(v, b)]) (.tail _ (.tail _ hx)) (.head _) (fun z hz => List.mem_append.1 hz)
  refine k hn' a w he ?_
  exact (show St C (Res.all (pcRes (X ++ [(v, b)])) :: Res.all (pcRes [(v, b)]) :: Res.rd v b.length 1 (b.map u8) :: Γ) (G ++ []) w by rw [List.append_nil]; exact h3).weak (fun r hr => by
    rcases List.mem_cons.1 hr with rfl | hr
    · exact .head _
    · exact .tail _ (.tail _ (.tail _ hr)))
theorem St.all0 {C : Beg} {Γ H : RL} {w : World} (hs : St C Γ H w) : St C (Res.all (pcRes []) :: Γ) H w := hs.addG (fun k ⟨r, hr, _⟩ => by cases hr) (fun r hr => by cases hr)
theorem JO.all0 {P : Program} {N : Nat} {C : Beg} {ops : Array Oper} {l : List Oper} {Q : Exit → Act → World → Prop} {E : Env} {Γ H : RL} (k : JO P N C ops l Q E (Res.all (pcRes []) :: Γ) H) : JO P N C ops l Q E Γ H := fun hn a w he hs => k hn a w he hs.all0
theorem Spec.gsub {P : Program} {f : FuncId} {args : Array Value} {Γ Γ2 H : RL} {post : Value → RL → RL → Prop} (h : Spec P f args Γ H post) (hs : ∀ r ∈ Γ, r ∈ Γ2) : Spec P f args Γ2 H post := h.from (fun r hr k hk => ⟨r, hs r hr, hk⟩) (fun w hw r hr => hw r (hs r hr))
/-! ### The pool, plainly -/
def addE (W : List B8) (m : B8 → Bool) (b : B8) : Int := if fitB b = false then 2 else if (m b || hasP (isB b) W) = true then 13 else if 30 ≤ W.length then 52 else 0
def addN (W : List B8) (m : B8 → Bool) (b : B8) : List B8 := if addE W m b = 0 then [b] else []
theorem addN_0 {W : List B8} {m : B8 → Bool} {b : B8} {e : Int} (h : addE W m b = e) (he : e ≠ 0) : addN W m b = [] := by rw [addN, if_neg (by rw [h]; exact he)]
def delP (A : Pcs) : List B8 → Pcs
  | [] => A
  | b :: l => delP (notP (isB b) A) l
theorem delP_snoc (A : Pcs) (l : List B8) (b : B8) : delP A (l ++ [b]) = notP (isB b) (delP A l) := by
  induction l generalizing A with
  | nil => rfl
  | cons c l ih => exact ih _
theorem not_sub {p : PB} {A : Pcs} : ∀ x ∈ notP p A, x ∈ A := fun x hx => (List.mem_filter.1 hx).1
theorem delP_sub {A : Pcs} {l : List B8} : ∀ x ∈ delP A l, x ∈ A := by
  induction l generalizing A with
  | nil => exact fun x hx => hx
  | cons b l ih => exact fun x hx => not_sub x (ih x hx)
theorem delP_le (A : Pcs) (l : List B8) : (delP A l).length ≤ A.length := by
  induction l generalizing A with
  | nil => exact Nat.le_refl _
  | cons b l ih => exact Nat.le_trans (ih _) (not_le _ _)
theorem delP_bytes (A : Pcs) (l : List B8) : bytesP (delP A l) = (bytesP A).filter fun b => !decide (b ∈ l) := by
  induction l generalizing A with
  | nil => simp only [delP, List.not_mem_nil, decide_false, Bool.not_false]; exact (List.filter_eq_self.2 fun _ _ => rfl).symm
  | cons c l ih =>
    rw [delP, ih, not_bytes, List.filter_filter]
    congr 1
    funext b
    by_cases h1 : b = c
    · subst h1; simp
    · simp [h1, Ne.symm h1]
def putsM (m : MM B8 Bool) : List B8 → MM B8 Bool
  | [] => m
  | b :: l => putsM (m.put b true) l
theorem putsM_snoc (m : MM B8 Bool) (l : List B8) (b : B8) : putsM m (l ++ [b]) = (putsM m l).put b true := by
  induction l generalizing m with
  | nil => rfl
  | cons c l ih => exact ih _
theorem was_puts (m : MM B8 Bool) (l : List B8) (b : B8) : wasB (putsM m l) b = (decide (b ∈ l) || wasB m b) := by
  induction l generalizing m with
  | nil => simp [putsM]
  | cons c l ih =>
    rw [putsM, ih, was_put]
    by_cases h1 : b = c <;> simp [h1]
def twB (l : List B8) : Bool := !decide l.Nodup
theorem nodup_snoc {l : List B8} {b : B8} : (l ++ [b]).Nodup ↔ l.Nodup ∧ b ∉ l := by
  rw [List.nodup_append]
  constructor
  · exact fun h => ⟨h.1, fun hb => h.2.2 b hb b (by simp) rfl⟩
  · exact fun h => ⟨h.1, by simp, fun a ha c hc => by rw [List.mem_singleton] at hc; subst hc; exact fun e => h.2 (e ▸ ha)⟩
theorem has_mem {l : List B8} {b : B8} : hasP (isB b) l = decide (b ∈ l) := by
  rw [hasP]
  by_cases h : b ∈ l
  · rw [decide_eq_true h]; exact List.any_eq_true.2 ⟨b, h, by simp⟩
  · rw [decide_eq_false h, Bool.eq_false_iff]
    intro h1
    obtain ⟨c, hc, he⟩ := List.any_eq_true.1 h1
    have : b = c := by simpa using he
    exact h (this ▸ hc)
theorem tw_hit {L : Pcs} {x : Nat} (hx : x < L.length) (h : hasP (isB (pcAt L x).2) (bytesP (L.take x)) = true) : twB (bytesP L) = true := by
  rw [has_mem, decide_eq_true_eq] at h
  rw [twB, Bool.not_eq_true', decide_eq_false_iff_not]
  intro hn
  have h2 : ((bytesP L).take (x + 1)).Nodup := List.Sublist.nodup (List.take_sublist _ _) hn
  rw [bytesP_get hx, nodup_snoc] at h2
  exact h2.2 (by simpa [bytesP, List.map_take] using h)
theorem tw_go {L : Pcs} {x : Nat} (hx : x < L.length) (hn : ((bytesP L).take x).Nodup) (h : hasP (isB (pcAt L x).2) (bytesP (L.take x)) = false) : ((bytesP L).take (x + 1)).Nodup := by
  rw [has_mem, decide_eq_false_iff_not] at h
  rw [bytesP_get hx, nodup_snoc]
  exact ⟨hn, by simpa [bytesP, List.map_take] using h⟩
def notIn (L : List B8) (B : Pcs) : Pcs := B.filter fun x => !decide (x.2 ∈ L)
theorem notIn_succ {L : List B8} {B : Pcs} {i : Nat} (h : i < B.length) : notIn L (B.take (i + 1)) = notIn L (B.take i) ++ if (pcAt B i).2 ∈ L then [] else [pcAt B i] := by
  have := not_succ (p := fun b => decide (b ∈ L)) h
  simpa [notP, notIn] using this
theorem notIn_bytes (L : List B8) (B : Pcs) : bytesP (notIn L B) = (bytesP B).filter fun b => !decide (b ∈ L) := not_bytes (fun b => decide (b ∈ L)) B
theorem notIn_le (L : List B8) (B : Pcs) : (notIn L B).length ≤ B.length := List.length_filter_le _ _
def shB (l : List B8) : Prop := l.length ≤ 12 ∧ ∀ b ∈ l, b.length ≤ 1100
instance (l : List B8) : Decidable (shB l) := by unfold shB; infer_instance
theorem addE_eq (W : List B8) (m : B8 → Bool) (b : B8) : addE W m b = if b.length < 1 ∨ b.length > 1000 then 2 else if b ∈ W ∨ m b = true then 13 else if 30 ≤ W.length then 52 else 0 := by
  have h1 : fitB b = false ↔ b.length < 1 ∨ b.length > 1000 := by rw [fitB, decide_eq_false_iff_not]; omega
  have h2 : (m b || hasP (isB b) W) = true ↔ b ∈ W ∨ m b = true := by rw [has_mem, Bool.or_eq_true, decide_eq_true_eq]; exact Or.comm
  unfold addE
  simp only [h1, h2]
theorem fit_le {b : B8} (h : fitB b = true) : b.length ≤ 1000 := (of_decide_eq_true h).2
theorem JR.frzP {P : Program} {N : Nat} {C : Beg} {ops : Array Oper} {Q : Exit → Act → World → Prop} {E : Env} {Γ H G : RL} {T M U : Nat → Bool} {Γ0 H0 : RL} {l : OT} {A : Pcs} {e : TypeId} (hp : Pull (Res.sep (rowsP A e)) H G) (k : JR P N C ops T M U Γ0 H0 l Q E (Res.all (pcRes A) :: Γ) G) : JR P N C ops T M U Γ0 H0 l Q E Γ H := fun hq a w he hs => k hq a w he (St.frzP (hs.perm hp.perm))
theorem JR.allOf {P : Program} {N : Nat} {C : Beg} {ops : Array Oper} {Q : Exit → Act → World → Prop} {E : Env} {Γ H : RL} {T M U : Nat → Bool} {Γ0 H0 : RL} {l : OT} (X Y Z : Pcs) (hx : Res.all (pcRes X) ∈ Γ) (hy : Res.all (pcRes Y) ∈ Γ) (h : ∀ z ∈ Z, z ∈ X ∨ z ∈ Y) (k : JR P N C ops T M U Γ0 H0 l Q E (Res.all (pcRes Z) :: Γ) H) : JR P N C ops T M U Γ0 H0 l Q E Γ H :=
  fun hq a w he hs => k hq a w he (hs.allOf hx hy h)
end Go.Proofs.YtffgimlkmfjgmaaDoor
