/- Statements whose order Go leaves open: one order of our choice stands for all. No program in sight. -/
import Derived.Test.YtffgimlkmfjgmaaDoorA3
namespace Go.Proofs.YtffgimlkmfjgmaaDoor
open Go.RowKit

section
variable {P : Program} {ops : Array Oper} {Q : Exit → Act → World → Prop} {md : Region.Mode} {S S2 : World → Prop} {T M U : Nat → Bool}

/-- Whatever order is picked; behind each operation that is none of the last ones S holds. -/
def wpAnyT (P : Program) (md : Region.Mode) (ops : Array Oper) (Q : Exit → Act → World → Prop) (S2 S : World → Prop) (T : Nat → Bool) : Nat → Array Bool → Act → World → Prop
  | 0, listed, a, w => Region.ready md ops listed = [] ∧ Q .normal a w
  | fuel + 1, listed, a, w =>
    (Region.ready md ops listed = [] → Q .normal a w) ∧
    ∀ i ∈ Region.ready md ops listed, wpOp P ops Q i (fun a' w' => (S2 w' ∧ (T i = true ∨ (S w → S w'))) ∧ wpAnyT P md ops Q S2 S T fuel (listed.setIfInBounds i true) a' w') a w

theorem wpAny_of_T : ∀ (fuel : Nat) (listed : Array Bool) (a : Act) (w : World), wpAnyT P md ops Q S2 S T fuel listed a w → wpAny P md ops Q fuel listed a w
  | 0, _, _, _, h => h
  | fuel + 1, _, _, _, h => ⟨h.1, fun i hi => wpOp_mono (fun a' w' h' => wpAny_of_T fuel _ a' w' h'.2) (h.2 i hi)⟩

theorem wpAnyT_first {i : Nat} {oi : Oper} {v : Value} {Sx : World → Prop} (hi : ops[i]? = some oi) (hsel : ∀ (j : Nat) (o : Oper) cs b, ops[j]? = some o → o.op ≠ .select cs b)
    (hQ : NP Q) :
    ∀ (fuel : Nat) (listed : Array Bool) (a : Act) (w : World),
      (∀ j oj, ops[j]? = some oj → j ≠ i → listed.getD j true = false → (∀ e ∈ oj.after, Region.binds md e = true → e.on ≠ i) → oi.apart ops oj = true) →
      ((∀ w, S2 w → Sx w) ∨ (∀ w, Sx w ↔ S w) ∧ ∃ D : Nat → Bool, (∀ k, D k = true → k ≠ i ∧ listed.getD k true = false ∧ ∃ ok, ops[k]? = some ok ∧ ∃ e ∈ ok.after, Region.binds md e = true ∧ (e.on = i ∨ D e.on = true)) ∧ ∀ j oj, ops[j]? = some oj → j ≠ i → T j = true → listed.getD j true = false → D j = true) →
      i ∈ Region.ready md ops listed → YieldsIf P ops Sx oi v a → S2 w → Sx w →
      wpAnyT P md ops Q S2 S T fuel (listed.setIfInBounds i true) (a.put oi.dst v) w → wpAnyT P md ops Q S2 S T (fuel + 1) listed a w := by
  intro fuel
  induction fuel with
  | zero =>
    intro listed a w _ _ hr hy hS2 hS H
    refine ⟨fun h => (by rw [h] at hr; cases hr), fun j hj => ?_⟩
    by_cases hji : j = i
    · subst hji; exact hy.wpOp hi hS ⟨⟨hS2, .inr id⟩, H⟩
    · have := ready_mono hj hji
      rw [H.1] at this
      cases this
  | succ fuel ih =>
    intro listed a w hfree hT hr hy hS2 hS H
    refine ⟨fun h => (by rw [h] at hr; cases hr), fun j hj => ?_⟩
    by_cases hji : j = i
    · subst hji; exact hy.wpOp hi hS ⟨⟨hS2, .inr id⟩, H⟩
    · have h1 := H.2 j (ready_mono hj hji)
      obtain ⟨hjun, oj, hoj, hall⟩ := mem_ready.1 hj
      have hnot : ∀ e ∈ oj.after, Region.binds md e = true → e.on ≠ i := fun e he hb heq => by
        have h1 := hall e he hb
        have h0 := (mem_ready.1 hr).1
        rw [heq] at h1
        rcases Nat.lt_or_ge i listed.size with h' | h'
        · simp [h'] at h0 h1; rw [h0] at h1; cases h1
        · simp [Array.getElem?_eq_none h'] at h1
      have h2 := wpOp_putIf hoj (hfree j oj hoj hji hjun hnot) (fun cs b => hsel i oi cs b hi) (fun cs b => hsel j oj cs b hoj) (fun c a w h => absurd h (hQ c _ _)) hy h1
      have hfree' : ∀ k ok, ops[k]? = some ok → k ≠ i → (listed.setIfInBounds j true).getD k true = false →
          (∀ e ∈ ok.after, Region.binds md e = true → e.on ≠ i) → oi.apart ops ok = true := fun k ok hk hki hun hno => by
        refine hfree k ok hk hki ?_ hno
        by_cases hjk : j = k
        · subst hjk; exact hjun
        · rw [getD_set_ne true hjk] at hun; exact hun
      have hDj : ∀ D : Nat → Bool, (∀ k, D k = true → k ≠ i ∧ listed.getD k true = false ∧ ∃ ok, ops[k]? = some ok ∧ ∃ e ∈ ok.after, Region.binds md e = true ∧ (e.on = i ∨ D e.on = true)) → D j = true → False := fun D hD hDj => by
        obtain ⟨_, _, ok, hok, e, he, hb, heq⟩ := hD j hDj
        rw [hoj] at hok
        obtain rfl := Option.some.inj hok
        rcases heq with heq | hDe
        · exact hnot e he hb heq
        · have h1 := hall e he hb
          have h0 := (hD _ hDe).2.1
          rcases Nat.lt_or_ge e.on listed.size with h' | h'
          · simp [h'] at h0 h1; rw [h0] at h1; cases h1
          · simp [Array.getElem?_eq_none h'] at h1
      have hT' : (∀ w, S2 w → Sx w) ∨ (∀ w, Sx w ↔ S w) ∧ ∃ D : Nat → Bool, (∀ k, D k = true → k ≠ i ∧ (listed.setIfInBounds j true).getD k true = false ∧ ∃ ok, ops[k]? = some ok ∧ ∃ e ∈ ok.after, Region.binds md e = true ∧ (e.on = i ∨ D e.on = true)) ∧ ∀ k ok, ops[k]? = some ok → k ≠ i → T k = true → (listed.setIfInBounds j true).getD k true = false → D k = true := by
        refine hT.imp id fun hT => ⟨hT.1, ?_⟩
        obtain ⟨D, hD, hT2⟩ := hT.2
        refine ⟨D, fun k hk => ⟨(hD k hk).1, ?_, (hD k hk).2.2⟩, fun k ok hk hki hTk hun => ?_⟩
        · have hjk : j ≠ k := fun e => hDj D hD (e ▸ hk)
          rw [getD_set_ne true hjk]
          exact (hD k hk).2.1
        · refine hT2 k ok hk hki hTk ?_
          by_cases hjk : j = k
          · subst hjk; exact hjun
          · rw [getD_set_ne true hjk] at hun; exact hun
      have hSx : ∀ w', (S2 w' ∧ (T j = true ∨ (S w → S w'))) → Sx w' := fun w' h => by
        rcases hT with hT | ⟨he, hT⟩
        · exact hT _ h.1
        · rcases h.2 with hTj | h2
          · obtain ⟨D, hD, hT2⟩ := hT
            exact (hDj D hD (hT2 j oj hoj hji hTj hjun)).elim
          · exact (he _).2 (h2 ((he _).1 hS))
      refine wpOp_mono (fun a' w' h3 => ⟨h3.2.1, ih (listed.setIfInBounds j true) a' w' hfree' hT' (ready_mono hr (Ne.symm hji)) h3.1 h3.2.1.1 (hSx w' h3.2.1) ?_⟩) h2
      rw [Array.setIfInBounds_comm _ _ hji]
      exact h3.2.2

/-- An order of our choice; where several that may move the memory stand open, each way. -/
inductive OT
  | nil
  | one (i : Nat) (t : OT)
  | alt (i : Nat) (t r : OT)
def OT.all (p : Nat → Bool) : OT → Bool
  | .nil => true
  | .one i t => p i && t.all p
  | .alt i t r => p i && t.all p && r.all p
def OT.len : OT → Nat
  | .nil => 0
  | .one _ t => t.len + 1
  | .alt _ t r => max (t.len + 1) r.len
def OT.heads : OT → List Nat
  | .alt i _ r => i :: r.heads
  | _ => []
/-- The operations in an order of our choice: M tells which may move the memory, T which are the last ones, U which need no more than what all may read; top: not among ways that stand beside each other. -/
def wpOrd (P : Program) (ops : Array Oper) (Q : Exit → Act → World → Prop) (S2 S : World → Prop) (T M U : Nat → Bool) : Bool → OT → Act → World → Prop
  | top, .nil, a, w => top = true → Q .normal a w
  | _, .one i l, a, w =>
    (M i = true ∧ wpOp P ops Q i (fun a' w' => (S2 w' ∧ (T i = true ∨ S w')) ∧ wpOrd P ops Q S2 S T M U true l a' w') a w) ∨
    (M i = false ∧ ∃ o v, ops[i]? = some o ∧ YieldsIf P ops (if U i then S2 else S) o v a ∧ wpOrd P ops Q S2 S T M U true l (a.put o.dst v) w)
  | _, .alt i t r, a, w =>
    wpOp P ops Q i (fun a' w' => (S2 w' ∧ (T i = true ∨ S w')) ∧ wpOrd P ops Q S2 S T M U true t a' w') a w ∧ wpOrd P ops Q S2 S T M U false r a w

/-- What must wait for i. -/
def lateOf (md : Region.Mode) (ops : Array Oper) (listed : Array Bool) (i : Nat) : Nat → Bool :=
  let D := (List.range ops.size).foldl (fun (D : List Nat) k => if k != i && !(listed.getD k true) && ((ops[k]?).map fun o => o.after.any fun e => Region.binds md e && (e.on == i || D.contains e.on)).getD false then k :: D else D) []
  fun k => D.contains k
def chkLate (md : Region.Mode) (ops : Array Oper) (T : Nat → Bool) (listed : Array Bool) (i : Nat) (D : Nat → Bool) : Bool :=
  (List.range ops.size).all fun k => (!D k || (k != i && !(listed.getD k true) && ((ops[k]?).map fun o => o.after.any fun e => Region.binds md e && (e.on == i || (D e.on && decide (e.on < ops.size)))).getD false)) && (k == i || !T k || listed.getD k true || D k)
theorem chkLate_spec {listed : Array Bool} {i : Nat} {D : Nat → Bool} (h : chkLate md ops T listed i D = true) : ∃ D : Nat → Bool, (∀ k, D k = true → k ≠ i ∧ listed.getD k true = false ∧ ∃ ok, ops[k]? = some ok ∧ ∃ e ∈ ok.after, Region.binds md e = true ∧ (e.on = i ∨ D e.on = true)) ∧ ∀ j oj, ops[j]? = some oj → j ≠ i → T j = true → listed.getD j true = false → D j = true := by
  refine ⟨fun k => D k && decide (k < ops.size), fun k hk => ?_, fun j oj hj hji hT hun => ?_⟩
  · obtain ⟨h1, h2⟩ := Bool.and_eq_true_iff.1 hk
    have h2 : k < ops.size := of_decide_eq_true h2
    have := List.all_eq_true.1 h k (List.mem_range.2 h2)
    simp only [h1, Bool.not_true, Bool.false_or, Bool.and_eq_true, bne_iff_ne, ne_eq, Bool.not_eq_true', Array.getElem?_eq_getElem h2, Option.map_some, Option.getD_some, Array.any_eq_true, Bool.or_eq_true, beq_iff_eq] at this
    obtain ⟨⟨⟨h3, h4⟩, n, hn, hb, he⟩, _⟩ := this
    refine ⟨h3, h4, ops[k], by rw [Array.getElem?_eq_getElem h2], _, Array.getElem_mem hn, hb, he.imp id fun he => ?_⟩
    exact Bool.and_eq_true_iff.2 he
  · have hj' : j < ops.size := (Array.getElem?_eq_some_iff.1 hj).1
    have := (Bool.and_eq_true_iff.1 (List.all_eq_true.1 h j (List.mem_range.2 hj'))).2
    simp only [hT, hun, Bool.or_eq_true, beq_iff_eq, Bool.not_true, Bool.false_eq_true, or_false] at this
    rcases this with h1 | h1
    · exact absurd h1 hji
    · exact Bool.and_eq_true_iff.2 ⟨h1, decide_eq_true hj'⟩
/-- Does that order stand for all? -/
def chkOrd (md : Region.Mode) (ops : Array Oper) (T M U : Nat → Bool) : Bool → OT → Array Bool → Bool
  | top, .nil, listed => !top || (Region.ready md ops listed).isEmpty
  | top, .one i l, listed => top &&
    ((if M i then Region.ready md ops listed == [i] && (!T i || l.all fun j => M j || U j)
     else (Region.ready md ops listed).contains i && Region.free md ops listed i &&
       (U i || ((List.range ops.size).all fun j => !T j || listed.getD j true) || chkLate md ops T listed i (lateOf md ops listed i))) &&
    chkOrd md ops T M U true l (listed.setIfInBounds i true))
  | top, .alt i t r, listed => (!top || Region.ready md ops listed == i :: r.heads) && ((!T i || t.all fun j => M j || U j) && (chkOrd md ops T M U true t (listed.setIfInBounds i true) && chkOrd md ops T M U false r listed))

theorem wpAnyT_of_ord (hs : Region.noSelect ops = true) (hQ : NP Q) : ∀ (l : OT), (∀ (fuel : Nat) (listed : Array Bool) (a : Act) (w : World), l.len ≤ fuel → chkOrd md ops T M U true l listed = true → S2 w →
    (S w ∨ (l.all fun j => M j || U j) = true) → wpOrd P ops Q S2 S T M U true l a w → wpAnyT P md ops Q S2 S T fuel listed a w) ∧
    (∀ (fuel : Nat) (listed : Array Bool) (a : Act) (w : World), l.len ≤ fuel + 1 → chkOrd md ops T M U false l listed = true → wpOrd P ops Q S2 S T M U false l a w → ∀ j ∈ l.heads,
      wpOp P ops Q j (fun a' w' => (S2 w' ∧ (T j = true ∨ (S w → S w'))) ∧ wpAnyT P md ops Q S2 S T fuel (listed.setIfInBounds j true) a' w') a w) := by
  intro l
  induction l with
  | nil =>
    refine ⟨?_, fun _ _ _ _ _ _ _ j hj => by cases hj⟩
    intro fuel listed a w _ hc _ _ h
    have hr : Region.ready md ops listed = [] := by simpa [chkOrd] using hc
    have h : Q .normal a w := h rfl
    cases fuel with
    | zero => exact ⟨hr, h⟩
    | succ fuel => exact ⟨fun _ => h, fun i hi => by rw [hr] at hi; cases hi⟩
  | alt i t r iht ihr =>
    have key : ∀ (fuel : Nat) (listed : Array Bool) (a : Act) (w : World), (OT.alt i t r).len ≤ fuel + 1 → chkOrd md ops T M U false (.alt i t r) listed = true → wpOrd P ops Q S2 S T M U false (.alt i t r) a w → ∀ j ∈ (OT.alt i t r).heads,
        wpOp P ops Q j (fun a' w' => (S2 w' ∧ (T j = true ∨ (S w → S w'))) ∧ wpAnyT P md ops Q S2 S T fuel (listed.setIfInBounds j true) a' w') a w := by
      intro fuel listed a w hf hc h j hj
      simp only [OT.len] at hf
      simp only [chkOrd, Bool.not_false, Bool.true_or, Bool.true_and, Bool.and_eq_true] at hc
      obtain ⟨hT, hct, hcr⟩ := hc
      rcases List.mem_cons.1 hj with rfl | hj
      · refine wpOp_mono (fun a' w' h' => ⟨⟨h'.1.1, h'.1.2.imp id fun h => fun _ => h⟩, iht.1 fuel _ a' w' (by omega) hct h'.1.1 ?_ h'.2⟩) h.1
        rcases h'.1.2 with h1 | h1
        · rw [h1] at hT; exact .inr (by simpa using hT)
        · exact .inl h1
      · exact ihr.2 fuel listed a w (by omega) hcr h.2 j hj
    refine ⟨?_, key⟩
    intro fuel listed a w hf hc hS2 hS h
    have hf' := hf
    simp only [OT.len] at hf'
    obtain ⟨fuel, rfl⟩ : ∃ m, fuel = m + 1 := ⟨fuel - 1, by omega⟩
    simp only [chkOrd, Bool.not_true, Bool.false_or, Bool.and_eq_true, beq_iff_eq] at hc
    obtain ⟨hr, hT, hct, hcr⟩ := hc
    refine ⟨fun h0 => absurd (hr ▸ h0) (by simp), fun k hk => ?_⟩
    rw [hr] at hk
    exact key fuel listed a w hf (by simp only [chkOrd, Bool.not_false, Bool.true_or, Bool.true_and, Bool.and_eq_true]; exact ⟨hT, hct, hcr⟩) h k hk
  | one i l ih =>
    have ih := ih.1
    refine ⟨?_, fun _ _ _ _ _ hc => by simp [chkOrd] at hc⟩
    intro fuel listed a w hf hc hS2 hS h
    obtain ⟨fuel, rfl⟩ : ∃ m, fuel = m + 1 := ⟨fuel - 1, by simp only [OT.len] at hf; omega⟩
    have hf' : l.len ≤ fuel := by simp only [OT.len] at hf; omega
    simp only [chkOrd, Bool.true_and, Bool.and_eq_true] at hc
    obtain ⟨hc1, hc2⟩ := hc
    rcases h with ⟨hM, h⟩ | ⟨hM, o, v, ho, hy, h⟩
    · rw [if_pos hM] at hc1
      simp only [Bool.and_eq_true, beq_iff_eq] at hc1
      obtain ⟨hr, hT⟩ := hc1
      have hT : T i = false ∨ (l.all fun j => M j || U j) = true := by
        cases hTi : T i with
        | false => exact .inl rfl
        | true => rw [hTi] at hT; exact .inr (by simpa using hT)
      refine ⟨fun h0 => absurd (hr ▸ h0) (by simp), fun j hj => ?_⟩
      rw [hr] at hj
      obtain rfl := List.mem_singleton.1 hj
      refine wpOp_mono (fun a' w' h' => ⟨⟨h'.1.1, h'.1.2.imp id fun h => fun _ => h⟩, ih fuel _ a' w' hf' hc2 h'.1.1 ?_ h'.2⟩) h
      rcases h'.1.2 with h1 | h1
      · rcases hT with hT | hT
        · rw [hT] at h1; cases h1
        · exact .inr hT
      · exact .inl h1
    · rw [if_neg (by rw [hM]; decide)] at hc1
      obtain ⟨hc3, hT⟩ := Bool.and_eq_true_iff.1 hc1
      obtain ⟨hr, hfr⟩ := Bool.and_eq_true_iff.1 hc3
      have hr := List.contains_iff_mem.1 hr
      have hnext : S w ∨ (l.all fun j => M j || U j) = true := by
        rcases hS with hS | hS
        · exact .inl hS
        · rw [OT.all, Bool.and_eq_true] at hS; exact .inr hS.2
      have hSw : (if U i then S2 else S) w := by
        cases hU : U i with
        | true => simpa using hS2
        | false =>
          rcases hS with hS | hS
          · simpa using hS
          · simp [OT.all, hM, hU] at hS
      refine wpAnyT_first ho (Region.noSelect_spec hs) hQ fuel listed a w (Region.free_spec ho hfr) ?_ hr hy hS2 hSw (ih fuel _ _ w hf' hc2 hS2 hnext h)
      cases hU : U i with
      | true => exact .inl fun w h => by simpa using h
      | false =>
        refine .inr ⟨fun w => by simp, ?_⟩
        rw [hU, Bool.false_or, Bool.or_eq_true] at hT
        rcases hT with hT | hT
        · refine ⟨fun _ => false, fun _ h => (by cases h), fun j oj hoj hji hTj hun => ?_⟩
          have hj : j < ops.size := (Array.getElem?_eq_some_iff.1 hoj).1
          have := List.all_eq_true.1 hT j (List.mem_range.2 hj)
          rw [hTj, hun] at this
          cases this
        · exact chkLate_spec hT

theorem wp_region_ord {id : Nat} {a : Act} {w : World} (l : OT) (T M U : Nat → Bool) (hm : P.follows .mixedOrders = true) (hs : Region.noSelect ops = true) (hQ : NP Q)
    (hl : l.len ≤ ops.size) (hc : chkOrd .any ops T M U true l (Array.replicate ops.size false) = true) (hS2 : S2 { w with drawn := w.drawn + 1 }) (hS : S { w with drawn := w.drawn + 1 })
    (h : wpOrd P ops Q S2 S T M U true l a { w with drawn := w.drawn + 1 }) : (Code.region id ops true).wp P Q a w :=
  wp_region_any hm (wpAny_of_T _ _ _ _ ((wpAnyT_of_ord hs hQ l).1 _ _ _ _ hl hc hS2 (.inl hS) h))
end

theorem St.keep0' {C : Beg} {Γ Γ0 H : RL} (hg : ∀ r ∈ Γ0, r ∈ Γ) {w : World} (hs : St C Γ H w) : St C Γ0 [] w := (hs.perm (show H.Perm ([] ++ H) from List.Perm.refl _)).weak hg
theorem St.keep0 {C : Beg} {Γ H : RL} {w : World} (hs : St C Γ H w) : St C Γ [] w := St.keep0' (fun _ h => h) hs

/-- The operations l of a statement whose order is open: E, Γ, H are known; Γ0, H0 were held where it began. -/
def JR (P : Program) (N : Nat) (C : Beg) (ops : Array Oper) (T M U : Nat → Bool) (Γ0 H0 : RL) (l : OT) (Q : Exit → Act → World → Prop) (E : Env) (Γ H : RL) : Prop :=
  NP Q → ∀ a w, EnvOk N E a → St C Γ H w → wpOrd P ops Q (St C Γ0 []) (St C Γ0 H0) T M U true l a w

section
variable {P : Program} {N : Nat} {C : Beg} {Q : Exit → Act → World → Prop} {E : Env} {Γ H Γ0 H0 : RL} {ty : TypeId} {ops : Array Oper} {T M U : Nat → Bool} {l : OT}

theorem keepU {b : Bool} {w : World} (h : (if b then St C Γ0 [] else St C Γ0 H0) w) : St C Γ0 (if b then [] else H0) w := by cases b <;> simpa using h
theorem JC.draw {id : Nat} (l : OT) (T M U : Nat → Bool) (hm : P.follows .mixedOrders = true) (hs : Region.noSelect ops = true) (hl : l.len ≤ ops.size)
    (hc : chkOrd .any ops T M U true l (Array.replicate ops.size false) = true) (h : JR P N C ops T M U Γ H l Q E Γ H) : JC P N C (.region id ops true) Q E Γ H :=
  fun hn a _ he hst => wp_region_ord l T M U hm hs hn hl hc (St.keep0 hst.drew) hst.drew (h hn a _ he hst.drew)

theorem JR.nil (h : JQ N C .normal Q E Γ H) : JR P N C ops T M U Γ0 H0 .nil Q E Γ H := fun hn a w he hs _ => h hn a w he hs

theorem JR.v' {i d : Nat} {op : Op} {pos : String} {aft : Array Edge} {v : Value} (ho : ops[i]? = some ⟨some d, op, ty, pos, aft, none⟩) (hM : M i = false) (hv : Yv P N C E Γ0 (if U i then [] else H0) op ty v) (hd : d < N)
    (h : JR P N C ops T M U Γ0 H0 l Q ((d, v) :: E) Γ H) : JR P N C ops T M U Γ0 H0 (.one i l) Q E Γ H :=
  fun hn a w he hs => .inr ⟨hM, _, v, ho, .inl ⟨by simp [Region.wanted], fun w' hs' => hv _ _ _ _ a w' he (keepU hs')⟩, h hn _ w (he.put d hd v) hs⟩

theorem JR.v {i d : Nat} {op : Op} {pos : String} {aft : Array Edge} {v : Value} (ho : ops[i]? = some ⟨some d, op, ty, pos, aft, none⟩) (hM : M i = false) (hU : U i = false) (hv : Yv P N C E Γ0 H0 op ty v) (hd : d < N)
    (h : JR P N C ops T M U Γ0 H0 l Q ((d, v) :: E) Γ H) : JR P N C ops T M U Γ0 H0 (.one i l) Q E Γ H := .v' ho hM (by rw [hU]; exact hv) hd h
/-- One that needs no more than what all may read. -/
theorem JR.u {i d : Nat} {op : Op} {pos : String} {aft : Array Edge} {v : Value} (ho : ops[i]? = some ⟨some d, op, ty, pos, aft, none⟩) (hM : M i = false) (hU : U i = true) (hv : Yv P N C E Γ0 [] op ty v) (hd : d < N)
    (h : JR P N C ops T M U Γ0 H0 l Q ((d, v) :: E) Γ H) : JR P N C ops T M U Γ0 H0 (.one i l) Q E Γ H := .v' ho hM (by rw [hU]; exact hv) hd h

theorem yielded_of {a : Act} {j g : Nat} {b : Bool} (he : EnvOk N E a) (hj : ((ops[j]?).bind (·.dst)) = some g) (hg : lk E g = some (.bool b)) : yielded ops a.tmps j = some b := by
  have h1 := he.val g _ hg
  obtain ⟨o, ho, hd⟩ := Option.bind_eq_some_iff.1 hj
  simp only [yielded, ho, hd, Option.bind_some]
  have h2 : g < a.tmps.size ∨ ¬ g < a.tmps.size := by omega
  rcases h2 with h2 | h2
  · simp [h2] at h1
    simp [h2, h1]
  · simp [h2] at h1
    cases h1

/-- A guarded one. -/
theorem JR.gv {i d : Nat} {op : Op} {pos : String} {aft : Array Edge} {j g : Nat} {want b : Bool} (v : b = want → Value) (ho : ops[i]? = some ⟨some d, op, ty, pos, aft, some (j, want)⟩) (hM : M i = false)
    (hj : ((ops[j]?).bind (·.dst)) = some g) (hg : lk E g = some (.bool b))
    (hv : ∀ e : b = want, Yv P N C E Γ0 (if U i then [] else H0) op ty (v e)) (hd : d < N)
    (ht : ∀ e : b = want, JR P N C ops T M U Γ0 H0 l Q ((d, v e) :: E) Γ H) (hf : b ≠ want → JR P N C ops T M U Γ0 H0 l Q ((d, undef) :: E) Γ H) : JR P N C ops T M U Γ0 H0 (.one i l) Q E Γ H := by
  intro hn a w he hs
  have hy := yielded_of (ops := ops) he hj hg
  by_cases hb : b = want
  · exact .inr ⟨hM, _, v hb, ho, .inl ⟨by simp [Region.wanted, hy, hb], fun w' hs' => hv hb _ _ _ _ a w' he (keepU hs')⟩, ht hb hn _ w (he.put d hd _) hs⟩
  · exact .inr ⟨hM, _, undef, ho, .inr ⟨by simp [Region.wanted, hy, hb], rfl⟩, hf hb hn _ w (he.put d hd undef) hs⟩

/-- One that may move the memory; what it leaves still holds what was held where the statement began. -/
theorem JR.m {i d : Nat} {op : Op} {pos : String} {aft : Array Edge} {post : Value → RL → RL → Prop} (ho : ops[i]? = some ⟨some d, op, ty, pos, aft, none⟩) (hM : M i = true) (hm : Mv P N C E Γ H op ty post) (hd : d < N)
    (h : ∀ v Γ' H', post v Γ' H' → ((∀ r ∈ Γ0, r ∈ Γ') ∧ (T i = true ∨ ∀ w, St C Γ' H' w → St C Γ0 H0 w)) ∧ JR P N C ops T M U Γ0 H0 l Q ((d, v) :: E) Γ' H') : JR P N C ops T M U Γ0 H0 (.one i l) Q E Γ H := by
  intro hn a w he hs
  refine .inl ⟨hM, ?_⟩
  unfold wpOp
  simp only [ho, Region.wanted, if_true]
  refine .inl (hm _ _ _ _ a w he hs _ _ fun v Γ' H' w' hp hs' => ?_)
  obtain ⟨h1, h2⟩ := h v Γ' H' hp
  exact ⟨⟨St.keep0' h1.1 hs', h1.2.imp id fun h1 => h1 w' hs'⟩, h2 hn _ _ (he.put d hd v) hs'⟩
theorem JR.m0 {i : Nat} {op : Op} {pos : String} {aft : Array Edge} {post : Value → RL → RL → Prop} (ho : ops[i]? = some ⟨none, op, ty, pos, aft, none⟩) (hM : M i = true) (hm : Mv P N C E Γ H op ty post)
    (h : ∀ v Γ' H', post v Γ' H' → ((∀ r ∈ Γ0, r ∈ Γ') ∧ (T i = true ∨ ∀ w, St C Γ' H' w → St C Γ0 H0 w)) ∧ JR P N C ops T M U Γ0 H0 l Q E Γ' H') : JR P N C ops T M U Γ0 H0 (.one i l) Q E Γ H := by
  intro hn a w he hs
  refine .inl ⟨hM, ?_⟩
  unfold wpOp
  simp only [ho, Region.wanted, if_true]
  refine .inl (hm _ _ _ _ a w he hs _ _ fun v Γ' H' w' hp hs' => ?_)
  obtain ⟨h1, h2⟩ := h v Γ' H' hp
  exact ⟨⟨St.keep0' h1.1 hs', h1.2.imp id fun h1 => h1 w' hs'⟩, h2 hn _ _ he hs'⟩
/-- A guarded one that may move the memory. -/
theorem JR.gm {i d : Nat} {op : Op} {pos : String} {aft : Array Edge} {j g : Nat} {want b : Bool} {post : Value → RL → RL → Prop} (ho : ops[i]? = some ⟨some d, op, ty, pos, aft, some (j, want)⟩) (hM : M i = true)
    (hj : ((ops[j]?).bind (·.dst)) = some g) (hg : lk E g = some (.bool b)) (hm : b = want → Mv P N C E Γ H op ty post) (hd : d < N)
    (h : b = want → ∀ v Γ' H', post v Γ' H' → ((∀ r ∈ Γ0, r ∈ Γ') ∧ (T i = true ∨ ∀ w, St C Γ' H' w → St C Γ0 H0 w)) ∧ JR P N C ops T M U Γ0 H0 l Q ((d, v) :: E) Γ' H')
    (hf : b ≠ want → ((∀ r ∈ Γ0, r ∈ Γ) ∧ (T i = true ∨ ∀ w, St C Γ H w → St C Γ0 H0 w)) ∧ JR P N C ops T M U Γ0 H0 l Q ((d, undef) :: E) Γ H) : JR P N C ops T M U Γ0 H0 (.one i l) Q E Γ H := by
  intro hn a w he hs
  have hy := yielded_of (ops := ops) he hj hg
  refine .inl ⟨hM, ?_⟩
  unfold wpOp
  by_cases hb : b = want
  · simp only [ho, Region.wanted, hy, hb, beq_self_eq_true, if_true]
    refine .inl (hm hb _ _ _ _ a w he hs _ _ fun v Γ' H' w' hp hs' => ?_)
    obtain ⟨h1, h2⟩ := h hb v Γ' H' hp
    exact ⟨⟨St.keep0' h1.1 hs', h1.2.imp id fun h1 => h1 w' hs'⟩, h2 hn _ _ (he.put d hd v) hs'⟩
  · have h0 : (some b == some want) = false := by simp [hb]
    simp only [ho, Region.wanted, hy, h0]
    obtain ⟨h1, h2⟩ := hf hb
    exact ⟨⟨St.keep0' h1.1 hs, h1.2.imp id fun h1 => h1 w hs⟩, h2 hn _ _ (he.put d hd undef) hs⟩

theorem St.keep (hg : Subs Γ0 Γ) {G : RL} (hH : Picks H0 H G) : ∀ w, St C Γ H w → St C Γ0 H0 w := fun _ hs => (hs.perm hH.perm).weak hg.sub
theorem JR.weak {E' : Env} {Γ' H' G : RL} (h : JR P N C ops T M U Γ0 H0 l Q E' Γ' H') (hE : Sub E' E) (hg : ∀ r ∈ Γ', r ∈ Γ) (hH : H.Perm (H' ++ G)) : JR P N C ops T M U Γ0 H0 l Q E Γ H :=
  fun hn a w he hs => h hn a w (he.sub hE) ((hs.perm hH).weak hg)
/-- Ways that stand beside each other. -/
def JA (P : Program) (N : Nat) (C : Beg) (ops : Array Oper) (T M U : Nat → Bool) (Γ0 H0 : RL) (l : OT) (Q : Exit → Act → World → Prop) (E : Env) (Γ H : RL) : Prop :=
  NP Q → ∀ a w, EnvOk N E a → St C Γ H w → wpOrd P ops Q (St C Γ0 []) (St C Γ0 H0) T M U false l a w
theorem JA.nil : JA P N C ops T M U Γ0 H0 .nil Q E Γ H := fun _ _ _ _ _ h => by cases h
theorem JA.alt {i : Nat} {t r : OT} (hi : M i = true) (h1 : JR P N C ops T M U Γ0 H0 (.one i t) Q E Γ H) (h2 : JA P N C ops T M U Γ0 H0 r Q E Γ H) : JA P N C ops T M U Γ0 H0 (.alt i t r) Q E Γ H := by
  intro hn a w he hs
  refine ⟨?_, h2 hn a w he hs⟩
  rcases h1 hn a w he hs with h | h
  · exact h.2
  · rw [hi] at h; cases h.1
theorem JR.alt {i : Nat} {t r : OT} (hi : M i = true) (h1 : JR P N C ops T M U Γ0 H0 (.one i t) Q E Γ H) (h2 : JA P N C ops T M U Γ0 H0 r Q E Γ H) : JR P N C ops T M U Γ0 H0 (.alt i t r) Q E Γ H := by
  intro hn a w he hs
  refine ⟨?_, h2 hn a w he hs⟩
  rcases h1 hn a w he hs with h | h
  · exact h.2
  · rw [hi] at h; cases h.1
theorem JR.know {φ : Prop} (hφ : ∀ w, Sat Γ H w → φ) (h : φ → JR P N C ops T M U Γ0 H0 l Q E Γ H) : JR P N C ops T M U Γ0 H0 l Q E Γ H :=
  fun hn a w he hs => h (hφ w hs.sat) hn a w he hs
end
end Go.Proofs.YtffgimlkmfjgmaaDoor
