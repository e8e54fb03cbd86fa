/- Slices: such as are read by all, and one's own rows; append, make, copy, reslicing; values built of parts. No program in sight. -/
import Derived.Test.YtffgimlkmfjgmaaDoorA4
import Derived.Maps.AppendAt
namespace Go.Proofs.YtffgimlkmfjgmaaDoor
open Go.RowKit

theorem ltb {a b : Nat} (h : Nat.blt a b = true) : a < b := by simpa [Nat.blt_eq] using h

/-! ### Slices that are read -/
def IsRd (w : World) (v : Value) (n size : Nat) (xs : List Value) : Prop :=
  ∃ A c, v = .slice A n c ∧ xs.length = n * size ∧ n ≤ maxLen ∧ n ≤ c ∧ ∀ j u, xs[j]? = some u → ∃ b o, A = some ⟨b, o, none⟩ ∧ w.cell? ⟨b, o + j, none⟩ = some u

def blk (v : Value) : Nat := v.ownBlock.getD 0
def off : Value → Nat
  | .slice (some a) _ _ => a.off
  | _ => 0

/-- v may be read: n elements, of size cells each, which hold xs. -/
def Res.rd (v : Value) (n size : Nat) (xs : List Value) : Res where
  fp k := xs ≠ [] ∧ v.ownBlock = some k
  ok w := IsRd w v n size xs
  loc w w' h ho := by
    obtain ⟨A, c, hv, hl, hm, hc, hx⟩ := ho
    refine ⟨A, c, hv, hl, hm, hc, fun j u hj => ?_⟩
    obtain ⟨b, o, hA, hcell⟩ := hx j u hj
    refine ⟨b, o, hA, ?_⟩
    have hne : xs ≠ [] := by intro e; subst e; simp at hj
    have := h b ⟨hne, by rw [hv, hA]; rfl⟩
    rw [World.cell?_of_block this]
    exact hcell
theorem Res.rd_ok {v : Value} {n size : Nat} {xs : List Value} {w : World} : (Res.rd v n size xs).ok w ↔ IsRd w v n size xs := Iff.rfl
theorem Res.rd_fp {v : Value} {n size : Nat} {xs : List Value} {k : Nat} : (Res.rd v n size xs).fp k ↔ (xs ≠ [] ∧ v.ownBlock = some k) := Iff.rfl

/-- v is one's own row: n elements of type e, of size cells each, which hold xs; there may be room behind. -/
def Res.row (v : Value) (n : Nat) (e : TypeId) (size : Nat) (xs : List Value) : Res where
  fp k := v.ownBlock = some k
  ok w := w.ownsRow 0 e size v n xs
  loc w w' h ho := by
    refine ⟨ho.1, ?_⟩
    rcases ho.2 with hn | ⟨g, cap, cur, rfl, hb, hg, rest⟩
    · exact .inl hn
    · exact .inr ⟨g, cap, cur, rfl, hb, (h g rfl).trans hg, rest⟩
theorem Res.row_ok {v : Value} {n : Nat} {e : TypeId} {size : Nat} {xs : List Value} {w : World} : (Res.row v n e size xs).ok w ↔ w.ownsRow 0 e size v n xs := Iff.rfl
theorem Res.row_fp {v : Value} {n : Nat} {e : TypeId} {size : Nat} {xs : List Value} {k : Nat} : (Res.row v n e size xs).fp k ↔ v.ownBlock = some k := Iff.rfl

theorem IsRd.at {w : World} {v : Value} {n size : Nat} {xs : List Value} (h : IsRd w v n size xs) (hne : xs ≠ []) : ∃ c, v = .slice (some ⟨blk v, off v, none⟩) n c := by
  obtain ⟨A, c, hv, hl, hm, hc, hx⟩ := h
  cases xs with
  | nil => exact absurd rfl hne
  | cons x xs =>
    obtain ⟨b, o, hA, _⟩ := hx 0 x rfl
    subst hA hv
    exact ⟨c, rfl⟩
theorem IsRd.cell {w : World} {v : Value} {n size : Nat} {xs : List Value} (h : IsRd w v n size xs) {j : Nat} {u : Value} (hj : xs[j]? = some u) : w.cell? ⟨blk v, off v + j, none⟩ = some u := by
  obtain ⟨A, c, hv, hl, hm, hc, hx⟩ := h
  obtain ⟨b, o, hA, hcell⟩ := hx j u hj
  subst hA hv
  exact hcell
theorem row_rd {w : World} {v : Value} {n : Nat} {e : TypeId} {size : Nat} {xs : List Value} (_h0 : 0 < size) (h : w.ownsRow 0 e size v n xs) : IsRd w v n size xs := by
  rcases h.2 with ⟨rfl, rfl⟩ | ⟨g, cap, cur, rfl, hb, hg, hn, hm, hs, hx⟩
  · have : xs = [] := List.eq_nil_of_length_eq_zero (by have := h.1; simpa using this)
    subst this
    exact ⟨none, 0, rfl, by simp, Nat.zero_le _, Nat.le_refl _, by simp⟩
  · refine ⟨_, cap, rfl, h.1, by omega, hn, fun j u hj => ⟨g, 0, rfl, ?_⟩⟩
    rw [← hx] at hj
    have hlt : j < n * size := by
      have := (List.getElem?_eq_some_iff.1 hj).1
      simp at this; omega
    rw [List.getElem?_take_of_lt hlt] at hj
    simp only [World.cell?, hg, Nat.zero_add]
    simpa using hj

attribute [irreducible] Res.rd Res.row

/-! ### Lending: what is held, for the time of a call, to be read -/
inductive Lend : Res → RL → Prop
  | same (r : Res) (l : RL) : Lend r (r :: l)
  | row (v : Value) (n : Nat) (e : TypeId) (size : Nat) (xs : List Value) (l : RL) (_ : 0 < size) : Lend (Res.rd v n size xs) (Res.row v n e size xs :: l)
  | there (r x : Res) (l : RL) : Lend r l → Lend r (x :: l)
inductive Lends : RL → RL → Prop
  | nil (L : RL) : Lends [] L
  | cons (r : Res) (l L : RL) : Lend r L → Lends l L → Lends (r :: l) L
theorem Lend.ex {r : Res} {L : RL} (h : Lend r L) : ∃ s ∈ L, (∀ k, r.fp k → s.fp k) ∧ ∀ w, s.ok w → r.ok w := by
  induction h with
  | same r l => exact ⟨r, .head _, fun _ h => h, fun _ h => h⟩
  | row v n e size xs l h0 => exact ⟨_, .head _, fun k hk => Res.row_fp.2 (Res.rd_fp.1 hk).2, fun w hw => Res.rd_ok.2 (row_rd h0 (Res.row_ok.1 hw))⟩
  | there r x l _ ih =>
    obtain ⟨s, hs, h⟩ := ih
    exact ⟨s, .tail _ hs, h⟩
theorem Lends.ex {l L : RL} (h : Lends l L) : ∀ r ∈ l, ∃ s ∈ L, (∀ k, r.fp k → s.fp k) ∧ ∀ w, s.ok w → r.ok w := by
  induction h with
  | nil => simp
  | cons r l L hr _ ih =>
    intro s hs
    rcases List.mem_cons.1 hs with rfl | hs
    · exact hr.ex
    · exact ih s hs

section
variable {P : Program} {N : Nat} {C : Beg} {Q : Exit → Act → World → Prop} {E : Env} {Γ H : RL} {ty : TypeId} {ops : Array Oper} {rest : List Oper}

theorem Sat.lend {Γc Hc G : RL} {w : World} (h : Sat Γ (Hc ++ G) w) (hl : Lends Γc (G ++ Γ)) : Sat Γc Hc w := by
  have hdj := List.pairwise_append.1 h.hdj
  have hs : ∀ s ∈ G ++ Γ, s.ok w ∧ (∀ k, s.fp k → k < w.heap.size) ∧ ∀ t ∈ Hc, ∀ k, s.fp k → ¬ t.fp k := by
    intro s hs
    rcases List.mem_append.1 hs with hs | hs
    · exact ⟨h.hok s (List.mem_append.2 (.inr hs)), h.hlt s (List.mem_append.2 (.inr hs)), fun t ht k hk hk' => hdj.2.2 t ht s hs k hk' hk⟩
    · exact ⟨h.gok s hs, h.glt s hs, fun t ht k hk hk' => h.ghd s hs t (List.mem_append.2 (.inl ht)) k hk hk'⟩
  refine ⟨?_, ?_, fun r hr => h.hok r (List.mem_append.2 (.inl hr)), fun r hr => h.hlt r (List.mem_append.2 (.inl hr)), hdj.1, ?_⟩
  · intro r hr
    obtain ⟨s, hsm, _, h2⟩ := hl.ex r hr
    exact h2 w (hs s hsm).1
  · intro r hr k hk
    obtain ⟨s, hsm, h1, _⟩ := hl.ex r hr
    exact (hs s hsm).2.1 k (h1 k hk)
  · intro r hr t ht k hk
    obtain ⟨s, hsm, h1, _⟩ := hl.ex r hr
    exact (hs s hsm).2.2 t ht k (h1 k hk)

/-- A call that reads what is lent to it, and leaves nothing for all to read. -/
theorem Mv.callB {f : FuncId} {xs : List Operand} {vs : List Value} {AT : Array TypeId} {Γc Hc G : RL} {post : Value → RL → RL → Prop} (hb : Body P f) (hx : evs E xs = some vs)
    (hc : Spec P f vs.toArray Γc Hc post) (hp : Picks Hc H G) (hg : Lends Γc (G ++ Γ)) (h0 : ∀ v Γ1 H1, post v Γ1 H1 → Γ1 = []) :
    Mv P N C E Γ H (.call { callee := .value (.func f), args := xs.toArray, argTypes := AT }) ty (fun v Γ' H' => ∃ H1, post v [] H1 ∧ Γ' = Γ ∧ H' = H1 ++ G) := by
  intro dst pos aft gd a w he hs K Q hK
  have hr : (execOp a.eval ⟨dst, .call { callee := .value (.func f), args := xs.toArray, argTypes := AT }, ty, pos, aft, gd⟩).run P w = .ok (.enter f vs.toArray) w := by
    have := hb vs.toArray w
    simp [execOp, resolve, Deferred.ofValue, Act.eval, invoke, he.evs hx, this]
  have hst := hs.perm hp.perm
  simp only [Oper.wp, hr, Oper.upon]
  refine (hc w (hst.sat.lend hg)).mono ?_
  rintro e w' ⟨v, Γ', H', rfl, hpost, hst'⟩
  have e0 := h0 _ _ _ hpost
  subst e0
  have hst2 : St ⟨w, [], Hc⟩ [] H' w' := by
    refine ⟨⟨by simp, by simp, hst'.sat.hok, hst'.sat.hlt, hst'.sat.hdj, by simp⟩, hst'.stp, hst'.hsub, ?_⟩
    rintro k ⟨r, hr, _⟩
    cases hr
  have := hst.frame (Γc := []) (by simp) hst2
  exact hK _ _ _ _ ⟨_, hpost, rfl, rfl⟩ (by simpa using this)
theorem JO.callB {d : Nat} {pos : String} {aft : Array Edge} {f : FuncId} {xs : List Operand} {vs : List Value} {AT : Array TypeId} {Γc Hc G : RL} {post : Value → RL → RL → Prop} (hc : Spec P f vs.toArray Γc Hc post) (hb : Body P f) (hx : evs E xs = some vs)
    (hp : Picks Hc H G) (hg : Lends Γc (G ++ Γ)) (h0 : ∀ v Γ1 H1, post v Γ1 H1 → Γ1 = []) (hd : d < N)
    (h : ∀ v H2, (∃ H1, post v [] H1 ∧ H2 = H1 ++ G) → JO P N C ops rest Q ((d, v) :: E) Γ H2) :
    JO P N C ops (⟨some d, .call { callee := .value (.func f), args := xs.toArray, argTypes := AT }, ty, pos, aft, none⟩ :: rest) Q E Γ H :=
  .m (Mv.callB hb hx hc hp hg h0) hd fun v Γ' H' ⟨H1, hp, hΓ, hH⟩ => by subst hΓ; exact h v H' ⟨H1, hp, hH⟩
theorem JO.callB0 {pos : String} {aft : Array Edge} {f : FuncId} {xs : List Operand} {vs : List Value} {AT : Array TypeId} {Γc Hc G : RL} {post : Value → RL → RL → Prop} (hc : Spec P f vs.toArray Γc Hc post) (hb : Body P f) (hx : evs E xs = some vs)
    (hp : Picks Hc H G) (hg : Lends Γc (G ++ Γ)) (h0 : ∀ v Γ1 H1, post v Γ1 H1 → Γ1 = [])
    (h : ∀ v H2, (∃ H1, post v [] H1 ∧ H2 = H1 ++ G) → JO P N C ops rest Q E Γ H2) :
    JO P N C ops (⟨none, .call { callee := .value (.func f), args := xs.toArray, argTypes := AT }, ty, pos, aft, none⟩ :: rest) Q E Γ H :=
  .m0 (Mv.callB hb hx hc hp hg h0) fun v Γ' H' ⟨H1, hp, hΓ, hH⟩ => by subst hΓ; exact h v H' ⟨H1, hp, hH⟩

/-! ### Looking at slices -/
theorem Yv.lenRd {x : Operand} {T e : TypeId} {v : Value} {n size : Nat} {xs : List Value} (hT : P.underlying T = some (.slice e)) (hx : ev E x = some v) (hm : Lend (Res.rd v n size xs) (H ++ Γ)) :
    Yv P N C E Γ H (.call { callee := .builtin .len, args := #[x], argTypes := #[T] }) ty (it (n : Int)) := by
  intro dst pos aft gd a w he hs
  have hr : (Res.rd v n size xs).ok w := (Sat.lend (Hc := []) (G := H) (Γc := [Res.rd v n size xs]) (by simpa using hs.sat) (.cons _ _ _ hm (.nil _))).gok _ (.head _)
  obtain ⟨A, c, rfl, _⟩ := Res.rd_ok.1 hr
  exact Yv.len_s hT hx dst pos aft gd a w he hs
theorem Sat.rd {v : Value} {n size : Nat} {xs : List Value} {w : World} (hs : Sat Γ H w) (hm : Lend (Res.rd v n size xs) (H ++ Γ)) : IsRd w v n size xs :=
  Res.rd_ok.1 ((Sat.lend (Hc := []) (G := H) (Γc := [Res.rd v n size xs]) (by simpa using hs) (.cons _ _ _ hm (.nil _))).gok _ (.head _))
theorem Yv.indexRd {x ix : Operand} {T e : TypeId} {v : Value} {n size j : Nat} {xs : List Value} {k : IntKind} (hT : P.underlying T = some (.slice e)) (hsz : (P.info? e).map (·.size) = some size) (hx : ev E x = some v) (hi : ev E ix = some (.int k (j : Int)))
    (hm : Lend (Res.rd v n size xs) (H ++ Γ)) (h0 : 0 < size) (hj : j < n) : Yv P N C E Γ H (.indexAddr T x ix) ty (ptr (blk v) (off v + j * size)) := by
  intro dst pos aft gd a w he hs
  have hr := hs.sat.rd hm
  have hne : xs ≠ [] := by
    obtain ⟨A, c, _, hl, _⟩ := hr
    intro e; subst e
    have : n * size = 0 := by simpa using hl.symm
    rcases Nat.mul_eq_zero.1 this with h | h <;> omega
  obtain ⟨c, hv⟩ := hr.at hne
  obtain ⟨i, hi1, hi2⟩ := Option.map_eq_some_iff.1 hsz
  have h1 : (0 : Int) ≤ j ∧ (j : Int) < n := by omega
  have hx' : ev E x = some (.slice (some ⟨blk v, off v, none⟩) n c) := by rw [← hv]; exact hx
  simp [execOp, he.ev hx', he.ev hi, Instr.indexAt, asIntOf, underlying, hT, h1, sizeOf, typeInfo, hi1, hi2, add_none, hj]
theorem Kn.rd {v : Value} {n size j : Nat} {xs : List Value} {u : Value} (hm : Lend (Res.rd v n size xs) (H ++ Γ)) (hj : xs[j]? = some u) : Kn Γ H ⟨blk v, off v + j, none⟩ u :=
  fun _ hs => (hs.rd hm).cell hj

/-- What a slice's first m elements hold, wherever they lie. -/
def Src (Γ H : RL) (size : Nat) (u : Value) (m : Nat) (news : List Value) : Prop :=
  ∀ w, Sat Γ H w → ∃ A c, u = .slice A m c ∧ news.length = m * size ∧ (A = none → m = 0) ∧ ∀ j x, news[j]? = some x → ∃ a, A = some a ∧ w.cell? (a.add j) = some x
theorem Src.rd {v : Value} {n size : Nat} {xs : List Value} (hm : Lend (Res.rd v n size xs) (H ++ Γ)) (h0 : 0 < size) : Src Γ H size v n xs := by
  intro w hs
  obtain ⟨A, c, hv, hl, _, _, hx⟩ := hs.rd hm
  refine ⟨A, c, hv, hl, fun hA => ?_, fun j x hj => ?_⟩
  · subst hA
    cases xs with
    | nil =>
      have : n * size = 0 := by simpa using hl.symm
      rcases Nat.mul_eq_zero.1 this with h | h <;> omega
    | cons x xs => obtain ⟨b, o, h, _⟩ := hx 0 x rfl; cases h
  · obtain ⟨b, o, hA, hc⟩ := hx j x hj
    exact ⟨_, hA, by rw [add_none]; exact hc⟩
theorem Src.cells {b o n c size : Nat} {cs : List Value} {T : TypeId} (hm : Res.cells b cs T ∈ H) (hl : o + n * size ≤ cs.length) : Src Γ H size (.slice (some ⟨b, o, none⟩) n c) n ((cs.drop o).take (n * size)) := by
  intro w hs
  refine ⟨some ⟨b, o, none⟩, c, rfl, by simp; omega, fun h => absurd h (by simp), fun j x hj => ⟨_, rfl, ?_⟩⟩
  rw [add_none]
  have hlt : j < n * size := by have := (List.getElem?_eq_some_iff.1 hj).1; simp at this; omega
  rw [List.getElem?_take_of_lt hlt, List.getElem?_drop] at hj
  exact Kn.own hm hj w hs
theorem Src.nil {c size : Nat} : Src Γ H size (.slice none 0 c) 0 [] := fun _ _ => ⟨_, _, rfl, by simp, fun _ => rfl, by simp⟩

/-! ### append -/
theorem run_append_nothing (w : World) (t ty e : TypeId) (i : TypeInfo) (size : Nat) (A : Option Addr) (n c c' : Nat) (ht : P.underlying t = some (.slice e)) (hi : P.info? e = some i) (_hs : i.size = size) (hn : n ≤ c) :
    (Builtin.append_ #[t, t] ty #[.slice A n c, .slice none 0 c']).run P w = .ok (.slice A n c) w := by
  cases A <;> simp [Builtin.append_, underlying, ht, sizeOf, typeInfo, hi, Builtin.lenOf, Builtin.firstCells, hn, storeCells]

theorem Mv.append {t e : TypeId} {z : Value} {size bytes : Nat} {x y : Operand} {v u : Value} {n m : Nat} {xs news : List Value} {G : RL} (ht : P.underlying t = some (.slice e))
    (hinfo : (P.info? e).map (fun i => (i.zero, i.size, i.bytes)) = some (some z, size, bytes)) (hz : z.cells.size = size) (h0 : 0 < size) (hx : ev E x = some v) (hy : ev E y = some u)
    (hp : Pull (Res.row v n e size xs) H G) (hsrc : Src Γ H size u m news) (hone : ∀ a ∈ news, a.oneCell' = true) (hnm : n + m ≤ maxLen) (hb : (n + m) * bytes ≤ 140737488355328) :
    Mv P N C E Γ H (.call { callee := .builtin .append, args := #[x, y], argTypes := #[t, t] }) ty (fun v' Γ' H' => Γ' = Γ ∧ H' = Res.row v' (n + m) e size (xs ++ news) :: G) := by
  intro dst pos aft gd a w he hs K Q hK
  obtain ⟨i, hi, hzz⟩ := Option.map_eq_some_iff.1 hinfo
  simp only [Prod.mk.injEq] at hzz
  obtain ⟨hz0, hz1, hz2⟩ := hzz
  have hst := hs.perm hp.perm
  have hrow := Res.row_ok.1 (hst.sat.hok _ (.head _))
  obtain ⟨A, c, rfl, hl, hA, hcell⟩ := hsrc w hs.sat
  have key : ∃ v' w', (Builtin.append_ #[t, t] ty #[v, .slice A m c]).run P w = .ok v' w' ∧ w'.ownsRow 0 e size v' (n + m) (xs ++ news) ∧ w.grownBy w' v.ownBlock ∧ (∀ k, v'.ownBlock = some k → v.ownBlock = some k ∨ w.heap.size ≤ k) := by
    cases A with
    | none =>
      obtain rfl := hA rfl
      have hnews : news = [] := List.eq_nil_of_length_eq_zero (by simpa using hl)
      subst hnews
      have hv : ∃ B c2, v = .slice B n c2 ∧ n ≤ c2 := by
        rcases hrow.2 with ⟨rfl, rfl⟩ | ⟨g, cap, cur, rfl, _, _, hn, _⟩
        · exact ⟨none, 0, rfl, Nat.le_refl _⟩
        · exact ⟨_, cap, rfl, hn⟩
      obtain ⟨B, c2, rfl, hn⟩ := hv
      refine ⟨_, w, run_append_nothing w t ty e i size B n c2 c ht hi hz1 hn, by simpa using hrow, ⟨rfl, rfl, rfl, Nat.le_refl _, fun _ _ _ => rfl⟩, fun k hk => .inl hk⟩
    | some ad =>
      obtain ⟨v', w', hr, hown, hg, hiff, hat⟩ := run_append_own_at (P := P) w 0 t ty e i z size bytes ht hi hz0 hz1 hz2 hz h0 v n xs hrow ad m c news hl
        (fun j x hj => by obtain ⟨a', ha, hc⟩ := hcell j x hj; obtain rfl := Option.some.inj ha; exact hc) hone hnm hb (Nat.zero_le _)
      refine ⟨v', w', hr, hown, hg, fun k hk => ?_⟩
      rcases hat with hat | hat
      · exact .inl (hat ▸ hk)
      · rw [hat] at hk
        obtain rfl := Option.some.inj hk
        exact .inr (Nat.le_refl _)
  obtain ⟨v', w', hr, hown, hg, hnew⟩ := key
  have hr' : (execOp a.eval ⟨dst, .call { callee := .builtin .append, args := #[x, y], argTypes := #[t, t] }, ty, pos, aft, gd⟩).run P w = .ok (.value v') w' := by
    simp [execOp, resolve, invoke, builtin, he.ev hx, he.ev hy, hr]
  simp only [Oper.wp, hr', Oper.upon]
  have h1 : St ⟨w, [], [Res.row v n e size xs]⟩ [] [Res.row v' (n + m) e size (xs ++ news)] w' := by
    refine ⟨⟨by simp, by simp, ?_, ?_, by simp, by simp⟩, ⟨hg.os, hg.tape, hg.output, hg.size, fun k hk hn => hg.block k hk fun e => hn ⟨_, .head _, Res.row_fp.2 e.symm⟩⟩, ?_, fun k ⟨_, h, _⟩ => by simp at h⟩
    · intro r hr
      obtain rfl := List.mem_singleton.1 hr
      exact Res.row_ok.2 hown
    · intro r hr k hk
      obtain rfl := List.mem_singleton.1 hr
      exact (hown.lt k (Res.row_fp.1 hk)).2
    · rintro k ⟨r, hr, hk⟩
      obtain rfl := List.mem_singleton.1 hr
      rcases hnew k (Res.row_fp.1 hk) with h | h
      · exact .inl ⟨_, .head _, Res.row_fp.2 h⟩
      · exact .inr h
  have h2 := St.frame (Hc := [Res.row v n e size xs]) (G := G) (Γc := []) (by simpa using hst) (by simp) h1
  exact hK _ _ _ _ ⟨rfl, rfl⟩ (by simpa using h2)
end
end Go.Proofs.YtffgimlkmfjgmaaDoor
