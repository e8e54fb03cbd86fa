/- Texts of ours, gathered: E19 C5 KW C9 Sf C10 KS C6 C7 K13 US. -/
import Derived.Sort.Grow
import Derived.Deep.QuietTactic
import Derived.Shelf.SlSortCmp.WholeK
import Derived.Ground.SlsfProg
import Derived.Test.YthfipbjmpeegbaaGreatDoorProg
import Derived.Test.YthfipbjmpeegbaaGreatDoorX09
/- What a chase says: what was claimed, as_ functions; what is heard, and believed; its state's invariant. No program in sight. -/
namespace Go.Proofs.YthfipbjmpeegbaaGreatDoor
open Go.RowKit
set_option linter.unusedVariables false
set_option linter.unusedSectionVars false
set_option linter.unusedSimpArgs false
def tgB : B8 := [98#8, 108#8, 111#8, 99#8, 107#8]
def nm (b : B8) : D32 := ⟨sha (inB tgB [b]), sha_len _⟩
/-- Of a height: what each claims, and the block of a name. -/
structure AH where
  g : Int → Option D32
  bl : D32 → Option B8
abbrev AC := BitVec 64 → Option AH
def AH0 : AH := ⟨fun _ => none, fun _ => none⟩
def HC.ab (h : HC) : AH := ⟨h.votes.get, fun d => (h.bl.get d).map (·.2)⟩
def abM (M : MM (BitVec 64) HC) : AC := fun k => (M.get k).map HC.ab
def acAt (a : AC) (h : BitVec 64) : AH := (a h).getD AH0
/-- A claim's answer, n heights being known. -/
def hearE (S : List W64) (a : AC) (n : Nat) (h : BitVec 64) (w : Int) (b : B8) : Int :=
  if ¬ (unE b = 0 ∧ unH b = h) then 31 else if (a h).isNone ∧ 20 ≤ n then 52 else voteE S (acAt a h).g w (nm b)
def addAH (x : AH) (w : Int) (b : B8) : AH := ⟨fun i => if i = w then some (nm b) else x.g i, fun d => if d = nm b then some ((x.bl d).getD b) else x.bl d⟩
def putAC (a : AC) (h : BitVec 64) (x : AH) : AC := fun k => if k = h then some x else a k
def hearA (S : List W64) (a : AC) (n : Nat) (h : BitVec 64) (w : Int) (b : B8) : AC := if hearE S a n h w b = 0 then putAC a h (addAH (acAt a h) w b) else a
def hearN (S : List W64) (a : AC) (n : Nat) (h : BitVec 64) (w : Int) (b : B8) : Nat := if hearE S a n h w b = 0 ∧ (a h).isNone then n + 1 else n
/-- Whose claims make more than a third. -/
def third (S : List W64) (x : AH) (d : D32) : Prop := sumS S < 3 * forA S x.g d
def BelR (S : List W64) (a : Option AH) : Option B8 → Prop
  | none => ∀ x, a = some x → ∀ d, ¬ third S x d
  | some b => ∃ x d, a = some x ∧ third S x d ∧ (∀ d', third S x d' → ¬ lexB d'.1 d.1 < 0) ∧ x.bl d = some b
theorem lexB_le {x y : D32} (h1 : ¬ lexB x.1 y.1 < 0) (h2 : ¬ lexB y.1 x.1 < 0) : x = y := by
  rcases lexB_tri x.1 y.1 with t | t | t
  · exact absurd t.1 h1
  · exact absurd t.1 h2
  · exact Subtype.ext t
theorem BelR.uniq {S : List W64} {a : Option AH} {o o' : Option B8} (h : BelR S a o) (h' : BelR S a o') : o = o' := by
  cases o with
  | none =>
    cases o' with
    | none => rfl
    | some b => obtain ⟨x, d, hx, ht, _⟩ := h'; exact absurd ht (h x hx d)
  | some b =>
    obtain ⟨x, d, hx, ht, hm, hb⟩ := h
    cases o' with
    | none => exact absurd ht (h' x hx d)
    | some b' =>
      obtain ⟨x', d', hx', ht', hm', hb'⟩ := h'
      obtain rfl := Option.some.inj (hx.symm.trans hx')
      obtain rfl := lexB_le (hm' d ht) (hm d' ht')
      exact hb.symm.trans hb'
def RunP (S : List W64) (a : AC) (h : BitVec 64) (l : List B8) : Prop := ∀ i b, l[i]? = some b → BelR S (a (h + BitVec.ofNat 64 i)) (some b)
def RunR (S : List W64) (a : AC) (h : BitVec 64) (l : List B8) : Prop := RunP S a h l ∧ BelR S (a (h + BitVec.ofNat 64 l.length)) none
theorem RunP.snoc {S : List W64} {a : AC} {h : BitVec 64} {l : List B8} {b : B8} (hl : RunP S a h l) (hb : BelR S (a (h + BitVec.ofNat 64 l.length)) (some b)) : RunP S a h (l ++ [b]) := by
  intro i c hc
  by_cases hi : i < l.length
  · rw [List.getElem?_append_left hi] at hc
    exact hl i c hc
  · have hi2 : i < (l ++ [b]).length := (List.getElem?_eq_some_iff.1 hc).1
    rw [List.length_append, List.length_singleton] at hi2
    obtain rfl : i = l.length := by omega
    simp at hc
    subst hc
    exact hb
theorem RunR.le {S : List W64} {a : AC} {h : BitVec 64} {l l' : List B8} (h1 : RunR S a h l) (h2 : RunR S a h l') : l.length ≤ l'.length := by
  apply Nat.le_of_not_lt
  intro hlt
  have e := h1.1 l'.length _ (List.getElem?_eq_getElem hlt)
  exact absurd (BelR.uniq e h2.2) (by simp)
theorem RunR.uniq {S : List W64} {a : AC} {h : BitVec 64} {l l' : List B8} (h1 : RunR S a h l) (h2 : RunR S a h l') : l = l' := by
  have hl : l.length = l'.length := Nat.le_antisymm (h1.le h2) (h2.le h1)
  apply List.ext_getElem hl
  intro i hi hi'
  exact Option.some.inj (BelR.uniq (h1.1 i _ (List.getElem?_eq_getElem hi)) (h2.1 i _ (List.getElem?_eq_getElem hi')))
/-! ### The state -/
structure HOk (S : List W64) (k : BitVec 64) (hc : HC) : Prop where
  tok : TOk S hc.votes
  tw : hc.tw.Ok
  bl : hc.bl.Ok
  nb : hc.bl.es.length ≤ hc.votes.es.length
  nms : ∀ d v b, hc.bl.get d = some (v, b) → nm b = d ∧ unE b = 0 ∧ unH b = k
  vt : ∀ w d, hc.votes.get w = some d → (hc.bl.get d).isSome = true
structure COk (S : List W64) (M : MM (BitVec 64) HC) : Prop where
  ok : M.Ok
  le : M.es.length ≤ 20
  each : ∀ k hc, M.get k = some hc → HOk S k hc ∧ hc.bl.es ≠ []
theorem cok_nil (S : List W64) : COk S MM.nil := ⟨MM.ok_nil, by simp [MM.nil], fun k hc h => by simp [MM.get, MM.nil, MM.findL] at h⟩
theorem nd_le {α : Type} {l L : List α} (hn : l.Nodup) (hs : ∀ x ∈ l, x ∈ L) : l.length ≤ L.length := by
  induction l generalizing L with
  | nil => exact Nat.zero_le _
  | cons a p ih =>
    rw [List.nodup_cons] at hn
    obtain ⟨l1, l2, rfl⟩ := List.append_of_mem (hs a (.head _))
    have h2 := ih (L := l1 ++ l2) hn.2 fun e he => by
      have h3 := hs e (.tail _ he)
      have h4 : e ≠ a := fun h => hn.1 (h ▸ he)
      simp only [List.mem_append, List.mem_cons] at h3 ⊢
      rcases h3 with h | h | h
      · exact .inl h
      · exact absurd h h4
      · exact .inr h
    simp only [List.length_cons, List.length_append] at h2 ⊢
    omega
theorem tok_len {S : List W64} {m : MM Int D32} (h : TOk S m) : m.es.length ≤ S.length := by
  have h1 : (m.es.map fun e => e.1.toNat).Nodup := by
    have := h.ok.nk
    rw [List.nodup_iff_pairwise_ne, List.pairwise_map] at this ⊢
    refine this.imp_of_mem ?_
    intro a b ha hb hab he
    have h1 := (h.rng a ha).1
    have h2 := (h.rng b hb).1
    exact hab (by omega)
  have h2 := nd_le (L := List.range S.length) h1 fun x hx => by
    obtain ⟨e, he, rfl⟩ := List.mem_map.1 hx
    have := h.rng e he
    rw [List.mem_range]
    omega
  simpa using h2
section
variable {α β : Type} [DecidableEq α]
theorem MM.put_len (m : MM α β) (k : α) (v : β) : (m.put k v).es.length = if (m.get k).isSome then m.es.length else m.es.length + 1 := by
  cases h : m.get k with
  | none => rw [show (m.put k v).es = m.es ++ [(k, v, m.ck)] from MM.setL_none h]; simp
  | some u =>
    have := (MM.setL_some (v := v) (c := m.ck) h).1
    have e := congrArg List.length this
    rw [List.length_map, List.length_map] at e
    exact e
theorem MM.nk_inj {m : MM α β} (h : m.Ok) {x y : α × β × Nat} (hx : x ∈ m.es) (hy : y ∈ m.es) (e : x.1 = y.1) : x = y := by
  have h1 := h.nk
  generalize m.es = l at *
  induction l with
  | nil => cases hx
  | cons a l ih =>
    simp only [List.map_cons, List.nodup_cons] at h1
    rcases List.mem_cons.1 hx with rfl | hx <;> rcases List.mem_cons.1 hy with rfl | hy
    · rfl
    · exact absurd (List.mem_map.2 ⟨y, hy, e.symm⟩) h1.1
    · have hm : x ∈ l := by assumption
      exact absurd (e ▸ List.mem_map_of_mem hm) h1.1
    · exact ih hx hy h1.2
theorem MM.nb_inj {m : MM α β} (h : m.Ok) {x y : α × β × Nat} (hx : x ∈ m.es) (hy : y ∈ m.es) (e : x.2.2 = y.2.2) : x = y := by
  have h1 := h.nb
  generalize m.es = l at *
  induction l with
  | nil => cases hx
  | cons a l ih =>
    simp only [List.map_cons, List.nodup_cons] at h1
    rcases List.mem_cons.1 hx with rfl | hx <;> rcases List.mem_cons.1 hy with rfl | hy
    · rfl
    · exact absurd (List.mem_map.2 ⟨y, hy, e.symm⟩) h1.1
    · have hm : x ∈ l := by assumption
      exact absurd (e ▸ List.mem_map_of_mem hm) h1.1
    · exact ih hx hy h1.2
theorem MM.get_ne {m : MM α β} {k : α} {v : β} (h : m.get k = some v) : m.es ≠ [] := fun e => by simp [MM.get, e, MM.findL] at h
end
theorem abM_put (M : MM (BitVec 64) HC) (h : BitVec 64) (hc : HC) : abM (M.put h hc) = putAC (abM M) h hc.ab := by
  funext k
  simp only [abM, putAC, MM.get_put]
  split <;> rfl
theorem abM_none {M : MM (BitVec 64) HC} {h : BitVec 64} (hg : M.get h = none) : (abM M h).isNone = true ∧ acAt (abM M) h = AH0 := by simp [abM, acAt, hg]
theorem abM_some {M : MM (BitVec 64) HC} {h : BitVec 64} {hc : HC} (hg : M.get h = some hc) : (abM M h).isNone = false ∧ acAt (abM M) h = hc.ab ∧ abM M h = some hc.ab := by simp [abM, acAt, hg]
/-- What a claim that counts leaves of a height. -/
def HC.add (hc : HC) (w : Int) (v : Value) (b : B8) : HC := { hc with votes := hc.votes.put w (nm b), bl := if (hc.bl.get (nm b)).isSome then hc.bl else hc.bl.put (nm b) (v, b) }
theorem HC.add_ab (hc : HC) (w : Int) (v : Value) (b : B8) : (hc.add w v b).ab = addAH hc.ab w b := by
  unfold HC.ab HC.add addAH
  congr 1
  · funext i; simp only [MM.get_put]
  · funext d
    dsimp only
    by_cases h : (hc.bl.get (nm b)).isSome
    · rw [if_pos h]
      split
      · rename_i e; subst e
        obtain ⟨x, hx⟩ := Option.isSome_iff_exists.1 h
        rw [hx]; rfl
      · rfl
    · rw [if_neg h, MM.get_put]
      split
      · rename_i e; subst e
        have : hc.bl.get (nm b) = none := by simpa using h
        rw [this]; rfl
      · rfl
theorem HOk.add {S : List W64} {k : BitVec 64} {hc : HC} (h : HOk S k hc) {w : Int} (v : Value) {b : B8} (he : voteE S hc.votes.get w (nm b) = 0) (hu : unE b = 0) (hh : unH b = k) : HOk S k (hc.add w v b) ∧ (hc.add w v b).bl.es ≠ [] := by
  have hw : 0 ≤ w ∧ w < S.length ∧ hc.votes.get w = none := by
    unfold voteE at he
    split at he
    · cases he
    · split at he
      · cases he
      · split at he
        · cases he
        · split at he
          · cases he
          · rename_i h1 _ _ h4
            exact ⟨by omega, by omega, by simpa using h4⟩
  have hvl : (hc.votes.put w (nm b)).es.length = hc.votes.es.length + 1 := by rw [MM.put_len, hw.2.2]; rfl
  have hget : ((hc.add w v b).bl.get (nm b)).isSome = true := by
    unfold HC.add; dsimp only
    split
    · assumption
    · rw [MM.get_put, if_pos rfl]; rfl
  refine ⟨⟨tok_put h.tok _ hw.1 hw.2.1, h.tw, ?_, ?_, ?_, ?_⟩, ?_⟩
  · unfold HC.add; dsimp only
    split
    · exact h.bl
    · exact MM.ok_put h.bl _ _
  · show (hc.add w v b).bl.es.length ≤ (hc.votes.put w (nm b)).es.length
    rw [hvl]
    have := h.nb
    unfold HC.add; dsimp only
    split
    · omega
    · rw [MM.put_len]; split <;> omega
  · intro d u c hd
    unfold HC.add at hd; dsimp only at hd
    split at hd
    · exact h.nms d u c hd
    · rw [MM.get_put] at hd
      split at hd
      · rename_i e; subst e
        obtain ⟨rfl, rfl⟩ := Prod.mk.inj (Option.some.inj hd)
        exact ⟨rfl, hu, hh⟩
      · exact h.nms d u c hd
  · intro i d hd
    change (hc.votes.put w (nm b)).get i = some d at hd
    rw [MM.get_put] at hd
    split at hd
    · obtain rfl := Option.some.inj hd; exact hget
    · have h1 := h.vt i d hd
      unfold HC.add; dsimp only
      split
      · exact h1
      · rw [MM.get_put]; split
        · rfl
        · exact h1
  · obtain ⟨x, hx⟩ := Option.isSome_iff_exists.1 hget
    exact MM.get_ne hx
theorem hc_nil {S : List W64} {k : BitVec 64} (p bm va ta : Nat) (sv : Value) : HOk S k ⟨p, bm, va, ta, sv, MM.nil, MM.nil, MM.nil⟩ :=
  ⟨tok_nil S, MM.ok_nil, MM.ok_nil, Nat.le_refl _, fun d v b h => by simp [MM.get, MM.nil, MM.findL] at h, fun w d h => by simp [MM.get, MM.nil, MM.findL] at h⟩
theorem COk.put {S : List W64} {M : MM (BitVec 64) HC} (hM : COk S M) {h : BitVec 64} {hc : HC} (hh : HOk S h hc ∧ hc.bl.es ≠ []) (hl : (M.get h).isSome = true ∨ M.es.length < 20) : COk S (M.put h hc) := by
  refine ⟨MM.ok_put hM.ok _ _, ?_, ?_⟩
  · have := hM.le
    rw [MM.put_len]
    split <;> rcases hl with hl | hl <;> first | omega | simp_all
  · intro k x hx
    rw [MM.get_put] at hx
    split at hx
    · rename_i e; subst e; obtain rfl := Option.some.inj hx; exact hh
    · exact hM.each k x hx
/-! ### What hearing comes to -/
structure HearP (S : List W64) (M : MM (BitVec 64) HC) (h : BitVec 64) (w : Int) (b : B8) (M' : MM (BitVec 64) HC) (e : Int) : Prop where
  ok : COk S M'
  ab : abM M' = hearA S (abM M) M.es.length h w b
  n : M'.es.length = hearN S (abM M) M.es.length h w b
  e : e = hearE S (abM M) M.es.length h w b
section
variable {S : List W64} {M : MM (BitVec 64) HC} {h : BitVec 64} {w : Int} {b : B8}
theorem HearP.same (hM : COk S M) {e : Int} (he : hearE S (abM M) M.es.length h w b = e) (h0 : e ≠ 0) : HearP S M h w b M e := by
  subst he
  exact ⟨hM, by rw [hearA, if_neg h0], by rw [hearN, if_neg fun x => h0 x.1], rfl⟩
theorem HearP.bad (hM : COk S M) (hb : ¬ (unE b = 0 ∧ unH b = h)) : HearP S M h w b M 31 := HearP.same hM (if_pos hb) (by decide)
theorem HearP.full (hM : COk S M) (hu : unE b = 0) (hg : M.get (unH b) = none) (hl : 20 ≤ M.es.length) : HearP S M (unH b) w b M 52 :=
  HearP.same hM (by rw [hearE, if_neg (fun x => x ⟨hu, rfl⟩), if_pos ⟨(abM_none hg).1, hl⟩]) (by decide)
theorem hearE_new (hu : unE b = 0) (hg : M.get (unH b) = none) (hl : M.es.length < 20) : hearE S (abM M) M.es.length (unH b) w b = voteE S (fun _ => none) w (nm b) := by
  rw [hearE, if_neg (fun x => x ⟨hu, rfl⟩), if_neg (fun x => absurd x.2 (by omega)), (abM_none hg).2]; rfl
theorem hearE_old {hc : HC} (hu : unE b = 0) (hg : M.get (unH b) = some hc) : hearE S (abM M) M.es.length (unH b) w b = voteE S hc.votes.get w (nm b) := by
  rw [hearE, if_neg (fun x => x ⟨hu, rfl⟩), if_neg (fun x => by rw [(abM_some hg).1] at x; exact absurd x.1 (by decide)), (abM_some hg).2.1]; rfl
theorem HearP.refN (hM : COk S M) (hu : unE b = 0) (hg : M.get (unH b) = none) (hl : M.es.length < 20) (hv : voteE S (fun _ => none) w (nm b) ≠ 0) : HearP S M (unH b) w b M (voteE S (fun _ => none) w (nm b)) :=
  HearP.same hM (hearE_new hu hg hl) hv
theorem putAC_self {a : AC} {k : BitVec 64} {x : AH} (h : a k = some x) : putAC a k x = a := by
  funext j
  unfold putAC
  split
  · rename_i e; subst e; exact h.symm
  · rfl
theorem HearP.refS (hM : COk S M) {hc : HC} (hu : unE b = 0) (hg : M.get (unH b) = some hc) {tw' : MM Int Bool} (ht : tw'.Ok) (hv : voteE S hc.votes.get w (nm b) ≠ 0) : HearP S M (unH b) w b (M.put (unH b) { hc with tw := tw' }) (voteE S hc.votes.get w (nm b)) := by
  have hE := hearE_old (S := S) (w := w) hu hg
  obtain ⟨h1, h2⟩ := hM.each _ _ hg
  have hs : (M.get (unH b)).isSome = true := by rw [hg]; rfl
  refine ⟨hM.put ⟨⟨h1.tok, ht, h1.bl, h1.nb, h1.nms, h1.vt⟩, h2⟩ (.inl hs), ?_, ?_, hE.symm⟩
  · rw [hearA, hE, if_neg hv, abM_put]
    exact putAC_self (abM_some hg).2.2
  · rw [hearN, hE, if_neg (fun x => hv x.1), MM.put_len, if_pos hs]
theorem HearP.addS (hM : COk S M) {hc : HC} (hu : unE b = 0) (hg : M.get (unH b) = some hc) (v : Value) (hv : voteE S hc.votes.get w (nm b) = 0) : HearP S M (unH b) w b (M.put (unH b) (hc.add w v b)) 0 := by
  have hE := hearE_old (S := S) (w := w) hu hg
  have hs : (M.get (unH b)).isSome = true := by rw [hg]; rfl
  refine ⟨hM.put ((hM.each _ _ hg).1.add v hv hu rfl) (.inl hs), ?_, ?_, (hE.trans hv).symm⟩
  · rw [hearA, hE, if_pos hv, abM_put, HC.add_ab, (abM_some hg).2.1]
  · rw [hearN, hE, if_neg (fun x => by rw [(abM_some hg).1] at x; exact absurd x.2 (by decide)), MM.put_len, if_pos hs]
theorem HearP.addN (hM : COk S M) (hu : unE b = 0) (hg : M.get (unH b) = none) (hl : M.es.length < 20) (p bm va ta : Nat) (sv v : Value) (hv : voteE S (fun _ => none) w (nm b) = 0) : HearP S M (unH b) w b (M.put (unH b) (HC.add ⟨p, bm, va, ta, sv, MM.nil, MM.nil, MM.nil⟩ w v b)) 0 := by
  have hE := hearE_new (S := S) (w := w) hu hg hl
  refine ⟨hM.put ((hc_nil p bm va ta sv).add v hv hu rfl) (.inr hl), ?_, ?_, (hE.trans hv).symm⟩
  · rw [hearA, hE, if_pos hv, abM_put, HC.add_ab, (abM_none hg).2]; rfl
  · rw [hearN, hE, if_pos ⟨hv, (abM_none hg).1⟩, MM.put_len, hg]; rfl
end
/-! ### What is believed -/
def bv : Option (Value × B8) → Value
  | none => .slice none 0 0
  | some x => x.1
def oR : Option (Value × B8) → RL
  | none => []
  | some x => [Res.row x.1 x.2.length 5 1 (x.2.map u8)]
theorem un_len {b : B8} (h : unE b = 0) : b.length ≤ 20000 := by
  obtain ⟨h1, h2⟩ := un_back h
  have h3 := packE_0.1 h1
  have := packB_len (h := unH b) (l := unL b) (by omega) (fun c hc => (h3.2.1 c hc).2)
  rw [h2] at this
  exact this
theorem key_get {α β : Type} [DecidableEq α] {m : MM α β} (h : m.Ok) {k : α} (hk : k ∈ m.es.map (·.1)) : ∃ v, m.get k = some v := by
  obtain ⟨e, he, rfl⟩ := List.mem_map.1 hk
  exact ⟨e.2.1, (MM.get_iff h).2 ⟨e.2.2, he⟩⟩
theorem get_key {α β : Type} [DecidableEq α] {m : MM α β} (h : m.Ok) {k : α} (hk : (m.get k).isSome = true) : k ∈ m.es.map (·.1) := by
  obtain ⟨v, hv⟩ := Option.isSome_iff_exists.1 hk
  obtain ⟨c, hc⟩ := (MM.get_iff h).1 hv
  exact List.mem_map.2 ⟨_, hc, rfl⟩
section
variable {S : List W64} {M : MM (BitVec 64) HC} {h : BitVec 64} {hc : HC}
theorem third_key (hok : HOk S h hc) {d : D32} (ht : third S hc.ab d) : d ∈ hc.bl.es.map (·.1) := by
  have h0 : 0 < forA S hc.votes.get d := by
    have : sumS S < 3 * forA S hc.votes.get d := ht
    omega
  obtain ⟨i, _, hi⟩ := forA_some h0
  exact get_key hok.bl (hok.vt _ _ hi)
theorem bel_none (hg : M.get h = some hc) (hok : HOk S h hc) {es : List D32} (hes : es.Perm (hc.bl.es.map (·.1))) (hn : ∀ j, j < es.length → ¬ third S hc.ab (es.getD j D0)) : BelR S (abM M h) none := by
  intro x hx d ht
  rw [(abM_some hg).2.2] at hx
  obtain rfl := Option.some.inj hx
  obtain ⟨j, hj, rfl⟩ := List.getElem_of_mem (hes.mem_iff.2 (third_key hok ht))
  exact hn j hj (by rw [List.getD_eq_getElem?_getD, List.getElem?_eq_getElem hj]; exact ht)
theorem bel_hit (hg : M.get h = some hc) (hok : HOk S h hc) {es : List D32} (hes : es.Perm (hc.bl.es.map (·.1))) (hso : es.Pairwise fun x y => ¬ lexB y.1 x.1 < 0) {x : Nat} (hx : x < es.length)
    (hn : ∀ j, j < x → ¬ third S hc.ab (es.getD j D0)) (ht : third S hc.ab (es.getD x D0)) {v : Value} {b : B8} (hb : hc.bl.get (es.getD x D0) = some (v, b)) : BelR S (abM M h) (some b) := by
  refine ⟨hc.ab, es.getD x D0, (abM_some hg).2.2, ht, fun d hd => ?_, by show (hc.bl.get _).map _ = _; rw [hb]; rfl⟩
  obtain ⟨j, hj, rfl⟩ := List.getElem_of_mem (hes.mem_iff.2 (third_key hok hd))
  have e : ∀ i (hi : i < es.length), es.getD i D0 = es[i] := fun i hi => by rw [List.getD_eq_getElem?_getD, List.getElem?_eq_getElem hi]; rfl
  rw [e x hx]
  rcases Nat.lt_trichotomy j x with h1 | rfl | h1
  · exact absurd hd (by rw [← e j hj]; exact hn j h1)
  · rw [lexB_self]; decide
  · exact List.pairwise_iff_getElem.1 hso x j hx hj h1
theorem run_len {l : List B8} (hM : COk S M) (hl : RunP S (abM M) h l) (h64 : l.length ≤ 1000) : l.length ≤ 20 := by
  have h1 : ((List.range l.length).map fun i => h + BitVec.ofNat 64 i).Nodup := by
    rw [List.nodup_iff_pairwise_ne, List.pairwise_map]
    refine (List.nodup_iff_pairwise_ne.1 (List.nodup_range (n := l.length))).imp_of_mem ?_
    intro a b ha hb hab he
    rw [List.mem_range] at ha hb
    have := congrArg BitVec.toNat ((BitVec.add_right_inj h).1 he)
    rw [BitVec.toNat_ofNat, BitVec.toNat_ofNat] at this
    omega
  have h2 := nd_le (L := M.es.map (·.1)) h1 fun k hk => by
    obtain ⟨i, hi, rfl⟩ := List.mem_map.1 hk
    rw [List.mem_range] at hi
    obtain ⟨x, d, hx, _⟩ := hl i _ (List.getElem?_eq_getElem hi)
    refine get_key hM.ok ?_
    unfold abM at hx
    cases hg : M.get (h + BitVec.ofNat 64 i) with
    | none => rw [hg] at hx; cases hx
    | some y => rfl
  have := hM.le
  simp at h2
  omega
end
/-! ### Forgetting -/
def cutS (M : MM (BitVec 64) HC) (below : BitVec 64) (s : List Nat) : MM (BitVec 64) HC := ⟨M.es.filter fun e => !(decide (e.2.2 ∈ s) && decide (e.1.toNat < below.toNat)), M.ck⟩
def cutM (M : MM (BitVec 64) HC) (below : BitVec 64) : MM (BitVec 64) HC := ⟨M.es.filter fun e => !decide (e.1.toNat < below.toNat), M.ck⟩
theorem ok_filter {α β : Type} [DecidableEq α] {m : MM α β} (h : m.Ok) (p : α × β × Nat → Bool) : (⟨m.es.filter p, m.ck⟩ : MM α β).Ok :=
  ⟨h.nk.sublist (List.filter_sublist.map _), h.nb.sublist (List.filter_sublist.map _), fun e he => h.lt e (List.mem_filter.1 he).1⟩
section
variable {M : MM (BitVec 64) HC} {below : BitVec 64}
theorem cutS_nil : cutS M below [] = M := by
  show (⟨_, M.ck⟩ : MM (BitVec 64) HC) = M
  rw [show M.es.filter (fun e => !(decide (e.2.2 ∈ ([] : List Nat)) && decide (e.1.toNat < below.toNat))) = M.es from List.filter_eq_self.2 fun e _ => by simp]
theorem cutS_del (hM : M.Ok) {s : List Nat} {e : HE} (he : e ∈ M.es) (hs : e.2.2 ∉ s) (hl : e.1.toNat < below.toNat) : (cutS M below s).del e.1 = cutS M below (s ++ [e.2.2]) := by
  unfold MM.del
  rw [delL_filter (show ((cutS M below s).es.map (·.1)).Nodup from (ok_filter hM _).nk)]
  unfold cutS
  dsimp only
  rw [List.filter_filter]
  congr 1
  refine List.filter_congr fun x hx => ?_
  have hinj : x.1 = e.1 ↔ x.2.2 = e.2.2 := by
    constructor
    · intro h
      have := MM.nk_inj hM hx he h
      rw [this]
    · intro h
      have := MM.nb_inj hM hx he h
      rw [this]
  by_cases h1 : x.1 = e.1
  · have h2 := hinj.1 h1
    rw [h1, h2]
    simp [hl]
  · have h2 : ¬ x.2.2 = e.2.2 := fun h => h1 (hinj.2 h)
    simp [h1, h2]
theorem cutS_keep {s : List Nat} (hM : M.Ok) {e : HE} (he : e ∈ M.es) (hl : ¬ e.1.toNat < below.toNat) : cutS M below s = cutS M below (s ++ [e.2.2]) := by
  unfold cutS
  congr 1
  refine List.filter_congr fun x hx => ?_
  by_cases h : x.2.2 = e.2.2
  · have := MM.nb_inj hM hx he h
    subst this
    simp [hl]
  · simp [h]
theorem cutS_all {s : List Nat} (h : ∀ e ∈ (cutS M below s).es, e.2.2 ∈ s) : cutS M below s = cutM M below := by
  unfold cutS cutM at *
  congr 1
  refine List.filter_congr fun x hx => ?_
  by_cases hs : x.2.2 ∈ s
  · simp [hs]
  · have h1 : ¬ x ∈ M.es.filter fun e => !(decide (e.2.2 ∈ s) && decide (e.1.toNat < below.toNat)) := fun h2 => hs (h x h2)
    exact absurd (List.mem_filter.2 ⟨hx, by simp [hs]⟩) h1
theorem cutS_mem {s : List Nat} {e : HE} (h : e ∈ (cutS M below s).es) : e ∈ M.es := (List.mem_filter.1 h).1
def leftN (M : MM (BitVec 64) HC) (s : List Nat) : Nat := (M.es.filter fun e => !decide (e.2.2 ∈ s)).length
theorem left_lt {s : List Nat} {e : HE} (he : e ∈ M.es) (hs : e.2.2 ∉ s) : leftN M (s ++ [e.2.2]) < leftN M s := by
  have key : ∀ l : List HE, e ∈ l → (l.filter fun x => !decide (x.2.2 ∈ s ++ [e.2.2])).length < (l.filter fun x => !decide (x.2.2 ∈ s)).length := by
    intro l
    have hle : ∀ l : List HE, (l.filter fun x => !decide (x.2.2 ∈ s ++ [e.2.2])).length ≤ (l.filter fun x => !decide (x.2.2 ∈ s)).length := fun l => by
      induction l with
      | nil => exact Nat.le_refl _
      | cons x l ih =>
        by_cases h1 : x.2.2 ∈ s
        · simp [List.filter_cons, h1]; simpa using ih
        · by_cases h2 : x.2.2 = e.2.2
          · simp [List.filter_cons, h1, h2, hs]; simp at ih; omega
          · simp [List.filter_cons, h1, h2]; simpa using ih
    induction l with
    | nil => intro h; cases h
    | cons x l ih =>
      intro h
      rcases List.mem_cons.1 h with rfl | h
      · have := hle l
        simp [List.filter_cons, hs]; simp at this; omega
      · have := ih h
        by_cases h1 : x.2.2 ∈ s
        · simp [List.filter_cons, h1]; simpa using this
        · by_cases h2 : x.2.2 = e.2.2
          · simp [List.filter_cons, h1, h2, hs]; simp at this; omega
          · simp [List.filter_cons, h1, h2]; simpa using this
  exact key M.es he
theorem cut_perm (F : HE → Res) : (M.es.map F).Perm (((cutM M below).es.map F) ++ ((M.es.filter fun e => !(!decide (e.1.toNat < below.toNat))).map F)) := by
  rw [← List.map_append]
  exact ((List.filter_append_perm (fun e : HE => !decide (e.1.toNat < below.toNat)) M.es).map F).symm
theorem cut_get (hM : M.Ok) (k : BitVec 64) : (cutM M below).get k = if k.toNat < below.toNat then none else M.get k := by
  have hC : (cutM M below).Ok := ok_filter hM _
  split
  · rename_i hk
    cases hg : (cutM M below).get k with
    | none => rfl
    | some v =>
      obtain ⟨c, hc⟩ := (MM.get_iff hC).1 hg
      have := (List.mem_filter.1 hc).2
      simp [hk] at this
  · rename_i hk
    cases hg : M.get k with
    | none =>
      cases hg2 : (cutM M below).get k with
      | none => rfl
      | some v =>
        obtain ⟨c, hc⟩ := (MM.get_iff hC).1 hg2
        rw [(MM.get_iff hM).2 ⟨c, (List.mem_filter.1 hc).1⟩] at hg
        cases hg
    | some v =>
      obtain ⟨c, hc⟩ := (MM.get_iff hM).1 hg
      exact (MM.get_iff hC).2 ⟨c, List.mem_filter.2 ⟨hc, by simp [hk]⟩⟩
theorem cok_cut {S : List W64} (hM : COk S M) : COk S (cutM M below) := by
  refine ⟨ok_filter hM.ok _, Nat.le_trans (List.length_filter_le _ _) hM.le, fun k hc hk => ?_⟩
  rw [cut_get hM.ok] at hk
  split at hk
  · cases hk
  · exact hM.each k hc hk
end
end Go.Proofs.YthfipbjmpeegbaaGreatDoor

/- Walks: a claim is heard. -/
namespace Go.Proofs.YthfipbjmpeegbaaGreatDoor
open Go.RowKit
set_option maxRecDepth 100000
set_option linter.unusedVariables false
set_option linter.unusedSimpArgs false
theorem name_dig (v : Value) (b : B8) (hb : b.length ≤ 100000) : Spec Tryz.prog 25 #[v] [Res.var 3 (sqr.map u32), Res.var 2 (cub.map u32), Res.rd v b.length 1 (b.map u8)] [] (fun r Γ' H' => r = dgV (nm b) ∧ Γ' = [] ∧ H' = []) := f25_spec v b hb

theorem f10D_spec (c am : Nat) (sv : Value) (S : List W64) (M : MM (BitVec 64) HC) (hM : COk S M) (h1 : 1 ≤ S.length) (h2 : S.length ≤ 40) (h3 : sumS S < 9223372036854775808) (xw : Int) (xv : Value) (b : B8) (hb : b.length ≤ 100000) (h : BitVec 64) (hbad : ¬ (unE b = 0 ∧ unH b = h)) :
    Spec Tryz.prog 10 #[(ptr c 0), (.agg #[u64 h, it xw, xv])] [Res.var 3 (sqr.map u32), Res.var 2 (cub.map u32), Res.var 0 [u64 9223372036854775808, u64 0, u64 0, u64 0], Res.rd xv b.length 1 (b.map u8)] [Res.cells c [sv, .map (some am)] 62, Res.row sv S.length 30 1 (S.map u64), mpR am uK hcV M, Res.sep (hsL S M)]
      (fun r Γ' H' => ∃ M' e, HearP S M h xw b M' e ∧ r = it e ∧ Γ' = [] ∧ H' = [Res.cells c [sv, .map (some am)] 62, Res.row sv S.length 30 1 (S.map u64), mpR am uK hcV M', Res.sep (hsL S M')]) := by
  refine Spec.of_args Tryz.func10 rfl Tryz.ntmps10 (by simp) fun w => ?_
  refine JC.know (φ := xv.oneCell' = true) (fun w hs => by obtain ⟨A, c, rfl, _⟩ := hs.rdForm (.tail _ (.tail _ (.tail _ (.head _)))); rfl) fun hxv => ?_
  refine .seq (.region ?_)
  refine .bx fun b3 => ?_
  refine .w (.assign rfl) ?_
  refine .nil (.tn (.seq (.region ?_)))
  refine .w (.fieldAddr fa_33_2 rfl) ?_
  refine .w (.ld one_23 rfl) ?_
  refine .cs (f24_spec xv b (by omega)) body_24 ?_
  rintro _ _ _ ⟨xl, N, hN, rfl, rfl, rfl⟩
  refine .ap ?_
  refine .ap ?_
  refine .w (.move rfl) ?_
  refine .w (.extract rfl rfl) ?_
  refine .w (.extract rfl rfl) ?_
  refine .w (.extract rfl rfl) ?_
  refine .w (.assign rfl) ?_
  refine .w (.assign rfl) ?_
  refine .w (.assign rfl) ?_
  refine .nil (.tn (.seq (.seq (.region ?_))))
  refine .w (.move rfl) ?_
  refine .w (.bin rfl rfl BinR.neq_i) ?_
  refine .w (.move rfl) ?_
  refine .join 5 28 (.bool (decide (¬ (unE b = 0 ∧ unH b = h)))) ?_ ?_
  · refine .gn (g := 22) rfl (fun hg16 hg16' => ?_) (fun hg16 hg16' => ?_)
    · refine .gf (g := 23) rfl rfl hg16 (by decide) ?_
      refine .gf (g := 23) rfl rfl hg16 (by decide) ?_
      refine .gf (g := 23) rfl rfl hg16 (by decide) ?_
      refine .gf (g := 23) rfl rfl hg16 (by decide) ?_
      refine .w (.pick1 rfl hg16 rfl) ?_
      refine .nil ?_
      refine .head () (by first | (refine ⟨by first | rfl | exact congrArg (fun b => some (Value.bool b)) (by simp_all; done), ?_⟩; repeat (first | exact trivial | refine ⟨rfl, ?_⟩))) (fun _ h => h) (Picks.perm zqd) ?_
      trivial
    · refine .gt (g := 23) rfl rfl hg16 ?_
      refine .w (.move rfl) ?_
      refine .gt (g := 23) rfl rfl hg16 ?_
      refine .w (.fieldAddr fa_33_0 rfl) ?_
      refine .gt (g := 23) rfl rfl hg16 ?_
      refine .w (.ld one_30 rfl) ?_
      refine .gt (g := 23) rfl rfl hg16 ?_
      refine .w (.bin rfl rfl (BinR.neq_u64)) ?_
      refine .w (.pick0 rfl hg16 rfl) ?_
      refine .nil ?_
      refine .head () (by first | (refine ⟨by first | rfl | exact congrArg (fun b => some (Value.bool b)) (by simp_all; done), ?_⟩; repeat (first | exact trivial | refine ⟨rfl, ?_⟩))) (fun _ h => h) (Picks.perm zqd) ?_
      trivial
  · refine .nil (.tn ?_)
    refine .cn rfl (fun hc1 => ?_) (fun hc1 => ?_)
    · skip
      refine .seq (.region ?_)
      refine .w (.assign rfl) ?_
      refine .nil (.tn (.ret (.then_ret ?_)))
      exact .dn [] [Res.cells c [sv, .map (some am)] 62, Res.row sv S.length 30 1 (S.map u64), mpR am uK hcV M, Res.sep (hsL S M)] (res1 rfl (.tmp rfl)) ⟨M, 31, HearP.bad hM hbad, rfl, rfl, rfl⟩
    · exact absurd hc1 hbad

theorem f10C_spec (c am : Nat) (sv : Value) (S : List W64) (M : MM (BitVec 64) HC) (hM : COk S M) (h1 : 1 ≤ S.length) (h2 : S.length ≤ 40) (h3 : sumS S < 9223372036854775808) (xw : Int) (xv : Value) (b : B8) (hb : b.length ≤ 100000) (hu : unE b = 0) (hg : M.get (unH b) = none) (hl : 20 ≤ M.es.length) :
    Spec Tryz.prog 10 #[(ptr c 0), (.agg #[u64 (unH b), it xw, xv])] [Res.var 3 (sqr.map u32), Res.var 2 (cub.map u32), Res.var 0 [u64 9223372036854775808, u64 0, u64 0, u64 0], Res.rd xv b.length 1 (b.map u8)] [Res.cells c [sv, .map (some am)] 62, Res.row sv S.length 30 1 (S.map u64), mpR am uK hcV M, Res.sep (hsL S M)]
      (fun r Γ' H' => ∃ M' e, HearP S M (unH b) xw b M' e ∧ r = it e ∧ Γ' = [] ∧ H' = [Res.cells c [sv, .map (some am)] 62, Res.row sv S.length 30 1 (S.map u64), mpR am uK hcV M', Res.sep (hsL S M')]) := by
  refine Spec.of_args Tryz.func10 rfl Tryz.ntmps10 (by simp) fun w => ?_
  refine JC.know (φ := xv.oneCell' = true) (fun w hs => by obtain ⟨A, c, rfl, _⟩ := hs.rdForm (.tail _ (.tail _ (.tail _ (.head _)))); rfl) fun hxv => ?_
  refine .seq (.region ?_)
  refine .bx fun b3 => ?_
  refine .w (.assign rfl) ?_
  refine .nil (.tn (.seq (.region ?_)))
  refine .w (.fieldAddr fa_33_2 rfl) ?_
  refine .w (.ld one_23 rfl) ?_
  refine .cs (f24_spec xv b (by omega)) body_24 ?_
  rintro _ _ _ ⟨xl, N, hN, rfl, rfl, rfl⟩
  refine .ap ?_
  refine .ap ?_
  refine .w (.move rfl) ?_
  refine .w (.extract rfl rfl) ?_
  refine .w (.extract rfl rfl) ?_
  refine .w (.extract rfl rfl) ?_
  refine .w (.assign rfl) ?_
  refine .w (.assign rfl) ?_
  refine .w (.assign rfl) ?_
  refine .nil (.tn (.seq (.seq (.region ?_))))
  refine .w (.move rfl) ?_
  refine .w (.bin rfl rfl BinR.neq_i) ?_
  refine .w (.move rfl) ?_
  refine .join 5 28 (.bool (decide (¬ (unE b = 0 ∧ unH b = (unH b))))) ?_ ?_
  · refine .gn (g := 22) rfl (fun hg16 hg16' => ?_) (fun hg16 hg16' => ?_)
    · refine .gf (g := 23) rfl rfl hg16 (by decide) ?_
      refine .gf (g := 23) rfl rfl hg16 (by decide) ?_
      refine .gf (g := 23) rfl rfl hg16 (by decide) ?_
      refine .gf (g := 23) rfl rfl hg16 (by decide) ?_
      refine .w (.pick1 rfl hg16 rfl) ?_
      refine .nil ?_
      refine .head () (by first | (refine ⟨by first | rfl | exact congrArg (fun b => some (Value.bool b)) (by simp_all; done), ?_⟩; repeat (first | exact trivial | refine ⟨rfl, ?_⟩))) (fun _ h => h) (Picks.perm zqd) ?_
      trivial
    · refine .gt (g := 23) rfl rfl hg16 ?_
      refine .w (.move rfl) ?_
      refine .gt (g := 23) rfl rfl hg16 ?_
      refine .w (.fieldAddr fa_33_0 rfl) ?_
      refine .gt (g := 23) rfl rfl hg16 ?_
      refine .w (.ld one_30 rfl) ?_
      refine .gt (g := 23) rfl rfl hg16 ?_
      refine .w (.bin rfl rfl (BinR.neq_u64)) ?_
      refine .w (.pick0 rfl hg16 rfl) ?_
      refine .nil ?_
      refine .head () (by first | (refine ⟨by first | rfl | exact congrArg (fun b => some (Value.bool b)) (by simp_all; done), ?_⟩; repeat (first | exact trivial | refine ⟨rfl, ?_⟩))) (fun _ h => h) (Picks.perm zqd) ?_
      trivial
  · refine .nil (.tn ?_)
    refine .cn rfl (fun hc1 => ?_) (fun hc1 => ?_)
    · exact absurd ⟨hu, rfl⟩ hc1
    · refine .skip (.tn (.seq (.region ?_)))
      refine .w (.move rfl) ?_
      refine .w (.nilCheck rfl) ?_
      refine .w (.fieldAddr fa_62_1 rfl) ?_
      refine .w (.ld one_60 rfl) ?_
      refine .w (.move rfl) ?_
      refine .w (.as (v' := .tuple #[hcZ, .bool false]) (.lk2 (unH b) Tryz.underlying60 mkey_60 zf_69) (by rw [hg]; rfl)) ?_
      refine .w (.move rfl) ?_
      refine .w (.as (v' := hcZ) (.extract rfl rfl) rfl) ?_
      refine .w (.extract rfl rfl) ?_
      refine .al zero_69 fun b8 => ?_
      refine .sa sz_69 ?_ (h1 := (by intro a ha; simp only [List.mem_cons, List.not_mem_nil, or_false] at ha; rcases ha with rfl | rfl <;> rfl))
      refine .w (.assign rfl) ?_
      refine .nil (.tn (.seq (.seq (.region ?_))))
      refine .w (.move rfl) ?_
      refine .w (.as (v' := .bool true) (.not rfl) rfl) ?_
      refine .nil (.tn ?_)
      refine .ct rfl ?_
      refine .seq (.seq (.region ?_))
      refine .w (.move rfl) ?_
      refine .w (.nilCheck rfl) ?_
      refine .w (.fieldAddr fa_62_1 rfl) ?_
      refine .w (.ld one_60 rfl) ?_
      refine .w (.len_m Tryz.underlying60 rfl) ?_
      refine .w (.bin rfl rfl BinR.geq_i) ?_
      refine .nil (.tn ?_)
      refine .cn rfl (fun hc3 => ?_) (fun hc3 => ?_)
      · skip
        refine .seq (.region ?_)
        refine .w (.assign rfl) ?_
        refine .nil (.tn (.ret (.then_ret (.then_ret ?_))))
        exact .dn [] [Res.cells c [sv, .map (some am)] 62, Res.row sv S.length 30 1 (S.map u64), mpR am uK hcV M, Res.sep (hsL S M)] (res1 rfl (.tmp rfl)) ⟨M, 52, HearP.full hM hu hg hl, rfl, rfl, rfl⟩
      · exact absurd hc3 (by omega)

theorem f10A_spec (c am : Nat) (sv : Value) (S : List W64) (M : MM (BitVec 64) HC) (hM : COk S M) (h1 : 1 ≤ S.length) (h2 : S.length ≤ 40) (h3 : sumS S < 9223372036854775808) (xw : Int) (xv : Value) (b : B8) (hb : b.length ≤ 100000) (hu : unE b = 0) (hc : HC) (hg : M.get (unH b) = some hc) :
    Spec Tryz.prog 10 #[(ptr c 0), (.agg #[u64 (unH b), it xw, xv])] [Res.var 3 (sqr.map u32), Res.var 2 (cub.map u32), Res.var 0 [u64 9223372036854775808, u64 0, u64 0, u64 0], Res.rd xv b.length 1 (b.map u8)] [Res.cells c [sv, .map (some am)] 62, Res.row sv S.length 30 1 (S.map u64), mpR am uK hcV M, Res.sep (hsL S M)]
      (fun r Γ' H' => ∃ M' e, HearP S M (unH b) xw b M' e ∧ r = it e ∧ Γ' = [] ∧ H' = [Res.cells c [sv, .map (some am)] 62, Res.row sv S.length 30 1 (S.map u64), mpR am uK hcV M', Res.sep (hsL S M')]) := by
  refine Spec.of_args Tryz.func10 rfl Tryz.ntmps10 (by simp) fun w => ?_
  refine JC.know (φ := xv.oneCell' = true) (fun w hs => by obtain ⟨A, c, rfl, _⟩ := hs.rdForm (.tail _ (.tail _ (.tail _ (.head _)))); rfl) fun hxv => ?_
  refine .seq (.region ?_)
  refine .bx fun b3 => ?_
  refine .w (.assign rfl) ?_
  refine .nil (.tn (.seq (.region ?_)))
  refine .w (.fieldAddr fa_33_2 rfl) ?_
  refine .w (.ld one_23 rfl) ?_
  refine .cs (f24_spec xv b (by omega)) body_24 ?_
  rintro _ _ _ ⟨xl, N, hN, rfl, rfl, rfl⟩
  refine .ap ?_
  refine .ap ?_
  refine .w (.move rfl) ?_
  refine .w (.extract rfl rfl) ?_
  refine .w (.extract rfl rfl) ?_
  refine .w (.extract rfl rfl) ?_
  refine .w (.assign rfl) ?_
  refine .w (.assign rfl) ?_
  refine .w (.assign rfl) ?_
  refine .nil (.tn (.seq (.seq (.region ?_))))
  refine .w (.move rfl) ?_
  refine .w (.bin rfl rfl BinR.neq_i) ?_
  refine .w (.move rfl) ?_
  refine .join 5 28 (.bool (decide (¬ (unE b = 0 ∧ unH b = (unH b))))) ?_ ?_
  · refine .gn (g := 22) rfl (fun hg16 hg16' => ?_) (fun hg16 hg16' => ?_)
    · refine .gf (g := 23) rfl rfl hg16 (by decide) ?_
      refine .gf (g := 23) rfl rfl hg16 (by decide) ?_
      refine .gf (g := 23) rfl rfl hg16 (by decide) ?_
      refine .gf (g := 23) rfl rfl hg16 (by decide) ?_
      refine .w (.pick1 rfl hg16 rfl) ?_
      refine .nil ?_
      refine .head () (by first | (refine ⟨by first | rfl | exact congrArg (fun b => some (Value.bool b)) (by simp_all; done), ?_⟩; repeat (first | exact trivial | refine ⟨rfl, ?_⟩))) (fun _ h => h) (Picks.perm zqd) ?_
      trivial
    · refine .gt (g := 23) rfl rfl hg16 ?_
      refine .w (.move rfl) ?_
      refine .gt (g := 23) rfl rfl hg16 ?_
      refine .w (.fieldAddr fa_33_0 rfl) ?_
      refine .gt (g := 23) rfl rfl hg16 ?_
      refine .w (.ld one_30 rfl) ?_
      refine .gt (g := 23) rfl rfl hg16 ?_
      refine .w (.bin rfl rfl (BinR.neq_u64)) ?_
      refine .w (.pick0 rfl hg16 rfl) ?_
      refine .nil ?_
      refine .head () (by first | (refine ⟨by first | rfl | exact congrArg (fun b => some (Value.bool b)) (by simp_all; done), ?_⟩; repeat (first | exact trivial | refine ⟨rfl, ?_⟩))) (fun _ h => h) (Picks.perm zqd) ?_
      trivial
  · refine .nil (.tn ?_)
    refine .cn rfl (fun hc1 => ?_) (fun hc1 => ?_)
    · exact absurd ⟨hu, rfl⟩ hc1
    · refine .skip (.tn (.seq (.region ?_)))
      refine .w (.move rfl) ?_
      refine .w (.nilCheck rfl) ?_
      refine .w (.fieldAddr fa_62_1 rfl) ?_
      refine .w (.ld one_60 rfl) ?_
      refine .w (.move rfl) ?_
      refine .w (.as (v' := .tuple #[hcV hc, .bool true]) (.lk2 (unH b) Tryz.underlying60 mkey_60 zf_69) (by rw [hg]; rfl)) ?_
      refine .w (.move rfl) ?_
      refine .w (.as (v' := hcV hc) (.extract rfl rfl) rfl) ?_
      refine .w (.extract rfl rfl) ?_
      refine .al zero_69 fun b8 => ?_
      refine .sa sz_69 ?_ (h1 := (by intro a ha; simp only [List.mem_cons, List.not_mem_nil, or_false] at ha; rcases ha with rfl | rfl <;> rfl))
      refine .w (.assign rfl) ?_
      refine .nil (.tn (.seq (.seq (.region ?_))))
      refine .w (.move rfl) ?_
      refine .w (.as (v' := .bool false) (.not rfl) rfl) ?_
      refine .nil (.tn ?_)
      refine .cf rfl ?_
      refine .skip (.tn (.seq (.region ?_)))
      refine .w (.fieldAddr fa_33_2 rfl) ?_
      refine .w (.ld one_23 rfl) ?_
      refine .c (name_dig xv b hb) body_25 ?_
      refine .al zero_53 fun b10 => ?_
      refine .sa sz_53 ?_
      refine .nil (.tn (.seq (.seq (.region ?_))))
      refine .w (.fieldAddr fa_69_0 rfl) ?_
      refine .w (.ld one_56 rfl) ?_
      refine .w (.fieldAddr fa_33_1 rfl) ?_
      refine .w (.ld one_3 rfl) ?_
      refine .w (.as (v' := dgV (nm b)) (.lda agg_53 rfl) rfl) ?_
      obtain ⟨L0, hp1, hp2⟩ := MM.out hg (hcR S)
      refine .us (A := [hcR S hc]) (B := L0) (L := hsL S M) hp1 ?_
      refine .us (A := [Res.cells hc.p [hc.sv, u64 (BitVec.ofNat 64 (sumS S)), .map (some hc.va), .map (some hc.ta)] 93, Res.row hc.sv S.length 30 1 (S.map u64), mpR hc.va itK dgV hc.votes, mpR hc.ta itK blV hc.tw, mpR hc.bm dgV slV hc.bl, Res.sep (hc.bl.es.map rowE)]) (B := []) (L := hcL S hc) (by rw [List.append_nil]; exact List.Perm.refl _) ?_
      refine .cb (f26_spec hc.p hc.va hc.ta hc.sv (BitVec.ofNat 64 (sumS S)) S hc.votes hc.tw xw (nm b) (hM.each _ _ hg).1.tok (by omega)) body_26 ?_ (h0 := by rintro _ _ _ ⟨_, _, _, _, _, _, _, h, _⟩; exact h)
      rintro _ _ ⟨m2, tw2, rfl, htk, hm2, htw, htw2, _, rfl⟩
      refine .ap ?_
      refine .w (.assign rfl) ?_
      refine .nil (.tn (.seq (.region ?_)))
      refine .w (.move rfl) ?_
      refine .w (.bin rfl rfl BinR.neq_i) ?_
      refine .nil (.tn ?_)
      refine .cn rfl (fun hc4 => ?_) (fun hc4 => ?_)
      · skip
        refine .seq (.region ?_)
        refine .w (.move rfl) ?_
        refine .w (.assign rfl) ?_
        refine .nil (.tn (.ret (.then_ret ?_)))
        obtain rfl : m2 = hc.votes := by rw [hm2, if_neg hc4]
        refine .rs (A := [Res.cells hc.p [hc.sv, u64 (BitVec.ofNat 64 (sumS S)), .map (some hc.va), .map (some hc.ta)] 93, Res.row hc.sv S.length 30 1 (S.map u64), mpR hc.va itK dgV hc.votes, mpR hc.ta itK blV tw2, mpR hc.bm dgV slV hc.bl, Res.sep (hc.bl.es.map rowE)]) (B := []) (L := hcL S (⟨hc.p, hc.bm, hc.va, hc.ta, hc.sv, hc.votes, tw2, hc.bl⟩ : HC)) (by rw [List.append_nil]; exact List.Perm.refl _) ?_
        refine .rs (A := [hcR S (⟨hc.p, hc.bm, hc.va, hc.ta, hc.sv, hc.votes, tw2, hc.bl⟩ : HC)]) (B := L0) (L := hsL S (M.put (unH b) (⟨hc.p, hc.bm, hc.va, hc.ta, hc.sv, hc.votes, tw2, hc.bl⟩ : HC))) (hp2 (⟨hc.p, hc.bm, hc.va, hc.ta, hc.sv, hc.votes, tw2, hc.bl⟩ : HC)) ?_
        exact .dn [] [Res.cells c [sv, .map (some am)] 62, Res.row sv S.length 30 1 (S.map u64), mpR am uK hcV M, Res.sep (hsL S (M.put (unH b) (⟨hc.p, hc.bm, hc.va, hc.ta, hc.sv, hc.votes, tw2, hc.bl⟩ : HC)))] (res1 rfl (.tmp rfl)) ⟨M.put (unH b) (⟨hc.p, hc.bm, hc.va, hc.ta, hc.sv, hc.votes, tw2, hc.bl⟩ : HC), _, HearP.refS hM hu hg (htw (hM.each _ _ hg).1.tw) hc4, rfl, rfl, by rw [mp_like hg (rfl : hcV (⟨hc.p, hc.bm, hc.va, hc.ta, hc.sv, hc.votes, tw2, hc.bl⟩ : HC) = hcV hc)]⟩
      · have hv0 : voteE S hc.votes.get xw (nm b) = 0 := by simpa using hc4
        obtain rfl : m2 = (hc.votes.put xw (nm b)) := by rw [hm2, if_pos hv0]
        obtain rfl : tw2 = hc.tw := by rw [htw2, if_neg (by rw [hv0]; decide)]
        refine .skip (.tn (.seq (.seq (.region ?_))))
        refine .w (.fieldAddr fa_69_1 rfl) ?_
        refine .w (.ld one_67 rfl) ?_
        refine .w (.as (v' := dgV (nm b)) (.lda agg_53 rfl) rfl) ?_
        refine .w (.lk2 (nm b) Tryz.underlying67 mkey_67 zf_23) ?_
        refine .w (.move rfl) ?_
        refine .w (.extract rfl rfl) ?_
        refine .w (.extract rfl rfl) ?_
        refine .w (.assign rfl) ?_
        refine .w (.assign rfl) ?_
        refine .nil (.tn (.seq (.region ?_)))
        refine .w (.move rfl) ?_
        refine .w (.not rfl) ?_
        refine .nil (.tn ?_)
        refine .cn rfl (fun hc5 => ?_) (fun hc5 => ?_)
        · skip
          refine JC.draw (.one 0 (.one 1 (.one 2 (.one 3 (.one 4 (.one 5 (.one 6 .nil))))))) (fun i => ([6] : List Nat).contains i) (fun i => ([5, 6] : List Nat).contains i) (fun i => ([0, 3] : List Nat).contains i) mixed (by kernel_rfl) (by decide) (by kernel_rfl) ?_
          refine .uw rfl (.fieldAddr fa_69_1 rfl) ?_
          refine .w rfl (.ld one_67 rfl) ?_
          refine .w rfl (.as (v' := dgV (nm b)) (.lda agg_53 rfl) rfl) ?_
          refine .uw rfl (.fieldAddr fa_33_2 rfl) ?_
          refine .w rfl (.ld one_23 rfl) ?_
          refine .mw rfl (.cb (f27_spec xv b.length (b.map u8) (by omega) one_u8s) body_27) ?_
          rintro v83 _ _ ⟨_, ⟨_, _, rfl⟩, hΓ, hH⟩
          simp only [List.cons_append, List.nil_append] at hH; subst hΓ hH
          refine kp ?_
          refine .mw0 rfl (.mu (nm b) (v83, b) Tryz.underlying67 mkey_67) ?_
          rintro _ _ _ ⟨rfl, rfl⟩
          refine kp ?_
          have hb0 : hc.bl.get (nm b) = none := by simpa using hc5
          obtain ⟨blx, hblx⟩ : ∃ x, x = hc.bl.put (nm b) (v83, b) := ⟨_, rfl⟩
          refine .rs (A := [Res.row v83 b.length 5 1 (b.map u8)]) (B := hc.bl.es.map rowE) (L := blx.es.map rowE) (by rw [hblx, show (hc.bl.put (nm b) (v83, b)).es = hc.bl.es ++ [(nm b, (v83, b), hc.bl.ck)] from MM.setL_none hb0, List.map_append]; exact List.perm_append_singleton _ _) ?_
          rw [← hblx]
          have hae : ∃ vx, HC.add (⟨hc.p, hc.bm, hc.va, hc.ta, hc.sv, hc.votes, hc.tw, hc.bl⟩ : HC) xw vx b = (⟨hc.p, hc.bm, hc.va, hc.ta, hc.sv, (hc.votes.put xw (nm b)), hc.tw, blx⟩ : HC) := ⟨v83, by unfold HC.add; rw [hblx, if_neg (by rw [hb0]; decide)]⟩
          refine .nil (.tn (.seq ?_))
          refine JC.draw (.one 0 (.one 1 (.one 2 (.one 3 (.one 4 (.one 5 (.one 6 .nil))))))) (fun i => ([6] : List Nat).contains i) (fun i => ([6] : List Nat).contains i) (fun i => ([0, 1, 2, 4] : List Nat).contains i) mixed (by kernel_rfl) (by decide) (by kernel_rfl) ?_
          refine .uw rfl (.move rfl) ?_
          refine .uw rfl (.nilCheck rfl) ?_
          refine .uw rfl (.fieldAddr fa_62_1 rfl) ?_
          refine .w rfl (.ld one_60 rfl) ?_
          refine .uw rfl (.move rfl) ?_
          refine .w rfl (.lda agg_69 rfl) ?_
          refine .mw0 rfl (.mu (unH b) (⟨hc.p, hc.bm, hc.va, hc.ta, hc.sv, (hc.votes.put xw (nm b)), hc.tw, blx⟩ : HC) Tryz.underlying60 mkey_60) ?_
          rintro _ _ _ ⟨rfl, rfl⟩
          refine kp ?_
          refine .nil (.tn (.seq (.region ?_)))
          refine .w (.assign rfl) ?_
          refine .nil (.tn (.ret ?_))
          obtain ⟨vx, hae⟩ := hae
          refine .rs (A := [Res.cells hc.p [hc.sv, u64 (BitVec.ofNat 64 (sumS S)), .map (some hc.va), .map (some hc.ta)] 93, Res.row hc.sv S.length 30 1 (S.map u64), mpR hc.va itK dgV (hc.votes.put xw (nm b)), mpR hc.ta itK blV hc.tw, mpR hc.bm dgV slV blx, Res.sep (blx.es.map rowE)]) (B := []) (L := hcL S (⟨hc.p, hc.bm, hc.va, hc.ta, hc.sv, (hc.votes.put xw (nm b)), hc.tw, blx⟩ : HC)) (by rw [List.append_nil]; exact List.Perm.refl _) ?_
          refine .rs (A := [hcR S (⟨hc.p, hc.bm, hc.va, hc.ta, hc.sv, (hc.votes.put xw (nm b)), hc.tw, blx⟩ : HC)]) (B := L0) (L := hsL S (M.put (unH b) (⟨hc.p, hc.bm, hc.va, hc.ta, hc.sv, (hc.votes.put xw (nm b)), hc.tw, blx⟩ : HC))) (hp2 (⟨hc.p, hc.bm, hc.va, hc.ta, hc.sv, (hc.votes.put xw (nm b)), hc.tw, blx⟩ : HC)) ?_
          exact .dn [] [Res.cells c [sv, .map (some am)] 62, Res.row sv S.length 30 1 (S.map u64), mpR am uK hcV (M.put (unH b) (⟨hc.p, hc.bm, hc.va, hc.ta, hc.sv, (hc.votes.put xw (nm b)), hc.tw, blx⟩ : HC)), Res.sep (hsL S (M.put (unH b) (⟨hc.p, hc.bm, hc.va, hc.ta, hc.sv, (hc.votes.put xw (nm b)), hc.tw, blx⟩ : HC)))] (res1 rfl (.tmp rfl)) ⟨M.put (unH b) (⟨hc.p, hc.bm, hc.va, hc.ta, hc.sv, (hc.votes.put xw (nm b)), hc.tw, blx⟩ : HC), 0, by rw [← hae]; exact HearP.addS hM hu hg vx hv0, rfl, rfl, rfl⟩
        · have hb1 : (hc.bl.get (nm b)).isSome = true := by simpa using hc5
          obtain ⟨blx, hblx⟩ : ∃ x, x = hc.bl := ⟨_, rfl⟩
          have hae : ∃ vx, HC.add (⟨hc.p, hc.bm, hc.va, hc.ta, hc.sv, hc.votes, hc.tw, hc.bl⟩ : HC) xw vx b = (⟨hc.p, hc.bm, hc.va, hc.ta, hc.sv, (hc.votes.put xw (nm b)), hc.tw, blx⟩ : HC) := ⟨.slice none 0 0, by unfold HC.add; rw [hblx, if_pos hb1]⟩
          rw [← hblx]
          refine .skip (.tn (.seq ?_))
          refine JC.draw (.one 0 (.one 1 (.one 2 (.one 3 (.one 4 (.one 5 (.one 6 .nil))))))) (fun i => ([6] : List Nat).contains i) (fun i => ([6] : List Nat).contains i) (fun i => ([0, 1, 2, 4] : List Nat).contains i) mixed (by kernel_rfl) (by decide) (by kernel_rfl) ?_
          refine .uw rfl (.move rfl) ?_
          refine .uw rfl (.nilCheck rfl) ?_
          refine .uw rfl (.fieldAddr fa_62_1 rfl) ?_
          refine .w rfl (.ld one_60 rfl) ?_
          refine .uw rfl (.move rfl) ?_
          refine .w rfl (.lda agg_69 rfl) ?_
          refine .mw0 rfl (.mu (unH b) (⟨hc.p, hc.bm, hc.va, hc.ta, hc.sv, (hc.votes.put xw (nm b)), hc.tw, blx⟩ : HC) Tryz.underlying60 mkey_60) ?_
          rintro _ _ _ ⟨rfl, rfl⟩
          refine kp ?_
          refine .nil (.tn (.seq (.region ?_)))
          refine .w (.assign rfl) ?_
          refine .nil (.tn (.ret ?_))
          obtain ⟨vx, hae⟩ := hae
          refine .rs (A := [Res.cells hc.p [hc.sv, u64 (BitVec.ofNat 64 (sumS S)), .map (some hc.va), .map (some hc.ta)] 93, Res.row hc.sv S.length 30 1 (S.map u64), mpR hc.va itK dgV (hc.votes.put xw (nm b)), mpR hc.ta itK blV hc.tw, mpR hc.bm dgV slV blx, Res.sep (blx.es.map rowE)]) (B := []) (L := hcL S (⟨hc.p, hc.bm, hc.va, hc.ta, hc.sv, (hc.votes.put xw (nm b)), hc.tw, blx⟩ : HC)) (by rw [List.append_nil]; exact List.Perm.refl _) ?_
          refine .rs (A := [hcR S (⟨hc.p, hc.bm, hc.va, hc.ta, hc.sv, (hc.votes.put xw (nm b)), hc.tw, blx⟩ : HC)]) (B := L0) (L := hsL S (M.put (unH b) (⟨hc.p, hc.bm, hc.va, hc.ta, hc.sv, (hc.votes.put xw (nm b)), hc.tw, blx⟩ : HC))) (hp2 (⟨hc.p, hc.bm, hc.va, hc.ta, hc.sv, (hc.votes.put xw (nm b)), hc.tw, blx⟩ : HC)) ?_
          exact .dn [] [Res.cells c [sv, .map (some am)] 62, Res.row sv S.length 30 1 (S.map u64), mpR am uK hcV (M.put (unH b) (⟨hc.p, hc.bm, hc.va, hc.ta, hc.sv, (hc.votes.put xw (nm b)), hc.tw, blx⟩ : HC)), Res.sep (hsL S (M.put (unH b) (⟨hc.p, hc.bm, hc.va, hc.ta, hc.sv, (hc.votes.put xw (nm b)), hc.tw, blx⟩ : HC)))] (res1 rfl (.tmp rfl)) ⟨M.put (unH b) (⟨hc.p, hc.bm, hc.va, hc.ta, hc.sv, (hc.votes.put xw (nm b)), hc.tw, blx⟩ : HC), 0, by rw [← hae]; exact HearP.addS hM hu hg vx hv0, rfl, rfl, rfl⟩

theorem f10B_spec (c am : Nat) (sv : Value) (S : List W64) (M : MM (BitVec 64) HC) (hM : COk S M) (h1 : 1 ≤ S.length) (h2 : S.length ≤ 40) (h3 : sumS S < 9223372036854775808) (xw : Int) (xv : Value) (b : B8) (hb : b.length ≤ 100000) (hu : unE b = 0) (hg : M.get (unH b) = none) (hl : M.es.length < 20) :
    Spec Tryz.prog 10 #[(ptr c 0), (.agg #[u64 (unH b), it xw, xv])] [Res.var 3 (sqr.map u32), Res.var 2 (cub.map u32), Res.var 0 [u64 9223372036854775808, u64 0, u64 0, u64 0], Res.rd xv b.length 1 (b.map u8)] [Res.cells c [sv, .map (some am)] 62, Res.row sv S.length 30 1 (S.map u64), mpR am uK hcV M, Res.sep (hsL S M)]
      (fun r Γ' H' => ∃ M' e, HearP S M (unH b) xw b M' e ∧ r = it e ∧ Γ' = [] ∧ H' = [Res.cells c [sv, .map (some am)] 62, Res.row sv S.length 30 1 (S.map u64), mpR am uK hcV M', Res.sep (hsL S M')]) := by
  refine Spec.of_args Tryz.func10 rfl Tryz.ntmps10 (by simp) fun w => ?_
  refine JC.know (φ := xv.oneCell' = true) (fun w hs => by obtain ⟨A, c, rfl, _⟩ := hs.rdForm (.tail _ (.tail _ (.tail _ (.head _)))); rfl) fun hxv => ?_
  refine .seq (.region ?_)
  refine .bx fun b3 => ?_
  refine .w (.assign rfl) ?_
  refine .nil (.tn (.seq (.region ?_)))
  refine .w (.fieldAddr fa_33_2 rfl) ?_
  refine .w (.ld one_23 rfl) ?_
  refine .cs (f24_spec xv b (by omega)) body_24 ?_
  rintro _ _ _ ⟨xl, N, hN, rfl, rfl, rfl⟩
  refine .ap ?_
  refine .ap ?_
  refine .w (.move rfl) ?_
  refine .w (.extract rfl rfl) ?_
  refine .w (.extract rfl rfl) ?_
  refine .w (.extract rfl rfl) ?_
  refine .w (.assign rfl) ?_
  refine .w (.assign rfl) ?_
  refine .w (.assign rfl) ?_
  refine .nil (.tn (.seq (.seq (.region ?_))))
  refine .w (.move rfl) ?_
  refine .w (.bin rfl rfl BinR.neq_i) ?_
  refine .w (.move rfl) ?_
  refine .join 5 28 (.bool (decide (¬ (unE b = 0 ∧ unH b = (unH b))))) ?_ ?_
  · refine .gn (g := 22) rfl (fun hg16 hg16' => ?_) (fun hg16 hg16' => ?_)
    · refine .gf (g := 23) rfl rfl hg16 (by decide) ?_
      refine .gf (g := 23) rfl rfl hg16 (by decide) ?_
      refine .gf (g := 23) rfl rfl hg16 (by decide) ?_
      refine .gf (g := 23) rfl rfl hg16 (by decide) ?_
      refine .w (.pick1 rfl hg16 rfl) ?_
      refine .nil ?_
      refine .head () (by first | (refine ⟨by first | rfl | exact congrArg (fun b => some (Value.bool b)) (by simp_all; done), ?_⟩; repeat (first | exact trivial | refine ⟨rfl, ?_⟩))) (fun _ h => h) (Picks.perm zqd) ?_
      trivial
    · refine .gt (g := 23) rfl rfl hg16 ?_
      refine .w (.move rfl) ?_
      refine .gt (g := 23) rfl rfl hg16 ?_
      refine .w (.fieldAddr fa_33_0 rfl) ?_
      refine .gt (g := 23) rfl rfl hg16 ?_
      refine .w (.ld one_30 rfl) ?_
      refine .gt (g := 23) rfl rfl hg16 ?_
      refine .w (.bin rfl rfl (BinR.neq_u64)) ?_
      refine .w (.pick0 rfl hg16 rfl) ?_
      refine .nil ?_
      refine .head () (by first | (refine ⟨by first | rfl | exact congrArg (fun b => some (Value.bool b)) (by simp_all; done), ?_⟩; repeat (first | exact trivial | refine ⟨rfl, ?_⟩))) (fun _ h => h) (Picks.perm zqd) ?_
      trivial
  · refine .nil (.tn ?_)
    refine .cn rfl (fun hc1 => ?_) (fun hc1 => ?_)
    · exact absurd ⟨hu, rfl⟩ hc1
    · refine .skip (.tn (.seq (.region ?_)))
      refine .w (.move rfl) ?_
      refine .w (.nilCheck rfl) ?_
      refine .w (.fieldAddr fa_62_1 rfl) ?_
      refine .w (.ld one_60 rfl) ?_
      refine .w (.move rfl) ?_
      refine .w (.as (v' := .tuple #[hcZ, .bool false]) (.lk2 (unH b) Tryz.underlying60 mkey_60 zf_69) (by rw [hg]; rfl)) ?_
      refine .w (.move rfl) ?_
      refine .w (.as (v' := hcZ) (.extract rfl rfl) rfl) ?_
      refine .w (.extract rfl rfl) ?_
      refine .al zero_69 fun b8 => ?_
      refine .sa sz_69 ?_ (h1 := (by intro a ha; simp only [List.mem_cons, List.not_mem_nil, or_false] at ha; rcases ha with rfl | rfl <;> rfl))
      refine .w (.assign rfl) ?_
      refine .nil (.tn (.seq (.seq (.region ?_))))
      refine .w (.move rfl) ?_
      refine .w (.as (v' := .bool true) (.not rfl) rfl) ?_
      refine .nil (.tn ?_)
      refine .ct rfl ?_
      refine .seq (.seq (.region ?_))
      refine .w (.move rfl) ?_
      refine .w (.nilCheck rfl) ?_
      refine .w (.fieldAddr fa_62_1 rfl) ?_
      refine .w (.ld one_60 rfl) ?_
      refine .w (.len_m Tryz.underlying60 rfl) ?_
      refine .w (.bin rfl rfl BinR.geq_i) ?_
      refine .nil (.tn ?_)
      refine .cn rfl (fun hc3 => ?_) (fun hc3 => ?_)
      · exact absurd hc3 (by omega)
      · refine .skip (.tn (.seq (.region ?_)))
        refine .w (.move rfl) ?_
        refine .w (.nilCheck rfl) ?_
        refine .w (.fieldAddr fa_62_0 rfl) ?_
        refine .w (.ld one_22 rfl) ?_
        refine .cb (f21ok_spec sv S h1 h2 h3) body_21 ?_ (h0 := by rintro _ _ _ ⟨_, _, _, _, _, h, _⟩; exact h)
        rintro _ _ ⟨p1, a1, b1, sv1, rfl, _, rfl⟩
        refine .ap ?_
        refine .w (.move rfl) ?_
        refine .w (.extract rfl rfl) ?_
        refine .w (.extract rfl rfl) ?_
        refine .w (.fieldAddr fa_69_0 rfl) ?_
        first | refine .s1 sz_56 ?_ | refine .sr1 sz_56 ?_
        refine .nil (.tn (.region ?_))
        refine .mm dgV slV fun b55 => ?_
        refine .w (.fieldAddr fa_69_1 rfl) ?_
        first | refine .s1 sz_67 ?_ | refine .sr1 sz_67 ?_
        refine .nil (.tn (.seq (.region ?_)))
        refine .w (.fieldAddr fa_33_2 rfl) ?_
        refine .w (.ld one_23 rfl) ?_
        refine .c (name_dig xv b hb) body_25 ?_
        refine .al zero_53 fun b10 => ?_
        refine .sa sz_53 ?_
        refine .nil (.tn (.seq (.seq (.region ?_))))
        refine .w (.fieldAddr fa_69_0 rfl) ?_
        refine .w (.ld one_56 rfl) ?_
        refine .w (.fieldAddr fa_33_1 rfl) ?_
        refine .w (.ld one_3 rfl) ?_
        refine .w (.as (v' := dgV (nm b)) (.lda agg_53 rfl) rfl) ?_
        refine .sp0 ?_
        refine .sp0 ?_
        refine .cb (f26_spec p1 a1 b1 sv1 (BitVec.ofNat 64 (sumS S)) S MM.nil MM.nil xw (nm b) (tok_nil S) (by omega)) body_26 ?_ (h0 := by rintro _ _ _ ⟨_, _, _, _, _, _, _, h, _⟩; exact h)
        rintro _ _ ⟨m2, tw2, rfl, htk, hm2, htw, htw2, _, rfl⟩
        refine .ap ?_
        refine .w (.assign rfl) ?_
        refine .nil (.tn (.seq (.region ?_)))
        refine .w (.move rfl) ?_
        refine .w (.bin rfl rfl BinR.neq_i) ?_
        refine .nil (.tn ?_)
        refine .cn rfl (fun hc4 => ?_) (fun hc4 => ?_)
        · skip
          refine .seq (.region ?_)
          refine .w (.move rfl) ?_
          refine .w (.assign rfl) ?_
          refine .nil (.tn (.ret (.then_ret ?_)))
          exact .dn [] [Res.cells c [sv, .map (some am)] 62, Res.row sv S.length 30 1 (S.map u64), mpR am uK hcV M, Res.sep (hsL S M)] (res1 rfl (.tmp rfl)) ⟨M, _, HearP.refN hM hu hg hl hc4, rfl, rfl, rfl⟩
        · have hv0 : voteE S (MM.nil : MM Int D32).get xw (nm b) = 0 := by simpa using hc4
          obtain rfl : m2 = ((MM.nil : MM Int D32).put xw (nm b)) := by rw [hm2, if_pos hv0]
          obtain rfl : tw2 = (MM.nil : MM Int Bool) := by rw [htw2, if_neg (by rw [hv0]; decide)]
          refine .skip (.tn (.seq (.seq (.region ?_))))
          refine .w (.fieldAddr fa_69_1 rfl) ?_
          refine .w (.ld one_67 rfl) ?_
          refine .w (.as (v' := dgV (nm b)) (.lda agg_53 rfl) rfl) ?_
          refine .w (.as (v' := .tuple #[.slice none 0 0, .bool false]) (.lk2 (nm b) Tryz.underlying67 mkey_67 zf_23) rfl) ?_
          refine .w (.move rfl) ?_
          refine .w (.extract rfl rfl) ?_
          refine .w (.extract rfl rfl) ?_
          refine .w (.assign rfl) ?_
          refine .w (.assign rfl) ?_
          refine .nil (.tn (.seq (.region ?_)))
          refine .w (.move rfl) ?_
          refine .w (.not rfl) ?_
          refine .nil (.tn ?_)
          refine .ct rfl ?_
          refine JC.draw (.one 0 (.one 1 (.one 2 (.one 3 (.one 4 (.one 5 (.one 6 .nil))))))) (fun i => ([6] : List Nat).contains i) (fun i => ([5, 6] : List Nat).contains i) (fun i => ([0, 3] : List Nat).contains i) mixed (by kernel_rfl) (by decide) (by kernel_rfl) ?_
          refine .uw rfl (.fieldAddr fa_69_1 rfl) ?_
          refine .w rfl (.ld one_67 rfl) ?_
          refine .w rfl (.as (v' := dgV (nm b)) (.lda agg_53 rfl) rfl) ?_
          refine .uw rfl (.fieldAddr fa_33_2 rfl) ?_
          refine .w rfl (.ld one_23 rfl) ?_
          refine .mw rfl (.cb (f27_spec xv b.length (b.map u8) (by omega) one_u8s) body_27) ?_
          rintro v83 _ _ ⟨_, ⟨_, _, rfl⟩, hΓ, hH⟩
          simp only [List.cons_append, List.nil_append] at hH; subst hΓ hH
          refine kp ?_
          refine .mw0 rfl (.mu (nm b) (v83, b) Tryz.underlying67 mkey_67) ?_
          rintro _ _ _ ⟨rfl, rfl⟩
          refine kp ?_
          have hb0 : (MM.nil : MM D32 (Value × B8)).get (nm b) = none := rfl
          obtain ⟨blx, hblx⟩ : ∃ x, x = (MM.nil : MM D32 (Value × B8)).put (nm b) (v83, b) := ⟨_, rfl⟩
          refine .rs (A := [Res.row v83 b.length 5 1 (b.map u8)]) (B := (MM.nil : MM D32 (Value × B8)).es.map rowE) (L := blx.es.map rowE) (by rw [hblx, show ((MM.nil : MM D32 (Value × B8)).put (nm b) (v83, b)).es = (MM.nil : MM D32 (Value × B8)).es ++ [(nm b, (v83, b), (MM.nil : MM D32 (Value × B8)).ck)] from MM.setL_none hb0, List.map_append]; exact List.perm_append_singleton _ _) ?_
          rw [← hblx]
          have hae : ∃ vx, HC.add (⟨p1, b55, a1, b1, sv1, (MM.nil : MM Int D32), (MM.nil : MM Int Bool), (MM.nil : MM D32 (Value × B8))⟩ : HC) xw vx b = (⟨p1, b55, a1, b1, sv1, ((MM.nil : MM Int D32).put xw (nm b)), (MM.nil : MM Int Bool), blx⟩ : HC) := ⟨v83, by unfold HC.add; rw [hblx, if_neg (by rw [hb0]; decide)]⟩
          refine .nil (.tn (.seq ?_))
          refine JC.draw (.one 0 (.one 1 (.one 2 (.one 3 (.one 4 (.one 5 (.one 6 .nil))))))) (fun i => ([6] : List Nat).contains i) (fun i => ([6] : List Nat).contains i) (fun i => ([0, 1, 2, 4] : List Nat).contains i) mixed (by kernel_rfl) (by decide) (by kernel_rfl) ?_
          refine .uw rfl (.move rfl) ?_
          refine .uw rfl (.nilCheck rfl) ?_
          refine .uw rfl (.fieldAddr fa_62_1 rfl) ?_
          refine .w rfl (.ld one_60 rfl) ?_
          refine .uw rfl (.move rfl) ?_
          refine .w rfl (.lda agg_69 rfl) ?_
          refine .mw0 rfl (.mu (unH b) (⟨p1, b55, a1, b1, sv1, ((MM.nil : MM Int D32).put xw (nm b)), (MM.nil : MM Int Bool), blx⟩ : HC) Tryz.underlying60 mkey_60) ?_
          rintro _ _ _ ⟨rfl, rfl⟩
          refine kp ?_
          refine .nil (.tn (.seq (.region ?_)))
          refine .w (.assign rfl) ?_
          refine .nil (.tn (.ret ?_))
          obtain ⟨vx, hae⟩ := hae
          refine .rs (A := [Res.cells p1 [sv1, u64 (BitVec.ofNat 64 (sumS S)), .map (some a1), .map (some b1)] 93, Res.row sv1 S.length 30 1 (S.map u64), mpR a1 itK dgV ((MM.nil : MM Int D32).put xw (nm b)), mpR b1 itK blV (MM.nil : MM Int Bool), mpR b55 dgV slV blx, Res.sep (blx.es.map rowE)]) (B := []) (L := hcL S (⟨p1, b55, a1, b1, sv1, ((MM.nil : MM Int D32).put xw (nm b)), (MM.nil : MM Int Bool), blx⟩ : HC)) (by rw [List.append_nil]; exact List.Perm.refl _) ?_
          refine .rs (A := [hcR S (⟨p1, b55, a1, b1, sv1, ((MM.nil : MM Int D32).put xw (nm b)), (MM.nil : MM Int Bool), blx⟩ : HC)]) (B := hsL S M) (L := hsL S (M.put (unH b) (⟨p1, b55, a1, b1, sv1, ((MM.nil : MM Int D32).put xw (nm b)), (MM.nil : MM Int Bool), blx⟩ : HC))) (by rw [hsL, MM.more hg]; exact List.perm_append_singleton _ _) ?_
          exact .dn [] [Res.cells c [sv, .map (some am)] 62, Res.row sv S.length 30 1 (S.map u64), mpR am uK hcV (M.put (unH b) (⟨p1, b55, a1, b1, sv1, ((MM.nil : MM Int D32).put xw (nm b)), (MM.nil : MM Int Bool), blx⟩ : HC)), Res.sep (hsL S (M.put (unH b) (⟨p1, b55, a1, b1, sv1, ((MM.nil : MM Int D32).put xw (nm b)), (MM.nil : MM Int Bool), blx⟩ : HC)))] (res1 rfl (.tmp rfl)) ⟨M.put (unH b) (⟨p1, b55, a1, b1, sv1, ((MM.nil : MM Int D32).put xw (nm b)), (MM.nil : MM Int Bool), blx⟩ : HC), 0, by rw [← hae]; exact HearP.addN hM hu hg hl p1 b55 a1 b1 sv1 vx hv0, rfl, rfl, rfl⟩

theorem f10_spec (c am : Nat) (sv : Value) (S : List W64) (M : MM (BitVec 64) HC) (hM : COk S M) (h1 : 1 ≤ S.length) (h2 : S.length ≤ 40) (h3 : sumS S < 9223372036854775808) (h : BitVec 64) (xw : Int) (xv : Value) (b : B8) (hb : b.length ≤ 100000) :
    Spec Tryz.prog 10 #[(ptr c 0), (.agg #[u64 h, it xw, xv])] [Res.var 3 (sqr.map u32), Res.var 2 (cub.map u32), Res.var 0 [u64 9223372036854775808, u64 0, u64 0, u64 0], Res.rd xv b.length 1 (b.map u8)] [Res.cells c [sv, .map (some am)] 62, Res.row sv S.length 30 1 (S.map u64), mpR am uK hcV M, Res.sep (hsL S M)]
      (fun r Γ' H' => ∃ M' e, HearP S M h xw b M' e ∧ r = it e ∧ Γ' = [] ∧ H' = [Res.cells c [sv, .map (some am)] 62, Res.row sv S.length 30 1 (S.map u64), mpR am uK hcV M', Res.sep (hsL S M')]) := by
  by_cases hh : unE b = 0 ∧ unH b = h
  · obtain ⟨hu, rfl⟩ := hh
    cases hg : M.get (unH b) with
    | some hc => exact f10A_spec c am sv S M hM h1 h2 h3 xw xv b hb hu hc hg
    | none =>
      by_cases hl : M.es.length < 20
      · exact f10B_spec c am sv S M hM h1 h2 h3 xw xv b hb hu hg hl
      · exact f10C_spec c am sv S M hM h1 h2 h3 xw xv b hb hu hg (by omega)
  · exact f10D_spec c am sv S M hM h1 h2 h3 xw xv b hb h hh
end Go.Proofs.YthfipbjmpeegbaaGreatDoor

/- Walks: the keys of a map. -/
namespace Go.Proofs.YthfipbjmpeegbaaGreatDoor
open Go.RowKit
set_option maxRecDepth 100000
set_option linter.unusedVariables false
set_option linter.unusedSimpArgs false
theorem f29_spec (a : Nat) :
    Spec Tryz.prog 29 #[(.map (some a))] [] []
      (fun r Γ' H' => ∃ q, r = .func (.func 51) #[] #[ptr q 0] ∧ Γ' = [] ∧ H' = [Res.cells q [.map (some a)] 67]) := by
  refine Spec.of_args Tryz.func29 rfl Tryz.ntmps29 (by simp) fun w => ?_
  refine .seq (.region ?_)
  refine .bx fun b1 => ?_
  refine .w (.assign rfl) ?_
  refine .nil (.tn (.seq (.region ?_)))
  refine .w (.makeFunc rfl rfl) ?_
  refine .w (.assign rfl) ?_
  refine .nil (.tn (.ret ?_))
  exact .dn [] [Res.cells b1 [.map (some a)] 67] (res1 rfl (.tmp rfl)) ⟨_, rfl, rfl, rfl⟩

theorem f51_spec (l : Nat) (X : Res) (R : List (D32 × (Value × B8) × Nat) → Res → Prop) (r0 : Res) (hR0 : R [] r0) (bx a : Nat) (m : MM D32 (Value × B8)) (hm : m.Ok)
    (hY : ∀ p vs Γy r y, kOk dgV m p vs Γy y → R p r → YSpec Tryz.prog l vs.toArray (Γy ++ [X]) [r] (fun b Γ' H' => b = .bool true ∧ Γ' = [] ∧ ∃ r', R y r' ∧ H' = [r'])) :
    Spec Tryz.prog 51 #[(.func (.yield l) #[] #[]), (ptr bx 0)] [Res.cells bx [.map (some a)] 67, mpR a dgV slV m, X] [r0]
      (fun _ Γ' H' => True ∧ Γ' = [] ∧ ∃ p r', p.Perm m.es ∧ R p r' ∧ H' = [r']) := by
  refine Spec.of_argsX Tryz.func51 rfl Tryz.ntmps51 (by simp) fun w => ?_
  refine .seq (.region ?_)
  refine .w (.ld one_67 rfl) ?_
  refine .rg Tryz.underlying67 fun r5 => ?_
  refine .nil (.xtn (.block ?_))
  refine .lp (ι := List (D32 × (Value × B8) × Nat) × Res) (fun x => m.Walk x.1 ∧ R x.1 x.2) (fun T _ => T) (fun T _ => T) (fun T x => miR r5 a m x.1 :: x.2 :: T) (fun x => m.es.length - x.1.length) ([], r0) [0, 5] ?_ (fun x hx => ?_)
  · exact ⟨MM.Walk.nil, hR0⟩
  obtain ⟨p, r⟩ := x
  obtain ⟨hW, hRp⟩ := hx
  dsimp only at hW hRp ⊢
  refine .seq (.region ?_)
  refine .nx hm hW ?_ ?_
  · intro hp
    refine .w (.extract rfl rfl) ?_
    refine .nil (.xtn (.seq ?_))
    refine .cf rfl ?_
    refine .exit (.xthen_exit (.xthen_exit (.xblock_exit (.x0 ?_))))
    exact .dn [] [r] (res_none rfl) ⟨trivial, rfl, p, r, hp, hRp, rfl⟩
  · intro e he hnp hw2
    refine .w (.extract rfl rfl) ?_
    refine .nil (.xtn (.seq ?_))
    refine .ct rfl ?_
    refine .skip (.xtn (.block (.seq (.region ?_))))
    refine .w (.en hm he) ?_
    refine .w (.as (v' := dgV e.1) (.extract rfl rfl) rfl) ?_
    refine .al zero_53 fun b3 => ?_
    first | refine .sa sz_53 ?_ | refine .so sz_53 ?_ | refine .sr sz_53 ?_
    refine .nil (.xtn (.seq (.regionO (.pre 2 ?_))))
    refine .w (.move rfl) ?_
    refine .w (.as (v' := dgV e.1) (.lda agg_53 rfl) rfl) ?_
    refine .nil (.xpre ?_)
    refine .yield (hY p [dgV e.1] [] r (p ++ [e]) ⟨e, hw2, rfl, rfl, rfl⟩ hRp) ?_
    rintro _ _ ⟨rfl, _, r', hR', rfl⟩
    refine .ap ?_
    refine .tail ?_
    refine .w (.as (v' := .bool false) (.not rfl) rfl) ?_
    refine .nil (.xtn ?_)
    refine .cf rfl ?_
    refine .skip (.xblock_normal ?_)
    refine .xhd (p ++ [e], r') ?_
    exact ⟨⟨hw2, hR'⟩, by have := walkLen hw2; simp at this ⊢; omega⟩
end Go.Proofs.YthfipbjmpeegbaaGreatDoor

/- Names compared: bytes.Compare, the closure over it, what it may lay. -/
namespace Go.Proofs.YthfipbjmpeegbaaGreatDoor
open Go.RowKit Go.Sort
set_option maxRecDepth 100000
set_option maxHeartbeats 1000000 in
theorem cmp31 (W : World) (u v : Value) (x y : B8) (h1 : IsRd W u x.length 1 (x.map u8)) (h2 : IsRd W v y.length 1 (y.map u8)) : Calls Tryz.prog 31 #[u, v] W fun e w' => e = .returned (it (lexB x y)) ∧ w' = W := by
  have hcon := cmp_run (f := 52) Tryz.func52 (by kernel_rfl) (by kernel_rfl) (by kernel_rfl) (by kernel_rfl) h1 h2
  clear h1 h2
  generalize lexB x y = r at hcon ⊢
  go_enter Tryz.func31, Tryz.ntmps31
  go_wp2
  go_ret
  exact ⟨rfl, rfl⟩
theorem cell_two {W : World} {cs ds : Array Value} {T : TypeId} {n j : Nat} {u : Value} (h : cs[j]? = some u) : (((W.alloc (.cells cs T)).alloc (.cells ds T)).drewN n).cell? ⟨W.heap.size, 0 + j, none⟩ = some u := by
  have e : (((W.alloc (.cells cs T)).alloc (.cells ds T)).drewN n).heap[W.heap.size]? = some (.cells cs T (0, 0)) := by
    show ((W.heap.push (Obj.cells cs T)).push (Obj.cells ds T))[W.heap.size]? = _
    simp [Array.getElem?_push]
  rw [World.cell?, e]
  simp [h]
theorem cell_two' {W : World} {cs ds : Array Value} {T : TypeId} {n j : Nat} {u : Value} (h : ds[j]? = some u) : (((W.alloc (.cells cs T)).alloc (.cells ds T)).drewN n).cell? ⟨W.heap.size + 1, 0 + j, none⟩ = some u := by
  have e : (((W.alloc (.cells cs T)).alloc (.cells ds T)).drewN n).heap[W.heap.size + 1]? = some (.cells ds T (0, 0)) := by
    show ((W.heap.push (Obj.cells cs T)).push (Obj.cells ds T))[W.heap.size + 1]? = _
    rw [show W.heap.size + 1 = (W.heap.push (Obj.cells cs T)).size by simp]
    exact Array.getElem?_push_size
  rw [World.cell?, e]
  simp [h]
theorem rd_grown {W : World} {cs ds : Array Value} {x y : D32} {T : TypeId} (hc : cs = (x.1.map u8).toArray) (hd : ds = (y.1.map u8).toArray) (n : Nat) :
    IsRd (((W.alloc (.cells cs T)).alloc (.cells ds T)).drewN n) (.slice (some ⟨W.heap.size, 0, none⟩) 32 32) x.1.length 1 (x.1.map u8) ∧ IsRd (((W.alloc (.cells cs T)).alloc (.cells ds T)).drewN n) (.slice (some ⟨W.heap.size + 1, 0, none⟩) 32 32) y.1.length 1 (y.1.map u8) := by
  subst hc hd
  have hx := x.2
  have hy := y.2
  constructor
  · rw [hx]
    refine ⟨_, _, rfl, by simp [hx], by decide, by decide, fun j u hj => ⟨_, 0, rfl, ?_⟩⟩
    exact cell_two (by rw [List.getElem?_toArray]; exact hj)
  · rw [hy]
    refine ⟨_, _, rfl, by simp [hy], by decide, by decide, fun j u hj => ⟨_, 0, rfl, ?_⟩⟩
    exact cell_two' (by rw [List.getElem?_toArray]; exact hj)
set_option maxHeartbeats 1000000 in
theorem closure30 (x y : D32) (W : World) : Calls Tryz.prog 30 #[dgV x, dgV y] W fun e w' => e = .returned (it (lexB x.1 y.1)) ∧ ∃ q os', w' = grow (W.drewN q) os' := by
  obtain ⟨cs, hcs⟩ : ∃ cs, cs = (x.1.map u8).toArray := ⟨_, rfl⟩
  obtain ⟨ds, hds⟩ : ∃ cs, cs = (y.1.map u8).toArray := ⟨_, rfl⟩
  have hrd := fun n => rd_grown (W := W) (T := 53) hcs hds n
  have hcon := fun n => cmp31 _ _ _ x.1 y.1 (hrd n).1 (hrd n).2
  show Calls Tryz.prog 30 #[.agg (x.1.map u8).toArray, .agg (y.1.map u8).toArray] W _
  rw [← hcs, ← hds]
  clear hrd hcs hds
  generalize lexB x.1 y.1 = r at hcon ⊢
  clear x y
  go_enter Tryz.func30, Tryz.ntmps30
  go_wp2
  go_quiet (first | (go_at_call 31; refine Calls.quiet_of_same (hcon _)))
  go_wp2
  go_ret
  refine ⟨rfl, nq, #[.cells cs 53, .cells ds 53], ?_⟩
  rw [alloc_eq_grow, alloc_eq_grow, grow_grow]
  rfl
end Go.Proofs.YthfipbjmpeegbaaGreatDoor

/- The shelf's contracts at this program, in plain words (printed by the kit's lay-plain). -/
namespace Go.Proofs.YthfipbjmpeegbaaGreatDoor
open Go.Proofs
open Go.Shelf
def sortFA_ren : Go.Shelf.Ren := ⟨fun | 6 => 50 | 15 => 75 | 14 => 74 | 28 => 96 | 29 => 97 | 20 => 88 | 21 => 89 | 22 => 90 | 23 => 91 | 24 => 92 | 25 => 93 | 26 => 94 | 27 => 95 | 46 => 111 | 47 => 112 | 48 => 113 | 49 => 114 | 50 => 115 | 57 => 121 | n => n, fun | 22 => 73 | 24 => 53 | 25 => 79 | 3 => 3 | 39 => 130 | 0 => 0 | 53 => 138 | 55 => 30 | 4 => 4 | 46 => 151 | 45 => 150 | 50 => 155 | 5 => 5 | 9 => 9 | 66 => 167 | 70 => 171 | 76 => 175 | 77 => 176 | n => n, fun | n => n⟩
theorem sortFA : Go.Proofs.SlLaysF0.n6 Tryz.prog sortFA_ren := {
  mixed := by kernel_rfl
  f6 := ⟨Tryz.f50.name, by decide, Tryz.func50.trans (congrArg some (by kernel_rfl))⟩
  f14 := ⟨Tryz.f74.name, by decide, Tryz.func74.trans (congrArg some (by kernel_rfl))⟩
  f15 := Tryz.func75.trans (congrArg some (by kernel_rfl))
  f20 := ⟨Tryz.f88.name, by decide, Tryz.func88.trans (congrArg some (by kernel_rfl))⟩
  f21 := ⟨Tryz.f89.name, by decide, Tryz.func89.trans (congrArg some (by kernel_rfl))⟩
  f22 := ⟨Tryz.f90.name, by decide, Tryz.func90.trans (congrArg some (by kernel_rfl))⟩
  f23 := ⟨Tryz.f91.name, by decide, Tryz.func91.trans (congrArg some (by kernel_rfl))⟩
  f24 := ⟨Tryz.f92.name, by decide, Tryz.func92.trans (congrArg some (by kernel_rfl))⟩
  f25 := ⟨Tryz.f93.name, by decide, Tryz.func93.trans (congrArg some (by kernel_rfl))⟩
  f26 := ⟨Tryz.f94.name, by decide, Tryz.func94.trans (congrArg some (by kernel_rfl))⟩
  f27 := ⟨Tryz.f95.name, by decide, Tryz.func95.trans (congrArg some (by kernel_rfl))⟩
  f28 := Tryz.func96.trans (congrArg some (by kernel_rfl))
  f29 := Tryz.func97.trans (congrArg some (by kernel_rfl))
  f46 := ⟨Tryz.f111.name, by decide, Tryz.func111.trans (congrArg some (by kernel_rfl))⟩
  f47 := Tryz.func112.trans (congrArg some (by kernel_rfl))
  f48 := Tryz.func113.trans (congrArg some (by kernel_rfl))
  f49 := ⟨Tryz.f114.name, by decide, Tryz.func114.trans (congrArg some (by kernel_rfl))⟩
  f50 := ⟨Tryz.f115.name, by decide, Tryz.func115.trans (congrArg some (by kernel_rfl))⟩
  f57 := ⟨Tryz.f121.name, by decide, Tryz.func121.trans (congrArg some (by kernel_rfl))⟩
  t0 := Tryz.underlying0
  a0 := Tryz.isAgg0
  z0 := Tryz.sizeOf0
  v0 := Tryz.zeroValue0
  t3 := Tryz.underlying3
  a3 := Tryz.isAgg3
  z3 := Tryz.sizeOf3
  v3 := Tryz.zeroValue3
  t4 := Tryz.underlying4
  a4 := Tryz.isAgg4
  z4 := Tryz.sizeOf4
  v4 := Tryz.zeroValue4
  t5 := Tryz.underlying5
  a5 := Tryz.isAgg5
  z5 := Tryz.sizeOf5
  v5 := Tryz.zeroValue5
  t9 := Tryz.underlying9
  a9 := Tryz.isAgg9
  z9 := Tryz.sizeOf9
  v9 := Tryz.zeroValue9
  t22 := Tryz.underlying73
  a22 := Tryz.isAgg73
  z22 := Tryz.sizeOf73
  v22 := Tryz.zeroValue73
  t25 := Tryz.underlying79
  a25 := Tryz.isAgg79
  z25 := Tryz.sizeOf79
  v25 := Tryz.zeroValue79
  t39 := Tryz.underlying130
  a39 := Tryz.isAgg130
  z39 := Tryz.sizeOf130
  v39 := Tryz.zeroValue130
  t45 := Tryz.underlying150
  a45 := Tryz.isAgg150
  z45 := Tryz.sizeOf150
  v45 := Tryz.zeroValue150
  t46 := Tryz.underlying151
  a46 := Tryz.isAgg151
  z46 := Tryz.sizeOf151
  v46 := Tryz.zeroValue151
  t50 := Tryz.underlying155
  a50 := Tryz.isAgg155
  z50 := Tryz.sizeOf155
  v50 := Tryz.zeroValue155
  t53 := Tryz.underlying138
  a53 := Tryz.isAgg138
  z53 := Tryz.sizeOf138
  v53 := Tryz.zeroValue138
  t55 := Tryz.underlying30
  a55 := Tryz.isAgg30
  z55 := Tryz.sizeOf30
  v55 := Tryz.zeroValue30
  t66 := Tryz.underlying167
  a66 := Tryz.isAgg167
  z66 := Tryz.sizeOf167
  v66 := Tryz.zeroValue167
  t70 := Tryz.underlying171
  a70 := Tryz.isAgg171
  z70 := Tryz.sizeOf171
  v70 := Tryz.zeroValue171
  t76 := Tryz.underlying175
  a76 := Tryz.isAgg175
  z76 := Tryz.sizeOf175
  v76 := Tryz.zeroValue175
  t77 := Tryz.underlying176
  a77 := Tryz.isAgg176
  z77 := Tryz.sizeOf176
  v77 := Tryz.zeroValue176 }
end Go.Proofs.YthfipbjmpeegbaaGreatDoor

/- slices.SortFunc over names: what it leaves (the shelf's contract), as_ a contract of ours. Text Sf: tool/shelf.py KEY Sf Derived.Shelf.SlSortCmp.WholeK,Derived.Ground.SlsfProg 'SlLaysF0.n6 Slsf 6 slices.SortFunc[[]sortition/api.Digest,sortition/api.Digest] sortFA'. -/
namespace Go.Proofs.YthfipbjmpeegbaaGreatDoor
open Go.RowKit Go.Sort Go.Shelf
set_option maxRecDepth 100000
instance : Inhabited D32 := ⟨D0⟩
abbrev cfD (x y : D32) : Int := lexB x.1 y.1
theorem swoD : SWO (ltOf cfD) where
  irrefl x := by simp [ltOf, cfD, lexB_self]
  trans x y z h1 h2 := by simp only [ltOf, decide_eq_true_eq] at *; exact lexB_trans _ _ _ h1 h2
  ntrans x y z h1 h2 := by
    simp only [ltOf, decide_eq_false_iff_not, cfD] at *
    intro h
    rcases lexB_tri x.1 y.1 with t | t | t
    · exact h1 t.1
    · exact h2 (lexB_trans _ _ _ t.1 h)
    · rw [t] at h; exact h2 h
theorem put_take {F cur : Array Value} (h : F.size ≤ cur.size) : (Go.Sort.putCells id 0 F cur).toList.take F.size = F.toList := by
  apply List.ext_getElem?
  intro i
  by_cases hi : i < F.size
  · rw [List.getElem?_take_of_lt hi, Array.getElem?_toList, Array.getElem?_toList, Go.Sort.putCells, Array.getElem?_mapIdx]
    rw [Array.getElem?_eq_getElem (show i < cur.size by omega), Array.getElem?_eq_getElem hi]
    simp [hi]
  · rw [List.getElem?_eq_none (by simp; omega), List.getElem?_eq_none (by simp; omega)]
theorem flat_bks (ds : Array D32) : flatK dgC 32 ds = (bks dgC ds.toList).toArray := by
  refine ext_get! (by rw [size_flatK, List.size_toArray]; show ds.toList.length * 32 = _; exact (bks_len (f := dgC) ds.toList).symm) fun t ht => ?_
  have ht' : t < ds.size * 32 := by simpa using ht
  rw [get_flatK _ _ _ t ht']
  have hk : t / 32 < ds.toList.length := by simp; omega
  have h1 := bks_get (f := dgC) (j := t % 32) D0 hk (Nat.mod_lt _ (by decide))
  rw [show t / 32 * 32 + t % 32 = t by omega] at h1
  have e1 : ds[t / 32]! = ds.toList.getD (t / 32) D0 := by
    rw [getElem!_pos ds (t / 32) (by simpa using hk), List.getD_eq_getElem?_getD, List.getElem?_eq_getElem hk]
    simp
  have hb : t < (bks dgC ds.toList).length := by rw [bks_len]; simpa using ht'
  rw [e1, getElem!_pos (bks dgC ds.toList).toArray t (by simpa using hb)]
  have hq : t % 32 < (dgC (ds.toList.getD (t / 32) D0)).length := by rw [FS.len (f := dgC)]; exact Nat.mod_lt _ (by decide)
  rw [getElem!_pos (dgC (ds.toList.getD (t / 32) D0)) (t % 32) hq]
  rw [List.getElem?_eq_getElem hb, List.getElem?_eq_getElem hq] at h1
  simpa using (Option.some.inj h1).symm
theorem sortF_spec (v : Value) (ds : List D32) (h0 : ds ≠ []) (hl : ds.length ≤ 1000000) :
    Spec Tryz.prog 50 #[v, .func (.func 30) #[] #[]] [] [Res.row v ds.length 53 32 (bks dgC ds)] (fun r Γ' H' => ∃ es : List D32, es.Perm ds ∧ es.Pairwise (fun x y => ¬ lexB y.1 x.1 < 0) ∧ r = .tuple #[] ∧ Γ' = [] ∧ H' = [Res.row v es.length 53 32 (bks dgC es)]) := by
  intro w hs
  have hrow := Res.row_ok.1 (hs.hok _ (.head _))
  obtain ⟨hlen, ⟨_, h⟩ | ⟨g, cap, cur, rfl, _, hg, hnc, hcm, hsz, hx⟩⟩ := hrow
  · exact absurd (List.length_eq_zero_iff.1 h) h0
  have hflat : flatK dgC 32 ds.toArray = (bks dgC ds).toArray := flat_bks ds.toArray
  have hsF : (bks dgC ds).length = ds.length * 32 := bks_len ds
  have hH : HoldsK dgC 32 w g 0 ds.toArray := by
    unfold HoldsK
    rw [hflat]
    intro j hj
    have hj' : j < (bks dgC ds).length := by simpa using hj
    constructor
    · rw [World.cell?, hg]
      have e := congrArg (fun l : List Value => l[j]?) hx
      have e2 : (cur.toList.take (ds.length * 32))[j]? = (bks dgC ds)[j]? := e
      rw [List.getElem?_take_of_lt (by omega), Array.getElem?_toList] at e2
      simp [e2, hj']
    · simp [World.frozen?, hg]
  have hblk : g < w.heap.size := (Array.getElem?_eq_some_iff.1 hg).1
  have hcon := AnyQ.slices_SortFunc { sortFA with } 32 Tryz.isAgg53 Tryz.sizeOf53 dgC (fun x => FS.len (f := dgC) x) (fun x v hv => FS.one (f := dgC) x v hv) cfD swoD 30 #[] g 0 cap ds.toArray w (enters_of Tryz.func30 (by kernel_rfl) rfl) (fun _ _ _ _ x y => closure30 x y _) hH hblk (by simp; omega)
  refine Calls.mono hcon ?_
  rintro e w' ⟨rfl, d', n, os, hp, hso, rfl⟩
  obtain ⟨hp1, hp2, hp3⟩ := hp
  have hpl : d'.toList.Perm ds := by
    have a1 : d'.extract 0 ds.toArray.size = d' := by rw [← hp1, Array.extract_size]
    have a2 : ds.toArray.extract 0 ds.toArray.size = ds.toArray := Array.extract_size
    rw [a1, a2] at hp3
    simpa using hp3
  have hdl : d'.toList.length = ds.length := hpl.length_eq
  have hf2 : flatK dgC 32 d' = (bks dgC d'.toList).toArray := flat_bks d'
  have hsF2 : (bks dgC d'.toList).length = ds.length * 32 := by rw [bks_len, hdl]
  have hh : (sortWorldK dgC 32 w g 0 n d' os).heap = (w.heap.modify g (onCells (Go.Sort.putCells id 0 (bks dgC d'.toList).toArray))) ++ os := by
    unfold sortWorldK putRowK putRow mapBlock grow
    rw [hf2]
    rfl
  have hcz : ds.length * 32 ≤ cur.size := by rw [hsz]; exact Nat.mul_le_mul_right _ hnc
  have hg2 : (sortWorldK dgC 32 w g 0 n d' os).heap[g]? = some (.cells (Go.Sort.putCells id 0 (bks dgC d'.toList).toArray cur) 53 (0, 0)) := by
    rw [hh, Array.getElem?_append_left (by simpa using hblk), Array.getElem?_modify, if_pos rfl, hg]
    rfl
  have hother : ∀ k, k < w.heap.size → k ≠ g → (sortWorldK dgC 32 w g 0 n d' os).heap[k]? = w.heap[k]? := by
    intro k hk hne
    rw [hh, Array.getElem?_append_left (by simpa using hk), Array.getElem?_modify, if_neg (Ne.symm hne)]
  have hsize : w.heap.size ≤ (sortWorldK dgC 32 w g 0 n d' os).heap.size := by rw [hh]; simp
  have hfin : (sortWorldK dgC 32 w g 0 n d' os).ownsRow 0 53 32 (.slice (some ⟨g, 0, none⟩) ds.length cap) d'.toList.length (bks dgC d'.toList) := by
    refine ⟨bks_len _, .inr ⟨g, cap, _, by rw [hdl], Nat.zero_le _, hg2, by rw [hdl]; exact hnc, hcm, by simpa [Go.Sort.putCells] using hsz, ?_⟩⟩
    have := put_take (F := (bks dgC d'.toList).toArray) (cur := cur) (by simpa [hsF2] using hcz)
    simpa [hsF2, hdl] using this
  refine ⟨.tuple #[], [], [Res.row (.slice (some ⟨g, 0, none⟩) ds.length cap) d'.toList.length 53 32 (bks dgC d'.toList)], rfl, ⟨d'.toList, hpl, ?_, rfl, rfl, rfl⟩, ⟨⟨by simp, by simp, ?_, ?_, by simp, by simp⟩, ⟨rfl, rfl, rfl, hsize, ?_⟩, ?_, fun k ⟨_, h, _⟩ => by simp at h⟩⟩
  · rw [List.pairwise_iff_getElem]
    intro i j hi hj hij
    have := hso i j (Nat.zero_le _) hij (by rw [List.size_toArray]; omega)
    rw [getElem!_pos d' j (by simpa using hj), getElem!_pos d' i (by simpa using hi)] at this
    simpa [ltOf, cfD] using this
  · intro r hr
    obtain rfl := List.mem_singleton.1 hr
    exact Res.row_ok.2 hfin
  · intro r hr k hk
    obtain rfl := List.mem_singleton.1 hr
    have : k = g := by simpa [Value.ownBlock] using (Res.row_fp.1 hk).symm
    omega
  · intro k hk hn
    refine hother k hk fun e => hn ⟨_, .head _, Res.row_fp.2 ?_⟩
    simp [Value.ownBlock, e]
  · rintro k ⟨r, hr, hk⟩
    obtain rfl := List.mem_singleton.1 hr
    exact .inl ⟨_, .head _, Res.row_fp.2 (Res.row_fp.1 hk)⟩
end Go.Proofs.YthfipbjmpeegbaaGreatDoor

/- Walks: the keys gathered, and sorted. -/
namespace Go.Proofs.YthfipbjmpeegbaaGreatDoor
open Go.RowKit
set_option maxRecDepth 100000
set_option linter.unusedVariables false
set_option linter.unusedSimpArgs false
theorem snocKD {β : Type} {v : Value} {p : List (D32 × β × Nat)} {x : D32 × β × Nat} {e : TypeId} : Res.row v ((List.map (fun x => x.1) p).length + 1) e 32 (bks dgC (List.map (fun x => x.1) p) ++ List.flatMap (fun v => v.cells.toList) [Value.agg (List.map u8 x.1.val).toArray]) = Res.row v (List.map (fun x => x.1) (p ++ [x])).length e 32 (bks dgC (List.map (fun x => x.1) (p ++ [x]))) := by
  simp [bks, Value.cells, List.flatMap_append, dgC]

theorem f73_spec (q a : Nat) (m : MM D32 (Value × B8)) (hm : m.Ok) (hl : m.es.length ≤ 1000000) :
    Spec Tryz.prog 73 #[(.slice none 0 0), (.func (.func 51) #[] #[ptr q 0])] [Res.cells q [.map (some a)] 67, mpR a dgV slV m] []
      (fun r Γ' H' => ∃ ds : List D32, ds.Perm (m.es.map (·.1)) ∧ Γ' = [] ∧ H' = [Res.row r ds.length 53 32 (bks dgC ds)]) := by
  refine Spec.of_argsM Tryz.func73 rfl Tryz.ntmps73 (by simp) fun w => ?_
  refine .seq (.region ?_)
  refine .bx fun b2 => ?_
  refine JO.nilRow 53 32 ?_
  refine .w (.assign rfl) ?_
  refine .nil (.xtn (.seq (.seq (.region ?_))))
  refine .w (.move rfl) ?_
  refine .nil (.xtn (.block ?_))
  refine .rfg ([] : List (D32 × (Value × B8) × Nat)) (fun p => p.Perm m.es) (fun p Lr => m.Walk p ∧ ∃ lv : Value, Lr = [Res.cells b2 [lv] 73, Res.row lv (p.map (·.1)).length 53 32 (bks dgC (p.map (·.1)))]) (I0 := [Res.cells b2 [.slice none 0 0] 73, Res.row (.slice none 0 0) 0 53 32 []]) (Γi := [Res.cells q [.map (some a)] 67, mpR a dgV slV m]) (kOk dgV m) rfl body_51 ⟨MM.Walk.nil, .slice none 0 0, rfl⟩ (fun l X R r0 h0 hy => f51_spec l X R r0 h0 q a m hm hy) (fun l D fn T w0 k vs Γy y L hok hI => ?_) (fun D xf L hfin hI => ?_) (fun k vs Γy y h => by obtain ⟨e, _, rfl, _⟩ := h; rfl) (by decide) (by decide) zqd (by repeat (first | exact Lends.nil _ | apply Lends.cons | exact Lend.same _ _ | exact Lend.row _ _ _ _ _ _ (by decide) | apply Lend.there))
  · obtain ⟨e, hw2, rfl, rfl, rfl⟩ := hok
    obtain ⟨hW, lv, rfl⟩ := hI
    have hlen := walkLen hw2
    rw [List.length_append, List.length_singleton] at hlen
    have hkl : (k.map (·.1)).length ≤ 1000000 := by rw [List.length_map]; omega
    change JX _ _ _ _ _ _ ((7, _) :: _) _ (_ :: _ :: _)
    refine .region ?_
    refine .al zero_53 fun b5 => ?_
    first | refine .sa sz_53 ?_ | refine .so sz_53 ?_ | refine .sr sz_53 ?_
    refine .nil (.rk (.block (.region ?_)))
    refine .w (.ld one_73 rfl) ?_
    refine .w (.lda agg_53 rfl) ?_
    refine .ls Tryz.underlying73 info_53 (fun v10 => ?_) (hsz := (by intro v hv; obtain rfl := List.mem_singleton.1 hv; show (List.map u8 e.1.1).toArray.size = 32; rw [List.size_toArray, List.length_map]; exact e.1.2))
    refine .ap Tryz.underlying73 info_53 (fun v11 => ?_) (hone := (by intro a ha; simp [Value.cells] at ha; obtain ⟨x, _, rfl⟩ := ha; rfl))
    rw [snocKD]
    first | refine .s1 sz_73 ?_ | refine .s1s sz_73 ?_ | refine .sr1 sz_73 ?_
    refine .nil (.xblock_normal ?_)
    exact .rend [Res.cells b2 [v11] 73, Res.row v11 ((k ++ [e]).map (·.1)).length 53 32 (bks dgC ((k ++ [e]).map (·.1)))] ⟨hw2, v11, rfl⟩
  · obtain ⟨hW, lv, rfl⟩ := hI
    change JQ _ _ _ _ _ _ (_ :: _ :: _)
    refine .xblock_normal (.xtn (.seq (.region ?_)))
    refine .w (.ld one_73 rfl) ?_
    refine .w (.assign rfl) ?_
    refine .nil (.xtn (.ret ?_))
    exact .xdn (by repeat (first | exact Pull.here _ _ | apply Pull.there)) [] [Res.row lv (xf.map (·.1)).length 53 32 (bks dgC (xf.map (·.1)))] (res1 rfl (.tmp rfl)) ⟨xf.map (·.1), hfin.map _, rfl, rfl⟩

theorem f49_spec (q a : Nat) (m : MM D32 (Value × B8)) (hm : m.Ok) (hl : m.es.length ≤ 1000000) :
    Spec Tryz.prog 49 #[(.func (.func 51) #[] #[ptr q 0])] [Res.cells q [.map (some a)] 67, mpR a dgV slV m] []
      (fun r Γ' H' => ∃ ds : List D32, ds.Perm (m.es.map (·.1)) ∧ Γ' = [] ∧ H' = [Res.row r ds.length 53 32 (bks dgC ds)]) := by
  refine Spec.of_args Tryz.func49 rfl Tryz.ntmps49 (by simp) fun w => ?_
  refine .seq (.region ?_)
  refine .w (.assign rfl) ?_
  refine .nil (.tn (.seq (.region ?_)))
  refine .w (.move rfl) ?_
  refine .cb (f73_spec q a m hm hl) body_73 ?_ (h0 := by rintro _ _ _ ⟨_, _, h, _⟩; exact h)
  rintro v4 _ ⟨ds, hds, _, rfl⟩
  refine .ap ?_
  refine .w (.assign rfl) ?_
  refine .nil (.tn (.ret ?_))
  exact .dn [] [Res.row v4 ds.length 53 32 (bks dgC ds)] (res1 rfl (.tmp rfl)) ⟨ds, hds, rfl, rfl⟩

theorem f28_spec (q a : Nat) (m : MM D32 (Value × B8)) (hm : m.Ok) (hl : m.es.length ≤ 1000000) (h0 : m.es ≠ []) :
    Spec Tryz.prog 28 #[(.func (.func 51) #[] #[ptr q 0]), (.func (.func 30) #[] #[])] [Res.cells q [.map (some a)] 67, mpR a dgV slV m] []
      (fun r Γ' H' => ∃ es : List D32, es.Perm (m.es.map (·.1)) ∧ es.Pairwise (fun x y => ¬ lexB y.1 x.1 < 0) ∧ Γ' = [] ∧ H' = [Res.row r es.length 53 32 (bks dgC es)]) := by
  refine Spec.of_args Tryz.func28 rfl Tryz.ntmps28 (by simp) fun w => ?_
  refine .seq (.region ?_)
  refine .w (.assign rfl) ?_
  refine .nil (.tn (.seq (.region ?_)))
  refine .w (.move rfl) ?_
  refine .cb (f49_spec q a m hm hl) body_49 ?_ (h0 := by rintro _ _ _ ⟨_, _, h, _⟩; exact h)
  rintro v7 _ ⟨ds, hds, _, rfl⟩
  refine .ap ?_
  refine .w (.assign rfl) ?_
  refine .nil (.tn (.seq (.region ?_)))
  refine .w (.move rfl) ?_
  refine .w (.move rfl) ?_
  refine .cb (sortF_spec v7 ds (fun h => h0 (List.map_eq_nil_iff.1 (List.perm_nil.1 (h ▸ hds.symm)))) (by rw [hds.length_eq, List.length_map]; omega)) body_50 ?_ (h0 := by rintro _ _ _ ⟨_, _, _, _, h, _⟩; exact h)
  rintro _ _ ⟨es, hes, hso, rfl, _, rfl⟩
  refine .ap ?_
  refine .nil (.tn (.seq (.region ?_)))
  refine .w (.move rfl) ?_
  refine .w (.assign rfl) ?_
  refine .nil (.tn (.ret ?_))
  exact .dn [] [Res.row v7 es.length 53 32 (bks dgC es)] (res1 rfl (.tmp rfl)) ⟨es, hes.trans hds, hso, rfl, rfl⟩
end Go.Proofs.YthfipbjmpeegbaaGreatDoor

/- Walks: what is believed; a run; forgetting. -/
namespace Go.Proofs.YthfipbjmpeegbaaGreatDoor
open Go.RowKit
set_option maxRecDepth 100000
set_option linter.unusedVariables false
set_option linter.unusedSimpArgs false
theorem f12S_spec (c am : Nat) (sv : Value) (S : List W64) (M : MM (BitVec 64) HC) (hM : COk S M) (h2 : S.length ≤ 40) (h3 : sumS S < 9223372036854775808) (h : BitVec 64) (hc : HC) (hg : M.get h = some hc) :
    Spec Tryz.prog 12 #[(ptr c 0), (u64 h)] [Res.cells c [sv, .map (some am)] 62, mpR am uK hcV M, Res.sep (hsL S M)] []
      (fun r Γ' H' => ∃ o : Option (Value × B8), r = .tuple #[bv o, .bool o.isSome] ∧ BelR S (abM M h) (o.map (·.2)) ∧ (∀ x, o = some x → x.2.length ≤ 100000) ∧ Γ' = [] ∧ H' = [Res.sep (oR o)]) := by
  refine Spec.of_args Tryz.func12 rfl Tryz.ntmps12 (by simp) fun w => ?_
  refine .seq (.region ?_)
  refine .w (.assign rfl) ?_
  refine .w (.assign rfl) ?_
  refine .nil (.tn (.seq (.region ?_)))
  refine .w (.move rfl) ?_
  refine .w (.nilCheck rfl) ?_
  refine .w (.fieldAddr fa_62_1 rfl) ?_
  refine .w (.ld one_60 rfl) ?_
  refine .w (.move rfl) ?_
  refine .w (.as (v' := .tuple #[hcV hc, .bool true]) (.lk2 h Tryz.underlying60 mkey_60 zf_69) (by rw [hg]; rfl)) ?_
  refine .w (.move rfl) ?_
  refine .w (.as (v' := hcV hc) (.extract rfl rfl) rfl) ?_
  refine .w (.extract rfl rfl) ?_
  refine .al zero_69 fun b6 => ?_
  refine .sa sz_69 ?_ (h1 := (by intro a ha; simp only [List.mem_cons, List.not_mem_nil, or_false] at ha; rcases ha with rfl | rfl <;> rfl))
  refine .w (.assign rfl) ?_
  refine .nil (.tn (.seq (.seq (.region ?_))))
  refine .w (.move rfl) ?_
  refine .w (.as (v' := .bool false) (.not rfl) rfl) ?_
  refine .nil (.tn ?_)
  refine .cf rfl ?_
  refine .skip (.tn (.seq (.region ?_)))
  obtain ⟨hok, hne⟩ := hM.each _ _ hg
  have hbl : hc.bl.es.length ≤ 1000000 := by have := hok.nb; have := tok_len hok.tok; omega
  obtain ⟨L0, hp1, hp2⟩ := MM.out hg (hcR S)
  refine .sepG (L := hsL S M) (r := hcR S hc) zqa (hp1.mem_iff.2 (.head _)) ?_
  refine .sepG (L := hcL S hc) (r := Res.cells hc.p [hc.sv, u64 (BitVec.ofNat 64 (sumS S)), .map (some hc.va), .map (some hc.ta)] 93) zqa (by unfold hcL; repeat (first | exact List.Mem.head _ | refine List.Mem.tail _ ?_)) ?_
  refine .sepG (L := hcL S hc) (r := Res.row hc.sv S.length 30 1 (S.map u64)) zqa (by unfold hcL; repeat (first | exact List.Mem.head _ | refine List.Mem.tail _ ?_)) ?_
  refine .sepG (L := hcL S hc) (r := mpR hc.va itK dgV hc.votes) zqa (by unfold hcL; repeat (first | exact List.Mem.head _ | refine List.Mem.tail _ ?_)) ?_
  refine .sepG (L := hcL S hc) (r := mpR hc.bm dgV slV hc.bl) zqa (by unfold hcL; repeat (first | exact List.Mem.head _ | refine List.Mem.tail _ ?_)) ?_
  refine .sepG (L := hcL S hc) (r := Res.sep (hc.bl.es.map rowE)) zqa (by unfold hcL; repeat (first | exact List.Mem.head _ | refine List.Mem.tail _ ?_)) ?_
  refine .w (.fieldAddr fa_69_1 rfl) ?_
  refine .w (.ld one_67 rfl) ?_
  refine .cb (f29_spec hc.bm) body_29 ?_ (h0 := by rintro _ _ _ ⟨_, _, h, _⟩; exact h)
  rintro _ _ ⟨q, rfl, _, rfl⟩
  refine .ap ?_
  refine .cb (f28_spec q hc.bm hc.bl hok.bl hbl hne) body_28 ?_ (h0 := by rintro _ _ _ ⟨_, _, _, h, _⟩; exact h)
  rintro v25 _ ⟨es, hes, hso, _, rfl⟩
  refine .ap ?_
  have hel : es.length ≤ 1000000 := by rw [hes.length_eq, List.length_map]; exact hbl
  refine .w (.assign rfl) ?_
  refine .nil (.tn (.seq (.seq (.region ?_))))
  refine .w (.move rfl) ?_
  refine .w (.len Tryz.underlying73 rfl) ?_
  refine .w (.move rfl) ?_
  refine .nil (.tn (.block ?_))
  refine .lp (ι := Nat) (fun x => x ≤ es.length ∧ ∀ j, j < x → ¬ third S hc.ab (es.getD j D0)) (fun T x => (28, it (x : Int)) :: T) (fun T _ => T) (fun T _ => T) (fun x => es.length - x) 0 [6, 26, 27] ?_ (fun x hx => ?_)
  · exact ⟨Nat.zero_le _, fun j hj => absurd hj (Nat.not_lt_zero _)⟩
  obtain ⟨hx, hn⟩ := hx
  refine .seq (.region ?_)
  refine .w (.bin rfl rfl BinR.lss_i) ?_
  refine .nil (.tn (.seq ?_))
  refine .cn rfl (fun hc2 => ?_) (fun hc2 => ?_)
  · refine .skip (.tn (.seq (.block (.seq (.region ?_)))))
    refine .w (.ix Tryz.underlying73 sz_53 rfl rfl) ?_
    refine .w (.as (v' := dgV (es.getD x D0)) (.lda agg_53 rfl (hm := by first | exact AM.own (by (repeat (first | exact List.Mem.head _ | refine List.Mem.tail _ ?_)); first | done | fail) (by rw [bks_len]; omega) | exact AM.ro (by (repeat (first | exact List.Mem.head _ | refine List.Mem.tail _ ?_)); first | done | fail) (by rw [bks_len]; omega) | exact AM.ownAt (by (repeat (first | exact List.Mem.head _ | refine List.Mem.tail _ ?_)); first | done | fail) (by rw [bks_len]; omega) | exact AM.rd zqc (by rw [bks_len]; omega) | exact AM.row zqa (by rw [bks_len]; omega))) (congrArg (fun l : List Value => Value.agg l.toArray) (bks_piece (f := dgC) D0 (by omega)))) ?_
    refine .al zero_53 fun b10 => ?_
    refine .sa sz_53 ?_
    refine .nil (.tn (.seq (.region ?_)))
    refine .w (.fieldAddr fa_69_0 rfl) ?_
    refine .w (.ld one_56 rfl) ?_
    refine .w (.as (v' := dgV (es.getD x D0)) (.lda agg_53 rfl) rfl) ?_
    refine .c (f32_spec hc.p hc.va hc.ta hc.sv (BitVec.ofNat 64 (sumS S)) S hc.votes (es.getD x D0) hok.tok (by omega) (by rw [BitVec.toNat_ofNat]; exact Nat.mod_eq_of_lt (by omega))) body_32 ?_
    refine .nil (.tn ?_)
    refine .cn rfl (fun hc3 => ?_) (fun hc3 => ?_)
    · have hth : third S hc.ab (es.getD x D0) := hc3
      obtain ⟨⟨v9, b9⟩, hb9⟩ := key_get hok.bl (third_key hok hth)
      obtain ⟨c9, he9⟩ := (MM.get_iff hok.bl).1 hb9
      have hm9 : Res.row v9 b9.length 5 1 (b9.map u8) ∈ hc.bl.es.map rowE := List.mem_map.2 ⟨_, he9, rfl⟩
      have hl9 := un_len (hok.nms _ _ _ hb9).2.1
      have hhit := bel_hit hg hok hes hso (by omega) hn hth hb9
      refine .seq (.region ?_)
      refine .w (.fieldAddr fa_69_1 rfl) ?_
      refine .w (.ld one_67 rfl) ?_
      refine .w (.as (v' := dgV (es.getD x D0)) (.lda agg_53 rfl) rfl) ?_
      refine .w (.as (v' := v9) (.lk (es.getD x D0) Tryz.underlying67 mkey_67 zf_23) (by rw [hb9]; rfl)) ?_
      refine .sepG (L := hc.bl.es.map rowE) (r := Res.row v9 b9.length 5 1 (b9.map u8)) zqa hm9 ?_
      refine .cb (f27_spec v9 b9.length (b9.map u8) (by omega) one_u8s) body_27 ?_
      rintro v40 _ ⟨_, _, rfl⟩
      refine .ap ?_
      refine .w (.assign rfl) ?_
      refine .w (.assign rfl) ?_
      refine .nil (.tn (.ret (.block_ret (.then_ret (.then_ret (.block_ret (.then_ret ?_)))))))
      refine .sp0 ?_
      refine .rs (A := [Res.row v40 b9.length 5 1 (b9.map u8)]) (B := []) (L := oR (some (v40, b9))) (List.Perm.refl _) ?_
      exact .dn [] [Res.sep (oR (some (v40, b9)))] (res2 rfl (.tmp rfl) (.tmp rfl)) ⟨some (v40, b9), rfl, hhit, fun x hx => (by obtain rfl := Option.some.inj hx; dsimp only; omega), rfl, rfl⟩
    · have hnt : ¬ third S hc.ab (es.getD x D0) := hc3
      refine .skip (.block_normal (.tn (.region ?_)))
      refine .w (.bin rfl rfl (BinR.add_i zqf)) ?_
      refine .w (.move rfl) ?_
      refine .nil ?_
      refine .hd (x + 1) ?_
      exact ⟨⟨by omega, fun j hj => by rcases Nat.lt_succ_iff_lt_or_eq.1 hj with h1 | rfl; exact hn j h1; exact hnt⟩, by omega⟩
  · have hend : BelR S (abM M h) none := bel_none hg hok hes (fun j hj => hn j (by omega))
    refine .exit (.then_exit (.then_exit (.block_exit (.tn (.seq (.region ?_))))))
    refine .w (.assign rfl) ?_
    refine .w (.assign rfl) ?_
    refine .nil (.tn (.ret ?_))
    refine .sp0 ?_
    exact .dn [] [Res.sep (oR none)] (res2 rfl (.tmp rfl) (.tmp rfl)) ⟨none, rfl, hend, fun x hx => (by cases hx), rfl, rfl⟩

theorem f12N_spec (c am : Nat) (sv : Value) (S : List W64) (M : MM (BitVec 64) HC) (hM : COk S M) (h2 : S.length ≤ 40) (h3 : sumS S < 9223372036854775808) (h : BitVec 64) (hg : M.get h = none) :
    Spec Tryz.prog 12 #[(ptr c 0), (u64 h)] [Res.cells c [sv, .map (some am)] 62, mpR am uK hcV M, Res.sep (hsL S M)] []
      (fun r Γ' H' => ∃ o : Option (Value × B8), r = .tuple #[bv o, .bool o.isSome] ∧ BelR S (abM M h) (o.map (·.2)) ∧ (∀ x, o = some x → x.2.length ≤ 100000) ∧ Γ' = [] ∧ H' = [Res.sep (oR o)]) := by
  refine Spec.of_args Tryz.func12 rfl Tryz.ntmps12 (by simp) fun w => ?_
  refine .seq (.region ?_)
  refine .w (.assign rfl) ?_
  refine .w (.assign rfl) ?_
  refine .nil (.tn (.seq (.region ?_)))
  refine .w (.move rfl) ?_
  refine .w (.nilCheck rfl) ?_
  refine .w (.fieldAddr fa_62_1 rfl) ?_
  refine .w (.ld one_60 rfl) ?_
  refine .w (.move rfl) ?_
  refine .w (.as (v' := .tuple #[hcZ, .bool false]) (.lk2 h Tryz.underlying60 mkey_60 zf_69) (by rw [hg]; rfl)) ?_
  refine .w (.move rfl) ?_
  refine .w (.as (v' := hcZ) (.extract rfl rfl) rfl) ?_
  refine .w (.extract rfl rfl) ?_
  refine .al zero_69 fun b6 => ?_
  refine .sa sz_69 ?_ (h1 := (by intro a ha; simp only [List.mem_cons, List.not_mem_nil, or_false] at ha; rcases ha with rfl | rfl <;> rfl))
  refine .w (.assign rfl) ?_
  refine .nil (.tn (.seq (.seq (.region ?_))))
  refine .w (.move rfl) ?_
  refine .w (.as (v' := .bool true) (.not rfl) rfl) ?_
  refine .nil (.tn ?_)
  refine .ct rfl ?_
  refine .seq (.region ?_)
  refine .w (.assign rfl) ?_
  refine .w (.assign rfl) ?_
  refine .nil (.tn (.ret (.then_ret ?_)))
  refine .sp0 ?_
  exact .dn [] [Res.sep (oR none)] (res2 rfl (.tmp rfl) (.tmp rfl)) ⟨none, rfl, fun x hx => (by simp [abM, hg] at hx), fun x hx => (by cases hx), rfl, rfl⟩

theorem f12_spec (c am : Nat) (sv : Value) (S : List W64) (M : MM (BitVec 64) HC) (hM : COk S M) (h2 : S.length ≤ 40) (h3 : sumS S < 9223372036854775808) (h : BitVec 64) :
    Spec Tryz.prog 12 #[(ptr c 0), (u64 h)] [Res.cells c [sv, .map (some am)] 62, mpR am uK hcV M, Res.sep (hsL S M)] []
      (fun r Γ' H' => ∃ o : Option (Value × B8), r = .tuple #[bv o, .bool o.isSome] ∧ BelR S (abM M h) (o.map (·.2)) ∧ (∀ x, o = some x → x.2.length ≤ 100000) ∧ Γ' = [] ∧ H' = [Res.sep (oR o)]) := by
  cases hg : M.get h with
  | some hc => exact f12S_spec c am sv S M hM h2 h3 h hc hg
  | none => exact f12N_spec c am sv S M hM h2 h3 h hg

theorem f11_spec (c am : Nat) (sv : Value) (S : List W64) (M : MM (BitVec 64) HC) (hM : COk S M) (h2 : S.length ≤ 40) (h3 : sumS S < 9223372036854775808) (h : BitVec 64) :
    Spec Tryz.prog 11 #[(ptr c 0), (u64 h)] [Res.cells c [sv, .map (some am)] 62, mpR am uK hcV M, Res.sep (hsL S M)] []
      (fun r Γ' H' => ∃ Z : Pcs, RunR S (abM M) h (bytesP Z) ∧ (∀ b ∈ bytesP Z, b.length ≤ 100000) ∧ Z.length ≤ 20 ∧ Γ' = [] ∧ H' = [Res.row r Z.length 23 1 (Z.map Prod.fst), Res.sep (rowsP Z 5)]) := by
  refine Spec.of_args Tryz.func11 rfl Tryz.ntmps11 (by simp) fun w => ?_
  refine .seq (.region ?_)
  refine .w (.assign rfl) ?_
  refine .nil (.tn (.seq (.region ?_)))
  refine .w (.assign rfl) ?_
  refine JO.nilRow 23 1 ?_
  refine JO.sp0 ?_
  refine .nil (.tn (.block ?_))
  refine .lp (ι := Nat × Value × Pcs) (fun x => x.2.2.length = x.1 ∧ RunP S (abM M) h (bytesP x.2.2) ∧ (∀ b ∈ bytesP x.2.2, b.length ≤ 100000) ∧ x.1 ≤ 20) (fun T x => (1, u64 (h + BitVec.ofNat 64 x.1)) :: (5, x.2.1) :: T) (fun T _ => T) (fun T x => Res.row x.2.1 x.2.2.length 23 1 (x.2.2.map Prod.fst) :: Res.sep (rowsP x.2.2 5) :: T) (fun x => 21 - x.1) (0, .slice none 0 0, []) [0] ?_ (fun x hx => ?_) (hE := (by refine ⟨?_, rfl, trivial⟩; show some _ = some _; simp))
  · exact ⟨rfl, fun i b hb => (by cases i <;> cases hb), fun b hb => (by cases hb), Nat.zero_le _⟩
  obtain ⟨k, vo, Z⟩ := x
  obtain ⟨hZl, hR, hb1, hk⟩ := hx
  dsimp only at hZl hR hb1 hk ⊢
  have hbl : (bytesP Z).length = k := by rw [bytesP_len]; exact hZl
  refine .block (.seq (.region ?_))
  skip
  refine .w (.move rfl) ?_
  refine .w (.move rfl) ?_
  refine .cb (f12_spec c am sv S M hM h2 h3 (h + BitVec.ofNat 64 k)) body_12 ?_ (h0 := by rintro _ _ _ ⟨_, _, _, _, h, _⟩; exact h)
  rintro _ _ ⟨o, rfl, hbel, hlo, _, rfl⟩
  refine .ap ?_
  refine .w (.move rfl) ?_
  refine .w (.extract rfl rfl) ?_
  refine .w (.extract rfl rfl) ?_
  refine .w (.assign rfl) ?_
  refine .w (.assign rfl) ?_
  refine .nil (.tn (.seq (.seq (.region ?_))))
  refine .w (.move rfl) ?_
  refine .w (.not rfl) ?_
  refine .nil (.tn ?_)
  refine .cn rfl (fun hc1 => ?_) (fun hc1 => ?_)
  · obtain rfl : o = none := by cases o <;> simp_all
    refine .seq (.region ?_)
    refine .w (.move rfl) ?_
    refine .w (.assign rfl) ?_
    refine .nil (.tn (.ret (.then_ret (.block_ret (.then_ret (.block_ret ?_))))))
    exact .dn [] [Res.row vo Z.length 23 1 (Z.map Prod.fst), Res.sep (rowsP Z 5)] (res1 rfl (.tmp rfl)) ⟨Z, ⟨hR, by rw [hbl]; exact hbel⟩, hb1, by omega, rfl, rfl⟩
  · obtain ⟨⟨v9, b9⟩, rfl⟩ : ∃ x, o = some x := by cases o <;> simp_all
    replace hlo := hlo _ rfl
    replace hbel : BelR S (abM M (h + BitVec.ofNat 64 k)) (some b9) := hbel
    refine JC.know (φ := v9.oneCell' = true) (fun w hs => (by
      have h1 : (Res.row v9 b9.length 5 1 (b9.map u8)).ok w := (hs.hok _ (List.mem_cons_self)).1 _ (List.Mem.head _)
      obtain ⟨A, c', hA, _⟩ := row_rd (by decide) (Res.row_ok.1 h1)
      rw [hA]; rfl)) fun hv9 => ?_
    refine .us (A := [Res.row v9 b9.length 5 1 (b9.map u8)]) (B := []) (L := oR (some (v9, b9))) (List.Perm.refl _) ?_
    refine .skip (.tn (.seq (.region ?_)))
    refine .w (.move rfl) ?_
    refine .w (.as (v' := v9) (.move rfl) rfl) ?_
    refine .l1 Tryz.underlying35 info_23 (fun v19 => ?_) (h1 := (one_sing hv9))
    refine .ap Tryz.underlying35 info_23 (fun v20 => ?_) (hone := (one_sing hv9))
    rw [snoc_row (b := b9)]
    refine .w (.assign rfl) ?_
    refine .nil (.tn (.region ?_))
    refine .w (.move rfl) ?_
    refine .w (.as (v' := u64 (h + BitVec.ofNat 64 (k + 1))) (.bin rfl rfl (BinR.add_u64 (b := 1#64))) (congrArg u64 (by rw [BitVec.ofNat_add, ← BitVec.add_assoc]))) ?_
    refine .w (.assign rfl) ?_
    refine .nil (.block_normal ?_)
    refine .rs (A := [Res.row v9 b9.length 5 1 (b9.map u8)]) (B := rowsP Z 5) (L := rowsP (Z ++ [(v9, b9)]) 5) (by simp [rowsP]) ?_
    refine .hd (k + 1, v20, Z ++ [(v9, b9)]) ?_
    have hR2 : RunP S (abM M) h (bytesP (Z ++ [(v9, b9)])) := by
      have := hR.snoc (b := b9) (by rw [hbl]; exact hbel)
      simpa [bytesP] using this
    have hk2 := run_len hM hR2 (by rw [bytesP_len, List.length_append, List.length_singleton]; omega)
    rw [bytesP_len, List.length_append, List.length_singleton] at hk2
    exact ⟨⟨by simp [hZl], hR2, fun b hb => by
      simp only [bytesP, List.map_append, List.mem_append, List.map_cons, List.map_nil, List.mem_singleton] at hb
      rcases hb with hb | rfl
      · exact hb1 b hb
      · exact hlo, by dsimp only; omega⟩, by dsimp only; omega⟩
end Go.Proofs.YthfipbjmpeegbaaGreatDoor

/- Walk: forgetting. -/
namespace Go.Proofs.YthfipbjmpeegbaaGreatDoor
open Go.RowKit
set_option maxRecDepth 100000
set_option linter.unusedVariables false
set_option linter.unusedSimpArgs false
theorem f16_spec (c am : Nat) (sv : Value) (S : List W64) (M : MM (BitVec 64) HC) (hM : COk S M) (below : BitVec 64) :
    Spec Tryz.prog 16 #[(ptr c 0), (u64 below)] [] [Res.cells c [sv, .map (some am)] 62, mpR am uK hcV M, Res.sep (hsL S M)]
      (fun r Γ' H' => r = it ((M.es.length : Int) - ((cutM M below).es.length : Int)) ∧ Γ' = [] ∧ H' = [Res.cells c [sv, .map (some am)] 62, mpR am uK hcV (cutM M below), Res.sep (hsL S (cutM M below))]) := by
  refine Spec.of_args Tryz.func16 rfl Tryz.ntmps16 (by simp) fun w => ?_
  have hle := hM.le
  have hle2 := (cok_cut (below := below) hM).le
  refine .seq (.region ?_)
  refine .w (.assign rfl) ?_
  refine .nil (.tn (.seq (.region ?_)))
  refine .w (.move rfl) ?_
  refine .w (.nilCheck rfl) ?_
  refine .w (.fieldAddr fa_62_1 rfl) ?_
  refine .w (.ld one_60 rfl) ?_
  refine .w (.len_m Tryz.underlying60 rfl) ?_
  refine .w (.assign rfl) ?_
  refine .nil (.tn (.seq (.seq (.region ?_))))
  refine .w (.move rfl) ?_
  refine .w (.nilCheck rfl) ?_
  refine .w (.fieldAddr fa_62_1 rfl) ?_
  refine .w (.ld one_60 rfl) ?_
  rw [show mpR am uK hcV M = mpR am uK hcV (cutS M below []) by rw [cutS_nil]]
  refine .rg Tryz.underlying60 fun r16 => ?_
  refine .nil (.tn (.block ?_))
  refine .lp (ι := List Nat) (fun x => True) (fun T _ => T) (fun T _ => T) (fun T x => mpR am uK hcV (cutS M below x) :: Res.mi r16 am M.ck x :: T) (fun x => leftN M x) ([]) [0, 1, 4, 5, 16, 29, 30, 31, 32, 33, 34, 35] ?_ (fun x hx => ?_)
  · trivial
  have hcok : (cutS M below x).Ok := ok_filter hM.ok _
  refine .seq (.region ?_)
  refine .nxs hcok rfl ?_ ?_
  · intro hall
    have hcm := cutS_all hall
    refine .w (.extract rfl rfl) ?_
    refine .nil (.tn (.seq ?_))
    refine .cf rfl ?_
    refine .exit (.then_exit (.then_exit (.block_exit (.tn (.seq (.region ?_))))))
    rw [hcm]
    refine .w (.move rfl) ?_
    refine .w (.move rfl) ?_
    refine .w (.nilCheck rfl) ?_
    refine .w (.fieldAddr fa_62_1 rfl) ?_
    refine .w (.ld one_60 rfl) ?_
    refine .w (.len_m Tryz.underlying60 rfl) ?_
    refine .w (.bin rfl rfl (BinR.sub_i zqf)) ?_
    refine .w (.assign rfl) ?_
    refine .nil (.tn (.ret ?_))
    refine .sepSub (L := hsL S M) (L' := hsL S (cutM M below)) (cut_perm _) ?_
    exact .dn [] [Res.cells c [sv, .map (some am)] 62, mpR am uK hcV (cutM M below), Res.sep (hsL S (cutM M below))] (res1 rfl (.tmp rfl)) ⟨rfl, rfl, rfl⟩
  · intro e he hne
    have hem := cutS_mem he
    refine .w (.extract rfl rfl) ?_
    refine .nil (.tn (.seq ?_))
    refine .ct rfl ?_
    refine .skip (.tn (.block (.seq (.region ?_))))
    refine .w (.ens hcok rfl he) ?_
    refine .w (.as (v' := u64 e.1) (.extract rfl rfl) rfl) ?_
    refine .w (.assign rfl) ?_
    refine .nil (.tn (.seq (.region ?_)))
    refine .w (.move rfl) ?_
    refine .w (.move rfl) ?_
    refine .w (.bin rfl rfl (BinR.lss_u64)) ?_
    refine .nil (.tn ?_)
    refine .cn rfl (fun hc2 => ?_) (fun hc2 => ?_)
    · have hcs := cutS_del hM.ok hem hne hc2
      refine .region ?_
      refine .w (.move rfl) ?_
      refine .w (.nilCheck rfl) ?_
      refine .w (.fieldAddr fa_62_1 rfl) ?_
      refine .w (.ld one_60 rfl) ?_
      refine .w (.move rfl) ?_
      refine .dl e.1 Tryz.underlying60 mkey_60 ?_
      refine .nil (.block_normal ?_)
      rw [hcs]
      refine .hd (x ++ [e.2.2]) ?_
      exact ⟨trivial, left_lt hem hne⟩
    · have hcs := cutS_keep (s := x) hM.ok hem hc2
      refine .skip (.block_normal ?_)
      rw [hcs]
      refine .hd (x ++ [e.2.2]) ?_
      exact ⟨trivial, left_lt hem hne⟩
end Go.Proofs.YthfipbjmpeegbaaGreatDoor

/- Numbers as_ blocks of one cell; swaps in a row of numbers. No program in sight. -/
namespace Go.Proofs.YthfipbjmpeegbaaGreatDoor
open Go.RowKit
set_option linter.unusedVariables false
def uC (x : BitVec 64) : List Value := [u64 x]
instance : FS uC 1 := ⟨fun _ => rfl, fun a v hv => by
  obtain rfl := List.mem_singleton.1 hv
  rfl⟩
theorem bks_uC (l : List (BitVec 64)) : bks uC l = l.map u64 := by
  unfold bks uC
  induction l with
  | nil => rfl
  | cons a l ih => rw [List.flatMap_cons, ih]; rfl
theorem snocKU {β : Type} {v : Value} {p : List (BitVec 64 × β × Nat)} {x : BitVec 64 × β × Nat} {e : TypeId} : Res.row v ((List.map (fun x => x.1) p).length + 1) e 1 (bks uC (List.map (fun x => x.1) p) ++ [u64 x.1]) = Res.row v (List.map (fun x => x.1) (p ++ [x])).length e 1 (bks uC (List.map (fun x => x.1) (p ++ [x]))) := by
  simp [bks, List.flatMap_append, uC]
theorem swap_perm {ys : List (BitVec 64)} {i j : Nat} (hi : i < ys.length) (hj : j < ys.length) : ((ys.set i (ys.getD j 0)).set j (ys.getD i 0)).Perm ys := by
  have e : ∀ k (hk : k < ys.length), ys.getD k 0 = ys[k] := fun k hk => by rw [List.getD_eq_getElem?_getD, List.getElem?_eq_getElem hk]; rfl
  rw [e i hi, e j hj]
  exact List.set_set_perm hi hj
theorem swap_map {ys : List (BitVec 64)} {i j : Nat} {a b : BitVec 64} : (((ys.map u64).set i (u64 a)).set j (u64 b)) = ((ys.set i a).set j b).map u64 := by rw [List.map_set, List.map_set]
theorem swap_row {v : Value} {n i j : Nat} {e : TypeId} {ys : List (BitVec 64)} {a b : BitVec 64} : Res.row v n e 1 (((ys.map u64).set i (u64 a)).set j (u64 b)) = Res.row v n e 1 (((ys.set i a).set j b).map u64) := by rw [swap_map]
end Go.Proofs.YthfipbjmpeegbaaGreatDoor

/- Walks: numbers sorted. -/
namespace Go.Proofs.YthfipbjmpeegbaaGreatDoor
open Go.RowKit
set_option maxRecDepth 100000
set_option linter.unusedVariables false
set_option linter.unusedSimpArgs false
theorem f119_spec (x : BitVec 64) :
    Spec Tryz.prog 119 #[(u64 x)] [] []
      (fun r Γ' H' => r = (.bool false) ∧ Γ' = [] ∧ H' = []) := by
  refine Spec.of_args Tryz.func119 rfl Tryz.ntmps119 (by simp) fun w => ?_
  refine .seq (.region ?_)
  refine .w (.assign rfl) ?_
  refine .nil (.tn (.seq (.region ?_)))
  refine .w (.move rfl) ?_
  refine .w (.move rfl) ?_
  refine .w (.as (v' := .bool false) (.bin rfl rfl (BinR.neq_u64)) (congrArg Value.bool (by simp))) ?_
  refine .w (.assign rfl) ?_
  refine .nil (.tn (.ret ?_))
  exact .dn [] [] (res1 rfl (.tmp rfl)) ⟨rfl, rfl, rfl⟩

theorem f105_spec (x y : BitVec 64) :
    Spec Tryz.prog 105 #[(u64 x), (u64 y)] [] []
      (fun r Γ' H' => r = (.bool (decide (x.toNat < y.toNat))) ∧ Γ' = [] ∧ H' = []) := by
  refine Spec.of_args Tryz.func105 rfl Tryz.ntmps105 (by simp) fun w => ?_
  refine .seq (.region ?_)
  refine .w (.assign rfl) ?_
  refine .nil (.tn (.seq (.region ?_)))
  refine .w (.move rfl) ?_
  refine .c (f119_spec x) body_119 ?_
  refine .w (.move rfl) ?_
  refine .gf (g := 7) rfl rfl rfl (by decide) ?_
  refine .gf (g := 7) rfl rfl rfl (by decide) ?_
  refine .gf (g := 7) rfl rfl rfl (by decide) ?_
  refine .w (.pick0 rfl rfl rfl) ?_
  refine .w (.move rfl) ?_
  refine .gt (g := 12) rfl rfl rfl ?_
  refine .w (.move rfl) ?_
  refine .gt (g := 12) rfl rfl rfl ?_
  refine .w (.move rfl) ?_
  refine .gt (g := 12) rfl rfl rfl ?_
  refine .w (.bin rfl rfl (BinR.lss_u64)) ?_
  refine .w (.pick0 rfl rfl rfl) ?_
  refine .w (.assign rfl) ?_
  refine .nil (.tn (.ret ?_))
  exact .dn [] [] (res1 rfl (.tmp rfl)) ⟨rfl, rfl, rfl⟩

theorem f99_spec (g c n : Nat) (xs : List W64) (hl : xs.length = n) (hn : n ≤ 1000) (a b : Nat) (hab : a ≤ b) (hb : b ≤ n) :
    Spec Tryz.prog 99 #[(.slice (some ⟨g, 0, none⟩) n c), (it (a : Int)), (it (b : Int))] [] [Res.row (.slice (some ⟨g, 0, none⟩) n c) n 30 1 (xs.map u64)]
      (fun r Γ' H' => ∃ ys : List W64, ys.Perm xs ∧ Γ' = [] ∧ H' = [Res.row (.slice (some ⟨g, 0, none⟩) n c) n 30 1 (ys.map u64)]) := by
  refine Spec.of_args Tryz.func99 rfl Tryz.ntmps99 (by simp) fun w => ?_
  refine .seq (.region ?_)
  refine .w (.move rfl) ?_
  refine .w (.asI ((a + 1 : Nat) : Int) (.bin rfl rfl (BinR.add_i zqf))) ?_
  refine .w (.assign rfl) ?_
  refine .nil (.tn (.block ?_))
  refine .lp (ι := Nat × List W64) (fun x => a + 1 ≤ x.1 ∧ x.1 ≤ n + 1 ∧ x.2.Perm xs) (fun T x => (6, it (x.1 : Int)) :: T) (fun T _ => T) (fun T x => Res.row (.slice (some ⟨g, 0, none⟩) n c) n 30 1 (x.2.map u64) :: T) (fun x => n + 1 - x.1) (a + 1, xs) [0, 1, 2] ?_ (fun x hx => ?_)
  · exact ⟨Nat.le_refl _, by dsimp only; omega, .refl _⟩
  obtain ⟨i, ys⟩ := x
  obtain ⟨h1, h2, hp⟩ := hx
  dsimp only at h1 h2 hp ⊢
  refine .seq (.seq (.region ?_))
  refine .w (.move rfl) ?_
  refine .w (.move rfl) ?_
  refine .w (.bin rfl rfl BinR.lss_i) ?_
  refine .nil (.tn ?_)
  refine .cn rfl (fun hc1 => ?_) (fun hc1 => ?_)
  · skip
    refine .skip (.tn (.seq (.block (.seq (.region ?_)))))
    refine .w (.move rfl) ?_
    refine .w (.assign rfl) ?_
    refine .nil (.tn (.block ?_))
    refine .lp (ι := Nat × List W64) (fun x => a ≤ x.1 ∧ x.1 ≤ i ∧ x.2.Perm xs) (fun T x => (7, it (x.1 : Int)) :: T) (fun T _ => T) (fun T x => Res.row (.slice (some ⟨g, 0, none⟩) n c) n 30 1 (x.2.map u64) :: T) (fun x => x.1) (i, ys) [0, 1, 2, 6, 10, 11, 12, 13, 14, 15] ?_ (fun x hx => ?_)
    · exact ⟨by dsimp only; omega, Nat.le_refl _, hp⟩
    obtain ⟨j, zs⟩ := x
    obtain ⟨h3, h4, hq⟩ := hx
    dsimp only at h3 h4 hq ⊢
    have hzl : zs.length = n := hq.length_eq.trans hl
    refine .seq (.seq ?_)
    refine JC.draw (.one 0 (.one 1 (.one 2 (.one 3 (.one 4 (.one 5 (.one 6 (.one 7 (.one 8 (.one 9 (.one 10 (.one 11 (.one 12 (.one 13 (.one 14 .nil))))))))))))))) (fun i => ([13] : List Nat).contains i) (fun i => ([13] : List Nat).contains i) (fun i => ([0, 1, 2, 3, 4, 5, 6, 8, 9, 10, 11, 14] : List Nat).contains i) mixed (by kernel_rfl) (by decide) (by kernel_rfl) ?_
    refine .uw rfl (.move rfl) ?_
    refine .uw rfl (.move rfl) ?_
    refine .uw rfl (.bin rfl rfl BinR.gtr_i) ?_
    refine .uw rfl (.move rfl) ?_
    refine JR.gsplit (g := 18) rfl (fun hg13 => ?_) (fun hg13 => ?_)
    · have hg13' := hg13
      try simp only [decide_eq_true_eq, decide_eq_false_iff_not, Bool.not_eq_true', Bool.not_eq_false', ne_eq, Decidable.not_not, Bool.not_eq_true, Bool.and_eq_true, Bool.or_eq_true, BitVec.reduceToNat] at hg13'
      refine JR.ugt (g := 19) rfl rfl rfl rfl rfl hg13 (.move rfl) (by decide) ?_
      refine JR.ugt (g := 19) rfl rfl rfl rfl rfl hg13 (.move rfl) (by decide) ?_
      refine JR.ugt (g := 19) rfl rfl rfl rfl rfl hg13 (.as (v' := ptr (blk (.slice (some ⟨g, 0, none⟩) n c)) j) (.indexSl0 Tryz.underlying22 sz_30 rfl rfl zqb) (congrArg (ptr g) (Nat.mul_one _))) (by decide) ?_
      refine JR.vgt (g := 19) rfl rfl rfl rfl rfl hg13 (.ld one_30 rfl) (by decide) ?_
      refine JR.ugt (g := 19) rfl rfl rfl rfl rfl hg13 (.move rfl) (by decide) ?_
      refine JR.ugt (g := 19) rfl rfl rfl rfl rfl hg13 (.move rfl) (by decide) ?_
      refine JR.ugt (g := 19) rfl rfl rfl rfl rfl hg13 (.asI ((j - 1 : Nat) : Int) (.bin rfl rfl (BinR.sub_i zqf))) (by decide) ?_
      refine JR.ugt (g := 19) rfl rfl rfl rfl rfl hg13 (.as (v' := ptr (blk (.slice (some ⟨g, 0, none⟩) n c)) (j - 1)) (.indexSl0 Tryz.underlying22 sz_30 rfl rfl zqb) (congrArg (ptr g) (Nat.mul_one _))) (by decide) ?_
      refine JR.vgt (g := 19) rfl rfl rfl rfl rfl hg13 (.ld one_30 rfl) (by decide) ?_
      refine JR.mgt (g := 19) rfl rfl rfl rfl hg13 (.c (f105_spec (zs.getD j 0) (zs.getD (j - 1) 0)) body_105) (by decide) ?_
      rintro _ _ _ ⟨rfl, rfl, rfl⟩
      refine kp ?_
      refine JR.u rfl rfl rfl (Yv.pick1 rfl hg13 rfl) (by decide) ?_
      refine .nil (.tn ?_)
      refine .cn rfl (fun hc2 => ?_) (fun hc2 => ?_)
      · have haj : a < j := by simp at hc2; omega
        refine .skip (.tn (.seq (.block ?_)))
        refine JC.draw (.one 0 (.one 1 (.one 2 (.one 3 (.one 4 (.one 5 (.one 6 (.one 7 (.one 8 (.one 9 (.one 10 (.one 11 (.one 12 (.one 13 (.one 14 (.one 15 (.one 16 (.one 17 .nil)))))))))))))))))) (fun i => ([15, 17] : List Nat).contains i) (fun i => ([15, 17] : List Nat).contains i) (fun i => ([0, 1, 2, 3, 4, 5, 6, 7, 8, 10, 11, 12, 14, 16] : List Nat).contains i) mixed (by kernel_rfl) (by decide) (by kernel_rfl) ?_
        refine .uw rfl (.move rfl) ?_
        refine .uw rfl (.move rfl) ?_
        refine .uw rfl (.move rfl) ?_
        refine .uw rfl (.move rfl) ?_
        refine .uw rfl (.asI ((j - 1 : Nat) : Int) (.bin rfl rfl (BinR.sub_i zqf))) ?_
        refine .uw rfl (.move rfl) ?_
        refine .uw rfl (.move rfl) ?_
        refine .uw rfl (.asI ((j - 1 : Nat) : Int) (.bin rfl rfl (BinR.sub_i zqf))) ?_
        refine .uw rfl (.as (v' := ptr (blk (.slice (some ⟨g, 0, none⟩) n c)) (j - 1)) (.indexSl0 Tryz.underlying22 sz_30 rfl rfl zqb) (congrArg (ptr g) (Nat.mul_one _))) ?_
        refine .w rfl (.ld one_30 rfl) ?_
        refine .uw rfl (.move rfl) ?_
        refine .uw rfl (.move rfl) ?_
        refine .uw rfl (.as (v' := ptr (blk (.slice (some ⟨g, 0, none⟩) n c)) j) (.indexSl0 Tryz.underlying22 sz_30 rfl rfl zqb) (congrArg (ptr g) (Nat.mul_one _))) ?_
        refine .w rfl (.ld one_30 rfl) ?_
        refine .uw rfl (.as (v' := ptr (blk (.slice (some ⟨g, 0, none⟩) n c)) j) (.indexSl0 Tryz.underlying22 sz_30 rfl rfl zqb) (congrArg (ptr g) (Nat.mul_one _))) ?_
        first | refine .mw0 rfl (.s1 sz_30) ?_ | refine .mw0 rfl (.sr1 sz_30) ?_
        rintro _ _ _ ⟨rfl, rfl⟩
        refine kp ?_
        refine .uw rfl (.as (v' := ptr (blk (.slice (some ⟨g, 0, none⟩) n c)) (j - 1)) (.indexSl0 Tryz.underlying22 sz_30 rfl rfl zqb) (congrArg (ptr g) (Nat.mul_one _))) ?_
        first | refine .mw0 rfl (.s1 sz_30) ?_ | refine .mw0 rfl (.sr1 sz_30) ?_
        rintro _ _ _ ⟨rfl, rfl⟩
        refine kp ?_
        rw [swap_row]
        refine .nil (.block_normal (.tn (.region ?_)))
        refine .w (.move rfl) ?_
        refine .w (.asI ((j - 1 : Nat) : Int) (.bin rfl rfl (BinR.sub_i zqf))) ?_
        refine .w (.assign rfl) ?_
        refine .nil ?_
        refine .hd (j - 1, ((zs.set j (zs.getD (j - 1) 0)).set (j - 1) (zs.getD j 0))) ?_
        have haj : a < j := by simp at hc2; omega
        exact ⟨⟨by dsimp only; omega, by dsimp only; omega, (swap_perm (by omega) (by omega)).trans hq⟩, by dsimp only; omega⟩
      · skip
        refine .exit (.then_exit (.then_exit (.block_exit (.block_normal (.tn (.region ?_))))))
        refine .w (.move rfl) ?_
        refine .w (.asI ((i + 1 : Nat) : Int) (.bin rfl rfl (BinR.add_i zqf))) ?_
        refine .w (.assign rfl) ?_
        refine .nil ?_
        refine .hd (i + 1, zs) ?_
        exact ⟨⟨by dsimp only; omega, by dsimp only; omega, hq⟩, by dsimp only; omega⟩
    · have hg13' := hg13
      try simp only [decide_eq_true_eq, decide_eq_false_iff_not, Bool.not_eq_true', Bool.not_eq_false', ne_eq, Decidable.not_not, Bool.not_eq_true, Bool.and_eq_true, Bool.or_eq_true, BitVec.reduceToNat] at hg13'
      refine JR.gf (g := 19) rfl rfl rfl rfl hg13 (by decide) ?_
      refine JR.gf (g := 19) rfl rfl rfl rfl hg13 (by decide) ?_
      refine JR.gf (g := 19) rfl rfl rfl rfl hg13 (by decide) ?_
      refine JR.gf (g := 19) rfl rfl rfl rfl hg13 (by decide) ?_
      refine JR.gf (g := 19) rfl rfl rfl rfl hg13 (by decide) ?_
      refine JR.gf (g := 19) rfl rfl rfl rfl hg13 (by decide) ?_
      refine JR.gf (g := 19) rfl rfl rfl rfl hg13 (by decide) ?_
      refine JR.gf (g := 19) rfl rfl rfl rfl hg13 (by decide) ?_
      refine JR.gf (g := 19) rfl rfl rfl rfl hg13 (by decide) ?_
      refine JR.gfm (g := 19) rfl rfl rfl rfl hg13 (by decide) ?_ ?_
      · exact ⟨Subs.sub zqe, .inl rfl⟩
      refine JR.u rfl rfl rfl (Yv.pick0 rfl hg13 rfl) (by decide) ?_
      refine .nil (.tn ?_)
      refine .k0 rfl rfl ?_
      refine .exit (.then_exit (.then_exit (.block_exit (.block_normal (.tn (.region ?_))))))
      refine .w (.move rfl) ?_
      refine .w (.asI ((i + 1 : Nat) : Int) (.bin rfl rfl (BinR.add_i zqf))) ?_
      refine .w (.assign rfl) ?_
      refine .nil ?_
      refine .hd (i + 1, zs) ?_
      exact ⟨⟨by dsimp only; omega, by dsimp only; omega, hq⟩, by dsimp only; omega⟩
  · skip
    refine .exit (.then_exit (.then_exit (.block_exit ?_)))
    exact .dn [] [Res.row (.slice (some ⟨g, 0, none⟩) n c) n 30 1 (ys.map u64)] (res_none rfl) ⟨ys, hp, rfl, rfl⟩
end Go.Proofs.YthfipbjmpeegbaaGreatDoor
