/- Votes: what a list of votes holds; how a tally grows. No program in sight. -/
import Derived.Test.YtmbpngnamnoiaaaDoorR15
namespace Go.Proofs.YtmbpngnamnoiaaaDoor
open Go.RowKit
set_option linter.unusedVariables false
set_option linter.unusedSimpArgs false
abbrev VtE := Int × D32
abbrev vtC (e : VtE) : List Value := it e.1 :: dgC e.2
instance : FS vtC 33 := ⟨fun e => by simp [e.2.2], fun e v hv => by
  rcases List.mem_cons.1 hv with rfl | hv
  · rfl
  · exact FS.one (f := dgC) e.2 v hv⟩
def vtAt (l : List VtE) (k : Nat) : VtE := l.getD k (0, D0)
@[simp] theorem vts_len (l : List VtE) : (bks vtC l).length = l.length * 33 := bks_len l
theorem vt_who {l : List VtE} {k : Nat} (h : k < l.length) : (bks vtC l)[k * 33 + 0]? = some (it (vtAt l k).1) := by
  exact (bks_get (f := vtC) (j := 0) (0, D0) h (by decide)).trans List.getElem?_cons_zero
theorem vt_who' {l : List VtE} {k : Nat} (h : k < l.length) : (bks vtC l)[k * 33]? = some (it (vtAt l k).1) := by
  have := vt_who h
  rwa [Nat.add_zero] at this
theorem vt_dig {l : List VtE} {k : Nat} (h : k < l.length) : ((bks vtC l).drop (k * 33 + 1)).take 32 = (vtAt l k).2.1.map u8 := by
  have h1 := bks_piece (f := vtC) (0, D0) h
  have h2 := congrArg (fun x : List Value => x.drop 1) h1
  simp only [List.drop_take, List.drop_drop] at h2
  exact h2
/-! ### How a tally grows -/
def Grow (g g' : Int → Option D32) : Prop := ∀ k u, g k = some u → g' k = some u
theorem Grow.refl (g : Int → Option D32) : Grow g g := fun _ _ h => h
theorem Grow.trans {a b c : Int → Option D32} (h : Grow a b) (k : Grow b c) : Grow a c := fun x u hx => k x u (h x u hx)
theorem voteE_0 {S : List W64} {g : Int → Option D32} {who : Int} {v : D32} (h : voteE S g who v = 0) : 0 ≤ who ∧ who < S.length ∧ stk S who ≠ 0 ∧ g who = none := by
  unfold voteE at h
  split at h
  · cases h
  · split at h
    · cases h
    · split at h
      · cases h
      · split at h
        · cases h
        · rename_i h1 h2 h3 h4
          exact ⟨by omega, by omega, h2, by cases hg : g who with
            | none => rfl
            | some u => rw [hg] at h4; exact absurd rfl h4⟩
theorem vote_grow {S : List W64} {m m' : MM Int D32} {who : Int} {v : D32} (h : m' = if voteE S m.get who v = 0 then m.put who v else m) : Grow m.get m'.get := by
  subst h
  intro k u hk
  split
  · rename_i h0
    rw [MM.get_put]
    have := (voteE_0 h0).2.2.2
    split
    · rename_i e; subst e; rw [this] at hk; cases hk
    · exact hk
  · exact hk
theorem Grow.forA {S : List W64} {g g' : Int → Option D32} (h : Grow g g') (v : D32) : forA S g v ≤ forA S g' v :=
  byN_mono fun i _ hp => decide_eq_true (h _ _ (of_decide_eq_true hp))
theorem Grow.anyA {S : List W64} {g g' : Int → Option D32} (h : Grow g g') : anyA S g ≤ anyA S g' :=
  byN_mono fun i _ hp => by
    obtain ⟨u, hu⟩ := Option.isSome_iff_exists.1 hp
    rw [h _ _ hu]; rfl
theorem Grow.quo {S : List W64} {g g' : Int → Option D32} (h : Grow g g') {q : D32} (hq : Quo S g q) : Quo S g' q := by
  have := h.forA (S := S) q
  unfold Quo at *
  omega
theorem Grow.quoR {S : List W64} {g g' : Int → Option D32} (h : Grow g g') {o o' : Option D32} (ho : QuoR S g o) (ho' : QuoR S g' o') {q : D32} (e : o = some q) : o' = some q := by
  subst e
  have h1 : QuoR S g' (some q) := h.quo ho
  exact QuoR.uniq ho' h1
theorem for_any (S : List W64) (g : Int → Option D32) (v : D32) : Proofs.YtmbpngnamnoiaaaDoor.forA S g v ≤ Proofs.YtmbpngnamnoiaaaDoor.anyA S g := byN_mono fun i _ hp => by
  rw [of_decide_eq_true hp]; rfl
/-- Votes for two things are apart. -/
theorem for_apart {S : List W64} {g : Int → Option D32} {u v : D32} (hne : u ≠ v) : Proofs.YtmbpngnamnoiaaaDoor.forA S g u + Proofs.YtmbpngnamnoiaaaDoor.forA S g v ≤ sumS S := by
  have h1 := byN_or (S := S) (fun i => decide (g i = some u)) (fun i => decide (g i = some v))
  have h2 := byN_le (S := S) (fun i => decide (g i = some u) || decide (g i = some v))
  have h3 : byN S (fun i => decide (g i = some u) && decide (g i = some v)) ≤ byN S fun _ => false := byN_mono fun i _ hp => by
    simp only [Bool.and_eq_true, decide_eq_true_eq] at hp
    exact absurd (Option.some.inj (hp.1.symm.trans hp.2)) hne
  have h0 : byN S (fun _ => false) = 0 := by
    unfold byN
    generalize List.range S.length = l
    induction l with
    | nil => rfl
    | cons a l ih => simpa using ih
  unfold Proofs.YtmbpngnamnoiaaaDoor.forA
  omega
/-- How a list of votes leaves a tally. -/
theorem ofW {n : Nat} (h : n < 18446744073709551616) : (BitVec.ofNat 64 n).toNat = n := by rw [BitVec.toNat_ofNat]; exact Nat.mod_eq_of_lt h
theorem newE_ok {S : List W64} (h : newE S = 0) : 1 ≤ S.length ∧ S.length ≤ 40 ∧ sumS S < 9223372036854775808 := by
  unfold newE at h
  split at h
  · cases h
  · split at h
    · cases h
    · rename_i h1 h2
      refine ⟨by omega, by omega, ?_⟩
      have hl : S.length ≤ 40 := by omega
      have hb : ∀ l : List W64, sumS l ≤ l.length * 18446744073709551616 := fun l => by
        induction l with
        | nil => exact Nat.le_refl _
        | cons a l ih =>
          have := a.isLt
          have e : sumS (a :: l) = a.toNat + sumS l := rfl
          rw [e, List.length_cons, Nat.succ_mul]
          omega
      have := hb S
      have : S.length * 18446744073709551616 ≤ 40 * 18446744073709551616 := Nat.mul_le_mul_right _ hl
      rw [totN_sum (by omega)] at h2
      omega
/-! ### Who voted twice -/
structure TW (S : List W64) (tw : MM Int Bool) (n : Nat) : Prop where
  ok : tw.Ok
  rng : ∀ e ∈ tw.es, 0 ≤ e.1 ∧ e.1 < S.length
  len : tw.es.length ≤ n
theorem setL_len {α β : Type} [DecidableEq α] (k : α) (v : β) (c : Nat) : ∀ es : List (α × β × Nat), (MM.setL es k v c).length ≤ es.length + 1
  | [] => Nat.le_refl _
  | e :: es => by
    have := setL_len k v c es
    unfold MM.setL
    split
    · simp
    · simp only [List.length_cons]; omega
theorem TW.nil (S : List W64) : TW S MM.nil 0 := ⟨MM.ok_nil, by simp [MM.nil], Nat.le_refl _⟩
theorem TW.put {S : List W64} {tw : MM Int Bool} {n : Nat} (h : TW S tw n) {k : Int} (h0 : 0 ≤ k) (h1 : k < S.length) : TW S (tw.put k true) (n + 1) := by
  refine ⟨MM.ok_put h.ok k true, fun e he => ?_, Nat.le_trans (setL_len _ _ _ _) (by have := h.len; omega)⟩
  have hk := MM.ok_put h.ok k true
  have : (tw.put k true).get e.1 = some e.2.1 := (MM.get_iff hk).2 ⟨e.2.2, he⟩
  rw [MM.get_put] at this
  split at this
  · rename_i e1; rw [e1]; exact ⟨h0, h1⟩
  · obtain ⟨c, hc⟩ := (MM.get_iff h.ok).1 this
    have h2 := h.rng _ hc
    exact h2
theorem voteE_52 {S : List W64} {g : Int → Option D32} {who : Int} {v : D32} (h : voteE S g who v = 52) : 0 ≤ who ∧ who < S.length := by
  unfold voteE at h
  split at h
  · cases h
  · omega
theorem TW.vote {S : List W64} {g : Int → Option D32} {tw tw' : MM Int Bool} {n : Nat} {who : Int} {v : D32} (h : TW S tw n) (e : tw' = if voteE S g who v = 52 then tw.put who true else tw) : TW S tw' (n + 1) := by
  subst e
  split
  · rename_i h52
    exact h.put (voteE_52 h52).1 (voteE_52 h52).2
  · exact ⟨h.ok, h.rng, Nat.le_succ_of_le h.len⟩
theorem TW.wf {S : List W64} {tw : MM Int Bool} {n : Nat} (h : TW S tw n) (hS : S.length ≤ 1000000) : ∀ e ∈ tw.es, (Lit.int .i64 e.1).wf = true := fun e he => by
  have := h.rng e he
  have a1 : IntKind.min .i64 = -9223372036854775808 := by decide
  have a2 : IntKind.max .i64 = 9223372036854775807 := by decide
  simp only [Lit.wf, a1, a2, Bool.and_eq_true, decide_eq_true_eq]
  omega
/-! ### Two quorums -/
theorem cross {S : List W64} {g g' : Int → Option D32} {p q : D32} (hp : Quo S g p) (hq : Quo S g' q) : sumS S < 3 * byN S (fun i : Nat => decide (g (i : Int) = some p ∧ g' (i : Int) = some q)) := by
  have h1 := byN_or (S := S) (fun i : Nat => decide (g (i : Int) = some p)) (fun i : Nat => decide (g' (i : Int) = some q))
  have h2 := byN_le (S := S) (fun i : Nat => decide (g (i : Int) = some p) || decide (g' (i : Int) = some q))
  have h3 : (fun i : Nat => decide (g (i : Int) = some p ∧ g' (i : Int) = some q)) = fun i : Nat => decide (g (i : Int) = some p) && decide (g' (i : Int) = some q) := by
    funext i
    exact Bool.decide_and _ _
  rw [h3]
  unfold Quo Proofs.YtmbpngnamnoiaaaDoor.forA at hp hq
  omega
/-! ### Whatever the order -/
def dg1 (b : BitVec 8) : D32 := ⟨b :: List.replicate 31 0, rfl⟩
/-- Who of those from a up to b have voted, each for its own. -/
def inG (S : List W64) (l : List (BitVec 8)) (a b : Nat) : Int → Option D32 := fun k => if (a : Int) ≤ k ∧ k < (b : Int) ∧ k < (S.length : Int) ∧ stk S k ≠ 0 then some (dg1 (l.getD k.toNat 0)) else none
theorem inG_nil (S : List W64) (l : List (BitVec 8)) (a : Nat) : inG S l a a = fun _ => none := by
  funext k
  exact if_neg (by omega)
theorem voteE_none {S : List W64} {g : Int → Option D32} {k : Nat} {v : D32} (h : g (k : Int) = none) : voteE S g (k : Int) v = if k < S.length ∧ stk S (k : Int) ≠ 0 then 0 else if k < S.length then 51 else 1 := by
  unfold voteE
  by_cases h1 : k < S.length
  · rw [if_neg (by omega)]
    by_cases h2 : stk S (k : Int) = 0
    · rw [if_pos h2, if_neg (fun h => h.2 h2), if_pos h1]
    · rw [if_neg h2, if_neg (by rw [h]; simp), if_neg (by rw [h]; simp), if_pos ⟨h1, h2⟩]
  · rw [if_pos (by omega), if_neg (fun h => h1 h.1), if_neg h1]
theorem up_vote {S : List W64} {l : List (BitVec 8)} {m m' : MM Int D32} {x : Nat} (hm : m.get = inG S l 0 x) (h : m' = if voteE S m.get (x : Int) (dg1 (l.getD x 0)) = 0 then m.put (x : Int) (dg1 (l.getD x 0)) else m) : m'.get = inG S l 0 (x + 1) ∧ voteE S m.get (x : Int) (dg1 (l.getD x 0)) ≠ 52 := by
  have h0 : m.get (x : Int) = none := by rw [hm]; exact if_neg (by omega)
  have hE := voteE_none (S := S) (v := dg1 (l.getD x 0)) h0
  subst h
  refine ⟨?_, by rw [hE]; by_cases h1 : stk S (x : Int) = 0 <;> by_cases h2 : x < S.length <;> simp [h1, h2]⟩
  rw [hE]
  by_cases hc : x < S.length ∧ stk S (x : Int) ≠ 0
  · rw [if_pos hc, if_pos rfl]
    funext k
    rw [MM.get_put, hm]
    unfold inG
    by_cases hk : k = (x : Int)
    · subst hk
      rw [if_pos rfl, if_pos ⟨by omega, by omega, by omega, hc.2⟩, Int.toNat_natCast]
    · rw [if_neg hk]
      by_cases h2 : ((0 : Nat) : Int) ≤ k ∧ k < (x : Int) ∧ k < (S.length : Int) ∧ stk S k ≠ 0
      · rw [if_pos h2, if_pos ⟨h2.1, by omega, h2.2.2⟩]
      · rw [if_neg h2, if_neg (fun h => h2 ⟨h.1, by omega, h.2.2⟩)]
  · rw [if_neg hc]
    have : ¬ (if x < S.length then (51 : Int) else 1) = 0 := by split <;> decide
    rw [if_neg this, hm]
    funext k
    unfold inG
    by_cases hk : k = (x : Int)
    · subst hk
      rw [if_neg (by omega), if_neg (fun h => hc ⟨by omega, h.2.2.2⟩)]
    · by_cases h2 : ((0 : Nat) : Int) ≤ k ∧ k < (x : Int) ∧ k < (S.length : Int) ∧ stk S k ≠ 0
      · rw [if_pos h2, if_pos ⟨h2.1, by omega, h2.2.2⟩]
      · rw [if_neg h2, if_neg (fun h => h2 ⟨h.1, by omega, h.2.2⟩)]
theorem dn_vote {S : List W64} {l : List (BitVec 8)} {m m' : MM Int D32} {x n : Nat} (hm : m.get = inG S l (x + 1) n) (hx : x < n) (h : m' = if voteE S m.get (x : Int) (dg1 (l.getD x 0)) = 0 then m.put (x : Int) (dg1 (l.getD x 0)) else m) : m'.get = inG S l x n ∧ voteE S m.get (x : Int) (dg1 (l.getD x 0)) ≠ 52 := by
  have h0 : m.get (x : Int) = none := by rw [hm]; exact if_neg (by omega)
  have hE := voteE_none (S := S) (v := dg1 (l.getD x 0)) h0
  subst h
  refine ⟨?_, by rw [hE]; by_cases h1 : stk S (x : Int) = 0 <;> by_cases h2 : x < S.length <;> simp [h1, h2]⟩
  rw [hE]
  by_cases hc : x < S.length ∧ stk S (x : Int) ≠ 0
  · rw [if_pos hc, if_pos rfl]
    funext k
    rw [MM.get_put, hm]
    unfold inG
    by_cases hk : k = (x : Int)
    · subst hk
      rw [if_pos rfl, if_pos ⟨by omega, by omega, by omega, hc.2⟩, Int.toNat_natCast]
    · rw [if_neg hk]
      by_cases h2 : ((x + 1 : Nat) : Int) ≤ k ∧ k < (n : Int) ∧ k < (S.length : Int) ∧ stk S k ≠ 0
      · rw [if_pos h2, if_pos ⟨by omega, h2.2⟩]
      · rw [if_neg h2, if_neg (fun h => h2 ⟨by omega, h.2⟩)]
  · rw [if_neg hc]
    have : ¬ (if x < S.length then (51 : Int) else 1) = 0 := by split <;> decide
    rw [if_neg this, hm]
    funext k
    unfold inG
    by_cases hk : k = (x : Int)
    · subst hk
      rw [if_neg (by omega), if_neg (fun h => hc ⟨by omega, h.2.2.2⟩)]
    · by_cases h2 : ((x + 1 : Nat) : Int) ≤ k ∧ k < (n : Int) ∧ k < (S.length : Int) ∧ stk S k ≠ 0
      · rw [if_pos h2, if_pos ⟨by omega, h2.2⟩]
      · rw [if_neg h2, if_neg (fun h => h2 ⟨by omega, h.2⟩)]
/-! ### The chapter's examples -/
def awS : List W64 := [1, 1, 1, 1]
def awM (k : Nat) : MM Int D32 := (List.range k).foldl (fun m (i : Nat) => m.put (i : Int) (dg1 1)) MM.nil
theorem awV (k : Nat) (hk : k < 3) : (if voteE awS (awM k).get (k : Int) (dg1 1) = 0 then (awM k).put (k : Int) (dg1 1) else awM k) = awM (k + 1) := by
  have h : voteE awS (awM k).get (k : Int) (dg1 1) = 0 := by
    have : k = 0 ∨ k = 1 ∨ k = 2 := by omega
    rcases this with rfl | rfl | rfl <;> decide +kernel
  rw [if_pos h]; unfold awM; rw [List.range_succ, List.foldl_append]
  rfl
theorem awV' (k : Nat) (hk : k < 3) (tw : MM Int Bool) : (if voteE awS (awM k).get (k : Int) (dg1 1) = 52 then tw.put (k : Int) true else tw) = tw := by
  have h : voteE awS (awM k).get (k : Int) (dg1 1) = 0 := by
    have : k = 0 ∨ k = 1 ∨ k = 2 := by omega
    rcases this with rfl | rfl | rfl <;> decide +kernel
  rw [h]; rfl
theorem awE : voteE awS (awM 3).get 0 (dg1 2) = 52 := by decide +kernel
theorem awQ2 {o : Option D32} (h : QuoR awS (awM 2).get o) : o = none := by
  refine QuoR.uniq h fun v hv => ?_
  have h1 := for_any awS (awM 2).get v
  have h2 : anyA awS (awM 2).get = 2 := by decide +kernel
  have h3 : sumS awS = 4 := by decide +kernel
  unfold Quo at hv
  omega
theorem awQ3 {o : Option D32} (h : QuoR awS (awM 3).get o) : o = some (dg1 1) := by
  refine QuoR.uniq h ?_
  show Quo awS (awM 3).get (dg1 1)
  unfold Quo
  have h2 : forA awS (awM 3).get (dg1 1) = 3 := by decide +kernel
  have h3 : sumS awS = 4 := by decide +kernel
  omega
end Go.Proofs.YtmbpngnamnoiaaaDoor
