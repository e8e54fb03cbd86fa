/- The pool's laws: what is done; invariants. No program in sight. -/
import Derived.Test.YtffgimlkmfjgmaaP17p
import Derived.Test.YtffgimlkmfjgmaaK7
namespace Go.Proofs.Ytffgimlkmfjgmaa
open Go.RowKit
set_option linter.unusedVariables false
structure OpQ where
  d : Int
  n : Int
  A : Option Addr
  m : Nat
  c : Nat
  P : Pcs
def OpQ.v (o : OpQ) : Value := .slice o.A o.m o.c
def oqC (o : OpQ) : List Value := [it o.d, it o.n, o.v]
instance : FS oqC 3 := ⟨fun o => rfl, fun o v hv => by
  simp only [oqC, List.mem_cons, List.not_mem_nil, or_false] at hv
  rcases hv with rfl | rfl | rfl <;> rfl⟩
theorem OpQ.one (o : OpQ) : o.v.oneCell' = true := rfl
theorem OpQ.v_eq (o : OpQ) : o.v = .slice o.A o.m o.c := rfl
attribute [irreducible] OpQ.v
def oqAt (L : List OpQ) (k : Nat) : OpQ := L.getD k ⟨0, 0, none, 0, 0, []⟩
def oqR (o : OpQ) : RL := [Res.rd o.v o.P.length 1 (o.P.map Prod.fst), Res.all (pcRes o.P)]
def oqRes (L : List OpQ) : RL := L.flatMap oqR
theorem oq_mem {L : List OpQ} {k : Nat} (h : k < L.length) : oqAt L k ∈ L := by
  unfold oqAt
  rw [List.getD_eq_getElem?_getD, List.getElem?_eq_getElem h]
  exact List.getElem_mem h
theorem oq_r1 {L : List OpQ} {k : Nat} (h : k < L.length) : Res.rd (oqAt L k).v (oqAt L k).P.length 1 ((oqAt L k).P.map Prod.fst) ∈ oqRes L := List.mem_flatMap.2 ⟨_, oq_mem h, .head _⟩
theorem oq_r2 {L : List OpQ} {k : Nat} (h : k < L.length) : Res.all (pcRes (oqAt L k).P) ∈ oqRes L := List.mem_flatMap.2 ⟨_, oq_mem h, .tail _ (.head _)⟩
theorem oq_at {L : List OpQ} {k : Nat} (h : k < L.length) : ((bks oqC L).drop (k * 3)).take 3 = [it (oqAt L k).d, it (oqAt L k).n, (oqAt L k).v] := bks_piece (f := oqC) _ h
theorem oq_0 {L : List OpQ} {k : Nat} (h : k < L.length) : (bks oqC L)[k * 3 + 0]? = some (it (oqAt L k).d) := bks_get (f := oqC) (j := 0) _ h (by decide)
theorem oq_2 {L : List OpQ} {k : Nat} (h : k < L.length) : (bks oqC L)[k * 3 + 2]? = some (oqAt L k).v := bks_get (f := oqC) (j := 2) _ h (by decide)
theorem JO.openD {P : Program} {N : Nat} {C : Beg} {ops : Array Oper} {l : List Oper} {Q : Exit → Act → World → Prop} {E : Env} {Γ H : RL} (A : Pcs) (k : Nat) (hm : Res.all (pcRes A) ∈ Γ) (h : JO P N C ops l Q E (Res.rd (pcAt A k).1 (pcAt A k).2.length 1 ((pcAt A k).2.map u8) :: Γ) H) : JO P N C ops l Q E Γ H := by
  by_cases hk : k < A.length
  · exact .open hm (pc_res hk) h
  · have : pcAt A k = (.slice none 0 0, []) := by rw [pcAt, List.getD_eq_getElem?_getD, List.getElem?_eq_none (by omega)]; rfl
    rw [this] at h
    exact .nilRd 1 h
theorem JR.frzP {P : Program} {N : Nat} {C : Beg} {ops : Array Oper} {Q : Exit → Act → World → Prop} {E : Env} {Γ H G : RL} {T M U : Nat → Bool} {Γ0 H0 : RL} {l : OT} {A : Pcs} {e : TypeId} (hp : Pull (Res.sep (rowsP A e)) H G) (k : JR P N C ops T M U Γ0 H0 l Q E (Res.all (pcRes A) :: Γ) G) : JR P N C ops T M U Γ0 H0 l Q E Γ H := fun hq a w he hs => k hq a w he (St.frzP (hs.perm hp.perm))
theorem JR.allOf {P : Program} {N : Nat} {C : Beg} {ops : Array Oper} {Q : Exit → Act → World → Prop} {E : Env} {Γ H : RL} {T M U : Nat → Bool} {Γ0 H0 : RL} {l : OT} (X Y Z : Pcs) (hx : Res.all (pcRes X) ∈ Γ) (hy : Res.all (pcRes Y) ∈ Γ) (h : ∀ z ∈ Z, z ∈ X ∨ z ∈ Y) (k : JR P N C ops T M U Γ0 H0 l Q E (Res.all (pcRes Z) :: Γ) H) : JR P N C ops T M U Γ0 H0 l Q E Γ H :=
  fun hq a w he hs => k hq a w he (hs.allOf hx hy h)
/-- The two pools, alike. -/
structure Alike (mv : Value) (m : MM B8 Bool) (A B C : Pcs) : Prop where
  ok : DnOk mv m
  ab : bytesP A = bytesP B
  dn : ∀ b, wasB m b = decide (b ∈ bytesP C)
  le : A.length ≤ 30
  sm : ∀ b ∈ bytesP A, b.length ≤ 1000000
theorem Alike.len {mv : Value} {m : MM B8 Bool} {A B C : Pcs} (h : Alike mv m A B C) : A.length = B.length := by rw [← bytesP_len, h.ab, bytesP_len]
theorem Alike.dfun {mv : Value} {m : MM B8 Bool} {A B C : Pcs} (h : Alike mv m A B C) : wasB m = fun c => decide (c ∈ bytesP C) := funext h.dn
theorem alike_nil : Alike (.map none) MM.nil [] [] [] := ⟨.inl ⟨rfl, rfl⟩, rfl, fun b => by simp [wasB, bytesP], by decide, fun b hb => by cases hb⟩
theorem addE_0 {W : List B8} {m : B8 → Bool} {b : B8} (h : addE W m b = 0) : fitB b = true ∧ m b = false ∧ b ∉ W ∧ W.length < 30 := by
  unfold addE at h
  split at h
  · cases h
  · rename_i h1
    split at h
    · cases h
    · rename_i h2
      split at h
      · cases h
      · rename_i h3
        rw [has_mem] at h2
        simp at h1 h2
        exact ⟨h1, h2.1, h2.2, by omega⟩
theorem addN_len {W : List B8} {m : B8 → Bool} {b : B8} (h : W.length ≤ 30) : (W ++ addN W m b).length ≤ 30 := by
  by_cases h0 : addE W m b = 0
  · rw [show addN W m b = [b] from if_pos h0, List.length_append]
    have := (addE_0 h0).2.2.2
    simp; omega
  · rw [show addN W m b = [] from if_neg h0, List.append_nil]; exact h
theorem addN_fit {W : List B8} {m : B8 → Bool} {b : B8} : ∀ c ∈ addN W m b, c = b ∧ fitB b = true ∧ m b = false ∧ b ∉ W := by
  by_cases h0 : addE W m b = 0
  · rw [show addN W m b = [b] from if_pos h0]
    intro c hc
    rw [List.mem_singleton] at hc
    subst hc
    obtain ⟨h1, h2, h3, _⟩ := addE_0 h0
    exact ⟨rfl, h1, h2, h3⟩
  · rw [show addN W m b = [] from if_neg h0]
    intro c hc; cases hc
theorem Alike.add {mv : Value} {m : MM B8 Bool} {A B C N N' : Pcs} {b : B8} (h : Alike mv m A B C) (hN : bytesP N = addN (bytesP A) (wasB m) b) (hN' : bytesP N' = addN (bytesP B) (fun c => decide (c ∈ bytesP C)) b) : Alike mv m (A ++ N) (B ++ N') C := by
  have e1 : bytesP (A ++ N) = bytesP A ++ addN (bytesP A) (wasB m) b := by rw [← hN]; exact List.map_append
  have e2 : bytesP (B ++ N') = bytesP B ++ addN (bytesP B) (fun c => decide (c ∈ bytesP C)) b := by rw [← hN']; exact List.map_append
  refine ⟨h.ok, by rw [e1, e2, h.ab, h.dfun], h.dn, ?_, ?_⟩
  · rw [← bytesP_len, e1]
    exact addN_len (by rw [bytesP_len]; exact h.le)
  · intro c hc
    rw [e1] at hc
    rcases List.mem_append.1 hc with hc | hc
    · exact h.sm c hc
    · obtain ⟨rfl, hf, _⟩ := addN_fit c hc
      have := fit_le hf; omega
theorem Alike.addE {mv : Value} {m : MM B8 Bool} {A B C : Pcs} (h : Alike mv m A B C) (b : B8) : addE (bytesP B) (fun c => decide (c ∈ bytesP C)) b = addE (bytesP A) (wasB m) b := by rw [h.ab, h.dfun]
theorem Alike.done {mv mv' : Value} {m : MM B8 Bool} {A B C L : Pcs} (h : Alike mv m A B C) (hm : DnOk mv' (putsM m (bytesP L))) : Alike mv' (putsM m (bytesP L)) (delP A (bytesP L)) (notIn (bytesP L) B) (C ++ L) := by
  refine ⟨hm, by rw [delP_bytes, notIn_bytes, h.ab], fun b => ?_, Nat.le_trans (delP_le _ _) h.le, fun b hb => ?_⟩
  · rw [was_puts, h.dn, show bytesP (C ++ L) = bytesP C ++ bytesP L from List.map_append]
    by_cases h1 : b ∈ bytesP L <;> by_cases h2 : b ∈ bytesP C <;> simp [h1, h2]
  · rw [delP_bytes] at hb
    exact h.sm b (List.mem_filter.1 hb).1
theorem Alike.cnt {mv : Value} {m : MM B8 Bool} {A B C L : Pcs} (h : Alike mv m A B C) : (A.length : Int) - ((delP A (bytesP L)).length : Int) = ((B.length - (notIn (bytesP L) B).length : Nat) : Int) := by
  have h1 : (delP A (bytesP L)).length = (notIn (bytesP L) B).length := by rw [← bytesP_len, ← bytesP_len, delP_bytes, notIn_bytes, h.ab]
  have h2 := delP_le A (bytesP L)
  have h3 := h.len
  omega
/-- One pool: nothing waits twice, nothing that was done waits. -/
structure Once (mv : Value) (m : MM B8 Bool) (A : Pcs) : Prop where
  ok : DnOk mv m
  nd : (bytesP A).Nodup
  no : ∀ b ∈ bytesP A, wasB m b = false
  le : A.length ≤ 30
  sm : ∀ b ∈ bytesP A, b.length ≤ 1000000
theorem once_nil : Once (.map none) MM.nil [] := ⟨.inl ⟨rfl, rfl⟩, .nil, (fun b hb => by cases hb), by decide, fun b hb => by cases hb⟩
theorem Once.add {mv : Value} {m : MM B8 Bool} {A N : Pcs} {b : B8} (h : Once mv m A) (hN : bytesP N = addN (bytesP A) (wasB m) b) : Once mv m (A ++ N) := by
  have e1 : bytesP (A ++ N) = bytesP A ++ addN (bytesP A) (wasB m) b := by rw [← hN]; exact List.map_append
  have hf := addN_fit (W := bytesP A) (m := wasB m) (b := b)
  refine ⟨h.ok, ?_, ?_, ?_, ?_⟩
  · rw [e1]
    by_cases h0 : Proofs.Ytffgimlkmfjgmaa.addE (bytesP A) (wasB m) b = 0
    · have e2 : addN (bytesP A) (wasB m) b = [b] := if_pos h0
      rw [e2, nodup_snoc]
      rw [e2] at hf
      exact ⟨h.nd, (hf b (.head _)).2.2.2⟩
    · rw [show addN (bytesP A) (wasB m) b = [] from if_neg h0, List.append_nil]; exact h.nd
  · intro c hc
    rw [e1] at hc
    rcases List.mem_append.1 hc with hc | hc
    · exact h.no c hc
    · obtain ⟨rfl, _, h2, _⟩ := hf c hc
      exact h2
  · rw [← bytesP_len, e1]
    exact addN_len (by rw [bytesP_len]; exact h.le)
  · intro c hc
    rw [e1] at hc
    rcases List.mem_append.1 hc with hc | hc
    · exact h.sm c hc
    · obtain ⟨rfl, h3, _⟩ := hf c hc
      have := fit_le h3; omega
theorem Once.done {mv mv' : Value} {m : MM B8 Bool} {A L : Pcs} (h : Once mv m A) (hm : DnOk mv' (putsM m (bytesP L))) : Once mv' (putsM m (bytesP L)) (delP A (bytesP L)) := by
  refine ⟨hm, ?_, ?_, Nat.le_trans (delP_le _ _) h.le, ?_⟩
  · rw [delP_bytes]; exact h.nd.filter _
  · intro b hb
    rw [delP_bytes, List.mem_filter] at hb
    rw [was_puts, h.no b hb.1]
    simpa using hb.2
  · intro b hb
    rw [delP_bytes] at hb
    exact h.sm b (List.mem_filter.1 hb).1
theorem puts_was {m : MM B8 Bool} {L : Pcs} {k : Nat} (hk : k < L.length) : wasB (putsM m (bytesP L)) (pcAt L k).2 = true := by
  rw [was_puts, decide_eq_true (show (pcAt L k).2 ∈ bytesP L from List.mem_map.2 ⟨_, pc_mem hk, rfl⟩)]; rfl
theorem nodup_at {B : Pcs} (h : (bytesP B).Nodup) {k : Nat} (hk : k < B.length) : (pcAt B k).2 ∉ bytesP (B.take k) := by
  have h2 : ((bytesP B).take (k + 1)).Nodup := List.Sublist.nodup (List.take_sublist _ _) h
  rw [bytesP_get hk, nodup_snoc] at h2
  simpa [bytesP, List.map_take] using h2.2
end Go.Proofs.Ytffgimlkmfjgmaa
