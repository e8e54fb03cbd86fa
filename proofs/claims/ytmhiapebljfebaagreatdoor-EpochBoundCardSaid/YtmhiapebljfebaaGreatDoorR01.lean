/- Texts of ours, gathered: A1 A2 A3 A4 A5 A6. -/
import Derived.WalkKit
import Derived.OrdersHeld
import Derived.Laws.AppendOwn
import Derived.Deep.LoopGhost
import Derived.Laws.OwnMore
import Derived.Laws.MakeOwn
import Derived.Maps.AppendAt
import Derived.Great.BuildSlice
import Derived.Deep.OwnRows
set_option linter.unusedVariables false
set_option linter.unusedSimpArgs false
set_option maxRecDepth 100000
/- A small separation calculus over 'Calls': resources, states, and how calls and stores move them. No program in sight. -/
namespace Go.Proofs.YtmhiapebljfebaaGreatDoor
open Go.RowKit

/-! ### Resources -/

/-- A thing that is known of the memory, and the blocks that it is known of. -/
structure Res where
  fp : Nat → Prop
  ok : World → Prop
  loc : ∀ w w' : World, (∀ k, fp k → w'.heap[k]? = w.heap[k]?) → ok w → ok w'

abbrev RL := List Res

def FP (H : RL) (k : Nat) : Prop := ∃ r ∈ H, r.fp k

/-- Of the old blocks, only those of S may have turned. -/
structure Stp (S : Nat → Prop) (w w' : World) : Prop where
  os : w'.os = w.os
  tape : w'.tape = w.tape
  output : w'.output = w.output
  size : w.heap.size ≤ w'.heap.size
  block : ∀ k, k < w.heap.size → ¬ S k → w'.heap[k]? = w.heap[k]?

theorem Stp.refl (S : Nat → Prop) (w : World) : Stp S w w := ⟨rfl, rfl, rfl, Nat.le_refl _, fun _ _ _ => rfl⟩
theorem Stp.mono {S S' : Nat → Prop} {w w' : World} (h : Stp S w w') (hs : ∀ k, k < w.heap.size → S k → S' k) : Stp S' w w' :=
  ⟨h.os, h.tape, h.output, h.size, fun k hk hn => h.block k hk fun hS => hn (hs k hk hS)⟩
theorem Stp.trans {S S' : Nat → Prop} {a b c : World} (h : Stp S a b) (k : Stp S' b c) (hs : ∀ k, k < a.heap.size → S' k → S k) : Stp S a c :=
  ⟨k.os.trans h.os, k.tape.trans h.tape, k.output.trans h.output, Nat.le_trans h.size k.size,
   fun i hi hn => (k.block i (Nat.lt_of_lt_of_le hi h.size) fun hS => hn (hs i hi hS)).trans (h.block i hi hn)⟩
theorem Stp.below {w w' : World} (h : Stp (fun _ => False) w w') : Below w.heap.size w w' :=
  ⟨h.os, h.tape, h.output, h.size, fun k hk => h.block k hk id⟩

/-- What is held of the memory: Γ may be read by all and stays; H is one's own, each apart from the others. -/
structure Sat (Γ H : RL) (w : World) : Prop where
  gok : ∀ r ∈ Γ, r.ok w
  glt : ∀ r ∈ Γ, ∀ k, r.fp k → k < w.heap.size
  hok : ∀ r ∈ H, r.ok w
  hlt : ∀ r ∈ H, ∀ k, r.fp k → k < w.heap.size
  hdj : H.Pairwise fun r s => ∀ k, r.fp k → ¬ s.fp k
  ghd : ∀ r ∈ Γ, ∀ s ∈ H, ∀ k, r.fp k → ¬ s.fp k

theorem Sat.nil (w : World) : Sat [] [] w := ⟨by simp, by simp, by simp, by simp, .nil, by simp⟩

/-- Where a call began. -/
structure Beg where
  w0 : World
  Γ0 : RL
  H0 : RL

/-- What is held now, and what has become of the memory since the beginning. -/
structure St (C : Beg) (Γ H : RL) (w : World) : Prop where
  sat : Sat Γ H w
  stp : Stp (FP C.H0) C.w0 w
  hsub : ∀ k, FP H k → FP C.H0 k ∨ C.w0.heap.size ≤ k
  gsub : ∀ k, FP Γ k → FP C.Γ0 k ∨ FP C.H0 k ∨ C.w0.heap.size ≤ k

theorem St.begin {Γ H : RL} {w : World} (h : Sat Γ H w) : St ⟨w, Γ, H⟩ Γ H w :=
  ⟨h, Stp.refl _ _, fun _ hk => .inl hk, fun _ hk => .inl hk⟩

theorem FP_append {H G : RL} {k : Nat} : FP (H ++ G) k ↔ FP H k ∨ FP G k := by
  unfold FP
  constructor
  · rintro ⟨r, hr, hk⟩
    rcases List.mem_append.1 hr with h | h
    · exact .inl ⟨r, h, hk⟩
    · exact .inr ⟨r, h, hk⟩
  · rintro (⟨r, hr, hk⟩ | ⟨r, hr, hk⟩)
    · exact ⟨r, List.mem_append.2 (.inl hr), hk⟩
    · exact ⟨r, List.mem_append.2 (.inr hr), hk⟩

/-- The order of what one owns does not matter. -/
theorem Sat.perm {Γ H H' : RL} {w : World} (h : Sat Γ H w) (hp : H.Perm H') : Sat Γ H' w where
  gok := h.gok
  glt := h.glt
  hok r hr := h.hok r (hp.mem_iff.2 hr)
  hlt r hr := h.hlt r (hp.mem_iff.2 hr)
  hdj := hp.pairwise h.hdj (fun hrs k hs hr => hrs k hr hs)
  ghd r hr s hs := h.ghd r hr s (hp.mem_iff.2 hs)

theorem FP_perm {H H' : RL} (hp : H.Perm H') {k : Nat} : FP H k ↔ FP H' k := by
  unfold FP
  constructor
  · rintro ⟨r, hr, hk⟩; exact ⟨r, hp.mem_iff.1 hr, hk⟩
  · rintro ⟨r, hr, hk⟩; exact ⟨r, hp.mem_iff.2 hr, hk⟩

theorem St.perm {C : Beg} {Γ H H' : RL} {w : World} (h : St C Γ H w) (hp : H.Perm H') : St C Γ H' w :=
  ⟨h.sat.perm hp, h.stp, fun k hk => h.hsub k ((FP_perm hp).2 hk), h.gsub⟩

/-- What is not needed any more may be let go. -/
theorem Sat.weak {Γ Γ' H G : RL} {w : World} (h : Sat Γ (H ++ G) w) (hg : ∀ r ∈ Γ', r ∈ Γ) : Sat Γ' H w where
  gok r hr := h.gok r (hg r hr)
  glt r hr := h.glt r (hg r hr)
  hok r hr := h.hok r (List.mem_append.2 (.inl hr))
  hlt r hr := h.hlt r (List.mem_append.2 (.inl hr))
  hdj := (List.pairwise_append.1 h.hdj).1
  ghd r hr s hs := h.ghd r (hg r hr) s (List.mem_append.2 (.inl hs))

theorem St.weak {C : Beg} {Γ Γ' H G : RL} {w : World} (h : St C Γ (H ++ G) w) (hg : ∀ r ∈ Γ', r ∈ Γ) : St C Γ' H w :=
  ⟨h.sat.weak hg, h.stp, fun k hk => h.hsub k (FP_append.2 (.inl hk)), fun k ⟨r, hr, hk⟩ => h.gsub k ⟨r, hg r hr, hk⟩⟩

/-- **The frame rule**: what a part of the memory came to, beside all that is held besides. -/
theorem St.frame {C : Beg} {Γ Γc Γ' Hc G H' : RL} {w w' : World} (h : St C Γ (Hc ++ G) w) (hg : ∀ r ∈ Γc, r ∈ Γ)
    (hc : St ⟨w, Γc, Hc⟩ Γ' H' w') : St C (Γ' ++ Γ) (H' ++ G) w' := by
  have hdj := List.pairwise_append.1 h.sat.hdj
  have hcG : ∀ k, FP Hc k → ¬ FP G k := fun k ⟨r, hr, hk⟩ ⟨s, hs, hk'⟩ => hdj.2.2 r hr s hs k hk hk'
  have hltc : ∀ k, FP Hc k → k < w.heap.size := fun k ⟨r, hr, hk⟩ => h.sat.hlt r (List.mem_append.2 (.inl hr)) k hk
  have hltG : ∀ k, FP G k → k < w.heap.size := fun k ⟨r, hr, hk⟩ => h.sat.hlt r (List.mem_append.2 (.inr hr)) k hk
  have hltΓ : ∀ k, FP Γ k → k < w.heap.size := fun k ⟨r, hr, hk⟩ => h.sat.glt r hr k hk
  have hΓc : ∀ k, FP Γ k → ¬ FP Hc k := fun k ⟨r, hr, hk⟩ ⟨s, hs, hk'⟩ => h.sat.ghd r hr s (List.mem_append.2 (.inl hs)) k hk hk'
  have hΓG : ∀ k, FP Γ k → ¬ FP G k := fun k ⟨r, hr, hk⟩ ⟨s, hs, hk'⟩ => h.sat.ghd r hr s (List.mem_append.2 (.inr hs)) k hk hk'
  have hH' : ∀ k, FP H' k → FP Hc k ∨ w.heap.size ≤ k := hc.hsub
  have hΓ' : ∀ k, FP Γ' k → FP Γc k ∨ FP Hc k ∨ w.heap.size ≤ k := hc.gsub
  have hΓcΓ : ∀ k, FP Γc k → FP Γ k := fun k ⟨r, hr, hk⟩ => ⟨r, hg r hr, hk⟩
  have hsz : w.heap.size ≤ w'.heap.size := hc.stp.size
  have hsame : ∀ k, k < w.heap.size → ¬ FP Hc k → w'.heap[k]? = w.heap[k]? := hc.stp.block
  refine ⟨⟨?_, ?_, ?_, ?_, ?_, ?_⟩, ?_, ?_, ?_⟩
  · intro r hr
    rcases List.mem_append.1 hr with hr | hr
    · exact hc.sat.gok r hr
    · exact r.loc w w' (fun k hk => hsame k (h.sat.glt r hr k hk) (hΓc k ⟨r, hr, hk⟩)) (h.sat.gok r hr)
  · intro r hr k hk
    rcases List.mem_append.1 hr with hr | hr
    · exact hc.sat.glt r hr k hk
    · exact Nat.lt_of_lt_of_le (h.sat.glt r hr k hk) hsz
  · intro r hr
    rcases List.mem_append.1 hr with hr | hr
    · exact hc.sat.hok r hr
    · have hrm := List.mem_append.2 (.inr hr : r ∈ Hc ∨ r ∈ G)
      exact r.loc w w' (fun k hk => hsame k (h.sat.hlt r hrm k hk) (fun hck => hcG k hck ⟨r, hr, hk⟩)) (h.sat.hok r hrm)
  · intro r hr k hk
    rcases List.mem_append.1 hr with hr | hr
    · exact hc.sat.hlt r hr k hk
    · exact Nat.lt_of_lt_of_le (h.sat.hlt r (List.mem_append.2 (.inr hr)) k hk) hsz
  · refine List.pairwise_append.2 ⟨hc.sat.hdj, hdj.2.1, ?_⟩
    intro r hr s hs k hk hk'
    rcases hH' k ⟨r, hr, hk⟩ with hx | hx
    · exact hcG k hx ⟨s, hs, hk'⟩
    · exact absurd (hltG k ⟨s, hs, hk'⟩) (by omega)
  · intro r hr s hs k hk hk'
    rcases List.mem_append.1 hr with hr | hr <;> rcases List.mem_append.1 hs with hs | hs
    · exact hc.sat.ghd r hr s hs k hk hk'
    · have hG : FP G k := ⟨s, hs, hk'⟩
      rcases hΓ' k ⟨r, hr, hk⟩ with hx | hx | hx
      · exact hΓG k (hΓcΓ k hx) hG
      · exact hcG k hx hG
      · exact absurd (hltG k hG) (by omega)
    · have hG : FP Γ k := ⟨r, hr, hk⟩
      rcases hH' k ⟨s, hs, hk'⟩ with hx | hx
      · exact hΓc k hG hx
      · exact absurd (hltΓ k hG) (by omega)
    · exact hΓG k ⟨r, hr, hk⟩ ⟨s, hs, hk'⟩
  · refine h.stp.trans hc.stp fun k hk hS => ?_
    rcases h.hsub k (FP_append.2 (.inl hS)) with hx | hx
    · exact hx
    · omega
  · intro k hk
    rcases FP_append.1 hk with hk | hk
    · rcases hH' k hk with hx | hx
      · exact h.hsub k (FP_append.2 (.inl hx))
      · exact .inr (Nat.le_trans h.stp.size hx)
    · exact h.hsub k (FP_append.2 (.inr hk))
  · intro k hk
    rcases FP_append.1 hk with hk | hk
    · rcases hΓ' k hk with hx | hx | hx
      · exact h.gsub k (hΓcΓ k hx)
      · exact .inr (h.hsub k (FP_append.2 (.inl hx)))
      · exact .inr (.inr (Nat.le_trans h.stp.size hx))
    · exact h.gsub k hk

/-- What is one's own, and shall not be written any more, may be read by all. -/
theorem St.freeze {C : Beg} {Γ H : RL} {r : Res} {w : World} (h : St C Γ (r :: H) w) : St C (r :: Γ) H w := by
  have hp := List.pairwise_cons.1 h.sat.hdj
  refine ⟨⟨?_, ?_, fun s hs => h.sat.hok s (.tail _ hs), fun s hs => h.sat.hlt s (.tail _ hs), hp.2, ?_⟩, h.stp, fun k ⟨s, hs, hk⟩ => h.hsub k ⟨s, .tail _ hs, hk⟩, ?_⟩
  · intro s hs
    rcases List.mem_cons.1 hs with rfl | hs
    · exact h.sat.hok _ (.head _)
    · exact h.sat.gok s hs
  · intro s hs
    rcases List.mem_cons.1 hs with rfl | hs
    · exact h.sat.hlt _ (.head _)
    · exact h.sat.glt s hs
  · intro s hs t ht k hk hk'
    rcases List.mem_cons.1 hs with rfl | hs
    · exact hp.1 t ht k hk hk'
    · exact h.sat.ghd s hs t (.tail _ ht) k hk hk'
  · rintro k ⟨s, hs, hk⟩
    rcases List.mem_cons.1 hs with rfl | hs
    · exact .inr (h.hsub k ⟨_, .head _, hk⟩)
    · exact h.gsub k ⟨s, hs, hk⟩

/-- What is known may be said otherwise. -/
theorem St.conv {C : Beg} {Γ H : RL} {r s : Res} {w : World} (h : St C Γ (r :: H) w) (hf : ∀ k, s.fp k → r.fp k) (ho : r.ok w → s.ok w) : St C Γ (s :: H) w := by
  have hp := List.pairwise_cons.1 h.sat.hdj
  refine ⟨⟨h.sat.gok, h.sat.glt, ?_, ?_, List.pairwise_cons.2 ⟨fun t ht k hk => hp.1 t ht k (hf k hk), hp.2⟩, ?_⟩, h.stp, ?_, h.gsub⟩
  · intro t ht
    rcases List.mem_cons.1 ht with rfl | ht
    · exact ho (h.sat.hok _ (.head _))
    · exact h.sat.hok t (.tail _ ht)
  · intro t ht k hk
    rcases List.mem_cons.1 ht with rfl | ht
    · exact h.sat.hlt _ (.head _) k (hf k hk)
    · exact h.sat.hlt t (.tail _ ht) k hk
  · intro t ht u hu k hk hk'
    rcases List.mem_cons.1 hu with rfl | hu
    · exact h.sat.ghd t ht _ (.head _) k hk (hf k hk')
    · exact h.sat.ghd t ht u (.tail _ hu) k hk hk'
  · rintro k ⟨t, ht, hk⟩
    rcases List.mem_cons.1 ht with rfl | ht
    · exact h.hsub k ⟨_, .head _, hf k hk⟩
    · exact h.hsub k ⟨t, .tail _ ht, hk⟩

/-- What follows from what may be read may be read. -/
theorem St.conv' {C : Beg} {Γ H : RL} {r s : Res} {w : World} (h : St C Γ H w) (hr : r ∈ Γ) (hf : ∀ k, s.fp k → r.fp k) (ho : r.ok w → s.ok w) : St C (s :: Γ) H w := by
  refine ⟨⟨?_, ?_, h.sat.hok, h.sat.hlt, h.sat.hdj, ?_⟩, h.stp, h.hsub, ?_⟩
  · intro t ht
    rcases List.mem_cons.1 ht with rfl | ht
    · exact ho (h.sat.gok _ hr)
    · exact h.sat.gok t ht
  · intro t ht k hk
    rcases List.mem_cons.1 ht with rfl | ht
    · exact h.sat.glt _ hr k (hf k hk)
    · exact h.sat.glt t ht k hk
  · intro t ht u hu k hk hk'
    rcases List.mem_cons.1 ht with rfl | ht
    · exact h.sat.ghd _ hr u hu k (hf k hk) hk'
    · exact h.sat.ghd t ht u hu k hk hk'
  · rintro k ⟨t, ht, hk⟩
    rcases List.mem_cons.1 ht with rfl | ht
    · exact h.gsub k ⟨_, hr, hf k hk⟩
    · exact h.gsub k ⟨t, ht, hk⟩

/-! ### The small moves of the memory -/

/-- A draw moves nothing. -/
theorem St.drew {C : Beg} {Γ H : RL} {w : World} (h : St C Γ H w) : St C Γ H { w with drawn := w.drawn + 1 } := by
  have h0 : St ⟨w, [], []⟩ [] [] { w with drawn := w.drawn + 1 } :=
    ⟨⟨by simp, by simp, by simp, by simp, .nil, by simp⟩, ⟨rfl, rfl, rfl, Nat.le_refl _, fun _ _ _ => rfl⟩, fun k ⟨_, h, _⟩ => by simp at h, fun k ⟨_, h, _⟩ => by simp at h⟩
  simpa using St.frame (Hc := []) (Γc := []) (by simpa using h) (by simp) h0

/-- Block b is a row of cells. -/
def Res.cells (b : Nat) (cs : List Value) (T : TypeId) : Res where
  fp k := k = b
  ok w := w.heap[b]? = some (.cells cs.toArray T (0, 0))
  loc _ _ h ho := (h b rfl).trans ho

theorem Res.cells_ok {b : Nat} {cs : List Value} {T : TypeId} {w : World} : (Res.cells b cs T).ok w ↔ w.heap[b]? = some (.cells cs.toArray T (0, 0)) := Iff.rfl
theorem Res.cells_fp {b : Nat} {cs : List Value} {T : TypeId} {k : Nat} : (Res.cells b cs T).fp k ↔ k = b := Iff.rfl

attribute [irreducible] Res.cells

theorem heap_lt {w : World} {b : Nat} {o : Obj} (h : w.heap[b]? = some o) : b < w.heap.size := (Array.getElem?_eq_some_iff.1 h).1

/-- A new block. -/
theorem St.alloc {C : Beg} {Γ H : RL} {w : World} (h : St C Γ H w) (cs : List Value) (T : TypeId) :
    St C Γ (Res.cells w.heap.size cs T :: H) { w with heap := w.heap.push (.cells cs.toArray T) } := by
  have h0 : St ⟨w, [], []⟩ [] [Res.cells w.heap.size cs T] { w with heap := w.heap.push (.cells cs.toArray T) } := by
    refine ⟨⟨by simp, by simp, ?_, ?_, by simp, by simp⟩, ⟨rfl, rfl, rfl, by simp, ?_⟩, ?_, fun k ⟨_, h, _⟩ => by simp at h⟩
    · intro r hr
      obtain rfl := List.mem_singleton.1 hr
      exact Res.cells_ok.2 (by simp)
    · intro r hr k hk
      obtain rfl := List.mem_singleton.1 hr
      have := Res.cells_fp.1 hk
      subst this
      simp
    · intro k hk _
      exact Below.heap_alloc w _ k hk
    · rintro k ⟨r, hr, hk⟩
      obtain rfl := List.mem_singleton.1 hr
      have := Res.cells_fp.1 hk
      exact .inr (by rw [this]; exact Nat.le_refl _)
  simpa using St.frame (Hc := []) (Γc := []) (by simpa using h) (by simp) h0

/-- One's own block, written anew. -/
theorem St.setBlock {C : Beg} {Γ H : RL} {w w' : World} {b : Nat} {cs cs' : List Value} {T : TypeId} (h : St C Γ (Res.cells b cs T :: H) w)
    (hos : w'.os = w.os) (htape : w'.tape = w.tape) (hout : w'.output = w.output) (hsize : w'.heap.size = w.heap.size)
    (hb : w'.heap[b]? = some (.cells cs'.toArray T (0, 0))) (ho : ∀ k, k ≠ b → w'.heap[k]? = w.heap[k]?) : St C Γ (Res.cells b cs' T :: H) w' := by
  have h0 : St ⟨w, [], [Res.cells b cs T]⟩ [] [Res.cells b cs' T] w' := by
    refine ⟨⟨by simp, by simp, ?_, ?_, by simp, by simp⟩, ⟨hos, htape, hout, Nat.le_of_eq hsize.symm, ?_⟩, ?_, fun k ⟨_, h, _⟩ => by simp at h⟩
    · intro r hr
      obtain rfl := List.mem_singleton.1 hr
      exact Res.cells_ok.2 hb
    · intro r hr k hk
      obtain rfl := List.mem_singleton.1 hr
      have := Res.cells_fp.1 hk
      subst this
      exact heap_lt hb
    · intro k hk hn
      refine ho k fun e => hn ⟨_, .head _, Res.cells_fp.2 e⟩
    · rintro k ⟨r, hr, hk⟩
      obtain rfl := List.mem_singleton.1 hr
      exact .inl ⟨_, .head _, Res.cells_fp.2 (Res.cells_fp.1 hk)⟩
  simpa using St.frame (Γ := Γ) (Hc := [Res.cells b cs T]) (G := H) (Γc := []) (by simpa using h) (by simp) h0

/-! ### What a function comes to -/

def SpecPost (Γ H : RL) (post : Value → RL → RL → Prop) (w : World) (e : Ending) (w' : World) : Prop :=
  ∃ v Γ' H', e = .returned v ∧ post v Γ' H' ∧ St ⟨w, Γ, H⟩ Γ' H' w'

/-- Whoever holds Γ and H, and calls, gets v, Γ' (to be read by all) and H' (its own), as_ 'post' tells. -/
def Spec (P : Program) (f : FuncId) (args : Array Value) (Γ H : RL) (post : Value → RL → RL → Prop) : Prop :=
  ∀ w, Sat Γ H w → Calls P f args w (SpecPost Γ H post w)

theorem Spec.mono {P : Program} {f : FuncId} {args : Array Value} {Γ H : RL} {post post' : Value → RL → RL → Prop} (h : Spec P f args Γ H post)
    (hp : ∀ v Γ' H', post v Γ' H' → post' v Γ' H') : Spec P f args Γ H post' :=
  fun w hw => (h w hw).mono fun _ _ ⟨v, Γ', H', e, p, s⟩ => ⟨v, Γ', H', e, hp _ _ _ p, s⟩

/-! ### Frames: what is known of the slots -/

abbrev Env := List (Nat × Value)

def lk : Env → Nat → Option Value
  | [], _ => none
  | (s, v) :: E, t => if s = t then some v else lk E t

structure EnvOk (N : Nat) (E : Env) (a : Act) : Prop where
  nd : a.defers = []
  sz : a.tmps.size = N
  val : ∀ t v, lk E t = some v → a.tmps.getD t undef = v

def ev (E : Env) : Operand → Option Value
  | .tmp t => lk E t
  | .const v => some v
  | .global g => some (.pointer (some ⟨g, 0, none⟩))
  | .func f => some (.func (.func f) #[] #[])

theorem EnvOk.ev {N : Nat} {E : Env} {a : Act} (h : EnvOk N E a) {x : Operand} {v : Value} (hx : ev E x = some v) : a.eval x = v := by
  cases x with
  | tmp t => exact h.val t v hx
  | const u => exact Option.some.inj hx
  | global g => exact Option.some.inj hx
  | func f => exact Option.some.inj hx

theorem EnvOk.put {N : Nat} {E : Env} {a : Act} (h : EnvOk N E a) (d : Nat) (hd : d < N) (v : Value) : EnvOk N ((d, v) :: E) (a.put (some d) v) := by
  refine ⟨h.nd, by simp [Act.put, h.sz], fun t u ht => ?_⟩
  simp only [lk] at ht
  by_cases e : d = t
  · subst e
    rw [if_pos rfl] at ht
    obtain rfl := Option.some.inj ht
    have : d < a.tmps.size := by rw [h.sz]; exact hd
    simp [Act.put, this]
  · rw [if_neg e] at ht
    have := h.val t u ht
    simp only [Act.put, Array.getD_eq_getD_getElem?] at this ⊢
    rw [Array.getElem?_setIfInBounds_ne e]
    exact this

/-- Less is known. -/
def Sub : Env → Env → Prop
  | [], _ => True
  | (t, v) :: E', E => lk E t = some v ∧ Sub E' E

theorem Sub.lk {E' E : Env} (h : Sub E' E) {t : Nat} {v : Value} (ht : lk E' t = some v) : lk E t = some v := by
  induction E' with
  | nil => cases ht
  | cons p E' ih =>
    obtain ⟨s, u⟩ := p
    simp only [Proofs.YtmhiapebljfebaaGreatDoor.lk] at ht
    split at ht
    · rename_i e; subst e; obtain rfl := Option.some.inj ht; exact h.1
    · exact ih h.2 ht

theorem EnvOk.sub {N : Nat} {E E' : Env} {a : Act} (h : EnvOk N E a) (hs : Sub E' E) : EnvOk N E' a :=
  ⟨h.nd, h.sz, fun t v ht => h.val t v (hs.lk ht)⟩

/-- An ending that no panic reaches. -/
def NP (Q : Exit → Act → World → Prop) : Prop := ∀ c a w, ¬ Q (.panic c) a w

theorem NP.then {K : Act → World → Prop} {Q : Exit → Act → World → Prop} (h : NP Q) : NP (Exit.then K Q) := fun c a w hq => h c a w hq
theorem NP.inBlock {id : Nat} {Q : Exit → Act → World → Prop} (h : NP Q) : NP (Exit.inBlock id Q) := fun c a w hq => h c a w hq

/-! ### Judgements -/

/-- Code c, begun where E, Γ, H are known, ends in Q. -/
def JC (P : Program) (N : Nat) (C : Beg) (c : Code) (Q : Exit → Act → World → Prop) (E : Env) (Γ H : RL) : Prop :=
  NP Q → ∀ a w, EnvOk N E a → St C Γ H w → c.wp P Q a w

/-- What stands behind: exit e, where E, Γ, H are known, meets Q. -/
def JQ (N : Nat) (C : Beg) (e : Exit) (Q : Exit → Act → World → Prop) (E : Env) (Γ H : RL) : Prop :=
  NP Q → ∀ a w, EnvOk N E a → St C Γ H w → Q e a w

/-- The operations l, one behind the other. -/
def JO (P : Program) (N : Nat) (C : Beg) (ops : Array Oper) (l : List Oper) (Q : Exit → Act → World → Prop) (E : Env) (Γ H : RL) : Prop :=
  NP Q → ∀ a w, EnvOk N E a → St C Γ H w → wpList P ops Q l a w

section
variable {P : Program} {N : Nat} {C : Beg} {Q : Exit → Act → World → Prop} {E : Env} {Γ H : RL}

theorem JC.seq {x y : Code} (h : JC P N C x (Exit.then (y.wp P Q) Q) E Γ H) : JC P N C (.seq x y) Q E Γ H :=
  fun hn a w he hs => wp_seq (h hn.then a w he hs)
theorem JC.skip (h : JQ N C .normal Q E Γ H) : JC P N C .skip Q E Γ H := fun hn a w he hs => wp_skip (h hn a w he hs)
theorem JC.exit {id : Nat} (h : JQ N C (.exit id) Q E Γ H) : JC P N C (.exit id) Q E Γ H := fun hn a w he hs => wp_exit (h hn a w he hs)
theorem JC.ret (h : JQ N C .ret Q E Γ H) : JC P N C .ret Q E Γ H := fun hn a w he hs => wp_ret (h hn a w he hs)
theorem JC.block {id : Nat} {c : Code} (h : JC P N C c (Exit.inBlock id Q) E Γ H) : JC P N C (.block id c) Q E Γ H :=
  fun hn a w he hs => wp_block (h hn.inBlock a w he hs)
theorem JC.region {id : Nat} {l : List Oper} (h : JO P N C l.toArray l Q E Γ H) : JC P N C (.region id l.toArray false) Q E Γ H :=
  fun hn a w he hs => wp_region_lit (h hn a w he hs)
theorem JC.cond {c : Operand} {x y : Code} {t : Bool} (hc : ev E c = some (.bool t)) (ht : t = true → JC P N C x Q E Γ H) (hf : t = false → JC P N C y Q E Γ H) :
    JC P N C (.cond c x y) Q E Γ H :=
  fun hn a w he hs => wp_cond_split (he.ev hc) (fun e => ht e hn a w he hs) (fun e => hf e hn a w he hs)

theorem JQ.then_normal {y : Code} (h : JC P N C y Q E Γ H) : JQ N C .normal (Exit.then (y.wp P Q) Q) E Γ H :=
  fun hn a w he hs => h (fun c a w hq => hn c a w hq) a w he hs
theorem JQ.then_exit {K : Act → World → Prop} {id : Nat} (h : JQ N C (.exit id) Q E Γ H) : JQ N C (.exit id) (Exit.then K Q) E Γ H :=
  fun hn a w he hs => h (fun c a w hq => hn c a w hq) a w he hs
theorem JQ.then_ret {K : Act → World → Prop} (h : JQ N C .ret Q E Γ H) : JQ N C .ret (Exit.then K Q) E Γ H :=
  fun hn a w he hs => h (fun c a w hq => hn c a w hq) a w he hs
theorem JQ.block_normal {id : Nat} (h : JQ N C .normal Q E Γ H) : JQ N C .normal (Exit.inBlock id Q) E Γ H :=
  fun hn a w he hs => h (fun c a w hq => hn c a w hq) a w he hs
theorem JQ.block_ret {id : Nat} (h : JQ N C .ret Q E Γ H) : JQ N C .ret (Exit.inBlock id Q) E Γ H :=
  fun hn a w he hs => h (fun c a w hq => hn c a w hq) a w he hs
theorem JQ.block_exit {id : Nat} (h : JQ N C .normal Q E Γ H) : JQ N C (.exit id) (Exit.inBlock id Q) E Γ H :=
  fun hn a w he hs => by
    show (if id = id then Q .normal a w else Q (.exit id) a w)
    rw [if_pos rfl]
    exact h (fun c a w hq => hn c a w hq) a w he hs
theorem JQ.block_other {id id' : Nat} (hne : id' ≠ id) (h : JQ N C (.exit id') Q E Γ H) : JQ N C (.exit id') (Exit.inBlock id Q) E Γ H :=
  fun hn a w he hs => by
    show (if id' = id then Q .normal a w else Q (.exit id') a w)
    rw [if_neg hne]
    exact h (fun c a w hq => hn c a w hq) a w he hs

/-- Fewer things are known behind a loop's head, or where ways meet. -/
theorem JC.weak {c : Code} {E' : Env} {Γ' H' G : RL} (h : JC P N C c Q E' Γ' H') (hE : Sub E' E) (hg : ∀ r ∈ Γ', r ∈ Γ) (hH : H.Perm (H' ++ G)) : JC P N C c Q E Γ H :=
  fun hn a w he hs => h hn a w (he.sub hE) ((hs.perm hH).weak hg)
theorem JQ.weak {e : Exit} {E' : Env} {Γ' H' G : RL} (h : JQ N C e Q E' Γ' H') (hE : Sub E' E) (hg : ∀ r ∈ Γ', r ∈ Γ) (hH : H.Perm (H' ++ G)) : JQ N C e Q E Γ H :=
  fun hn a w he hs => h hn a w (he.sub hE) ((hs.perm hH).weak hg)

/-- What holds at a loop's head behind some rounds: one of a family. -/
def Head {ι : Type} (N : Nat) (C : Beg) (IE : ι → Env) (IΓ IH : ι → RL) (ok : ι → Prop) (a : Act) (w : World) : Prop :=
  ∃ y, ok y ∧ EnvOk N (IE y) a ∧ St C (IΓ y) (IH y) w

/-- A loop: a family of states, what is true of them, and a number that each round lowers. -/
theorem JC.loop {ι : Type} {c : Code} (pr : ι → Prop) (IE : ι → Env) (IΓ IH : ι → RL) (μ : ι → Nat) (x0 : ι)
    (hE : Sub (IE x0) E) (hg : ∀ r ∈ IΓ x0, r ∈ Γ) {G : RL} (hH : H.Perm (IH x0 ++ G)) (h0 : pr x0)
    (round : ∀ x, pr x → JC P N C c (Exit.then (Head N C IE IΓ IH (fun y => pr y ∧ μ y < μ x)) Q) (IE x) (IΓ x) (IH x)) : JC P N C (.loop c) Q E Γ H := by
  intro hn a w he hs
  refine wp_loop_ghost (fun n a w => ∃ x, pr x ∧ μ x = n ∧ EnvOk N (IE x) a ∧ St C (IΓ x) (IH x) w) (μ x0) ⟨x0, h0, rfl, he.sub hE, (hs.perm hH).weak hg⟩ ?_
  rintro n a w ⟨x, hx, rfl, hea, hst⟩
  refine Code.wp_mono ?_ (round x hx hn.then a w hea hst)
  intro e a' w' h
  cases e with
  | normal =>
    obtain ⟨y, ⟨hy0, hy⟩, hea', hst'⟩ := h
    exact ⟨μ y, hy, y, hy0, rfl, hea', hst'⟩
  | _ => exact h

/-- A round ends at the head of the next one. -/
theorem JQ.head {ι : Type} {IE : ι → Env} {IΓ IH : ι → RL} {ok : ι → Prop} (y : ι) (hE : Sub (IE y) E) (hg : ∀ r ∈ IΓ y, r ∈ Γ) {G : RL}
    (hH : H.Perm (IH y ++ G)) (hy : ok y) : JQ N C .normal (Exit.then (Head N C IE IΓ IH ok) Q) E Γ H :=
  fun _ _ _ he hs => ⟨y, hy, he.sub hE, (hs.perm hH).weak hg⟩

/-- Ways that meet again: a family of states behind x. -/
theorem JC.cut {ι : Type} {x y : Code} (pr : ι → Prop) (IE : ι → Env) (IΓ IH : ι → RL) (hx : JC P N C x (Exit.then (Head N C IE IΓ IH pr) Q) E Γ H)
    (hy : ∀ i, pr i → JC P N C y Q (IE i) (IΓ i) (IH i)) : JC P N C (.seq x y) Q E Γ H := by
  intro hn a w he hs
  refine wp_seq (Code.wp_mono ?_ (hx hn.then a w he hs))
  intro e a' w' h
  cases e with
  | normal =>
    obtain ⟨i, hi, hea, hst⟩ := h
    exact hy i hi hn a' w' hea hst
  | _ => exact h
end

/-! ### The ends of a function -/

/-- From the walk to the function's contract. The slots: the arguments, then nothing. -/
theorem Spec.of_body {P : Program} {f : FuncId} {fn : Func} {c : Code} {args : Array Value} {Γ H : RL} {post : Value → RL → RL → Prop} {N : Nat} {E : Env}
    (hf : P.funcs[f]? = some fn) (hb : fn.body = some c) (hN : fn.ntmps = N) (hle : args.size ≤ N)
    (hE : ∀ t v, lk E t = some v → args[t]? = some v)
    (h : ∀ w, JC P N ⟨w, Γ, H⟩ c (bodyPost P fn (SpecPost Γ H post w)) E Γ H) : Spec P f args Γ H post := by
  intro w hw
  refine calls_of_wp hf hb (h w ?_ _ _ ⟨rfl, ?_, ?_⟩ (St.begin hw))
  · rintro c a w' ⟨_, v, Γ', H', he, _⟩
    cases he
  · simp [hN]; omega
  · intro t v ht
    have := hE t v ht
    have hlt : t < args.size := (Array.getElem?_eq_some_iff.1 this).1
    simp [Array.getElem?_append_left hlt, this]

/-- The slots that the arguments lie in. -/
def argEnv : Nat → List Value → Env
  | _, [] => []
  | n, v :: l => (n, v) :: argEnv (n + 1) l

theorem argEnv_lk : ∀ (l : List Value) (n t : Nat) (v : Value), lk (argEnv n l) t = some v → n ≤ t ∧ l[t - n]? = some v := by
  intro l
  induction l with
  | nil => intro n t v h; cases h
  | cons u l ih =>
    intro n t v h
    simp only [argEnv, lk] at h
    split at h
    · rename_i e; subst e; simpa using h
    · have := ih (n + 1) t v h
      obtain ⟨h1, h2⟩ := this
      refine ⟨by omega, ?_⟩
      rw [show t - n = (t - (n + 1)) + 1 from by omega]
      simpa using h2

theorem Spec.of_args {P : Program} {f : FuncId} {fn : Func} {c : Code} {args : List Value} {Γ H : RL} {post : Value → RL → RL → Prop} {N : Nat}
    (hf : P.funcs[f]? = some fn) (hb : fn.body = some c) (hN : fn.ntmps = N) (hle : args.length ≤ N)
    (h : ∀ w, JC P N ⟨w, Γ, H⟩ c (bodyPost P fn (SpecPost Γ H post w)) (argEnv 0 args) Γ H) : Spec P f args.toArray Γ H post :=
  Spec.of_body hf hb hN (by simpa using hle) (fun t v ht => by simpa using (argEnv_lk args 0 t v ht).2) h

section
variable {P : Program} {N : Nat} {E : Env} {Γ H : RL} {fn : Func} {post : Value → RL → RL → Prop} {w : World} {Γ0 H0 : RL}

theorem JQ.done {e : Exit} (he : e = .normal ∨ e = .ret) {v : Value} (hr : ∀ a w', EnvOk N E a → St ⟨w, Γ0, H0⟩ Γ H w' → (results fn a.tmps).run P w' = .ok v w')
    {Γ' H' G : RL} (hg : ∀ r ∈ Γ', r ∈ Γ) (hH : H.Perm (H' ++ G)) (hp : post v Γ' H') : JQ N ⟨w, Γ0, H0⟩ e (bodyPost P fn (SpecPost Γ0 H0 post w)) E Γ H := by
  intro _ a w' hea hst
  have hx : bodyPost P fn (SpecPost Γ0 H0 post w) .ret a w' := ⟨hea.nd, v, hr a w' hea hst, v, Γ', H', rfl, hp, (hst.perm hH).weak hg⟩
  rcases he with rfl | rfl
  · exact hx
  · exact hx

theorem res_none (h : fn.results = #[]) : ∀ a w', EnvOk N E a → St ⟨w, Γ0, H0⟩ Γ H w' → (results fn a.tmps).run P w' = .ok (.tuple #[]) w' :=
  fun a w' _ _ => results_none h a.tmps P w'
end

abbrev u8 (x : BitVec 8) : Value := .int .u8 (x.toNat : Int)
abbrev u32 (x : BitVec 32) : Value := .int .u32 (x.toNat : Int)
abbrev u64 (x : BitVec 64) : Value := .int .u64 (x.toNat : Int)
abbrev it (n : Int) : Value := .int .i64 n
abbrev ptr (b o : Nat) : Value := .pointer (some ⟨b, o, none⟩)

def Fits (n : Int) : Prop := -9223372036854775808 ≤ n ∧ n ≤ 9223372036854775807
theorem Fits.wrap {n : Int} (h : Fits n) : IntKind.i64.wrap n = n := by
 obtain ⟨h1, h2⟩ := h
 simp only [IntKind.wrap, IntKind.bits, IntKind.signed]
 simp
 omega

theorem wrap_w8 (n : Int) : IntKind.u8.wrap n = n % 256 := by simp [IntKind.wrap, IntKind.bits, IntKind.signed]
theorem wrap_w32 (n : Int) : IntKind.u32.wrap n = n % 4294967296 := by simp [IntKind.wrap, IntKind.bits, IntKind.signed]
theorem wrap_w64 (n : Int) : IntKind.u64.wrap n = n % 18446744073709551616 := by simp [IntKind.wrap, IntKind.bits, IntKind.signed]

def BinR (P : Program) (op : BinOp) (T : TypeId) (x y : Operand) (vx vy v : Value) : Prop :=
 ∀ w, (do eqGuard op T x y vx vy; binOp op T vx vy : Sem Value).run P w = .ok v w

section
variable {P : Program} {T : TypeId} {x y : Operand}

theorem BinR.ints {op : BinOp} {k : IntKind} {m n : Int} {v : Value} (h : ∀ w, (binOp op T (.int k m) (.int k n)).run P w = .ok v w) : BinR P op T x y (.int k m) (.int k n) v := by
 intro w
 have hg : ∀ w, (eqGuard op T x y (.int k m) (.int k n)).run P w = .ok () w := by
  intro w
  unfold eqGuard
  split <;> rfl
 simp only [Sem.run_bind, hg, Result.andThen_ok, h]
theorem BinR.ints2 {op : BinOp} {k k' : IntKind} {m n : Int} {v : Value} (h : ∀ w, (binOp op T (.int k m) (.int k' n)).run P w = .ok v w) : BinR P op T x y (.int k m) (.int k' n) v := by
 intro w
 have hg : ∀ w, (eqGuard op T x y (.int k m) (.int k' n)).run P w = .ok () w := by
  intro w
  unfold eqGuard
  split <;> rfl
 simp only [Sem.run_bind, hg, Result.andThen_ok, h]

theorem ok_int {k : IntKind} {m n : Int} (h : m = n) : ∀ w : World, (Result.ok (Value.int k m) w) = .ok (.int k n) w := fun w => by rw [h]
theorem ok_bool {b c : Bool} (h : b = c) : ∀ w : World, (Result.ok (Value.bool b) w) = .ok (.bool c) w := fun w => by rw [h]


theorem BinR.add_u32 {a b : BitVec 32} : BinR P .add T x y (u32 a) (u32 b) (u32 (a + b)) :=
 .ints fun w => by
  simp only [binOp, Op.intArith, ne_eq, not_true_eq_false, if_false, Sem.run_pure]
  exact ok_int (by rw [wrap_w32, BitVec.toNat_add]; omega) w
theorem BinR.and_u32 {a b : BitVec 32} : BinR P .and T x y (u32 a) (u32 b) (u32 (a &&& b)) :=
 .ints fun w => by
  simp only [binOp, Op.intBits, ne_eq, not_true_eq_false, if_false, Sem.run_pure]
  refine ok_int ?_ w
  show IntKind.u32.wrap (((BitVec.ofInt 32 (a.toNat : Int)) &&& (BitVec.ofInt 32 (b.toNat : Int))).toNat : Int) = _
  rw [BitVec.ofInt_natCast, BitVec.ofInt_natCast, BitVec.ofNat_toNat, BitVec.ofNat_toNat, BitVec.setWidth_eq, BitVec.setWidth_eq, wrap_w32]
  have := (a &&& b).isLt
  omega
theorem BinR.or_u32 {a b : BitVec 32} : BinR P .or T x y (u32 a) (u32 b) (u32 (a ||| b)) :=
 .ints fun w => by
  simp only [binOp, Op.intBits, ne_eq, not_true_eq_false, if_false, Sem.run_pure]
  refine ok_int ?_ w
  show IntKind.u32.wrap (((BitVec.ofInt 32 (a.toNat : Int)) ||| (BitVec.ofInt 32 (b.toNat : Int))).toNat : Int) = _
  rw [BitVec.ofInt_natCast, BitVec.ofInt_natCast, BitVec.ofNat_toNat, BitVec.ofNat_toNat, BitVec.setWidth_eq, BitVec.setWidth_eq, wrap_w32]
  have := (a ||| b).isLt
  omega
theorem BinR.xor_u32 {a b : BitVec 32} : BinR P .xor T x y (u32 a) (u32 b) (u32 (a ^^^ b)) :=
 .ints fun w => by
  simp only [binOp, Op.intBits, ne_eq, not_true_eq_false, if_false, Sem.run_pure]
  refine ok_int ?_ w
  show IntKind.u32.wrap (((BitVec.ofInt 32 (a.toNat : Int)) ^^^ (BitVec.ofInt 32 (b.toNat : Int))).toNat : Int) = _
  rw [BitVec.ofInt_natCast, BitVec.ofInt_natCast, BitVec.ofNat_toNat, BitVec.ofNat_toNat, BitVec.setWidth_eq, BitVec.setWidth_eq, wrap_w32]
  have := (a ^^^ b).isLt
  omega
theorem shl_u32 (a : BitVec 32) (n : Nat) : IntKind.u32.wrap ((a.toNat : Int) * 2 ^ min n 32) = ((a <<< n).toNat : Int) := by
 rw [wrap_w32, BitVec.toNat_shiftLeft, Nat.shiftLeft_eq]
 rcases Nat.le_total n 32 with h | h
 ·rw [Nat.min_eq_left h]
  rw [Int.natCast_emod, Int.natCast_mul, Int.natCast_pow]
  rfl
 ·rw [Nat.min_eq_right h]
  have h1 : a.toNat * 2 ^ n = (a.toNat * 2 ^ (n - 32)) * 2 ^ 32 := by
   rw [Nat.mul_assoc, ← Nat.pow_add]; congr 2; omega
  rw [h1, Nat.mul_mod_left]
  omega
theorem shr_u32 (a : BitVec 32) (n : Nat) : ((a.toNat : Int)).fdiv (2 ^ min n 32) = ((a >>> n).toNat : Int) := by
 rw [BitVec.toNat_ushiftRight, Nat.shiftRight_eq_div_pow]
 rw [Int.fdiv_eq_ediv_of_nonneg _ (by exact_mod_cast Nat.zero_le _)]
 rcases Nat.le_total n 32 with h | h
 ·rw [Nat.min_eq_left h]
  rw [Int.natCast_ediv, Int.natCast_pow]
  rfl
 ·rw [Nat.min_eq_right h]
  have h1 : a.toNat / 2 ^ n = 0 := Nat.div_eq_of_lt (Nat.lt_of_lt_of_le a.isLt (Nat.pow_le_pow_right (by omega) h))
  rw [h1]
  have := a.isLt
  omega
theorem BinR.shr_u32_i {a : BitVec 32} {n : Int} (h : 0 ≤ n) : BinR P .shr T x y (u32 a) (it n) (u32 (a >>> n.toNat)) :=
 .ints2 fun w => by
  have hn : ¬ n < 0 := by omega
  simp only [binOp, Op.shift, hn, if_false, Sem.run_pure]
  exact ok_int (shr_u32 a n.toNat) w
theorem BinR.shl_u32_u64 {a : BitVec 32} {n : BitVec 64} : BinR P .shl T x y (u32 a) (u64 n) (u32 (a <<< n.toNat)) :=
 .ints2 fun w => by
  have hn : ¬ (n.toNat : Int) < 0 := by omega
  simp only [binOp, Op.shift, hn, if_false, Sem.run_pure, Int.toNat_natCast]
  exact ok_int (shl_u32 a n.toNat) w
theorem BinR.shr_u32_u64 {a : BitVec 32} {n : BitVec 64} : BinR P .shr T x y (u32 a) (u64 n) (u32 (a >>> n.toNat)) :=
 .ints2 fun w => by
  have hn : ¬ (n.toNat : Int) < 0 := by omega
  simp only [binOp, Op.shift, hn, if_false, Sem.run_pure, Int.toNat_natCast]
  exact ok_int (shr_u32 a n.toNat) w
theorem BinR.add_u64 {a b : BitVec 64} : BinR P .add T x y (u64 a) (u64 b) (u64 (a + b)) :=
 .ints fun w => by
  simp only [binOp, Op.intArith, ne_eq, not_true_eq_false, if_false, Sem.run_pure]
  exact ok_int (by rw [wrap_w64, BitVec.toNat_add]; omega) w
theorem BinR.sub_u64 {a b : BitVec 64} : BinR P .sub T x y (u64 a) (u64 b) (u64 (a - b)) :=
 .ints fun w => by
  simp only [binOp, Op.intArith, ne_eq, not_true_eq_false, if_false, Sem.run_pure]
  exact ok_int (by rw [wrap_w64, BitVec.toNat_sub]; have := a.isLt; have := b.isLt; omega) w
theorem BinR.mul_u64 {a b : BitVec 64} : BinR P .mul T x y (u64 a) (u64 b) (u64 (a * b)) :=
 .ints fun w => by
  simp only [binOp, Op.intArith, ne_eq, not_true_eq_false, if_false, Sem.run_pure]
  exact ok_int (by rw [wrap_w64, BitVec.toNat_mul, Int.natCast_emod, Int.natCast_mul]; rfl) w
theorem BinR.rem_u64 {a b : BitVec 64} (h : b.toNat ≠ 0) : BinR P .rem T x y (u64 a) (u64 b) (u64 (a % b)) :=
 .ints fun w => by
  have hb : ¬ ((b.toNat : Int) = 0) := by omega
  simp only [binOp, Op.intDiv, ne_eq, not_true_eq_false, if_false, hb, Sem.run_pure]
  refine ok_int ?_ w
  rw [BitVec.toNat_umod, Int.ofNat_tmod]
theorem BinR.and_u64 {a b : BitVec 64} : BinR P .and T x y (u64 a) (u64 b) (u64 (a &&& b)) :=
 .ints fun w => by
  simp only [binOp, Op.intBits, ne_eq, not_true_eq_false, if_false, Sem.run_pure]
  refine ok_int ?_ w
  show IntKind.u64.wrap (((BitVec.ofInt 64 (a.toNat : Int)) &&& (BitVec.ofInt 64 (b.toNat : Int))).toNat : Int) = _
  rw [BitVec.ofInt_natCast, BitVec.ofInt_natCast, BitVec.ofNat_toNat, BitVec.ofNat_toNat, BitVec.setWidth_eq, BitVec.setWidth_eq, wrap_w64]
  have := (a &&& b).isLt
  omega
theorem BinR.or_u64 {a b : BitVec 64} : BinR P .or T x y (u64 a) (u64 b) (u64 (a ||| b)) :=
 .ints fun w => by
  simp only [binOp, Op.intBits, ne_eq, not_true_eq_false, if_false, Sem.run_pure]
  refine ok_int ?_ w
  show IntKind.u64.wrap (((BitVec.ofInt 64 (a.toNat : Int)) ||| (BitVec.ofInt 64 (b.toNat : Int))).toNat : Int) = _
  rw [BitVec.ofInt_natCast, BitVec.ofInt_natCast, BitVec.ofNat_toNat, BitVec.ofNat_toNat, BitVec.setWidth_eq, BitVec.setWidth_eq, wrap_w64]
  have := (a ||| b).isLt
  omega
theorem shl_u64 (a : BitVec 64) (n : Nat) : IntKind.u64.wrap ((a.toNat : Int) * 2 ^ min n 64) = ((a <<< n).toNat : Int) := by
 rw [wrap_w64, BitVec.toNat_shiftLeft, Nat.shiftLeft_eq]
 rcases Nat.le_total n 64 with h | h
 ·rw [Nat.min_eq_left h]
  rw [Int.natCast_emod, Int.natCast_mul, Int.natCast_pow]
  rfl
 ·rw [Nat.min_eq_right h]
  have h1 : a.toNat * 2 ^ n = (a.toNat * 2 ^ (n - 64)) * 2 ^ 64 := by
   rw [Nat.mul_assoc, ← Nat.pow_add]; congr 2; omega
  rw [h1, Nat.mul_mod_left]
  omega
theorem shr_u64 (a : BitVec 64) (n : Nat) : ((a.toNat : Int)).fdiv (2 ^ min n 64) = ((a >>> n).toNat : Int) := by
 rw [BitVec.toNat_ushiftRight, Nat.shiftRight_eq_div_pow]
 rw [Int.fdiv_eq_ediv_of_nonneg _ (by exact_mod_cast Nat.zero_le _)]
 rcases Nat.le_total n 64 with h | h
 ·rw [Nat.min_eq_left h]
  rw [Int.natCast_ediv, Int.natCast_pow]
  rfl
 ·rw [Nat.min_eq_right h]
  have h1 : a.toNat / 2 ^ n = 0 := Nat.div_eq_of_lt (Nat.lt_of_lt_of_le a.isLt (Nat.pow_le_pow_right (by omega) h))
  rw [h1]
  have := a.isLt
  omega
theorem BinR.shl_u64_i {a : BitVec 64} {n : Int} (h : 0 ≤ n) : BinR P .shl T x y (u64 a) (it n) (u64 (a <<< n.toNat)) :=
 .ints2 fun w => by
  have hn : ¬ n < 0 := by omega
  simp only [binOp, Op.shift, hn, if_false, Sem.run_pure]
  exact ok_int (shl_u64 a n.toNat) w
theorem BinR.shr_u64_i {a : BitVec 64} {n : Int} (h : 0 ≤ n) : BinR P .shr T x y (u64 a) (it n) (u64 (a >>> n.toNat)) :=
 .ints2 fun w => by
  have hn : ¬ n < 0 := by omega
  simp only [binOp, Op.shift, hn, if_false, Sem.run_pure]
  exact ok_int (shr_u64 a n.toNat) w
theorem BinR.shr_u64_u64 {a : BitVec 64} {n : BitVec 64} : BinR P .shr T x y (u64 a) (u64 n) (u64 (a >>> n.toNat)) :=
 .ints2 fun w => by
  have hn : ¬ (n.toNat : Int) < 0 := by omega
  simp only [binOp, Op.shift, hn, if_false, Sem.run_pure, Int.toNat_natCast]
  exact ok_int (shr_u64 a n.toNat) w
theorem BinR.lss_u64 {a b : BitVec 64} : BinR P .lss T x y (u64 a) (u64 b) (.bool (decide (a.toNat < b.toNat))) :=
 .ints fun w => by
  simp only [binOp, Op.intCmp, ne_eq, not_true_eq_false, if_false, Sem.run_pure]
  exact ok_bool (decide_eq_decide.2 (by omega)) w
theorem BinR.gtr_u64 {a b : BitVec 64} : BinR P .gtr T x y (u64 a) (u64 b) (.bool (decide (a.toNat > b.toNat))) :=
 .ints fun w => by
  simp only [binOp, Op.intCmp, ne_eq, not_true_eq_false, if_false, Sem.run_pure]
  exact ok_bool (decide_eq_decide.2 (by omega)) w
theorem BinR.geq_u64 {a b : BitVec 64} : BinR P .geq T x y (u64 a) (u64 b) (.bool (decide (a.toNat ≥ b.toNat))) :=
 .ints fun w => by
  simp only [binOp, Op.intCmp, ne_eq, not_true_eq_false, if_false, Sem.run_pure]
  exact ok_bool (decide_eq_decide.2 (by omega)) w
theorem BinR.eql_u64 {a b : BitVec 64} : BinR P .eql T x y (u64 a) (u64 b) (.bool (decide (a = b))) :=
 .ints fun w => by
  simp only [binOp, Op.intCmp, ne_eq, not_true_eq_false, if_false, Sem.run_pure]
  refine ok_bool ?_ w
  rw [Bool.eq_iff_iff, beq_iff_eq, decide_eq_true_iff, ← BitVec.toNat_inj]; omega
theorem BinR.neq_u64 {a b : BitVec 64} : BinR P .neq T x y (u64 a) (u64 b) (.bool (decide (a ≠ b))) :=
 .ints fun w => by
  simp only [binOp, Op.intCmp, ne_eq, not_true_eq_false, if_false, Sem.run_pure]
  refine ok_bool ?_ w
  rw [Bool.eq_iff_iff, bne_iff_ne, decide_eq_true_iff, ← BitVec.toNat_inj]; omega

theorem BinR.add_i {a b : Int} (h : Fits (a + b)) : BinR P .add T x y (it a) (it b) (it (a + b)) :=
 .ints fun w => by
  simp only [binOp, Op.intArith, ne_eq, not_true_eq_false, if_false, Sem.run_pure]
  exact ok_int h.wrap w
theorem BinR.add_iw {a b : Int} : BinR P .add T x y (it a) (it b) (it (IntKind.i64.wrap (a + b))) :=
 .ints fun w => by
  simp only [binOp, Op.intArith, ne_eq, not_true_eq_false, if_false, Sem.run_pure]
theorem BinR.sub_i {a b : Int} (h : Fits (a - b)) : BinR P .sub T x y (it a) (it b) (it (a - b)) :=
 .ints fun w => by
  simp only [binOp, Op.intArith, ne_eq, not_true_eq_false, if_false, Sem.run_pure]
  exact ok_int h.wrap w
theorem BinR.mul_i {a b : Int} (h : Fits (a * b)) : BinR P .mul T x y (it a) (it b) (it (a * b)) :=
 .ints fun w => by
  simp only [binOp, Op.intArith, ne_eq, not_true_eq_false, if_false, Sem.run_pure]
  exact ok_int h.wrap w
theorem BinR.quo_i {a b : Int} (ha : 0 ≤ a) (hb : 0 < b) (h : Fits a) : BinR P .quo T x y (it a) (it b) (it (a / b)) :=
 .ints fun w => by
  have hb0 : ¬ b = 0 := by omega
  simp only [binOp, Op.intDiv, ne_eq, not_true_eq_false, if_false, hb0, Sem.run_pure]
  refine ok_int ?_ w
  rw [Int.tdiv_eq_ediv_of_nonneg ha]
  refine Fits.wrap ⟨?_, ?_⟩
  ·have := Int.ediv_nonneg ha (Int.le_of_lt hb); omega
  ·have := Int.ediv_le_self b ha; have := h.2; omega
theorem BinR.rem_i {a b : Int} (ha : 0 ≤ a) (hb : 0 < b) : BinR P .rem T x y (it a) (it b) (it (a % b)) :=
 .ints fun w => by
  have hb0 : ¬ b = 0 := by omega
  simp only [binOp, Op.intDiv, ne_eq, not_true_eq_false, if_false, hb0, Sem.run_pure]
  exact ok_int (Int.tmod_eq_emod_of_nonneg ha) w
theorem BinR.quo_it {a b : Int} (hb : b ≠ 0) (h : Fits (a.tdiv b)) : BinR P .quo T x y (it a) (it b) (it (a.tdiv b)) :=
 .ints fun w => by
  simp only [binOp, Op.intDiv, ne_eq, not_true_eq_false, if_false, hb, Sem.run_pure]
  exact ok_int h.wrap w
theorem BinR.lss_i {a b : Int} : BinR P .lss T x y (it a) (it b) (.bool (decide (a < b))) :=
 .ints fun w => by
  simp only [binOp, Op.intCmp, ne_eq, not_true_eq_false, if_false, Sem.run_pure]
theorem BinR.leq_i {a b : Int} : BinR P .leq T x y (it a) (it b) (.bool (decide (a ≤ b))) :=
 .ints fun w => by
  simp only [binOp, Op.intCmp, ne_eq, not_true_eq_false, if_false, Sem.run_pure]
theorem BinR.gtr_i {a b : Int} : BinR P .gtr T x y (it a) (it b) (.bool (decide (a > b))) :=
 .ints fun w => by
  simp only [binOp, Op.intCmp, ne_eq, not_true_eq_false, if_false, Sem.run_pure]
theorem BinR.geq_i {a b : Int} : BinR P .geq T x y (it a) (it b) (.bool (decide (a ≥ b))) :=
 .ints fun w => by
  simp only [binOp, Op.intCmp, ne_eq, not_true_eq_false, if_false, Sem.run_pure]
theorem BinR.eql_i {a b : Int} : BinR P .eql T x y (it a) (it b) (.bool (decide (a = b))) :=
 .ints fun w => by
  simp only [binOp, Op.intCmp, ne_eq, not_true_eq_false, if_false, Sem.run_pure]
  refine ok_bool ?_ w
  rw [Bool.eq_iff_iff, beq_iff_eq, decide_eq_true_iff]
theorem BinR.neq_i {a b : Int} : BinR P .neq T x y (it a) (it b) (.bool (decide (a ≠ b))) :=
 .ints fun w => by
  simp only [binOp, Op.intCmp, ne_eq, not_true_eq_false, if_false, Sem.run_pure]
  refine ok_bool ?_ w
  rw [Bool.eq_iff_iff, bne_iff_ne, decide_eq_true_iff]

theorem BinR.eql_of {vx vy : Value} {b : Bool} (hg : ∀ w, (eqGuard .eql T x y vx vy).run P w = .ok () w) (hb : binOp .eql T vx vy = (do pure (.bool (← Op.equal T vx vy)) : Sem Value))
  (h : ∀ d w, (Op.equalIn (d + 1) T vx vy).run P w = .ok b w) : BinR P .eql T x y vx vy (.bool b) := fun w => by
 have h0 : (Op.equal T vx vy).run P w = .ok b w := h 9999 w
 simp only [Sem.run_bind, hg w, Result.andThen_ok, hb, h0, Sem.run_pure]
theorem BinR.neq_of {vx vy : Value} {b : Bool} (hg : ∀ w, (eqGuard .neq T x y vx vy).run P w = .ok () w) (hb : binOp .neq T vx vy = (do pure (.bool (!(← Op.equal T vx vy))) : Sem Value))
  (h : ∀ d w, (Op.equalIn (d + 1) T vx vy).run P w = .ok b w) : BinR P .neq T x y vx vy (.bool (!b)) := fun w => by
 have h0 : (Op.equal T vx vy).run P w = .ok b w := h 9999 w
 simp only [Sem.run_bind, hg w, Result.andThen_ok, hb, h0, Sem.run_pure]
theorem BinR.neq_b {a b : Bool} (hT : P.underlying T = some .bool) : BinR P .neq T x y (.bool a) (.bool b) (.bool (!(a == b))) :=
 .neq_of (fun _ => rfl) rfl fun d w => by simp [Op.equalIn, underlying, hT]
theorem BinR.eql_p {e : TypeId} {a : Option Addr} (hT : P.underlying T = some (.pointer e)) : BinR P .eql T x y (.pointer a) (.pointer none) (.bool a.isNone) :=
 .eql_of (fun _ => rfl) rfl fun d w => by cases a <;> simp [Op.equalIn, underlying, hT]
theorem BinR.eql_s {e : TypeId} {a : Option Addr} {n c m d : Nat} (hT : P.underlying T = some (.slice e)) : BinR P .eql T x y (.slice a n c) (.slice none m d) (.bool a.isNone) :=
 .eql_of (fun _ => rfl) rfl fun d w => by cases a <;> simp [Op.equalIn, underlying, hT]
end


def Yv (P : Program) (N : Nat) (C : Beg) (E : Env) (Γ H : RL) (op : Op) (ty : TypeId) (v : Value) : Prop :=
 ∀ dst pos aft gd a w, EnvOk N E a → St C Γ H w → (execOp a.eval ⟨dst, op, ty, pos, aft, gd⟩).run P w = .ok (.value v) w

def Kn (Γ H : RL) (a : Addr) (v : Value) : Prop := ∀ w, Sat Γ H w → w.cell? a = some v

section
variable {P : Program} {N : Nat} {C : Beg} {Q : Exit → Act → World → Prop} {E : Env} {Γ H : RL} {ty : TypeId}

theorem Yv.move {x : Operand} {v : Value} (hx : ev E x = some v) : Yv P N C E Γ H (.move x) ty v := by
 intro dst pos aft gd a w he _
 simp only [execOp, he.ev hx, Sem.run_pure]
theorem Yv.assign {x : Operand} {v : Value} (hx : ev E x = some v) : Yv P N C E Γ H (.assign x) ty v := by
 intro dst pos aft gd a w he _
 simp only [execOp, he.ev hx, Sem.run_pure]
theorem Yv.pick {c x y : Operand} {b : Bool} {v u : Value} (hc : ev E c = some (.bool b)) (hx : ev E x = some v) (hy : ev E y = some u) :
  Yv P N C E Γ H (.pick c x y) ty (if b then v else u) := by
 intro dst pos aft gd a w he _
 simp [execOp, he.ev hc, he.ev hx, he.ev hy, asBool]
theorem Yv.pick_t {c x y : Operand} {v : Value} (hc : ev E c = some (.bool true)) (hx : ev E x = some v) :
  Yv P N C E Γ H (.pick c x y) ty v := by
 intro dst pos aft gd a w he _
 simp [execOp, he.ev hc, he.ev hx, asBool]
theorem Yv.pick_f {c x y : Operand} {v : Value} (hc : ev E c = some (.bool false)) (hx : ev E y = some v) :
  Yv P N C E Γ H (.pick c x y) ty v := by
 intro dst pos aft gd a w he _
 simp [execOp, he.ev hc, he.ev hx, asBool]
theorem Yv.nilCheck {x : Operand} {a : Addr} (hx : ev E x = some (.pointer (some a))) : Yv P N C E Γ H (.nilCheck x) ty (.pointer (some a)) := by
 intro dst pos aft gd a w he _
 simp only [execOp, he.ev hx, Sem.run_pure]
theorem Yv.bin {op : BinOp} {T yT : TypeId} {x y : Operand} {vx vy v : Value} (hx : ev E x = some vx) (hy : ev E y = some vy) (hr : BinR P op T x y vx vy v) :
  Yv P N C E Γ H (.binOp op T x y yT) ty v := by
 intro dst pos aft gd a w he _
 have := hr w
 simp only [Sem.run_bind] at this
 simp only [execOp, he.ev hx, he.ev hy, Sem.run_bind, this, Result.andThen_ok, Sem.run_pure]
theorem Yv.not {T : TypeId} {x : Operand} {b : Bool} (hx : ev E x = some (.bool b)) : Yv P N C E Γ H (.unOp .not T x) ty (.bool (!b)) := by
 intro dst pos aft gd a w he _
 simp [execOp, he.ev hx, Op.unary]
theorem Yv.neg_i {T : TypeId} {x : Operand} {n : Int} (hx : ev E x = some (it n)) (h : Fits (-n)) : Yv P N C E Γ H (.unOp .neg T x) ty (it (-n)) := by
 intro dst pos aft gd a w he _
 have h0 : IntKind.i64.wrap (-n) = -n := h.wrap
 simp [execOp, he.ev hx, Op.unary, Op.intArith, h0]
theorem Yv.extract {x : Operand} {vs : Array Value} {i : Nat} {v : Value} (hx : ev E x = some (.tuple vs)) (hi : vs[i]? = some v) : Yv P N C E Γ H (.extract x i) ty v := by
 intro dst pos aft gd a w he _
 simp [execOp, he.ev hx, Instr.extract, hi]


theorem Yv.conv_u8_u32 {S D : TypeId} {s : TypeDesc} {x : Operand} {a : BitVec 8} (hs : P.underlying S = some s) (hd : P.underlying D = some (.int .u32)) (hx : ev E x = some (u8 a)) :
  Yv P N C E Γ H (.convert S D x) ty (u32 (a.setWidth 32)) := by
 intro dst pos aft gd b w he _
 have h0 : IntKind.u32.wrap (a.toNat : Int) = ((a.setWidth 32).toNat : Int) := by rw [wrap_w32, BitVec.toNat_setWidth]; omega
 simp [execOp, he.ev hx, convert, underlying, hs, hd, Conv.intToInt, h0]
theorem Yv.conv_u32_u8 {S D : TypeId} {s : TypeDesc} {x : Operand} {a : BitVec 32} (hs : P.underlying S = some s) (hd : P.underlying D = some (.int .u8)) (hx : ev E x = some (u32 a)) :
  Yv P N C E Γ H (.convert S D x) ty (u8 (a.setWidth 8)) := by
 intro dst pos aft gd b w he _
 have h0 : IntKind.u8.wrap (a.toNat : Int) = ((a.setWidth 8).toNat : Int) := by rw [wrap_w8, BitVec.toNat_setWidth]; omega
 simp [execOp, he.ev hx, convert, underlying, hs, hd, Conv.intToInt, h0]
theorem Yv.conv_u64_u8 {S D : TypeId} {s : TypeDesc} {x : Operand} {a : BitVec 64} (hs : P.underlying S = some s) (hd : P.underlying D = some (.int .u8)) (hx : ev E x = some (u64 a)) :
  Yv P N C E Γ H (.convert S D x) ty (u8 (a.setWidth 8)) := by
 intro dst pos aft gd b w he _
 have h0 : IntKind.u8.wrap (a.toNat : Int) = ((a.setWidth 8).toNat : Int) := by rw [wrap_w8, BitVec.toNat_setWidth]; omega
 simp [execOp, he.ev hx, convert, underlying, hs, hd, Conv.intToInt, h0]
theorem Yv.conv_u8_i {S D : TypeId} {s : TypeDesc} {x : Operand} {a : BitVec 8} (hs : P.underlying S = some s) (hd : P.underlying D = some (.int .i64)) (hx : ev E x = some (u8 a)) :
  Yv P N C E Γ H (.convert S D x) ty (it (a.toNat : Int)) := by
 intro dst pos aft gd b w he _
 have h0 : IntKind.i64.wrap (a.toNat : Int) = (a.toNat : Int) := Fits.wrap ⟨by omega, by omega⟩
 simp [execOp, he.ev hx, convert, underlying, hs, hd, Conv.intToInt, h0]
theorem Yv.conv_i_u64 {S D : TypeId} {s : TypeDesc} {x : Operand} {n : Int} (hs : P.underlying S = some s) (hd : P.underlying D = some (.int .u64)) (hx : ev E x = some (it n)) :
  Yv P N C E Γ H (.convert S D x) ty (u64 (BitVec.ofInt 64 n)) := by
 intro dst pos aft gd b w he _
 have h0 : IntKind.u64.wrap n = ((BitVec.ofInt 64 n).toNat : Int) := by rw [wrap_w64, BitVec.toNat_ofInt]; omega
 simp [execOp, he.ev hx, convert, underlying, hs, hd, Conv.intToInt, h0]
theorem Yv.conv_u64_i {S D : TypeId} {s : TypeDesc} {x : Operand} {a : BitVec 64} (hs : P.underlying S = some s) (hd : P.underlying D = some (.int .i64)) (hx : ev E x = some (u64 a)) (h : a.toNat < 9223372036854775808) :
  Yv P N C E Γ H (.convert S D x) ty (it (a.toNat : Int)) := by
 intro dst pos aft gd b w he _
 have h0 : IntKind.i64.wrap (a.toNat : Int) = (a.toNat : Int) := Fits.wrap ⟨by omega, by omega⟩
 simp [execOp, he.ev hx, convert, underlying, hs, hd, Conv.intToInt, h0]

theorem add_none (b o n : Nat) : (⟨b, o, none⟩ : Addr).add n = ⟨b, o + n, none⟩ := by unfold Addr.add; split <;> simp_all

def FA (P : Program) (s f off : Nat) : Prop := ∀ b o w, (Instr.fieldAt s (ptr b o) f).run P w = .ok (ptr b (o + off)) w
theorem FA.mk {s f off : Nat} {fs : Array Field} {fd : Field} {m : Nat} (hs : P.underlying s = some (.struct fs)) (hf : fs[f]? = some fd) (ho : fd.offset = off)
  (hm : (P.info? fd.type).map (·.size) = some (m + 1)) : FA P s f off := by
 intro b o w
 obtain ⟨i, hi, hi2⟩ := Option.map_eq_some_iff.1 hm
 simp [Instr.fieldAt, underlying, hs, hf, Instr.sureAddr, fieldPlace, sizeOf, typeInfo, hi, hi2, ho, add_none]
theorem Yv.fieldAddr {s f off : Nat} {x : Operand} {b o : Nat} (hf : FA P s f off) (hx : ev E x = some (ptr b o)) : Yv P N C E Γ H (.fieldAddr s x f) ty (ptr b (o + off)) := by
 intro dst pos aft gd a w he _
 have := hf b o w
 simp only [execOp, he.ev hx, Sem.run_bind, this, Result.andThen_ok, Sem.run_pure]

theorem Yv.indexArr_u {T e n size : Nat} {x ix : Operand} {b o : Nat} {k : IntKind} {j : Nat} (hT : P.underlying T = some (.array n e)) (hs : (P.info? e).map (·.size) = some size)
  (hx : ev E x = some (ptr b o)) (hi : ev E ix = some (.int k (j : Int))) (hj : j < n) : Yv P N C E Γ H (.indexAddr T x ix) ty (ptr b (o + j * size)) := by
 intro dst pos aft gd a w he _
 obtain ⟨i, hi1, hi2⟩ := Option.map_eq_some_iff.1 hs
 have h1 : (0 : Int) ≤ j ∧ (j : Int) < n := by omega
 simp [execOp, he.ev hx, he.ev hi, Instr.indexAt, asIntOf, underlying, hT, Instr.sureAddr, h1, sizeOf, typeInfo, hi1, hi2, add_none, hj]

def One (P : Program) (T : TypeId) : Prop := ∀ w, (isAgg T).run P w = .ok false w
theorem One.mk {T : TypeId} {d : TypeDesc} (hd : P.underlying T = some d) (hd' : (match d with | .struct _ | .array _ _ => true | _ => false) = false) : One P T := by
 intro w
 simp only [isAgg, underlying, Sem.run_bind, run_program, Result.andThen_ok, hd, Sem.run_pure]
 cases d <;> simp_all
def Agg (P : Program) (T : TypeId) (n : Nat) : Prop := ∀ w, (isAgg T).run P w = .ok true w ∧ (sizeOf T).run P w = .ok n w
theorem Agg.mk {T : TypeId} {d : TypeDesc} {n : Nat} (hd : P.underlying T = some d) (hd' : (match d with | .struct _ | .array _ _ => true | _ => false) = true) (hs : (P.info? T).map (·.size) = some n) : Agg P T n := by
 intro w
 obtain ⟨i, hi1, hi2⟩ := Option.map_eq_some_iff.1 hs
 constructor
 ·simp only [isAgg, underlying, Sem.run_bind, run_program, Result.andThen_ok, hd, Sem.run_pure]
  cases d <;> simp_all
 ·simp [sizeOf, typeInfo, hi1, hi2]

theorem Yv.load1 {T : TypeId} {x : Operand} {b o : Nat} {v : Value} (h1 : One P T) (hx : ev E x = some (ptr b o)) (hk : Kn Γ H ⟨b, o, none⟩ v) : Yv P N C E Γ H (.load T x) ty v := by
 intro dst pos aft gd a w he hs
 have hc := hk w hs.sat
 simp [execOp, he.ev hx, Instr.loadAt, Instr.sureAddr, loadVar, h1 w, hc]
theorem Yv.loadA {T n : Nat} {x : Operand} {b o : Nat} {vs : List Value} (hA : Agg P T n) (hx : ev E x = some (ptr b o)) (hn : vs.length = n) (hk : ∀ i v, vs[i]? = some v → Kn Γ H ⟨b, o + i, none⟩ v) :
  Yv P N C E Γ H (.load T x) ty (.agg vs.toArray) := by
 intro dst pos aft gd a w he hs
 have hc := run_loadCells_list (P := P) w ⟨b, o, none⟩ vs (fun j v hj => by rw [add_none]; exact hk j v hj w hs.sat)
 subst hn
 simp [execOp, he.ev hx, Instr.loadAt, Instr.sureAddr, loadVar, (hA w).1, (hA w).2, hc]

theorem Kn.own {b o : Nat} {cs : List Value} {T : TypeId} {v : Value} (hm : Res.cells b cs T ∈ H) (hv : cs[o]? = some v) : Kn Γ H ⟨b, o, none⟩ v := by
 intro w hs
 have := Res.cells_ok.1 (hs.hok _ hm)
 simp [World.cell?, this, hv]
theorem Kn.ro {b o : Nat} {cs : List Value} {T : TypeId} {v : Value} (hm : Res.cells b cs T ∈ Γ) (hv : cs[o]? = some v) : Kn Γ H ⟨b, o, none⟩ v := by
 intro w hs
 have := Res.cells_ok.1 (hs.gok _ hm)
 simp [World.cell?, this, hv]

theorem Yv.len_s {x : Operand} {T e : TypeId} {a : Option Addr} {n c : Nat} (hT : P.underlying T = some (.slice e)) (hx : ev E x = some (.slice a n c)) : Yv P N C E Γ H (.call { callee := .builtin .len, args := #[x], argTypes := #[T] }) ty (it (n : Int)) := by
 intro dst pos aft gd a w he _
 simp [execOp, he.ev hx, resolve, invoke, builtin, Builtin.len_, goInt, underlying, hT]
theorem Yv.len_str {x : Operand} {T : TypeId} {s : ByteArray} (hT : P.underlying T = some .string) (hx : ev E x = some (.string s)) : Yv P N C E Γ H (.call { callee := .builtin .len, args := #[x], argTypes := #[T] }) ty (it (s.size : Int)) := by
 intro dst pos aft gd a w he _
 simp [execOp, he.ev hx, resolve, invoke, builtin, Builtin.len_, goInt, underlying, hT]

theorem JO.nil {ops : Array Oper} (h : JQ N C .normal Q E Γ H) : JO P N C ops [] Q E Γ H := fun hn a w he hs => wpList_nil (h hn a w he hs)

theorem JO.v {ops : Array Oper} {rest : List Oper} {d : Nat} {op : Op} {pos : String} {aft : Array Edge} {v : Value} (hv : Yv P N C E Γ H op ty v) (hd : d < N)
  (h : JO P N C ops rest Q ((d, v) :: E) Γ H) : JO P N C ops (⟨some d, op, ty, pos, aft, none⟩ :: rest) Q E Γ H := by
 intro hn a w he hs
 refine wpList_plain rfl fun K hK => ?_
 simp only [Oper.wp, hv _ _ _ _ a w he hs, Oper.upon]
 exact hK _ _ (h hn _ _ (he.put d hd v) hs)

theorem JO.g {ops : Array Oper} {rest : List Oper} {d : Nat} {op : Op} {pos : String} {aft : Array Edge} {j g : Nat} {want b : Bool}
  (hj : ((ops[j]?).bind (·.dst)) = some g) (hg : lk E g = some (.bool b))
  (ht : b = want → JO P N C ops (⟨some d, op, ty, pos, aft, none⟩ :: rest) Q E Γ H)
  (hf : b ≠ want → JO P N C ops rest Q ((d, undef) :: E) Γ H) (hd : d < N) : JO P N C ops (⟨some d, op, ty, pos, aft, some (j, want)⟩ :: rest) Q E Γ H := by
 intro hn a w he hs
 have hy : yielded ops a.tmps j = some b := by
  have h1 := he.val g _ hg
  obtain ⟨o, ho, hd⟩ := Option.bind_eq_some_iff.1 hj
  simp only [yielded, ho, hd, Option.bind_some]
  have h2 : g < a.tmps.size ∨ ¬ g < a.tmps.size := by omega
  rcases h2 with h2 | h2
  ·simp [h2] at h1
   simp [h2, h1]
  ·simp [h2] at h1
   cases h1
 by_cases hbw : b = want
 ·have := ht hbw hn a w he hs
  unfold wpList at this ⊢
  have h1 : Region.wanted ⟨some d, op, ty, pos, aft, some (j, want)⟩ (yielded ops a.tmps) = true := by simp [Region.wanted, hy, hbw]
  have h2 : Region.wanted ⟨some d, op, ty, pos, aft, none⟩ (yielded ops a.tmps) = true := by simp [Region.wanted]
  rw [if_pos h2] at this
  rw [if_pos h1]
  exact this
 ·have h1 : Region.wanted ⟨some d, op, ty, pos, aft, some (j, want)⟩ (yielded ops a.tmps) = false := by simp [Region.wanted, hy, hbw]
  unfold wpList
  rw [if_neg (by rw [h1]; decide)]
  exact hf hbw hn _ w (he.put d hd undef) hs
end

inductive Pull : Res → RL → RL → Prop
 | here (r : Res) (l : RL) : Pull r (r :: l) l
 | there (r x : Res) (l m : RL) : Pull r l m → Pull r (x :: l) (x :: m)
theorem Pull.perm {r : Res} {H G : RL} (h : Pull r H G) : H.Perm (r :: G) := by
 induction h with
 | here => exact .refl _
 | there x _ _ _ ih => exact (ih.cons x).trans (.swap _ _ _)
inductive Picks : RL → RL → RL → Prop
 | nil (H : RL) : Picks [] H H
 | cons (r : Res) (l H H1 G : RL) : Pull r H H1 → Picks l H1 G → Picks (r :: l) H G
theorem Picks.perm {l H G : RL} (h : Picks l H G) : H.Perm (l ++ G) := by
 induction h with
 | nil H => exact .refl _
 | cons r l H H1 G hp _ ih => exact hp.perm.trans (ih.cons r)
inductive Upd : RL → Res → Res → RL → Prop
 | here (r r' : Res) (l : RL) : Upd (r :: l) r r' (r' :: l)
 | there (r r' x : Res) (l m : RL) : Upd l r r' m → Upd (x :: l) r r' (x :: m)
theorem Upd.ex {H H' : RL} {r r' : Res} (h : Upd H r r' H') : ∃ G, H.Perm (r :: G) ∧ H'.Perm (r' :: G) := by
 induction h with
 | here r r' l => exact ⟨l, .refl _, .refl _⟩
 | there r r' x l m _ ih =>
  obtain ⟨G, h1, h2⟩ := ih
  exact ⟨x :: G, (h1.cons x).trans (.swap _ _ _), (h2.cons x).trans (.swap _ _ _)⟩
inductive Subs : RL → RL → Prop
 | nil (Γ : RL) : Subs [] Γ
 | cons (r : Res) (l Γ : RL) : r ∈ Γ → Subs l Γ → Subs (r :: l) Γ
theorem Subs.sub {l Γ : RL} (h : Subs l Γ) : ∀ r ∈ l, r ∈ Γ := by
 induction h with
 | nil => simp
 | cons r l Γ hr _ ih =>
  intro s hs
  rcases List.mem_cons.1 hs with rfl | hs
  ·exact hr
  ·exact ih s hs

def Mv (P : Program) (N : Nat) (C : Beg) (E : Env) (Γ H : RL) (op : Op) (ty : TypeId) (post : Value → RL → RL → Prop) : Prop :=
 ∀ dst pos aft gd a w, EnvOk N E a → St C Γ H w → ∀ (K : Act → World → Prop) (Q : Exit → Act → World → Prop),
  (∀ v Γ' H' w', post v Γ' H' → St C Γ' H' w' → K (a.put dst v) w') → Oper.wp P ⟨dst, op, ty, pos, aft, gd⟩ a w K Q

section
variable {P : Program} {N : Nat} {C : Beg} {Q : Exit → Act → World → Prop} {E : Env} {Γ H : RL} {ty : TypeId} {ops : Array Oper} {rest : List Oper}

theorem JO.m {d : Nat} {op : Op} {pos : String} {aft : Array Edge} {post : Value → RL → RL → Prop} (hm : Mv P N C E Γ H op ty post) (hd : d < N)
  (h : ∀ v Γ' H', post v Γ' H' → JO P N C ops rest Q ((d, v) :: E) Γ' H') : JO P N C ops (⟨some d, op, ty, pos, aft, none⟩ :: rest) Q E Γ H := by
 intro hn a w he hs
 refine wpList_plain rfl fun K hK => ?_
 exact hm _ _ _ _ a w he hs K Q fun v Γ' H' w' hp hs' => hK _ _ (h v Γ' H' hp hn _ _ (he.put d hd v) hs')
theorem JO.m0 {op : Op} {pos : String} {aft : Array Edge} {post : Value → RL → RL → Prop} (hm : Mv P N C E Γ H op ty post)
  (h : ∀ v Γ' H', post v Γ' H' → JO P N C ops rest Q E Γ' H') : JO P N C ops (⟨none, op, ty, pos, aft, none⟩ :: rest) Q E Γ H := by
 intro hn a w he hs
 refine wpList_plain rfl fun K hK => ?_
 exact hm _ _ _ _ a w he hs K Q fun v Γ' H' w' hp hs' => hK _ _ (h v Γ' H' hp hn _ _ he hs')

theorem JO.know {l : List Oper} {φ : Prop} (hφ : ∀ w, Sat Γ H w → φ) (h : φ → JO P N C ops l Q E Γ H) : JO P N C ops l Q E Γ H :=
 fun hn a w he hs => h (hφ w hs.sat) hn a w he hs
theorem JC.know {c : Code} {φ : Prop} (hφ : ∀ w, Sat Γ H w → φ) (h : φ → JC P N C c Q E Γ H) : JC P N C c Q E Γ H :=
 fun hn a w he hs => h (hφ w hs.sat) hn a w he hs
theorem Spec.know {f : FuncId} {args : Array Value} {post : Value → RL → RL → Prop} {φ : Prop} (hφ : ∀ w, Sat Γ H w → φ) (h : φ → Spec P f args Γ H post) : Spec P f args Γ H post :=
 fun w hs => h (hφ w hs) w hs

theorem Mv.alloc {T : TypeId} {z : Value} (hz : (P.info? T).map (·.zero) = some (some z)) :
  Mv P N C E Γ H (.alloc T) ty (fun v Γ' H' => ∃ b, v = ptr b 0 ∧ Γ' = Γ ∧ H' = Res.cells b z.cells.toList T :: H) := by
 intro dst pos aft gd a w he hs K Q hK
 obtain ⟨i, hi, hz'⟩ := Option.map_eq_some_iff.1 hz
 have hr : (execOp a.eval ⟨dst, .alloc T, ty, pos, aft, gd⟩).run P w = .ok (.value (ptr w.heap.size 0)) { w with heap := w.heap.push (.cells z.cells.toList.toArray T) } := by
  simp [execOp, Instr.alloc, zeroValue, typeInfo, hi, hz', newVar, newRow]
 simp only [Oper.wp, hr, Oper.upon]
 exact hK _ _ _ _ ⟨_, rfl, rfl, rfl⟩ (hs.alloc _ _)
theorem Mv.box {T : TypeId} {x : Operand} {v : Value} (hx : ev E x = some v) :
  Mv P N C E Γ H (.box T x) ty (fun u Γ' H' => ∃ b, u = ptr b 0 ∧ Γ' = Γ ∧ H' = Res.cells b v.cells.toList T :: H) := by
 intro dst pos aft gd a w he hs K Q hK
 have hr : (execOp a.eval ⟨dst, .box T x, ty, pos, aft, gd⟩).run P w = .ok (.value (ptr w.heap.size 0)) { w with heap := w.heap.push (.cells v.cells.toList.toArray T) } := by
  simp [execOp, Instr.box, he.ev hx, newVar, newRow]
 simp only [Oper.wp, hr, Oper.upon]
 exact hK _ _ _ _ ⟨_, rfl, rfl, rfl⟩ (hs.alloc _ _)
theorem JO.alloc {d : Nat} {T : TypeId} {pos : String} {aft : Array Edge} {z : Value} (zs : List Value) (hz : (P.info? T).map (·.zero) = some (some z)) (hzs : z.cells.toList = zs) (hd : d < N)
  (h : ∀ b, JO P N C ops rest Q ((d, ptr b 0) :: E) Γ (Res.cells b zs T :: H)) : JO P N C ops (⟨some d, .alloc T, ty, pos, aft, none⟩ :: rest) Q E Γ H :=
 .m (Mv.alloc hz) hd fun v Γ' H' ⟨b, hv, hΓ, hH⟩ => by subst hv hΓ hH hzs; exact h b
theorem JO.box {d : Nat} {T : TypeId} {pos : String} {aft : Array Edge} {x : Operand} {v : Value} (hx : ev E x = some v) (vs : List Value) (hvs : v.cells.toList = vs) (hd : d < N)
  (h : ∀ b, JO P N C ops rest Q ((d, ptr b 0) :: E) Γ (Res.cells b vs T :: H)) : JO P N C ops (⟨some d, .box T x, ty, pos, aft, none⟩ :: rest) Q E Γ H :=
 .m (Mv.box hx) hd fun v Γ' H' ⟨b, hv, hΓ, hH⟩ => by subst hv hΓ hH hvs; exact h b

def splice (cs : List Value) (o : Nat) (vs : List Value) : List Value := cs.take o ++ vs ++ cs.drop (o + vs.length)
theorem splice_length {cs : List Value} {o : Nat} {vs : List Value} (h : o + vs.length ≤ cs.length) : (splice cs o vs).length = cs.length := by
 simp [splice]; omega
theorem splice_one {cs : List Value} {o : Nat} {v : Value} (h : o < cs.length) : splice cs o [v] = cs.set o v := by
 simp only [splice, List.length_singleton]
 rw [List.set_eq_take_append_cons_drop, if_pos h]
 simp

theorem St.splice {b o : Nat} {cs vs : List Value} {T : TypeId} {w : World} (h : St C Γ (Res.cells b cs T :: H) w) (hl : o + vs.length ≤ cs.length) (h1 : ∀ v ∈ vs, v.oneCell' = true) :
  ∃ w', (storeCells ⟨b, o, none⟩ vs).run P w = .ok () w' ∧ St C Γ (Res.cells b (splice cs o vs) T :: H) w' := by
 have hb := Res.cells_ok.1 (h.sat.hok _ (.head _))
 have hr := run_storeCells_at (P := P) b o T vs 0 cs.toArray w hb (by simpa using hl) h1
 refine ⟨_, hr, h.setBlock (cs' := Proofs.YtmhiapebljfebaaGreatDoor.splice cs o vs) rfl rfl rfl (by simp) ?_ (fun k hk => setRow_other w b k _ hk)⟩
 have := setRow_heap w b cs.toArray (Proofs.YtmhiapebljfebaaGreatDoor.splice cs o vs).toArray T (0, 0) hb
 simpa [Proofs.YtmhiapebljfebaaGreatDoor.splice] using this

theorem Mv.store {T n : TypeId} {x y : Operand} {b o : Nat} {v : Value} {vs cs : List Value} {T' : TypeId} {H' : RL} (hT : (P.info? T).map (·.size) = some n) (hx : ev E x = some (ptr b o)) (hy : ev E y = some v)
  (hv : v.cells = vs.toArray) (hn : vs.length = n) (h1 : ∀ u ∈ vs, u.oneCell' = true) (hu : Upd H (Res.cells b cs T') (Res.cells b (splice cs o vs) T') H') (hl : o + n ≤ cs.length) :
  Mv P N C E Γ H (.store T x y) ty (fun _ Γ1 H1 => Γ1 = Γ ∧ H1 = H') := by
 intro dst pos aft gd a w he hs K Q hK
 subst hn
 obtain ⟨G, hp, hp'⟩ := hu.ex
 obtain ⟨w', hr, hs'⟩ := (hs.perm hp).splice (P := P) hl h1
 obtain ⟨i, hi1, hi2⟩ := Option.map_eq_some_iff.1 hT
 have hr' : (execOp a.eval ⟨dst, .store T x y, ty, pos, aft, gd⟩).run P w = .ok .skip w' := by
  simp [execOp, he.ev hx, he.ev hy, Instr.storeAt, Instr.sureAddr, storeVar, sizeOf, typeInfo, hi1, hi2, hv, hr]
 simp only [Oper.wp, hr', Oper.upon]
 exact hK _ _ _ _ ⟨rfl, rfl⟩ (hs'.perm hp'.symm)
theorem JO.store {T n : TypeId} {pos : String} {aft : Array Edge} {x y : Operand} {b o : Nat} {v : Value} {vs cs : List Value} {T' : TypeId} {H' : RL} (hT : (P.info? T).map (·.size) = some n) (hx : ev E x = some (ptr b o)) (hy : ev E y = some v)
  (hv : v.cells = vs.toArray) (hn : vs.length = n) (h1 : ∀ u ∈ vs, u.oneCell' = true) (hu : Upd H (Res.cells b cs T') (Res.cells b (splice cs o vs) T') H') (hl : o + n ≤ cs.length)
  (h : JO P N C ops rest Q E Γ H') : JO P N C ops (⟨none, .store T x y, ty, pos, aft, none⟩ :: rest) Q E Γ H :=
 .m0 (Mv.store hT hx hy hv hn h1 hu hl) fun v Γ' H' ⟨hΓ, hH⟩ => by subst hΓ hH; exact h
theorem one_cells {v : Value} (h : v.oneCell' = true) : v.cells = #[v] := by cases v <;> first | rfl | cases h
theorem JO.store1 {T : TypeId} {pos : String} {aft : Array Edge} {x y : Operand} {b o : Nat} {v : Value} {cs : List Value} {T' : TypeId} {H' : RL} (hT : (P.info? T).map (·.size) = some 1) (hx : ev E x = some (ptr b o)) (hy : ev E y = some v)
  (h1 : v.oneCell' = true) (hu : Upd H (Res.cells b cs T') (Res.cells b (cs.set o v) T') H') (hl : o < cs.length)
  (h : JO P N C ops rest Q E Γ H') : JO P N C ops (⟨none, .store T x y, ty, pos, aft, none⟩ :: rest) Q E Γ H :=
 .store (vs := [v]) hT hx hy (one_cells h1) rfl (by simpa using h1) (by rw [splice_one hl]; exact hu) hl h

def evs (E : Env) : List Operand → Option (List Value)
 | [] => some []
 | x :: l => match ev E x, evs E l with
  | some v, some vs => some (v :: vs)
  | _, _ => none
theorem EnvOk.evs {a : Act} (h : EnvOk N E a) : ∀ {xs : List Operand} {vs : List Value}, evs E xs = some vs → xs.map a.eval = vs
 | [], vs, hx => by simpa [Proofs.YtmhiapebljfebaaGreatDoor.evs] using hx
 | x :: xs, vs, hx => by
  simp only [Proofs.YtmhiapebljfebaaGreatDoor.evs] at hx
  split at hx
  ·rename_i v us h1 h2
   obtain rfl := Option.some.inj hx
   simp [h.ev h1, h.evs h2]
  ·cases hx

def Body (P : Program) (f : FuncId) : Prop := ∀ args w, (callFunc f args).run P w = .ok (.enter f args) w
theorem Body.mk {f : FuncId} {fn : Func} (hf : P.funcs[f]? = some fn) (hb : fn.body.isNone = false) (hn : (fn.name == "runtime.NumGoroutine") = false) : Body P f := by
 intro args w
 simp only [callFunc, Sem.run_bind, run_program, Result.andThen_ok, hf, hn, hb, Bool.false_eq_true, if_false, Sem.run_pure]

theorem Mv.call {f : FuncId} {xs : List Operand} {vs : List Value} {AT : Array TypeId} {Γc Hc G : RL} {post : Value → RL → RL → Prop} (hb : Body P f) (hx : evs E xs = some vs)
  (hc : Spec P f vs.toArray Γc Hc post) (hp : Picks Hc H G) (hg : Subs Γc Γ) :
  Mv P N C E Γ H (.call { callee := .value (.func f), args := xs.toArray, argTypes := AT }) ty (fun v Γ' H' => ∃ Γ1 H1, post v Γ1 H1 ∧ Γ' = Γ1 ++ Γ ∧ H' = H1 ++ G) := by
 intro dst pos aft gd a w he hs K Q hK
 have hr : (execOp a.eval ⟨dst, .call { callee := .value (.func f), args := xs.toArray, argTypes := AT }, ty, pos, aft, gd⟩).run P w = .ok (.enter f vs.toArray) w := by
  have := hb vs.toArray w
  simp [execOp, resolve, Deferred.ofValue, Act.eval, invoke, he.evs hx, this]
 have hst := hs.perm hp.perm
 simp only [Oper.wp, hr, Oper.upon]
 refine (hc w (hst.sat.weak hg.sub)).mono ?_
 rintro e w' ⟨v, Γ', H', rfl, hpost, hst'⟩
 exact hK _ _ _ _ ⟨_, _, hpost, rfl, rfl⟩ (hst.frame hg.sub hst')
theorem JO.call {d : Nat} {pos : String} {aft : Array Edge} {f : FuncId} {xs : List Operand} {vs : List Value} {AT : Array TypeId} {Γc Hc G : RL} {post : Value → RL → RL → Prop} (hc : Spec P f vs.toArray Γc Hc post) (hb : Body P f) (hx : evs E xs = some vs)
  (hp : Picks Hc H G) (hg : Subs Γc Γ) (hd : d < N)
  (h : ∀ v Γ2 H2, (∃ Γ1 H1, post v Γ1 H1 ∧ Γ2 = Γ1 ++ Γ ∧ H2 = H1 ++ G) → JO P N C ops rest Q ((d, v) :: E) Γ2 H2) :
  JO P N C ops (⟨some d, .call { callee := .value (.func f), args := xs.toArray, argTypes := AT }, ty, pos, aft, none⟩ :: rest) Q E Γ H :=
 .m (Mv.call hb hx hc hp hg) hd h
theorem JO.call0 {pos : String} {aft : Array Edge} {f : FuncId} {xs : List Operand} {vs : List Value} {AT : Array TypeId} {Γc Hc G : RL} {post : Value → RL → RL → Prop} (hc : Spec P f vs.toArray Γc Hc post) (hb : Body P f) (hx : evs E xs = some vs)
  (hp : Picks Hc H G) (hg : Subs Γc Γ)
  (h : ∀ v Γ2 H2, (∃ Γ1 H1, post v Γ1 H1 ∧ Γ2 = Γ1 ++ Γ ∧ H2 = H1 ++ G) → JO P N C ops rest Q E Γ2 H2) :
  JO P N C ops (⟨none, .call { callee := .value (.func f), args := xs.toArray, argTypes := AT }, ty, pos, aft, none⟩ :: rest) Q E Γ H :=
 .m0 (Mv.call hb hx hc hp hg) h

end

section
variable {P : Program} {ops : Array Oper} {Q : Exit → Act → World → Prop} {md : Region.Mode} {S S2 : World → Prop} {T M U : Nat → Bool}

/-- Whatever order is picked; behind each operation that is none of the last ones S holds. -/
def wpAnyT (P : Program) (md : Region.Mode) (ops : Array Oper) (Q : Exit → Act → World → Prop) (S2 S : World → Prop) (T : Nat → Bool) : Nat → Array Bool → Act → World → Prop
  | 0, listed, a, w => Region.ready md ops listed = [] ∧ Q .normal a w
  | fuel + 1, listed, a, w =>
    (Region.ready md ops listed = [] → Q .normal a w) ∧
    ∀ i ∈ Region.ready md ops listed, wpOp P ops Q i (fun a' w' => (S2 w' ∧ (T i = true ∨ (S w → S w'))) ∧ wpAnyT P md ops Q S2 S T fuel (listed.setIfInBounds i true) a' w') a w

theorem wpAny_of_T : ∀ (fuel : Nat) (listed : Array Bool) (a : Act) (w : World), wpAnyT P md ops Q S2 S T fuel listed a w → wpAny P md ops Q fuel listed a w
  | 0, _, _, _, h => h
  | fuel + 1, _, _, _, h => ⟨h.1, fun i hi => wpOp_mono (fun a' w' h' => wpAny_of_T fuel _ a' w' h'.2) (h.2 i hi)⟩

theorem wpAnyT_first {i : Nat} {oi : Oper} {v : Value} {Sx : World → Prop} (hi : ops[i]? = some oi) (hsel : ∀ (j : Nat) (o : Oper) cs b, ops[j]? = some o → o.op ≠ .select cs b)
    (hQ : NP Q) :
    ∀ (fuel : Nat) (listed : Array Bool) (a : Act) (w : World),
      (∀ j oj, ops[j]? = some oj → j ≠ i → listed.getD j true = false → (∀ e ∈ oj.after, Region.binds md e = true → e.on ≠ i) → oi.apart ops oj = true) →
      ((∀ w, S2 w → Sx w) ∨ (∀ w, Sx w ↔ S w) ∧ ∃ D : Nat → Bool, (∀ k, D k = true → k ≠ i ∧ listed.getD k true = false ∧ ∃ ok, ops[k]? = some ok ∧ ∃ e ∈ ok.after, Region.binds md e = true ∧ (e.on = i ∨ D e.on = true)) ∧ ∀ j oj, ops[j]? = some oj → j ≠ i → T j = true → listed.getD j true = false → D j = true) →
      i ∈ Region.ready md ops listed → YieldsIf P ops Sx oi v a → S2 w → Sx w →
      wpAnyT P md ops Q S2 S T fuel (listed.setIfInBounds i true) (a.put oi.dst v) w → wpAnyT P md ops Q S2 S T (fuel + 1) listed a w := by
  intro fuel
  induction fuel with
  | zero =>
    intro listed a w _ _ hr hy hS2 hS H
    refine ⟨fun h => (by rw [h] at hr; cases hr), fun j hj => ?_⟩
    by_cases hji : j = i
    · subst hji; exact hy.wpOp hi hS ⟨⟨hS2, .inr id⟩, H⟩
    · have := ready_mono hj hji
      rw [H.1] at this
      cases this
  | succ fuel ih =>
    intro listed a w hfree hT hr hy hS2 hS H
    refine ⟨fun h => (by rw [h] at hr; cases hr), fun j hj => ?_⟩
    by_cases hji : j = i
    · subst hji; exact hy.wpOp hi hS ⟨⟨hS2, .inr id⟩, H⟩
    · have h1 := H.2 j (ready_mono hj hji)
      obtain ⟨hjun, oj, hoj, hall⟩ := mem_ready.1 hj
      have hnot : ∀ e ∈ oj.after, Region.binds md e = true → e.on ≠ i := fun e he hb heq => by
        have h1 := hall e he hb
        have h0 := (mem_ready.1 hr).1
        rw [heq] at h1
        rcases Nat.lt_or_ge i listed.size with h' | h'
        · simp [h'] at h0 h1; rw [h0] at h1; cases h1
        · simp [Array.getElem?_eq_none h'] at h1
      have h2 := wpOp_putIf hoj (hfree j oj hoj hji hjun hnot) (fun cs b => hsel i oi cs b hi) (fun cs b => hsel j oj cs b hoj) (fun c a w h => absurd h (hQ c _ _)) hy h1
      have hfree' : ∀ k ok, ops[k]? = some ok → k ≠ i → (listed.setIfInBounds j true).getD k true = false →
          (∀ e ∈ ok.after, Region.binds md e = true → e.on ≠ i) → oi.apart ops ok = true := fun k ok hk hki hun hno => by
        refine hfree k ok hk hki ?_ hno
        by_cases hjk : j = k
        · subst hjk; exact hjun
        · rw [getD_set_ne true hjk] at hun; exact hun
      have hDj : ∀ D : Nat → Bool, (∀ k, D k = true → k ≠ i ∧ listed.getD k true = false ∧ ∃ ok, ops[k]? = some ok ∧ ∃ e ∈ ok.after, Region.binds md e = true ∧ (e.on = i ∨ D e.on = true)) → D j = true → False := fun D hD hDj => by
        obtain ⟨_, _, ok, hok, e, he, hb, heq⟩ := hD j hDj
        rw [hoj] at hok
        obtain rfl := Option.some.inj hok
        rcases heq with heq | hDe
        · exact hnot e he hb heq
        · have h1 := hall e he hb
          have h0 := (hD _ hDe).2.1
          rcases Nat.lt_or_ge e.on listed.size with h' | h'
          · simp [h'] at h0 h1; rw [h0] at h1; cases h1
          · simp [Array.getElem?_eq_none h'] at h1
      have hT' : (∀ w, S2 w → Sx w) ∨ (∀ w, Sx w ↔ S w) ∧ ∃ D : Nat → Bool, (∀ k, D k = true → k ≠ i ∧ (listed.setIfInBounds j true).getD k true = false ∧ ∃ ok, ops[k]? = some ok ∧ ∃ e ∈ ok.after, Region.binds md e = true ∧ (e.on = i ∨ D e.on = true)) ∧ ∀ k ok, ops[k]? = some ok → k ≠ i → T k = true → (listed.setIfInBounds j true).getD k true = false → D k = true := by
        refine hT.imp id fun hT => ⟨hT.1, ?_⟩
        obtain ⟨D, hD, hT2⟩ := hT.2
        refine ⟨D, fun k hk => ⟨(hD k hk).1, ?_, (hD k hk).2.2⟩, fun k ok hk hki hTk hun => ?_⟩
        · have hjk : j ≠ k := fun e => hDj D hD (e ▸ hk)
          rw [getD_set_ne true hjk]
          exact (hD k hk).2.1
        · refine hT2 k ok hk hki hTk ?_
          by_cases hjk : j = k
          · subst hjk; exact hjun
          · rw [getD_set_ne true hjk] at hun; exact hun
      have hSx : ∀ w', (S2 w' ∧ (T j = true ∨ (S w → S w'))) → Sx w' := fun w' h => by
        rcases hT with hT | ⟨he, hT⟩
        · exact hT _ h.1
        · rcases h.2 with hTj | h2
          · obtain ⟨D, hD, hT2⟩ := hT
            exact (hDj D hD (hT2 j oj hoj hji hTj hjun)).elim
          · exact (he _).2 (h2 ((he _).1 hS))
      refine wpOp_mono (fun a' w' h3 => ⟨h3.2.1, ih (listed.setIfInBounds j true) a' w' hfree' hT' (ready_mono hr (Ne.symm hji)) h3.1 h3.2.1.1 (hSx w' h3.2.1) ?_⟩) h2
      rw [Array.setIfInBounds_comm _ _ hji]
      exact h3.2.2

/-- An order of our choice; where several that may move the memory stand open, each way. -/
inductive OT
  | nil
  | one (i : Nat) (t : OT)
  | alt (i : Nat) (t r : OT)
def OT.all (p : Nat → Bool) : OT → Bool
  | .nil => true
  | .one i t => p i && t.all p
  | .alt i t r => p i && t.all p && r.all p
def OT.len : OT → Nat
  | .nil => 0
  | .one _ t => t.len + 1
  | .alt _ t r => max (t.len + 1) r.len
def OT.heads : OT → List Nat
  | .alt i _ r => i :: r.heads
  | _ => []
/-- The operations in an order of our choice: M tells which may move the memory, T which are the last ones, U which need no more than what all may read; top: not among ways that stand beside each other. -/
def wpOrd (P : Program) (ops : Array Oper) (Q : Exit → Act → World → Prop) (S2 S : World → Prop) (T M U : Nat → Bool) : Bool → OT → Act → World → Prop
  | top, .nil, a, w => top = true → Q .normal a w
  | _, .one i l, a, w =>
    (M i = true ∧ wpOp P ops Q i (fun a' w' => (S2 w' ∧ (T i = true ∨ S w')) ∧ wpOrd P ops Q S2 S T M U true l a' w') a w) ∨
    (M i = false ∧ ∃ o v, ops[i]? = some o ∧ YieldsIf P ops (if U i then S2 else S) o v a ∧ wpOrd P ops Q S2 S T M U true l (a.put o.dst v) w)
  | _, .alt i t r, a, w =>
    wpOp P ops Q i (fun a' w' => (S2 w' ∧ (T i = true ∨ S w')) ∧ wpOrd P ops Q S2 S T M U true t a' w') a w ∧ wpOrd P ops Q S2 S T M U false r a w

/-- What must wait for i. -/
def lateOf (md : Region.Mode) (ops : Array Oper) (listed : Array Bool) (i : Nat) : Nat → Bool :=
  let D := (List.range ops.size).foldl (fun (D : List Nat) k => if k != i && !(listed.getD k true) && ((ops[k]?).map fun o => o.after.any fun e => Region.binds md e && (e.on == i || D.contains e.on)).getD false then k :: D else D) []
  fun k => D.contains k
def chkLate (md : Region.Mode) (ops : Array Oper) (T : Nat → Bool) (listed : Array Bool) (i : Nat) (D : Nat → Bool) : Bool :=
  (List.range ops.size).all fun k => (!D k || (k != i && !(listed.getD k true) && ((ops[k]?).map fun o => o.after.any fun e => Region.binds md e && (e.on == i || (D e.on && decide (e.on < ops.size)))).getD false)) && (k == i || !T k || listed.getD k true || D k)
theorem chkLate_spec {listed : Array Bool} {i : Nat} {D : Nat → Bool} (h : chkLate md ops T listed i D = true) : ∃ D : Nat → Bool, (∀ k, D k = true → k ≠ i ∧ listed.getD k true = false ∧ ∃ ok, ops[k]? = some ok ∧ ∃ e ∈ ok.after, Region.binds md e = true ∧ (e.on = i ∨ D e.on = true)) ∧ ∀ j oj, ops[j]? = some oj → j ≠ i → T j = true → listed.getD j true = false → D j = true := by
  refine ⟨fun k => D k && decide (k < ops.size), fun k hk => ?_, fun j oj hj hji hT hun => ?_⟩
  · obtain ⟨h1, h2⟩ := Bool.and_eq_true_iff.1 hk
    have h2 : k < ops.size := of_decide_eq_true h2
    have := List.all_eq_true.1 h k (List.mem_range.2 h2)
    simp only [h1, Bool.not_true, Bool.false_or, Bool.and_eq_true, bne_iff_ne, ne_eq, Bool.not_eq_true', Array.getElem?_eq_getElem h2, Option.map_some, Option.getD_some, Array.any_eq_true, Bool.or_eq_true, beq_iff_eq] at this
    obtain ⟨⟨⟨h3, h4⟩, n, hn, hb, he⟩, _⟩ := this
    refine ⟨h3, h4, ops[k], by rw [Array.getElem?_eq_getElem h2], _, Array.getElem_mem hn, hb, he.imp id fun he => ?_⟩
    exact Bool.and_eq_true_iff.2 he
  · have hj' : j < ops.size := (Array.getElem?_eq_some_iff.1 hj).1
    have := (Bool.and_eq_true_iff.1 (List.all_eq_true.1 h j (List.mem_range.2 hj'))).2
    simp only [hT, hun, Bool.or_eq_true, beq_iff_eq, Bool.not_true, Bool.false_eq_true, or_false] at this
    rcases this with h1 | h1
    · exact absurd h1 hji
    · exact Bool.and_eq_true_iff.2 ⟨h1, decide_eq_true hj'⟩
/-- Does that order stand for all? -/
def chkOrd (md : Region.Mode) (ops : Array Oper) (T M U : Nat → Bool) : Bool → OT → Array Bool → Bool
  | top, .nil, listed => !top || (Region.ready md ops listed).isEmpty
  | top, .one i l, listed => top &&
    ((if M i then Region.ready md ops listed == [i] && (!T i || l.all fun j => M j || U j)
     else (Region.ready md ops listed).contains i && Region.free md ops listed i &&
       (U i || ((List.range ops.size).all fun j => !T j || listed.getD j true) || chkLate md ops T listed i (lateOf md ops listed i))) &&
    chkOrd md ops T M U true l (listed.setIfInBounds i true))
  | top, .alt i t r, listed => (!top || Region.ready md ops listed == i :: r.heads) && ((!T i || t.all fun j => M j || U j) && (chkOrd md ops T M U true t (listed.setIfInBounds i true) && chkOrd md ops T M U false r listed))

theorem wpAnyT_of_ord (hs : Region.noSelect ops = true) (hQ : NP Q) : ∀ (l : OT), (∀ (fuel : Nat) (listed : Array Bool) (a : Act) (w : World), l.len ≤ fuel → chkOrd md ops T M U true l listed = true → S2 w →
    (S w ∨ (l.all fun j => M j || U j) = true) → wpOrd P ops Q S2 S T M U true l a w → wpAnyT P md ops Q S2 S T fuel listed a w) ∧
    (∀ (fuel : Nat) (listed : Array Bool) (a : Act) (w : World), l.len ≤ fuel + 1 → chkOrd md ops T M U false l listed = true → wpOrd P ops Q S2 S T M U false l a w → ∀ j ∈ l.heads,
      wpOp P ops Q j (fun a' w' => (S2 w' ∧ (T j = true ∨ (S w → S w'))) ∧ wpAnyT P md ops Q S2 S T fuel (listed.setIfInBounds j true) a' w') a w) := by
  intro l
  induction l with
  | nil =>
    refine ⟨?_, fun _ _ _ _ _ _ _ j hj => by cases hj⟩
    intro fuel listed a w _ hc _ _ h
    have hr : Region.ready md ops listed = [] := by simpa [chkOrd] using hc
    have h : Q .normal a w := h rfl
    cases fuel with
    | zero => exact ⟨hr, h⟩
    | succ fuel => exact ⟨fun _ => h, fun i hi => by rw [hr] at hi; cases hi⟩
  | alt i t r iht ihr =>
    have key : ∀ (fuel : Nat) (listed : Array Bool) (a : Act) (w : World), (OT.alt i t r).len ≤ fuel + 1 → chkOrd md ops T M U false (.alt i t r) listed = true → wpOrd P ops Q S2 S T M U false (.alt i t r) a w → ∀ j ∈ (OT.alt i t r).heads,
        wpOp P ops Q j (fun a' w' => (S2 w' ∧ (T j = true ∨ (S w → S w'))) ∧ wpAnyT P md ops Q S2 S T fuel (listed.setIfInBounds j true) a' w') a w := by
      intro fuel listed a w hf hc h j hj
      simp only [OT.len] at hf
      simp only [chkOrd, Bool.not_false, Bool.true_or, Bool.true_and, Bool.and_eq_true] at hc
      obtain ⟨hT, hct, hcr⟩ := hc
      rcases List.mem_cons.1 hj with rfl | hj
      · refine wpOp_mono (fun a' w' h' => ⟨⟨h'.1.1, h'.1.2.imp id fun h => fun _ => h⟩, iht.1 fuel _ a' w' (by omega) hct h'.1.1 ?_ h'.2⟩) h.1
        rcases h'.1.2 with h1 | h1
        · rw [h1] at hT; exact .inr (by simpa using hT)
        · exact .inl h1
      · exact ihr.2 fuel listed a w (by omega) hcr h.2 j hj
    refine ⟨?_, key⟩
    intro fuel listed a w hf hc hS2 hS h
    have hf' := hf
    simp only [OT.len] at hf'
    obtain ⟨fuel, rfl⟩ : ∃ m, fuel = m + 1 := ⟨fuel - 1, by omega⟩
    simp only [chkOrd, Bool.not_true, Bool.false_or, Bool.and_eq_true, beq_iff_eq] at hc
    obtain ⟨hr, hT, hct, hcr⟩ := hc
    refine ⟨fun h0 => absurd (hr ▸ h0) (by simp), fun k hk => ?_⟩
    rw [hr] at hk
    exact key fuel listed a w hf (by simp only [chkOrd, Bool.not_false, Bool.true_or, Bool.true_and, Bool.and_eq_true]; exact ⟨hT, hct, hcr⟩) h k hk
  | one i l ih =>
    have ih := ih.1
    refine ⟨?_, fun _ _ _ _ _ hc => by simp [chkOrd] at hc⟩
    intro fuel listed a w hf hc hS2 hS h
    obtain ⟨fuel, rfl⟩ : ∃ m, fuel = m + 1 := ⟨fuel - 1, by simp only [OT.len] at hf; omega⟩
    have hf' : l.len ≤ fuel := by simp only [OT.len] at hf; omega
    simp only [chkOrd, Bool.true_and, Bool.and_eq_true] at hc
    obtain ⟨hc1, hc2⟩ := hc
    rcases h with ⟨hM, h⟩ | ⟨hM, o, v, ho, hy, h⟩
    · rw [if_pos hM] at hc1
      simp only [Bool.and_eq_true, beq_iff_eq] at hc1
      obtain ⟨hr, hT⟩ := hc1
      have hT : T i = false ∨ (l.all fun j => M j || U j) = true := by
        cases hTi : T i with
        | false => exact .inl rfl
        | true => rw [hTi] at hT; exact .inr (by simpa using hT)
      refine ⟨fun h0 => absurd (hr ▸ h0) (by simp), fun j hj => ?_⟩
      rw [hr] at hj
      obtain rfl := List.mem_singleton.1 hj
      refine wpOp_mono (fun a' w' h' => ⟨⟨h'.1.1, h'.1.2.imp id fun h => fun _ => h⟩, ih fuel _ a' w' hf' hc2 h'.1.1 ?_ h'.2⟩) h
      rcases h'.1.2 with h1 | h1
      · rcases hT with hT | hT
        · rw [hT] at h1; cases h1
        · exact .inr hT
      · exact .inl h1
    · rw [if_neg (by rw [hM]; decide)] at hc1
      obtain ⟨hc3, hT⟩ := Bool.and_eq_true_iff.1 hc1
      obtain ⟨hr, hfr⟩ := Bool.and_eq_true_iff.1 hc3
      have hr := List.contains_iff_mem.1 hr
      have hnext : S w ∨ (l.all fun j => M j || U j) = true := by
        rcases hS with hS | hS
        · exact .inl hS
        · rw [OT.all, Bool.and_eq_true] at hS; exact .inr hS.2
      have hSw : (if U i then S2 else S) w := by
        cases hU : U i with
        | true => simpa using hS2
        | false =>
          rcases hS with hS | hS
          · simpa using hS
          · simp [OT.all, hM, hU] at hS
      refine wpAnyT_first ho (Region.noSelect_spec hs) hQ fuel listed a w (Region.free_spec ho hfr) ?_ hr hy hS2 hSw (ih fuel _ _ w hf' hc2 hS2 hnext h)
      cases hU : U i with
      | true => exact .inl fun w h => by simpa using h
      | false =>
        refine .inr ⟨fun w => by simp, ?_⟩
        rw [hU, Bool.false_or, Bool.or_eq_true] at hT
        rcases hT with hT | hT
        · refine ⟨fun _ => false, fun _ h => (by cases h), fun j oj hoj hji hTj hun => ?_⟩
          have hj : j < ops.size := (Array.getElem?_eq_some_iff.1 hoj).1
          have := List.all_eq_true.1 hT j (List.mem_range.2 hj)
          rw [hTj, hun] at this
          cases this
        · exact chkLate_spec hT

theorem wp_region_ord {id : Nat} {a : Act} {w : World} (l : OT) (T M U : Nat → Bool) (hm : P.follows .mixedOrders = true) (hs : Region.noSelect ops = true) (hQ : NP Q)
    (hl : l.len ≤ ops.size) (hc : chkOrd .any ops T M U true l (Array.replicate ops.size false) = true) (hS2 : S2 { w with drawn := w.drawn + 1 }) (hS : S { w with drawn := w.drawn + 1 })
    (h : wpOrd P ops Q S2 S T M U true l a { w with drawn := w.drawn + 1 }) : (Code.region id ops true).wp P Q a w :=
  wp_region_any hm (wpAny_of_T _ _ _ _ ((wpAnyT_of_ord hs hQ l).1 _ _ _ _ hl hc hS2 (.inl hS) h))
end

theorem St.keep0' {C : Beg} {Γ Γ0 H : RL} (hg : ∀ r ∈ Γ0, r ∈ Γ) {w : World} (hs : St C Γ H w) : St C Γ0 [] w := (hs.perm (show H.Perm ([] ++ H) from List.Perm.refl _)).weak hg
theorem St.keep0 {C : Beg} {Γ H : RL} {w : World} (hs : St C Γ H w) : St C Γ [] w := St.keep0' (fun _ h => h) hs

/-- The operations l of a statement whose order is open: E, Γ, H are known; Γ0, H0 were held where it began. -/
def JR (P : Program) (N : Nat) (C : Beg) (ops : Array Oper) (T M U : Nat → Bool) (Γ0 H0 : RL) (l : OT) (Q : Exit → Act → World → Prop) (E : Env) (Γ H : RL) : Prop :=
  NP Q → ∀ a w, EnvOk N E a → St C Γ H w → wpOrd P ops Q (St C Γ0 []) (St C Γ0 H0) T M U true l a w

section
variable {P : Program} {N : Nat} {C : Beg} {Q : Exit → Act → World → Prop} {E : Env} {Γ H Γ0 H0 : RL} {ty : TypeId} {ops : Array Oper} {T M U : Nat → Bool} {l : OT}

theorem keepU {b : Bool} {w : World} (h : (if b then St C Γ0 [] else St C Γ0 H0) w) : St C Γ0 (if b then [] else H0) w := by cases b <;> simpa using h
theorem JC.draw {id : Nat} (l : OT) (T M U : Nat → Bool) (hm : P.follows .mixedOrders = true) (hs : Region.noSelect ops = true) (hl : l.len ≤ ops.size)
    (hc : chkOrd .any ops T M U true l (Array.replicate ops.size false) = true) (h : JR P N C ops T M U Γ H l Q E Γ H) : JC P N C (.region id ops true) Q E Γ H :=
  fun hn a _ he hst => wp_region_ord l T M U hm hs hn hl hc (St.keep0 hst.drew) hst.drew (h hn a _ he hst.drew)

theorem JR.nil (h : JQ N C .normal Q E Γ H) : JR P N C ops T M U Γ0 H0 .nil Q E Γ H := fun hn a w he hs _ => h hn a w he hs

theorem JR.v' {i d : Nat} {op : Op} {pos : String} {aft : Array Edge} {v : Value} (ho : ops[i]? = some ⟨some d, op, ty, pos, aft, none⟩) (hM : M i = false) (hv : Yv P N C E Γ0 (if U i then [] else H0) op ty v) (hd : d < N)
    (h : JR P N C ops T M U Γ0 H0 l Q ((d, v) :: E) Γ H) : JR P N C ops T M U Γ0 H0 (.one i l) Q E Γ H :=
  fun hn a w he hs => .inr ⟨hM, _, v, ho, .inl ⟨by simp [Region.wanted], fun w' hs' => hv _ _ _ _ a w' he (keepU hs')⟩, h hn _ w (he.put d hd v) hs⟩

theorem JR.v {i d : Nat} {op : Op} {pos : String} {aft : Array Edge} {v : Value} (ho : ops[i]? = some ⟨some d, op, ty, pos, aft, none⟩) (hM : M i = false) (hU : U i = false) (hv : Yv P N C E Γ0 H0 op ty v) (hd : d < N)
    (h : JR P N C ops T M U Γ0 H0 l Q ((d, v) :: E) Γ H) : JR P N C ops T M U Γ0 H0 (.one i l) Q E Γ H := .v' ho hM (by rw [hU]; exact hv) hd h
/-- One that needs no more than what all may read. -/
theorem JR.u {i d : Nat} {op : Op} {pos : String} {aft : Array Edge} {v : Value} (ho : ops[i]? = some ⟨some d, op, ty, pos, aft, none⟩) (hM : M i = false) (hU : U i = true) (hv : Yv P N C E Γ0 [] op ty v) (hd : d < N)
    (h : JR P N C ops T M U Γ0 H0 l Q ((d, v) :: E) Γ H) : JR P N C ops T M U Γ0 H0 (.one i l) Q E Γ H := .v' ho hM (by rw [hU]; exact hv) hd h

theorem yielded_of {a : Act} {j g : Nat} {b : Bool} (he : EnvOk N E a) (hj : ((ops[j]?).bind (·.dst)) = some g) (hg : lk E g = some (.bool b)) : yielded ops a.tmps j = some b := by
  have h1 := he.val g _ hg
  obtain ⟨o, ho, hd⟩ := Option.bind_eq_some_iff.1 hj
  simp only [yielded, ho, hd, Option.bind_some]
  have h2 : g < a.tmps.size ∨ ¬ g < a.tmps.size := by omega
  rcases h2 with h2 | h2
  · simp [h2] at h1
    simp [h2, h1]
  · simp [h2] at h1
    cases h1

/-- A guarded one. -/
theorem JR.gv {i d : Nat} {op : Op} {pos : String} {aft : Array Edge} {j g : Nat} {want b : Bool} (v : b = want → Value) (ho : ops[i]? = some ⟨some d, op, ty, pos, aft, some (j, want)⟩) (hM : M i = false)
    (hj : ((ops[j]?).bind (·.dst)) = some g) (hg : lk E g = some (.bool b))
    (hv : ∀ e : b = want, Yv P N C E Γ0 (if U i then [] else H0) op ty (v e)) (hd : d < N)
    (ht : ∀ e : b = want, JR P N C ops T M U Γ0 H0 l Q ((d, v e) :: E) Γ H) (hf : b ≠ want → JR P N C ops T M U Γ0 H0 l Q ((d, undef) :: E) Γ H) : JR P N C ops T M U Γ0 H0 (.one i l) Q E Γ H := by
  intro hn a w he hs
  have hy := yielded_of (ops := ops) he hj hg
  by_cases hb : b = want
  · exact .inr ⟨hM, _, v hb, ho, .inl ⟨by simp [Region.wanted, hy, hb], fun w' hs' => hv hb _ _ _ _ a w' he (keepU hs')⟩, ht hb hn _ w (he.put d hd _) hs⟩
  · exact .inr ⟨hM, _, undef, ho, .inr ⟨by simp [Region.wanted, hy, hb], rfl⟩, hf hb hn _ w (he.put d hd undef) hs⟩

/-- One that may move the memory; what it leaves still holds what was held where the statement began. -/
theorem JR.m {i d : Nat} {op : Op} {pos : String} {aft : Array Edge} {post : Value → RL → RL → Prop} (ho : ops[i]? = some ⟨some d, op, ty, pos, aft, none⟩) (hM : M i = true) (hm : Mv P N C E Γ H op ty post) (hd : d < N)
    (h : ∀ v Γ' H', post v Γ' H' → ((∀ r ∈ Γ0, r ∈ Γ') ∧ (T i = true ∨ ∀ w, St C Γ' H' w → St C Γ0 H0 w)) ∧ JR P N C ops T M U Γ0 H0 l Q ((d, v) :: E) Γ' H') : JR P N C ops T M U Γ0 H0 (.one i l) Q E Γ H := by
  intro hn a w he hs
  refine .inl ⟨hM, ?_⟩
  unfold wpOp
  simp only [ho, Region.wanted, if_true]
  refine .inl (hm _ _ _ _ a w he hs _ _ fun v Γ' H' w' hp hs' => ?_)
  obtain ⟨h1, h2⟩ := h v Γ' H' hp
  exact ⟨⟨St.keep0' h1.1 hs', h1.2.imp id fun h1 => h1 w' hs'⟩, h2 hn _ _ (he.put d hd v) hs'⟩
theorem JR.m0 {i : Nat} {op : Op} {pos : String} {aft : Array Edge} {post : Value → RL → RL → Prop} (ho : ops[i]? = some ⟨none, op, ty, pos, aft, none⟩) (hM : M i = true) (hm : Mv P N C E Γ H op ty post)
    (h : ∀ v Γ' H', post v Γ' H' → ((∀ r ∈ Γ0, r ∈ Γ') ∧ (T i = true ∨ ∀ w, St C Γ' H' w → St C Γ0 H0 w)) ∧ JR P N C ops T M U Γ0 H0 l Q E Γ' H') : JR P N C ops T M U Γ0 H0 (.one i l) Q E Γ H := by
  intro hn a w he hs
  refine .inl ⟨hM, ?_⟩
  unfold wpOp
  simp only [ho, Region.wanted, if_true]
  refine .inl (hm _ _ _ _ a w he hs _ _ fun v Γ' H' w' hp hs' => ?_)
  obtain ⟨h1, h2⟩ := h v Γ' H' hp
  exact ⟨⟨St.keep0' h1.1 hs', h1.2.imp id fun h1 => h1 w' hs'⟩, h2 hn _ _ he hs'⟩
/-- A guarded one that may move the memory. -/
theorem JR.gm {i d : Nat} {op : Op} {pos : String} {aft : Array Edge} {j g : Nat} {want b : Bool} {post : Value → RL → RL → Prop} (ho : ops[i]? = some ⟨some d, op, ty, pos, aft, some (j, want)⟩) (hM : M i = true)
    (hj : ((ops[j]?).bind (·.dst)) = some g) (hg : lk E g = some (.bool b)) (hm : b = want → Mv P N C E Γ H op ty post) (hd : d < N)
    (h : b = want → ∀ v Γ' H', post v Γ' H' → ((∀ r ∈ Γ0, r ∈ Γ') ∧ (T i = true ∨ ∀ w, St C Γ' H' w → St C Γ0 H0 w)) ∧ JR P N C ops T M U Γ0 H0 l Q ((d, v) :: E) Γ' H')
    (hf : b ≠ want → ((∀ r ∈ Γ0, r ∈ Γ) ∧ (T i = true ∨ ∀ w, St C Γ H w → St C Γ0 H0 w)) ∧ JR P N C ops T M U Γ0 H0 l Q ((d, undef) :: E) Γ H) : JR P N C ops T M U Γ0 H0 (.one i l) Q E Γ H := by
  intro hn a w he hs
  have hy := yielded_of (ops := ops) he hj hg
  refine .inl ⟨hM, ?_⟩
  unfold wpOp
  by_cases hb : b = want
  · simp only [ho, Region.wanted, hy, hb, beq_self_eq_true, if_true]
    refine .inl (hm hb _ _ _ _ a w he hs _ _ fun v Γ' H' w' hp hs' => ?_)
    obtain ⟨h1, h2⟩ := h hb v Γ' H' hp
    exact ⟨⟨St.keep0' h1.1 hs', h1.2.imp id fun h1 => h1 w' hs'⟩, h2 hn _ _ (he.put d hd v) hs'⟩
  · have h0 : (some b == some want) = false := by simp [hb]
    simp only [ho, Region.wanted, hy, h0]
    obtain ⟨h1, h2⟩ := hf hb
    exact ⟨⟨St.keep0' h1.1 hs, h1.2.imp id fun h1 => h1 w hs⟩, h2 hn _ _ (he.put d hd undef) hs⟩

theorem St.keep (hg : Subs Γ0 Γ) {G : RL} (hH : Picks H0 H G) : ∀ w, St C Γ H w → St C Γ0 H0 w := fun _ hs => (hs.perm hH.perm).weak hg.sub
theorem JR.weak {E' : Env} {Γ' H' G : RL} (h : JR P N C ops T M U Γ0 H0 l Q E' Γ' H') (hE : Sub E' E) (hg : ∀ r ∈ Γ', r ∈ Γ) (hH : H.Perm (H' ++ G)) : JR P N C ops T M U Γ0 H0 l Q E Γ H :=
  fun hn a w he hs => h hn a w (he.sub hE) ((hs.perm hH).weak hg)
/-- Ways that stand beside each other. -/
def JA (P : Program) (N : Nat) (C : Beg) (ops : Array Oper) (T M U : Nat → Bool) (Γ0 H0 : RL) (l : OT) (Q : Exit → Act → World → Prop) (E : Env) (Γ H : RL) : Prop :=
  NP Q → ∀ a w, EnvOk N E a → St C Γ H w → wpOrd P ops Q (St C Γ0 []) (St C Γ0 H0) T M U false l a w
theorem JA.nil : JA P N C ops T M U Γ0 H0 .nil Q E Γ H := fun _ _ _ _ _ h => by cases h
theorem JA.alt {i : Nat} {t r : OT} (hi : M i = true) (h1 : JR P N C ops T M U Γ0 H0 (.one i t) Q E Γ H) (h2 : JA P N C ops T M U Γ0 H0 r Q E Γ H) : JA P N C ops T M U Γ0 H0 (.alt i t r) Q E Γ H := by
  intro hn a w he hs
  refine ⟨?_, h2 hn a w he hs⟩
  rcases h1 hn a w he hs with h | h
  · exact h.2
  · rw [hi] at h; cases h.1
theorem JR.alt {i : Nat} {t r : OT} (hi : M i = true) (h1 : JR P N C ops T M U Γ0 H0 (.one i t) Q E Γ H) (h2 : JA P N C ops T M U Γ0 H0 r Q E Γ H) : JR P N C ops T M U Γ0 H0 (.alt i t r) Q E Γ H := by
  intro hn a w he hs
  refine ⟨?_, h2 hn a w he hs⟩
  rcases h1 hn a w he hs with h | h
  · exact h.2
  · rw [hi] at h; cases h.1
theorem JR.know {φ : Prop} (hφ : ∀ w, Sat Γ H w → φ) (h : φ → JR P N C ops T M U Γ0 H0 l Q E Γ H) : JR P N C ops T M U Γ0 H0 l Q E Γ H :=
  fun hn a w he hs => h (hφ w hs.sat) hn a w he hs
end

theorem ltb {a b : Nat} (h : Nat.blt a b = true) : a < b := by simpa [Nat.blt_eq] using h

def IsRd (w : World) (v : Value) (n size : Nat) (xs : List Value) : Prop :=
 ∃ A c, v = .slice A n c ∧ xs.length = n * size ∧ n ≤ maxLen ∧ n ≤ c ∧ ∀ j u, xs[j]? = some u → ∃ b o, A = some ⟨b, o, none⟩ ∧ w.cell? ⟨b, o + j, none⟩ = some u

def blk (v : Value) : Nat := v.ownBlock.getD 0
def off : Value → Nat
 | .slice (some a) _ _ => a.off
 | _ => 0

def Res.rd (v : Value) (n size : Nat) (xs : List Value) : Res where
 fp k := xs ≠ [] ∧ v.ownBlock = some k
 ok w := IsRd w v n size xs
 loc w w' h ho := by
  obtain ⟨A, c, hv, hl, hm, hc, hx⟩ := ho
  refine ⟨A, c, hv, hl, hm, hc, fun j u hj => ?_⟩
  obtain ⟨b, o, hA, hcell⟩ := hx j u hj
  refine ⟨b, o, hA, ?_⟩
  have hne : xs ≠ [] := by intro e; subst e; simp at hj
  have := h b ⟨hne, by rw [hv, hA]; rfl⟩
  rw [World.cell?_of_block this]
  exact hcell
theorem Res.rd_ok {v : Value} {n size : Nat} {xs : List Value} {w : World} : (Res.rd v n size xs).ok w ↔ IsRd w v n size xs := Iff.rfl
theorem Res.rd_fp {v : Value} {n size : Nat} {xs : List Value} {k : Nat} : (Res.rd v n size xs).fp k ↔ (xs ≠ [] ∧ v.ownBlock = some k) := Iff.rfl

def Res.row (v : Value) (n : Nat) (e : TypeId) (size : Nat) (xs : List Value) : Res where
 fp k := v.ownBlock = some k
 ok w := w.ownsRow 0 e size v n xs
 loc w w' h ho := by
  refine ⟨ho.1, ?_⟩
  rcases ho.2 with hn | ⟨g, cap, cur, rfl, hb, hg, rest⟩
  ·exact .inl hn
  ·exact .inr ⟨g, cap, cur, rfl, hb, (h g rfl).trans hg, rest⟩
theorem Res.row_ok {v : Value} {n : Nat} {e : TypeId} {size : Nat} {xs : List Value} {w : World} : (Res.row v n e size xs).ok w ↔ w.ownsRow 0 e size v n xs := Iff.rfl
theorem Res.row_fp {v : Value} {n : Nat} {e : TypeId} {size : Nat} {xs : List Value} {k : Nat} : (Res.row v n e size xs).fp k ↔ v.ownBlock = some k := Iff.rfl

theorem IsRd.at {w : World} {v : Value} {n size : Nat} {xs : List Value} (h : IsRd w v n size xs) (hne : xs ≠ []) : ∃ c, v = .slice (some ⟨blk v, off v, none⟩) n c := by
 obtain ⟨A, c, hv, hl, hm, hc, hx⟩ := h
 cases xs with
 | nil => exact absurd rfl hne
 | cons x xs =>
  obtain ⟨b, o, hA, _⟩ := hx 0 x rfl
  subst hA hv
  exact ⟨c, rfl⟩
theorem IsRd.cell {w : World} {v : Value} {n size : Nat} {xs : List Value} (h : IsRd w v n size xs) {j : Nat} {u : Value} (hj : xs[j]? = some u) : w.cell? ⟨blk v, off v + j, none⟩ = some u := by
 obtain ⟨A, c, hv, hl, hm, hc, hx⟩ := h
 obtain ⟨b, o, hA, hcell⟩ := hx j u hj
 subst hA hv
 exact hcell
theorem row_rd {w : World} {v : Value} {n : Nat} {e : TypeId} {size : Nat} {xs : List Value} (_h0 : 0 < size) (h : w.ownsRow 0 e size v n xs) : IsRd w v n size xs := by
 rcases h.2 with ⟨rfl, rfl⟩ | ⟨g, cap, cur, rfl, hb, hg, hn, hm, hs, hx⟩
 ·have : xs = [] := List.eq_nil_of_length_eq_zero (by have := h.1; simpa using this)
  subst this
  exact ⟨none, 0, rfl, by simp, Nat.zero_le _, Nat.le_refl _, by simp⟩
 ·refine ⟨_, cap, rfl, h.1, by omega, hn, fun j u hj => ⟨g, 0, rfl, ?_⟩⟩
  rw [← hx] at hj
  have hlt : j < n * size := by
   have := (List.getElem?_eq_some_iff.1 hj).1
   simp at this; omega
  rw [List.getElem?_take_of_lt hlt] at hj
  simp only [World.cell?, hg, Nat.zero_add]
  simpa using hj

attribute [irreducible] Res.rd Res.row

inductive Lend : Res → RL → Prop
 | same (r : Res) (l : RL) : Lend r (r :: l)
 | row (v : Value) (n : Nat) (e : TypeId) (size : Nat) (xs : List Value) (l : RL) (_ : 0 < size) : Lend (Res.rd v n size xs) (Res.row v n e size xs :: l)
 | there (r x : Res) (l : RL) : Lend r l → Lend r (x :: l)
inductive Lends : RL → RL → Prop
 | nil (L : RL) : Lends [] L
 | cons (r : Res) (l L : RL) : Lend r L → Lends l L → Lends (r :: l) L
theorem Lend.ex {r : Res} {L : RL} (h : Lend r L) : ∃ s ∈ L, (∀ k, r.fp k → s.fp k) ∧ ∀ w, s.ok w → r.ok w := by
 induction h with
 | same r l => exact ⟨r, .head _, fun _ h => h, fun _ h => h⟩
 | row v n e size xs l h0 => exact ⟨_, .head _, fun k hk => Res.row_fp.2 (Res.rd_fp.1 hk).2, fun w hw => Res.rd_ok.2 (row_rd h0 (Res.row_ok.1 hw))⟩
 | there r x l _ ih =>
  obtain ⟨s, hs, h⟩ := ih
  exact ⟨s, .tail _ hs, h⟩
theorem Lends.ex {l L : RL} (h : Lends l L) : ∀ r ∈ l, ∃ s ∈ L, (∀ k, r.fp k → s.fp k) ∧ ∀ w, s.ok w → r.ok w := by
 induction h with
 | nil => simp
 | cons r l L hr _ ih =>
  intro s hs
  rcases List.mem_cons.1 hs with rfl | hs
  ·exact hr.ex
  ·exact ih s hs

section
variable {P : Program} {N : Nat} {C : Beg} {Q : Exit → Act → World → Prop} {E : Env} {Γ H : RL} {ty : TypeId} {ops : Array Oper} {rest : List Oper}

theorem Sat.lend {Γc Hc G : RL} {w : World} (h : Sat Γ (Hc ++ G) w) (hl : Lends Γc (G ++ Γ)) : Sat Γc Hc w := by
 have hdj := List.pairwise_append.1 h.hdj
 have hs : ∀ s ∈ G ++ Γ, s.ok w ∧ (∀ k, s.fp k → k < w.heap.size) ∧ ∀ t ∈ Hc, ∀ k, s.fp k → ¬ t.fp k := by
  intro s hs
  rcases List.mem_append.1 hs with hs | hs
  ·exact ⟨h.hok s (List.mem_append.2 (.inr hs)), h.hlt s (List.mem_append.2 (.inr hs)), fun t ht k hk hk' => hdj.2.2 t ht s hs k hk' hk⟩
  ·exact ⟨h.gok s hs, h.glt s hs, fun t ht k hk hk' => h.ghd s hs t (List.mem_append.2 (.inl ht)) k hk hk'⟩
 refine ⟨?_, ?_, fun r hr => h.hok r (List.mem_append.2 (.inl hr)), fun r hr => h.hlt r (List.mem_append.2 (.inl hr)), hdj.1, ?_⟩
 ·intro r hr
  obtain ⟨s, hsm, _, h2⟩ := hl.ex r hr
  exact h2 w (hs s hsm).1
 ·intro r hr k hk
  obtain ⟨s, hsm, h1, _⟩ := hl.ex r hr
  exact (hs s hsm).2.1 k (h1 k hk)
 ·intro r hr t ht k hk
  obtain ⟨s, hsm, h1, _⟩ := hl.ex r hr
  exact (hs s hsm).2.2 t ht k (h1 k hk)

theorem Mv.callB {f : FuncId} {xs : List Operand} {vs : List Value} {AT : Array TypeId} {Γc Hc G : RL} {post : Value → RL → RL → Prop} (hb : Body P f) (hx : evs E xs = some vs)
  (hc : Spec P f vs.toArray Γc Hc post) (hp : Picks Hc H G) (hg : Lends Γc (G ++ Γ)) (h0 : ∀ v Γ1 H1, post v Γ1 H1 → Γ1 = []) :
  Mv P N C E Γ H (.call { callee := .value (.func f), args := xs.toArray, argTypes := AT }) ty (fun v Γ' H' => ∃ H1, post v [] H1 ∧ Γ' = Γ ∧ H' = H1 ++ G) := by
 intro dst pos aft gd a w he hs K Q hK
 have hr : (execOp a.eval ⟨dst, .call { callee := .value (.func f), args := xs.toArray, argTypes := AT }, ty, pos, aft, gd⟩).run P w = .ok (.enter f vs.toArray) w := by
  have := hb vs.toArray w
  simp [execOp, resolve, Deferred.ofValue, Act.eval, invoke, he.evs hx, this]
 have hst := hs.perm hp.perm
 simp only [Oper.wp, hr, Oper.upon]
 refine (hc w (hst.sat.lend hg)).mono ?_
 rintro e w' ⟨v, Γ', H', rfl, hpost, hst'⟩
 have e0 := h0 _ _ _ hpost
 subst e0
 have hst2 : St ⟨w, [], Hc⟩ [] H' w' := by
  refine ⟨⟨by simp, by simp, hst'.sat.hok, hst'.sat.hlt, hst'.sat.hdj, by simp⟩, hst'.stp, hst'.hsub, ?_⟩
  rintro k ⟨r, hr, _⟩
  cases hr
 have := hst.frame (Γc := []) (by simp) hst2
 exact hK _ _ _ _ ⟨_, hpost, rfl, rfl⟩ (by simpa using this)
theorem JO.callB {d : Nat} {pos : String} {aft : Array Edge} {f : FuncId} {xs : List Operand} {vs : List Value} {AT : Array TypeId} {Γc Hc G : RL} {post : Value → RL → RL → Prop} (hc : Spec P f vs.toArray Γc Hc post) (hb : Body P f) (hx : evs E xs = some vs)
  (hp : Picks Hc H G) (hg : Lends Γc (G ++ Γ)) (h0 : ∀ v Γ1 H1, post v Γ1 H1 → Γ1 = []) (hd : d < N)
  (h : ∀ v H2, (∃ H1, post v [] H1 ∧ H2 = H1 ++ G) → JO P N C ops rest Q ((d, v) :: E) Γ H2) :
  JO P N C ops (⟨some d, .call { callee := .value (.func f), args := xs.toArray, argTypes := AT }, ty, pos, aft, none⟩ :: rest) Q E Γ H :=
 .m (Mv.callB hb hx hc hp hg h0) hd fun v Γ' H' ⟨H1, hp, hΓ, hH⟩ => by subst hΓ; exact h v H' ⟨H1, hp, hH⟩
theorem JO.callB0 {pos : String} {aft : Array Edge} {f : FuncId} {xs : List Operand} {vs : List Value} {AT : Array TypeId} {Γc Hc G : RL} {post : Value → RL → RL → Prop} (hc : Spec P f vs.toArray Γc Hc post) (hb : Body P f) (hx : evs E xs = some vs)
  (hp : Picks Hc H G) (hg : Lends Γc (G ++ Γ)) (h0 : ∀ v Γ1 H1, post v Γ1 H1 → Γ1 = [])
  (h : ∀ v H2, (∃ H1, post v [] H1 ∧ H2 = H1 ++ G) → JO P N C ops rest Q E Γ H2) :
  JO P N C ops (⟨none, .call { callee := .value (.func f), args := xs.toArray, argTypes := AT }, ty, pos, aft, none⟩ :: rest) Q E Γ H :=
 .m0 (Mv.callB hb hx hc hp hg h0) fun v Γ' H' ⟨H1, hp, hΓ, hH⟩ => by subst hΓ; exact h v H' ⟨H1, hp, hH⟩

theorem Yv.lenRd {x : Operand} {T e : TypeId} {v : Value} {n size : Nat} {xs : List Value} (hT : P.underlying T = some (.slice e)) (hx : ev E x = some v) (hm : Lend (Res.rd v n size xs) (H ++ Γ)) :
  Yv P N C E Γ H (.call { callee := .builtin .len, args := #[x], argTypes := #[T] }) ty (it (n : Int)) := by
 intro dst pos aft gd a w he hs
 have hr : (Res.rd v n size xs).ok w := (Sat.lend (Hc := []) (G := H) (Γc := [Res.rd v n size xs]) (by simpa using hs.sat) (.cons _ _ _ hm (.nil _))).gok _ (.head _)
 obtain ⟨A, c, rfl, _⟩ := Res.rd_ok.1 hr
 exact Yv.len_s hT hx dst pos aft gd a w he hs
theorem Sat.rd {v : Value} {n size : Nat} {xs : List Value} {w : World} (hs : Sat Γ H w) (hm : Lend (Res.rd v n size xs) (H ++ Γ)) : IsRd w v n size xs :=
 Res.rd_ok.1 ((Sat.lend (Hc := []) (G := H) (Γc := [Res.rd v n size xs]) (by simpa using hs) (.cons _ _ _ hm (.nil _))).gok _ (.head _))
theorem Yv.indexRd {x ix : Operand} {T e : TypeId} {v : Value} {n size j : Nat} {xs : List Value} {k : IntKind} (hT : P.underlying T = some (.slice e)) (hsz : (P.info? e).map (·.size) = some size) (hx : ev E x = some v) (hi : ev E ix = some (.int k (j : Int)))
  (hm : Lend (Res.rd v n size xs) (H ++ Γ)) (h0 : 0 < size) (hj : j < n) : Yv P N C E Γ H (.indexAddr T x ix) ty (ptr (blk v) (off v + j * size)) := by
 intro dst pos aft gd a w he hs
 have hr := hs.sat.rd hm
 have hne : xs ≠ [] := by
  obtain ⟨A, c, _, hl, _⟩ := hr
  intro e; subst e
  have : n * size = 0 := by simpa using hl.symm
  rcases Nat.mul_eq_zero.1 this with h | h <;> omega
 obtain ⟨c, hv⟩ := hr.at hne
 obtain ⟨i, hi1, hi2⟩ := Option.map_eq_some_iff.1 hsz
 have h1 : (0 : Int) ≤ j ∧ (j : Int) < n := by omega
 have hx' : ev E x = some (.slice (some ⟨blk v, off v, none⟩) n c) := by rw [← hv]; exact hx
 simp [execOp, he.ev hx', he.ev hi, Instr.indexAt, asIntOf, underlying, hT, h1, sizeOf, typeInfo, hi1, hi2, add_none, hj]
theorem Kn.rd {v : Value} {n size j : Nat} {xs : List Value} {u : Value} (hm : Lend (Res.rd v n size xs) (H ++ Γ)) (hj : xs[j]? = some u) : Kn Γ H ⟨blk v, off v + j, none⟩ u :=
 fun _ hs => (hs.rd hm).cell hj

def Src (Γ H : RL) (size : Nat) (u : Value) (m : Nat) (news : List Value) : Prop :=
 ∀ w, Sat Γ H w → ∃ A c, u = .slice A m c ∧ news.length = m * size ∧ (A = none → m = 0) ∧ ∀ j x, news[j]? = some x → ∃ a, A = some a ∧ w.cell? (a.add j) = some x
theorem Src.rd {v : Value} {n size : Nat} {xs : List Value} (hm : Lend (Res.rd v n size xs) (H ++ Γ)) (h0 : 0 < size) : Src Γ H size v n xs := by
 intro w hs
 obtain ⟨A, c, hv, hl, _, _, hx⟩ := hs.rd hm
 refine ⟨A, c, hv, hl, fun hA => ?_, fun j x hj => ?_⟩
 ·subst hA
  cases xs with
  | nil =>
   have : n * size = 0 := by simpa using hl.symm
   rcases Nat.mul_eq_zero.1 this with h | h <;> omega
  | cons x xs => obtain ⟨b, o, h, _⟩ := hx 0 x rfl; cases h
 ·obtain ⟨b, o, hA, hc⟩ := hx j x hj
  exact ⟨_, hA, by rw [add_none]; exact hc⟩
theorem Src.cells {b o n c size : Nat} {cs : List Value} {T : TypeId} (hm : Res.cells b cs T ∈ H) (hl : o + n * size ≤ cs.length) : Src Γ H size (.slice (some ⟨b, o, none⟩) n c) n ((cs.drop o).take (n * size)) := by
 intro w hs
 refine ⟨some ⟨b, o, none⟩, c, rfl, by simp; omega, fun h => absurd h (by simp), fun j x hj => ⟨_, rfl, ?_⟩⟩
 rw [add_none]
 have hlt : j < n * size := by have := (List.getElem?_eq_some_iff.1 hj).1; simp at this; omega
 rw [List.getElem?_take_of_lt hlt, List.getElem?_drop] at hj
 exact Kn.own hm hj w hs
theorem Src.nil {c size : Nat} : Src Γ H size (.slice none 0 c) 0 [] := fun _ _ => ⟨_, _, rfl, by simp, fun _ => rfl, by simp⟩

theorem run_append_nothing (w : World) (t ty e : TypeId) (i : TypeInfo) (size : Nat) (A : Option Addr) (n c c' : Nat) (ht : P.underlying t = some (.slice e)) (hi : P.info? e = some i) (_hs : i.size = size) (hn : n ≤ c) :
  (Builtin.append_ #[t, t] ty #[.slice A n c, .slice none 0 c']).run P w = .ok (.slice A n c) w := by
 cases A <;> simp [Builtin.append_, underlying, ht, sizeOf, typeInfo, hi, Builtin.lenOf, Builtin.firstCells, hn, storeCells]

theorem Mv.append {t e : TypeId} {z : Value} {size bytes : Nat} {x y : Operand} {v u : Value} {n m : Nat} {xs news : List Value} {G : RL} (ht : P.underlying t = some (.slice e))
  (hinfo : (P.info? e).map (fun i => (i.zero, i.size, i.bytes)) = some (some z, size, bytes)) (hz : z.cells.size = size) (h0 : 0 < size) (hx : ev E x = some v) (hy : ev E y = some u)
  (hp : Pull (Res.row v n e size xs) H G) (hsrc : Src Γ H size u m news) (hone : ∀ a ∈ news, a.oneCell' = true) (hnm : n + m ≤ maxLen) (hb : (n + m) * bytes ≤ 140737488355328) :
  Mv P N C E Γ H (.call { callee := .builtin .append, args := #[x, y], argTypes := #[t, t] }) ty (fun v' Γ' H' => Γ' = Γ ∧ H' = Res.row v' (n + m) e size (xs ++ news) :: G) := by
 intro dst pos aft gd a w he hs K Q hK
 obtain ⟨i, hi, hzz⟩ := Option.map_eq_some_iff.1 hinfo
 simp only [Prod.mk.injEq] at hzz
 obtain ⟨hz0, hz1, hz2⟩ := hzz
 have hst := hs.perm hp.perm
 have hrow := Res.row_ok.1 (hst.sat.hok _ (.head _))
 obtain ⟨A, c, rfl, hl, hA, hcell⟩ := hsrc w hs.sat
 have key : ∃ v' w', (Builtin.append_ #[t, t] ty #[v, .slice A m c]).run P w = .ok v' w' ∧ w'.ownsRow 0 e size v' (n + m) (xs ++ news) ∧ w.grownBy w' v.ownBlock ∧ (∀ k, v'.ownBlock = some k → v.ownBlock = some k ∨ w.heap.size ≤ k) := by
  cases A with
  | none =>
   obtain rfl := hA rfl
   have hnews : news = [] := List.eq_nil_of_length_eq_zero (by simpa using hl)
   subst hnews
   have hv : ∃ B c2, v = .slice B n c2 ∧ n ≤ c2 := by
    rcases hrow.2 with ⟨rfl, rfl⟩ | ⟨g, cap, cur, rfl, _, _, hn, _⟩
    ·exact ⟨none, 0, rfl, Nat.le_refl _⟩
    ·exact ⟨_, cap, rfl, hn⟩
   obtain ⟨B, c2, rfl, hn⟩ := hv
   refine ⟨_, w, run_append_nothing w t ty e i size B n c2 c ht hi hz1 hn, by simpa using hrow, ⟨rfl, rfl, rfl, Nat.le_refl _, fun _ _ _ => rfl⟩, fun k hk => .inl hk⟩
  | some ad =>
   obtain ⟨v', w', hr, hown, hg, hiff, hat⟩ := run_append_own_at (P := P) w 0 t ty e i z size bytes ht hi hz0 hz1 hz2 hz h0 v n xs hrow ad m c news hl
    (fun j x hj => by obtain ⟨a', ha, hc⟩ := hcell j x hj; obtain rfl := Option.some.inj ha; exact hc) hone hnm hb (Nat.zero_le _)
   refine ⟨v', w', hr, hown, hg, fun k hk => ?_⟩
   rcases hat with hat | hat
   ·exact .inl (hat ▸ hk)
   ·rw [hat] at hk
    obtain rfl := Option.some.inj hk
    exact .inr (Nat.le_refl _)
 obtain ⟨v', w', hr, hown, hg, hnew⟩ := key
 have hr' : (execOp a.eval ⟨dst, .call { callee := .builtin .append, args := #[x, y], argTypes := #[t, t] }, ty, pos, aft, gd⟩).run P w = .ok (.value v') w' := by
  simp [execOp, resolve, invoke, builtin, he.ev hx, he.ev hy, hr]
 simp only [Oper.wp, hr', Oper.upon]
 have h1 : St ⟨w, [], [Res.row v n e size xs]⟩ [] [Res.row v' (n + m) e size (xs ++ news)] w' := by
  refine ⟨⟨by simp, by simp, ?_, ?_, by simp, by simp⟩, ⟨hg.os, hg.tape, hg.output, hg.size, fun k hk hn => hg.block k hk fun e => hn ⟨_, .head _, Res.row_fp.2 e.symm⟩⟩, ?_, fun k ⟨_, h, _⟩ => by simp at h⟩
  ·intro r hr
   obtain rfl := List.mem_singleton.1 hr
   exact Res.row_ok.2 hown
  ·intro r hr k hk
   obtain rfl := List.mem_singleton.1 hr
   exact (hown.lt k (Res.row_fp.1 hk)).2
  ·rintro k ⟨r, hr, hk⟩
   obtain rfl := List.mem_singleton.1 hr
   rcases hnew k (Res.row_fp.1 hk) with h | h
   ·exact .inl ⟨_, .head _, Res.row_fp.2 h⟩
   ·exact .inr h
 have h2 := St.frame (Hc := [Res.row v n e size xs]) (G := G) (Γc := []) (by simpa using hst) (by simp) h1
 exact hK _ _ _ _ ⟨rfl, rfl⟩ (by simpa using h2)
end

theorem splice_get {cs vs : List Value} {o : Nat} (h : o + vs.length ≤ cs.length) (j : Nat) : (splice cs o vs)[j]? = if j < o then cs[j]? else if j < o + vs.length then vs[j - o]? else cs[j]? := by
 unfold splice
 have hm : min o cs.length = o := Nat.min_eq_left (by omega)
 rcases Nat.lt_or_ge j o with h1 | h1
 ·rw [if_pos h1, List.getElem?_append_left (by simp; omega), List.getElem?_append_left (by simp; omega), List.getElem?_take_of_lt h1]
 ·rw [if_neg (by omega)]
  rcases Nat.lt_or_ge j (o + vs.length) with h2 | h2
  ·rw [if_pos h2, List.getElem?_append_left (by simp; omega), List.getElem?_append_right (by simp; omega)]
   simp [hm]
  ·rw [if_neg (by omega), List.getElem?_append_right (by simp; omega), List.getElem?_drop]
   congr 1
   simp [hm]
   omega
theorem take_splice {cs vs : List Value} {o m : Nat} (h : o + vs.length ≤ m) (hm : m ≤ cs.length) : (splice cs o vs).take m = splice (cs.take m) o vs := by
 apply List.ext_getElem?
 intro j
 rw [splice_get (by simp; omega)]
 rcases Nat.lt_or_ge j m with hj | hj
 ·rw [List.getElem?_take_of_lt hj, splice_get (by omega), List.getElem?_take_of_lt hj]
 ·rw [List.getElem?_eq_none (by simp; omega), if_neg (by omega), if_neg (by omega), List.getElem?_eq_none (by simp; omega)]

section
variable {P : Program} {N : Nat} {C : Beg} {Q : Exit → Act → World → Prop} {E : Env} {Γ H : RL} {ty : TypeId} {ops : Array Oper} {rest : List Oper}

theorem JO.append {d : Nat} {pos : String} {aft : Array Edge} {t e : TypeId} {z : Value} {size bytes : Nat} {x y : Operand} {v u : Value} {n m : Nat} {xs news : List Value} {G : RL} (ht : P.underlying t = some (.slice e))
  (hinfo : (P.info? e).map (fun i => (i.zero, i.size, i.bytes)) = some (some z, size, bytes)) (hz : z.cells.size = size) (h0 : 0 < size) (hx : ev E x = some v) (hy : ev E y = some u)
  (hp : Pull (Res.row v n e size xs) H G) (hsrc : Src Γ H size u m news) (hone : ∀ a ∈ news, a.oneCell' = true) (hnm : n + m ≤ maxLen) (hb : (n + m) * bytes ≤ 140737488355328) (hd : d < N)
  (h : ∀ v', JO P N C ops rest Q ((d, v') :: E) Γ (Res.row v' (n + m) e size (xs ++ news) :: G)) :
  JO P N C ops (⟨some d, .call { callee := .builtin .append, args := #[x, y], argTypes := #[t, t] }, ty, pos, aft, none⟩ :: rest) Q E Γ H :=
 .m (Mv.append ht hinfo hz h0 hx hy hp hsrc hone hnm hb) hd fun v' Γ' H' ⟨hΓ, hH⟩ => by subst hΓ hH; exact h v'

theorem St.nilRow {w : World} (h : St C Γ H w) (e : TypeId) (size : Nat) : St C Γ (Res.row (.slice none 0 0) 0 e size [] :: H) w := by
 have h0 : St ⟨w, [], []⟩ [] [Res.row (.slice none 0 0) 0 e size []] w := by
  refine ⟨⟨by simp, by simp, ?_, ?_, by simp, by simp⟩, Stp.refl _ _, ?_, fun k ⟨_, h, _⟩ => by simp at h⟩
  ·intro r hr
   obtain rfl := List.mem_singleton.1 hr
   exact Res.row_ok.2 (World.ownsRow_nil w 0 e size)
  ·intro r hr k hk
   obtain rfl := List.mem_singleton.1 hr
   have := Res.row_fp.1 hk
   simp [Value.ownBlock] at this
  ·rintro k ⟨r, hr, hk⟩
   obtain rfl := List.mem_singleton.1 hr
   have := Res.row_fp.1 hk
   simp [Value.ownBlock] at this
 simpa using St.frame (Hc := []) (Γc := []) (by simpa using h) (by simp) h0
theorem St.nilRd {w : World} (h : St C Γ H w) (size : Nat) : St C (Res.rd (.slice none 0 0) 0 size [] :: Γ) H w := by
 refine ⟨⟨?_, ?_, h.sat.hok, h.sat.hlt, h.sat.hdj, ?_⟩, h.stp, h.hsub, ?_⟩
 ·intro t ht
  rcases List.mem_cons.1 ht with rfl | ht
  ·exact Res.rd_ok.2 ⟨none, 0, rfl, by simp, Nat.zero_le _, Nat.le_refl _, by simp⟩
  ·exact h.sat.gok t ht
 ·intro t ht k hk
  rcases List.mem_cons.1 ht with rfl | ht
  ·exact absurd rfl (Res.rd_fp.1 hk).1
  ·exact h.sat.glt t ht k hk
 ·intro t ht u hu k hk hk'
  rcases List.mem_cons.1 ht with rfl | ht
  ·exact absurd rfl (Res.rd_fp.1 hk).1
  ·exact h.sat.ghd t ht u hu k hk hk'
 ·rintro k ⟨t, ht, hk⟩
  rcases List.mem_cons.1 ht with rfl | ht
  ·exact absurd rfl (Res.rd_fp.1 hk).1
  ·exact h.gsub k ⟨t, ht, hk⟩
theorem JO.nilRow {l : List Oper} (e : TypeId) (size : Nat) (h : JO P N C ops l Q E Γ (Res.row (.slice none 0 0) 0 e size [] :: H)) : JO P N C ops l Q E Γ H :=
 fun hn a w he hs => h hn a w he (hs.nilRow e size)
theorem JO.nilRd {l : List Oper} (size : Nat) (h : JO P N C ops l Q E (Res.rd (.slice none 0 0) 0 size [] :: Γ) H) : JO P N C ops l Q E Γ H :=
 fun hn a w he hs => h hn a w he (hs.nilRd size)
theorem JC.nilRow {c : Code} (e : TypeId) (size : Nat) (h : JC P N C c Q E Γ (Res.row (.slice none 0 0) 0 e size [] :: H)) : JC P N C c Q E Γ H :=
 fun hn a w he hs => h hn a w he (hs.nilRow e size)
theorem JC.nilRd {c : Code} (size : Nat) (h : JC P N C c Q E (Res.rd (.slice none 0 0) 0 size [] :: Γ) H) : JC P N C c Q E Γ H :=
 fun hn a w he hs => h hn a w he (hs.nilRd size)
theorem JQ.nilRow {ex : Exit} (e : TypeId) (size : Nat) (h : JQ N C ex Q E Γ (Res.row (.slice none 0 0) 0 e size [] :: H)) : JQ N C ex Q E Γ H :=
 fun hn a w he hs => h hn a w he (hs.nilRow e size)

theorem St.freezeRow {w : World} {v : Value} {n : Nat} {e : TypeId} {size : Nat} {xs : List Value} {G : RL} (h : St C Γ H w) (hp : Pull (Res.row v n e size xs) H G) (h0 : 0 < size) : St C (Res.rd v n size xs :: Γ) G w :=
 ((h.perm hp.perm).conv (s := Res.rd v n size xs) (fun _ hk => Res.row_fp.2 (Res.rd_fp.1 hk).2) (fun hw => Res.rd_ok.2 (row_rd h0 (Res.row_ok.1 hw)))).freeze
theorem JO.freeze {l : List Oper} {v : Value} {n : Nat} {e : TypeId} {size : Nat} {xs : List Value} {G : RL} (hp : Pull (Res.row v n e size xs) H G) (h0 : 0 < size) (h : JO P N C ops l Q E (Res.rd v n size xs :: Γ) G) : JO P N C ops l Q E Γ H :=
 fun hn a w he hs => h hn a w he (hs.freezeRow hp h0)
theorem JC.freeze {c : Code} {v : Value} {n : Nat} {e : TypeId} {size : Nat} {xs : List Value} {G : RL} (hp : Pull (Res.row v n e size xs) H G) (h0 : 0 < size) (h : JC P N C c Q E (Res.rd v n size xs :: Γ) G) : JC P N C c Q E Γ H :=
 fun hn a w he hs => h hn a w he (hs.freezeRow hp h0)
theorem JQ.freeze {ex : Exit} {v : Value} {n : Nat} {e : TypeId} {size : Nat} {xs : List Value} {G : RL} (hp : Pull (Res.row v n e size xs) H G) (h0 : 0 < size) (h : JQ N C ex Q E (Res.rd v n size xs :: Γ) G) : JQ N C ex Q E Γ H :=
 fun hn a w he hs => h hn a w he (hs.freezeRow hp h0)

theorem Sat.rowAt {v : Value} {n : Nat} {e : TypeId} {size : Nat} {xs : List Value} {w : World} (hs : Sat Γ H w) (hm : Res.row v n e size xs ∈ H) (hn : 0 < n) :
  ∃ c cur, v = .slice (some ⟨blk v, 0, none⟩) n c ∧ w.heap[blk v]? = some (.cells cur e (0, 0)) ∧ n ≤ c ∧ cur.size = c * size ∧ cur.toList.take (n * size) = xs := by
 have := Res.row_ok.1 (hs.hok _ hm)
 rcases this.2 with ⟨_, h0⟩ | ⟨g, cap, cur, rfl, _, hg, hnc, _, hs, hx⟩
 ·omega
 ·exact ⟨cap, cur, rfl, hg, hnc, hs, hx⟩
theorem Yv.indexRow {x ix : Operand} {T e : TypeId} {v : Value} {n size j : Nat} {xs : List Value} {k : IntKind} (hT : P.underlying T = some (.slice e)) (hsz : (P.info? e).map (·.size) = some size) (hx : ev E x = some v) (hi : ev E ix = some (.int k (j : Int)))
  (hm : Res.row v n e size xs ∈ H) (hj : j < n) : Yv P N C E Γ H (.indexAddr T x ix) ty (ptr (blk v) (j * size)) := by
 intro dst pos aft gd a w he hs
 obtain ⟨c, cur, hv, _⟩ := hs.sat.rowAt hm (by omega)
 obtain ⟨i, hi1, hi2⟩ := Option.map_eq_some_iff.1 hsz
 have h1 : (0 : Int) ≤ j ∧ (j : Int) < n := by omega
 have hx' : ev E x = some (.slice (some ⟨blk v, 0, none⟩) n c) := by rw [← hv]; exact hx
 simp [execOp, he.ev hx', he.ev hi, Instr.indexAt, asIntOf, underlying, hT, h1, sizeOf, typeInfo, hi1, hi2, add_none, hj]
theorem Kn.row {v : Value} {n j : Nat} {e : TypeId} {size : Nat} {xs : List Value} {u : Value} (hm : Res.row v n e size xs ∈ H) (hj : xs[j]? = some u) : Kn Γ H ⟨blk v, j, none⟩ u := by
 intro w hs
 have hr := Res.row_ok.1 (hs.hok _ hm)
 rcases hr.2 with ⟨_, h0⟩ | ⟨g, cap, cur, rfl, _, hg, hnc, _, hs, hx⟩
 ·have := hr.1; subst h0; have h1 := (List.getElem?_eq_some_iff.1 hj).1; simp at this; subst this; simp at h1
 ·rw [← hx] at hj
  have hlt : j < n * size := by have := (List.getElem?_eq_some_iff.1 hj).1; simp at this; omega
  rw [List.getElem?_take_of_lt hlt] at hj
  show World.cell? w ⟨g, j, none⟩ = _
  simp only [World.cell?, hg]
  simpa using hj
theorem Mv.storeRow {T m : TypeId} {x y : Operand} {v u : Value} {o n : Nat} {e : TypeId} {size : Nat} {us xs : List Value} {H' : RL} (hT : (P.info? T).map (·.size) = some m) (hx : ev E x = some (ptr (blk v) o)) (hy : ev E y = some u)
  (hu : u.cells = us.toArray) (hm : us.length = m) (h1 : ∀ a ∈ us, a.oneCell' = true) (hp : Upd H (Res.row v n e size xs) (Res.row v n e size (splice xs o us)) H') (hn : 0 < n) (hl : o + m ≤ n * size) :
  Mv P N C E Γ H (.store T x y) ty (fun _ Γ1 H1 => Γ1 = Γ ∧ H1 = H') := by
 intro dst pos aft gd a w he hs K Q hK
 subst hm
 obtain ⟨G, hp1, hp2⟩ := hp.ex
 have hst := hs.perm hp1
 have hrow := Res.row_ok.1 (hst.sat.hok _ (.head _))
 rcases hrow.2 with ⟨_, h0⟩ | ⟨g, cap, cur, rfl, hb, hg, hnc, hcm, hcs, hxs⟩
 ·omega
 have hle : n * size ≤ cur.size := by rw [hcs]; exact Nat.mul_le_mul_right _ hnc
 have hr := run_storeCells_at (P := P) g o e us 0 cur w hg (by omega) h1
 obtain ⟨i, hi1, hi2⟩ := Option.map_eq_some_iff.1 hT
 have hx' : ev E x = some (ptr g o) := hx
 have hr' : (execOp a.eval ⟨dst, .store T x y, ty, pos, aft, gd⟩).run P w = .ok .skip (w.setRow g (cur.toList.take (o + 0) ++ us ++ cur.toList.drop (o + 0 + us.length)).toArray) := by
  simp [execOp, he.ev hx', he.ev hy, Instr.storeAt, Instr.sureAddr, storeVar, sizeOf, typeInfo, hi1, hi2, hu, hr]
 simp only [Oper.wp, hr', Oper.upon]
 have hgn := setRow_heap w g cur (cur.toList.take (o + 0) ++ us ++ cur.toList.drop (o + 0 + us.length)).toArray e (0, 0) hg
 have h2 : St ⟨w, [], [Res.row (.slice (some ⟨g, 0, none⟩) n cap) n e size xs]⟩ [] [Res.row (.slice (some ⟨g, 0, none⟩) n cap) n e size (splice xs o us)] (w.setRow g (cur.toList.take (o + 0) ++ us ++ cur.toList.drop (o + 0 + us.length)).toArray) := by
  refine ⟨⟨by simp, by simp, ?_, ?_, by simp, by simp⟩, ⟨rfl, rfl, rfl, by simp, fun k _ hn => setRow_other w g k _ fun e => hn ⟨_, .head _, Res.row_fp.2 (by rw [e]; rfl)⟩⟩, ?_, fun k ⟨_, h, _⟩ => by simp at h⟩
  ·intro r hr
   obtain rfl := List.mem_singleton.1 hr
   refine Res.row_ok.2 ⟨?_, .inr ⟨g, cap, _, rfl, hb, hgn, hnc, hcm, ?_, ?_⟩⟩
   ·rw [splice_length (by rw [hrow.1]; exact hl), hrow.1]
   ·simp; omega
   ·rw [← hxs]
    have := take_splice (cs := cur.toList) (vs := us) (o := o) (m := n * size) hl (by simpa using hle)
    simpa [splice] using this
  ·intro r hr k hk
   obtain rfl := List.mem_singleton.1 hr
   have : k = g := by have := Res.row_fp.1 hk; simpa [Value.ownBlock] using this.symm
   subst this
   exact heap_lt hgn
  ·rintro k ⟨r, hr, hk⟩
   obtain rfl := List.mem_singleton.1 hr
   exact .inl ⟨_, .head _, Res.row_fp.2 (Res.row_fp.1 hk)⟩
 have h3 := St.frame (G := G) (Hc := [_]) (Γc := []) (by simpa using hst) (by simp) h2
 exact hK _ _ _ _ ⟨rfl, rfl⟩ ((show St C Γ _ _ by simpa using h3).perm hp2.symm)
theorem JO.storeRow {T m : TypeId} {pos : String} {aft : Array Edge} {x y : Operand} {v u : Value} {o n : Nat} {e : TypeId} {size : Nat} {us xs : List Value} {H' : RL} (hT : (P.info? T).map (·.size) = some m) (hx : ev E x = some (ptr (blk v) o)) (hy : ev E y = some u)
  (hu : u.cells = us.toArray) (hm : us.length = m) (h1 : ∀ a ∈ us, a.oneCell' = true) (hp : Upd H (Res.row v n e size xs) (Res.row v n e size (splice xs o us)) H') (hn : 0 < n) (hl : o + m ≤ n * size)
  (h : JO P N C ops rest Q E Γ H') : JO P N C ops (⟨none, .store T x y, ty, pos, aft, none⟩ :: rest) Q E Γ H :=
 .m0 (Mv.storeRow hT hx hy hu hm h1 hp hn hl) fun v Γ' H' ⟨hΓ, hH⟩ => by subst hΓ hH; exact h

theorem ownsRow_cells {w : World} {b n : Nat} {e : TypeId} {size : Nat} {cs : List Value} (h : w.heap[b]? = some (.cells cs.toArray e (0, 0))) (hl : cs.length = n * size) (hm : n ≤ maxLen) :
  w.ownsRow 0 e size (.slice (some ⟨b, 0, none⟩) n n) n cs :=
 ⟨hl, .inr ⟨b, n, _, rfl, Nat.zero_le _, h, Nat.le_refl _, hm, by simpa using hl, by rw [← hl]; simp⟩⟩
theorem St.cellsRow {w : World} {b n : Nat} {e : TypeId} {size : Nat} {cs : List Value} (h : St C Γ (Res.cells b cs e :: H) w) (hl : cs.length = n * size) (hm : n ≤ maxLen) : St C Γ (Res.row (.slice (some ⟨b, 0, none⟩) n n) n e size cs :: H) w :=
 h.conv (fun k hk => Res.cells_fp.2 (by have := Res.row_fp.1 hk; simpa [Value.ownBlock] using this.symm)) fun ho => Res.row_ok.2 (ownsRow_cells (Res.cells_ok.1 ho) hl hm)

theorem Mv.make {t e : TypeId} {z : Value} {bytes n : Nat} {x y : Operand} {k k' : IntKind} (ht : P.underlying t = some (.slice e)) (hinfo : (P.info? e).map (fun i => (i.zero, i.size, i.bytes)) = some (some z, 1, bytes)) (hz1 : z.cells = #[z])
  (hx : ev E x = some (.int k (n : Int))) (hy : ev E y = some (.int k' (n : Int))) (hb : bytes * n ≤ 281474976710656) (hn : n ≤ maxLen) :
  Mv P N C E Γ H (.makeSlice t x y) ty (fun v Γ' H' => Γ' = Γ ∧ H' = Res.row v n e 1 (List.replicate n z) :: H) := by
 intro dst pos aft gd a w he hs K Q hK
 have hr := run_make_row' (P := P) t e z bytes ht hinfo hz1 k k' n hb (by unfold maxLen at hn; omega) w
 have hr' : (execOp a.eval ⟨dst, .makeSlice t x y, ty, pos, aft, gd⟩).run P w = .ok (.value (.slice (some ⟨w.heap.size, 0, none⟩) n n)) (w.alloc (.cells (madeCells #[z] n) e)) := by
  simp [execOp, he.ev hx, he.ev hy, hr]
 simp only [Oper.wp, hr', Oper.upon]
 have hcs : madeCells #[z] n = (List.replicate n z).toArray := by
  unfold madeCells
  apply Array.ext'
  simp only [Array.toList_map, Array.toList_range]
  apply List.ext_getElem
  ·simp
  ·intro i h1 h2
   simp [Nat.mod_one]
 have h1 := hs.alloc (List.replicate n z) e
 rw [← hcs] at h1
 exact hK _ _ _ _ ⟨rfl, rfl⟩ (h1.cellsRow (by simp) hn)
theorem JO.make {d : Nat} {pos : String} {aft : Array Edge} {t e : TypeId} {z : Value} {bytes : Nat} (n : Nat) {x y : Operand} {k k' : IntKind} (ht : P.underlying t = some (.slice e)) (hinfo : (P.info? e).map (fun i => (i.zero, i.size, i.bytes)) = some (some z, 1, bytes)) (hz1 : z.cells = #[z])
  (hx : ev E x = some (.int k (n : Int))) (hy : ev E y = some (.int k' (n : Int))) (hb : bytes * n ≤ 281474976710656) (hn : n ≤ maxLen) (hd : d < N)
  (h : ∀ v, JO P N C ops rest Q ((d, v) :: E) Γ (Res.row v n e 1 (List.replicate n z) :: H)) : JO P N C ops (⟨some d, .makeSlice t x y, ty, pos, aft, none⟩ :: rest) Q E Γ H :=
 .m (Mv.make ht hinfo hz1 hx hy hb hn) hd fun v Γ' H' ⟨hΓ, hH⟩ => by subst hΓ hH; exact h v

def evp (E : Env) : List (Nat × Operand) → Option (List (Nat × Value))
 | [] => some []
 | (i, x) :: l => match ev E x, evp E l with
  | some v, some vs => some ((i, v) :: vs)
  | _, _ => none
theorem EnvOk.evp {a : Act} (h : EnvOk N E a) : ∀ {xs : List (Nat × Operand)} {vs : List (Nat × Value)}, evp E xs = some vs → xs.map (fun p => (p.1, a.eval p.2)) = vs
 | [], vs, hx => by simpa [Proofs.YtmhiapebljfebaaGreatDoor.evp] using hx
 | (i, x) :: xs, vs, hx => by
  simp only [Proofs.YtmhiapebljfebaaGreatDoor.evp] at hx
  split at hx
  ·rename_i v us h1 h2
   obtain rfl := Option.some.inj hx
   simp [h.ev h1, h.evp h2]
  ·cases hx

theorem Mv.buildSlice {t e : TypeId} {len : Nat} {parts : List (Nat × Operand)} {vs : List (Nat × Value)} {z : Value} {size bytes : Nat} {cs : List Value} (hu : P.underlying t = some (.slice e))
  (hinfo : (P.info? e).map (fun i => (i.zero, i.size, i.bytes)) = some (some z, size, bytes)) (hp : evp E parts = some vs) (hsmall : len * size ≤ 2 ^ 24) (hpos : 0 < len * size)
  (hf : Instr.fill (fun i => some (i * size, size)) ((Array.range (len * size)).map (z.cells[· % z.cells.size]!)) vs = some cs.toArray) (hl : cs.length = len * size) (hm : len ≤ maxLen) :
  Mv P N C E Γ H (.buildSlice t len parts.toArray) ty (fun v Γ' H' => Γ' = Γ ∧ H' = Res.row v len e size cs :: H) := by
 intro dst pos aft gd a w he hs K Q hK
 obtain ⟨i, hi, hzz⟩ := Option.map_eq_some_iff.1 hinfo
 simp only [Prod.mk.injEq] at hzz
 obtain ⟨hz0, hz1, hz2⟩ := hzz
 have hpp : (parts.toArray.map fun (i, x) => (i, a.eval x)).toList = vs := by simpa using he.evp hp
 have hr := run_buildSlice (P := P) w t e len (parts.toArray.map fun (i, x) => (i, a.eval x)) cs.toArray i z hu hi hz0 (by rw [hz1]; omega) (by rw [hz1]; omega) (by rw [hz1, hpp]; exact hf)
 have hr' : (execOp a.eval ⟨dst, .buildSlice t len parts.toArray, ty, pos, aft, gd⟩).run P w = .ok (.value (.slice (some ⟨w.heap.size, 0, none⟩) len len)) (w.alloc (.cells cs.toArray e)) := by
  simp only [execOp, Sem.run_bind, hr, Result.andThen_ok, Sem.run_pure]
 simp only [Oper.wp, hr', Oper.upon]
 exact hK _ _ _ _ ⟨rfl, rfl⟩ ((hs.alloc cs e).cellsRow hl hm)
theorem JO.buildSlice {d : Nat} {pos : String} {aft : Array Edge} {t e : TypeId} {len : Nat} {parts : List (Nat × Operand)} {vs : List (Nat × Value)} {z : Value} {size bytes : Nat} {cs : List Value} (hu : P.underlying t = some (.slice e))
  (hinfo : (P.info? e).map (fun i => (i.zero, i.size, i.bytes)) = some (some z, size, bytes)) (hp : evp E parts = some vs) (hsmall : len * size ≤ 2 ^ 24) (hpos : 0 < len * size)
  (hf : Instr.fill (fun i => some (i * size, size)) ((Array.range (len * size)).map (z.cells[· % z.cells.size]!)) vs = some cs.toArray) (hl : cs.length = len * size) (hm : len ≤ maxLen) (hd : d < N)
  (h : ∀ v, JO P N C ops rest Q ((d, v) :: E) Γ (Res.row v len e size cs :: H)) : JO P N C ops (⟨some d, .buildSlice t len parts.toArray, ty, pos, aft, none⟩ :: rest) Q E Γ H :=
 .m (Mv.buildSlice hu hinfo hp hsmall hpos hf hl hm) hd fun v Γ' H' ⟨hΓ, hH⟩ => by subst hΓ hH; exact h v

def Bld (P : Program) (T : TypeId) (place : Nat → Option (Nat × Nat)) (zs : List Value) : Prop := ∀ parts, P.built T parts = Instr.fill place zs.toArray parts
theorem Yv.build {T : TypeId} {parts : List (Nat × Operand)} {vs : List (Nat × Value)} {place : Nat → Option (Nat × Nat)} {zs cs : List Value} (hB : Bld P T place zs) (hp : evp E parts = some vs) (hf : Instr.fill place zs.toArray vs = some cs.toArray) :
  Yv P N C E Γ H (.build T parts.toArray) ty (.agg cs.toArray) := by
 intro dst pos aft gd a w he _
 have hpp : (parts.toArray.map fun (i, x) => (i, a.eval x)).toList = vs := by simpa using he.evp hp
 have hr := run_build (P := P) w T (parts.toArray.map fun (i, x) => (i, a.eval x)) cs.toArray (by rw [hpp, hB vs, hf])
 simp only [execOp, Sem.run_bind, hr, Result.andThen_ok, Sem.run_pure]

def Bd (E : Env) (x : Option Operand) (d l : Nat) : Prop :=
 match x with
 | none => l = d
 | some x => ∃ k, ev E x = some (.int k (l : Int))
theorem run_sliceBounds (w : World) (isSlice : Bool) (len cap l h : Nat) (lo hi : Option Value) (hlo : match lo with | none => l = 0 | some v => ∃ k, v = .int k (l : Int)) (hhi : match hi with | none => h = len | some v => ∃ k, v = .int k (h : Int)) (hlh : l ≤ h) (hc : h ≤ cap) :
  (Instr.sliceBounds isSlice len cap lo hi none).run P w = .ok (l, h, cap) w := by
 cases lo <;> cases hi
 ·simp only at hlo hhi
  subst hlo hhi
  simp [Instr.sliceBounds]
 ·simp only at hlo hhi
  obtain ⟨k, rfl⟩ := hhi
  subst hlo
  simp [Instr.sliceBounds, Instr.sliceBound, asIntOf, hc]
 ·simp only at hlo hhi
  obtain ⟨k, rfl⟩ := hlo
  subst hhi
  simp [Instr.sliceBounds, Instr.sliceBound, asIntOf, hlh]
 ·simp only at hlo hhi
  obtain ⟨k, rfl⟩ := hlo
  obtain ⟨k', rfl⟩ := hhi
  simp [Instr.sliceBounds, Instr.sliceBound, asIntOf, hlh, hc]
theorem Bd.lo {a : Act} {x : Option Operand} {d l : Nat} (he : EnvOk N E a) (h : Bd E x d l) : match x.map a.eval with | none => l = d | some v => ∃ k, v = .int k (l : Int) := by
 cases x with
 | none => exact h
 | some x => obtain ⟨k, hk⟩ := h; exact ⟨k, he.ev hk⟩

theorem Mv.cut {T e : TypeId} {x : Operand} {lo hi : Option Operand} {v : Value} {n size l h : Nat} {xs : List Value} (hT : P.underlying T = some (.slice e)) (hsz : (P.info? e).map (·.size) = some size) (hx : ev E x = some v)
  (hm : Res.rd v n size xs ∈ Γ) (hlo : Bd E lo 0 l) (hhi : Bd E hi n h) (hlh : l ≤ h) (hn : h ≤ n) :
  Mv P N C E Γ H (.slice T x lo hi none) ty (fun v' Γ' H' => Γ' = Res.rd v' (h - l) size ((xs.drop (l * size)).take ((h - l) * size)) :: Γ ∧ H' = H) := by
 intro dst pos aft gd a w he hs K Q hK
 obtain ⟨A, c, rfl, hl, hmx, hc, hcell⟩ := Res.rd_ok.1 (hs.sat.gok _ hm)
 obtain ⟨i, hi1, hi2⟩ := Option.map_eq_some_iff.1 hsz
 have hb := run_sliceBounds (P := P) w true n c l h (lo.map a.eval) (hi.map a.eval) (hlo.lo he) (hhi.lo he) hlh (by omega)
 have hr' : (execOp a.eval ⟨dst, .slice T x lo hi none, ty, pos, aft, gd⟩).run P w = .ok (.value (.slice (if c = l then A else A.map (·.add (l * size))) (h - l) (c - l))) w := by
  simp [execOp, he.ev hx, Instr.sliceAt, Instr.slice, underlying, hT, hb, sizeOf, typeInfo, hi1, hi2]
 simp only [Oper.wp, hr', Oper.upon]
 refine hK _ _ _ _ ⟨rfl, rfl⟩ (hs.conv' hm ?_ ?_)
 ·intro k hk
  obtain ⟨h1, h2⟩ := Res.rd_fp.1 hk
  refine Res.rd_fp.2 ⟨fun e => h1 (by rw [e]; simp), ?_⟩
  cases A with
  | none => split at h2 <;> simp [Value.ownBlock] at h2
  | some ad =>
   split at h2
   ·exact h2
   ·simp only [Option.map_some, Value.ownBlock, Option.some.injEq] at h2 ⊢
    rw [← h2]
    unfold Addr.add
    split <;> rfl
 ·intro _
  refine Res.rd_ok.2 ⟨_, _, rfl, ?_, by omega, by omega, fun j u hj => ?_⟩
  ·have : h * size ≤ n * size := Nat.mul_le_mul_right _ hn
   rw [List.length_take, List.length_drop, hl, Nat.sub_mul]
   have : l * size ≤ h * size := Nat.mul_le_mul_right _ hlh
   omega
  ·have hlt : j < (h - l) * size := by have := (List.getElem?_eq_some_iff.1 hj).1; simp at this; omega
   rw [List.getElem?_take_of_lt hlt, List.getElem?_drop] at hj
   obtain ⟨b, o, hA, hcc⟩ := hcell _ u hj
   subst hA
   have hcl : ¬ c = l := by
    intro e
    have : h - l = 0 := by omega
    rw [this] at hlt
    simp at hlt
   refine ⟨b, o + l * size, by rw [if_neg hcl]; simp [add_none], ?_⟩
   rw [Nat.add_assoc]
   exact hcc
theorem JO.cut {d : Nat} {pos : String} {aft : Array Edge} {T e : TypeId} {x : Operand} {lo hi : Option Operand} {v : Value} {n size : Nat} (l h : Nat) {xs : List Value} (hT : P.underlying T = some (.slice e)) (hsz : (P.info? e).map (·.size) = some size) (hx : ev E x = some v)
  (hm : Res.rd v n size xs ∈ Γ) (hlo : Bd E lo 0 l) (hhi : Bd E hi n h) (hlh : l ≤ h) (hn : h ≤ n) (hd : d < N)
  (hk : ∀ v', JO P N C ops rest Q ((d, v') :: E) (Res.rd v' (h - l) size ((xs.drop (l * size)).take ((h - l) * size)) :: Γ) H) :
  JO P N C ops (⟨some d, .slice T x lo hi none, ty, pos, aft, none⟩ :: rest) Q E Γ H :=
 .m (Mv.cut hT hsz hx hm hlo hhi hlh hn) hd fun v' Γ' H' ⟨hΓ, hH⟩ => by subst hΓ hH; exact hk v'

theorem Mv.cutRow {T e : TypeId} {x : Operand} {hi : Operand} {k : IntKind} {v : Value} {n size h : Nat} {xs : List Value} {G : RL} (hT : P.underlying T = some (.slice e)) (hsz : (P.info? e).map (·.size) = some size) (hx : ev E x = some v)
  (hp : Pull (Res.row v n e size xs) H G) (hhi : ev E hi = some (.int k (h : Int))) (hn : h ≤ n) :
  Mv P N C E Γ H (.slice T x none (some hi) none) ty (fun v' Γ' H' => Γ' = Γ ∧ H' = Res.row v' h e size (xs.take (h * size)) :: G) := by
 intro dst pos aft gd a w he hs K Q hK
 have hst := hs.perm hp.perm
 have hrow := Res.row_ok.1 (hst.sat.hok _ (.head _))
 obtain ⟨i, hi1, hi2⟩ := Option.map_eq_some_iff.1 hsz
 have hform : ∃ A c, v = .slice A n c ∧ n ≤ c := by
  rcases hrow.2 with ⟨rfl, rfl⟩ | ⟨g, cap, cur, rfl, _, _, hnc, _⟩
  ·exact ⟨none, 0, rfl, Nat.le_refl _⟩
  ·exact ⟨_, cap, rfl, hnc⟩
 obtain ⟨A, c, rfl, hnc⟩ := hform
 have hb := run_sliceBounds (P := P) w true n c 0 h none (some (a.eval hi)) rfl ⟨k, he.ev hhi⟩ (Nat.zero_le _) (by omega)
 have hr' : (execOp a.eval ⟨dst, .slice T x none (some hi) none, ty, pos, aft, gd⟩).run P w = .ok (.value (.slice A h c)) w := by
  have hA : A.map (fun x => x.add 0) = A := by cases A <;> simp [Addr.add] <;> split <;> simp_all
  simp [execOp, he.ev hx, Instr.sliceAt, Instr.slice, underlying, hT, hb, sizeOf, typeInfo, hi1, hi2, hA]
 simp only [Oper.wp, hr', Oper.upon]
 refine hK _ _ _ _ ⟨rfl, rfl⟩ (hst.conv (fun k hk => by have h1 := Res.row_fp.1 hk; refine Res.row_fp.2 ?_; cases A <;> exact h1) fun _ => Res.row_ok.2 ?_)
 rcases hrow.2 with ⟨hv, rfl⟩ | ⟨g, cap, cur, hv, hb0, hg, hnc', hcm, hcs, hxs⟩
 ·obtain rfl : h = 0 := by omega
  injection hv with h1 h2 h3
  subst h1 h3
  have : xs = [] := List.eq_nil_of_length_eq_zero (by simpa using hrow.1)
  subst this
  exact ⟨by simp, .inl ⟨rfl, rfl⟩⟩
 ·injection hv with h1 h2 h3
  subst h1 h3
  have hle : h * size ≤ n * size := Nat.mul_le_mul_right _ hn
  refine ⟨by rw [List.length_take, hrow.1]; omega, .inr ⟨g, c, cur, rfl, hb0, hg, by omega, hcm, hcs, ?_⟩⟩
  rw [← hxs, List.take_take, Nat.min_eq_left hle]
theorem JO.cutRow {d : Nat} {pos : String} {aft : Array Edge} {T e : TypeId} {x : Operand} {hi : Operand} {k : IntKind} {v : Value} {n size : Nat} (h : Nat) {xs : List Value} {G : RL} (hT : P.underlying T = some (.slice e)) (hsz : (P.info? e).map (·.size) = some size) (hx : ev E x = some v)
  (hp : Pull (Res.row v n e size xs) H G) (hhi : ev E hi = some (.int k (h : Int))) (hn : h ≤ n) (hd : d < N)
  (hk : ∀ v', JO P N C ops rest Q ((d, v') :: E) Γ (Res.row v' h e size (xs.take (h * size)) :: G)) :
  JO P N C ops (⟨some d, .slice T x none (some hi) none, ty, pos, aft, none⟩ :: rest) Q E Γ H :=
 .m (Mv.cutRow hT hsz hx hp hhi hn) hd fun v' Γ' H' ⟨hΓ, hH⟩ => by subst hΓ hH; exact hk v'

theorem Yv.cutArr {T e n size : Nat} {x : Operand} {lo hi : Option Operand} {b o l h : Nat} (hT : P.underlying T = some (.array n e)) (hsz : (P.info? e).map (·.size) = some size) (hx : ev E x = some (ptr b o))
  (hlo : Bd E lo 0 l) (hhi : Bd E hi n h) (hlh : l ≤ h) (hn : h ≤ n) (hl : l < n) : Yv P N C E Γ H (.slice T x lo hi none) ty (.slice (some ⟨b, o + l * size, none⟩) (h - l) (n - l)) := by
 intro dst pos aft gd a w he _
 obtain ⟨i, hi1, hi2⟩ := Option.map_eq_some_iff.1 hsz
 have hb := run_sliceBounds (P := P) w false n n l h (lo.map a.eval) (hi.map a.eval) (hlo.lo he) (hhi.lo he) hlh hn
 have hne : ¬ n = l := by omega
 simp [execOp, he.ev hx, Instr.sliceAt, Instr.sureAddr, underlying, hT, hb, sizeOf, typeInfo, hi1, hi2, hne, add_none]

theorem Mv.copy {t t' e : TypeId} {x y : Operand} {b o n c m : Nat} {u : Value} {news cs : List Value} {T' : TypeId} {H' : RL} (ht : P.underlying t = some (.slice e)) (hsz : (P.info? e).map (·.size) = some 1)
  (hx : ev E x = some (.slice (some ⟨b, o, none⟩) n c)) (hy : ev E y = some u) (hsrc : Src Γ H 1 u m news) (hone : ∀ a ∈ news, a.oneCell' = true)
  (hu : Upd H (Res.cells b cs T') (Res.cells b (splice cs o (news.take n)) T') H') (hl : o + n ≤ cs.length) :
  Mv P N C E Γ H (.call { callee := .builtin .copy, args := #[x, y], argTypes := #[t, t'] }) ty (fun v Γ1 H1 => v = it ((min m n : Nat) : Int) ∧ Γ1 = Γ ∧ H1 = H') := by
 intro dst pos aft gd a w he hs K Q hK
 obtain ⟨A, c', rfl, hnl, hA, hcell⟩ := hsrc w hs.sat
 obtain ⟨G, hp, hp'⟩ := hu.ex
 have hst := hs.perm hp
 have hb := Res.cells_ok.1 (hst.sat.hok _ (.head _))
 have hlen : (news.take n).length = Nat.min m n := by rw [List.length_take, hnl, Nat.mul_one, Nat.min_comm]
 have hfit : o + (news.take n).length ≤ cs.length := by
  rw [hlen]
  have : Nat.min m n ≤ n := Nat.min_le_right m n
  omega
 have key : ∃ w', (Builtin.copy_ #[t, t'] ty #[.slice (some ⟨b, o, none⟩) n c, .slice A m c']).run P w = .ok (it ((min m n : Nat) : Int)) w' ∧ St C Γ (Res.cells b (splice cs o (news.take n)) T' :: G) w' := by
  cases A with
  | none =>
   obtain rfl := hA rfl
   have hnews : news = [] := List.eq_nil_of_length_eq_zero (by simpa using hnl)
   subst hnews
   obtain ⟨i, hi1, hi2⟩ := Option.map_eq_some_iff.1 hsz
   refine ⟨w, ?_, by simpa [splice] using hst⟩
   simp [Builtin.copy_, run_underlying ht, Builtin.lenOf, Builtin.firstCells, sizeOf, typeInfo, hi1, storeCells, goInt]
  | some ad =>
   have hr := run_copy_row (P := P) w t t' ty e b o n c ad m c' cs.toArray T' (news.take n) ht hsz hb hlen
    (fun j v hj => by
     have hlt : j < n := by have := (List.getElem?_eq_some_iff.1 hj).1; simp at this; omega
     rw [List.getElem?_take_of_lt hlt] at hj
     obtain ⟨a', ha, hc⟩ := hcell j v hj
     obtain rfl := Option.some.inj ha
     exact hc) (by simpa using hfit) (fun v hv => hone v (List.mem_of_mem_take hv))
   refine ⟨_, by rw [hr]; simp only [hlen]; rfl, ?_⟩
   refine hst.setBlock rfl rfl rfl (by simp) ?_ (fun k hk => setRow_other w b k _ hk)
   have := setRow_heap w b cs.toArray (splice cs o (news.take n)).toArray T' (0, 0) hb
   simpa only [splice, hlen] using this
 obtain ⟨w', hr, hst'⟩ := key
 have hr' : (execOp a.eval ⟨dst, .call { callee := .builtin .copy, args := #[x, y], argTypes := #[t, t'] }, ty, pos, aft, gd⟩).run P w = .ok (.value (it ((min m n : Nat) : Int))) w' := by
  simp [execOp, resolve, invoke, builtin, he.ev hx, he.ev hy, hr]
 simp only [Oper.wp, hr', Oper.upon]
 exact hK _ _ _ _ ⟨rfl, rfl, rfl⟩ (hst'.perm hp'.symm)
theorem JO.copy {d : Nat} {pos : String} {aft : Array Edge} {t t' e : TypeId} {x y : Operand} {b o n c m : Nat} {u : Value} {news cs : List Value} {T' : TypeId} {H' : RL} (ht : P.underlying t = some (.slice e)) (hsz : (P.info? e).map (·.size) = some 1)
  (hx : ev E x = some (.slice (some ⟨b, o, none⟩) n c)) (hy : ev E y = some u) (hsrc : Src Γ H 1 u m news) (hone : ∀ a ∈ news, a.oneCell' = true)
  (hu : Upd H (Res.cells b cs T') (Res.cells b (splice cs o (news.take n)) T') H') (hl : o + n ≤ cs.length) (hd : d < N)
  (h : JO P N C ops rest Q ((d, it ((min m n : Nat) : Int)) :: E) Γ H') :
  JO P N C ops (⟨some d, .call { callee := .builtin .copy, args := #[x, y], argTypes := #[t, t'] }, ty, pos, aft, none⟩ :: rest) Q E Γ H :=
 .m (Mv.copy ht hsz hx hy hsrc hone hu hl) hd fun v Γ' H' ⟨hv, hΓ, hH⟩ => by subst hv hΓ hH; exact h

theorem Yv.min_i {x y : Operand} {AT : Array TypeId} {a b : Int} (hx : ev E x = some (it a)) (hy : ev E y = some (it b)) : Yv P N C E Γ H (.call { callee := .builtin .min, args := #[x, y], argTypes := AT }) ty (it (min a b)) := by
 intro dst pos aft gd c w he _
 have h0 : (if b < a then b else a) = min a b := by omega
 simp [execOp, he.ev hx, he.ev hy, resolve, invoke, builtin, Builtin.min_, Builtin.min2, h0]
theorem Yv.max_i {x y : Operand} {AT : Array TypeId} {a b : Int} (hx : ev E x = some (it a)) (hy : ev E y = some (it b)) : Yv P N C E Γ H (.call { callee := .builtin .max, args := #[x, y], argTypes := AT }) ty (it (max a b)) := by
 intro dst pos aft gd c w he _
 have h0 : (if a < b then b else a) = max a b := by omega
 simp [execOp, he.ev hx, he.ev hy, resolve, invoke, builtin, Builtin.max_, Builtin.max2, h0]
end
end Go.Proofs.YtmhiapebljfebaaGreatDoor
