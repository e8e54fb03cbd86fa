/- A small separation calculus over 'Calls': resources, states, and how calls and stores move them. No program in sight. -/
import Derived.WalkKit
import Derived.OrdersHeld
import Derived.Laws.AppendOwn
import Derived.Deep.LoopGhost
namespace Go.Proofs.YtffgimlkmfjgmaaDoor
open Go.RowKit

/-! ### Resources -/

/-- A thing that is known of the memory, and the blocks that it is known of. -/
structure Res where
  fp : Nat → Prop
  ok : World → Prop
  loc : ∀ w w' : World, (∀ k, fp k → w'.heap[k]? = w.heap[k]?) → ok w → ok w'

abbrev RL := List Res

def FP (H : RL) (k : Nat) : Prop := ∃ r ∈ H, r.fp k

/-- Of the old blocks, only those of S may have turned. -/
structure Stp (S : Nat → Prop) (w w' : World) : Prop where
  os : w'.os = w.os
  tape : w'.tape = w.tape
  output : w'.output = w.output
  size : w.heap.size ≤ w'.heap.size
  block : ∀ k, k < w.heap.size → ¬ S k → w'.heap[k]? = w.heap[k]?

theorem Stp.refl (S : Nat → Prop) (w : World) : Stp S w w := ⟨rfl, rfl, rfl, Nat.le_refl _, fun _ _ _ => rfl⟩
theorem Stp.mono {S S' : Nat → Prop} {w w' : World} (h : Stp S w w') (hs : ∀ k, k < w.heap.size → S k → S' k) : Stp S' w w' :=
  ⟨h.os, h.tape, h.output, h.size, fun k hk hn => h.block k hk fun hS => hn (hs k hk hS)⟩
theorem Stp.trans {S S' : Nat → Prop} {a b c : World} (h : Stp S a b) (k : Stp S' b c) (hs : ∀ k, k < a.heap.size → S' k → S k) : Stp S a c :=
  ⟨k.os.trans h.os, k.tape.trans h.tape, k.output.trans h.output, Nat.le_trans h.size k.size,
   fun i hi hn => (k.block i (Nat.lt_of_lt_of_le hi h.size) fun hS => hn (hs i hi hS)).trans (h.block i hi hn)⟩
theorem Stp.below {w w' : World} (h : Stp (fun _ => False) w w') : Below w.heap.size w w' :=
  ⟨h.os, h.tape, h.output, h.size, fun k hk => h.block k hk id⟩

/-- What is held of the memory: Γ may be read by all and stays; H is one's own, each apart from the others. -/
structure Sat (Γ H : RL) (w : World) : Prop where
  gok : ∀ r ∈ Γ, r.ok w
  glt : ∀ r ∈ Γ, ∀ k, r.fp k → k < w.heap.size
  hok : ∀ r ∈ H, r.ok w
  hlt : ∀ r ∈ H, ∀ k, r.fp k → k < w.heap.size
  hdj : H.Pairwise fun r s => ∀ k, r.fp k → ¬ s.fp k
  ghd : ∀ r ∈ Γ, ∀ s ∈ H, ∀ k, r.fp k → ¬ s.fp k

theorem Sat.nil (w : World) : Sat [] [] w := ⟨by simp, by simp, by simp, by simp, .nil, by simp⟩

/-- Where a call began. -/
structure Beg where
  w0 : World
  Γ0 : RL
  H0 : RL

/-- What is held now, and what has become of the memory since the beginning. -/
structure St (C : Beg) (Γ H : RL) (w : World) : Prop where
  sat : Sat Γ H w
  stp : Stp (FP C.H0) C.w0 w
  hsub : ∀ k, FP H k → FP C.H0 k ∨ C.w0.heap.size ≤ k
  gsub : ∀ k, FP Γ k → FP C.Γ0 k ∨ FP C.H0 k ∨ C.w0.heap.size ≤ k

theorem St.begin {Γ H : RL} {w : World} (h : Sat Γ H w) : St ⟨w, Γ, H⟩ Γ H w :=
  ⟨h, Stp.refl _ _, fun _ hk => .inl hk, fun _ hk => .inl hk⟩

theorem mem_pairwise_append {H G : RL} {R : Res → Res → Prop} : (H ++ G).Pairwise R ↔ H.Pairwise R ∧ G.Pairwise R ∧ ∀ r ∈ H, ∀ s ∈ G, R r s :=
  List.pairwise_append

theorem FP_append {H G : RL} {k : Nat} : FP (H ++ G) k ↔ FP H k ∨ FP G k := by
  unfold FP
  constructor
  · rintro ⟨r, hr, hk⟩
    rcases List.mem_append.1 hr with h | h
    · exact .inl ⟨r, h, hk⟩
    · exact .inr ⟨r, h, hk⟩
  · rintro (⟨r, hr, hk⟩ | ⟨r, hr, hk⟩)
    · exact ⟨r, List.mem_append.2 (.inl hr), hk⟩
    · exact ⟨r, List.mem_append.2 (.inr hr), hk⟩

/-- The order of what one owns does not matter. -/
theorem Sat.perm {Γ H H' : RL} {w : World} (h : Sat Γ H w) (hp : H.Perm H') : Sat Γ H' w where
  gok := h.gok
  glt := h.glt
  hok r hr := h.hok r (hp.mem_iff.2 hr)
  hlt r hr := h.hlt r (hp.mem_iff.2 hr)
  hdj := hp.pairwise h.hdj (fun hrs k hs hr => hrs k hr hs)
  ghd r hr s hs := h.ghd r hr s (hp.mem_iff.2 hs)

theorem FP_perm {H H' : RL} (hp : H.Perm H') {k : Nat} : FP H k ↔ FP H' k := by
  unfold FP
  constructor
  · rintro ⟨r, hr, hk⟩; exact ⟨r, hp.mem_iff.1 hr, hk⟩
  · rintro ⟨r, hr, hk⟩; exact ⟨r, hp.mem_iff.2 hr, hk⟩

theorem St.perm {C : Beg} {Γ H H' : RL} {w : World} (h : St C Γ H w) (hp : H.Perm H') : St C Γ H' w :=
  ⟨h.sat.perm hp, h.stp, fun k hk => h.hsub k ((FP_perm hp).2 hk), h.gsub⟩

/-- What is not needed any more may be let go. -/
theorem Sat.weak {Γ Γ' H G : RL} {w : World} (h : Sat Γ (H ++ G) w) (hg : ∀ r ∈ Γ', r ∈ Γ) : Sat Γ' H w where
  gok r hr := h.gok r (hg r hr)
  glt r hr := h.glt r (hg r hr)
  hok r hr := h.hok r (List.mem_append.2 (.inl hr))
  hlt r hr := h.hlt r (List.mem_append.2 (.inl hr))
  hdj := (List.pairwise_append.1 h.hdj).1
  ghd r hr s hs := h.ghd r (hg r hr) s (List.mem_append.2 (.inl hs))

theorem St.weak {C : Beg} {Γ Γ' H G : RL} {w : World} (h : St C Γ (H ++ G) w) (hg : ∀ r ∈ Γ', r ∈ Γ) : St C Γ' H w :=
  ⟨h.sat.weak hg, h.stp, fun k hk => h.hsub k (FP_append.2 (.inl hk)), fun k ⟨r, hr, hk⟩ => h.gsub k ⟨r, hg r hr, hk⟩⟩

/-- **The frame rule**: what a part of the memory came to, beside all that is held besides. -/
theorem St.frame {C : Beg} {Γ Γc Γ' Hc G H' : RL} {w w' : World} (h : St C Γ (Hc ++ G) w) (hg : ∀ r ∈ Γc, r ∈ Γ)
    (hc : St ⟨w, Γc, Hc⟩ Γ' H' w') : St C (Γ' ++ Γ) (H' ++ G) w' := by
  have hdj := List.pairwise_append.1 h.sat.hdj
  have hcG : ∀ k, FP Hc k → ¬ FP G k := fun k ⟨r, hr, hk⟩ ⟨s, hs, hk'⟩ => hdj.2.2 r hr s hs k hk hk'
  have hltc : ∀ k, FP Hc k → k < w.heap.size := fun k ⟨r, hr, hk⟩ => h.sat.hlt r (List.mem_append.2 (.inl hr)) k hk
  have hltG : ∀ k, FP G k → k < w.heap.size := fun k ⟨r, hr, hk⟩ => h.sat.hlt r (List.mem_append.2 (.inr hr)) k hk
  have hltΓ : ∀ k, FP Γ k → k < w.heap.size := fun k ⟨r, hr, hk⟩ => h.sat.glt r hr k hk
  have hΓc : ∀ k, FP Γ k → ¬ FP Hc k := fun k ⟨r, hr, hk⟩ ⟨s, hs, hk'⟩ => h.sat.ghd r hr s (List.mem_append.2 (.inl hs)) k hk hk'
  have hΓG : ∀ k, FP Γ k → ¬ FP G k := fun k ⟨r, hr, hk⟩ ⟨s, hs, hk'⟩ => h.sat.ghd r hr s (List.mem_append.2 (.inr hs)) k hk hk'
  have hH' : ∀ k, FP H' k → FP Hc k ∨ w.heap.size ≤ k := hc.hsub
  have hΓ' : ∀ k, FP Γ' k → FP Γc k ∨ FP Hc k ∨ w.heap.size ≤ k := hc.gsub
  have hΓcΓ : ∀ k, FP Γc k → FP Γ k := fun k ⟨r, hr, hk⟩ => ⟨r, hg r hr, hk⟩
  have hsz : w.heap.size ≤ w'.heap.size := hc.stp.size
  have hsame : ∀ k, k < w.heap.size → ¬ FP Hc k → w'.heap[k]? = w.heap[k]? := hc.stp.block
  refine ⟨⟨?_, ?_, ?_, ?_, ?_, ?_⟩, ?_, ?_, ?_⟩
  · intro r hr
    rcases List.mem_append.1 hr with hr | hr
    · exact hc.sat.gok r hr
    · exact r.loc w w' (fun k hk => hsame k (h.sat.glt r hr k hk) (hΓc k ⟨r, hr, hk⟩)) (h.sat.gok r hr)
  · intro r hr k hk
    rcases List.mem_append.1 hr with hr | hr
    · exact hc.sat.glt r hr k hk
    · exact Nat.lt_of_lt_of_le (h.sat.glt r hr k hk) hsz
  · intro r hr
    rcases List.mem_append.1 hr with hr | hr
    · exact hc.sat.hok r hr
    · have hrm := List.mem_append.2 (.inr hr : r ∈ Hc ∨ r ∈ G)
      exact r.loc w w' (fun k hk => hsame k (h.sat.hlt r hrm k hk) (fun hck => hcG k hck ⟨r, hr, hk⟩)) (h.sat.hok r hrm)
  · intro r hr k hk
    rcases List.mem_append.1 hr with hr | hr
    · exact hc.sat.hlt r hr k hk
    · exact Nat.lt_of_lt_of_le (h.sat.hlt r (List.mem_append.2 (.inr hr)) k hk) hsz
  · refine List.pairwise_append.2 ⟨hc.sat.hdj, hdj.2.1, ?_⟩
    intro r hr s hs k hk hk'
    rcases hH' k ⟨r, hr, hk⟩ with hx | hx
    · exact hcG k hx ⟨s, hs, hk'⟩
    · exact absurd (hltG k ⟨s, hs, hk'⟩) (by omega)
  · intro r hr s hs k hk hk'
    rcases List.mem_append.1 hr with hr | hr <;> rcases List.mem_append.1 hs with hs | hs
    · exact hc.sat.ghd r hr s hs k hk hk'
    · have hG : FP G k := ⟨s, hs, hk'⟩
      rcases hΓ' k ⟨r, hr, hk⟩ with hx | hx | hx
      · exact hΓG k (hΓcΓ k hx) hG
      · exact hcG k hx hG
      · exact absurd (hltG k hG) (by omega)
    · have hG : FP Γ k := ⟨r, hr, hk⟩
      rcases hH' k ⟨s, hs, hk'⟩ with hx | hx
      · exact hΓc k hG hx
      · exact absurd (hltΓ k hG) (by omega)
    · exact hΓG k ⟨r, hr, hk⟩ ⟨s, hs, hk'⟩
  · refine h.stp.trans hc.stp fun k hk hS => ?_
    rcases h.hsub k (FP_append.2 (.inl hS)) with hx | hx
    · exact hx
    · omega
  · intro k hk
    rcases FP_append.1 hk with hk | hk
    · rcases hH' k hk with hx | hx
      · exact h.hsub k (FP_append.2 (.inl hx))
      · exact .inr (Nat.le_trans h.stp.size hx)
    · exact h.hsub k (FP_append.2 (.inr hk))
  · intro k hk
    rcases FP_append.1 hk with hk | hk
    · rcases hΓ' k hk with hx | hx | hx
      · exact h.gsub k (hΓcΓ k hx)
      · exact .inr (h.hsub k (FP_append.2 (.inl hx)))
      · exact .inr (.inr (Nat.le_trans h.stp.size hx))
    · exact h.gsub k hk

/-- What is one's own, and shall not be written any more, may be read by all. -/
theorem St.freeze {C : Beg} {Γ H : RL} {r : Res} {w : World} (h : St C Γ (r :: H) w) : St C (r :: Γ) H w := by
  have hp := List.pairwise_cons.1 h.sat.hdj
  refine ⟨⟨?_, ?_, fun s hs => h.sat.hok s (.tail _ hs), fun s hs => h.sat.hlt s (.tail _ hs), hp.2, ?_⟩, h.stp, fun k ⟨s, hs, hk⟩ => h.hsub k ⟨s, .tail _ hs, hk⟩, ?_⟩
  · intro s hs
    rcases List.mem_cons.1 hs with rfl | hs
    · exact h.sat.hok _ (.head _)
    · exact h.sat.gok s hs
  · intro s hs
    rcases List.mem_cons.1 hs with rfl | hs
    · exact h.sat.hlt _ (.head _)
    · exact h.sat.glt s hs
  · intro s hs t ht k hk hk'
    rcases List.mem_cons.1 hs with rfl | hs
    · exact hp.1 t ht k hk hk'
    · exact h.sat.ghd s hs t (.tail _ ht) k hk hk'
  · rintro k ⟨s, hs, hk⟩
    rcases List.mem_cons.1 hs with rfl | hs
    · exact .inr (h.hsub k ⟨_, .head _, hk⟩)
    · exact h.gsub k ⟨s, hs, hk⟩

/-- What is known may be said otherwise. -/
theorem St.conv {C : Beg} {Γ H : RL} {r s : Res} {w : World} (h : St C Γ (r :: H) w) (hf : ∀ k, s.fp k → r.fp k) (ho : r.ok w → s.ok w) : St C Γ (s :: H) w := by
  have hp := List.pairwise_cons.1 h.sat.hdj
  refine ⟨⟨h.sat.gok, h.sat.glt, ?_, ?_, List.pairwise_cons.2 ⟨fun t ht k hk => hp.1 t ht k (hf k hk), hp.2⟩, ?_⟩, h.stp, ?_, h.gsub⟩
  · intro t ht
    rcases List.mem_cons.1 ht with rfl | ht
    · exact ho (h.sat.hok _ (.head _))
    · exact h.sat.hok t (.tail _ ht)
  · intro t ht k hk
    rcases List.mem_cons.1 ht with rfl | ht
    · exact h.sat.hlt _ (.head _) k (hf k hk)
    · exact h.sat.hlt t (.tail _ ht) k hk
  · intro t ht u hu k hk hk'
    rcases List.mem_cons.1 hu with rfl | hu
    · exact h.sat.ghd t ht _ (.head _) k hk (hf k hk')
    · exact h.sat.ghd t ht u (.tail _ hu) k hk hk'
  · rintro k ⟨t, ht, hk⟩
    rcases List.mem_cons.1 ht with rfl | ht
    · exact h.hsub k ⟨_, .head _, hf k hk⟩
    · exact h.hsub k ⟨t, .tail _ ht, hk⟩

/-- What follows from what may be read may be read. -/
theorem St.conv' {C : Beg} {Γ H : RL} {r s : Res} {w : World} (h : St C Γ H w) (hr : r ∈ Γ) (hf : ∀ k, s.fp k → r.fp k) (ho : r.ok w → s.ok w) : St C (s :: Γ) H w := by
  refine ⟨⟨?_, ?_, h.sat.hok, h.sat.hlt, h.sat.hdj, ?_⟩, h.stp, h.hsub, ?_⟩
  · intro t ht
    rcases List.mem_cons.1 ht with rfl | ht
    · exact ho (h.sat.gok _ hr)
    · exact h.sat.gok t ht
  · intro t ht k hk
    rcases List.mem_cons.1 ht with rfl | ht
    · exact h.sat.glt _ hr k (hf k hk)
    · exact h.sat.glt t ht k hk
  · intro t ht u hu k hk hk'
    rcases List.mem_cons.1 ht with rfl | ht
    · exact h.sat.ghd _ hr u hu k (hf k hk) hk'
    · exact h.sat.ghd t ht u hu k hk hk'
  · rintro k ⟨t, ht, hk⟩
    rcases List.mem_cons.1 ht with rfl | ht
    · exact h.gsub k ⟨_, hr, hf k hk⟩
    · exact h.gsub k ⟨t, ht, hk⟩

/-! ### The small moves of the memory -/

/-- A draw moves nothing. -/
theorem St.drew {C : Beg} {Γ H : RL} {w : World} (h : St C Γ H w) : St C Γ H { w with drawn := w.drawn + 1 } := by
  have h0 : St ⟨w, [], []⟩ [] [] { w with drawn := w.drawn + 1 } :=
    ⟨⟨by simp, by simp, by simp, by simp, .nil, by simp⟩, ⟨rfl, rfl, rfl, Nat.le_refl _, fun _ _ _ => rfl⟩, fun k ⟨_, h, _⟩ => by simp at h, fun k ⟨_, h, _⟩ => by simp at h⟩
  simpa using St.frame (Hc := []) (Γc := []) (by simpa using h) (by simp) h0

/-- Block b is a row of cells. -/
def Res.cells (b : Nat) (cs : List Value) (T : TypeId) : Res where
  fp k := k = b
  ok w := w.heap[b]? = some (.cells cs.toArray T (0, 0))
  loc _ _ h ho := (h b rfl).trans ho

theorem Res.cells_ok {b : Nat} {cs : List Value} {T : TypeId} {w : World} : (Res.cells b cs T).ok w ↔ w.heap[b]? = some (.cells cs.toArray T (0, 0)) := Iff.rfl
theorem Res.cells_fp {b : Nat} {cs : List Value} {T : TypeId} {k : Nat} : (Res.cells b cs T).fp k ↔ k = b := Iff.rfl

attribute [irreducible] Res.cells

theorem heap_lt {w : World} {b : Nat} {o : Obj} (h : w.heap[b]? = some o) : b < w.heap.size := (Array.getElem?_eq_some_iff.1 h).1

/-- A new block. -/
theorem St.alloc {C : Beg} {Γ H : RL} {w : World} (h : St C Γ H w) (cs : List Value) (T : TypeId) :
    St C Γ (Res.cells w.heap.size cs T :: H) { w with heap := w.heap.push (.cells cs.toArray T) } := by
  have h0 : St ⟨w, [], []⟩ [] [Res.cells w.heap.size cs T] { w with heap := w.heap.push (.cells cs.toArray T) } := by
    refine ⟨⟨by simp, by simp, ?_, ?_, by simp, by simp⟩, ⟨rfl, rfl, rfl, by simp, ?_⟩, ?_, fun k ⟨_, h, _⟩ => by simp at h⟩
    · intro r hr
      obtain rfl := List.mem_singleton.1 hr
      exact Res.cells_ok.2 (by simp)
    · intro r hr k hk
      obtain rfl := List.mem_singleton.1 hr
      have := Res.cells_fp.1 hk
      subst this
      simp
    · intro k hk _
      exact Below.heap_alloc w _ k hk
    · rintro k ⟨r, hr, hk⟩
      obtain rfl := List.mem_singleton.1 hr
      have := Res.cells_fp.1 hk
      exact .inr (by rw [this]; exact Nat.le_refl _)
  simpa using St.frame (Hc := []) (Γc := []) (by simpa using h) (by simp) h0

/-- One's own block, written anew. -/
theorem St.setBlock {C : Beg} {Γ H : RL} {w w' : World} {b : Nat} {cs cs' : List Value} {T : TypeId} (h : St C Γ (Res.cells b cs T :: H) w)
    (hos : w'.os = w.os) (htape : w'.tape = w.tape) (hout : w'.output = w.output) (hsize : w'.heap.size = w.heap.size)
    (hb : w'.heap[b]? = some (.cells cs'.toArray T (0, 0))) (ho : ∀ k, k ≠ b → w'.heap[k]? = w.heap[k]?) : St C Γ (Res.cells b cs' T :: H) w' := by
  have h0 : St ⟨w, [], [Res.cells b cs T]⟩ [] [Res.cells b cs' T] w' := by
    refine ⟨⟨by simp, by simp, ?_, ?_, by simp, by simp⟩, ⟨hos, htape, hout, Nat.le_of_eq hsize.symm, ?_⟩, ?_, fun k ⟨_, h, _⟩ => by simp at h⟩
    · intro r hr
      obtain rfl := List.mem_singleton.1 hr
      exact Res.cells_ok.2 hb
    · intro r hr k hk
      obtain rfl := List.mem_singleton.1 hr
      have := Res.cells_fp.1 hk
      subst this
      exact heap_lt hb
    · intro k hk hn
      refine ho k fun e => hn ⟨_, .head _, Res.cells_fp.2 e⟩
    · rintro k ⟨r, hr, hk⟩
      obtain rfl := List.mem_singleton.1 hr
      exact .inl ⟨_, .head _, Res.cells_fp.2 (Res.cells_fp.1 hk)⟩
  simpa using St.frame (Γ := Γ) (Hc := [Res.cells b cs T]) (G := H) (Γc := []) (by simpa using h) (by simp) h0

/-! ### What a function comes to -/

def SpecPost (Γ H : RL) (post : Value → RL → RL → Prop) (w : World) (e : Ending) (w' : World) : Prop :=
  ∃ v Γ' H', e = .returned v ∧ post v Γ' H' ∧ St ⟨w, Γ, H⟩ Γ' H' w'

/-- Whoever holds Γ and H, and calls, gets v, Γ' (to be read by all) and H' (its own), as 'post' tells. -/
def Spec (P : Program) (f : FuncId) (args : Array Value) (Γ H : RL) (post : Value → RL → RL → Prop) : Prop :=
  ∀ w, Sat Γ H w → Calls P f args w (SpecPost Γ H post w)

theorem Spec.mono {P : Program} {f : FuncId} {args : Array Value} {Γ H : RL} {post post' : Value → RL → RL → Prop} (h : Spec P f args Γ H post)
    (hp : ∀ v Γ' H', post v Γ' H' → post' v Γ' H') : Spec P f args Γ H post' :=
  fun w hw => (h w hw).mono fun _ _ ⟨v, Γ', H', e, p, s⟩ => ⟨v, Γ', H', e, hp _ _ _ p, s⟩

/-! ### Frames: what is known of the slots -/

abbrev Env := List (Nat × Value)

def lk : Env → Nat → Option Value
  | [], _ => none
  | (s, v) :: E, t => if s = t then some v else lk E t

structure EnvOk (N : Nat) (E : Env) (a : Act) : Prop where
  nd : a.defers = []
  sz : a.tmps.size = N
  val : ∀ t v, lk E t = some v → a.tmps.getD t undef = v

def ev (E : Env) : Operand → Option Value
  | .tmp t => lk E t
  | .const v => some v
  | .global g => some (.pointer (some ⟨g, 0, none⟩))
  | .func f => some (.func (.func f) #[] #[])

theorem EnvOk.ev {N : Nat} {E : Env} {a : Act} (h : EnvOk N E a) {x : Operand} {v : Value} (hx : ev E x = some v) : a.eval x = v := by
  cases x with
  | tmp t => exact h.val t v hx
  | const u => exact Option.some.inj hx
  | global g => exact Option.some.inj hx
  | func f => exact Option.some.inj hx

theorem EnvOk.put {N : Nat} {E : Env} {a : Act} (h : EnvOk N E a) (d : Nat) (hd : d < N) (v : Value) : EnvOk N ((d, v) :: E) (a.put (some d) v) := by
  refine ⟨h.nd, by simp [Act.put, h.sz], fun t u ht => ?_⟩
  simp only [lk] at ht
  by_cases e : d = t
  · subst e
    rw [if_pos rfl] at ht
    obtain rfl := Option.some.inj ht
    have : d < a.tmps.size := by rw [h.sz]; exact hd
    simp [Act.put, this]
  · rw [if_neg e] at ht
    have := h.val t u ht
    simp only [Act.put, Array.getD_eq_getD_getElem?] at this ⊢
    rw [Array.getElem?_setIfInBounds_ne e]
    exact this

theorem EnvOk.put0 {N : Nat} {E : Env} {a : Act} (h : EnvOk N E a) (v : Value) : EnvOk N E (a.put none v) := h

/-- Less is known. -/
def Sub : Env → Env → Prop
  | [], _ => True
  | (t, v) :: E', E => lk E t = some v ∧ Sub E' E

theorem Sub.lk {E' E : Env} (h : Sub E' E) {t : Nat} {v : Value} (ht : lk E' t = some v) : lk E t = some v := by
  induction E' with
  | nil => cases ht
  | cons p E' ih =>
    obtain ⟨s, u⟩ := p
    simp only [Proofs.YtffgimlkmfjgmaaDoor.lk] at ht
    split at ht
    · rename_i e; subst e; obtain rfl := Option.some.inj ht; exact h.1
    · exact ih h.2 ht

theorem EnvOk.sub {N : Nat} {E E' : Env} {a : Act} (h : EnvOk N E a) (hs : Sub E' E) : EnvOk N E' a :=
  ⟨h.nd, h.sz, fun t v ht => h.val t v (hs.lk ht)⟩

/-- An ending that no panic reaches. -/
def NP (Q : Exit → Act → World → Prop) : Prop := ∀ c a w, ¬ Q (.panic c) a w

theorem NP.then {K : Act → World → Prop} {Q : Exit → Act → World → Prop} (h : NP Q) : NP (Exit.then K Q) := fun c a w hq => h c a w hq
theorem NP.inBlock {id : Nat} {Q : Exit → Act → World → Prop} (h : NP Q) : NP (Exit.inBlock id Q) := fun c a w hq => h c a w hq

/-! ### Judgements -/

/-- Code c, begun where E, Γ, H are known, ends in Q. -/
def JC (P : Program) (N : Nat) (C : Beg) (c : Code) (Q : Exit → Act → World → Prop) (E : Env) (Γ H : RL) : Prop :=
  NP Q → ∀ a w, EnvOk N E a → St C Γ H w → c.wp P Q a w

/-- What stands behind: exit e, where E, Γ, H are known, meets Q. -/
def JQ (N : Nat) (C : Beg) (e : Exit) (Q : Exit → Act → World → Prop) (E : Env) (Γ H : RL) : Prop :=
  NP Q → ∀ a w, EnvOk N E a → St C Γ H w → Q e a w

/-- The operations l, one behind the other. -/
def JO (P : Program) (N : Nat) (C : Beg) (ops : Array Oper) (l : List Oper) (Q : Exit → Act → World → Prop) (E : Env) (Γ H : RL) : Prop :=
  NP Q → ∀ a w, EnvOk N E a → St C Γ H w → wpList P ops Q l a w

section
variable {P : Program} {N : Nat} {C : Beg} {Q : Exit → Act → World → Prop} {E : Env} {Γ H : RL}

theorem JC.seq {x y : Code} (h : JC P N C x (Exit.then (y.wp P Q) Q) E Γ H) : JC P N C (.seq x y) Q E Γ H :=
  fun hn a w he hs => wp_seq (h hn.then a w he hs)
theorem JC.skip (h : JQ N C .normal Q E Γ H) : JC P N C .skip Q E Γ H := fun hn a w he hs => wp_skip (h hn a w he hs)
theorem JC.exit {id : Nat} (h : JQ N C (.exit id) Q E Γ H) : JC P N C (.exit id) Q E Γ H := fun hn a w he hs => wp_exit (h hn a w he hs)
theorem JC.ret (h : JQ N C .ret Q E Γ H) : JC P N C .ret Q E Γ H := fun hn a w he hs => wp_ret (h hn a w he hs)
theorem JC.block {id : Nat} {c : Code} (h : JC P N C c (Exit.inBlock id Q) E Γ H) : JC P N C (.block id c) Q E Γ H :=
  fun hn a w he hs => wp_block (h hn.inBlock a w he hs)
theorem JC.region {id : Nat} {l : List Oper} (h : JO P N C l.toArray l Q E Γ H) : JC P N C (.region id l.toArray false) Q E Γ H :=
  fun hn a w he hs => wp_region_lit (h hn a w he hs)
theorem JC.cond {c : Operand} {x y : Code} {t : Bool} (hc : ev E c = some (.bool t)) (ht : t = true → JC P N C x Q E Γ H) (hf : t = false → JC P N C y Q E Γ H) :
    JC P N C (.cond c x y) Q E Γ H :=
  fun hn a w he hs => wp_cond_split (he.ev hc) (fun e => ht e hn a w he hs) (fun e => hf e hn a w he hs)

theorem JQ.then_normal {y : Code} (h : JC P N C y Q E Γ H) : JQ N C .normal (Exit.then (y.wp P Q) Q) E Γ H :=
  fun hn a w he hs => h (fun c a w hq => hn c a w hq) a w he hs
theorem JQ.then_exit {K : Act → World → Prop} {id : Nat} (h : JQ N C (.exit id) Q E Γ H) : JQ N C (.exit id) (Exit.then K Q) E Γ H :=
  fun hn a w he hs => h (fun c a w hq => hn c a w hq) a w he hs
theorem JQ.then_ret {K : Act → World → Prop} (h : JQ N C .ret Q E Γ H) : JQ N C .ret (Exit.then K Q) E Γ H :=
  fun hn a w he hs => h (fun c a w hq => hn c a w hq) a w he hs
theorem JQ.block_normal {id : Nat} (h : JQ N C .normal Q E Γ H) : JQ N C .normal (Exit.inBlock id Q) E Γ H :=
  fun hn a w he hs => h (fun c a w hq => hn c a w hq) a w he hs
theorem JQ.block_ret {id : Nat} (h : JQ N C .ret Q E Γ H) : JQ N C .ret (Exit.inBlock id Q) E Γ H :=
  fun hn a w he hs => h (fun c a w hq => hn c a w hq) a w he hs
theorem JQ.block_exit {id : Nat} (h : JQ N C .normal Q E Γ H) : JQ N C (.exit id) (Exit.inBlock id Q) E Γ H :=
  fun hn a w he hs => by
    show (if id = id then Q .normal a w else Q (.exit id) a w)
    rw [if_pos rfl]
    exact h (fun c a w hq => hn c a w hq) a w he hs
theorem JQ.block_other {id id' : Nat} (hne : id' ≠ id) (h : JQ N C (.exit id') Q E Γ H) : JQ N C (.exit id') (Exit.inBlock id Q) E Γ H :=
  fun hn a w he hs => by
    show (if id' = id then Q .normal a w else Q (.exit id') a w)
    rw [if_neg hne]
    exact h (fun c a w hq => hn c a w hq) a w he hs

/-- Fewer things are known behind a loop's head, or where ways meet. -/
theorem JC.weak {c : Code} {E' : Env} {Γ' H' G : RL} (h : JC P N C c Q E' Γ' H') (hE : Sub E' E) (hg : ∀ r ∈ Γ', r ∈ Γ) (hH : H.Perm (H' ++ G)) : JC P N C c Q E Γ H :=
  fun hn a w he hs => h hn a w (he.sub hE) ((hs.perm hH).weak hg)
theorem JQ.weak {e : Exit} {E' : Env} {Γ' H' G : RL} (h : JQ N C e Q E' Γ' H') (hE : Sub E' E) (hg : ∀ r ∈ Γ', r ∈ Γ) (hH : H.Perm (H' ++ G)) : JQ N C e Q E Γ H :=
  fun hn a w he hs => h hn a w (he.sub hE) ((hs.perm hH).weak hg)

/-- What holds at a loop's head behind some rounds: one of a family. -/
def Head {ι : Type} (N : Nat) (C : Beg) (IE : ι → Env) (IΓ IH : ι → RL) (ok : ι → Prop) (a : Act) (w : World) : Prop :=
  ∃ y, ok y ∧ EnvOk N (IE y) a ∧ St C (IΓ y) (IH y) w

/-- A loop: a family of states, what is true of them, and a number that each round lowers. -/
theorem JC.loop {ι : Type} {c : Code} (pr : ι → Prop) (IE : ι → Env) (IΓ IH : ι → RL) (μ : ι → Nat) (x0 : ι)
    (hE : Sub (IE x0) E) (hg : ∀ r ∈ IΓ x0, r ∈ Γ) {G : RL} (hH : H.Perm (IH x0 ++ G)) (h0 : pr x0)
    (round : ∀ x, pr x → JC P N C c (Exit.then (Head N C IE IΓ IH (fun y => pr y ∧ μ y < μ x)) Q) (IE x) (IΓ x) (IH x)) : JC P N C (.loop c) Q E Γ H := by
  intro hn a w he hs
  refine wp_loop_ghost (fun n a w => ∃ x, pr x ∧ μ x = n ∧ EnvOk N (IE x) a ∧ St C (IΓ x) (IH x) w) (μ x0) ⟨x0, h0, rfl, he.sub hE, (hs.perm hH).weak hg⟩ ?_
  rintro n a w ⟨x, hx, rfl, hea, hst⟩
  refine Code.wp_mono ?_ (round x hx hn.then a w hea hst)
  intro e a' w' h
  cases e with
  | normal =>
    obtain ⟨y, ⟨hy0, hy⟩, hea', hst'⟩ := h
    exact ⟨μ y, hy, y, hy0, rfl, hea', hst'⟩
  | _ => exact h

/-- A round ends at the head of the next one. -/
theorem JQ.head {ι : Type} {IE : ι → Env} {IΓ IH : ι → RL} {ok : ι → Prop} (y : ι) (hE : Sub (IE y) E) (hg : ∀ r ∈ IΓ y, r ∈ Γ) {G : RL}
    (hH : H.Perm (IH y ++ G)) (hy : ok y) : JQ N C .normal (Exit.then (Head N C IE IΓ IH ok) Q) E Γ H :=
  fun _ _ _ he hs => ⟨y, hy, he.sub hE, (hs.perm hH).weak hg⟩

/-- Ways that meet again: a family of states behind x. -/
theorem JC.cut {ι : Type} {x y : Code} (pr : ι → Prop) (IE : ι → Env) (IΓ IH : ι → RL) (hx : JC P N C x (Exit.then (Head N C IE IΓ IH pr) Q) E Γ H)
    (hy : ∀ i, pr i → JC P N C y Q (IE i) (IΓ i) (IH i)) : JC P N C (.seq x y) Q E Γ H := by
  intro hn a w he hs
  refine wp_seq (Code.wp_mono ?_ (hx hn.then a w he hs))
  intro e a' w' h
  cases e with
  | normal =>
    obtain ⟨i, hi, hea, hst⟩ := h
    exact hy i hi hn a' w' hea hst
  | _ => exact h
end

/-! ### The ends of a function -/

/-- From the walk to the function's contract. The slots: the arguments, then nothing. -/
theorem Spec.of_body {P : Program} {f : FuncId} {fn : Func} {c : Code} {args : Array Value} {Γ H : RL} {post : Value → RL → RL → Prop} {N : Nat} {E : Env}
    (hf : P.funcs[f]? = some fn) (hb : fn.body = some c) (hN : fn.ntmps = N) (hle : args.size ≤ N)
    (hE : ∀ t v, lk E t = some v → args[t]? = some v)
    (h : ∀ w, JC P N ⟨w, Γ, H⟩ c (bodyPost P fn (SpecPost Γ H post w)) E Γ H) : Spec P f args Γ H post := by
  intro w hw
  refine calls_of_wp hf hb (h w ?_ _ _ ⟨rfl, ?_, ?_⟩ (St.begin hw))
  · rintro c a w' ⟨_, v, Γ', H', he, _⟩
    cases he
  · simp [hN]; omega
  · intro t v ht
    have := hE t v ht
    have hlt : t < args.size := (Array.getElem?_eq_some_iff.1 this).1
    simp [Array.getElem?_append_left hlt, this]

/-- The slots that the arguments lie in. -/
def argEnv : Nat → List Value → Env
  | _, [] => []
  | n, v :: l => (n, v) :: argEnv (n + 1) l

theorem argEnv_lk : ∀ (l : List Value) (n t : Nat) (v : Value), lk (argEnv n l) t = some v → n ≤ t ∧ l[t - n]? = some v := by
  intro l
  induction l with
  | nil => intro n t v h; cases h
  | cons u l ih =>
    intro n t v h
    simp only [argEnv, lk] at h
    split at h
    · rename_i e; subst e; simpa using h
    · have := ih (n + 1) t v h
      obtain ⟨h1, h2⟩ := this
      refine ⟨by omega, ?_⟩
      rw [show t - n = (t - (n + 1)) + 1 from by omega]
      simpa using h2

theorem Spec.of_args {P : Program} {f : FuncId} {fn : Func} {c : Code} {args : List Value} {Γ H : RL} {post : Value → RL → RL → Prop} {N : Nat}
    (hf : P.funcs[f]? = some fn) (hb : fn.body = some c) (hN : fn.ntmps = N) (hle : args.length ≤ N)
    (h : ∀ w, JC P N ⟨w, Γ, H⟩ c (bodyPost P fn (SpecPost Γ H post w)) (argEnv 0 args) Γ H) : Spec P f args.toArray Γ H post :=
  Spec.of_body hf hb hN (by simpa using hle) (fun t v ht => by simpa using (argEnv_lk args 0 t v ht).2) h

section
variable {P : Program} {N : Nat} {E : Env} {Γ H : RL} {fn : Func} {post : Value → RL → RL → Prop} {w : World} {Γ0 H0 : RL}

theorem JQ.done {e : Exit} (he : e = .normal ∨ e = .ret) {v : Value} (hr : ∀ a w', EnvOk N E a → St ⟨w, Γ0, H0⟩ Γ H w' → (results fn a.tmps).run P w' = .ok v w')
    {Γ' H' G : RL} (hg : ∀ r ∈ Γ', r ∈ Γ) (hH : H.Perm (H' ++ G)) (hp : post v Γ' H') : JQ N ⟨w, Γ0, H0⟩ e (bodyPost P fn (SpecPost Γ0 H0 post w)) E Γ H := by
  intro _ a w' hea hst
  have hx : bodyPost P fn (SpecPost Γ0 H0 post w) .ret a w' := ⟨hea.nd, v, hr a w' hea hst, v, Γ', H', rfl, hp, (hst.perm hH).weak hg⟩
  rcases he with rfl | rfl
  · exact hx
  · exact hx

theorem res_none (h : fn.results = #[]) : ∀ a w', EnvOk N E a → St ⟨w, Γ0, H0⟩ Γ H w' → (results fn a.tmps).run P w' = .ok (.tuple #[]) w' :=
  fun a w' _ _ => results_none h a.tmps P w'
theorem res_one {t : Tmp} {v : Value} (h : fn.results = #[.tmp t]) (ht : lk E t = some v) :
    ∀ a w', EnvOk N E a → St ⟨w, Γ0, H0⟩ Γ H w' → (results fn a.tmps).run P w' = .ok v w' :=
  fun a w' he _ => by rw [results_tmp h]; rw [he.val t v ht]
theorem res_two {t u : Tmp} {v x : Value} (h : fn.results = #[.tmp t, .tmp u]) (ht : lk E t = some v) (hu : lk E u = some x) :
    ∀ a w', EnvOk N E a → St ⟨w, Γ0, H0⟩ Γ H w' → (results fn a.tmps).run P w' = .ok (.tuple #[v, x]) w' :=
  fun a w' he _ => by rw [results_tmp2 h]; rw [he.val t v ht, he.val u x hu]
end
end Go.Proofs.YtffgimlkmfjgmaaDoor
