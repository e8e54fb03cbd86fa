/- From what a given statement hands in to the calculus, and back. No program in sight. -/
import Derived.Test.YtffgimlkmfjgmaaDoorA8
import Derived.WalkKit
import Derived.ProofKit
import Derived.OpenShut
import Derived.ShutString
import Derived.ChangeOld
import Derived.Below
import Derived.Deep.Slices
namespace Go.Proofs.YtffgimlkmfjgmaaDoor
open Go.RowKit
theorem FP_nil {k : Nat} : ¬ FP [] k := fun ⟨r, hr, _⟩ => by cases hr
theorem St.below {Γ Γ0 H : RL} {w w' : World} (h : St ⟨w, Γ0, []⟩ Γ H w') : Below w.heap.size w w' := (h.stp.mono (fun _ _ hk => absurd hk FP_nil)).below
theorem u64_of {a : Int} (h : (Lit.int .u64 a).wf = true) : ∃ x : BitVec 64, Value.int .u64 a = u64 x := by
  simp only [Lit.wf, Bool.and_eq_true, decide_eq_true_eq, show IntKind.u64.min = 0 from rfl, show IntKind.u64.max = 18446744073709551615 from rfl] at h
  refine ⟨BitVec.ofNat 64 a.toNat, ?_⟩
  unfold u64
  rw [BitVec.toNat_ofNat, Nat.mod_eq_of_lt (by omega)]
  congr 1
  omega
theorem u8_of {a : Int} (h : (Lit.int .u8 a).wf = true) : ∃ x : BitVec 8, Value.int .u8 a = u8 x := by
  simp only [Lit.wf, Bool.and_eq_true, decide_eq_true_eq, show IntKind.u8.min = 0 from rfl, show IntKind.u8.max = 255 from rfl] at h
  refine ⟨BitVec.ofNat 8 a.toNat, ?_⟩
  unfold u8
  rw [BitVec.toNat_ofNat, Nat.mod_eq_of_lt (by omega)]
  congr 1
  omega
theorem it_of {a : Int} (h : (Lit.int .i64 a).wf = true) : Fits a := by
  simp only [Lit.wf, Bool.and_eq_true, decide_eq_true_eq, show IntKind.i64.min = -9223372036854775808 from rfl, show IntKind.i64.max = 9223372036854775807 from rfl] at h
  exact h

/-! ### What came in -/
section
variable {H : Type} {enc : TypeId × Value → H} {P : Program} {w : World}
/-- These cells came in as a t. -/
def Came (enc : TypeId × Value → H) (P : Program) (w : World) (t : TypeId) (cs : List Value) : Prop := ∃ base spare held fuel x, DataW.trod enc P w base spare held fuel t cs = some x
theorem Came.int {t : TypeId} {k : IntKind} {cs : List Value} (ht : P.underlying t = some (.int k)) (h : Came enc P w t cs) : ∃ n, cs = [.int k n] ∧ (Lit.int k n).wf = true := by
  obtain ⟨_, _, _, _, _, h⟩ := h
  obtain ⟨n, h1, _, h2⟩ := DataW.trod_int ht h
  exact ⟨n, h1, h2⟩
theorem Came.u64 {t : TypeId} {cs : List Value} (ht : P.underlying t = some (.int .u64)) (h : Came enc P w t cs) : ∃ x : BitVec 64, cs = [Go.Proofs.YtffgimlkmfjgmaaDoor.u64 x] := by
  obtain ⟨n, rfl, hn⟩ := h.int ht
  obtain ⟨x, hx⟩ := u64_of hn
  exact ⟨x, by rw [hx]⟩
theorem Came.u8 {t : TypeId} {cs : List Value} (ht : P.underlying t = some (.int .u8)) (h : Came enc P w t cs) : ∃ x : BitVec 8, cs = [Go.Proofs.YtffgimlkmfjgmaaDoor.u8 x] := by
  obtain ⟨n, rfl, hn⟩ := h.int ht
  obtain ⟨x, hx⟩ := u8_of hn
  exact ⟨x, by rw [hx]⟩
theorem Came.it {t : TypeId} {cs : List Value} (ht : P.underlying t = some (.int .i64)) (h : Came enc P w t cs) : ∃ n, cs = [Go.Proofs.YtffgimlkmfjgmaaDoor.it n] ∧ Fits n := by
  obtain ⟨n, rfl, hn⟩ := h.int ht
  exact ⟨n, rfl, it_of hn⟩
theorem Came.bool {t : TypeId} {cs : List Value} (ht : P.underlying t = some .bool) (h : Came enc P w t cs) : ∃ b, cs = [.bool b] := by
  obtain ⟨_, _, _, _, _, h⟩ := h
  obtain ⟨b, h1, _⟩ := DataW.trod_bool ht h
  exact ⟨b, h1⟩
theorem Came.string {t : TypeId} {cs : List Value} (ht : P.underlying t = some .string) (h : Came enc P w t cs) : ∃ s, cs = [.string s] ∧ s.size ≤ maxLen := by
  obtain ⟨_, _, _, _, _, h⟩ := h
  obtain ⟨b, h1, _, h2⟩ := DataW.trod_string ht h
  exact ⟨b, h1, h2⟩
theorem Came.struct {t : TypeId} {fs : Array Field} {cs : List Value} (ht : P.underlying t = some (.struct fs)) (h : Came enc P w t cs) :
    cs.length = P.cellsOf t ∧ ∀ (i : Nat) (f : Field), fs[i]? = some f → Came enc P w f.type ((cs.drop f.offset).take (P.cellsOf f.type)) := by
  obtain ⟨base, spare, held, fuel, x, h⟩ := h
  obtain ⟨xs, n, _, _, h1, h2, h3⟩ := DataW.trod_struct ht h
  refine ⟨h1, fun i f hf => ?_⟩
  have hi : i < xs.length := by rw [h2]; exact (Array.getElem?_eq_some_iff.1 hf).1
  exact ⟨base, spare, held, n, xs[i], by rw [h3 i f hf, List.getElem?_eq_getElem hi]⟩
theorem Came.array {t e : TypeId} {m : Nat} {cs : List Value} (ht : P.underlying t = some (.array m e)) (h : Came enc P w t cs) :
    cs.length = P.cellsOf t ∧ ∀ i : Nat, i < m → Came enc P w e ((cs.drop (i * P.cellsOf e)).take (P.cellsOf e)) := by
  obtain ⟨base, spare, held, fuel, x, h⟩ := h
  cases fuel with
  | zero => simp [DataW.trod] at h
  | succ n =>
    unfold DataW.trod at h
    rw [ht] at h
    dsimp only at h
    split at h
    · rename_i hl
      refine ⟨hl, fun i hi => ?_⟩
      obtain ⟨xs, hxs, _⟩ := Option.map_eq_some_iff.1 h
      have h1 := mapM_some_get hxs i i (by simp [hi])
      have h2 : xs.length = m := by simpa using mapM_some_length hxs
      exact ⟨base, spare, held, n, xs[i], by rw [h1, List.getElem?_eq_getElem (by omega)]⟩
    · cases h
theorem range_flat_len {f : Nat → List Value} {s : Nat} : ∀ n, (∀ i, i < n → (f i).length = s) → ((List.range n).flatMap f).length = n * s
  | 0, _ => by simp
  | n + 1, h => by
    rw [List.range_succ, List.flatMap_append, List.length_append, range_flat_len n fun i hi => h i (by omega), Nat.succ_mul]
    simp [h n (by omega)]
theorem range_flat_piece {f : Nat → List Value} {s : Nat} : ∀ n, (∀ i, i < n → (f i).length = s) → ∀ i, i < n → ((((List.range n).flatMap f).drop (i * s)).take s) = f i
  | 0, _, i, hi => absurd hi (by omega)
  | n + 1, h, i, hi => by
    have hl := range_flat_len (f := f) (s := s) n fun i hi => h i (by omega)
    rw [List.range_succ, List.flatMap_append]
    by_cases hin : i = n
    · subst hin
      rw [List.drop_append_of_le_length (by omega), List.drop_of_length_le (by omega)]
      simp only [List.flatMap_cons, List.flatMap_nil, List.append_nil, List.nil_append]
      exact List.take_of_length_le (by rw [h i (by omega)]; exact Nat.le_refl _)
    · have h2 : (i + 1) * s ≤ n * s := Nat.mul_le_mul_right _ (by omega)
      rw [Nat.succ_mul] at h2
      rw [List.drop_append_of_le_length (by omega), List.take_append_of_le_length (by rw [List.length_drop]; omega)]
      exact range_flat_piece n (fun i hi => h i (by omega)) i (by omega)
/-- A slice that came in. -/
theorem Came.slice {t e size : TypeId} {v : Value} (ht : P.underlying t = some (.slice e)) (hs : P.cellsOf e = size) (h0 : 0 < size) (h : Came enc P w t [v]) :
    ∃ n xs, IsRd w v n size xs ∧ ∀ i, i < n → Came enc P w e ((xs.drop (i * size)).take size) := by
  subst hs
  obtain ⟨base, spare, held, fuel, x, h⟩ := h
  rcases Deep.open_slice ht h with ⟨h1, _⟩ | ⟨a, len, cap, m, n, D, Pl, h1, _, hl, hm, hmm, _, hx⟩
  · obtain rfl : v = .slice none 0 0 := by simpa using h1
    exact ⟨0, [], ⟨none, 0, rfl, by simp, Nat.zero_le _, Nat.le_refl _, by simp⟩, fun i hi => absurd hi (by omega)⟩
  · obtain rfl : v = .slice (some a) len cap := by simpa using h1
    have hle : len ≤ m := by rw [hmm]; split <;> omega
    obtain ⟨f, hf⟩ := Deep.choose_lt (α := List Value) (n := len) (p := fun i cs' => w.cells? base (a.add (i * P.cellsOf e)) (P.cellsOf e) = some cs' ∧ DataW.trod enc P w base spare held n e cs' = some (D i, Pl i)) fun i hi => hx i (by omega)
    have hfl : ∀ i, i < len → (f i).length = P.cellsOf e := fun i hi => (World.cells?_some (hf i hi).1).2.1
    refine ⟨len, (List.range len).flatMap f, ⟨some a, cap, rfl, range_flat_len len hfl, by omega, hl, fun j u hj => ?_⟩, fun i hi => ?_⟩
    · have hlt := (List.getElem?_eq_some_iff.1 hj).1
      rw [range_flat_len len hfl] at hlt
      have hi : j / P.cellsOf e < len := (Nat.div_lt_iff_lt_mul h0).2 hlt
      have hr : j % P.cellsOf e < P.cellsOf e := Nat.mod_lt _ h0
      have hp := range_flat_piece len hfl _ hi
      have he : (f (j / P.cellsOf e))[j % P.cellsOf e]? = some u := by
        rw [← hp, List.getElem?_take_of_lt hr, List.getElem?_drop, Nat.mul_comm, Nat.div_add_mod]
        exact hj
      have hc := (World.cells?_some (hf _ hi).1).2.2 _ hr
      rw [he, Deep.add_add, Nat.mul_comm, Nat.div_add_mod] at hc
      obtain ⟨b, o, sp⟩ := a
      have hpos : 0 < len := Nat.lt_of_le_of_lt (Nat.zero_le _) hi
      have hsp : sp = none := by
        have h1 := (World.cells?_some (hf 0 hpos).1).2.2 0 h0
        have h2 := hfl 0 hpos
        rw [List.getElem?_eq_getElem (by omega), Deep.add_add, Nat.zero_mul] at h1
        exact World.cell?_spot (a := ⟨b, o, sp⟩) h1
      subst hsp
      refine ⟨b, o, rfl, ?_⟩
      rw [← add_none]
      exact hc
    · rw [range_flat_piece len hfl i hi]
      exact ⟨base, spare, held, n, _, (hf i hi).2⟩
/-- Cells, told by pieces: a list of what they are. -/
theorem pieces {α : Type} {f : α → List Value} {p : α → Prop} {s : Nat} (h0 : 0 < s) : ∀ (n : Nat) (xs : List Value), xs.length = n * s → (∀ i, i < n → ∃ d, (xs.drop (i * s)).take s = f d ∧ p d) →
    ∃ l : List α, l.length = n ∧ xs = l.flatMap f ∧ ∀ d ∈ l, p d
  | 0, xs, hl, _ => ⟨[], rfl, by simpa using hl, by simp⟩
  | n + 1, xs, hl, h => by
    rw [Nat.succ_mul] at hl
    obtain ⟨d, hd, hp⟩ := h 0 (by omega)
    rw [Nat.zero_mul, List.drop_zero] at hd
    obtain ⟨l, h1, h2, h3⟩ := pieces h0 n (xs.drop s) (by rw [List.length_drop]; omega) (fun i hi => by
      obtain ⟨d, hd, hp⟩ := h (i + 1) (by omega)
      refine ⟨d, ?_, hp⟩
      rw [List.drop_drop, show s + i * s = (i + 1) * s by rw [Nat.succ_mul, Nat.add_comm]]
      exact hd)
    refine ⟨d :: l, by rw [List.length_cons, h1], ?_, fun x hx => ?_⟩
    · rw [List.flatMap_cons, ← h2, ← hd, List.take_append_drop]
    · rcases List.mem_cons.1 hx with rfl | hx
      · exact hp
      · exact h3 x hx
theorem map_flat {α : Type} (f : α → Value) (l : List α) : l.flatMap (fun x => [f x]) = l.map f := by
  induction l with
  | nil => rfl
  | cons x l ih => simp [ih]
/-- Bytes that came in. -/
theorem Came.bytes {t e : TypeId} {v : Value} (ht : P.underlying t = some (.slice e)) (hs : P.cellsOf e = 1) (he : P.underlying e = some (.int .u8)) (h : Came enc P w t [v]) : ∃ b : List (BitVec 8), IsRd w v b.length 1 (b.map Go.Proofs.YtffgimlkmfjgmaaDoor.u8) := by
  obtain ⟨n, xs, h1, h2⟩ := h.slice ht hs (by decide)
  obtain ⟨l, rfl, rfl, _⟩ := pieces (f := fun x => [Go.Proofs.YtffgimlkmfjgmaaDoor.u8 x]) (p := fun _ => True) (s := 1) (by decide) n xs (by obtain ⟨_, _, _, hl, _⟩ := h1; exact hl) (fun i hi => by
    obtain ⟨x, hx⟩ := (h2 i hi).u8 he
    exact ⟨x, hx, trivial⟩)
  rw [map_flat] at h1
  exact ⟨l, h1⟩
/-- These may be read. -/
def Rds (w : World) (G : RL) : Prop := ∀ r ∈ G, r.ok w ∧ ∀ k, r.fp k → k < w.heap.size
theorem Rds.one {v : Value} {n s : Nat} {xs : List Value} (h1 : IsRd w v n s xs) : Rds w [Res.rd v n s xs] := fun r hr => by
  obtain rfl := List.mem_singleton.1 hr
  refine ⟨Res.rd_ok.2 h1, fun k hk => ?_⟩
  obtain ⟨hne, hkb⟩ := Res.rd_fp.1 hk
  cases xs with
  | nil => exact absurd rfl hne
  | cons x xs =>
    obtain ⟨A, c, rfl, _, _, _, hx⟩ := h1
    obtain ⟨b, o, rfl, hc⟩ := hx 0 x rfl
    obtain rfl : b = k := by simpa [Value.ownBlock] using hkb
    exact World.block_lt_of_cell? w _ hc
theorem Rds.nil : Rds w [] := fun _ hr => by cases hr
theorem Rds.append {G K : RL} (h : Rds w G) (k : Rds w K) : Rds w (G ++ K) := fun r hr => (List.mem_append.1 hr).elim (h r) (k r)
theorem Rds.all {G : RL} (h : Rds w G) : Rds w [Res.all G] := fun r hr => by
  obtain rfl := List.mem_singleton.1 hr
  exact ⟨fun r hr => (h r hr).1, fun k ⟨r, hr, hk⟩ => (h r hr).2 k hk⟩
theorem Rds.flat {α : Type} {f : α → RL} {l : List α} (h : ∀ d ∈ l, Rds w (f d)) : Rds w (l.flatMap f) := fun r hr => by
  obtain ⟨d, hd, hr⟩ := List.mem_flatMap.1 hr
  exact h d hd r hr
/-- All that came in may be read. -/
theorem Sat.came {G : RL} (h : Rds w G) : Sat G [] w := ⟨fun r hr => (h r hr).1, fun r hr => (h r hr).2, by simp, by simp, .nil, by simp⟩
end
end Go.Proofs.YtffgimlkmfjgmaaDoor
