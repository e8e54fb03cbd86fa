/- The keys of a map, sorted: slices.Sorted over maps.Keys, keys that are ints. -/
import Derived.Test.YtmbpngnamnoiaaaDoorK4
import Derived.Test.YtmbpngnamnoiaaaDoorSp
namespace Go.Proofs.YtmbpngnamnoiaaaDoor
open Go.RowKit Go.Maps Go.Sort Go.Shelf
set_option linter.unusedVariables false
theorem sortsA (m : Nat) : AnyZI.SortsIn Tryd.prog sortedA_ren Fence.wide m :=
  ⟨fun blk off cap ss W hH hblk hsz => callsIn_wide.2 (AnyM.slices_Sort_int sortA blk off cap ss W hH hblk hsz), fun p cap W => callsIn_wide.2 (AnyM.slices_Sort_int_none sortA p cap W)⟩
section
variable {β : Type} {g : β → Value}
abbrev keyR : Value → Option (DataW Nat × List MemPlace) := fun _ => some (.lit (.bool true), [])
def keyD (P : Program) (k : TypeId) (g : β → Value) (m : MM Int β) : DataW Nat := .map (((ents itK g m.es).map (Go.WideElems.rg P k keyR)).foldr DataW.insert [])
theorem own_keys {P : Program} {k : TypeId} {a : Nat} {m : MM Int β} {w : World} (hk : P.underlying k = some (.int .i64)) (h : (mpR a itK g m).ok w) (ho : m.Ok) (hr : ∀ e ∈ m.es, (Lit.int .i64 e.1).wf = true) (hl : m.es.length ≤ maxLen) :
    w.ownsMap P k keyR a m.es.length (keyD P k g m) := by
  refine ⟨(ents itK g m.es).toArray, m.ck, Res.mp_ok.1 h, ⟨by simpa [ents] using hl, ⟨?_, ?_, ?_⟩, ?_⟩, by simp [ents], by simp [keyD]⟩
  · intro x hx
    simp only [ents, List.mem_map] at hx
    obtain ⟨e, he, rfl⟩ := hx
    exact ho.lt e he
  · simpa [ents, Function.comp_def] using ho.nb
  · have : (ents itK g m.es).map (·.key) = (m.es.map (·.1)).map itK := by simp [ents]
    simp only [this]
    exact List.pairwise_map.2 (ho.nk.imp fun hne e => hne (by simpa using e))
  · intro x hx
    simp only [ents, List.mem_map] at hx
    obtain ⟨e, he, rfl⟩ := hx
    exact ⟨_, Go.WideElems.rd_mk (Maps.keyOf_int_mk hk (hr e he)) rfl⟩
theorem keys_perm {P : Program} {k : TypeId} {m : MM Int β} (hk : P.underlying k = some (.int .i64)) (hr : ∀ e ∈ m.es, (Lit.int .i64 e.1).wf = true) : (intKeys (keyD P k g m)).Perm (m.es.map (·.1)) := by
  have h1 := (Go.WideShapes.sorted_perm ((ents itK g m.es).map (Go.WideElems.rg P k (keyR)))).map fun p : Lit × DataW Nat => Go.intOf p.1
  refine h1.trans (List.Perm.of_eq ?_)
  rw [ents, List.map_map, List.map_map]
  refine List.map_congr_left fun e he => ?_
  simp only [Function.comp]
  rw [Go.WideElems.rg_of (Go.WideElems.rd_mk (Maps.keyOf_int_mk hk (hr e he)) rfl)]
  rfl
def sortK (l : List Int) : List Int := l.mergeSort fun x y => decide (x ≤ y)
end
theorem keysRange {S : Nat} {k : Int} (h0 : 0 ≤ k) (h1 : k < 1000000000) : (Lit.int .i64 k).wf = true := by
  have a1 : IntKind.min .i64 = -9223372036854775808 := by decide
  have a2 : IntKind.max .i64 = 9223372036854775807 := by decide
  simp only [Lit.wf, a1, a2, Bool.and_eq_true, decide_eq_true_eq]
  omega
theorem sortK_perm (l : List Int) : (sortK l).Perm l := List.mergeSort_perm _ _
theorem sortK_of {l k : List Int} (h : l.Perm k) : sortK l = sortK k := mergeSort_of_perm_i h
theorem sortK_sorted (l : List Int) : (sortK l).Pairwise (· ≤ ·) := by
  have := List.pairwise_mergeSort (le := fun x y : Int => decide (x ≤ y)) (fun a b c h1 h2 => by simp only [decide_eq_true_eq] at *; exact Int.le_trans h1 h2) (fun a b => by simp only [Bool.or_eq_true, decide_eq_true_eq]; exact Int.le_total a b) l
  exact this.imp fun h => of_decide_eq_true h
/-- maps.Keys: an iterator over one new block that holds the map. -/
theorem keys_spec (mb : Option Nat) : Spec Tryd.prog 37 #[.map mb] [] [] (fun r Γ' H' => ∃ b, r = .func (.func 45) #[] #[ptr b 0] ∧ Γ' = [] ∧ H' = [Res.cells b [.map mb] 65]) := by
  intro w hs
  refine Calls.mono ((callsIn_wide (n := 5)).1 (AnyZI.keys_in keysA Fence.wide 5 trivial rfl mb w)) ?_
  rintro e w' ⟨rfl, rfl⟩
  exact ⟨_, _, _, rfl, ⟨_, rfl, rfl, rfl⟩, (St.begin hs).alloc [.map mb] _⟩
/-- slices.Sorted over it. -/
theorem sorted_spec {β : Type} {g : β → Value} (b a : Nat) (m : MM Int β) (ho : m.Ok) (hr : ∀ e ∈ m.es, (Lit.int .i64 e.1).wf = true) (hl : m.es.length ≤ 1000000000) :
    Spec Tryd.prog 36 #[.func (.func 45) #[] #[ptr b 0]] [Res.cells b [.map (some a)] 65, mpR a itK g m] []
      (fun r Γ' H' => True ∧ Γ' = [] ∧ H' = [Res.row r (sortK (m.es.map (·.1))).length 3 1 ((sortK (m.es.map (·.1))).map it)]) := by
  intro w hs
  have hu : Tryd.prog.underlying 3 = some (.int .i64) := Tryd.underlying3
  have hb := Res.cells_ok.1 (hs.gok _ (.head _))
  have hm := hs.gok _ (.tail _ (.head _))
  have hlt := hs.glt _ (.head _) b (Res.cells_fp.2 rfl)
  have hown := own_keys hu hm ho hr (by unfold maxLen; omega)
  have hsz : Maps.size (keyD Tryd.prog 3 g m) = m.es.length := by simp only [keyD, Maps.size, Go.length_sorted, List.length_map, ents]
  have hseq := AnyZI.keys_gives (ρ := keysA_ren) { keysA with } Fence.wide 2 trivial rfl (by omega) b a _ (keyD Tryd.prog 3 g m) w hlt (by simp [World.cell?, hb]) hown
  have cS := AnyZI.sorted_in sortedA Fence.wide 5 trivial trivial trivial trivial rfl (by omega) (sortsA _) (enters_of Tryd.func44 (by kernel_rfl) rfl) 45 #[ptr b 0] trivial (enters_of Tryd.func45 (by kernel_rfl) rfl) _ _ (by rw [hsz]; unfold maxLen; omega) (by rw [hsz]; omega) w hseq
  refine Calls.mono ((callsIn_wide (n := 5)).1 cS) ?_
  rintro e w' ⟨v, ss, rfl, hS, hrow, hnil, hB⟩
  have hp : ss.Perm (m.es.map (·.1)) := hS.trans (keys_perm hu hr)
  have he : ss.mergeSort (fun x y => decide (x ≤ y)) = sortK (m.es.map (·.1)) := sortK_of hp
  have hlen : ss.length = (sortK (m.es.map (·.1))).length := by rw [hp.length_eq, (sortK_perm _).length_eq]
  rw [he, hlen] at hrow
  have hx : ∀ k, v.ownBlock = some k → w.heap.size ≤ k ∧ k < w'.heap.size := hrow.lt
  have hrow0 : w'.ownsRow 0 3 1 v (sortK (m.es.map (·.1))).length ((sortK (m.es.map (·.1))).map it) := ownsRow_base_a hrow (Nat.zero_le _)
  refine ⟨v, [], _, rfl, ⟨trivial, rfl, rfl⟩, ⟨⟨by simp, by simp, ?_, ?_, by simp, by simp⟩, ⟨hB.os, hB.tape, hB.output, hB.size, fun k hk _ => hB.block k hk⟩, ?_, fun k ⟨_, h, _⟩ => by simp at h⟩⟩
  · intro r hr
    obtain rfl := List.mem_singleton.1 hr
    exact Res.row_ok.2 hrow0
  · intro r hr k hk
    obtain rfl := List.mem_singleton.1 hr
    exact (hx k (Res.row_fp.1 hk)).2
  · rintro k ⟨r, hr, hk⟩
    obtain rfl := List.mem_singleton.1 hr
    exact .inr (hx k (Res.row_fp.1 hk)).1
end Go.Proofs.YtmbpngnamnoiaaaDoor
