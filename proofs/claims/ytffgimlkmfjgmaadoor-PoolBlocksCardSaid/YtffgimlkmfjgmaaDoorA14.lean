/- A string behind a row of bytes; a string's bytes as a slice. No program in sight. -/
import Derived.Test.YtffgimlkmfjgmaaDoorK4
import Derived.Lib.AppendStr
import Derived.Lib.ConvBytes
namespace Go.Proofs.YtffgimlkmfjgmaaDoor
open Go.RowKit Go.Lib
set_option linter.unusedVariables false
theorem strCells_of (b : List (BitVec 8)) : strCells (strOf b) = b.map u8 := by
  simp [strCells, strOf, u8]
theorem strOf_size (b : List (BitVec 8)) : (strOf b).size = b.length := by simp [strOf, ByteArray.size]
theorem run_append_string_at {P : Program} {w : World} (t u ty e : TypeId) (i : TypeInfo) (ht : P.underlying t = some (.slice e)) (hu : P.underlying u = some .string) (hi : P.info? e = some i) (hz : i.zero = some (.int .u8 0)) (hsize : i.size = 1) (hby : i.bytes = 1)
    (v : Value) (n : Nat) (xs : List Value) (hown : w.ownsRow 0 e 1 v n xs) (s : ByteArray) (h63 : n + s.size ≤ maxLen) (hbytes : n + s.size ≤ 140737488355328) :
    ∃ v' w', (Builtin.append_ #[t, u] ty #[v, .string s]).run P w = .ok v' w' ∧ w'.ownsRow 0 e 1 v' (n + s.size) (xs ++ strCells s) ∧ w.grownBy w' v.ownBlock ∧ (∀ k, v'.ownBlock = some k → v.ownBlock = some k ∨ w.heap.size ≤ k) := by
  have hxl : xs.length = n := by simpa using hown.1
  obtain ⟨v', w', hr, h1, h2, h3⟩ := run_append_own_string (P := P) (w := w) 0 t u ty e i ht hu hi hz hsize hby v n xs hown s h63 hbytes (Nat.zero_le _)
  refine ⟨v', w', hr, h1, h2, ?_⟩
  rcases hown.2 with ⟨rfl, rfl⟩ | ⟨g, cap, cur, rfl, hbg, hg, hnc, hcm, hcs, htake⟩
  · have hx : xs = [] := List.eq_nil_of_length_eq_zero hxl
    subst hx
    obtain ⟨v2, w2, hr2, h12, _⟩ := run_append_own_string (P := P) (w := w) w.heap.size t u ty e i ht hu hi hz hsize hby (.slice none 0 0) 0 [] ⟨rfl, .inl ⟨rfl, rfl⟩⟩ s h63 hbytes (Nat.le_refl _)
    rw [hr] at hr2
    obtain ⟨rfl, rfl⟩ : v' = v2 ∧ w' = w2 := by cases hr2; exact ⟨rfl, rfl⟩
    intro k hk
    rcases h12.2 with ⟨rfl, _⟩ | ⟨g, cap, cur, rfl, hb, _⟩
    · cases hk
    · obtain rfl := Option.some.inj hk
      exact .inr hb
  · by_cases hroom : n + s.size ≤ cap
    · have hcs' : cur.size = cap := by simpa using hcs
      have hr2 := run_append_room_string (P := P) w t u ty e i ht hu hi hsize g n cap cur hg s hroom (by omega)
      rw [hr] at hr2
      obtain rfl : v' = _ := by cases hr2; rfl
      exact fun k hk => .inl hk
    · have holds : ∀ j u, xs[j]? = some u → w.cell? ((⟨g, 0, none⟩ : Addr).add j) = some u := hown.cells (g := g) rfl
      have hsmall : n + s.size ≤ 9223372036854775807 := by simp only [maxLen] at h63; omega
      have hr2 := run_append_grow_string (P := P) w t u ty e i (.int .u8 0) ht hu hi hz ⟨g, 0, none⟩ n cap xs (by rw [hsize]; simpa using hxl) holds s (by omega) (by omega) (by rw [hby]; exact growslice_fits (by omega) (by omega))
      rw [hr] at hr2
      obtain rfl : v' = _ := by cases hr2; rfl
      exact fun k hk => .inr (by obtain rfl := Option.some.inj hk; exact Nat.le_refl _)
section
variable {P : Program} {N : Nat} {C : Beg} {Q : Exit → Act → World → Prop} {E : Env} {Γ H : RL} {ty : TypeId} {ops : Array Oper} {rest : List Oper}
theorem Mv.aps {t u e : TypeId} {x y : Operand} {v : Value} {b : List (BitVec 8)} {n : Nat} {xs : List Value} {G : RL} (ht : P.underlying t = some (.slice e)) (hu : P.underlying u = some .string)
    (hinfo : (P.info? e).map (fun i => (i.zero, i.size, i.bytes)) = some (some (.int .u8 0), 1, 1)) (hx : ev E x = some v) (hy : ev E y = some (.string (strOf b)))
    (hp : Pull (Res.row v n e 1 xs) H G) (hnm : n + b.length ≤ maxLen) (hb : n + b.length ≤ 140737488355328) :
    Mv P N C E Γ H (.call { callee := .builtin .append, args := #[x, y], argTypes := #[t, u] }) ty (fun v' Γ' H' => Γ' = Γ ∧ H' = Res.row v' (n + b.length) e 1 (xs ++ b.map u8) :: G) := by
  intro dst pos aft gd a w he hs K Q hK
  obtain ⟨i, hi, hzz⟩ := Option.map_eq_some_iff.1 hinfo
  simp only [Prod.mk.injEq] at hzz
  obtain ⟨hz0, hz1, hz2⟩ := hzz
  have hst := hs.perm hp.perm
  have hrow := Res.row_ok.1 (hst.sat.hok _ (.head _))
  obtain ⟨v', w', hr, hown, hg, hnew⟩ := run_append_string_at (P := P) t u ty e i ht hu hi hz0 hz1 hz2 v n xs hrow (strOf b) (by rw [strOf_size]; exact hnm) (by rw [strOf_size]; exact hb)
  rw [strOf_size, strCells_of] at hown
  have hr' : (execOp a.eval ⟨dst, .call { callee := .builtin .append, args := #[x, y], argTypes := #[t, u] }, ty, pos, aft, gd⟩).run P w = .ok (.value v') w' := by
    simp [execOp, resolve, invoke, builtin, he.ev hx, he.ev hy, hr]
  simp only [Oper.wp, hr', Oper.upon]
  have h1 : St ⟨w, [], [Res.row v n e 1 xs]⟩ [] [Res.row v' (n + b.length) e 1 (xs ++ b.map u8)] w' := by
    refine ⟨⟨by simp, by simp, ?_, ?_, by simp, by simp⟩, ⟨hg.os, hg.tape, hg.output, hg.size, fun k hk hn => hg.block k hk fun e => hn ⟨_, .head _, Res.row_fp.2 e.symm⟩⟩, ?_, fun k ⟨_, h, _⟩ => by simp at h⟩
    · intro r hr
      obtain rfl := List.mem_singleton.1 hr
      exact Res.row_ok.2 hown
    · intro r hr k hk
      obtain rfl := List.mem_singleton.1 hr
      exact (hown.lt k (Res.row_fp.1 hk)).2
    · rintro k ⟨r, hr, hk⟩
      obtain rfl := List.mem_singleton.1 hr
      rcases hnew k (Res.row_fp.1 hk) with h | h
      · exact .inl ⟨_, .head _, Res.row_fp.2 h⟩
      · exact .inr h
  have h2 := St.frame (Hc := [Res.row v n e 1 xs]) (G := G) (Γc := []) (by simpa using hst) (by simp) h1
  exact hK _ _ _ _ ⟨rfl, rfl⟩ (by simpa using h2)
theorem JO.aps {d : Nat} {pos : String} {aft : Array Edge} {t u e : TypeId} {x y : Operand} {v : Value} {b : List (BitVec 8)} {n : Nat} {xs : List Value} {G : RL} (ht : P.underlying t = some (.slice e)) (hu : P.underlying u = some .string)
    (hinfo : (P.info? e).map (fun i => (i.zero, i.size, i.bytes)) = some (some (.int .u8 0), 1, 1)) (hx : ev E x = some v) (hy : ev E y = some (.string (strOf b)))
    (hp : Pull (Res.row v n e 1 xs) H G) (hnm : n + b.length ≤ maxLen) (hb : n + b.length ≤ 140737488355328) (hd : d < N)
    (h : ∀ v', JO P N C ops rest Q ((d, v') :: E) Γ (Res.row v' (n + b.length) e 1 (xs ++ b.map u8) :: G)) :
    JO P N C ops (⟨some d, .call { callee := .builtin .append, args := #[x, y], argTypes := #[t, u] }, ty, pos, aft, none⟩ :: rest) Q E Γ H :=
  .m (Mv.aps ht hu hinfo hx hy hp hnm hb) hd fun v' Γ' H' ⟨hΓ, hH⟩ => by subst hΓ hH; exact h v'
/-- A string's bytes: for all to read. -/
theorem Mv.cvb {T S e : TypeId} {x : Operand} {b : List (BitVec 8)} (hS : P.underlying S = some .string) (hT : P.underlying T = some (.slice e)) (he8 : P.underlying e = some (.int .u8)) (hx : ev E x = some (.string (strOf b))) (hb : b.length ≤ 1000000) :
    Mv P N C E Γ H (.convert S T x) ty (fun v' Γ' H' => Γ' = Res.rd v' b.length 1 (b.map u8) :: Γ ∧ H' = H) := by
  intro dst pos aft gd a w he hs K Q hK
  have hr := Lib.run_convert_string_bytes (P := P) w S T e (strOf b) hS hT he8
  have hr' : (execOp a.eval ⟨dst, .convert S T x, ty, pos, aft, gd⟩).run P w = .ok (.value (.slice (some ⟨w.heap.size, 0, none⟩) (strOf b).size (grownCap w (strOf b).size 0 e))) (Lib.bytesWorld w e (strOf b)) := by
    simp [execOp, he.ev hx, hr]
  simp only [Oper.wp, hr', Oper.upon]
  have hsz := strOf_size b
  have h1 : St ⟨w, [], []⟩ [Res.rd (.slice (some ⟨w.heap.size, 0, none⟩) (strOf b).size (grownCap w (strOf b).size 0 e)) b.length 1 (b.map u8)] [] (Lib.bytesWorld w e (strOf b)) := by
    refine ⟨⟨?_, ?_, by simp, by simp, by simp, by simp⟩, ⟨rfl, rfl, rfl, by rw [Lib.bytesWorld_size]; exact Nat.le_succ _, fun k hk _ => Lib.bytesWorld_at_old w e _ k hk⟩, fun k ⟨_, h, _⟩ => by simp at h, ?_⟩
    · intro r hr
      obtain rfl := List.mem_singleton.1 hr
      refine Res.rd_ok.2 ⟨_, _, by rw [hsz], by simp, by unfold maxLen; omega, by rw [← hsz]; exact grownCap_ge w _ 0 e, fun j u hj => ⟨_, _, rfl, ?_⟩⟩
      have hjl : j < b.length := by have := (List.getElem?_eq_some_iff.1 hj).1; simpa using this
      rw [Nat.zero_add, Lib.bytesWorld_cell w e _ j (by rw [hsz]; exact hjl)]
      rw [List.getElem?_map, List.getElem?_eq_getElem hjl] at hj
      obtain rfl := Option.some.inj hj
      simp [strOf, u8, List.getD_eq_getElem?_getD, List.getElem?_eq_getElem hjl]
    · intro r hr k hk
      obtain rfl := List.mem_singleton.1 hr
      have := (Res.rd_fp.1 hk).2
      simp only [Value.ownBlock, Option.some.injEq] at this
      rw [Lib.bytesWorld_size]; omega
    · rintro k ⟨r, hr, hk⟩
      obtain rfl := List.mem_singleton.1 hr
      have := (Res.rd_fp.1 hk).2
      simp only [Value.ownBlock, Option.some.injEq] at this
      exact .inr (.inr (by show w.heap.size ≤ k; omega))
  have h2 := St.frame (Hc := []) (G := H) (Γc := []) (by simpa using hs) (by simp) h1
  exact hK _ _ _ _ ⟨rfl, rfl⟩ (by simpa using h2)
theorem JO.cvb {d : Nat} {pos : String} {aft : Array Edge} {T S e : TypeId} {x : Operand} {b : List (BitVec 8)} (hS : P.underlying S = some .string) (hT : P.underlying T = some (.slice e)) (he8 : P.underlying e = some (.int .u8)) (hx : ev E x = some (.string (strOf b))) (hb : b.length ≤ 1000000) (hd : d < N)
    (h : ∀ v', JO P N C ops rest Q ((d, v') :: E) (Res.rd v' b.length 1 (b.map u8) :: Γ) H) : JO P N C ops (⟨some d, .convert S T x, ty, pos, aft, none⟩ :: rest) Q E Γ H :=
  .m (Mv.cvb hS hT he8 hx hb) hd fun v' Γ' H' ⟨hΓ, hH⟩ => by subst hΓ hH; exact h v'
theorem Yv.len_st {T : TypeId} {x : Operand} {b : List (BitVec 8)} (hT : P.underlying T = some .string) (hx : ev E x = some (.string (strOf b))) : Yv P N C E Γ H (.call { callee := .builtin .len, args := #[x], argTypes := #[T] }) ty (it (b.length : Int)) := by
  have h := Yv.len_str (P := P) (N := N) (C := C) (Γ := Γ) (H := H) (ty := ty) hT hx
  rw [strOf_size] at h
  exact h
end
end Go.Proofs.YtffgimlkmfjgmaaDoor
