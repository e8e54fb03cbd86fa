/- The calculus, part 12: pieces of a slice whose form is known, and clearing them. No program in sight. -/
import Derived.Test.YtffgimlkmfjgmaaDoorA11
namespace Go.Proofs.YtffgimlkmfjgmaaDoor
open Go.RowKit
section
variable {P : Program} {N : Nat} {C : Beg} {Q : Exit → Act → World → Prop} {E : Env} {Γ H : RL} {ty : TypeId} {ops : Array Oper} {rest : List Oper}
theorem Sat.rowForm2 {v : Value} {n : Nat} {e : TypeId} {size : Nat} {xs : List Value} {w : World} (hs : Sat Γ H w) (hm : Res.row v n e size xs ∈ H) (h0 : 0 < n) : ∃ g c, v = .slice (some ⟨g, 0, none⟩) n c ∧ n ≤ c := by
  rcases (Res.row_ok.1 (hs.hok _ hm)).2 with ⟨_, h⟩ | ⟨g, c, _, h, _, _, hc, _⟩
  · omega
  · exact ⟨g, c, h, hc⟩
/-- The rest of a slice from an element on. -/
theorem Yv.cutSl {T e size n c l b o : Nat} {x lo : Operand} {k : IntKind} (hT : P.underlying T = some (.slice e)) (hsz : (P.info? e).map (·.size) = some size) (hx : ev E x = some (.slice (some ⟨b, o, none⟩) n c))
    (hlo : ev E lo = some (.int k (l : Int))) (hln : l ≤ n) (hlc : l < c) (hnc : n ≤ c) : Yv P N C E Γ H (.slice T x (some lo) none none) ty (.slice (some ⟨b, o + l * size, none⟩) (n - l) (c - l)) := by
  intro dst pos aft gd a w he _
  obtain ⟨i, hi1, hi2⟩ := Option.map_eq_some_iff.1 hsz
  have hb := run_sliceBounds (P := P) w true n c l n (some (a.eval lo)) none ⟨k, he.ev hlo⟩ rfl hln hnc
  have hne : ¬ c = l := by omega
  simp [execOp, he.ev hx, Instr.sliceAt, Instr.slice, underlying, hT, hb, sizeOf, typeInfo, hi1, hi2, hne, add_none]
theorem zeroCells_len (z : Array Value) (m : Nat) : (Builtin.zeroCells z m).toList.length = m * z.size := by simp [Builtin.zeroCells]
theorem zeroCells_one {z : Array Value} {m : Nat} (h : ∀ a ∈ z.toList, a.oneCell' = true) : ∀ a ∈ (Builtin.zeroCells z m).toList, a.oneCell' = true := by
  intro a ha
  simp only [Builtin.zeroCells, Array.toList_map, List.mem_map] at ha
  obtain ⟨i, hi, rfl⟩ := ha
  have hi : i < m * z.size := by simpa using hi
  have h0 : 0 < z.size := Nat.pos_of_ne_zero fun e => by rw [e] at hi; omega
  have hlt : i % z.size < z.size := Nat.mod_lt _ h0
  rw [getElem!_pos z _ hlt]
  exact h _ (by simp)
/-- The rest of one's own is cleared. -/
theorem Mv.clearRow {t e : TypeId} {x : Operand} {v z : Value} {o n m c size bytes : Nat} {xs : List Value} {H' : RL} (ht : P.underlying t = some (.slice e)) (hinfo : (P.info? e).map (fun i => (i.zero, i.size, i.bytes)) = some (some z, size, bytes))
    (hz : z.cells.size = size) (h1 : ∀ a ∈ z.cells.toList, a.oneCell' = true) (hx : ev E x = some (.slice (some ⟨blk v, o, none⟩) m c)) (hm : 0 < m)
    (hp : Upd H (Res.row v n e size xs) (Res.row v n e size (splice xs o (Builtin.zeroCells z.cells m).toList)) H') (hn : 0 < n) (hl : o + m * size ≤ n * size) :
    Mv P N C E Γ H (.call { callee := .builtin .clear, args := #[x], argTypes := #[t] }) ty (fun _ Γ1 H1 => Γ1 = Γ ∧ H1 = H') := by
  intro dst pos aft gd a w he hs K Q hK
  have hzl := zeroCells_len z.cells m
  rw [hz] at hzl
  have hzo := zeroCells_one (m := m) h1
  obtain ⟨G, hp1, hp2⟩ := hp.ex
  have hst := hs.perm hp1
  have hrow := Res.row_ok.1 (hst.sat.hok _ (.head _))
  rcases hrow.2 with ⟨_, h0⟩ | ⟨g, cap, cur, rfl, hb, hg, hnc, hcm, hcs, hxs⟩
  · omega
  have hle : n * size ≤ cur.size := by rw [hcs]; exact Nat.mul_le_mul_right _ hnc
  have hr := run_storeCells_at (P := P) g o e (Builtin.zeroCells z.cells m).toList 0 cur w hg (by omega) hzo
  obtain ⟨i, hi1, hi2⟩ := Option.map_eq_some_iff.1 hinfo
  simp only [Prod.mk.injEq] at hi2
  have hx' : ev E x = some (.slice (some ⟨g, o, none⟩) m c) := hx
  obtain ⟨m', rfl⟩ : ∃ m', m = m' + 1 := ⟨m - 1, by omega⟩
  have hzv : (zeroValue e).run P w = .ok z w := by simp [zeroValue, typeInfo, hi1, hi2.1]
  have hr' : (execOp a.eval ⟨dst, .call { callee := .builtin .clear, args := #[x], argTypes := #[t] }, ty, pos, aft, gd⟩).run P w = .ok (.value (.tuple #[])) (w.setRow g (cur.toList.take (o + 0) ++ (Builtin.zeroCells z.cells (m' + 1)).toList ++ cur.toList.drop (o + 0 + (Builtin.zeroCells z.cells (m' + 1)).toList.length)).toArray) := by
    simp only [execOp, resolve, he.ev hx', List.map_toArray, List.map_cons, List.map_nil, Sem.run_bind, Sem.run_pure, Result.andThen_ok, invoke, builtin, Builtin.clear_]
    simp [run_underlying ht, hzv, hr]
  simp only [Oper.wp, hr', Oper.upon]
  generalize (Builtin.zeroCells z.cells (m' + 1)).toList = us at *
  have hgn := setRow_heap w g cur (cur.toList.take (o + 0) ++ us ++ cur.toList.drop (o + 0 + us.length)).toArray e (0, 0) hg
  have h2 : St ⟨w, [], [Res.row (.slice (some ⟨g, 0, none⟩) n cap) n e size xs]⟩ [] [Res.row (.slice (some ⟨g, 0, none⟩) n cap) n e size (splice xs o us)] (w.setRow g (cur.toList.take (o + 0) ++ us ++ cur.toList.drop (o + 0 + us.length)).toArray) := by
    refine ⟨⟨by simp, by simp, ?_, ?_, by simp, by simp⟩, ⟨rfl, rfl, rfl, by simp, fun k _ hn => setRow_other w g k _ fun e => hn ⟨_, .head _, Res.row_fp.2 (by rw [e]; rfl)⟩⟩, ?_, fun k ⟨_, h, _⟩ => by simp at h⟩
    · intro r hr
      obtain rfl := List.mem_singleton.1 hr
      refine Res.row_ok.2 ⟨?_, .inr ⟨g, cap, _, rfl, hb, hgn, hnc, hcm, ?_, ?_⟩⟩
      · rw [splice_length (by rw [hrow.1, hzl]; exact hl), hrow.1]
      · simp [hzl]; omega
      · rw [← hxs]
        have := take_splice (cs := cur.toList) (vs := us) (o := o) (m := n * size) (by rw [hzl]; exact hl) (by simpa using hle)
        simpa [splice] using this
    · intro r hr k hk
      obtain rfl := List.mem_singleton.1 hr
      have : k = g := by have := Res.row_fp.1 hk; simpa [Value.ownBlock] using this.symm
      subst this
      exact heap_lt hgn
    · rintro k ⟨r, hr, hk⟩
      obtain rfl := List.mem_singleton.1 hr
      exact .inl ⟨_, .head _, Res.row_fp.2 (Res.row_fp.1 hk)⟩
  have h3 := St.frame (G := G) (Hc := [_]) (Γc := []) (by simpa using hst) (by simp) h2
  exact hK _ _ _ _ ⟨rfl, rfl⟩ ((show St C Γ _ _ by simpa using h3).perm hp2.symm)
theorem JO.clearRow {d : Option Nat} {pos : String} {aft : Array Edge} {t e : TypeId} {x : Operand} {v z : Value} {o n m c size bytes : Nat} {xs : List Value} {H' : RL} (hd : d = none) (ht : P.underlying t = some (.slice e)) (hinfo : (P.info? e).map (fun i => (i.zero, i.size, i.bytes)) = some (some z, size, bytes))
    (hz : z.cells.size = size) (h1 : ∀ a ∈ z.cells.toList, a.oneCell' = true) (hx : ev E x = some (.slice (some ⟨blk v, o, none⟩) m c)) (hm : 0 < m)
    (hp : Upd H (Res.row v n e size xs) (Res.row v n e size (splice xs o (Builtin.zeroCells z.cells m).toList)) H') (hn : 0 < n) (hl : o + m * size ≤ n * size)
    (h : JO P N C ops rest Q E Γ H') : JO P N C ops (⟨d, .call { callee := .builtin .clear, args := #[x], argTypes := #[t] }, ty, pos, aft, none⟩ :: rest) Q E Γ H := by
  subst hd
  exact .m0 (Mv.clearRow ht hinfo hz h1 hx hm hp hn hl) fun _ Γ' H' ⟨hΓ, hH⟩ => by subst hΓ hH; exact h
end
end Go.Proofs.YtffgimlkmfjgmaaDoor
