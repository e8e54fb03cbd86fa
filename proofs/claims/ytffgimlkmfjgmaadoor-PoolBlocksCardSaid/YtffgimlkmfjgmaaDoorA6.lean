/- Slices, further: made and written, copied, cut; values built of parts; arrays held against each other. No program in sight. -/
import Derived.Test.YtffgimlkmfjgmaaDoorA5
import Derived.Great.BuildSlice
import Derived.Deep.OwnRows
namespace Go.Proofs.YtffgimlkmfjgmaaDoor
open Go.RowKit

theorem splice_get {cs vs : List Value} {o : Nat} (h : o + vs.length ≤ cs.length) (j : Nat) : (splice cs o vs)[j]? = if j < o then cs[j]? else if j < o + vs.length then vs[j - o]? else cs[j]? := by
  unfold splice
  have hm : min o cs.length = o := Nat.min_eq_left (by omega)
  rcases Nat.lt_or_ge j o with h1 | h1
  · rw [if_pos h1, List.getElem?_append_left (by simp; omega), List.getElem?_append_left (by simp; omega), List.getElem?_take_of_lt h1]
  · rw [if_neg (by omega)]
    rcases Nat.lt_or_ge j (o + vs.length) with h2 | h2
    · rw [if_pos h2, List.getElem?_append_left (by simp; omega), List.getElem?_append_right (by simp; omega)]
      simp [hm]
    · rw [if_neg (by omega), List.getElem?_append_right (by simp; omega), List.getElem?_drop]
      congr 1
      simp [hm]
      omega
theorem take_splice {cs vs : List Value} {o m : Nat} (h : o + vs.length ≤ m) (hm : m ≤ cs.length) : (splice cs o vs).take m = splice (cs.take m) o vs := by
  apply List.ext_getElem?
  intro j
  rw [splice_get (by simp; omega)]
  rcases Nat.lt_or_ge j m with hj | hj
  · rw [List.getElem?_take_of_lt hj, splice_get (by omega), List.getElem?_take_of_lt hj]
  · rw [List.getElem?_eq_none (by simp; omega), if_neg (by omega), if_neg (by omega), List.getElem?_eq_none (by simp; omega)]

section
variable {P : Program} {N : Nat} {C : Beg} {Q : Exit → Act → World → Prop} {E : Env} {Γ H : RL} {ty : TypeId} {ops : Array Oper} {rest : List Oper}

theorem JO.append {d : Nat} {pos : String} {aft : Array Edge} {t e : TypeId} {z : Value} {size bytes : Nat} {x y : Operand} {v u : Value} {n m : Nat} {xs news : List Value} {G : RL} (ht : P.underlying t = some (.slice e))
    (hinfo : (P.info? e).map (fun i => (i.zero, i.size, i.bytes)) = some (some z, size, bytes)) (hz : z.cells.size = size) (h0 : 0 < size) (hx : ev E x = some v) (hy : ev E y = some u)
    (hp : Pull (Res.row v n e size xs) H G) (hsrc : Src Γ H size u m news) (hone : ∀ a ∈ news, a.oneCell' = true) (hnm : n + m ≤ maxLen) (hb : (n + m) * bytes ≤ 140737488355328) (hd : d < N)
    (h : ∀ v', JO P N C ops rest Q ((d, v') :: E) Γ (Res.row v' (n + m) e size (xs ++ news) :: G)) :
    JO P N C ops (⟨some d, .call { callee := .builtin .append, args := #[x, y], argTypes := #[t, t] }, ty, pos, aft, none⟩ :: rest) Q E Γ H :=
  .m (Mv.append ht hinfo hz h0 hx hy hp hsrc hone hnm hb) hd fun v' Γ' H' ⟨hΓ, hH⟩ => by subst hΓ hH; exact h v'

/-- A nil slice is a row of one's own. -/
theorem St.nilRow {w : World} (h : St C Γ H w) (e : TypeId) (size : Nat) : St C Γ (Res.row (.slice none 0 0) 0 e size [] :: H) w := by
  have h0 : St ⟨w, [], []⟩ [] [Res.row (.slice none 0 0) 0 e size []] w := by
    refine ⟨⟨by simp, by simp, ?_, ?_, by simp, by simp⟩, Stp.refl _ _, ?_, fun k ⟨_, h, _⟩ => by simp at h⟩
    · intro r hr
      obtain rfl := List.mem_singleton.1 hr
      exact Res.row_ok.2 (World.ownsRow_nil w 0 e size)
    · intro r hr k hk
      obtain rfl := List.mem_singleton.1 hr
      have := Res.row_fp.1 hk
      simp [Value.ownBlock] at this
    · rintro k ⟨r, hr, hk⟩
      obtain rfl := List.mem_singleton.1 hr
      have := Res.row_fp.1 hk
      simp [Value.ownBlock] at this
  simpa using St.frame (Hc := []) (Γc := []) (by simpa using h) (by simp) h0
/-- A nil slice may be read. -/
theorem St.nilRd {w : World} (h : St C Γ H w) (size : Nat) : St C (Res.rd (.slice none 0 0) 0 size [] :: Γ) H w := by
  refine ⟨⟨?_, ?_, h.sat.hok, h.sat.hlt, h.sat.hdj, ?_⟩, h.stp, h.hsub, ?_⟩
  · intro t ht
    rcases List.mem_cons.1 ht with rfl | ht
    · exact Res.rd_ok.2 ⟨none, 0, rfl, by simp, Nat.zero_le _, Nat.le_refl _, by simp⟩
    · exact h.sat.gok t ht
  · intro t ht k hk
    rcases List.mem_cons.1 ht with rfl | ht
    · exact absurd rfl (Res.rd_fp.1 hk).1
    · exact h.sat.glt t ht k hk
  · intro t ht u hu k hk hk'
    rcases List.mem_cons.1 ht with rfl | ht
    · exact absurd rfl (Res.rd_fp.1 hk).1
    · exact h.sat.ghd t ht u hu k hk hk'
  · rintro k ⟨t, ht, hk⟩
    rcases List.mem_cons.1 ht with rfl | ht
    · exact absurd rfl (Res.rd_fp.1 hk).1
    · exact h.gsub k ⟨t, ht, hk⟩
theorem JO.nilRow {l : List Oper} (e : TypeId) (size : Nat) (h : JO P N C ops l Q E Γ (Res.row (.slice none 0 0) 0 e size [] :: H)) : JO P N C ops l Q E Γ H :=
  fun hn a w he hs => h hn a w he (hs.nilRow e size)
theorem JO.nilRd {l : List Oper} (size : Nat) (h : JO P N C ops l Q E (Res.rd (.slice none 0 0) 0 size [] :: Γ) H) : JO P N C ops l Q E Γ H :=
  fun hn a w he hs => h hn a w he (hs.nilRd size)
theorem JC.nilRow {c : Code} (e : TypeId) (size : Nat) (h : JC P N C c Q E Γ (Res.row (.slice none 0 0) 0 e size [] :: H)) : JC P N C c Q E Γ H :=
  fun hn a w he hs => h hn a w he (hs.nilRow e size)
theorem JC.nilRd {c : Code} (size : Nat) (h : JC P N C c Q E (Res.rd (.slice none 0 0) 0 size [] :: Γ) H) : JC P N C c Q E Γ H :=
  fun hn a w he hs => h hn a w he (hs.nilRd size)
theorem JQ.nilRow {ex : Exit} (e : TypeId) (size : Nat) (h : JQ N C ex Q E Γ (Res.row (.slice none 0 0) 0 e size [] :: H)) : JQ N C ex Q E Γ H :=
  fun hn a w he hs => h hn a w he (hs.nilRow e size)

/-- What is one's own may be given to all to read. -/
theorem St.freezeRow {w : World} {v : Value} {n : Nat} {e : TypeId} {size : Nat} {xs : List Value} {G : RL} (h : St C Γ H w) (hp : Pull (Res.row v n e size xs) H G) (h0 : 0 < size) : St C (Res.rd v n size xs :: Γ) G w :=
  ((h.perm hp.perm).conv (s := Res.rd v n size xs) (fun _ hk => Res.row_fp.2 (Res.rd_fp.1 hk).2) (fun hw => Res.rd_ok.2 (row_rd h0 (Res.row_ok.1 hw)))).freeze
theorem JO.freeze {l : List Oper} {v : Value} {n : Nat} {e : TypeId} {size : Nat} {xs : List Value} {G : RL} (hp : Pull (Res.row v n e size xs) H G) (h0 : 0 < size) (h : JO P N C ops l Q E (Res.rd v n size xs :: Γ) G) : JO P N C ops l Q E Γ H :=
  fun hn a w he hs => h hn a w he (hs.freezeRow hp h0)
theorem JC.freeze {c : Code} {v : Value} {n : Nat} {e : TypeId} {size : Nat} {xs : List Value} {G : RL} (hp : Pull (Res.row v n e size xs) H G) (h0 : 0 < size) (h : JC P N C c Q E (Res.rd v n size xs :: Γ) G) : JC P N C c Q E Γ H :=
  fun hn a w he hs => h hn a w he (hs.freezeRow hp h0)
theorem JQ.freeze {ex : Exit} {v : Value} {n : Nat} {e : TypeId} {size : Nat} {xs : List Value} {G : RL} (hp : Pull (Res.row v n e size xs) H G) (h0 : 0 < size) (h : JQ N C ex Q E (Res.rd v n size xs :: Γ) G) : JQ N C ex Q E Γ H :=
  fun hn a w he hs => h hn a w he (hs.freezeRow hp h0)

/-! ### A row of one's own: looked at, written -/
theorem Sat.rowAt {v : Value} {n : Nat} {e : TypeId} {size : Nat} {xs : List Value} {w : World} (hs : Sat Γ H w) (hm : Res.row v n e size xs ∈ H) (hn : 0 < n) :
    ∃ c cur, v = .slice (some ⟨blk v, 0, none⟩) n c ∧ w.heap[blk v]? = some (.cells cur e (0, 0)) ∧ n ≤ c ∧ cur.size = c * size ∧ cur.toList.take (n * size) = xs := by
  have := Res.row_ok.1 (hs.hok _ hm)
  rcases this.2 with ⟨_, h0⟩ | ⟨g, cap, cur, rfl, _, hg, hnc, _, hs, hx⟩
  · omega
  · exact ⟨cap, cur, rfl, hg, hnc, hs, hx⟩
theorem Yv.indexRow {x ix : Operand} {T e : TypeId} {v : Value} {n size j : Nat} {xs : List Value} {k : IntKind} (hT : P.underlying T = some (.slice e)) (hsz : (P.info? e).map (·.size) = some size) (hx : ev E x = some v) (hi : ev E ix = some (.int k (j : Int)))
    (hm : Res.row v n e size xs ∈ H) (hj : j < n) : Yv P N C E Γ H (.indexAddr T x ix) ty (ptr (blk v) (j * size)) := by
  intro dst pos aft gd a w he hs
  obtain ⟨c, cur, hv, _⟩ := hs.sat.rowAt hm (by omega)
  obtain ⟨i, hi1, hi2⟩ := Option.map_eq_some_iff.1 hsz
  have h1 : (0 : Int) ≤ j ∧ (j : Int) < n := by omega
  have hx' : ev E x = some (.slice (some ⟨blk v, 0, none⟩) n c) := by rw [← hv]; exact hx
  simp [execOp, he.ev hx', he.ev hi, Instr.indexAt, asIntOf, underlying, hT, h1, sizeOf, typeInfo, hi1, hi2, add_none, hj]
theorem Kn.row {v : Value} {n j : Nat} {e : TypeId} {size : Nat} {xs : List Value} {u : Value} (hm : Res.row v n e size xs ∈ H) (hj : xs[j]? = some u) : Kn Γ H ⟨blk v, j, none⟩ u := by
  intro w hs
  have hr := Res.row_ok.1 (hs.hok _ hm)
  rcases hr.2 with ⟨_, h0⟩ | ⟨g, cap, cur, rfl, _, hg, hnc, _, hs, hx⟩
  · have := hr.1; subst h0; have h1 := (List.getElem?_eq_some_iff.1 hj).1; simp at this; subst this; simp at h1
  · rw [← hx] at hj
    have hlt : j < n * size := by have := (List.getElem?_eq_some_iff.1 hj).1; simp at this; omega
    rw [List.getElem?_take_of_lt hlt] at hj
    show World.cell? w ⟨g, j, none⟩ = _
    simp only [World.cell?, hg]
    simpa using hj
theorem Mv.storeRow {T m : TypeId} {x y : Operand} {v u : Value} {o n : Nat} {e : TypeId} {size : Nat} {us xs : List Value} {H' : RL} (hT : (P.info? T).map (·.size) = some m) (hx : ev E x = some (ptr (blk v) o)) (hy : ev E y = some u)
    (hu : u.cells = us.toArray) (hm : us.length = m) (h1 : ∀ a ∈ us, a.oneCell' = true) (hp : Upd H (Res.row v n e size xs) (Res.row v n e size (splice xs o us)) H') (hn : 0 < n) (hl : o + m ≤ n * size) :
    Mv P N C E Γ H (.store T x y) ty (fun _ Γ1 H1 => Γ1 = Γ ∧ H1 = H') := by
  intro dst pos aft gd a w he hs K Q hK
  subst hm
  obtain ⟨G, hp1, hp2⟩ := hp.ex
  have hst := hs.perm hp1
  have hrow := Res.row_ok.1 (hst.sat.hok _ (.head _))
  rcases hrow.2 with ⟨_, h0⟩ | ⟨g, cap, cur, rfl, hb, hg, hnc, hcm, hcs, hxs⟩
  · omega
  have hle : n * size ≤ cur.size := by rw [hcs]; exact Nat.mul_le_mul_right _ hnc
  have hr := run_storeCells_at (P := P) g o e us 0 cur w hg (by omega) h1
  obtain ⟨i, hi1, hi2⟩ := Option.map_eq_some_iff.1 hT
  have hx' : ev E x = some (ptr g o) := hx
  have hr' : (execOp a.eval ⟨dst, .store T x y, ty, pos, aft, gd⟩).run P w = .ok .skip (w.setRow g (cur.toList.take (o + 0) ++ us ++ cur.toList.drop (o + 0 + us.length)).toArray) := by
    simp [execOp, he.ev hx', he.ev hy, Instr.storeAt, Instr.sureAddr, storeVar, sizeOf, typeInfo, hi1, hi2, hu, hr]
  simp only [Oper.wp, hr', Oper.upon]
  have hgn := setRow_heap w g cur (cur.toList.take (o + 0) ++ us ++ cur.toList.drop (o + 0 + us.length)).toArray e (0, 0) hg
  have h2 : St ⟨w, [], [Res.row (.slice (some ⟨g, 0, none⟩) n cap) n e size xs]⟩ [] [Res.row (.slice (some ⟨g, 0, none⟩) n cap) n e size (splice xs o us)] (w.setRow g (cur.toList.take (o + 0) ++ us ++ cur.toList.drop (o + 0 + us.length)).toArray) := by
    refine ⟨⟨by simp, by simp, ?_, ?_, by simp, by simp⟩, ⟨rfl, rfl, rfl, by simp, fun k _ hn => setRow_other w g k _ fun e => hn ⟨_, .head _, Res.row_fp.2 (by rw [e]; rfl)⟩⟩, ?_, fun k ⟨_, h, _⟩ => by simp at h⟩
    · intro r hr
      obtain rfl := List.mem_singleton.1 hr
      refine Res.row_ok.2 ⟨?_, .inr ⟨g, cap, _, rfl, hb, hgn, hnc, hcm, ?_, ?_⟩⟩
      · rw [splice_length (by rw [hrow.1]; exact hl), hrow.1]
      · simp; omega
      · rw [← hxs]
        have := take_splice (cs := cur.toList) (vs := us) (o := o) (m := n * size) hl (by simpa using hle)
        simpa [splice] using this
    · intro r hr k hk
      obtain rfl := List.mem_singleton.1 hr
      have : k = g := by have := Res.row_fp.1 hk; simpa [Value.ownBlock] using this.symm
      subst this
      exact heap_lt hgn
    · rintro k ⟨r, hr, hk⟩
      obtain rfl := List.mem_singleton.1 hr
      exact .inl ⟨_, .head _, Res.row_fp.2 (Res.row_fp.1 hk)⟩
  have h3 := St.frame (G := G) (Hc := [_]) (Γc := []) (by simpa using hst) (by simp) h2
  exact hK _ _ _ _ ⟨rfl, rfl⟩ ((show St C Γ _ _ by simpa using h3).perm hp2.symm)
theorem JO.storeRow {T m : TypeId} {pos : String} {aft : Array Edge} {x y : Operand} {v u : Value} {o n : Nat} {e : TypeId} {size : Nat} {us xs : List Value} {H' : RL} (hT : (P.info? T).map (·.size) = some m) (hx : ev E x = some (ptr (blk v) o)) (hy : ev E y = some u)
    (hu : u.cells = us.toArray) (hm : us.length = m) (h1 : ∀ a ∈ us, a.oneCell' = true) (hp : Upd H (Res.row v n e size xs) (Res.row v n e size (splice xs o us)) H') (hn : 0 < n) (hl : o + m ≤ n * size)
    (h : JO P N C ops rest Q E Γ H') : JO P N C ops (⟨none, .store T x y, ty, pos, aft, none⟩ :: rest) Q E Γ H :=
  .m0 (Mv.storeRow hT hx hy hu hm h1 hp hn hl) fun v Γ' H' ⟨hΓ, hH⟩ => by subst hΓ hH; exact h

/-! ### New rows -/
/-- A block of one's own that a slice points to the head of is a row. -/
theorem ownsRow_cells {w : World} {b n : Nat} {e : TypeId} {size : Nat} {cs : List Value} (h : w.heap[b]? = some (.cells cs.toArray e (0, 0))) (hl : cs.length = n * size) (hm : n ≤ maxLen) :
    w.ownsRow 0 e size (.slice (some ⟨b, 0, none⟩) n n) n cs :=
  ⟨hl, .inr ⟨b, n, _, rfl, Nat.zero_le _, h, Nat.le_refl _, hm, by simpa using hl, by rw [← hl]; simp⟩⟩
theorem St.cellsRow {w : World} {b n : Nat} {e : TypeId} {size : Nat} {cs : List Value} (h : St C Γ (Res.cells b cs e :: H) w) (hl : cs.length = n * size) (hm : n ≤ maxLen) : St C Γ (Res.row (.slice (some ⟨b, 0, none⟩) n n) n e size cs :: H) w :=
  h.conv (fun k hk => Res.cells_fp.2 (by have := Res.row_fp.1 hk; simpa [Value.ownBlock] using this.symm)) fun ho => Res.row_ok.2 (ownsRow_cells (Res.cells_ok.1 ho) hl hm)

theorem Mv.make {t e : TypeId} {z : Value} {bytes n : Nat} {x y : Operand} {k k' : IntKind} (ht : P.underlying t = some (.slice e)) (hinfo : (P.info? e).map (fun i => (i.zero, i.size, i.bytes)) = some (some z, 1, bytes)) (hz1 : z.cells = #[z])
    (hx : ev E x = some (.int k (n : Int))) (hy : ev E y = some (.int k' (n : Int))) (hb : bytes * n ≤ 281474976710656) (hn : n ≤ maxLen) :
    Mv P N C E Γ H (.makeSlice t x y) ty (fun v Γ' H' => Γ' = Γ ∧ H' = Res.row v n e 1 (List.replicate n z) :: H) := by
  intro dst pos aft gd a w he hs K Q hK
  have hr := run_make_row' (P := P) t e z bytes ht hinfo hz1 k k' n hb (by unfold maxLen at hn; omega) w
  have hr' : (execOp a.eval ⟨dst, .makeSlice t x y, ty, pos, aft, gd⟩).run P w = .ok (.value (.slice (some ⟨w.heap.size, 0, none⟩) n n)) (w.alloc (.cells (madeCells #[z] n) e)) := by
    simp [execOp, he.ev hx, he.ev hy, hr]
  simp only [Oper.wp, hr', Oper.upon]
  have hcs : madeCells #[z] n = (List.replicate n z).toArray := by
    unfold madeCells
    apply Array.ext'
    simp only [Array.toList_map, Array.toList_range]
    apply List.ext_getElem
    · simp
    · intro i h1 h2
      simp [Nat.mod_one]
  have h1 := hs.alloc (List.replicate n z) e
  rw [← hcs] at h1
  exact hK _ _ _ _ ⟨rfl, rfl⟩ (h1.cellsRow (by simp) hn)
theorem JO.make {d : Nat} {pos : String} {aft : Array Edge} {t e : TypeId} {z : Value} {bytes : Nat} (n : Nat) {x y : Operand} {k k' : IntKind} (ht : P.underlying t = some (.slice e)) (hinfo : (P.info? e).map (fun i => (i.zero, i.size, i.bytes)) = some (some z, 1, bytes)) (hz1 : z.cells = #[z])
    (hx : ev E x = some (.int k (n : Int))) (hy : ev E y = some (.int k' (n : Int))) (hb : bytes * n ≤ 281474976710656) (hn : n ≤ maxLen) (hd : d < N)
    (h : ∀ v, JO P N C ops rest Q ((d, v) :: E) Γ (Res.row v n e 1 (List.replicate n z) :: H)) : JO P N C ops (⟨some d, .makeSlice t x y, ty, pos, aft, none⟩ :: rest) Q E Γ H :=
  .m (Mv.make ht hinfo hz1 hx hy hb hn) hd fun v Γ' H' ⟨hΓ, hH⟩ => by subst hΓ hH; exact h v

def evp (E : Env) : List (Nat × Operand) → Option (List (Nat × Value))
  | [] => some []
  | (i, x) :: l => match ev E x, evp E l with
    | some v, some vs => some ((i, v) :: vs)
    | _, _ => none
theorem EnvOk.evp {a : Act} (h : EnvOk N E a) : ∀ {xs : List (Nat × Operand)} {vs : List (Nat × Value)}, evp E xs = some vs → xs.map (fun p => (p.1, a.eval p.2)) = vs
  | [], vs, hx => by simpa [Proofs.YtffgimlkmfjgmaaDoor.evp] using hx
  | (i, x) :: xs, vs, hx => by
    simp only [Proofs.YtffgimlkmfjgmaaDoor.evp] at hx
    split at hx
    · rename_i v us h1 h2
      obtain rfl := Option.some.inj hx
      simp [h.ev h1, h.evp h2]
    · cases hx

/-- A slice written out. -/
theorem Mv.buildSlice {t e : TypeId} {len : Nat} {parts : List (Nat × Operand)} {vs : List (Nat × Value)} {z : Value} {size bytes : Nat} {cs : List Value} (hu : P.underlying t = some (.slice e))
    (hinfo : (P.info? e).map (fun i => (i.zero, i.size, i.bytes)) = some (some z, size, bytes)) (hp : evp E parts = some vs) (hsmall : len * size ≤ 2 ^ 24) (hpos : 0 < len * size)
    (hf : Instr.fill (fun i => some (i * size, size)) ((Array.range (len * size)).map (z.cells[· % z.cells.size]!)) vs = some cs.toArray) (hl : cs.length = len * size) (hm : len ≤ maxLen) :
    Mv P N C E Γ H (.buildSlice t len parts.toArray) ty (fun v Γ' H' => Γ' = Γ ∧ H' = Res.row v len e size cs :: H) := by
  intro dst pos aft gd a w he hs K Q hK
  obtain ⟨i, hi, hzz⟩ := Option.map_eq_some_iff.1 hinfo
  simp only [Prod.mk.injEq] at hzz
  obtain ⟨hz0, hz1, hz2⟩ := hzz
  have hpp : (parts.toArray.map fun (i, x) => (i, a.eval x)).toList = vs := by simpa using he.evp hp
  have hr := run_buildSlice (P := P) w t e len (parts.toArray.map fun (i, x) => (i, a.eval x)) cs.toArray i z hu hi hz0 (by rw [hz1]; omega) (by rw [hz1]; omega) (by rw [hz1, hpp]; exact hf)
  have hr' : (execOp a.eval ⟨dst, .buildSlice t len parts.toArray, ty, pos, aft, gd⟩).run P w = .ok (.value (.slice (some ⟨w.heap.size, 0, none⟩) len len)) (w.alloc (.cells cs.toArray e)) := by
    simp only [execOp, Sem.run_bind, hr, Result.andThen_ok, Sem.run_pure]
  simp only [Oper.wp, hr', Oper.upon]
  exact hK _ _ _ _ ⟨rfl, rfl⟩ ((hs.alloc cs e).cellsRow hl hm)
theorem JO.buildSlice {d : Nat} {pos : String} {aft : Array Edge} {t e : TypeId} {len : Nat} {parts : List (Nat × Operand)} {vs : List (Nat × Value)} {z : Value} {size bytes : Nat} {cs : List Value} (hu : P.underlying t = some (.slice e))
    (hinfo : (P.info? e).map (fun i => (i.zero, i.size, i.bytes)) = some (some z, size, bytes)) (hp : evp E parts = some vs) (hsmall : len * size ≤ 2 ^ 24) (hpos : 0 < len * size)
    (hf : Instr.fill (fun i => some (i * size, size)) ((Array.range (len * size)).map (z.cells[· % z.cells.size]!)) vs = some cs.toArray) (hl : cs.length = len * size) (hm : len ≤ maxLen) (hd : d < N)
    (h : ∀ v, JO P N C ops rest Q ((d, v) :: E) Γ (Res.row v len e size cs :: H)) : JO P N C ops (⟨some d, .buildSlice t len parts.toArray, ty, pos, aft, none⟩ :: rest) Q E Γ H :=
  .m (Mv.buildSlice hu hinfo hp hsmall hpos hf hl hm) hd fun v Γ' H' ⟨hΓ, hH⟩ => by subst hΓ hH; exact h v

/-- A struct or an array written out. -/
def Bld (P : Program) (T : TypeId) (place : Nat → Option (Nat × Nat)) (zs : List Value) : Prop := ∀ parts, P.built T parts = Instr.fill place zs.toArray parts
theorem Yv.build {T : TypeId} {parts : List (Nat × Operand)} {vs : List (Nat × Value)} {place : Nat → Option (Nat × Nat)} {zs cs : List Value} (hB : Bld P T place zs) (hp : evp E parts = some vs) (hf : Instr.fill place zs.toArray vs = some cs.toArray) :
    Yv P N C E Γ H (.build T parts.toArray) ty (.agg cs.toArray) := by
  intro dst pos aft gd a w he _
  have hpp : (parts.toArray.map fun (i, x) => (i, a.eval x)).toList = vs := by simpa using he.evp hp
  have hr := run_build (P := P) w T (parts.toArray.map fun (i, x) => (i, a.eval x)) cs.toArray (by rw [hpp, hB vs, hf])
  simp only [execOp, Sem.run_bind, hr, Result.andThen_ok, Sem.run_pure]

/-! ### Cutting -/
/-- A bound of a cut: what is written, or what stands for it. -/
def Bd (E : Env) (x : Option Operand) (d l : Nat) : Prop :=
  match x with
  | none => l = d
  | some x => ∃ k, ev E x = some (.int k (l : Int))
theorem run_sliceBounds (w : World) (isSlice : Bool) (len cap l h : Nat) (lo hi : Option Value) (hlo : match lo with | none => l = 0 | some v => ∃ k, v = .int k (l : Int)) (hhi : match hi with | none => h = len | some v => ∃ k, v = .int k (h : Int)) (hlh : l ≤ h) (hc : h ≤ cap) :
    (Instr.sliceBounds isSlice len cap lo hi none).run P w = .ok (l, h, cap) w := by
  cases lo <;> cases hi
  · simp only at hlo hhi
    subst hlo hhi
    simp [Instr.sliceBounds]
  · simp only at hlo hhi
    obtain ⟨k, rfl⟩ := hhi
    subst hlo
    simp [Instr.sliceBounds, Instr.sliceBound, asIntOf, hc]
  · simp only at hlo hhi
    obtain ⟨k, rfl⟩ := hlo
    subst hhi
    simp [Instr.sliceBounds, Instr.sliceBound, asIntOf, hlh]
  · simp only at hlo hhi
    obtain ⟨k, rfl⟩ := hlo
    obtain ⟨k', rfl⟩ := hhi
    simp [Instr.sliceBounds, Instr.sliceBound, asIntOf, hlh, hc]
theorem Bd.lo {a : Act} {x : Option Operand} {d l : Nat} (he : EnvOk N E a) (h : Bd E x d l) : match x.map a.eval with | none => l = d | some v => ∃ k, v = .int k (l : Int) := by
  cases x with
  | none => exact h
  | some x => obtain ⟨k, hk⟩ := h; exact ⟨k, he.ev hk⟩

theorem Mv.cut {T e : TypeId} {x : Operand} {lo hi : Option Operand} {v : Value} {n size l h : Nat} {xs : List Value} (hT : P.underlying T = some (.slice e)) (hsz : (P.info? e).map (·.size) = some size) (hx : ev E x = some v)
    (hm : Res.rd v n size xs ∈ Γ) (hlo : Bd E lo 0 l) (hhi : Bd E hi n h) (hlh : l ≤ h) (hn : h ≤ n) :
    Mv P N C E Γ H (.slice T x lo hi none) ty (fun v' Γ' H' => Γ' = Res.rd v' (h - l) size ((xs.drop (l * size)).take ((h - l) * size)) :: Γ ∧ H' = H) := by
  intro dst pos aft gd a w he hs K Q hK
  obtain ⟨A, c, rfl, hl, hmx, hc, hcell⟩ := Res.rd_ok.1 (hs.sat.gok _ hm)
  obtain ⟨i, hi1, hi2⟩ := Option.map_eq_some_iff.1 hsz
  have hb := run_sliceBounds (P := P) w true n c l h (lo.map a.eval) (hi.map a.eval) (hlo.lo he) (hhi.lo he) hlh (by omega)
  have hr' : (execOp a.eval ⟨dst, .slice T x lo hi none, ty, pos, aft, gd⟩).run P w = .ok (.value (.slice (if c = l then A else A.map (·.add (l * size))) (h - l) (c - l))) w := by
    simp [execOp, he.ev hx, Instr.sliceAt, Instr.slice, underlying, hT, hb, sizeOf, typeInfo, hi1, hi2]
  simp only [Oper.wp, hr', Oper.upon]
  refine hK _ _ _ _ ⟨rfl, rfl⟩ (hs.conv' hm ?_ ?_)
  · intro k hk
    obtain ⟨h1, h2⟩ := Res.rd_fp.1 hk
    refine Res.rd_fp.2 ⟨fun e => h1 (by rw [e]; simp), ?_⟩
    cases A with
    | none => split at h2 <;> simp [Value.ownBlock] at h2
    | some ad =>
      split at h2
      · exact h2
      · simp only [Option.map_some, Value.ownBlock, Option.some.injEq] at h2 ⊢
        rw [← h2]
        unfold Addr.add
        split <;> rfl
  · intro _
    refine Res.rd_ok.2 ⟨_, _, rfl, ?_, by omega, by omega, fun j u hj => ?_⟩
    · have : h * size ≤ n * size := Nat.mul_le_mul_right _ hn
      rw [List.length_take, List.length_drop, hl, Nat.sub_mul]
      have : l * size ≤ h * size := Nat.mul_le_mul_right _ hlh
      omega
    · have hlt : j < (h - l) * size := by have := (List.getElem?_eq_some_iff.1 hj).1; simp at this; omega
      rw [List.getElem?_take_of_lt hlt, List.getElem?_drop] at hj
      obtain ⟨b, o, hA, hcc⟩ := hcell _ u hj
      subst hA
      have hcl : ¬ c = l := by
        intro e
        have : h - l = 0 := by omega
        rw [this] at hlt
        simp at hlt
      refine ⟨b, o + l * size, by rw [if_neg hcl]; simp [add_none], ?_⟩
      rw [Nat.add_assoc]
      exact hcc
theorem JO.cut {d : Nat} {pos : String} {aft : Array Edge} {T e : TypeId} {x : Operand} {lo hi : Option Operand} {v : Value} {n size : Nat} (l h : Nat) {xs : List Value} (hT : P.underlying T = some (.slice e)) (hsz : (P.info? e).map (·.size) = some size) (hx : ev E x = some v)
    (hm : Res.rd v n size xs ∈ Γ) (hlo : Bd E lo 0 l) (hhi : Bd E hi n h) (hlh : l ≤ h) (hn : h ≤ n) (hd : d < N)
    (hk : ∀ v', JO P N C ops rest Q ((d, v') :: E) (Res.rd v' (h - l) size ((xs.drop (l * size)).take ((h - l) * size)) :: Γ) H) :
    JO P N C ops (⟨some d, .slice T x lo hi none, ty, pos, aft, none⟩ :: rest) Q E Γ H :=
  .m (Mv.cut hT hsz hx hm hlo hhi hlh hn) hd fun v' Γ' H' ⟨hΓ, hH⟩ => by subst hΓ hH; exact hk v'

/-- The beginning of a row of one's own. -/
theorem Mv.cutRow {T e : TypeId} {x : Operand} {hi : Operand} {k : IntKind} {v : Value} {n size h : Nat} {xs : List Value} {G : RL} (hT : P.underlying T = some (.slice e)) (hsz : (P.info? e).map (·.size) = some size) (hx : ev E x = some v)
    (hp : Pull (Res.row v n e size xs) H G) (hhi : ev E hi = some (.int k (h : Int))) (hn : h ≤ n) :
    Mv P N C E Γ H (.slice T x none (some hi) none) ty (fun v' Γ' H' => Γ' = Γ ∧ H' = Res.row v' h e size (xs.take (h * size)) :: G) := by
  intro dst pos aft gd a w he hs K Q hK
  have hst := hs.perm hp.perm
  have hrow := Res.row_ok.1 (hst.sat.hok _ (.head _))
  obtain ⟨i, hi1, hi2⟩ := Option.map_eq_some_iff.1 hsz
  have hform : ∃ A c, v = .slice A n c ∧ n ≤ c := by
    rcases hrow.2 with ⟨rfl, rfl⟩ | ⟨g, cap, cur, rfl, _, _, hnc, _⟩
    · exact ⟨none, 0, rfl, Nat.le_refl _⟩
    · exact ⟨_, cap, rfl, hnc⟩
  obtain ⟨A, c, rfl, hnc⟩ := hform
  have hb := run_sliceBounds (P := P) w true n c 0 h none (some (a.eval hi)) rfl ⟨k, he.ev hhi⟩ (Nat.zero_le _) (by omega)
  have hr' : (execOp a.eval ⟨dst, .slice T x none (some hi) none, ty, pos, aft, gd⟩).run P w = .ok (.value (.slice A h c)) w := by
    have hA : A.map (fun x => x.add 0) = A := by cases A <;> simp [Addr.add] <;> split <;> simp_all
    simp [execOp, he.ev hx, Instr.sliceAt, Instr.slice, underlying, hT, hb, sizeOf, typeInfo, hi1, hi2, hA]
  simp only [Oper.wp, hr', Oper.upon]
  refine hK _ _ _ _ ⟨rfl, rfl⟩ (hst.conv (fun k hk => by have h1 := Res.row_fp.1 hk; refine Res.row_fp.2 ?_; cases A <;> exact h1) fun _ => Res.row_ok.2 ?_)
  rcases hrow.2 with ⟨hv, rfl⟩ | ⟨g, cap, cur, hv, hb0, hg, hnc', hcm, hcs, hxs⟩
  · obtain rfl : h = 0 := by omega
    injection hv with h1 h2 h3
    subst h1 h3
    have : xs = [] := List.eq_nil_of_length_eq_zero (by simpa using hrow.1)
    subst this
    exact ⟨by simp, .inl ⟨rfl, rfl⟩⟩
  · injection hv with h1 h2 h3
    subst h1 h3
    have hle : h * size ≤ n * size := Nat.mul_le_mul_right _ hn
    refine ⟨by rw [List.length_take, hrow.1]; omega, .inr ⟨g, c, cur, rfl, hb0, hg, by omega, hcm, hcs, ?_⟩⟩
    rw [← hxs, List.take_take, Nat.min_eq_left hle]
theorem JO.cutRow {d : Nat} {pos : String} {aft : Array Edge} {T e : TypeId} {x : Operand} {hi : Operand} {k : IntKind} {v : Value} {n size : Nat} (h : Nat) {xs : List Value} {G : RL} (hT : P.underlying T = some (.slice e)) (hsz : (P.info? e).map (·.size) = some size) (hx : ev E x = some v)
    (hp : Pull (Res.row v n e size xs) H G) (hhi : ev E hi = some (.int k (h : Int))) (hn : h ≤ n) (hd : d < N)
    (hk : ∀ v', JO P N C ops rest Q ((d, v') :: E) Γ (Res.row v' h e size (xs.take (h * size)) :: G)) :
    JO P N C ops (⟨some d, .slice T x none (some hi) none, ty, pos, aft, none⟩ :: rest) Q E Γ H :=
  .m (Mv.cutRow hT hsz hx hp hhi hn) hd fun v' Γ' H' ⟨hΓ, hH⟩ => by subst hΓ hH; exact hk v'

/-- A piece of an array that lies in memory. -/
theorem Yv.cutArr {T e n size : Nat} {x : Operand} {lo hi : Option Operand} {b o l h : Nat} (hT : P.underlying T = some (.array n e)) (hsz : (P.info? e).map (·.size) = some size) (hx : ev E x = some (ptr b o))
    (hlo : Bd E lo 0 l) (hhi : Bd E hi n h) (hlh : l ≤ h) (hn : h ≤ n) (hl : l < n) : Yv P N C E Γ H (.slice T x lo hi none) ty (.slice (some ⟨b, o + l * size, none⟩) (h - l) (n - l)) := by
  intro dst pos aft gd a w he _
  obtain ⟨i, hi1, hi2⟩ := Option.map_eq_some_iff.1 hsz
  have hb := run_sliceBounds (P := P) w false n n l h (lo.map a.eval) (hi.map a.eval) (hlo.lo he) (hhi.lo he) hlh hn
  have hne : ¬ n = l := by omega
  simp [execOp, he.ev hx, Instr.sliceAt, Instr.sureAddr, underlying, hT, hb, sizeOf, typeInfo, hi1, hi2, hne, add_none]

/-! ### copy -/
theorem Mv.copy {t t' e : TypeId} {x y : Operand} {b o n c m : Nat} {u : Value} {news cs : List Value} {T' : TypeId} {H' : RL} (ht : P.underlying t = some (.slice e)) (hsz : (P.info? e).map (·.size) = some 1)
    (hx : ev E x = some (.slice (some ⟨b, o, none⟩) n c)) (hy : ev E y = some u) (hsrc : Src Γ H 1 u m news) (hone : ∀ a ∈ news, a.oneCell' = true)
    (hu : Upd H (Res.cells b cs T') (Res.cells b (splice cs o (news.take n)) T') H') (hl : o + n ≤ cs.length) :
    Mv P N C E Γ H (.call { callee := .builtin .copy, args := #[x, y], argTypes := #[t, t'] }) ty (fun v Γ1 H1 => v = it ((min m n : Nat) : Int) ∧ Γ1 = Γ ∧ H1 = H') := by
  intro dst pos aft gd a w he hs K Q hK
  obtain ⟨A, c', rfl, hnl, hA, hcell⟩ := hsrc w hs.sat
  obtain ⟨G, hp, hp'⟩ := hu.ex
  have hst := hs.perm hp
  have hb := Res.cells_ok.1 (hst.sat.hok _ (.head _))
  have hlen : (news.take n).length = Nat.min m n := by rw [List.length_take, hnl, Nat.mul_one, Nat.min_comm]
  have hfit : o + (news.take n).length ≤ cs.length := by
    rw [hlen]
    have : Nat.min m n ≤ n := Nat.min_le_right m n
    omega
  have key : ∃ w', (Builtin.copy_ #[t, t'] ty #[.slice (some ⟨b, o, none⟩) n c, .slice A m c']).run P w = .ok (it ((min m n : Nat) : Int)) w' ∧ St C Γ (Res.cells b (splice cs o (news.take n)) T' :: G) w' := by
    cases A with
    | none =>
      obtain rfl := hA rfl
      have hnews : news = [] := List.eq_nil_of_length_eq_zero (by simpa using hnl)
      subst hnews
      obtain ⟨i, hi1, hi2⟩ := Option.map_eq_some_iff.1 hsz
      refine ⟨w, ?_, by simpa [splice] using hst⟩
      simp [Builtin.copy_, run_underlying ht, Builtin.lenOf, Builtin.firstCells, sizeOf, typeInfo, hi1, storeCells, goInt]
    | some ad =>
      have hr := run_copy_row (P := P) w t t' ty e b o n c ad m c' cs.toArray T' (news.take n) ht hsz hb hlen
        (fun j v hj => by
          have hlt : j < n := by have := (List.getElem?_eq_some_iff.1 hj).1; simp at this; omega
          rw [List.getElem?_take_of_lt hlt] at hj
          obtain ⟨a', ha, hc⟩ := hcell j v hj
          obtain rfl := Option.some.inj ha
          exact hc) (by simpa using hfit) (fun v hv => hone v (List.mem_of_mem_take hv))
      refine ⟨_, by rw [hr]; simp only [hlen]; rfl, ?_⟩
      refine hst.setBlock rfl rfl rfl (by simp) ?_ (fun k hk => setRow_other w b k _ hk)
      have := setRow_heap w b cs.toArray (splice cs o (news.take n)).toArray T' (0, 0) hb
      simpa only [splice, hlen] using this
  obtain ⟨w', hr, hst'⟩ := key
  have hr' : (execOp a.eval ⟨dst, .call { callee := .builtin .copy, args := #[x, y], argTypes := #[t, t'] }, ty, pos, aft, gd⟩).run P w = .ok (.value (it ((min m n : Nat) : Int))) w' := by
    simp [execOp, resolve, invoke, builtin, he.ev hx, he.ev hy, hr]
  simp only [Oper.wp, hr', Oper.upon]
  exact hK _ _ _ _ ⟨rfl, rfl, rfl⟩ (hst'.perm hp'.symm)
theorem JO.copy {d : Nat} {pos : String} {aft : Array Edge} {t t' e : TypeId} {x y : Operand} {b o n c m : Nat} {u : Value} {news cs : List Value} {T' : TypeId} {H' : RL} (ht : P.underlying t = some (.slice e)) (hsz : (P.info? e).map (·.size) = some 1)
    (hx : ev E x = some (.slice (some ⟨b, o, none⟩) n c)) (hy : ev E y = some u) (hsrc : Src Γ H 1 u m news) (hone : ∀ a ∈ news, a.oneCell' = true)
    (hu : Upd H (Res.cells b cs T') (Res.cells b (splice cs o (news.take n)) T') H') (hl : o + n ≤ cs.length) (hd : d < N)
    (h : JO P N C ops rest Q ((d, it ((min m n : Nat) : Int)) :: E) Γ H') :
    JO P N C ops (⟨some d, .call { callee := .builtin .copy, args := #[x, y], argTypes := #[t, t'] }, ty, pos, aft, none⟩ :: rest) Q E Γ H :=
  .m (Mv.copy ht hsz hx hy hsrc hone hu hl) hd fun v Γ' H' ⟨hv, hΓ, hH⟩ => by subst hv hΓ hH; exact h

/-! ### min, max -/
theorem Yv.min_i {x y : Operand} {AT : Array TypeId} {a b : Int} (hx : ev E x = some (it a)) (hy : ev E y = some (it b)) : Yv P N C E Γ H (.call { callee := .builtin .min, args := #[x, y], argTypes := AT }) ty (it (min a b)) := by
  intro dst pos aft gd c w he _
  have h0 : (if b < a then b else a) = min a b := by omega
  simp [execOp, he.ev hx, he.ev hy, resolve, invoke, builtin, Builtin.min_, Builtin.min2, h0]
theorem Yv.max_i {x y : Operand} {AT : Array TypeId} {a b : Int} (hx : ev E x = some (it a)) (hy : ev E y = some (it b)) : Yv P N C E Γ H (.call { callee := .builtin .max, args := #[x, y], argTypes := AT }) ty (it (max a b)) := by
  intro dst pos aft gd c w he _
  have h0 : (if a < b then b else a) = max a b := by omega
  simp [execOp, he.ev hx, he.ev hy, resolve, invoke, builtin, Builtin.max_, Builtin.max2, h0]
end
end Go.Proofs.YtffgimlkmfjgmaaDoor
