/- The calculus, part 8: more of slices: pieces, values of a known form. -/
import Derived.Test.YtffgimlkmfjgmaaDoorA7
namespace Go.Proofs.YtffgimlkmfjgmaaDoor
open Go.RowKit
theorem one_piece {xs : List Value} {i n : Nat} (h : ∀ a ∈ xs, a.oneCell' = true) : ∀ a ∈ (xs.drop i).take n, a.oneCell' = true := fun a ha => h a (List.mem_of_mem_drop (List.mem_of_mem_take ha))
/-- All of these, as one. -/
def Res.all (G : RL) : Res where
  fp k := ∃ r ∈ G, r.fp k
  ok w := ∀ r ∈ G, r.ok w
  loc w w' h ho := fun r hr => r.loc w w' (fun k hk => h k ⟨r, hr, hk⟩) (ho r hr)
/-- A package's variable, that all read. -/
def Res.var (b : Nat) (cs : List Value) : Res where
  fp k := k = b
  ok w := ∃ T r, w.heap[b]? = some (.cells cs.toArray T r)
  loc _ _ h ho := by
    obtain ⟨T, r, ho⟩ := ho
    exact ⟨T, r, (h b rfl).trans ho⟩
/-- A piece of a slice, as a value. -/
def cutV (size : Nat) (v : Value) (l h : Nat) : Value :=
  match v with
  | .slice A _ c => .slice (if c = l then A else A.map (·.add (l * size))) (h - l) (c - l)
  | v => v
section
variable {P : Program} {N : Nat} {C : Beg} {Q : Exit → Act → World → Prop} {E : Env} {Γ H : RL} {ty : TypeId} {ops : Array Oper} {rest : List Oper}
/-- A piece of a row of one's own, the row given to all to read. -/
theorem Mv.cutFr {T e : TypeId} {x : Operand} {lo hi : Option Operand} {v : Value} {n size l h : Nat} {xs : List Value} {G : RL} (hT : P.underlying T = some (.slice e)) (hsz : (P.info? e).map (·.size) = some size) (hx : ev E x = some v)
    (hp : Pull (Res.row v n e size xs) H G) (h0 : 0 < size) (hlo : Bd E lo 0 l) (hhi : Bd E hi n h) (hlh : l ≤ h) (hn : h ≤ n) :
    Mv P N C E Γ H (.slice T x lo hi none) ty (fun v' Γ' H' => Γ' = Res.rd v' (h - l) size ((xs.drop (l * size)).take ((h - l) * size)) :: Res.rd v n size xs :: Γ ∧ H' = G) :=
  fun dst pos aft gd a w he hs K Q hK => Mv.cut hT hsz hx (.head _) hlo hhi hlh hn dst pos aft gd a w he (hs.freezeRow hp h0) K Q hK
theorem JO.cutFr {d : Nat} {pos : String} {aft : Array Edge} {T e : TypeId} {x : Operand} {lo hi : Option Operand} {v : Value} {n size : Nat} (l h : Nat) {xs : List Value} {G : RL} (hT : P.underlying T = some (.slice e)) (hsz : (P.info? e).map (·.size) = some size) (hx : ev E x = some v)
    (hp : Pull (Res.row v n e size xs) H G) (h0 : 0 < size) (hlo : Bd E lo 0 l) (hhi : Bd E hi n h) (hlh : l ≤ h) (hn : h ≤ n) (hd : d < N)
    (hk : ∀ v', JO P N C ops rest Q ((d, v') :: E) (Res.rd v' (h - l) size ((xs.drop (l * size)).take ((h - l) * size)) :: Res.rd v n size xs :: Γ) G) :
    JO P N C ops (⟨some d, .slice T x lo hi none, ty, pos, aft, none⟩ :: rest) Q E Γ H :=
  .m (Mv.cutFr hT hsz hx hp h0 hlo hhi hlh hn) hd fun v' Γ' H' ⟨hΓ, hH⟩ => by subst hΓ hH; exact hk v'


/-- A slice, put into a cell: it is one that is known. -/
theorem Mv.store1s {T : TypeId} {x y : Operand} {b o n size : Nat} {v : Value} {xs cs : List Value} {T' : TypeId} {H' : RL} (hT : (P.info? T).map (·.size) = some 1) (hx : ev E x = some (ptr b o)) (hy : ev E y = some v)
    (hm : Lend (Res.rd v n size xs) (H ++ Γ)) (hu : Upd H (Res.cells b cs T') (Res.cells b (cs.set o v) T') H') (hl : o < cs.length) : Mv P N C E Γ H (.store T x y) ty (fun _ Γ1 H1 => Γ1 = Γ ∧ H1 = H') := by
  intro dst pos aft gd a w he hs
  obtain ⟨A, c, rfl, _⟩ := hs.sat.rd hm
  exact Mv.store1 hT hx hy rfl hu hl dst pos aft gd a w he hs
theorem Mv.storeRow1s {T : TypeId} {x y : Operand} {v u : Value} {o n m size : Nat} {e : TypeId} {xs ys : List Value} {H' : RL} (hT : (P.info? T).map (·.size) = some 1) (hx : ev E x = some (ptr (blk v) o)) (hy : ev E y = some u)
    (hm : Lend (Res.rd u m size ys) (H ++ Γ)) (hp : Upd H (Res.row v n e 1 xs) (Res.row v n e 1 (xs.set o u)) H') (hl : o < n) (hlen : xs.length = n) : Mv P N C E Γ H (.store T x y) ty (fun _ Γ1 H1 => Γ1 = Γ ∧ H1 = H') := by
  intro dst pos aft gd a w he hs
  obtain ⟨A, c, rfl, _⟩ := hs.sat.rd hm
  exact Mv.storeRow1 hT hx hy rfl hp hl hlen dst pos aft gd a w he hs
theorem JO.store1s {T : TypeId} {pos : String} {aft : Array Edge} {x y : Operand} {b o n size : Nat} {v : Value} {xs cs : List Value} {T' : TypeId} {H' : RL} (hT : (P.info? T).map (·.size) = some 1) (hx : ev E x = some (ptr b o)) (hy : ev E y = some v)
    (hm : Lend (Res.rd v n size xs) (H ++ Γ)) (hu : Upd H (Res.cells b cs T') (Res.cells b (cs.set o v) T') H') (hl : o < cs.length)
    (h : JO P N C ops rest Q E Γ H') : JO P N C ops (⟨none, .store T x y, ty, pos, aft, none⟩ :: rest) Q E Γ H :=
  .m0 (Mv.store1s hT hx hy hm hu hl) fun _ Γ' H' ⟨hΓ, hH⟩ => by subst hΓ hH; exact h
/-- What is one's own is given to all to read. -/
theorem JO.frz {l : List Oper} {r : Res} {G : RL} (hp : Pull r H G) (h : JO P N C ops l Q E (r :: Γ) G) : JO P N C ops l Q E Γ H :=
  fun hn a w he hs => h hn a w he ((hs.perm hp.perm).freeze)
theorem Yv.cutRd {T e : TypeId} {x : Operand} {lo hi : Option Operand} {v : Value} {n size l h : Nat} {xs : List Value} (hT : P.underlying T = some (.slice e)) (hsz : (P.info? e).map (·.size) = some size) (hx : ev E x = some v)
    (hm : Res.rd v n size xs ∈ Γ) (hlo : Bd E lo 0 l) (hhi : Bd E hi n h) (hlh : l ≤ h) (hn : h ≤ n) : Yv P N C E Γ H (.slice T x lo hi none) ty (cutV size v l h) := by
  intro dst pos aft gd a w he hs
  obtain ⟨A, c, rfl, hl, hmx, hc, hcell⟩ := Res.rd_ok.1 (hs.sat.gok _ hm)
  obtain ⟨i, hi1, hi2⟩ := Option.map_eq_some_iff.1 hsz
  have hb := run_sliceBounds (P := P) w true n c l h (lo.map a.eval) (hi.map a.eval) (hlo.lo he) (hhi.lo he) hlh (by omega)
  simp [cutV, execOp, he.ev hx, Instr.sliceAt, Instr.slice, underlying, hT, hb, sizeOf, typeInfo, hi1, hi2]
theorem St.cutRd {v : Value} {n size : Nat} {xs : List Value} {w : World} (l h : Nat) (hs : St C Γ H w) (hm : Res.rd v n size xs ∈ Γ) (hlh : l ≤ h) (hn : h ≤ n) :
    St C (Res.rd (cutV size v l h) (h - l) size ((xs.drop (l * size)).take ((h - l) * size)) :: Γ) H w := by
  obtain ⟨A, c, rfl, hl, hmx, hc, hcell⟩ := Res.rd_ok.1 (hs.sat.gok _ hm)
  refine hs.conv' hm ?_ ?_
  · intro k hk
    obtain ⟨h1, h2⟩ := Res.rd_fp.1 hk
    refine Res.rd_fp.2 ⟨fun e => h1 (by rw [e]; simp), ?_⟩
    unfold cutV at h2
    cases A with
    | none => dsimp only at h2; split at h2 <;> simp [Value.ownBlock] at h2
    | some ad =>
      dsimp only at h2
      split at h2
      · exact h2
      · simp only [Option.map_some, Value.ownBlock, Option.some.injEq] at h2 ⊢
        rw [← h2]
        unfold Addr.add
        split <;> rfl
  · intro _
    refine Res.rd_ok.2 ⟨_, _, rfl, ?_, by omega, by omega, fun j u hj => ?_⟩
    · have : h * size ≤ n * size := Nat.mul_le_mul_right _ hn
      rw [List.length_take, List.length_drop, hl, Nat.sub_mul]
      have : l * size ≤ h * size := Nat.mul_le_mul_right _ hlh
      omega
    · have hlt : j < (h - l) * size := by have := (List.getElem?_eq_some_iff.1 hj).1; simp at this; omega
      rw [List.getElem?_take_of_lt hlt, List.getElem?_drop] at hj
      obtain ⟨b, o, hA, hcc⟩ := hcell _ u hj
      subst hA
      have hcl : ¬ c = l := by
        intro e
        have : h - l = 0 := by omega
        rw [this] at hlt
        simp at hlt
      refine ⟨b, o + l * size, by rw [if_neg hcl]; simp [add_none], ?_⟩
      rw [Nat.add_assoc]
      exact hcc
theorem JO.cutRd {L : List Oper} {v : Value} {n size : Nat} {xs : List Value} (l h : Nat) (hm : Res.rd v n size xs ∈ Γ) (hlh : l ≤ h) (hn : h ≤ n)
    (k : JO P N C ops L Q E (Res.rd (cutV size v l h) (h - l) size ((xs.drop (l * size)).take ((h - l) * size)) :: Γ) H) : JO P N C ops L Q E Γ H :=
  fun hq a w he hs => k hq a w he (hs.cutRd l h hm hlh hn)
theorem JR.cutRd {T M U : Nat → Bool} {Γ0 H0 : RL} {L : OT} {v : Value} {n size : Nat} {xs : List Value} (l h : Nat) (hm : Res.rd v n size xs ∈ Γ) (hlh : l ≤ h) (hn : h ≤ n)
    (k : JR P N C ops T M U Γ0 H0 L Q E (Res.rd (cutV size v l h) (h - l) size ((xs.drop (l * size)).take ((h - l) * size)) :: Γ) H) : JR P N C ops T M U Γ0 H0 L Q E Γ H :=
  fun hq a w he hs => k hq a w he (hs.cutRd l h hm hlh hn)
/-! ### A guard that was not asked itself -/
theorem yielded_undef {a : Act} {j g : Nat} (he : EnvOk N E a) (hj : ((ops[j]?).bind (·.dst)) = some g) (hg : lk E g = some undef) : yielded ops a.tmps j = none := by
  have h1 := he.val g _ hg
  obtain ⟨o, ho, hd⟩ := Option.bind_eq_some_iff.1 hj
  simp only [yielded, ho, hd, Option.bind_some]
  have h2 : g < a.tmps.size ∨ ¬ g < a.tmps.size := by omega
  rcases h2 with h2 | h2
  · simp [h2] at h1
    simp [h2, h1, undef]
  · simp [h2]
theorem JO.gu {d : Nat} {op : Op} {pos : String} {aft : Array Edge} {j g : Nat} {want : Bool} (hj : ((ops[j]?).bind (·.dst)) = some g) (hg : lk E g = some undef) (hd : d < N)
    (h : JO P N C ops rest Q ((d, undef) :: E) Γ H) : JO P N C ops (⟨some d, op, ty, pos, aft, some (j, want)⟩ :: rest) Q E Γ H := by
  intro hn a w he hs
  have hy := yielded_undef (ops := ops) he hj hg
  have h1 : Region.wanted ⟨some d, op, ty, pos, aft, some (j, want)⟩ (yielded ops a.tmps) = false := by simp [Region.wanted, hy]
  unfold wpList
  rw [if_neg (by rw [h1]; decide)]
  exact h hn _ w (he.put d hd undef) hs
theorem JO.gu0 {op : Op} {pos : String} {aft : Array Edge} {j g : Nat} {want : Bool} (hj : ((ops[j]?).bind (·.dst)) = some g) (hg : lk E g = some undef)
    (h : JO P N C ops rest Q E Γ H) : JO P N C ops (⟨none, op, ty, pos, aft, some (j, want)⟩ :: rest) Q E Γ H := by
  intro hn a w he hs
  have hy := yielded_undef (ops := ops) he hj hg
  have h1 : Region.wanted ⟨none, op, ty, pos, aft, some (j, want)⟩ (yielded ops a.tmps) = false := by simp [Region.wanted, hy]
  unfold wpList
  rw [if_neg (by rw [h1]; decide)]
  exact h hn _ w he hs
theorem JR.gu {T M U : Nat → Bool} {Γ0 H0 : RL} {l : OT} {i d : Nat} {op : Op} {pos : String} {aft : Array Edge} {j g : Nat} {want : Bool} (ho : ops[i]? = some ⟨some d, op, ty, pos, aft, some (j, want)⟩) (hM : M i = false)
    (hj : ((ops[j]?).bind (·.dst)) = some g) (hg : lk E g = some undef) (hd : d < N)
    (h : JR P N C ops T M U Γ0 H0 l Q ((d, undef) :: E) Γ H) : JR P N C ops T M U Γ0 H0 (.one i l) Q E Γ H := by
  intro hn a w he hs
  have hy := yielded_undef (ops := ops) he hj hg
  exact .inr ⟨hM, _, undef, ho, .inr ⟨by simp [Region.wanted, hy], rfl⟩, h hn _ w (he.put d hd undef) hs⟩
theorem JR.gum {T M U : Nat → Bool} {Γ0 H0 : RL} {l : OT} {i d : Nat} {op : Op} {pos : String} {aft : Array Edge} {j g : Nat} {want : Bool} (ho : ops[i]? = some ⟨some d, op, ty, pos, aft, some (j, want)⟩) (hM : M i = true)
    (hj : ((ops[j]?).bind (·.dst)) = some g) (hg : lk E g = some undef) (hd : d < N)
    (hk : (∀ r ∈ Γ0, r ∈ Γ) ∧ (T i = true ∨ ∀ w, St C Γ H w → St C Γ0 H0 w))
    (h : JR P N C ops T M U Γ0 H0 l Q ((d, undef) :: E) Γ H) : JR P N C ops T M U Γ0 H0 (.one i l) Q E Γ H := by
  intro hn a w he hs
  have hy := yielded_undef (ops := ops) he hj hg
  refine .inl ⟨hM, ?_⟩
  unfold wpOp
  have h0 : ((none : Option Bool) == some want) = false := rfl
  simp only [ho, Region.wanted, hy, h0]
  exact ⟨⟨St.keep0' hk.1 hs, hk.2.imp id fun h1 => h1 w hs⟩, h hn _ _ (he.put d hd undef) hs⟩
theorem St.open {G : RL} {r : Res} {w : World} (hs : St C Γ H w) (hm : Res.all G ∈ Γ) (hr : r ∈ G) : St C (r :: Γ) H w := hs.conv' hm (fun _ hk => ⟨r, hr, hk⟩) (fun h => h r hr)
theorem JO.open {L : List Oper} {G : RL} {r : Res} (hm : Res.all G ∈ Γ) (hr : r ∈ G) (k : JO P N C ops L Q E (r :: Γ) H) : JO P N C ops L Q E Γ H := fun hq a w he hs => k hq a w he (hs.open hm hr)
theorem JC.open {c : Code} {G : RL} {r : Res} (hm : Res.all G ∈ Γ) (hr : r ∈ G) (k : JC P N C c Q E (r :: Γ) H) : JC P N C c Q E Γ H := fun hq a w he hs => k hq a w he (hs.open hm hr)
/-- A cell of an array that is a value. -/
theorem Yv.indexAgg {T e : TypeId} {n : Nat} {q : IntKind} {x ix : Operand} {cs : List Value} {k : IntKind} {j : Nat} {v : Value} (hT : P.underlying T = some (.array n e)) (he : P.underlying e = some (.int q)) (hsz : (P.info? e).map (·.size) = some 1)
    (hx : ev E x = some (.agg cs.toArray)) (hi : ev E ix = some (.int k (j : Int))) (hj : j < n) (hv : cs[j]? = some v) : Yv P N C E Γ H (.index T x ix) ty v := by
  intro dst pos aft gd a w hE _
  obtain ⟨i, hi1, hi2⟩ := Option.map_eq_some_iff.1 hsz
  have h2 : (part e cs.toArray j).run P w = .ok v w := run_parts he rfl (by simpa using hv)
  have h3 : ¬ n ≤ j := by omega
  simp [execOp, hE.ev hx, hE.ev hi, Instr.index, asIntOf, underlying, hT, sizeOf, typeInfo, hi1, hi2, h2, h3]
/-- Cells that all may read, as a slice. -/
theorem St.rdCells {b n : Nat} {cs : List Value} {T' : TypeId} {w : World} (hs : St C Γ H w) (hm : Res.cells b cs T' ∈ Γ) (hn : cs.length = n) (hx : n ≤ maxLen) : St C (Res.rd (.slice (some ⟨b, 0, none⟩) n n) n 1 cs :: Γ) H w := by
  refine hs.conv' hm (fun k hk => ?_) (fun h => Res.rd_ok.2 ⟨_, _, rfl, by omega, hx, Nat.le_refl _, fun j u hj => ⟨b, 0, rfl, ?_⟩⟩)
  · have h2 := (Res.rd_fp.1 hk).2
    simp only [Value.ownBlock, Option.some.injEq] at h2
    exact Res.cells_fp.2 h2.symm
  · have h1 : w.heap[b]? = some (.cells cs.toArray T' (0, 0)) := Res.cells_ok.1 h
    simp [World.cell?, h1, hj]
theorem JO.rdCells {L : List Oper} {b n : Nat} {cs : List Value} {T' : TypeId} (hm : Res.cells b cs T' ∈ Γ) (hn : cs.length = n) (hx : n ≤ maxLen) (k : JO P N C ops L Q E (Res.rd (.slice (some ⟨b, 0, none⟩) n n) n 1 cs :: Γ) H) : JO P N C ops L Q E Γ H :=
  fun hq a w he hs => k hq a w he (hs.rdCells hm hn hx)
/-- All of these, as one: put together. -/
theorem St.bundle {G : RL} {w : World} (hs : St C Γ H w) (hg : ∀ r ∈ G, r ∈ Γ) : St C (Res.all G :: Γ) H w := by
  refine ⟨⟨fun r hr => ?_, fun r hr k hk => ?_, hs.sat.hok, hs.sat.hlt, hs.sat.hdj, fun r hr s hsH k hk => ?_⟩, hs.stp, hs.hsub, fun k hk => ?_⟩
  · rcases List.mem_cons.1 hr with rfl | hr
    · exact fun s hs' => hs.sat.gok s (hg s hs')
    · exact hs.sat.gok r hr
  · rcases List.mem_cons.1 hr with rfl | hr
    · obtain ⟨s, hs', hk⟩ := hk
      exact hs.sat.glt s (hg s hs') k hk
    · exact hs.sat.glt r hr k hk
  · rcases List.mem_cons.1 hr with rfl | hr
    · obtain ⟨t, ht, hk⟩ := hk
      exact hs.sat.ghd t (hg t ht) s hsH k hk
    · exact hs.sat.ghd r hr s hsH k hk
  · obtain ⟨r, hr, hk⟩ := hk
    rcases List.mem_cons.1 hr with rfl | hr
    · obtain ⟨s, hs', hk⟩ := hk
      exact hs.gsub k ⟨s, hg s hs', hk⟩
    · exact hs.gsub k ⟨r, hr, hk⟩
theorem JO.bundle {L : List Oper} (G : RL) (hg : ∀ r ∈ G, r ∈ Γ) (k : JO P N C ops L Q E (Res.all G :: Γ) H) : JO P N C ops L Q E Γ H := fun hq a w he hs => k hq a w he (hs.bundle hg)
theorem Kn.var {b j : Nat} {cs : List Value} {u : Value} (hm : Res.var b cs ∈ Γ) (hj : cs[j]? = some u) : Kn Γ H ⟨b, j, none⟩ u := fun w hs => by
  obtain ⟨T, r, h⟩ := hs.gok _ hm
  simp [World.cell?, h, hj]
end
end Go.Proofs.YtffgimlkmfjgmaaDoor
