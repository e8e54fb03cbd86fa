/- Pieces of bytes in the memory: given to all, taken, read off others. No program in sight. -/
import Derived.Test.YtffgimlkmfjgmaaDoorS6
import Derived.Test.YtffgimlkmfjgmaaDoorK8
namespace Go.Proofs.YtffgimlkmfjgmaaDoor
open Go.RowKit
set_option linter.unusedVariables false
set_option linter.unusedSimpArgs false
def rowsP (A : Pcs) (e : TypeId) : RL := A.map fun x => Res.row x.1 x.2.length e 1 (x.2.map u8)
def bytesP (A : Pcs) : List B8 := A.map Prod.snd
theorem St.frzP {C : Beg} {Γ H : RL} {A : Pcs} {e : TypeId} {w : World} (h : St C Γ (Res.sep (rowsP A e) :: H) w) : St C (Res.all (pcRes A) :: Γ) H w := by
  refine (h.conv (s := Res.all (pcRes A)) ?_ ?_).freeze
  · rintro k ⟨r, hr, hk⟩
    obtain ⟨x, hx, rfl⟩ := List.mem_map.1 hr
    exact ⟨_, List.mem_map.2 ⟨x, hx, rfl⟩, Res.row_fp.2 (Res.rd_fp.1 hk).2⟩
  · intro hok r hr
    obtain ⟨x, hx, rfl⟩ := List.mem_map.1 hr
    exact Res.rd_ok.2 (row_rd (by decide) (Res.row_ok.1 (hok.1 _ (List.mem_map.2 ⟨x, hx, rfl⟩))))
theorem JO.frzP {P : Program} {N : Nat} {C : Beg} {ops : Array Oper} {l : List Oper} {Q : Exit → Act → World → Prop} {E : Env} {Γ H G : RL} {A : Pcs} {e : TypeId} (hp : Pull (Res.sep (rowsP A e)) H G) (h : JO P N C ops l Q E (Res.all (pcRes A) :: Γ) G) : JO P N C ops l Q E Γ H :=
  fun hn a w he hs => h hn a w he (St.frzP (hs.perm hp.perm))
theorem JC.frzP {P : Program} {N : Nat} {C : Beg} {c : Code} {Q : Exit → Act → World → Prop} {E : Env} {Γ H G : RL} {A : Pcs} {e : TypeId} (hp : Pull (Res.sep (rowsP A e)) H G) (h : JC P N C c Q E (Res.all (pcRes A) :: Γ) G) : JC P N C c Q E Γ H :=
  fun hn a w he hs => h hn a w he (St.frzP (hs.perm hp.perm))
/-- What a callee reads may be read off what is there. -/
theorem Spec.from {P : Program} {f : FuncId} {args : Array Value} {Γ Γ2 H : RL} {post : Value → RL → RL → Prop} (h : Spec P f args Γ H post) (hf : ∀ r ∈ Γ, ∀ k, r.fp k → ∃ s ∈ Γ2, s.fp k) (ho : ∀ w, (∀ s ∈ Γ2, s.ok w) → ∀ r ∈ Γ, r.ok w) : Spec P f args Γ2 H post := by
  intro w hs
  have h1 : Sat Γ H w := by
    refine ⟨ho w hs.gok, ?_, hs.hok, hs.hlt, hs.hdj, ?_⟩
    · intro r hr k hk
      obtain ⟨s, hs', hk'⟩ := hf r hr k hk
      exact hs.glt s hs' k hk'
    · intro r hr s hs' k hk hk'
      obtain ⟨q, hq, hk2⟩ := hf r hr k hk
      exact hs.ghd q hq s hs' k hk2 hk'
  refine Calls.mono (h w h1) ?_
  rintro e w' ⟨v, Γ', H', rfl, hp, hst⟩
  refine ⟨v, Γ', H', rfl, hp, ⟨hst.sat, hst.stp, hst.hsub, ?_⟩⟩
  intro k hk
  rcases hst.gsub k hk with ⟨r, hr, hk2⟩ | h2
  · obtain ⟨s, hs', hk3⟩ := hf r hr k hk2
    exact .inl ⟨s, hs', hk3⟩
  · exact .inr h2
theorem Spec.unb {P : Program} {f : FuncId} {args : Array Value} {Γ H G : RL} {post : Value → RL → RL → Prop} (h : Spec P f args (Γ ++ [Res.all G]) H post) : Spec P f args (Γ ++ G) H post := by
  refine h.from ?_ ?_
  · intro r hr k hk
    rcases List.mem_append.1 hr with hr | hr
    · exact ⟨r, List.mem_append.2 (.inl hr), hk⟩
    · rw [List.mem_singleton] at hr
      subst hr
      obtain ⟨s, hs, hk⟩ := hk
      exact ⟨s, List.mem_append.2 (.inr hs), hk⟩
  · intro w hs r hr
    rcases List.mem_append.1 hr with h | h
    · exact hs r (List.mem_append.2 (.inl h))
    · rw [List.mem_singleton] at h
      subst h
      exact fun r hr => hs r (List.mem_append.2 (.inr hr))
/-- One thing that is read, out of another. -/
theorem Spec.sub1 {P : Program} {f : FuncId} {args : Array Value} {Γ H : RL} {r s : Res} {post : Value → RL → RL → Prop} (h : Spec P f args (Γ ++ [r]) H post) (hf : ∀ k, r.fp k → s.fp k) (ho : ∀ w, s.ok w → r.ok w) : Spec P f args (Γ ++ [s]) H post := by
  refine h.from ?_ ?_
  · intro q hq k hk
    rcases List.mem_append.1 hq with hq | hq
    · exact ⟨q, List.mem_append.2 (.inl hq), hk⟩
    · rw [List.mem_singleton] at hq
      subst hq
      exact ⟨s, by simp, hf k hk⟩
  · intro w hs q hq
    rcases List.mem_append.1 hq with hq | hq
    · exact hs q (List.mem_append.2 (.inl hq))
    · rw [List.mem_singleton] at hq
      subst hq
      exact ho w (hs s (by simp))
theorem cut_fp {v : Value} {n l h m : Nat} {xs ys : List Value} (hx : ys ≠ [] → xs ≠ []) : ∀ k, (Res.rd (cutV 1 v l h) m 1 ys).fp k → (Res.rd v n 1 xs).fp k := by
  intro k hk
  obtain ⟨h1, h2⟩ := Res.rd_fp.1 hk
  refine Res.rd_fp.2 ⟨hx h1, ?_⟩
  unfold cutV at h2
  split at h2
  · rename_i A _ c
    cases A with
    | none => split at h2 <;> simp [Value.ownBlock] at h2
    | some ad =>
      split at h2
      · exact h2
      · simp only [Option.map_some, Value.ownBlock, Option.some.injEq] at h2 ⊢
        rw [← h2]
        unfold Addr.add
        split <;> rfl
  · exact h2
theorem cut_ok {v : Value} {n l h : Nat} {xs : List Value} {w : World} (hw : IsRd w v n 1 xs) (hlh : l ≤ h) (hn : h ≤ n) : IsRd w (cutV 1 v l h) (h - l) 1 ((xs.drop l).take (h - l)) := by
  obtain ⟨A, c, rfl, hl, hmx, hc, hcell⟩ := hw
  refine ⟨_, _, rfl, ?_, by omega, by omega, fun j u hj => ?_⟩
  · rw [List.length_take, List.length_drop, hl]; omega
  · have hlt : j < h - l := by have := (List.getElem?_eq_some_iff.1 hj).1; simp at this; omega
    rw [List.getElem?_take_of_lt hlt, List.getElem?_drop] at hj
    obtain ⟨b, o, hA, hcc⟩ := hcell _ u hj
    subst hA
    refine ⟨b, o + l * 1, by rw [if_neg (by omega)]; simp [add_none], ?_⟩
    rw [Nat.mul_one, Nat.add_assoc]
    exact hcc
theorem JR.open {P : Program} {N : Nat} {C : Beg} {ops : Array Oper} {Q : Exit → Act → World → Prop} {E : Env} {Γ H : RL} {T M U : Nat → Bool} {Γ0 H0 : RL} {l : OT} {G : RL} {r : Res} (hm : Res.all G ∈ Γ) (hr : r ∈ G) (k : JR P N C ops T M U Γ0 H0 l Q E (r :: Γ) H) : JR P N C ops T M U Γ0 H0 l Q E Γ H := fun hq a w he hs => k hq a w he (hs.open hm hr)
theorem snoc_row {v w : Value} {A : Pcs} {b : B8} {e : TypeId} : Res.row v (A.length + 1) e 1 (A.map Prod.fst ++ [w]) = Res.row v (A ++ [(w, b)]).length e 1 ((A ++ [(w, b)]).map Prod.fst) := by simp
theorem one_u8s {b : B8} : ∀ a ∈ b.map u8, a.oneCell' = true := fun a ha => by obtain ⟨x, _, rfl⟩ := List.mem_map.1 ha; rfl
theorem rd_pre {v : Value} {b : B8} (n : Nat) (h : n ≤ b.length) : Res.rd v (n - 0) 1 (((b.map u8).drop (0 * 1)).take ((n - 0) * 1)) = Res.rd v (b.take n).length 1 ((b.take n).map u8) := by
  rw [Nat.sub_zero, Nat.zero_mul, List.drop_zero, Nat.mul_one, List.length_take, Nat.min_eq_left h, List.map_take]
theorem one_cutV {s : Nat} {v : Value} {l h : Nat} (hv : v.oneCell' = true) : (cutV s v l h).oneCell' = true := by
  unfold cutV
  split
  · rfl
  · exact hv
theorem take_snocB {l : B8} {k : Nat} (h : k < l.length) : l.take (k + 1) = l.take k ++ [l.getD k 0] := by
  rw [List.take_add_one, List.getElem?_eq_getElem h, List.getD_eq_getElem?_getD, List.getElem?_eq_getElem h]; rfl
theorem take_snocP {l : Pcs} {k : Nat} (h : k < l.length) : bytesP (l.take (k + 1)) = bytesP (l.take k) ++ [(pcAt l k).2] := by
  have : l.take (k + 1) = l.take k ++ [pcAt l k] := by
    rw [List.take_add_one, pcAt, List.getD_eq_getElem?_getD, List.getElem?_eq_getElem h]; rfl
  rw [this, bytesP, List.map_append]; rfl
theorem pcAt_of {a b : Pcs} (h : bytesP a = bytesP b) {k : Nat} : (pcAt a k).2 = (pcAt b k).2 := by
  have := congrArg (fun l : List B8 => l.getD k []) h
  simp only [bytesP, List.getD_eq_getElem?_getD, List.getElem?_map] at this
  simp only [pcAt, List.getD_eq_getElem?_getD]
  cases h1 : a[k]? <;> cases h2 : b[k]? <;> simp_all
theorem bytesP_len (l : Pcs) : (bytesP l).length = l.length := List.length_map ..
theorem pcs_one {A : Pcs} {w : World} (h : (Res.all (pcRes A)).ok w) : ∀ a ∈ A.map Prod.fst, a.oneCell' = true := fun a ha => by
  obtain ⟨x, hx, rfl⟩ := List.mem_map.1 ha
  obtain ⟨B, c, e, _⟩ := Res.rd_ok.1 (h _ (List.mem_map.2 ⟨x, hx, rfl⟩))
  rw [e]; rfl
theorem Spec.allSnoc {P : Program} {f : FuncId} {args : Array Value} {Γ H : RL} {A : Pcs} {v : Value} {b : B8} {post : Value → RL → RL → Prop} (h : Spec P f args (Γ ++ [Res.all (pcRes (A ++ [(v, b)]))]) H post) : Spec P f args (Γ ++ [Res.all (pcRes A), Res.rd v b.length 1 (b.map u8)]) H post := by
  refine h.from ?_ ?_
  · intro r hr k hk
    rcases List.mem_append.1 hr with hr | hr
    · exact ⟨r, List.mem_append.2 (.inl hr), hk⟩
    · rw [List.mem_singleton] at hr
      subst hr
      obtain ⟨s, hs, hk⟩ := hk
      simp only [pcRes, List.map_append, List.mem_append, List.map_cons, List.map_nil, List.mem_singleton] at hs
      rcases hs with hs | rfl
      · exact ⟨Res.all (pcRes A), by simp, s, hs, hk⟩
      · exact ⟨_, by simp, hk⟩
  · intro w hs r hr
    rcases List.mem_append.1 hr with h | h
    · exact hs r (List.mem_append.2 (.inl h))
    · rw [List.mem_singleton] at h
      subst h
      intro r hr
      simp only [pcRes, List.map_append, List.mem_append, List.map_cons, List.map_nil, List.mem_singleton] at hr
      rcases hr with hr | rfl
      · exact hs (Res.all (pcRes A)) (by simp) r hr
      · exact hs _ (by simp)
theorem Spec.allTake {P : Program} {f : FuncId} {args : Array Value} {Γ H : RL} {A : Pcs} {k : Nat} {post : Value → RL → RL → Prop} (h : Spec P f args (Γ ++ [Res.all (pcRes (A.take k))]) H post) : Spec P f args (Γ ++ [Res.all (pcRes A)]) H post := by
  have hm : ∀ r ∈ pcRes (A.take k), r ∈ pcRes A := fun r hr => by
    obtain ⟨x, hx, rfl⟩ := List.mem_map.1 hr
    exact List.mem_map.2 ⟨x, List.mem_of_mem_take hx, rfl⟩
  exact h.sub1 (fun k ⟨r, hr, hk⟩ => ⟨r, hm r hr, hk⟩) (fun w hw r hr => hw r (hm r hr))
theorem bytesP_get {l : Pcs} {k : Nat} (h : k < l.length) : (bytesP l).take (k + 1) = (bytesP l).take k ++ [(pcAt l k).2] := by
  have := take_snocP h
  simpa [bytesP, List.map_take] using this
theorem rd_preP {v : Value} {l : Pcs} {n : Nat} (h : n ≤ l.length) : Res.rd v (n - 0) 1 (((l.map Prod.fst).drop (0 * 1)).take ((n - 0) * 1)) = Res.rd v (l.take n).length 1 ((l.take n).map Prod.fst) := by
  rw [Nat.sub_zero, Nat.zero_mul, List.drop_zero, Nat.mul_one, List.length_take, Nat.min_eq_left h, List.map_take]
end Go.Proofs.YtffgimlkmfjgmaaDoor
