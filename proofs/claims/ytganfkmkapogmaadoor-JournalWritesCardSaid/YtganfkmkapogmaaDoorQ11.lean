/- The journal's plain side: frames, records, what stands whole at a disk's front. No program in sight. -/
import Derived.Test.YtganfkmkapogmaaDoorS6
import Derived.Test.YtganfkmkapogmaaDoorK8
namespace Go.Proofs.YtganfkmkapogmaaDoor
open Go.RowKit
set_option linter.unusedVariables false
set_option linter.unusedSimpArgs false
def be4 (n : Nat) : B8 := [BitVec.ofNat 8 (n / 16777216), BitVec.ofNat 8 (n / 65536), BitVec.ofNat 8 (n / 256), BitVec.ofNat 8 n]
def v4 (d : B8) : Nat := (d.getD 0 0).toNat * 16777216 + (d.getD 1 0).toNat * 65536 + (d.getD 2 0).toNat * 256 + (d.getD 3 0).toNat
def markB (b : B8) : B8 := be4 b.length ++ (sha (be4 b.length ++ b)).take 4
def frameB (b : B8) : B8 := markB b ++ b
@[simp] theorem be4_len (n : Nat) : (be4 n).length = 4 := rfl
@[simp] theorem markB_len (b : B8) : (markB b).length = 8 := by simp [markB, sha_len]
@[simp] theorem frameB_len (b : B8) : (frameB b).length = 8 + b.length := by simp [frameB]
theorem v4_be4 {n : Nat} (h : n < 4294967296) (x : B8) : v4 (be4 n ++ x) = n := by
  simp only [v4, be4, List.cons_append, List.getD_cons_zero, List.getD_cons_succ, BitVec.toNat_ofNat]
  omega
/-- A whole record stands at the front. -/
def OkH (d : B8) : Prop := 8 ≤ d.length ∧ v4 d ≤ 4000 ∧ 8 + v4 d ≤ d.length ∧ markB ((d.drop 8).take (v4 d)) = d.take 8
instance (d : B8) : Decidable (OkH d) := by unfold OkH; infer_instance
def rec0 (d : B8) : B8 := (d.drop 8).take (v4 d)
theorem rec0_len {d : B8} (h : OkH d) : (rec0 d).length = v4 d := by
  have := h.2.2.1
  simp [rec0]; omega
def recs (d : B8) : List B8 := if h : OkH d then rec0 d :: recs (d.drop (8 + v4 d)) else []
termination_by d.length
decreasing_by have := h.2.2.1; simp; omega
theorem recs_ok {d : B8} (h : OkH d) : recs d = rec0 d :: recs (d.drop (8 + v4 d)) := by rw [recs]; simp [h]
theorem recs_no {d : B8} (h : ¬ OkH d) : recs d = [] := by rw [recs]; simp [h]
def endOf (l : List B8) : Nat := (l.map fun b => 8 + b.length).sum
@[simp] theorem endOf_nil : endOf [] = 0 := rfl
theorem endOf_cons (b : B8) (l : List B8) : endOf (b :: l) = 8 + b.length + endOf l := by simp [endOf]
theorem endOf_app (a b : List B8) : endOf (a ++ b) = endOf a + endOf b := by simp [endOf]
def flat (l : List B8) : B8 := l.flatMap frameB
theorem flat_nil : flat [] = [] := rfl
theorem flat_cons (b : B8) (l : List B8) : flat (b :: l) = frameB b ++ flat l := rfl
theorem flat_app (a b : List B8) : flat (a ++ b) = flat a ++ flat b := by simp [flat]
theorem flat_one (b : B8) : flat [b] = frameB b := by simp [flat]
theorem flat_len (l : List B8) : (flat l).length = endOf l := by
  induction l with
  | nil => rfl
  | cons b l ih => rw [flat_cons, endOf_cons, List.length_append, frameB_len, ih]
def Small (l : List B8) : Prop := ∀ b ∈ l, b.length ≤ 4000
theorem Small.cons {b : B8} {l : List B8} (h : Small (b :: l)) : b.length ≤ 4000 ∧ Small l := ⟨h b (.head _), fun c hc => h c (.tail _ hc)⟩
theorem Small.take {l : List B8} (h : Small l) (k : Nat) : Small (l.take k) := fun b hb => h b (List.mem_of_mem_take hb)
theorem ok_frame {b : B8} (h : b.length ≤ 4000) (d : B8) : OkH (frameB b ++ d) ∧ v4 (frameB b ++ d) = b.length ∧ rec0 (frameB b ++ d) = b := by
  have e : v4 (frameB b ++ d) = b.length := by
    simp only [frameB, markB, List.append_assoc]
    exact v4_be4 (by omega) _
  have d8 : (frameB b ++ d).drop 8 = b ++ d := by
    simp only [frameB, List.append_assoc]
    exact List.drop_left' (markB_len b)
  have t8 : (frameB b ++ d).take 8 = markB b := by
    simp only [frameB, List.append_assoc]
    exact List.take_left' (markB_len b)
  have r0 : rec0 (frameB b ++ d) = b := by rw [rec0, e, d8]; exact List.take_left' rfl
  refine ⟨⟨by simp; omega, by omega, by rw [e]; simp, ?_⟩, e, r0⟩
  have := r0
  unfold rec0 at this
  rw [this, t8]
theorem recs_frame {b : B8} (h : b.length ≤ 4000) (d : B8) : recs (frameB b ++ d) = b :: recs d := by
  obtain ⟨ho, he, hr⟩ := ok_frame h d
  rw [recs_ok ho, hr, he]
  congr 2
  exact List.drop_left' (frameB_len b)
theorem recs_flat {l : List B8} (h : Small l) (d : B8) : recs (flat l ++ d) = l ++ recs d := by
  induction l with
  | nil => rfl
  | cons b l ih => rw [flat_cons, List.append_assoc, recs_frame h.cons.1, ih h.cons.2]; rfl
theorem frame_ok {d : B8} (h : OkH d) : frameB (rec0 d) ++ d.drop (8 + v4 d) = d := by
  have hm : markB (rec0 d) = d.take 8 := h.2.2.2
  rw [frameB, hm, rec0, ← List.drop_drop, List.append_assoc, List.take_append_drop, List.take_append_drop]
theorem recs_small (d : B8) : Small (recs d) := by
  induction d using recs.induct with
  | case1 d h ih =>
    rw [recs_ok h]
    intro b hb
    rcases List.mem_cons.1 hb with rfl | hb
    · rw [rec0_len h]; exact h.2.1
    · exact ih b hb
  | case2 d h => rw [recs_no h]; intro b hb; cases hb
theorem recs_split (d : B8) : ∃ x, d = flat (recs d) ++ x ∧ recs x = [] := by
  induction d using recs.induct with
  | case1 d h ih =>
    obtain ⟨x, hx, h0⟩ := ih
    refine ⟨x, ?_, h0⟩
    rw [recs_ok h, flat_cons, List.append_assoc, ← hx, frame_ok h]
  | case2 d h => exact ⟨d, by rw [recs_no h]; rfl, recs_no h⟩
theorem end_le (d : B8) : endOf (recs d) ≤ d.length := by
  obtain ⟨x, hx, _⟩ := recs_split d
  have := congrArg List.length hx
  rw [List.length_append, flat_len] at this
  omega
theorem take_good (d : B8) : d.take (endOf (recs d)) = flat (recs d) := by
  obtain ⟨x, hx, _⟩ := recs_split d
  have h : ∀ y : B8, y = flat (recs d) ++ x → y.take (flat (recs d)).length = flat (recs d) := fun y hy => by rw [hy]; exact List.take_left' rfl
  rw [← flat_len]
  exact h d hx
theorem recs_good (d : B8) : recs (flat (recs d)) = recs d := by
  have := recs_flat (recs_small d) []
  simpa [recs_no (d := []) (by simp [OkH])] using this
theorem recs_nil : recs [] = [] := recs_no (by simp [OkH])
theorem recs_flat0 {l : List B8} (h : Small l) : recs (flat l) = l := by
  have := recs_flat h []
  simpa [recs_nil] using this
theorem recs_n (d : B8) : 8 * (recs d).length ≤ d.length := by
  have h1 := end_le d
  have h2 : ∀ l : List B8, 8 * l.length ≤ endOf l := fun l => by
    induction l with
    | nil => simp
    | cons b l ih => rw [endOf_cons, List.length_cons]; omega
  exact Nat.le_trans (h2 _) h1
/-- A loop over a disk: where it stands behind k records. -/
def At (d : B8) (k A : Nat) : Prop := k ≤ (recs d).length ∧ A = endOf ((recs d).take k) ∧ recs (d.drop A) = (recs d).drop k ∧ A ≤ d.length
theorem At.zero (d : B8) : At d 0 0 := ⟨Nat.zero_le _, rfl, rfl, Nat.zero_le _⟩
theorem At.next {d : B8} {k A : Nat} (h : At d k A) (ho : OkH (d.drop A)) : At d (k + 1) (A + (8 + v4 (d.drop A))) ∧ (recs d)[k]? = some (rec0 (d.drop A)) ∧ k < (recs d).length := by
  obtain ⟨hk, rfl, hr, hA⟩ := h
  have e := hr
  rw [recs_ok ho] at e
  have hlt : k < (recs d).length := by
    rcases Nat.lt_or_ge k (recs d).length with h | h
    · exact h
    · rw [List.drop_eq_nil_of_le h] at e; cases e
  rw [List.drop_eq_getElem_cons hlt] at e
  obtain ⟨e1, e2⟩ := List.cons.inj e
  have hg : (recs d)[k]? = some (rec0 (d.drop (endOf ((recs d).take k)))) := by rw [List.getElem?_eq_getElem hlt, e1]
  refine ⟨⟨hlt, ?_, ?_, ?_⟩, hg, hlt⟩
  · rw [List.take_add_one, hg, endOf_app]
    simp only [Option.toList_some, endOf_cons, endOf_nil, rec0_len ho]
    omega
  · rw [← List.drop_drop, e2]
  · have := ho.2.2.1; simp at this ⊢; omega
theorem At.over {d : B8} {k A : Nat} (h : At d k A) (ho : ¬ OkH (d.drop A)) : k = (recs d).length ∧ A = endOf (recs d) := by
  obtain ⟨hk, rfl, hr, hA⟩ := h
  rw [recs_no ho] at hr
  have : (recs d).length ≤ k := List.drop_eq_nil_iff.1 hr.symm
  have e : k = (recs d).length := by omega
  subst e
  exact ⟨rfl, by rw [List.take_length]⟩
/-! ### Records in the memory -/
def rowsP (A : Pcs) (e : TypeId) : RL := A.map fun x => Res.row x.1 x.2.length e 1 (x.2.map u8)
def bytesP (A : Pcs) : List B8 := A.map Prod.snd
theorem St.frzP {C : Beg} {Γ H : RL} {A : Pcs} {e : TypeId} {w : World} (h : St C Γ (Res.sep (rowsP A e) :: H) w) : St C (Res.all (pcRes A) :: Γ) H w := by
  refine (h.conv (s := Res.all (pcRes A)) ?_ ?_).freeze
  · rintro k ⟨r, hr, hk⟩
    obtain ⟨x, hx, rfl⟩ := List.mem_map.1 hr
    exact ⟨_, List.mem_map.2 ⟨x, hx, rfl⟩, Res.row_fp.2 (Res.rd_fp.1 hk).2⟩
  · intro hok r hr
    obtain ⟨x, hx, rfl⟩ := List.mem_map.1 hr
    exact Res.rd_ok.2 (row_rd (by decide) (Res.row_ok.1 (hok.1 _ (List.mem_map.2 ⟨x, hx, rfl⟩))))
theorem JO.frzP {P : Program} {N : Nat} {C : Beg} {ops : Array Oper} {l : List Oper} {Q : Exit → Act → World → Prop} {E : Env} {Γ H G : RL} {A : Pcs} {e : TypeId} (hp : Pull (Res.sep (rowsP A e)) H G) (h : JO P N C ops l Q E (Res.all (pcRes A) :: Γ) G) : JO P N C ops l Q E Γ H :=
  fun hn a w he hs => h hn a w he (St.frzP (hs.perm hp.perm))
theorem JC.frzP {P : Program} {N : Nat} {C : Beg} {c : Code} {Q : Exit → Act → World → Prop} {E : Env} {Γ H G : RL} {A : Pcs} {e : TypeId} (hp : Pull (Res.sep (rowsP A e)) H G) (h : JC P N C c Q E (Res.all (pcRes A) :: Γ) G) : JC P N C c Q E Γ H :=
  fun hn a w he hs => h hn a w he (St.frzP (hs.perm hp.perm))
/-- What a callee reads may be read off what is there. -/
theorem Spec.from {P : Program} {f : FuncId} {args : Array Value} {Γ Γ2 H : RL} {post : Value → RL → RL → Prop} (h : Spec P f args Γ H post) (hf : ∀ r ∈ Γ, ∀ k, r.fp k → ∃ s ∈ Γ2, s.fp k) (ho : ∀ w, (∀ s ∈ Γ2, s.ok w) → ∀ r ∈ Γ, r.ok w) : Spec P f args Γ2 H post := by
  intro w hs
  have h1 : Sat Γ H w := by
    refine ⟨ho w hs.gok, ?_, hs.hok, hs.hlt, hs.hdj, ?_⟩
    · intro r hr k hk
      obtain ⟨s, hs', hk'⟩ := hf r hr k hk
      exact hs.glt s hs' k hk'
    · intro r hr s hs' k hk hk'
      obtain ⟨q, hq, hk2⟩ := hf r hr k hk
      exact hs.ghd q hq s hs' k hk2 hk'
  refine Calls.mono (h w h1) ?_
  rintro e w' ⟨v, Γ', H', rfl, hp, hst⟩
  refine ⟨v, Γ', H', rfl, hp, ⟨hst.sat, hst.stp, hst.hsub, ?_⟩⟩
  intro k hk
  rcases hst.gsub k hk with ⟨r, hr, hk2⟩ | h2
  · obtain ⟨s, hs', hk3⟩ := hf r hr k hk2
    exact .inl ⟨s, hs', hk3⟩
  · exact .inr h2
theorem Spec.unb {P : Program} {f : FuncId} {args : Array Value} {Γ H G : RL} {post : Value → RL → RL → Prop} (h : Spec P f args (Γ ++ [Res.all G]) H post) : Spec P f args (Γ ++ G) H post := by
  refine h.from ?_ ?_
  · intro r hr k hk
    rcases List.mem_append.1 hr with hr | hr
    · exact ⟨r, List.mem_append.2 (.inl hr), hk⟩
    · rw [List.mem_singleton] at hr
      subst hr
      obtain ⟨s, hs, hk⟩ := hk
      exact ⟨s, List.mem_append.2 (.inr hs), hk⟩
  · intro w hs r hr
    rcases List.mem_append.1 hr with h | h
    · exact hs r (List.mem_append.2 (.inl h))
    · rw [List.mem_singleton] at h
      subst h
      exact fun r hr => hs r (List.mem_append.2 (.inr hr))
/-- One thing that is read, out of another. -/
theorem Spec.sub1 {P : Program} {f : FuncId} {args : Array Value} {Γ H : RL} {r s : Res} {post : Value → RL → RL → Prop} (h : Spec P f args (Γ ++ [r]) H post) (hf : ∀ k, r.fp k → s.fp k) (ho : ∀ w, s.ok w → r.ok w) : Spec P f args (Γ ++ [s]) H post := by
  refine h.from ?_ ?_
  · intro q hq k hk
    rcases List.mem_append.1 hq with hq | hq
    · exact ⟨q, List.mem_append.2 (.inl hq), hk⟩
    · rw [List.mem_singleton] at hq
      subst hq
      exact ⟨s, by simp, hf k hk⟩
  · intro w hs q hq
    rcases List.mem_append.1 hq with hq | hq
    · exact hs q (List.mem_append.2 (.inl hq))
    · rw [List.mem_singleton] at hq
      subst hq
      exact ho w (hs s (by simp))
theorem cut_fp {v : Value} {n l h m : Nat} {xs ys : List Value} (hx : ys ≠ [] → xs ≠ []) : ∀ k, (Res.rd (cutV 1 v l h) m 1 ys).fp k → (Res.rd v n 1 xs).fp k := by
  intro k hk
  obtain ⟨h1, h2⟩ := Res.rd_fp.1 hk
  refine Res.rd_fp.2 ⟨hx h1, ?_⟩
  unfold cutV at h2
  split at h2
  · rename_i A _ c
    cases A with
    | none => split at h2 <;> simp [Value.ownBlock] at h2
    | some ad =>
      split at h2
      · exact h2
      · simp only [Option.map_some, Value.ownBlock, Option.some.injEq] at h2 ⊢
        rw [← h2]
        unfold Addr.add
        split <;> rfl
  · exact h2
theorem cut_ok {v : Value} {n l h : Nat} {xs : List Value} {w : World} (hw : IsRd w v n 1 xs) (hlh : l ≤ h) (hn : h ≤ n) : IsRd w (cutV 1 v l h) (h - l) 1 ((xs.drop l).take (h - l)) := by
  obtain ⟨A, c, rfl, hl, hmx, hc, hcell⟩ := hw
  refine ⟨_, _, rfl, ?_, by omega, by omega, fun j u hj => ?_⟩
  · rw [List.length_take, List.length_drop, hl]; omega
  · have hlt : j < h - l := by have := (List.getElem?_eq_some_iff.1 hj).1; simp at this; omega
    rw [List.getElem?_take_of_lt hlt, List.getElem?_drop] at hj
    obtain ⟨b, o, hA, hcc⟩ := hcell _ u hj
    subst hA
    refine ⟨b, o + l * 1, by rw [if_neg (by omega)]; simp [add_none], ?_⟩
    rw [Nat.mul_one, Nat.add_assoc]
    exact hcc
theorem At.of (d : B8) : ∀ k, k ≤ (recs d).length → At d k (endOf ((recs d).take k))
  | 0, _ => At.zero d
  | k + 1, hk => by
    have h := At.of d k (by omega)
    by_cases ho : OkH (d.drop (endOf ((recs d).take k)))
    · have h1 := (h.next ho).1
      have h2 := h1.2.1
      rwa [h2] at h1
    · have := (h.over ho).1; omega
theorem At.okh {d : B8} {k : Nat} (hk : k < (recs d).length) : OkH (d.drop (endOf ((recs d).take k))) := by
  by_cases ho : OkH (d.drop (endOf ((recs d).take k)))
  · exact ho
  · have := ((At.of d k (by omega)).over ho).1; omega
/-- The records as pieces of the disk. -/
def cutP (u : Value) (d : B8) (k : Nat) : Value × B8 := (cutV 1 u (endOf ((recs d).take k) + 8) (endOf ((recs d).take (k + 1))), (recs d).getD k [])
def cutsP (u : Value) (d : B8) (n : Nat) : Pcs := (List.range n).map (cutP u d)
@[simp] theorem cutsP_len (u : Value) (d : B8) (n : Nat) : (cutsP u d n).length = n := by simp [cutsP]
theorem cutsP_bytes (u : Value) (d : B8) : bytesP (cutsP u d (recs d).length) = recs d := by
  apply List.ext_getElem?
  intro i
  simp only [bytesP, cutsP, List.map_map, List.getElem?_map]
  by_cases h : i < (recs d).length
  · rw [List.getElem?_range h, List.getElem?_eq_getElem h]
    simp [cutP, List.getD_eq_getElem?_getD, List.getElem?_eq_getElem h]
  · rw [List.getElem?_eq_none (l := List.range _) (by rw [List.length_range]; omega), List.getElem?_eq_none (by omega)]; rfl
theorem cut_spec {d : B8} {k : Nat} (hk : k < (recs d).length) : endOf ((recs d).take k) + 8 ≤ endOf ((recs d).take (k + 1)) ∧ endOf ((recs d).take (k + 1)) ≤ d.length ∧ (recs d).getD k [] = (d.drop (endOf ((recs d).take k) + 8)).take (endOf ((recs d).take (k + 1)) - (endOf ((recs d).take k) + 8)) ∧ ((recs d).getD k []).length = endOf ((recs d).take (k + 1)) - (endOf ((recs d).take k) + 8) := by
  have ho := At.okh hk
  obtain ⟨h1, h2, _⟩ := (At.of d k (by omega)).next ho
  have e := h1.2.1
  have hle := h1.2.2.2
  have hg : (recs d).getD k [] = rec0 (d.drop (endOf ((recs d).take k))) := by rw [List.getD_eq_getElem?_getD, h2, Option.getD_some]
  have hl := rec0_len ho
  rw [hg]
  generalize hA : endOf ((recs d).take k) = A at *
  generalize hB : endOf ((recs d).take (k + 1)) = B at *
  generalize hV : v4 (d.drop A) = V at *
  have hd : B - (A + 8) = V := by omega
  refine ⟨by omega, by omega, ?_, by omega⟩
  rw [hd, rec0, hV, List.drop_drop]
theorem cuts_from {P : Program} {f : FuncId} {args : Array Value} {Γ H : RL} {u : Value} {d : B8} {post : Value → RL → RL → Prop} (h : Spec P f args (Γ ++ [Res.all (pcRes (cutsP u d (recs d).length))]) H post) : Spec P f args (Γ ++ [Res.rd u d.length 1 (d.map u8)]) H post := by
  refine h.sub1 ?_ ?_
  · rintro k ⟨r, hr, hk⟩
    obtain ⟨x, hx, rfl⟩ := List.mem_map.1 hr
    obtain ⟨i, hi, rfl⟩ := List.mem_map.1 hx
    refine cut_fp ?_ k hk
    intro hne e
    have hi := List.mem_range.1 hi
    obtain ⟨_, _, h3, _⟩ := cut_spec hi
    have hd : d = [] := List.map_eq_nil_iff.1 e
    subst hd
    simp [recs_nil] at hi
  · intro w hw r hr
    obtain ⟨x, hx, rfl⟩ := List.mem_map.1 hr
    obtain ⟨i, hi, rfl⟩ := List.mem_map.1 hx
    have hi := List.mem_range.1 hi
    obtain ⟨h1, h2, h3, h4⟩ := cut_spec hi
    have := cut_ok (Res.rd_ok.1 hw) h1 h2
    refine Res.rd_ok.2 ?_
    show IsRd w (cutV 1 u _ _) ((recs d).getD i []).length 1 (((recs d).getD i []).map u8)
    rw [h4, h3, List.map_take, List.map_drop]
    exact this
theorem ok_iff {D : B8} (h1 : 8 ≤ D.length) (h2 : v4 D ≤ 4000) (h3 : 8 + v4 D ≤ D.length) : OkH D ↔ frameB (rec0 D) = D.take (8 + v4 D) := by
  constructor
  · intro h
    have e := frame_ok h
    have hl : (frameB (rec0 D)).length = 8 + v4 D := by rw [frameB_len, rec0_len h]
    have := congrArg (List.take (8 + v4 D)) e
    rw [← hl, List.take_left' rfl] at this
    rw [hl] at this
    exact this
  · intro h
    refine ⟨h1, h2, h3, ?_⟩
    have := congrArg (List.take 8) h
    rw [frameB, List.take_left' (markB_len _), List.take_take, Nat.min_eq_left (by omega)] at this
    exact this
theorem v4_at {d : B8} {A : Nat} : (d.getD A 0).toNat * 16777216 + (d.getD (A + 1) 0).toNat * 65536 + (d.getD (A + 2) 0).toNat * 256 + (d.getD (A + 3) 0).toNat = v4 (d.drop A) := by
  simp only [v4, List.getD_eq_getElem?_getD, List.getElem?_drop, Nat.add_zero]
theorem cuts_snoc {v u : Value} {d : B8} {k A : Nat} {e : TypeId} (h : At d k A) (ho : OkH (d.drop A)) : Res.row v (k + 1) e 1 ((cutsP u d k).map Prod.fst ++ [cutV 1 u (A + 8) (A + 8 + v4 (d.drop A))]) = Res.row v (k + 1) e 1 ((cutsP u d (k + 1)).map Prod.fst) := by
  have h1 := (h.next ho).1.2.1
  have h2 := h.2.1
  have : cutsP u d (k + 1) = cutsP u d k ++ [cutP u d k] := by rw [cutsP, List.range_succ, List.map_append]; rfl
  rw [this, List.map_append]
  simp only [List.map_cons, List.map_nil, cutP]
  rw [← h2, ← h1, show A + 8 + v4 (d.drop A) = A + (8 + v4 (d.drop A)) by omega]
theorem rd_frame {v : Value} {d : B8} {A : Nat} (h : A + 8 + v4 (d.drop A) ≤ d.length) : Res.rd v (A + 8 + v4 (d.drop A) - A) 1 (((d.map u8).drop (A * 1)).take ((A + 8 + v4 (d.drop A) - A) * 1)) = Res.rd v ((d.drop A).take (8 + v4 (d.drop A))).length 1 (((d.drop A).take (8 + v4 (d.drop A))).map u8) := by
  rw [show A + 8 + v4 (d.drop A) - A = 8 + v4 (d.drop A) by omega, Nat.mul_one, Nat.mul_one, List.map_take, List.map_drop, List.length_take, List.length_drop, Nat.min_eq_left (by omega)]
theorem rd_good {v : Value} {d : B8} : Res.rd v (endOf (recs d) - 0) 1 (((d.map u8).drop (0 * 1)).take ((endOf (recs d) - 0) * 1)) = Res.rd v (flat (recs d)).length 1 ((flat (recs d)).map u8) := by
  rw [← take_good, Nat.sub_zero, Nat.zero_mul, List.drop_zero, Nat.mul_one, List.map_take, List.length_take, Nat.min_eq_left (end_le d)]
theorem JR.open {P : Program} {N : Nat} {C : Beg} {ops : Array Oper} {Q : Exit → Act → World → Prop} {E : Env} {Γ H : RL} {T M U : Nat → Bool} {Γ0 H0 : RL} {l : OT} {G : RL} {r : Res} (hm : Res.all G ∈ Γ) (hr : r ∈ G) (k : JR P N C ops T M U Γ0 H0 l Q E (r :: Γ) H) : JR P N C ops T M U Γ0 H0 l Q E Γ H := fun hq a w he hs => k hq a w he (hs.open hm hr)
theorem mark_row {v : Value} {b : B8} {e : TypeId} : Res.row v (4 + (4 - 0)) e 1 ((be4 b.length).map u8 ++ (((sha (be4 b.length ++ b)).map u8).drop (0 + 0 * 1)).take ((4 - 0) * 1)) = Res.row v (markB b).length e 1 ((markB b).map u8) := by
  rw [markB_len, markB, List.map_append, List.map_take]
  rfl
theorem rmark_row {v : Value} {b : B8} {e : TypeId} : Res.row v (4 + 4) e 1 ((be4 b.length).map u8 ++ [u8 ((sha (be4 b.length ++ b)).getD 0 0), u8 ((sha (be4 b.length ++ b)).getD 1 0), u8 ((sha (be4 b.length ++ b)).getD 2 0), u8 ((sha (be4 b.length ++ b)).getD 3 0)]) = Res.row v (markB b).length e 1 ((markB b).map u8) := by
  have h := sha_len (be4 b.length ++ b)
  rw [markB_len, markB, List.map_append]
  congr 2
theorem rd_rec {v : Value} {d : B8} {A : Nat} (h : A + 8 + v4 (d.drop A) ≤ d.length) : Res.rd v (A + 8 + v4 (d.drop A) - (A + 8)) 1 (((d.map u8).drop ((A + 8) * 1)).take ((A + 8 + v4 (d.drop A) - (A + 8)) * 1)) = Res.rd v (rec0 (d.drop A)).length 1 ((rec0 (d.drop A)).map u8) := by
  have e : rec0 (d.drop A) = (d.drop (A + 8)).take (v4 (d.drop A)) := by rw [rec0, List.drop_drop]
  rw [e, Nat.add_sub_cancel_left, Nat.mul_one, Nat.mul_one, List.map_take, List.map_drop, List.length_take, List.length_drop, Nat.min_eq_left (by omega)]
theorem rd_head {v : Value} {d : B8} {A : Nat} (h : A + 8 ≤ d.length) : Res.rd v (A + 8 - A) 1 (((d.map u8).drop (A * 1)).take ((A + 8 - A) * 1)) = Res.rd v ((d.drop A).take 8).length 1 (((d.drop A).take 8).map u8) := by
  rw [Nat.add_sub_cancel_left, Nat.mul_one, Nat.mul_one, List.map_take, List.map_drop, List.length_take, List.length_drop, Nat.min_eq_left (by omega)]
theorem snoc_row {v w : Value} {A : Pcs} {b : B8} {e : TypeId} : Res.row v (A.length + 1) e 1 (A.map Prod.fst ++ [w]) = Res.row v (A ++ [(w, b)]).length e 1 ((A ++ [(w, b)]).map Prod.fst) := by simp
theorem one_u8s {b : B8} : ∀ a ∈ b.map u8, a.oneCell' = true := fun a ha => by obtain ⟨x, _, rfl⟩ := List.mem_map.1 ha; rfl
theorem rd_pre {v : Value} {b : B8} (n : Nat) (h : n ≤ b.length) : Res.rd v (n - 0) 1 (((b.map u8).drop (0 * 1)).take ((n - 0) * 1)) = Res.rd v (b.take n).length 1 ((b.take n).map u8) := by
  rw [Nat.sub_zero, Nat.zero_mul, List.drop_zero, Nat.mul_one, List.length_take, Nat.min_eq_left h, List.map_take]
theorem one_cutV {s : Nat} {v : Value} {l h : Nat} (hv : v.oneCell' = true) : (cutV s v l h).oneCell' = true := by
  unfold cutV
  split
  · rfl
  · exact hv
/-- A frame that is not whole holds no record. -/
theorem recs_part {b : B8} (hb : b.length ≤ 4000) {n : Nat} (hn : n < 8 + b.length) : recs ((frameB b).take n) = [] := by
  refine recs_no fun h => ?_
  have hl : ((frameB b).take n).length = n := by rw [List.length_take, frameB_len]; omega
  have h8 : 8 ≤ n := hl ▸ h.1
  have h3 := h.2.2.1
  rw [hl] at h3
  have e : v4 ((frameB b).take n) = b.length := by
    obtain ⟨m, rfl⟩ : ∃ m, n = 4 + m := ⟨n - 4, by omega⟩
    rw [frameB, markB, List.append_assoc, List.take_append, be4_len, List.take_of_length_le (by simp)]
    exact v4_be4 (by omega) _
  omega
/-! ### Operations -/
theorem BinR.shl_ik {P : Program} {T : TypeId} {x y : Operand} {a : Int} {c : Nat} (h64 : c ≤ 64) (h : Fits (a * 2 ^ c)) : BinR P .shl T x y (it a) (u64 (BitVec.ofNat 64 c)) (it (a * 2 ^ c)) := .ints2 fun w => by
  have hc : (BitVec.ofNat 64 c).toNat = c := by rw [BitVec.toNat_ofNat]; omega
  have hn0 : ¬ (((BitVec.ofNat 64 c).toNat : Nat) : Int) < 0 := by omega
  simp only [binOp, Op.shift, hn0, if_false, Sem.run_pure]
  refine ok_int ?_ w
  rw [hc, Int.toNat_natCast, show min c IntKind.i64.bits = c from Nat.min_eq_left (by show c ≤ 64; omega)]
  exact h.wrap
theorem BinR.shr_ik {P : Program} {T : TypeId} {x y : Operand} {a : Int} {c : Nat} (h64 : c ≤ 64) : BinR P .shr T x y (it a) (u64 (BitVec.ofNat 64 c)) (it (a / 2 ^ c)) := .ints2 fun w => by
  have hc : (BitVec.ofNat 64 c).toNat = c := by rw [BitVec.toNat_ofNat]; omega
  have hn0 : ¬ (((BitVec.ofNat 64 c).toNat : Nat) : Int) < 0 := by omega
  simp only [binOp, Op.shift, hn0, if_false, Sem.run_pure]
  refine ok_int ?_ w
  rw [hc, Int.toNat_natCast, show min c IntKind.i64.bits = c from Nat.min_eq_left (by show c ≤ 64; omega)]
  exact Int.fdiv_eq_ediv_of_nonneg _ (Int.le_of_lt (Int.pow_pos (by decide)))
theorem BinR.or_n {P : Program} {T : TypeId} {x y : Operand} {a b : Nat} (ha : a < 9223372036854775808) (hb : b < 9223372036854775808) : BinR P .or T x y (it (a : Int)) (it (b : Int)) (it ((a ||| b : Nat) : Int)) := .ints fun w => by
  simp only [binOp, Op.intBits, ne_eq, not_true_eq_false, if_false, Sem.run_pure]
  refine ok_int ?_ w
  have hlt : a ||| b < 2 ^ 63 := Nat.or_lt_two_pow ha hb
  show IntKind.i64.wrap (((BitVec.ofInt 64 (a : Int)) ||| (BitVec.ofInt 64 (b : Int))).toNat : Int) = _
  rw [BitVec.ofInt_natCast, BitVec.ofInt_natCast, BitVec.toNat_or, BitVec.toNat_ofNat, BitVec.toNat_ofNat, Nat.mod_eq_of_lt (by omega), Nat.mod_eq_of_lt (by omega)]
  exact Fits.wrap (by unfold Fits; omega)
theorem or_add (x y i : Nat) (h : y < 2 ^ i) : x * 2 ^ i ||| y = x * 2 ^ i + y := by rw [← Nat.shiftLeft_eq, ← Nat.shiftLeft_add_eq_or_of_lt h]
theorem v4_or (d : B8) : (((d.getD 0 0).toNat * 16777216 ||| (d.getD 1 0).toNat * 65536) ||| (d.getD 2 0).toNat * 256) ||| (d.getD 3 0).toNat = v4 d := by
  have h0 := (d.getD 0 0).isLt
  have h1 := (d.getD 1 0).isLt
  have h2 := (d.getD 2 0).isLt
  have h3 := (d.getD 3 0).isLt
  unfold v4
  generalize (d.getD 0 0).toNat = A at *
  generalize (d.getD 1 0).toNat = B at *
  generalize (d.getD 2 0).toNat = X at *
  generalize (d.getD 3 0).toNat = Y at *
  have e1 := or_add A (B * 65536) 24 (by omega)
  have e2 := or_add (A * 256 + B) (X * 256) 16 (by omega)
  have e3 := or_add (A * 65536 + B * 256 + X) Y 8 (by omega)
  rw [show A * 2 ^ 24 = A * 16777216 from rfl] at e1
  rw [show (A * 256 + B) * 2 ^ 16 = A * 16777216 + B * 65536 by omega] at e2
  rw [show (A * 65536 + B * 256 + X) * 2 ^ 8 = A * 16777216 + B * 65536 + X * 256 by omega] at e3
  rw [e1, e2, e3]
theorem take_snoc {l : B8} {k : Nat} (h : k < l.length) : l.take (k + 1) = l.take k ++ [l.getD k 0] := by
  rw [List.take_add_one, List.getElem?_eq_getElem h, List.getD_eq_getElem?_getD, List.getElem?_eq_getElem h]; rfl
theorem take_snocP {l : Pcs} {k : Nat} (h : k < l.length) : bytesP (l.take (k + 1)) = bytesP (l.take k) ++ [(pcAt l k).2] := by
  have : l.take (k + 1) = l.take k ++ [pcAt l k] := by
    rw [List.take_add_one, pcAt, List.getD_eq_getElem?_getD, List.getElem?_eq_getElem h]; rfl
  rw [this, bytesP, List.map_append]; rfl
theorem pcAt_of {a b : Pcs} (h : bytesP a = bytesP b) {k : Nat} : (pcAt a k).2 = (pcAt b k).2 := by
  have := congrArg (fun l : List B8 => l.getD k []) h
  simp only [bytesP, List.getD_eq_getElem?_getD, List.getElem?_map] at this
  simp only [pcAt, List.getD_eq_getElem?_getD]
  cases h1 : a[k]? <;> cases h2 : b[k]? <;> simp_all
theorem bytesP_len (l : Pcs) : (bytesP l).length = l.length := List.length_map ..
/-! ### Lists of records -/
theorem pcs_one {A : Pcs} {w : World} (h : (Res.all (pcRes A)).ok w) : ∀ a ∈ A.map Prod.fst, a.oneCell' = true := fun a ha => by
  obtain ⟨x, hx, rfl⟩ := List.mem_map.1 ha
  obtain ⟨B, c, e, _⟩ := Res.rd_ok.1 (h _ (List.mem_map.2 ⟨x, hx, rfl⟩))
  rw [e]; rfl
theorem Spec.allSnoc {P : Program} {f : FuncId} {args : Array Value} {Γ H : RL} {A : Pcs} {v : Value} {b : B8} {post : Value → RL → RL → Prop} (h : Spec P f args (Γ ++ [Res.all (pcRes (A ++ [(v, b)]))]) H post) : Spec P f args (Γ ++ [Res.all (pcRes A), Res.rd v b.length 1 (b.map u8)]) H post := by
  refine h.from ?_ ?_
  · intro r hr k hk
    rcases List.mem_append.1 hr with hr | hr
    · exact ⟨r, List.mem_append.2 (.inl hr), hk⟩
    · rw [List.mem_singleton] at hr
      subst hr
      obtain ⟨s, hs, hk⟩ := hk
      simp only [pcRes, List.map_append, List.mem_append, List.map_cons, List.map_nil, List.mem_singleton] at hs
      rcases hs with hs | rfl
      · exact ⟨Res.all (pcRes A), by simp, s, hs, hk⟩
      · exact ⟨_, by simp, hk⟩
  · intro w hs r hr
    rcases List.mem_append.1 hr with h | h
    · exact hs r (List.mem_append.2 (.inl h))
    · rw [List.mem_singleton] at h
      subst h
      intro r hr
      simp only [pcRes, List.map_append, List.mem_append, List.map_cons, List.map_nil, List.mem_singleton] at hr
      rcases hr with hr | rfl
      · exact hs (Res.all (pcRes A)) (by simp) r hr
      · exact hs _ (by simp)
theorem Spec.allTake {P : Program} {f : FuncId} {args : Array Value} {Γ H : RL} {A : Pcs} {k : Nat} {post : Value → RL → RL → Prop} (h : Spec P f args (Γ ++ [Res.all (pcRes (A.take k))]) H post) : Spec P f args (Γ ++ [Res.all (pcRes A)]) H post := by
  have hm : ∀ r ∈ pcRes (A.take k), r ∈ pcRes A := fun r hr => by
    obtain ⟨x, hx, rfl⟩ := List.mem_map.1 hr
    exact List.mem_map.2 ⟨x, List.mem_of_mem_take hx, rfl⟩
  exact h.sub1 (fun k ⟨r, hr, hk⟩ => ⟨r, hm r hr, hk⟩) (fun w hw r hr => hw r (hm r hr))
theorem bytesP_get {l : Pcs} {k : Nat} (h : k < l.length) : (bytesP l).take (k + 1) = (bytesP l).take k ++ [(pcAt l k).2] := by
  have := take_snocP h
  simpa [bytesP, List.map_take] using this
theorem flat_succ {l : Pcs} {k : Nat} (h : k < l.length) : flat ((bytesP l).take k) ++ frameB (pcAt l k).2 = flat ((bytesP l).take (k + 1)) := by rw [bytesP_get h, flat_app, flat_one]
theorem end_succ {l : Pcs} {k : Nat} (h : k < l.length) : endOf ((bytesP l).take (k + 1)) = endOf ((bytesP l).take k) + 8 + (pcAt l k).2.length := by
  rw [bytesP_get h, endOf_app, endOf_cons, endOf_nil]; omega
def endsV (L : List B8) (k : Nat) : List Value := (List.range (k + 1)).map fun i => it ((endOf (L.take i) : Nat) : Int)
theorem ends_get {L : List B8} {k i : Nat} (h : i ≤ k) : (endsV L k)[i]? = some (it ((endOf (L.take i) : Nat) : Int)) := by
  rw [endsV, List.getElem?_map, List.getElem?_range (by omega)]; rfl
theorem ends_snoc {L : List B8} {k : Nat} : endsV L k ++ [it ((endOf (L.take (k + 1)) : Nat) : Int)] = endsV L (k + 1) := by
  rw [endsV, endsV, List.range_succ (n := k + 1), List.map_append]; rfl
theorem end_small {L : List B8} {c : Nat} (h : ∀ b ∈ L, b.length ≤ c) : endOf L ≤ (8 + c) * L.length := by
  induction L with
  | nil => simp
  | cons b l ih =>
    have h1 := h b (.head _)
    have h2 := ih fun x hx => h x (.tail _ hx)
    rw [endOf_cons, List.length_cons, Nat.mul_succ]; omega
theorem rd_preP {v : Value} {l : Pcs} {n : Nat} (h : n ≤ l.length) : Res.rd v (n - 0) 1 (((l.map Prod.fst).drop (0 * 1)).take ((n - 0) * 1)) = Res.rd v (l.take n).length 1 ((l.take n).map Prod.fst) := by
  rw [Nat.sub_zero, Nat.zero_mul, List.drop_zero, Nat.mul_one, List.length_take, Nat.min_eq_left h, List.map_take]
theorem split_at (L : List B8) (x : Nat) : flat L = flat (L.take x) ++ flat (L.drop x) := by rw [← flat_app, List.take_append_drop]
/-- What stands whole on a disk cut off at m. -/
theorem recs_cut {L : List B8} (hs : Small L) {x m : Nat} (h1 : endOf (L.take x) ≤ m) (h2 : x < L.length → m < endOf (L.take (x + 1))) : recs ((flat L).take m) = L.take x := by
  have hl : (flat (L.take x)).length = endOf (L.take x) := flat_len _
  rw [split_at L x, List.take_append, List.take_of_length_le (by omega), recs_flat (hs.take x)]
  have : recs ((flat (L.drop x)).take (m - (flat (L.take x)).length)) = [] := by
    by_cases hx : x < L.length
    · have h3 := h2 hx
      rw [List.take_add_one, List.getElem?_eq_getElem hx, endOf_app] at h3
      simp only [Option.toList_some, endOf_cons, endOf_nil] at h3
      rw [List.drop_eq_getElem_cons hx, flat_cons, List.take_append_of_le_length (by rw [frameB_len]; omega)]
      exact recs_part (hs _ (List.getElem_mem hx)) (by omega)
    · rw [List.drop_eq_nil_of_le (by omega), flat_nil, List.take_nil]; exact recs_nil
  rw [this, List.append_nil]
/-- One byte is turned: what stands ahead of it stays. -/
theorem recs_set {L : List B8} (hs : Small L) {x m : Nat} (y : BitVec 8) (h1 : endOf (L.take x) ≤ m) : ∃ R, recs ((flat L).set m y) = L.take x ++ R := by
  have hl : (flat (L.take x)).length = endOf (L.take x) := flat_len _
  rw [split_at L x, List.set_append, if_neg (by omega), recs_flat (hs.take x)]
  exact ⟨_, rfl⟩
end Go.Proofs.YtganfkmkapogmaaDoor
