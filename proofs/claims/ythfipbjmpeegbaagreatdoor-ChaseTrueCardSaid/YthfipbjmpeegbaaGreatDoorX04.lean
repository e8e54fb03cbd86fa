/- Texts of ours, gathered: K10 K11 L2 L3 V15 C8s D8s P17 C19 K7 E8s P17p D19 CC B. -/
import Derived.Test.YthfipbjmpeegbaaGreatDoorRows
import Derived.KernelRfl
import Derived.Test.YthfipbjmpeegbaaGreatDoorX03
/- A range over a function whose rounds are of a kind of one's own (what came is kept in the state). No program in sight. -/
namespace Go.Proofs.YthfipbjmpeegbaaGreatDoor
open Go.RowKit
set_option linter.unusedVariables false
section
variable {P : Program} {N : Nat} {m : Md} {C : Beg} {Q : Exit → Act → World → Prop} {E : Env} {Γ H : RL}
theorem JX.rfg [hn : NPL Q] {ι : Type} {g : Operand} {ps : Array Tmp} {assign body : Code} {gf : FuncId} {lb : Array Value} (x0 : ι) (fin : ι → Prop) (I : ι → RL → Prop) {I0 Γi G : RL} (ok : ι → List Value → RL → ι → Prop) (hx : ev E g = some (.func (.func gf) #[] lb)) (hb : Body P gf) (hI0 : I x0 I0)
    (hit : ∀ l (X : Res) (R : ι → Res → Prop) r0, R x0 r0 → (∀ k vs Γy r y, ok k vs Γy y → R k r → YSpec P l vs.toArray (Γy ++ [X]) [r] fun b Γ' H' => b = .bool true ∧ Γ' = [] ∧ ∃ r', R y r' ∧ H' = [r']) → Spec P gf (#[.func (.yield l) #[] #[]] ++ lb) (Γi ++ [X]) [r0] fun _ Γ' H' => True ∧ Γ' = [] ∧ ∃ x r', fin x ∧ R x r' ∧ H' = [r'])
    (hround : ∀ l D fn T w0 k vs Γy y L, ok k vs Γy y → I k L → JX P N ⟨some l, []⟩ ⟨w0, Γy ++ [Res.all Γ], [rfR fn T ps assign body l D L]⟩ assign (Exit.then (RdK P body (roundPost P l (SpecPost (Γy ++ [Res.all Γ]) [rfR fn T ps assign body l D L] (fun b Γ' H' => b = .bool true ∧ Γ' = [] ∧ ∃ r', (∃ L', I y L' ∧ r' = rfR fn T ps assign body l D L') ∧ H' = [r']) w0)) l) fun _ _ _ => False)
      (ps.toList.zip vs ++ E) (Γy ++ Γ) (Res.ob l (lrec fn T ps assign body D .ready) :: Res.ob D (.deferred (some [])) :: L))
    (hnext : ∀ D x L, fin x → I x L → JQ N C .normal (QU ⟨none, [{ target := .collected D, args := #[] }]⟩ Q) E Γ (Res.ob D (.deferred (some [])) :: (L ++ G)))
    (hps : ∀ k vs Γy y, ok k vs Γy y → vs.length = ps.size) (hlt : ∀ p ∈ ps.toList, p < N) (hnd : ps.toList.Nodup) (hp : Picks I0 H G) (hg : Lends Γi (G ++ Γ)) :
    JX P N ⟨none, []⟩ C (.rangeFunc g ps assign body) Q E Γ H := by
  intro a w he hs
  have hu : (⟨none, []⟩ : Md).up a = a := by simp [Md.up]
  rw [hu]
  refine wpIn_rangeFunc ?_
  intro fn _
  have h1 := ((hs.perm hp.perm).newOb (.deferred (some [])))
  have h2 := h1.newOb (lrec fn a.tmps ps assign body w.heap.size .ready)
  have hsz : (w.alloc (.deferred (some []))).heap.size = w.heap.size + 1 := by simp
  rw [hsz] at h2
  obtain ⟨W1, hW1⟩ : ∃ W1, (w.alloc (.deferred (some []))).alloc (lrec fn a.tmps ps assign body w.heap.size .ready) = W1 := ⟨_, rfl⟩
  rw [hW1] at h2
  refine ⟨w.heap.size + 1, [{ target := .collected w.heap.size, args := #[] }], W1, { target := .fn (.func gf) lb, args := #[.func (.yield (w.heap.size + 1)) #[] #[]] }, W1, gf, #[.func (.yield (w.heap.size + 1)) #[] #[]] ++ lb, W1, by rw [← hW1]; exact run_enterLoop_outer _ _ _ _ _, ?_, fun _ _ => trivial, ?_, fun h => (by cases h), ?_⟩
  · simp only [resolve, he.ev hx]
    simp [Deferred.ofValue, Act.eval]
  · simp only [invoke]
    exact hb _ _
  · refine callsFW.2 ?_
    -- what one holds, in one
    have h3 : St C Γ (Res.sep (Res.ob (w.heap.size + 1) (lrec fn a.tmps ps assign body w.heap.size .ready) :: Res.ob w.heap.size (.deferred (some [])) :: I0) :: G) _ := St.sep.2 (by simpa using h2)
    have h4 := h3.bundle (G := Γ) (fun r h => h)
    have hc := hit (w.heap.size + 1) (Res.all Γ) (fun k r => ∃ L, I k L ∧ r = rfR fn a.tmps ps assign body (w.heap.size + 1) w.heap.size L) _ ⟨I0, hI0, rfl⟩ (fun k vs Γy r y hok hR w0 hs0 => by
      obtain ⟨L, hL, rfl⟩ := hR
      have hl0 : St ⟨w0, Γy ++ [Res.all Γ], [rfR fn a.tmps ps assign body (w.heap.size + 1) w.heap.size L]⟩ (Γy ++ Γ) (Res.ob (w.heap.size + 1) (lrec fn a.tmps ps assign body w.heap.size .ready) :: Res.ob w.heap.size (.deferred (some [])) :: L) w0 := by
        have hb0 := St.begin hs0
        have hb1 : St ⟨w0, Γy ++ [Res.all Γ], [rfR fn a.tmps ps assign body (w.heap.size + 1) w.heap.size L]⟩ (Γy ++ [Res.all Γ]) ((Res.ob (w.heap.size + 1) (lrec fn a.tmps ps assign body w.heap.size .ready) :: Res.ob w.heap.size (.deferred (some [])) :: L) ++ []) w0 := St.sep.1 hb0
        rw [List.append_nil] at hb1
        refine ⟨⟨?_, ?_, hb1.sat.hok, hb1.sat.hlt, hb1.sat.hdj, ?_⟩, hb1.stp, hb1.hsub, ?_⟩
        · intro r hr
          rcases List.mem_append.1 hr with hr | hr
          · exact hb1.sat.gok r (List.mem_append.2 (.inl hr))
          · exact (hb1.sat.gok (Res.all Γ) (List.mem_append.2 (.inr (.head _)))) r hr
        · intro r hr k hk
          rcases List.mem_append.1 hr with hr | hr
          · exact hb1.sat.glt r (List.mem_append.2 (.inl hr)) k hk
          · exact hb1.sat.glt (Res.all Γ) (List.mem_append.2 (.inr (.head _))) k ⟨r, hr, hk⟩
        · intro r hr s hs' k hk hk'
          rcases List.mem_append.1 hr with hr | hr
          · exact hb1.sat.ghd r (List.mem_append.2 (.inl hr)) s hs' k hk hk'
          · exact hb1.sat.ghd (Res.all Γ) (List.mem_append.2 (.inr (.head _))) s hs' k ⟨r, hr, hk⟩ hk'
        · rintro k ⟨r, hr, hk⟩
          rcases List.mem_append.1 hr with hr | hr
          · exact hb1.gsub k ⟨r, List.mem_append.2 (.inl hr), hk⟩
          · exact hb1.gsub k ⟨Res.all Γ, List.mem_append.2 (.inr (.head _)), r, hr, hk⟩
      have hl := Res.ob_ok.1 (hl0.sat.hok _ (.head _))
      have hy := run_yield (P := P) (args := vs.toArray) hl (by simpa using hps k vs Γy y hok)
      refine ⟨fn, _, assign, body, hy, roundIn_of_wpIn (F := FW none) trivial ?_⟩
      have h5 := hround (w.heap.size + 1) w.heap.size fn a.tmps w0 k vs Γy y L hok hL _ w0 (he.round hlt hnd) hl0
      have hu2 : ∀ b : Act, (⟨some (w.heap.size + 1), []⟩ : Md).up b = b := fun b => by simp [Md.up]
      rw [hu2] at h5
      exact h5)
    have h6 : St C (Res.all Γ :: Γ) ([rfR fn a.tmps ps assign body (w.heap.size + 1) w.heap.size I0] ++ G) _ := h4
    have hl2 : Lends (Γi ++ [Res.all Γ]) (G ++ (Res.all Γ :: Γ)) := by
      have hmono : ∀ {l : RL} {A B : RL}, Lends l A → (∀ r, Lend r A → Lend r B) → Lends l B := by
        intro l A B h hAB
        induction h with
        | nil => exact .nil _
        | cons r l A h1 _ ih => exact .cons _ _ _ (hAB _ h1) (ih hAB)
      have ins : ∀ (A : RL) (r : Res), Lend r (A ++ Γ) → Lend r (A ++ (Res.all Γ :: Γ)) := by
        intro A
        induction A with
        | nil => intro r h; exact Lend.there _ _ _ h
        | cons s A ih =>
          intro r h
          cases h with
          | same => exact Lend.same _ _
          | row => exact Lend.row _ _ _ _ _ _ (by assumption)
          | there _ _ _ h => exact Lend.there _ _ _ (ih _ h)
      have one : ∀ (A : RL), Lend (Res.all Γ) (A ++ (Res.all Γ :: Γ)) := by
        intro A
        induction A with
        | nil => exact .same _ _
        | cons s A ih => exact Lend.there _ _ _ ih
      have app : ∀ {l : RL} {A : RL} {r : Res}, Lends l A → Lend r A → Lends (l ++ [r]) A := by
        intro l A r h hr
        induction h with
        | nil => exact .cons _ _ _ hr (.nil _)
        | cons s l A h1 _ ih => exact .cons _ _ _ h1 (ih hr)
      exact app (hmono hg (ins G)) (one G)
    refine Calls.mono (hc _ (h6.sat.lend hl2)) ?_
    rintro e w' ⟨v, Γ', H', rfl, ⟨_, rfl, xf, _, hxf, ⟨L, hL, rfl⟩, rfl⟩, hst'⟩
    have hst2 : St ⟨W1, [], [rfR fn a.tmps ps assign body (w.heap.size + 1) w.heap.size I0]⟩ [] [rfR fn a.tmps ps assign body (w.heap.size + 1) w.heap.size L] w' := by
      refine ⟨⟨by simp, by simp, hst'.sat.hok, hst'.sat.hlt, hst'.sat.hdj, by simp⟩, hst'.stp, hst'.hsub, ?_⟩
      rintro k ⟨r, hr, _⟩
      cases hr
    have h7 := h6.frame (Γc := []) (by simp) hst2
    have h8 : St C (Res.all Γ :: Γ) ((Res.ob (w.heap.size + 1) (lrec fn a.tmps ps assign body w.heap.size .ready) :: Res.ob w.heap.size (.deferred (some [])) :: L) ++ G) w' := St.sep.1 (by unfold rfR at h7; simpa using h7)
    have hl := Res.ob_ok.1 (h8.sat.hok _ (.head _))
    have h9 := (show St C (Res.all Γ :: Γ) (Res.ob (w.heap.size + 1) (lrec fn a.tmps ps assign body w.heap.size .ready) :: ((Res.ob w.heap.size (.deferred (some [])) :: L) ++ G)) w' from h8).putOb (o' := lrec fn a.tmps ps assign body w.heap.size .exhausted)
    have h10 := (h9.perm (List.perm_append_singleton (Res.ob (w.heap.size + 1) (lrec fn a.tmps ps assign body w.heap.size .exhausted)) _).symm).weak (Γ' := Γ) (fun r h => .tail _ h)
    refine ⟨none, _, run_endLoop hl (by simp), ?_⟩
    have h11 := hnext w.heap.size xf L hxf hL (fun c a w hq => hn.np c _ w hq) a _ he h10
    unfold QU Md.up at h11
    rw [he.nd] at h11 ⊢
    exact h11
end
end Go.Proofs.YthfipbjmpeegbaaGreatDoor

/- Keys of a map, as_ they come by a range over maps.Keys. No program in sight. -/
namespace Go.Proofs.YthfipbjmpeegbaaGreatDoor
open Go.RowKit
set_option linter.unusedVariables false
theorem walkLen {α β : Type} [DecidableEq α] {m : MM α β} {p : List (α × β × Nat)} (hw : m.Walk p) : p.length ≤ m.es.length := by
  obtain ⟨hn, hs⟩ := hw
  generalize m.es = l at hs
  induction p generalizing l with
  | nil => exact Nat.zero_le _
  | cons a p ih =>
    rw [List.nodup_cons] at hn
    have h1 : a ∈ l := hs a (.head _)
    obtain ⟨l1, l2, rfl⟩ := List.append_of_mem h1
    have h2 := ih hn.2 (l1 ++ l2) fun e he => by
      have h3 := hs e (.tail _ he)
      have h4 : e ≠ a := fun h => hn.1 (h ▸ he)
      simp only [List.mem_append, List.mem_cons] at h3 ⊢
      rcases h3 with h | h | h
      · exact .inl h
      · exact absurd h h4
      · exact .inr h
    simp only [List.length_cons, List.length_append] at h2 ⊢
    omega
/-- A piece of bytes as_ an element. -/
abbrev slV : Value × List (BitVec 8) → Value := fun x => x.1
/-- What a round of it brings: one entry more. -/
def kOk {α β : Type} [DecidableEq α] (f : α → Value) (m : MM α β) (p : List (α × β × Nat)) (vs : List Value) (Γy : RL) (y : List (α × β × Nat)) : Prop := ∃ e, m.Walk (p ++ [e]) ∧ vs = [f e.1] ∧ Γy = [] ∧ y = p ++ [e]
end Go.Proofs.YthfipbjmpeegbaaGreatDoor

/- Numbers of four words, as_ the walks want them. -/
namespace Go.Proofs.YthfipbjmpeegbaaGreatDoor
open Go.RowKit
/-- One bit taken in: what is left, and whether it went. -/
def brF (r m t : Nat) : Nat := if m ≤ 2 * r + t then 2 * r + t - m else 2 * r + t
def brG (r m t : Nat) : Nat := if m ≤ 2 * r + t then 1 else 0

theorem cmp_ge (a b : Nat) : cmpN a b ≥ 0 ↔ b ≤ a := by unfold cmpN; split <;> (try split) <;> omega
/-- The sum of stakes. -/
def totN (l : List W64) : Nat := (l.map BitVec.toNat).sum % 115792089237316195423570985008687907853269984665640564039457584007913129639936
theorem tot_lt (l : List W64) : totN l < 115792089237316195423570985008687907853269984665640564039457584007913129639936 := Nat.mod_lt _ (by decide)
theorem w_lt (x : W64) : x.toNat < 115792089237316195423570985008687907853269984665640564039457584007913129639936 := by have := x.isLt; omega
theorem tot_succ {l : List W64} {x : Nat} (h : x < l.length) : wd (totN (l.take x) + (l.getD x 0).toNat) = wd (totN (l.take (x + 1))) := by
  rw [← wd_mod]
  congr 1
  unfold totN
  rw [List.take_add_one, List.getElem?_eq_getElem h, List.getD_eq_getElem?_getD, List.getElem?_eq_getElem h]
  simp only [Option.toList_some, Option.getD_some, List.map_append, List.map_cons, List.map_nil, List.sum_append_nat, List.sum_cons, List.sum_nil]
  omega
theorem tot_0 (l : List W64) : totN (l.take 0) = 0 := by simp [totN]
attribute [irreducible] brF brG totN
end Go.Proofs.YthfipbjmpeegbaaGreatDoor

/- Numbers of eight words: products. No program in sight. -/
namespace Go.Proofs.YthfipbjmpeegbaaGreatDoor
open Go.RowKit
def val : List W64 → Nat
  | [] => 0
  | x :: l => x.toNat + 18446744073709551616 * val l
theorem val_set : ∀ (ws : List W64) (k : Nat) (x : W64), k < ws.length → val (ws.set k x) + (ws.getD k 0).toNat * 18446744073709551616 ^ k = val ws + x.toNat * 18446744073709551616 ^ k
  | [], k, x, h => by simp at h
  | w :: ws, 0, x, _ => by simp [val]; omega
  | w :: ws, k + 1, x, h => by
    have ih := val_set ws k x (by simpa using h)
    simp only [List.set_cons_succ, val, List.getD_cons_succ, Nat.pow_succ]
    have h1 : ∀ a b c d : Nat, a + c * b = d → ∀ B, B * a + c * (b * B) = B * d := fun a b c d e B => by rw [← e, Nat.mul_add]; congr 1; rw [← Nat.mul_assoc, Nat.mul_comm]
    have e1 := h1 _ _ _ _ ih 18446744073709551616
    rw [Nat.mul_add] at e1
    have e2 : 18446744073709551616 * (x.toNat * 18446744073709551616 ^ k) = x.toNat * (18446744073709551616 ^ k * 18446744073709551616) := by rw [Nat.mul_left_comm, Nat.mul_comm 18446744073709551616]
    omega
def wd8 (n : Nat) : List W64 := (List.range 8).map fun j => BitVec.ofNat 64 (n / 18446744073709551616 ^ j)
@[simp] theorem wd8_len (n : Nat) : (wd8 n).length = 8 := rfl
theorem val_get : ∀ (ws : List W64) (k : Nat), k < ws.length → BitVec.ofNat 64 (val ws / 18446744073709551616 ^ k) = ws.getD k 0
  | [], k, h => by simp at h
  | w :: ws, 0, _ => by
    apply BitVec.eq_of_toNat_eq
    simp only [val, Nat.pow_zero, Nat.div_one, BitVec.toNat_ofNat, List.getD_cons_zero]
    have := w.isLt
    omega
  | w :: ws, k + 1, h => by
    have ih := val_get ws k (by simpa using h)
    rw [List.getD_cons_succ, ← ih, Nat.pow_succ, Nat.mul_comm, ← Nat.div_div_eq_div_mul]
    congr 2
    simp only [val]
    have := w.isLt
    omega
theorem val_wd8 {ws : List W64} (h : ws.length = 8) : ws = wd8 (val ws) := by
  apply List.ext_getElem (by rw [h, wd8_len])
  intro i h1 h2
  have := val_get ws i h1
  simp only [List.getD_eq_getElem?_getD, List.getElem?_eq_getElem h1, Option.getD_some] at this
  rw [← this]
  simp [wd8]
theorem wd8_take (n : Nat) : (wd8 n).take 4 = wd n := by
  simp [wd8, wd, List.range_succ]
def mlo (x y w c : W64) : W64 := BitVec.ofNat 64 (x.toNat * y.toNat + w.toNat + c.toNat)
def mhi (x y w c : W64) : W64 := BitVec.ofNat 64 ((x.toNat * y.toNat + w.toNat + c.toNat) / 18446744073709551616)
theorem mlo_eq (x y w c : W64) : x * y + w + 0#64 + c + 0#64 = mlo x y w c := by
  apply BitVec.eq_of_toNat_eq
  simp only [mlo, BitVec.toNat_add, BitVec.toNat_mul, BitVec.toNat_ofNat]
  generalize x.toNat * y.toNat = m
  omega
theorem mul_bd (x y : W64) : x.toNat * y.toNat ≤ 340282366920938463426481119284349108225 := Nat.mul_le_mul (show x.toNat ≤ 18446744073709551615 by omega) (show y.toNat ≤ 18446744073709551615 by omega)
theorem mhi_eq (x y w c : W64) : BitVec.ofNat 64 (x.toNat * y.toNat / 18446744073709551616) + BitVec.ofNat 64 (((x * y).toNat + w.toNat + (0#64).toNat) / 18446744073709551616) + BitVec.ofNat 64 (((x * y + w + 0#64).toNat + c.toNat + (0#64).toNat) / 18446744073709551616) = mhi x y w c := by
  apply BitVec.eq_of_toNat_eq
  have hb := mul_bd x y
  simp only [mhi, BitVec.toNat_add, BitVec.toNat_mul, BitVec.toNat_ofNat]
  generalize x.toNat * y.toNat = m at *
  omega
theorem m_split (x y w c : W64) : (mlo x y w c).toNat + (mhi x y w c).toNat * 18446744073709551616 = x.toNat * y.toNat + w.toNat + c.toNat := by
  have hb := mul_bd x y
  simp only [mlo, mhi, BitVec.toNat_ofNat]
  generalize x.toNat * y.toNat = m at *
  omega
theorem pw_eq (i : Nat) : pw i = 18446744073709551616 ^ i := by rw [pw, show (18446744073709551616 : Nat) = 2 ^ 64 from rfl, ← Nat.pow_mul]
theorem mod_pw_succ (a : Nat) {i : Nat} (h : i < 4) : a % pw (i + 1) = a % pw i + (wat a i).toNat * pw i := by
  rw [wat_nat a i h, show (2 : Nat) ^ (64 * i) = pw i from rfl, pw_succ, Nat.mod_mul]
  rw [Nat.mul_comm (pw i)]
/-- What a product's words are, i rows and j words of a row being done; c is to be carried. -/
def MulI (a b i j : Nat) (c : W64) (ws : List W64) : Prop :=
  ws.length = 8 ∧ val ws + c.toNat * pw (i + j) = (a % pw i) * b + (wat a i).toNat * (b % pw j) * pw i ∧ ∀ k, i + 4 ≤ k → k < 8 → ws.getD k 0 = 0
theorem MulI.step {a b i j : Nat} {c : W64} {ws : List W64} (h : MulI a b i j c ws) (hi : i < 4) (hj : j < 4) :
    MulI a b i (j + 1) (mhi (wat a i) (wat b j) (ws.getD (i + j) 0) c) (ws.set (i + j) (mlo (wat a i) (wat b j) (ws.getD (i + j) 0) c)) := by
  obtain ⟨h1, h2, h3⟩ := h
  refine ⟨by simp [h1], ?_, fun k hk hk8 => ?_⟩
  · have hs := val_set ws (i + j) (mlo (wat a i) (wat b j) (ws.getD (i + j) 0) c) (by omega)
    have hm := m_split (wat a i) (wat b j) (ws.getD (i + j) 0) c
    have e1 : pw (i + (j + 1)) = pw (i + j) * 18446744073709551616 := by rw [← Nat.add_assoc, pw_succ]
    have e2 : pw (i + j) = pw i * pw j := by rw [pw_eq, pw_eq, pw_eq, Nat.pow_add]
    rw [← pw_eq] at hs
    rw [mod_pw_succ b hj, e1]
    generalize mlo (wat a i) (wat b j) (ws.getD (i + j) 0) c = lo at *
    generalize mhi (wat a i) (wat b j) (ws.getD (i + j) 0) c = hi' at *
    generalize (wat a i).toNat = x at *
    generalize (wat b j).toNat = y at *
    generalize (ws.getD (i + j) 0).toNat = w at *
    generalize c.toNat = cc at *
    have e3 : (lo.toNat + hi'.toNat * 18446744073709551616) * pw (i + j) = (x * y + w + cc) * pw (i + j) := by rw [hm]
    simp only [Nat.add_mul, Nat.mul_add] at e3 ⊢
    have e4 : hi'.toNat * (pw (i + j) * 18446744073709551616) = hi'.toNat * 18446744073709551616 * pw (i + j) := by rw [Nat.mul_assoc, Nat.mul_comm 18446744073709551616]
    have e5 : x * (y * pw j) * pw i = x * y * pw (i + j) := by rw [e2, ← Nat.mul_assoc x y, Nat.mul_assoc, Nat.mul_comm (pw j)]
    rw [e4, e5]
    omega
  · rw [List.getD_eq_getElem?_getD, List.getElem?_set_ne (by omega), ← List.getD_eq_getElem?_getD]
    exact h3 k hk hk8
theorem MulI.start (a b : Nat) {i : Nat} {ws : List W64} (h1 : ws.length = 8) (h2 : val ws = (a % pw i) * b) (h3 : ∀ k, i + 4 ≤ k → k < 8 → ws.getD k 0 = 0) : MulI a b i 0 0 ws :=
  ⟨h1, by simp [h2, pw_0, Nat.mod_one], h3⟩
theorem MulI.row {a b i : Nat} {c : W64} {ws : List W64} (h : MulI a b i 4 c ws) (hb : b < 115792089237316195423570985008687907853269984665640564039457584007913129639936) (hi : i < 4) : (ws.set (i + 4) c).length = 8 ∧ val (ws.set (i + 4) c) = (a % pw (i + 1)) * b ∧ ∀ k, i + 1 + 4 ≤ k → k < 8 → (ws.set (i + 4) c).getD k 0 = 0 := by
  obtain ⟨h1, h2, h3⟩ := h
  refine ⟨by simp [h1], ?_, fun k hk hk8 => ?_⟩
  · have hs := val_set ws (i + 4) c (by omega)
    rw [h3 (i + 4) (Nat.le_refl _) (by omega), ← pw_eq] at hs
    rw [pw_4, Nat.mod_eq_of_lt hb] at h2
    rw [mod_pw_succ a hi, Nat.add_mul]
    have e : (wat a i).toNat * pw i * b = (wat a i).toNat * b * pw i := by rw [Nat.mul_assoc, Nat.mul_assoc, Nat.mul_comm b]
    rw [e]
    simp at hs
    omega
  · rw [List.getD_eq_getElem?_getD, List.getElem?_set_ne (by omega), ← List.getD_eq_getElem?_getD]
    exact h3 k (by omega) hk8
theorem cmp_gt (a b : Nat) : cmpN a b > 0 ↔ b < a := by unfold cmpN; split <;> (try split) <;> omega
section
variable {P : Program} {N : Nat} {C : Beg} {E : Env} {Γ H : RL} {ty : TypeId}
/-- The array that a slice begins with. -/
theorem Yv.s2a {T e m b o n c : Nat} {x : Operand} (hT : P.underlying T = some (.array m e)) (hx : ev E x = some (.slice (some ⟨b, o, none⟩) n c)) (h : m ≤ n) : Yv P N C E Γ H (.sliceToArrayPointer T x) ty (ptr b o) := by
  intro dst pos aft gd a w he _
  have : ¬ n < m := by omega
  simp [execOp, he.ev hx, Instr.arrayAt, underlying, hT, this]
end
end Go.Proofs.YthfipbjmpeegbaaGreatDoor

/- Votes: what a tally holds, sums over it, quorums. No program in sight. -/
namespace Go.Proofs.YthfipbjmpeegbaaGreatDoor
open Go.RowKit
set_option linter.unusedVariables false
set_option linter.unusedSimpArgs false
def sumS (S : List W64) : Nat := (S.map BitVec.toNat).sum
def stk (S : List W64) (i : Int) : Nat := (S.getD i.toNat 0).toNat
abbrev VE := Int × D32 × Nat
def gsum (w : VE → Nat) (es : List VE) : Nat := (es.map w).sum
def forW (S : List W64) (v : D32) (e : VE) : Nat := if e.2.1 = v then stk S e.1 else 0
structure TOk (S : List W64) (m : MM Int D32) : Prop where
  ok : m.Ok
  rng : ∀ e ∈ m.es, 0 ≤ e.1 ∧ e.1 < S.length
/-- Sums by who votes. -/
def byN (S : List W64) (q : Nat → Bool) : Nat := ((List.range S.length).map fun i => if q i then (S.getD i 0).toNat else 0).sum
theorem stk0 (S : List W64) (i : Nat) : S.getD i 0 = 0#64 ↔ stk S (i : Int) = 0 :=
  ⟨fun h => by simp only [stk, Int.toNat_natCast, h]; rfl, fun h => BitVec.eq_of_toNat_eq (by simpa [stk] using h)⟩
theorem gsum_snoc (w : VE → Nat) (p : List VE) (e : VE) : gsum w (p ++ [e]) = gsum w p + w e := by simp [gsum]
theorem gsum_perm {w : VE → Nat} {p q : List VE} (h : p.Perm q) : gsum w p = gsum w q := (h.map w).sum_nat
theorem sum_upd (f : Nat → Nat) (k a : Nat) : ∀ n, k < n → ((List.range n).map fun i => if i = k then a else f i).sum + f k = ((List.range n).map f).sum + a
  | 0, h => absurd h (by omega)
  | n + 1, h => by
    rw [List.range_succ, List.map_append, List.map_append, List.sum_append, List.sum_append]
    by_cases hk : k = n
    · subst hk
      have : (List.range k).map (fun i => if i = k then a else f i) = (List.range k).map f := List.map_congr_left fun i hi => if_neg (by have := List.mem_range.1 hi; omega)
      simp [this]
      omega
    · have := sum_upd f k a n (by omega)
      simp [Ne.symm hk]
      omega
theorem gsum_by {S : List W64} (w : Option D32 → Bool) (hw : w none = false) : ∀ (es : List VE), (es.map (·.1)).Nodup → (∀ e ∈ es, 0 ≤ e.1 ∧ e.1 < S.length) →
    gsum (fun e => if w (some e.2.1) then stk S e.1 else 0) es = byN S fun i => w (MM.findL es (i : Int))
  | [], _, _ => by
    have : ∀ l : List Nat, (l.map fun _ => 0).sum = 0 := fun l => by
      induction l with
      | nil => rfl
      | cons a l ih => simpa using ih
    simp [gsum, byN, MM.findL, hw, this]
  | e :: es, hn, hr => by
    simp only [List.map_cons, List.nodup_cons] at hn
    obtain ⟨h0, h1⟩ := hr e (.head _)
    have ih := gsum_by w hw es hn.2 fun x hx => hr x (.tail _ hx)
    have h2 := sum_upd (fun i => if w (MM.findL es (i : Int)) then (S.getD i 0).toNat else 0) e.1.toNat (if w (some e.2.1) then stk S e.1 else 0) S.length (by omega)
    have hz : MM.findL es ((e.1.toNat : Nat) : Int) = none := by
      cases hf : MM.findL es ((e.1.toNat : Nat) : Int) with
      | none => rfl
      | some v =>
        obtain ⟨c, hc⟩ := (MM.mem_findL hn.2).1 hf
        exact absurd (List.mem_map.2 ⟨_, hc, by show ((e.1.toNat : Nat) : Int) = e.1; omega⟩) hn.1
    have h3 : byN S (fun i => w (MM.findL (e :: es) (i : Int))) = ((List.range S.length).map fun i => if i = e.1.toNat then (if w (some e.2.1) then stk S e.1 else 0) else if w (MM.findL es (i : Int)) then (S.getD i 0).toNat else 0).sum := by
      unfold byN
      congr 1
      refine List.map_congr_left fun i hi => ?_
      by_cases hi : i = e.1.toNat
      · have hf : MM.findL (e :: es) (i : Int) = some e.2.1 := by simp only [MM.findL]; exact if_pos (by omega)
        rw [if_pos hi]
        simp only [hf, stk, ← hi]
      · have hf : MM.findL (e :: es) (i : Int) = MM.findL es (i : Int) := by simp only [MM.findL]; exact if_neg (by omega)
        simp only [hf, if_neg hi]
    rw [h3]
    simp only [hz, hw, Bool.false_eq_true, if_false, Nat.add_zero] at h2
    have h5 : byN S (fun i : Nat => w (MM.findL es (i : Int))) = ((List.range S.length).map fun i : Nat => if w (MM.findL es (i : Int)) then (S.getD i 0).toNat else 0).sum := rfl
    have h4 : gsum (fun e => if w (some e.2.1) then stk S e.1 else 0) (e :: es) = (if w (some e.2.1) then stk S e.1 else 0) + gsum (fun e => if w (some e.2.1) then stk S e.1 else 0) es := rfl
    rw [h4, ih, h5]
    omega
def forA (S : List W64) (g : Int → Option D32) (v : D32) : Nat := byN S fun i => decide (g i = some v)
theorem for_by {S : List W64} {m : MM Int D32} (h : TOk S m) (v : D32) : gsum (forW S v) m.es = forA S m.get v := by
  rw [forA, show (fun i : Nat => decide (m.get i = some v)) = fun i : Nat => (fun o => decide (o = some v)) (MM.findL m.es (i : Int)) from rfl, ← gsum_by (fun o => decide (o = some v)) rfl m.es h.ok.nk h.rng]
  congr 1
  funext e
  simp [forW]
theorem byN_mono {S : List W64} {p q : Nat → Bool} (h : ∀ i, i < S.length → p i = true → q i = true) : byN S p ≤ byN S q := by
  unfold byN
  generalize hl : List.range S.length = l
  have hm : ∀ i ∈ l, i < S.length := fun i hi => by rw [← hl] at hi; exact List.mem_range.1 hi
  clear hl
  induction l with
  | nil => exact Nat.le_refl _
  | cons a l ih =>
    have := ih fun i hi => hm i (.tail _ hi)
    simp only [List.map_cons, List.sum_cons]
    have h1 := h a (hm a (.head _))
    by_cases hp : p a = true
    · rw [if_pos hp, if_pos (h1 hp)]; omega
    · rw [if_neg hp]; omega
theorem byN_or {S : List W64} (p q : Nat → Bool) : byN S (fun i => p i || q i) + byN S (fun i => p i && q i) = byN S p + byN S q := by
  have key : ∀ (x y : Bool) (n : Nat), (if (x || y) = true then n else 0) + (if (x && y) = true then n else 0) = (if x = true then n else 0) + if y = true then n else 0 := fun x y n => by cases x <;> cases y <;> simp
  unfold byN
  generalize List.range S.length = l
  induction l with
  | nil => rfl
  | cons a l ih =>
    have := key (p a) (q a) (S.getD a 0).toNat
    simp only [List.map_cons, List.sum_cons] at ih ⊢
    omega
theorem byN_all (S : List W64) : byN S (fun _ => true) = sumS S := by
  unfold byN sumS
  congr 1
  apply List.ext_getElem (by simp)
  intro i h1 h2
  simp at h1
  simp [List.getD_eq_getElem?_getD, h1]
theorem byN_le {S : List W64} (p : Nat → Bool) : byN S p ≤ sumS S := by rw [← byN_all]; exact byN_mono fun _ _ _ => rfl
/-- What a quorum is for. -/
def Quo (S : List W64) (g : Int → Option D32) (v : D32) : Prop := 2 * sumS S < 3 * forA S g v
def QuoR (S : List W64) (g : Int → Option D32) : Option D32 → Prop
  | some v => Quo S g v
  | none => ∀ v, ¬ Quo S g v
theorem forA_some {S : List W64} {g : Int → Option D32} {v : D32} (h : 0 < forA S g v) : ∃ i : Nat, i < S.length ∧ g i = some v := by
  apply Classical.byContradiction
  intro hn
  have : forA S g v ≤ byN S fun _ => false := byN_mono fun i hi hp => absurd ⟨i, hi, of_decide_eq_true hp⟩ hn
  have h0 : byN S (fun _ => false) = 0 := by
    unfold byN
    generalize List.range S.length = l
    induction l with
    | nil => rfl
    | cons a l ih => simpa using ih
  omega
theorem Quo.uniq {S : List W64} {g : Int → Option D32} {u v : D32} (hu : Quo S g u) (hv : Quo S g v) : u = v := by
  apply Classical.byContradiction
  intro hne
  have h1 := byN_or (S := S) (fun i => decide (g i = some u)) (fun i => decide (g i = some v))
  have h2 := byN_le (S := S) (fun i => decide (g i = some u) || decide (g i = some v))
  have h3 : byN S (fun i => decide (g i = some u) && decide (g i = some v)) ≤ byN S fun _ => false := byN_mono fun i _ hp => by
    simp at hp
    exact absurd (Option.some.inj (hp.1.symm.trans hp.2)) hne
  have h0 : byN S (fun _ => false) = 0 := by
    unfold byN
    generalize List.range S.length = l
    induction l with
    | nil => rfl
    | cons a l ih => simpa using ih
  unfold Quo forA at hu hv
  omega
theorem QuoR.uniq {S : List W64} {g : Int → Option D32} {o o' : Option D32} (h : QuoR S g o) (h' : QuoR S g o') : o = o' := by
  cases o <;> cases o'
  · rfl
  · exact absurd h' (h _)
  · exact absurd h (h' _)
  · rw [Quo.uniq h h']
theorem tok_put {S : List W64} {m : MM Int D32} (h : TOk S m) {k : Int} (v : D32) (h0 : 0 ≤ k) (h1 : k < S.length) : TOk S (m.put k v) := by
  refine ⟨MM.ok_put h.ok k v, fun e he => ?_⟩
  have hk := MM.ok_put h.ok k v
  have : (m.put k v).get e.1 = some e.2.1 := (MM.get_iff hk).2 ⟨e.2.2, he⟩
  rw [MM.get_put] at this
  split at this
  · rename_i e1; rw [e1]; exact ⟨h0, h1⟩
  · obtain ⟨c, hc⟩ := (MM.get_iff h.ok).1 this
    have h2 := h.rng _ hc
    exact h2
theorem tok_nil (S : List W64) : TOk S MM.nil := ⟨MM.ok_nil, by simp [MM.nil]⟩
/-- How a vote is answered. -/
def voteE (S : List W64) (g : Int → Option D32) (who : Int) (v : D32) : Int :=
  if who < 0 ∨ (S.length : Int) ≤ who then 1 else if stk S who = 0 then 51 else if g who = some v then 13 else if (g who).isSome then 52 else 0
theorem d32_neq (a b : D32) : (!decide (a.1 = b.1)) = decide (a ≠ b) := by rw [← decide_not]; exact decide_eq_decide.2 (not_congr Subtype.ext_iff.symm)
theorem d32_eq (a b : D32) : decide (a.1 = b.1) = decide (a = b) := decide_eq_decide.2 Subtype.ext_iff.symm
theorem totN_sum {S : List W64} (h : sumS S < 115792089237316195423570985008687907853269984665640564039457584007913129639936) : totN S = sumS S := by
  rw [totN]
  exact Nat.mod_eq_of_lt h
theorem walk_len {m : MM Int D32} {p : List VE} (hw : m.Walk p) : p.length ≤ m.es.length := by
  obtain ⟨hn, hs⟩ := hw
  generalize m.es = l at hs
  induction p generalizing l with
  | nil => exact Nat.zero_le _
  | cons a p ih =>
    rw [List.nodup_cons] at hn
    have ha := hs a (.head _)
    have h1 := List.perm_cons_erase ha
    have h2 := ih hn.2 (l.erase a) fun e he => by
      have := (h1.mem_iff).1 (hs e (.tail _ he))
      rcases List.mem_cons.1 this with rfl | h
      · exact absurd he hn.1
      · exact h
    have h3 := h1.length_eq
    simp only [List.length_cons] at h3 ⊢
    omega
theorem forA_le (S : List W64) (g : Int → Option D32) (v : D32) : forA S g v ≤ sumS S := byN_le _
def newE (S : List W64) : Int := if S.length < 1 ∨ 40 < S.length then 2 else if 9223372036854775808 ≤ totN S then 10 else 0
end Go.Proofs.YthfipbjmpeegbaaGreatDoor

/- Numbers as_ words and bytes, and what is written and read: the plain side. No program in sight. -/
namespace Go.Proofs.YthfipbjmpeegbaaGreatDoor
open Go.RowKit

abbrev W4 := List (BitVec 64)

theorem eq_of_getD {α : Type} {a b : List α} {d : α} (hl : a.length = b.length) (h : ∀ j, j < a.length → a.getD j d = b.getD j d) : a = b := by
  apply List.ext_getElem hl
  intro i h1 h2
  have := h i h1
  simpa [List.getD_eq_getElem?_getD, h1, h2] using this

def natV (ws : W4) : Value := .agg (ws.map u64).toArray
/-- Byte k of a number (0: the lowest one), of its words. -/
def byteOf (ws : W4) (k : Nat) : BitVec 8 := ((ws.getD (k / 8) 0) >>> (8 * (k % 8))).setWidth 8
/-- A number's bytes, the highest one first. -/
def natBytes (ws : W4) : B8 := (List.range 32).map fun j => byteOf ws (31 - j)
@[simp] theorem natBytes_length (ws : W4) : (natBytes ws).length = 32 := by simp [natBytes]
theorem natBytes_map (ws : W4) : (natBytes ws).map u8 = tab 32 (fun j => u8 (byteOf ws (31 - j))) := by
  simp [natBytes, tab, Function.comp_def]

@[simp] theorem natV_size (ws : W4) : (natV ws).cells.size = ws.length := by simp [natV, Value.cells]
/-- The digits that the document's numbers have, the first k of them filled in. -/
def dgw (ws : W4) (k : Nat) : List Value := tab 64 (fun i => if i < k then it ((byteOf ws i).toNat : Int) else it 0)
@[simp] theorem dgw_length (ws : W4) (k : Nat) : (dgw ws k).length = 64 := tab_len
/-- A word with one byte laid into it: as_ limb.Of does. -/
def putByte (ws : W4) (k : Nat) (c : BitVec 8) : W4 := ws.set (k / 8) (ws.getD (k / 8) 0 ||| (c.setWidth 64 <<< (8 * (k % 8))))
/-- limb.Of behind i bytes. -/
def ofUpto (b : B8) (i : Nat) : W4 := (List.range i).foldl (fun ws j => putByte ws (b.length - 1 - j) (b.getD j 0)) [0, 0, 0, 0]
def ofBytes (b : B8) : W4 := ofUpto b b.length
@[simp] theorem putByte_length (ws : W4) (k : Nat) (c : BitVec 8) : (putByte ws k c).length = ws.length := by simp [putByte]
@[simp] theorem ofUpto_length (b : B8) (i : Nat) : (ofUpto b i).length = 4 := by
  unfold ofUpto
  induction i with
  | zero => rfl
  | succ i ih => rw [List.range_succ, List.foldl_append]; simpa [putByte_length] using ih
theorem ofUpto_succ (b : B8) (i : Nat) : ofUpto b (i + 1) = putByte (ofUpto b i) (b.length - 1 - i) (b.getD i 0) := by
  simp [ofUpto, List.range_succ]
@[simp] theorem ofBytes_length (b : B8) : (ofBytes b).length = 4 := ofUpto_length b _

/-- How many bits a number has. -/
def bitlen (n : Nat) : Nat := if n = 0 then 0 else n.log2 + 1
theorem bitlen_le {n k : Nat} (h : n < 2 ^ k) : bitlen n ≤ k := by
  unfold bitlen
  split
  · exact Nat.zero_le _
  · rename_i h0
    exact (Nat.log2_lt h0).2 h
theorem lt_bitlen {n k : Nat} (h : 2 ^ k ≤ n) : k < bitlen n := by
  have h0 : n ≠ 0 := by have : 0 < 2 ^ k := Nat.two_pow_pos k; omega
  unfold bitlen
  rw [if_neg h0]
  have := (Nat.le_log2 h0).2 h
  omega
theorem bitlen_lt {n k : Nat} (h : bitlen n ≤ k) : n < 2 ^ k := by
  rcases Nat.lt_or_ge n (2 ^ k) with h1 | h1
  · exact h1
  · exact absurd (lt_bitlen h1) (by omega)
theorem bitlen_div {n k : Nat} (h : 2 ^ k ≤ n) : bitlen n = bitlen (n / 2 ^ k) + k := by
  have hp : 0 < 2 ^ k := Nat.two_pow_pos k
  have h1 : 1 ≤ n / 2 ^ k := (Nat.le_div_iff_mul_le hp).2 (by omega)
  have hm : 0 < bitlen (n / 2 ^ k) := lt_bitlen (k := 0) (by simpa using h1)
  apply Nat.le_antisymm
  · apply bitlen_le
    have := bitlen_lt (n := n / 2 ^ k) (Nat.le_refl _)
    rw [Nat.pow_add]
    exact (Nat.div_lt_iff_lt_mul hp).1 this
  · have h2 : 2 ^ (bitlen (n / 2 ^ k) - 1) ≤ n / 2 ^ k := by
      rcases Nat.lt_or_ge (n / 2 ^ k) (2 ^ (bitlen (n / 2 ^ k) - 1)) with h3 | h3
      · have := bitlen_le h3; omega
      · exact h3
    have h4 : 2 ^ (bitlen (n / 2 ^ k) - 1 + k) ≤ n := by
      rw [Nat.pow_add]
      exact Nat.le_trans (Nat.mul_le_mul_right _ h2) (Nat.div_mul_le_self _ _)
    have := lt_bitlen h4
    omega
def len64 (x : BitVec 64) : Nat := bitlen x.toNat
theorem len64_le (x : BitVec 64) : len64 x ≤ 64 := bitlen_le x.isLt

theorem len64_s32 {y : BitVec 64} (h : y.toNat ≥ 4294967296) : (len64 y : Int) = len64 (y >>> 32) + 32 := by
  have := bitlen_div (n := y.toNat) (k := 32) h
  unfold len64
  rw [BitVec.toNat_ushiftRight, Nat.shiftRight_eq_div_pow]
  show (bitlen y.toNat : Int) = bitlen (y.toNat / 2 ^ 32) + 32
  omega
theorem len64_s16 {y : BitVec 64} (h : y.toNat ≥ 65536) : (len64 y : Int) = len64 (y >>> 16) + 16 := by
  have := bitlen_div (n := y.toNat) (k := 16) h
  unfold len64
  rw [BitVec.toNat_ushiftRight, Nat.shiftRight_eq_div_pow]
  show (bitlen y.toNat : Int) = bitlen (y.toNat / 2 ^ 16) + 16
  omega
theorem len64_s8 {y : BitVec 64} (h : y.toNat ≥ 256) : (len64 y : Int) = len64 (y >>> 8) + 8 := by
  have := bitlen_div (n := y.toNat) (k := 8) h
  unfold len64
  rw [BitVec.toNat_ushiftRight, Nat.shiftRight_eq_div_pow]
  show (bitlen y.toNat : Int) = bitlen (y.toNat / 2 ^ 8) + 8
  omega
theorem shr32 (y : BitVec 64) : (y >>> 32).toNat = y.toNat / 4294967296 := by rw [BitVec.toNat_ushiftRight, Nat.shiftRight_eq_div_pow]
theorem shr16 (y : BitVec 64) : (y >>> 16).toNat = y.toNat / 65536 := by rw [BitVec.toNat_ushiftRight, Nat.shiftRight_eq_div_pow]
theorem shr8 (y : BitVec 64) : (y >>> 8).toNat = y.toNat / 256 := by rw [BitVec.toNat_ushiftRight, Nat.shiftRight_eq_div_pow]
def lenTab : List UInt8 := List.append (List.append [0, 1, 2, 2, 3, 3, 3, 3, 4, 4, 4, 4, 4, 4, 4, 4, 5, 5, 5, 5, 5, 5, 5, 5, 5, 5, 5, 5, 5, 5, 5, 5, 6, 6, 6, 6, 6, 6, 6, 6, 6, 6, 6, 6, 6, 6, 6, 6, 6, 6, 6, 6, 6, 6, 6, 6, 6, 6, 6, 6, 6, 6, 6, 6] [7, 7, 7, 7, 7, 7, 7, 7, 7, 7, 7, 7, 7, 7, 7, 7, 7, 7, 7, 7, 7, 7, 7, 7, 7, 7, 7, 7, 7, 7, 7, 7, 7, 7, 7, 7, 7, 7, 7, 7, 7, 7, 7, 7, 7, 7, 7, 7, 7, 7, 7, 7, 7, 7, 7, 7, 7, 7, 7, 7, 7, 7, 7, 7]) (List.append [8, 8, 8, 8, 8, 8, 8, 8, 8, 8, 8, 8, 8, 8, 8, 8, 8, 8, 8, 8, 8, 8, 8, 8, 8, 8, 8, 8, 8, 8, 8, 8, 8, 8, 8, 8, 8, 8, 8, 8, 8, 8, 8, 8, 8, 8, 8, 8, 8, 8, 8, 8, 8, 8, 8, 8, 8, 8, 8, 8, 8, 8, 8, 8] [8, 8, 8, 8, 8, 8, 8, 8, 8, 8, 8, 8, 8, 8, 8, 8, 8, 8, 8, 8, 8, 8, 8, 8, 8, 8, 8, 8, 8, 8, 8, 8, 8, 8, 8, 8, 8, 8, 8, 8, 8, 8, 8, 8, 8, 8, 8, 8, 8, 8, 8, 8, 8, 8, 8, 8, 8, 8, 8, 8, 8, 8, 8, 8])
set_option maxRecDepth 100000 in
theorem lenTab_all : ∀ j, j < 256 → (lenTab.getD j 0).toBitVec = BitVec.ofNat 8 (bitlen j) := by decide +kernel
set_option maxRecDepth 100000 in
theorem lenTab_get (j : Nat) (h : j < (⟨lenTab.toArray⟩ : ByteArray).size) : ((⟨lenTab.toArray⟩ : ByteArray)[j]'h).toBitVec = BitVec.ofNat 8 (bitlen j) := by
  have h0 : j < 256 := h
  rw [← lenTab_all j h0]
  have : ((⟨lenTab.toArray⟩ : ByteArray)[j]'h) = lenTab[j]'(by exact h) := rfl
  rw [this, List.getD_eq_getElem?_getD, List.getElem?_eq_getElem (by exact h)]
  rfl
theorem len8v (y : BitVec 64) (h : y.toNat < 256) : (((BitVec.ofNat 8 (bitlen (y.setWidth 8).toNat)).toNat : Nat) : Int) = len64 y := by
  have h1 : (y.setWidth 8).toNat = y.toNat := by rw [BitVec.toNat_setWidth]; omega
  have h2 := bitlen_le (n := y.toNat) (k := 8) h
  rw [h1, BitVec.toNat_ofNat]
  unfold len64
  omega

theorem fits8 {a : Int} (y : BitVec 8) (h : 0 ≤ a ∧ a ≤ 1000) : Fits (a + (y.toNat : Int)) := by
  have := y.isLt
  constructor <;> omega

/-- How many bytes a small number takes. -/
def nsz (n : BitVec 64) : Nat := (len64 n + 7) / 8
theorem nsz_le (n : BitVec 64) : nsz n ≤ 8 := by have := len64_le n; unfold nsz; omega
/-- The k low bytes of a word, the highest one first. -/
def digs (n : BitVec 64) (k : Nat) : B8 := (List.range k).map fun j => (n >>> (8 * (k - 1 - j))).setWidth 8
@[simp] theorem digs_length (n : BitVec 64) (k : Nat) : (digs n k).length = k := by simp [digs]
theorem digs_succ (n : BitVec 64) (k : Nat) : digs n (k + 1) = (n >>> (8 * k)).setWidth 8 :: digs n k := by
  simp only [digs, List.range_succ_eq_map, List.map_cons, List.map_map]
  congr 1
  apply List.map_congr_left
  intro j _
  simp only [Function.comp]
  rw [show k + 1 - 1 - (j + 1) = k - 1 - j by omega]
theorem natBytes_drop (n : BitVec 64) (k : Nat) (hk : k ≤ 8) : (natBytes [n, 0, 0, 0]).drop (32 - k) = digs n k := by
  apply List.ext_getElem (by simp; omega)
  intro j h1 h2
  simp at h2
  simp only [natBytes, digs, List.getElem_drop, List.getElem_map, List.getElem_range, byteOf]
  rw [show 31 - (32 - k + j) = k - 1 - j by omega, Nat.div_eq_of_lt (show k - 1 - j < 8 by omega), Nat.mod_eq_of_lt (show k - 1 - j < 8 by omega)]
  rfl
/-- A small number, written: how many bytes, and they. -/
def smallB (n : BitVec 64) : B8 := BitVec.ofNat 8 (nsz n) :: digs n (nsz n)
theorem smallB_length (n : BitVec 64) : (smallB n).length = nsz n + 1 := by simp [smallB]
theorem putD (n : BitVec 64) (k : Nat) : u8 ((n >>> (8 * k) % 256#64).setWidth 8) = u8 ((n >>> (8 * k)).setWidth 8) := by
  apply congrArg u8
  apply BitVec.eq_of_toNat_eq
  rw [BitVec.toNat_setWidth, BitVec.toNat_setWidth, BitVec.toNat_umod]
  show (n >>> (8 * k)).toNat % 256 % 256 = _
  omega
theorem shr_quo (n : BitVec 64) (k : Nat) : (n >>> (8 * k)) / 256#64 = n >>> (8 * (k + 1)) := by
  apply BitVec.eq_of_toNat_eq
  rw [BitVec.toNat_udiv, BitVec.toNat_ushiftRight, BitVec.toNat_ushiftRight, Nat.shiftRight_eq_div_pow, Nat.shiftRight_eq_div_pow]
  show n.toNat / 2 ^ (8 * k) / 2 ^ 8 = _
  rw [Nat.div_div_eq_div_mul, ← Nat.pow_add]
  congr 2
theorem shr_big (n : BitVec 64) (k : Nat) (h : n >>> (8 * k) ≠ 0) : k < 8 := by
  rcases Nat.lt_or_ge k 8 with h1 | h1
  · exact h1
  · refine absurd (BitVec.eq_of_toNat_eq ?_) h
    rw [BitVec.toNat_ushiftRight, Nat.shiftRight_eq_div_pow]
    have : n.toNat < 2 ^ (8 * k) := Nat.lt_of_lt_of_le n.isLt (Nat.pow_le_pow_right (by decide) (by omega))
    rw [Nat.div_eq_of_lt this]
    rfl
theorem nsz_of {n : BitVec 64} {k : Nat} (h : n >>> (8 * k) = 0) (h1 : k = 0 ∨ n >>> (8 * (k - 1)) ≠ 0) : nsz n = k := by
  have e : ∀ m, (n >>> m).toNat = n.toNat / 2 ^ m := fun m => by rw [BitVec.toNat_ushiftRight, Nat.shiftRight_eq_div_pow]
  have h2 : n.toNat / 2 ^ (8 * k) = 0 := by rw [← e, h]; rfl
  have h3 : n.toNat < 2 ^ (8 * k) := by
    rcases Nat.div_eq_zero_iff.1 h2 with h | h
    · have : 0 < 2 ^ (8 * k) := Nat.two_pow_pos _; omega
    · exact h
  have h4 := bitlen_le h3
  unfold nsz len64
  rcases h1 with h1 | h1
  · subst h1; omega
  · have h5 : 2 ^ (8 * (k - 1)) ≤ n.toNat := by
      rcases Nat.lt_or_ge n.toNat (2 ^ (8 * (k - 1))) with h | h
      · exact absurd (BitVec.eq_of_toNat_eq (by rw [e, Nat.div_eq_of_lt h]; rfl)) h1
      · exact h
    have := lt_bitlen h5
    omega

theorem smallB_le (n : BitVec 64) : (smallB n).length ≤ 9 := by have := nsz_le n; rw [smallB_length]; omega
theorem digs_cons (n : BitVec 64) (k : Nat) : [u8 ((n >>> (8 * k)).setWidth 8)] ++ (digs n k).map u8 = (digs n (k + 1)).map u8 := by rw [digs_succ]; rfl
/-- Bytes, written: how many, and they. -/
def bytesB (b : B8) : B8 := smallB (BitVec.ofNat 64 b.length) ++ b

def flatB (l : List W4) : B8 := l.flatMap natBytes
def natsB (l : List W4) : B8 := smallB (BitVec.ofNat 64 l.length) ++ flatB l
theorem flatB_len (l : List W4) : (flatB l).length = l.length * 32 := by
  induction l with
  | nil => rfl
  | cons a l ih => simp only [flatB, List.flatMap_cons, List.length_append, natBytes_length, List.length_cons] at ih ⊢; omega

/-! ### A reader: what is left, and the first error -/
structure Rdr where
  b : B8
  e : Int
namespace Rdr
def wrong (r : Rdr) (e : Int) : Rdr := if r.e = 0 then ⟨[], e⟩ else r
theorem wrong_ne {r : Rdr} {e : Int} (h : e ≠ 0) : (r.wrong e).e ≠ 0 := by unfold wrong; split <;> assumption
def chk (r : Rdr) (n : Nat) : Rdr := if r.b.length < n then r.wrong 3 else r
def out (r : Rdr) (n : Nat) : B8 := if (r.chk n).e = 0 then r.b.take n else []
def aft (r : Rdr) (n : Nat) : Rdr := if (r.chk n).e = 0 then ⟨r.b.drop n, 0⟩ else r.chk n
theorem chk_lt {r : Rdr} {n : Nat} (h : r.b.length < n) : r.chk n = r.wrong 3 := if_pos h
theorem chk_ge {r : Rdr} {n : Nat} (h : ¬ r.b.length < n) : r.chk n = r := if_neg h
theorem out_bad {r : Rdr} {n : Nat} (h : (r.chk n).e ≠ 0) : r.out n = [] := if_neg h
theorem aft_bad {r : Rdr} {n : Nat} (h : (r.chk n).e ≠ 0) : r.aft n = r.chk n := if_neg h
theorem out_ok {r : Rdr} {n : Nat} (h : ¬ r.b.length < n) (h0 : r.e = 0) : r.out n = r.b.take n := if_pos (by rw [chk_ge h]; exact h0)
theorem aft_ok {r : Rdr} {n : Nat} (h : ¬ r.b.length < n) (h0 : r.e = 0) : r.aft n = ⟨r.b.drop n, 0⟩ := if_pos (by rw [chk_ge h]; exact h0)
theorem out_le (r : Rdr) (n : Nat) : (r.out n).length ≤ n := by
  unfold out
  split
  · exact List.length_take_le _ _
  · exact Nat.zero_le _
theorem chk_ok {r : Rdr} {n : Nat} (h : (r.chk n).e = 0) : ¬ r.b.length < n ∧ r.e = 0 := by
  have h1 : ¬ r.b.length < n := fun h1 => absurd h (by rw [chk_lt h1]; exact wrong_ne (by decide))
  exact ⟨h1, by rw [← chk_ge h1]; exact h⟩
theorem aft_e {r : Rdr} {n : Nat} (h : (r.aft n).e = 0) : (r.chk n).e = 0 := by
  by_cases h1 : (r.chk n).e = 0
  · exact h1
  · rw [aft_bad h1] at h; exact absurd h h1
theorem out_len {r : Rdr} {n : Nat} (h : (r.aft n).e = 0) : (r.out n).length = n := by
  obtain ⟨h1, h2⟩ := chk_ok (aft_e h)
  rw [out_ok h1 h2, List.length_take]
  omega
/-- A small number: its bytes, what is left behind them. -/
def k8 (r : Rdr) : BitVec 8 := (r.out 1).getD 0 0
def smO (r : Rdr) : B8 := if r.k8.toNat ≤ 8 then (r.aft 1).out r.k8.toNat else []
def smR (r : Rdr) : Rdr := if r.k8.toNat ≤ 8 then (r.aft 1).aft r.k8.toNat else r.aft 1
def smF (r : Rdr) (lim : BitVec 64) : Rdr :=
  if r.smR.e ≠ 0 then r.smR else if r.k8.toNat > 8 then r.smR.wrong 31 else if 0 < r.k8.toNat ∧ r.smO.getD 0 0 = 0 then r.smR.wrong 31
  else if ((ofBytes r.smO).getD 0 0).toNat > lim.toNat then r.smR.wrong 2 else r.smR
def smA (r : Rdr) (lim : BitVec 64) : Rdr := if (r.out 1).length = 0 then r.aft 1 else r.smF lim
def sm (r : Rdr) (lim : BitVec 64) : BitVec 64 := if (r.out 1).length = 0 then 0 else if (r.smF lim).e ≠ 0 then 0 else (ofBytes r.smO).getD 0 0
theorem smO_le (r : Rdr) : r.smO.length ≤ 8 := by
  unfold smO
  split
  · exact Nat.le_trans (out_le _ _) (by assumption)
  · exact Nat.zero_le _
theorem smO_len {r : Rdr} (h : r.smR.e = 0) (h8 : ¬ r.k8.toNat > 8) : r.smO.length = r.k8.toNat := by
  have h8 : r.k8.toNat ≤ 8 := by omega
  unfold smR at h
  rw [if_pos h8] at h
  unfold smO
  rw [if_pos h8]
  exact out_len h
/-- How many there are. -/
def cntR (r : Rdr) (m : Int) : Rdr := if m < 0 then r.wrong 2 else r
def cnt (r : Rdr) (m : Int) : BitVec 64 := (r.cntR m).sm (BitVec.ofInt 64 m)
def cntA (r : Rdr) (m : Int) : Rdr := (r.cntR m).smA (BitVec.ofInt 64 m)
def byO (r : Rdr) (m : Int) : B8 := (r.cntA m).out (r.cnt m).toNat
def byA (r : Rdr) (m : Int) : Rdr := (r.cntA m).aft (r.cnt m).toNat
def go : Nat → List W4 → Rdr → List W4 × Rdr
  | 0, acc, r => (acc, r)
  | n + 1, acc, r => if (r.aft 32).e ≠ 0 then ([], r.aft 32) else go n (acc ++ [ofBytes (r.out 32)]) (r.aft 32)
def naO (r : Rdr) (m : Int) : List W4 := (go (r.cnt m).toNat [] (r.cntA m)).1
def naA (r : Rdr) (m : Int) : Rdr := (go (r.cnt m).toNat [] (r.cntA m)).2
/-- How it ended. -/
def fin (r : Rdr) : Int := if r.e = 0 ∧ 0 < r.b.length then 30 else r.e
theorem wrong_b (r : Rdr) (e : Int) : (r.wrong e).b.length ≤ r.b.length := by
  unfold wrong
  split
  · exact Nat.zero_le _
  · exact Nat.le_refl _
theorem chk_b (r : Rdr) (n : Nat) : (r.chk n).b.length ≤ r.b.length := by
  unfold chk
  split
  · exact wrong_b _ _
  · exact Nat.le_refl _
theorem aft_b (r : Rdr) (n : Nat) : (r.aft n).b.length ≤ r.b.length := by
  unfold aft
  split
  · show (r.b.drop n).length ≤ _
    rw [List.length_drop]; omega
  · exact chk_b _ _
theorem out_b (r : Rdr) (n : Nat) : (r.out n).length ≤ r.b.length := by
  unfold out
  split
  · rw [List.length_take]; omega
  · exact Nat.zero_le _
theorem smR_b (r : Rdr) : r.smR.b.length ≤ r.b.length := by
  unfold smR
  split
  · exact Nat.le_trans (aft_b _ _) (aft_b _ _)
  · exact aft_b _ _
theorem smF_b (r : Rdr) (lim : BitVec 64) : (r.smF lim).b.length ≤ r.b.length := by
  unfold smF
  have := smR_b r
  split
  · exact this
  · split
    · exact Nat.le_trans (wrong_b _ _) this
    · split
      · exact Nat.le_trans (wrong_b _ _) this
      · split
        · exact Nat.le_trans (wrong_b _ _) this
        · exact this
theorem smA_b (r : Rdr) (lim : BitVec 64) : (r.smA lim).b.length ≤ r.b.length := by
  unfold smA
  split
  · exact aft_b _ _
  · exact smF_b _ _
theorem cntA_b (r : Rdr) (m : Int) : (r.cntA m).b.length ≤ r.b.length := by
  unfold cntA
  refine Nat.le_trans (smA_b _ _) ?_
  unfold cntR
  split
  · exact wrong_b _ _
  · exact Nat.le_refl _
theorem byO_b (r : Rdr) (m : Int) : (r.byO m).length ≤ r.b.length := Nat.le_trans (out_b _ _) (cntA_b _ _)
theorem byA_b (r : Rdr) (m : Int) : (r.byA m).b.length ≤ r.b.length := Nat.le_trans (aft_b _ _) (cntA_b _ _)
end Rdr
theorem Rdr.go_bad {n : Nat} {acc : List W4} {r : Rdr} (h : (r.aft 32).e ≠ 0) : Rdr.go (n + 1) acc r = ([], r.aft 32) := if_pos h
theorem Rdr.go_ok {n : Nat} {acc : List W4} {r : Rdr} (h : (r.aft 32).e = 0) : Rdr.go (n + 1) acc r = Rdr.go n (acc ++ [ofBytes (r.out 32)]) (r.aft 32) := if_neg (not_not_intro h)
theorem rd_take {v : Value} {b : B8} {n : Nat} (h : ¬ b.length < n) : Res.rd v (n - 0) 1 (((b.map u8).drop (0 * 1)).take ((n - 0) * 1)) = Res.rd v (b.take n).length 1 ((b.take n).map u8) := by
  rw [Nat.zero_mul, List.drop_zero, Nat.mul_one, Nat.sub_zero, List.map_take, List.length_take, Nat.min_eq_left (by omega)]
theorem digs_inj {a b : BitVec 64} {k : Nat} (h : digs a k = digs b k) (ha : nsz a ≤ k) (hb : nsz b ≤ k) : a = b := by
  have top : ∀ n : BitVec 64, nsz n ≤ k → n.toNat < 2 ^ (8 * k) := fun n hn => by
    refine Nat.lt_of_lt_of_le (bitlen_lt (n := n.toNat) (Nat.le_refl _)) (Nat.pow_le_pow_right (by decide) ?_)
    unfold nsz len64 at hn
    omega
  apply BitVec.eq_of_getLsbD_eq
  intro i hi
  rcases Nat.lt_or_ge i (8 * k) with hk | hk
  · have hj : k - 1 - i / 8 < k := by omega
    have h1 := congrArg (fun l => l[k - 1 - i / 8]?) h
    simp only [digs, List.getElem?_map, List.getElem?_range hj, Option.map_some, Option.some.injEq] at h1
    have h2 := congrArg (fun x : BitVec 8 => x.getLsbD (i % 8)) h1
    simp only [BitVec.getLsbD_setWidth, BitVec.getLsbD_ushiftRight] at h2
    rw [show 8 * (k - 1 - (k - 1 - i / 8)) + i % 8 = i by omega] at h2
    simpa [show i % 8 < 8 by omega] using h2
  · have z : ∀ n : BitVec 64, n.toNat < 2 ^ (8 * k) → n.getLsbD i = false := fun n hn => by
      rw [BitVec.getLsbD, Nat.testBit_lt_two_pow]
      exact Nat.lt_of_lt_of_le hn (Nat.pow_le_pow_right (by decide) hk)
    rw [z a (top a ha), z b (top b hb)]
/-! ### What is asked; an error stays -/
structure Ask where
  act : Int
  most : Int
  lim : BitVec 64
def Ask.cells (a : Ask) : List Value := [it a.act, it a.most, u64 a.lim]
def stepR (r : Rdr) (a : Ask) : Rdr := if a.act = 1 then r.smA a.lim else if a.act = 2 then r.aft 32 else if a.act = 3 then r.byA a.most else if a.act = 4 then r.naA a.most else r
def noneB (r : Rdr) (a : Ask) : Bool :=
  if a.act = 1 then decide (r.sm a.lim = 0#64) else if a.act = 2 then decide (ofBytes (r.out 32) = [0, 0, 0, 0])
  else if a.act = 3 then decide (((r.byO a.most).length : Int) = 0) else if a.act = 4 then decide (((r.naO a.most).length : Int) = 0) else true
namespace Rdr
section
variable {r : Rdr} (h : r.e ≠ 0)
include h
theorem chk_st (n : Nat) : r.chk n = r := by
  unfold chk
  split
  · exact if_neg h
  · rfl
theorem out_st (n : Nat) : r.out n = [] := out_bad (by rw [chk_st h]; exact h)
theorem aft_st (n : Nat) : r.aft n = r := by rw [aft_bad (by rw [chk_st h]; exact h), chk_st h]
theorem sm_st (lim : BitVec 64) : r.sm lim = 0 := if_pos (by rw [out_st h]; rfl)
theorem smA_st (lim : BitVec 64) : r.smA lim = r := by rw [smA, if_pos (by rw [out_st h]; rfl), aft_st h]
theorem cntR_st (m : Int) : r.cntR m = r := by
  unfold cntR
  split
  · exact if_neg h
  · rfl
theorem cnt_st (m : Int) : r.cnt m = 0 := by rw [cnt, cntR_st h, sm_st h]
theorem cntA_st (m : Int) : r.cntA m = r := by rw [cntA, cntR_st h, smA_st h]
theorem byO_st (m : Int) : r.byO m = [] := by rw [byO, cntA_st h, out_st h]
theorem byA_st (m : Int) : r.byA m = r := by rw [byA, cntA_st h, aft_st h]
theorem naO_st (m : Int) : r.naO m = [] := by rw [naO, cnt_st h]; rfl
theorem naA_st (m : Int) : r.naA m = r := by rw [naA, cnt_st h, cntA_st h]; rfl
end
end Rdr
theorem stepR_st {r : Rdr} (h : r.e ≠ 0) (a : Ask) : stepR r a = r := by
  unfold stepR
  rw [Rdr.smA_st h, Rdr.aft_st h, Rdr.byA_st h, Rdr.naA_st h]
  simp
theorem noneB_st {r : Rdr} (h : r.e ≠ 0) (a : Ask) : noneB r a = true := by
  unfold noneB
  rw [Rdr.sm_st h, Rdr.out_st h, Rdr.byO_st h, Rdr.naO_st h]
  have : ofBytes [] = [0, 0, 0, 0] := rfl
  simp [this]
theorem stays {r : Rdr} {bad : Int} (h : bad ≠ 0 → r.e = bad) (hb : bad ≠ 0) (a : Ask) : (stepR r a).fin = bad ∧ noneB r a = true ∧ (stepR r a).e = bad := by
  have h1 : r.e ≠ 0 := by rw [h hb]; exact hb
  rw [stepR_st h1, Rdr.fin, if_neg (fun h2 => h1 h2.1)]
  exact ⟨h hb, noneB_st h1 a, h hb⟩
end Go.Proofs.YthfipbjmpeegbaaGreatDoor

/- Numbers, their bytes and bits; what is read is written so alone: the plain side. No program in sight. -/
namespace Go.Proofs.YthfipbjmpeegbaaGreatDoor
open Go.RowKit

/-- Bit p of a number, of its words. -/
def bitOf (ws : W4) (p : Nat) : Bool := (ws.getD (p / 64) 0).getLsbD (p % 64)
theorem bitOf_ext {a b : W4} (ha : a.length = 4) (hb : b.length = 4) (h : ∀ p, p < 256 → bitOf a p = bitOf b p) : a = b := by
  refine eq_of_getD (d := 0) (by omega) fun j hj => ?_
  apply BitVec.eq_of_getLsbD_eq
  intro i hi
  have := h (64 * j + i) (by omega)
  unfold bitOf at this
  rwa [show (64 * j + i) / 64 = j by omega, show (64 * j + i) % 64 = i by omega] at this
theorem bitOf_byteOf (ws : W4) (k i : Nat) (hi : i < 8) : (byteOf ws k).getLsbD i = bitOf ws (8 * k + i) := by
  unfold byteOf bitOf
  rw [BitVec.getLsbD_setWidth, BitVec.getLsbD_ushiftRight, show (8 * k + i) / 64 = k / 8 by omega, show (8 * k + i) % 64 = 8 * (k % 8) + i by omega]
  simp [hi]
theorem getD_set (ws : W4) (j k : Nat) (v : BitVec 64) (hj : j < ws.length) : (ws.set j v).getD k 0 = if j = k then v else ws.getD k 0 := by
  rw [List.getD_eq_getElem?_getD, List.getElem?_set, List.getD_eq_getElem?_getD, if_pos hj]
  split <;> rfl
theorem bitOf_put (ws : W4) (k p : Nat) (c : BitVec 8) (h4 : ws.length = 4) (hk : k < 32) : bitOf (putByte ws k c) p = (bitOf ws p || (decide (p / 8 = k) && c.getLsbD (p % 8))) := by
  unfold bitOf putByte
  rw [getD_set _ _ _ _ (by omega)]
  by_cases h : k / 8 = p / 64
  · rw [if_pos h, BitVec.getLsbD_or, BitVec.getLsbD_shiftLeft, BitVec.getLsbD_setWidth, h]
    congr 1
    by_cases h2 : p / 8 = k
    · have h5 : ¬ p % 64 < 8 * (k % 8) := by omega
      have h3 : p % 64 - 8 * (k % 8) = p % 8 := by omega
      simp only [h2, h5, h3, decide_true, decide_false, Bool.not_false, Bool.true_and, Bool.and_true]
      have h6 : p % 64 < 64 := by omega
      have h7 : p % 8 < 64 := by omega
      simp [h6, h7]
    · rw [decide_eq_false h2, Bool.false_and]
      by_cases h3 : p % 64 < 8 * (k % 8)
      · simp [h3]
      · have : 8 ≤ p % 64 - 8 * (k % 8) := by omega
        simp [BitVec.getLsbD_of_ge c _ this]
  · rw [if_neg h]
    have h2 : ¬ p / 8 = k := by omega
    simp [h2]
theorem bitOf_upto (b : B8) (hb : b.length ≤ 32) (p : Nat) : ∀ m, m ≤ b.length → bitOf (ofUpto b m) p = (decide (p / 8 < b.length ∧ b.length - 1 - p / 8 < m) && (b.getD (b.length - 1 - p / 8) 0).getLsbD (p % 8))
  | 0, _ => by
    have : ∀ q, bitOf [0, 0, 0, 0] q = false := fun q => by
      unfold bitOf
      match h : q / 64 with
      | 0 => simp
      | 1 => simp
      | 2 => simp
      | 3 => simp
      | n + 4 => simp
    rw [show ofUpto b 0 = [0, 0, 0, 0] from rfl, this]
    simp
  | m + 1, hm => by
    rw [ofUpto_succ, bitOf_put _ _ _ _ (ofUpto_length b m) (by omega), bitOf_upto b hb p m (by omega)]
    by_cases h : p / 8 = b.length - 1 - m
    · have h1 : b.length - 1 - p / 8 = m := by omega
      rw [h1, decide_eq_true h, decide_eq_false (show ¬ (p / 8 < b.length ∧ m < m) by omega), decide_eq_true (show p / 8 < b.length ∧ m < m + 1 by omega)]
      simp
    · rw [decide_eq_false h, Bool.false_and, Bool.or_false]
      congr 1
      exact decide_eq_decide.2 ⟨fun h1 => by omega, fun h1 => by omega⟩
theorem bitOf_ofBytes (b : B8) (hb : b.length ≤ 32) (p : Nat) : bitOf (ofBytes b) p = (decide (p / 8 < b.length) && (b.getD (b.length - 1 - p / 8) 0).getLsbD (p % 8)) := by
  rw [ofBytes, bitOf_upto b hb p _ (Nat.le_refl _)]
  congr 1
  exact decide_eq_decide.2 ⟨fun h1 => h1.1, fun h1 => ⟨h1, by omega⟩⟩
theorem ofBytes_natBytes (ws : W4) (h : ws.length = 4) : ofBytes (natBytes ws) = ws := by
  refine bitOf_ext (ofBytes_length _) h fun p hp => ?_
  rw [bitOf_ofBytes _ (by simp), natBytes_length, decide_eq_true (show p / 8 < 32 by omega), Bool.true_and]
  have h1 : (natBytes ws).getD (32 - 1 - p / 8) 0 = byteOf ws (p / 8) := by
    have : 32 - 1 - p / 8 < 32 := by omega
    rw [List.getD_eq_getElem?_getD]
    simp only [natBytes, List.getElem?_map, List.getElem?_range this, Option.map_some, Option.getD_some]
    congr 1
    omega
  rw [h1, bitOf_byteOf _ _ _ (by omega)]
  congr 1
  omega

/-! ### Short ones: in one word -/
def word0 (o : B8) : BitVec 64 := (ofBytes o).getD 0 0
theorem word0_bit (o : B8) (h : o.length ≤ 8) (i : Nat) (hi : i < 64) : (word0 o).getLsbD i = (decide (i / 8 < o.length) && (o.getD (o.length - 1 - i / 8) 0).getLsbD (i % 8)) := by
  have h1 := bitOf_ofBytes o (by omega) i
  unfold bitOf at h1
  rw [show i / 64 = 0 by omega, show i % 64 = i by omega] at h1
  exact h1
theorem digs_word0 (o : B8) (h : o.length ≤ 8) : digs (word0 o) o.length = o := by
  refine eq_of_getD (d := 0) (by simp) fun j hj => ?_
  rw [digs_length] at hj
  have h1 : (digs (word0 o) o.length).getD j 0 = (word0 o >>> (8 * (o.length - 1 - j))).setWidth 8 := by simp [digs, List.getD_eq_getElem?_getD, hj]
  rw [h1]
  apply BitVec.eq_of_getLsbD_eq
  intro i hi
  rw [BitVec.getLsbD_setWidth, BitVec.getLsbD_ushiftRight, word0_bit o h _ (by omega), show (8 * (o.length - 1 - j) + i) / 8 = o.length - 1 - j by omega, show (8 * (o.length - 1 - j) + i) % 8 = i by omega,
    show o.length - 1 - (o.length - 1 - j) = j by omega, decide_eq_true (show o.length - 1 - j < o.length by omega)]
  simp [hi]
theorem word0_top (o : B8) (h : o.length ≤ 8) : word0 o >>> (8 * o.length) = 0 := by
  apply BitVec.eq_of_getLsbD_eq
  intro i hi
  rw [BitVec.getLsbD_ushiftRight]
  by_cases h1 : 8 * o.length + i < 64
  · rw [word0_bit o h _ h1, decide_eq_false (by omega)]
    simp
  · rw [BitVec.getLsbD_of_ge _ _ (by omega)]
    simp
theorem nsz_word0 (o : B8) (h : o.length ≤ 8) (h0 : ¬ (0 < o.length ∧ o.getD 0 0 = 0)) : nsz (word0 o) = o.length := by
  refine nsz_of (word0_top o h) ?_
  rcases Nat.eq_zero_or_pos o.length with hz | hz
  · exact .inl hz
  · refine .inr fun he => h0 ⟨hz, ?_⟩
    have h1 := digs_word0 o h
    have h2 : (digs (word0 o) o.length).getD 0 0 = (word0 o >>> (8 * (o.length - 1 - 0))).setWidth 8 := by simp [digs, List.getD_eq_getElem?_getD, hz]
    rw [Nat.sub_zero, he, h1] at h2
    rw [h2]
    rfl
theorem smallB_word0 (o : B8) (h : o.length ≤ 8) (h0 : ¬ (0 < o.length ∧ o.getD 0 0 = 0)) : smallB (word0 o) = BitVec.ofNat 8 o.length :: o := by
  rw [smallB, nsz_word0 o h h0, digs_word0 o h]
theorem nsz_le_of_top {n : BitVec 64} {k : Nat} (h : n >>> (8 * k) = 0) : nsz n ≤ k := by
  have h2 : n.toNat / 2 ^ (8 * k) = 0 := by
    have := congrArg BitVec.toNat h
    rw [BitVec.toNat_ushiftRight, Nat.shiftRight_eq_div_pow] at this
    exact this
  have h3 : n.toNat < 2 ^ (8 * k) := by
    rcases Nat.div_eq_zero_iff.1 h2 with h | h
    · have : 0 < 2 ^ (8 * k) := Nat.two_pow_pos _; omega
    · exact h
  have h4 := bitlen_le h3
  unfold nsz len64
  omega
theorem word0_digs (n : BitVec 64) : word0 (digs n (nsz n)) = n := by
  have hl : (digs n (nsz n)).length = nsz n := digs_length n _
  have h8 : (digs n (nsz n)).length ≤ 8 := by rw [hl]; exact nsz_le n
  have h1 := digs_word0 _ h8
  have h2 := nsz_le_of_top (word0_top _ h8)
  rw [hl] at h1 h2
  exact digs_inj h1 h2 (Nat.le_refl _)

/-! ### What is read is written so alone -/
namespace Rdr
theorem aft_split {r : Rdr} {n : Nat} (h : (r.aft n).e = 0) : r.b = r.out n ++ (r.aft n).b := by
  obtain ⟨h1, h2⟩ := chk_ok (aft_e h)
  rw [out_ok h1 h2, aft_ok h1 h2]
  exact (List.take_append_drop _ _).symm
theorem back_small {r : Rdr} {lim : BitVec 64} (h : (r.smA lim).e = 0) : r.b = smallB (r.sm lim) ++ (r.smA lim).b := by
  have h0 : ¬ (r.out 1).length = 0 := fun h0 => by
    rw [smA, if_pos h0] at h
    rw [out_len h] at h0
    cases h0
  rw [smA, if_neg h0] at h
  have hs : r.smF lim = r.smR ∧ r.smR.e = 0 ∧ ¬ r.k8.toNat > 8 ∧ ¬ (0 < r.k8.toNat ∧ r.smO.getD 0 0 = 0) := by
    unfold smF at h ⊢
    by_cases c1 : r.smR.e ≠ 0
    · rw [if_pos c1] at h; exact absurd h c1
    · rw [if_neg c1] at h ⊢
      by_cases c2 : r.k8.toNat > 8
      · rw [if_pos c2] at h; exact absurd h (wrong_ne (by decide))
      · rw [if_neg c2] at h ⊢
        by_cases c3 : 0 < r.k8.toNat ∧ r.smO.getD 0 0 = 0
        · rw [if_pos c3] at h; exact absurd h (wrong_ne (by decide))
        · rw [if_neg c3] at h ⊢
          by_cases c4 : ((ofBytes r.smO).getD 0 0).toNat > lim.toNat
          · rw [if_pos c4] at h; exact absurd h (wrong_ne (by decide))
          · rw [if_neg c4]
            exact ⟨rfl, Decidable.not_not.1 c1, c2, c3⟩
  obtain ⟨hF, hR, h8, hz⟩ := hs
  have hl := smO_len hR h8
  have hm : r.sm lim = word0 r.smO := by rw [sm, if_neg h0, hF, if_neg (not_not_intro hR)]; rfl
  rw [smA, if_neg h0, hF, hm, smallB_word0 r.smO (by omega) (by rw [hl]; exact hz)]
  have hk : r.k8.toNat ≤ 8 := by omega
  have hR2 : r.smR = (r.aft 1).aft r.k8.toNat := if_pos hk
  have hO2 : r.smO = (r.aft 1).out r.k8.toNat := if_pos hk
  rw [hR2] at hR
  have hA : (r.aft 1).e = 0 := (chk_ok (aft_e hR)).2
  have e1 := aft_split hA
  have e2 := aft_split hR
  rw [e2, ← hO2, ← hR2] at e1
  have h1 : r.out 1 = [r.k8] := by
    have := out_len hA
    unfold k8
    match r.out 1, this with
    | [x], _ => rfl
  rw [h1] at e1
  rw [e1, hl]
  simp
theorem cnt_of {r : Rdr} {m : Int} (h : (r.cntA m).e = 0) : r.b = smallB (r.cnt m) ++ (r.cntA m).b := by
  have h1 := back_small (r := r.cntR m) (lim := BitVec.ofInt 64 m) h
  have h2 : r.cntR m = r := by
    unfold cntR
    split
    · rename_i h3
      have hne : (r.wrong 2).e ≠ 0 := wrong_ne (by decide)
      have h4 : r.cntR m = r.wrong 2 := if_pos h3
      rw [cntA, h4, smA_st hne] at h
      exact absurd h hne
    · rfl
  rw [h2] at h1
  exact (by rw [cnt, cntA, h2]; exact h1)
theorem ofNat_toNat (n : BitVec 64) : BitVec.ofNat 64 n.toNat = n := by simp
theorem back_bytes {r : Rdr} {m : Int} (h : (r.byA m).e = 0) : r.b = bytesB (r.byO m) ++ (r.byA m).b := by
  have h0 : (r.cntA m).e = 0 := (chk_ok (aft_e h)).2
  have e1 := cnt_of h0
  have e2 := aft_split h
  have hl : (r.byO m).length = (r.cnt m).toNat := out_len h
  rw [e2] at e1
  rw [bytesB, hl, ofNat_toNat, e1, List.append_assoc]
  rfl
end Rdr

/-! ### CodecAgain -/
theorem bytesB_len (b : B8) : (bytesB b).length ≤ b.length + 9 := by
  have := smallB_le (BitVec.ofNat 64 b.length)
  rw [bytesB, List.length_append]
  omega
theorem natsB_len (l : List W4) : (natsB l).length ≤ l.length * 32 + 9 := by
  have := smallB_le (BitVec.ofNat 64 l.length)
  rw [natsB, List.length_append, flatB_len]
  omega
theorem fin_0 {r : Rdr} (h : r.fin = 0) : r.e = 0 ∧ r.b = [] := by
  unfold Rdr.fin at h
  split at h
  · cases h
  · rename_i h1
    refine ⟨h, ?_⟩
    have : ¬ 0 < r.b.length := fun h2 => h1 ⟨h, h2⟩
    exact List.length_eq_zero_iff.1 (by omega)

/-! ### What is put -/
structure Put where
  act : Int
  n : BitVec 64
  a : W4
  bv : Value
  b : B8
  lv : Value
  l : List W4
namespace Put
def cells (d : Put) : List Value := [it d.act, u64 d.n] ++ d.a.map u64 ++ [d.bv, d.lv]
def ok (d : Put) : Prop := d.a.length = 4 ∧ ∀ ws ∈ d.l, ws.length = 4
def few (d : Put) : Bool := decide (d.b.length ≤ 1000) && decide (d.l.length ≤ 40)
def out (d : Put) : B8 := if d.act = 1 then smallB d.n else if d.act = 2 then natBytes d.a else if d.act = 3 then bytesB d.b else if d.act = 4 then natsB d.l else []
end Put
def putCells (l : List Put) : List Value := l.flatMap Put.cells
def putAt (l : List Put) (k : Nat) : Put := l.getD k ⟨0, 0, [0, 0, 0, 0], .slice none 0 0, [], .slice none 0 0, []⟩
def putOut (l : List Put) : B8 := l.flatMap Put.out
def short (l : List Put) : Bool := decide (l.length ≤ 20) && l.all Put.few
theorem putAt_mem {l : List Put} {k : Nat} (h : k < l.length) : putAt l k ∈ l := by
  unfold putAt
  rw [List.getD_eq_getElem?_getD, List.getElem?_eq_getElem h]
  exact List.getElem_mem h
section
variable {l : List Put} {k : Nat} (h : ∀ d ∈ l, d.ok) (hk : k < l.length)
include h hk
end
theorem short_few {l : List Put} (h : short l = true) : l.length ≤ 20 ∧ ∀ k, k < l.length → (putAt l k).b.length ≤ 1000 ∧ (putAt l k).l.length ≤ 40 := by
  unfold short at h
  rw [Bool.and_eq_true, decide_eq_true_eq, List.all_eq_true] at h
  refine ⟨h.1, fun k hk => ?_⟩
  have := h.2 _ (putAt_mem hk)
  unfold Put.few at this
  simpa using this
theorem Put.out_len {d : Put} (hb : d.b.length ≤ 1000) (hl : d.l.length ≤ 40) : d.out.length ≤ 1300 := by
  unfold Put.out
  split
  · have := smallB_le d.n; omega
  · split
    · rw [natBytes_length]; omega
    · split
      · have := bytesB_len d.b; omega
      · split
        · have := natsB_len d.l; omega
        · exact Nat.zero_le _
end Go.Proofs.YthfipbjmpeegbaaGreatDoor

/- The pool's plain side: which piece is one of a kind, what is left without it; a map that may be nil. No program in sight. -/
namespace Go.Proofs.YthfipbjmpeegbaaGreatDoor
open Go.RowKit
set_option linter.unusedVariables false
set_option linter.unusedSimpArgs false
abbrev PB := B8 → Bool
abbrev isB (b : B8) : PB := fun c => decide (b = c)
def fitB (b : B8) : Bool := decide (1 ≤ b.length ∧ b.length ≤ 1000)
def hasP (p : PB) (l : List B8) : Bool := l.any p
def ixP (p : PB) (A : Pcs) : Int := if A.findIdx (fun x => p x.2) < A.length then (A.findIdx (fun x => p x.2) : Nat) else -1
theorem pc_eq {A : Pcs} {i : Nat} (h : i < A.length) : A[i] = pcAt A i := by rw [pcAt, List.getD_eq_getElem?_getD, List.getElem?_eq_getElem h]; rfl
theorem ix_hit {p : PB} {A : Pcs} {x : Nat} (hx : x < A.length) (h : p (pcAt A x).2 = true) (hn : ∀ j, j < x → p (pcAt A j).2 = false) : ixP p A = x := by
  have e : A.findIdx (fun x => p x.2) = x := by
    rw [List.findIdx_eq hx]
    refine ⟨by rw [pc_eq hx]; exact h, fun j hj => ?_⟩
    rw [pc_eq (by omega)]; exact hn j hj
  rw [ixP, e, if_pos hx]
theorem ix_none {p : PB} {A : Pcs} (hn : ∀ j, j < A.length → p (pcAt A j).2 = false) : ixP p A = -1 := by
  rw [ixP, if_neg]
  intro h
  have h1 := List.findIdx_getElem (w := h)
  rw [pc_eq h, hn _ h] at h1
  exact absurd h1 (by decide)
theorem ix_has (p : PB) (A : Pcs) : decide (ixP p A ≥ 0) = hasP p (bytesP A) := by
  unfold ixP hasP bytesP
  rw [List.any_map]
  by_cases h : A.findIdx (fun x => p x.2) < A.length
  · rw [if_pos h, decide_eq_true (by omega)]
    exact (List.any_eq_true.2 (List.findIdx_lt_length.1 h)).symm
  · rw [if_neg h, decide_eq_false (by omega)]
    symm
    rw [Bool.eq_false_iff]
    intro h1
    exact h (List.findIdx_lt_length.2 (List.any_eq_true.1 h1))
/-! ### A map that may be nil -/
/-- Many pieces, out of others that are known. -/
theorem all_of {X Y Z : Pcs} (h : ∀ z ∈ Z, z ∈ X ∨ z ∈ Y) : (∀ k, (Res.all (pcRes Z)).fp k → (Res.all (pcRes X)).fp k ∨ (Res.all (pcRes Y)).fp k) ∧ ∀ w, (Res.all (pcRes X)).ok w → (Res.all (pcRes Y)).ok w → (Res.all (pcRes Z)).ok w := by
  constructor
  · rintro k ⟨r, hr, hk⟩
    obtain ⟨z, hz, rfl⟩ := List.mem_map.1 hr
    rcases h z hz with h | h
    · exact .inl ⟨_, List.mem_map.2 ⟨z, h, rfl⟩, hk⟩
    · exact .inr ⟨_, List.mem_map.2 ⟨z, h, rfl⟩, hk⟩
  · intro w hx hy r hr
    obtain ⟨z, hz, rfl⟩ := List.mem_map.1 hr
    rcases h z hz with h | h
    · exact hx _ (List.mem_map.2 ⟨z, h, rfl⟩)
    · exact hy _ (List.mem_map.2 ⟨z, h, rfl⟩)
theorem St.addG {C : Beg} {Γ H : RL} {r : Res} {w : World} (hs : St C Γ H w) (hf : ∀ k, r.fp k → ∃ s ∈ Γ, s.fp k) (ho : r.ok w) : St C (r :: Γ) H w := by
  refine ⟨⟨?_, ?_, hs.sat.hok, hs.sat.hlt, hs.sat.hdj, ?_⟩, hs.stp, hs.hsub, ?_⟩
  · intro q hq
    rcases List.mem_cons.1 hq with rfl | hq
    · exact ho
    · exact hs.sat.gok q hq
  · intro q hq k hk
    rcases List.mem_cons.1 hq with rfl | hq
    · obtain ⟨s, h1, h2⟩ := hf k hk
      exact hs.sat.glt s h1 k h2
    · exact hs.sat.glt q hq k hk
  · intro q hq s hs' k hk hk'
    rcases List.mem_cons.1 hq with rfl | hq
    · obtain ⟨t, h1, h2⟩ := hf k hk
      exact hs.sat.ghd t h1 s hs' k h2 hk'
    · exact hs.sat.ghd q hq s hs' k hk hk'
  · rintro k ⟨q, hq, hk⟩
    rcases List.mem_cons.1 hq with rfl | hq
    · obtain ⟨t, h1, h2⟩ := hf k hk
      exact hs.gsub k ⟨t, h1, h2⟩
    · exact hs.gsub k ⟨q, hq, hk⟩
theorem St.allOf {C : Beg} {Γ H : RL} {X Y Z : Pcs} {w : World} (hs : St C Γ H w) (hx : Res.all (pcRes X) ∈ Γ) (hy : Res.all (pcRes Y) ∈ Γ) (h : ∀ z ∈ Z, z ∈ X ∨ z ∈ Y) : St C (Res.all (pcRes Z) :: Γ) H w :=
  hs.addG (fun k hk => ((all_of h).1 k hk).elim (fun h => ⟨_, hx, h⟩) fun h => ⟨_, hy, h⟩) ((all_of h).2 w (hs.sat.gok _ hx) (hs.sat.gok _ hy))
theorem JO.allOf {P : Program} {N : Nat} {C : Beg} {ops : Array Oper} {l : List Oper} {Q : Exit → Act → World → Prop} {E : Env} {Γ H : RL} (X Y Z : Pcs) (hx : Res.all (pcRes X) ∈ Γ) (hy : Res.all (pcRes Y) ∈ Γ) (h : ∀ z ∈ Z, z ∈ X ∨ z ∈ Y) (k : JO P N C ops l Q E (Res.all (pcRes Z) :: Γ) H) : JO P N C ops l Q E Γ H :=
  fun hn a w he hs => k hn a w he (hs.allOf hx hy h)
theorem JC.allOf {P : Program} {N : Nat} {C : Beg} {c : Code} {Q : Exit → Act → World → Prop} {E : Env} {Γ H : RL} (X Y Z : Pcs) (hx : Res.all (pcRes X) ∈ Γ) (hy : Res.all (pcRes Y) ∈ Γ) (h : ∀ z ∈ Z, z ∈ X ∨ z ∈ Y) (k : JC P N C c Q E (Res.all (pcRes Z) :: Γ) H) : JC P N C c Q E Γ H :=
  fun hn a w he hs => k hn a w he (hs.allOf hx hy h)
theorem JQ.allOf {N : Nat} {C : Beg} {e : Exit} {Q : Exit → Act → World → Prop} {E : Env} {Γ H : RL} (X Y Z : Pcs) (hx : Res.all (pcRes X) ∈ Γ) (hy : Res.all (pcRes Y) ∈ Γ) (h : ∀ z ∈ Z, z ∈ X ∨ z ∈ Y) (k : JQ N C e Q E (Res.all (pcRes Z) :: Γ) H) : JQ N C e Q E Γ H :=
  fun hn a w he hs => k hn a w he (hs.allOf hx hy h)
theorem St.all0 {C : Beg} {Γ H : RL} {w : World} (hs : St C Γ H w) : St C (Res.all (pcRes []) :: Γ) H w := hs.addG (fun k ⟨r, hr, _⟩ => by cases hr) (fun r hr => by cases hr)
theorem JO.all0 {P : Program} {N : Nat} {C : Beg} {ops : Array Oper} {l : List Oper} {Q : Exit → Act → World → Prop} {E : Env} {Γ H : RL} (k : JO P N C ops l Q E (Res.all (pcRes []) :: Γ) H) : JO P N C ops l Q E Γ H := fun hn a w he hs => k hn a w he hs.all0
theorem Spec.gsub {P : Program} {f : FuncId} {args : Array Value} {Γ Γ2 H : RL} {post : Value → RL → RL → Prop} (h : Spec P f args Γ H post) (hs : ∀ r ∈ Γ, r ∈ Γ2) : Spec P f args Γ2 H post := h.from (fun r hr k hk => ⟨r, hs r hr, hk⟩) (fun w hw r hr => hw r (hs r hr))
/-! ### The pool, plainly -/
def addE (W : List B8) (m : B8 → Bool) (b : B8) : Int := if fitB b = false then 2 else if (m b || hasP (isB b) W) = true then 13 else if 30 ≤ W.length then 52 else 0
def addN (W : List B8) (m : B8 → Bool) (b : B8) : List B8 := if addE W m b = 0 then [b] else []
def twB (l : List B8) : Bool := !decide l.Nodup
theorem nodup_snoc {l : List B8} {b : B8} : (l ++ [b]).Nodup ↔ l.Nodup ∧ b ∉ l := by
  rw [List.nodup_append]
  constructor
  · exact fun h => ⟨h.1, fun hb => h.2.2 b hb b (by simp) rfl⟩
  · exact fun h => ⟨h.1, by simp, fun a ha c hc => by rw [List.mem_singleton] at hc; subst hc; exact fun e => h.2 (e ▸ ha)⟩
theorem has_mem {l : List B8} {b : B8} : hasP (isB b) l = decide (b ∈ l) := by
  rw [hasP]
  by_cases h : b ∈ l
  · rw [decide_eq_true h]; exact List.any_eq_true.2 ⟨b, h, by simp⟩
  · rw [decide_eq_false h, Bool.eq_false_iff]
    intro h1
    obtain ⟨c, hc, he⟩ := List.any_eq_true.1 h1
    have : b = c := by simpa using he
    exact h (this ▸ hc)
theorem tw_hit {L : Pcs} {x : Nat} (hx : x < L.length) (h : hasP (isB (pcAt L x).2) (bytesP (L.take x)) = true) : twB (bytesP L) = true := by
  rw [has_mem, decide_eq_true_eq] at h
  rw [twB, Bool.not_eq_true', decide_eq_false_iff_not]
  intro hn
  have h2 : ((bytesP L).take (x + 1)).Nodup := List.Sublist.nodup (List.take_sublist _ _) hn
  rw [bytesP_get hx, nodup_snoc] at h2
  exact h2.2 (by simpa [bytesP, List.map_take] using h)
theorem tw_go {L : Pcs} {x : Nat} (hx : x < L.length) (hn : ((bytesP L).take x).Nodup) (h : hasP (isB (pcAt L x).2) (bytesP (L.take x)) = false) : ((bytesP L).take (x + 1)).Nodup := by
  rw [has_mem, decide_eq_false_iff_not] at h
  rw [bytesP_get hx, nodup_snoc]
  exact ⟨hn, by simpa [bytesP, List.map_take] using h⟩
def shB (l : List B8) : Prop := l.length ≤ 12 ∧ ∀ b ∈ l, b.length ≤ 1100
instance (l : List B8) : Decidable (shB l) := by unfold shB; infer_instance
theorem JR.frzP {P : Program} {N : Nat} {C : Beg} {ops : Array Oper} {Q : Exit → Act → World → Prop} {E : Env} {Γ H G : RL} {T M U : Nat → Bool} {Γ0 H0 : RL} {l : OT} {A : Pcs} {e : TypeId} (hp : Pull (Res.sep (rowsP A e)) H G) (k : JR P N C ops T M U Γ0 H0 l Q E (Res.all (pcRes A) :: Γ) G) : JR P N C ops T M U Γ0 H0 l Q E Γ H := fun hq a w he hs => k hq a w he (St.frzP (hs.perm hp.perm))
theorem JR.allOf {P : Program} {N : Nat} {C : Beg} {ops : Array Oper} {Q : Exit → Act → World → Prop} {E : Env} {Γ H : RL} {T M U : Nat → Bool} {Γ0 H0 : RL} {l : OT} (X Y Z : Pcs) (hx : Res.all (pcRes X) ∈ Γ) (hy : Res.all (pcRes Y) ∈ Γ) (h : ∀ z ∈ Z, z ∈ X ∨ z ∈ Y) (k : JR P N C ops T M U Γ0 H0 l Q E (Res.all (pcRes Z) :: Γ) H) : JR P N C ops T M U Γ0 H0 l Q E Γ H :=
  fun hq a w he hs => k hq a w he (hs.allOf hx hy h)
end Go.Proofs.YthfipbjmpeegbaaGreatDoor

/- What a chase holds: its state in the memory; an entry taken out, put back. No program in sight but types' numbers. -/
namespace Go.Proofs.YthfipbjmpeegbaaGreatDoor
open Go.RowKit
set_option linter.unusedVariables false
set_option linter.unusedSimpArgs false
/-- What there is of a height. -/
structure HC where
  p : Nat
  bm : Nat
  va : Nat
  ta : Nat
  sv : Value
  votes : MM Int D32
  tw : MM Int Bool
  bl : MM D32 (Value × B8)
def hcV (h : HC) : Value := .agg #[ptr h.p 0, .map (some h.bm)]
def hcZ : Value := .agg #[.pointer none, .map none]
abbrev uK : BitVec 64 → Value := fun a => u64 a
def rowE (e : D32 × (Value × B8) × Nat) : Res := Res.row e.2.1.1 e.2.1.2.length 5 1 (e.2.1.2.map u8)
def hcL (S : List W64) (h : HC) : RL := [Res.cells h.p [h.sv, u64 (BitVec.ofNat 64 (sumS S)), .map (some h.va), .map (some h.ta)] 93, Res.row h.sv S.length 30 1 (S.map u64), mpR h.va itK dgV h.votes, mpR h.ta itK blV h.tw, mpR h.bm dgV slV h.bl, Res.sep (h.bl.es.map rowE)]
def hcR (S : List W64) (h : HC) : Res := Res.sep (hcL S h)
abbrev HE := BitVec 64 × HC × Nat
def hsL (S : List W64) (M : MM (BitVec 64) HC) : RL := M.es.map fun e => hcR S e.2.1
section
variable {α β : Type} [DecidableEq α]
/-- An entry, and the others. -/
theorem MM.out {m : MM α β} {k : α} {v : β} (h : m.get k = some v) {γ : Type} (F : β → γ) : ∃ L, (m.es.map fun e => F e.2.1).Perm (F v :: L) ∧ ∀ v', ((m.put k v').es.map fun e => F e.2.1).Perm (F v' :: L) := by
  have hs : (m.get k).isSome := by rw [h]; rfl
  have key : ∀ es : List (α × β × Nat), MM.findL es k = some v → ∃ L, (es.map fun e => F e.2.1).Perm (F v :: L) ∧ ∀ v' c, ((MM.setL es k v' c).map fun e => F e.2.1).Perm (F v' :: L) := by
    intro es
    induction es with
    | nil => intro h; cases h
    | cons e es ih =>
      intro h
      simp only [MM.findL] at h
      by_cases hk : k = e.1
      · rw [if_pos hk] at h
        refine ⟨es.map fun e => F e.2.1, by simp [Option.some.inj h], fun v' c => ?_⟩
        simp [MM.setL, if_pos hk]
      · rw [if_neg hk] at h
        obtain ⟨L, h1, h2⟩ := ih h
        refine ⟨F e.2.1 :: L, ?_, fun v' c => ?_⟩
        · exact (h1.cons _).trans (.swap _ _ _)
        · simp only [MM.setL, if_neg hk, List.map_cons]
          exact ((h2 v' c).cons _).trans (.swap _ _ _)
  obtain ⟨L, h1, h2⟩ := key m.es h
  exact ⟨L, h1, fun v' => h2 v' m.ck⟩
theorem MM.more {m : MM α β} {k : α} (h : m.get k = none) (v : β) {γ : Type} (F : β → γ) : (m.put k v).es.map (fun e => F e.2.1) = (m.es.map fun e => F e.2.1) ++ [F v] := by
  have : (m.put k v).es = m.es ++ [(k, v, m.ck)] := MM.setL_none h
  rw [this, List.map_append]; rfl
/-- A map in which one entry's value looks as_ it did. -/
theorem mp_like {b : Nat} {f : α → Value} {g : β → Value} {m : MM α β} {k : α} {v v' : β} (h : m.get k = some v) (hg : g v' = g v) : mpR b f g (m.put k v') = mpR b f g m := by
  have hck : (m.put k v').ck = m.ck := by simp [MM.put, h]
  have key : ∀ (es : List (α × β × Nat)) c, MM.findL es k = some v → ents f g (MM.setL es k v' c) = ents f g es := by
    intro es c
    induction es with
    | nil => intro h; cases h
    | cons e es ih =>
      intro h
      simp only [MM.findL] at h
      by_cases hk : k = e.1
      · rw [if_pos hk] at h
        simp only [MM.setL, if_pos hk, ents, List.map_cons]
        rw [hg, ← Option.some.inj h, hk]
      · rw [if_neg hk] at h
        have := ih h
        simp only [ents] at this ⊢
        simp only [MM.setL, if_neg hk, List.map_cons, this]
  have he : ents f g (m.put k v').es = ents f g m.es := key m.es m.ck h
  unfold mpR
  rw [he, hck]
end
end Go.Proofs.YthfipbjmpeegbaaGreatDoor

/- Rows of what has more cells than one: made, read, written by blocks. No program in sight. -/
namespace Go.Proofs.YthfipbjmpeegbaaGreatDoor
open Go.RowKit
set_option linter.unusedVariables false
set_option linter.unusedSimpArgs false
/-! ### Blocks -/
/-- All of them have s cells. -/
class FS {α : Type} (f : α → List Value) (s : outParam Nat) : Prop where
  len : ∀ a, (f a).length = s
  one : ∀ a, ∀ v ∈ f a, v.oneCell' = true
def bks {α : Type} (f : α → List Value) (l : List α) : List Value := l.flatMap f
section
variable {α : Type} {f : α → List Value} {s : Nat} [h : FS f s]
@[simp] theorem bks_nil : bks f [] = [] := rfl
theorem bks_cons (a : α) (l : List α) : bks f (a :: l) = f a ++ bks f l := rfl
theorem bks_len (l : List α) : (bks f l).length = l.length * s := by
  induction l with
  | nil => simp
  | cons a l ih => rw [bks_cons, List.length_append, h.len, ih, List.length_cons, Nat.succ_mul, Nat.add_comm]
theorem bks_take (l : List α) (k : Nat) : (bks f l).take (k * s) = bks f (l.take k) := by
  induction l generalizing k with
  | nil => simp
  | cons a l ih =>
    cases k with
    | zero => simp
    | succ k =>
      rw [bks_cons, List.take_succ_cons, bks_cons, ← ih k, List.take_append, h.len, List.take_of_length_le (by rw [h.len, Nat.succ_mul]; omega)]
      congr 2
      rw [Nat.succ_mul]; omega
theorem bks_drop (l : List α) (k : Nat) : (bks f l).drop (k * s) = bks f (l.drop k) := by
  induction l generalizing k with
  | nil => simp
  | cons a l ih =>
    cases k with
    | zero => simp
    | succ k =>
      rw [bks_cons, List.drop_succ_cons, ← ih k, List.drop_append, h.len, List.drop_of_length_le (by rw [h.len, Nat.succ_mul]; omega), List.nil_append]
      congr 1
      rw [Nat.succ_mul]; omega
theorem bks_piece {l : List α} {k : Nat} (d : α) (hk : k < l.length) : ((bks f l).drop (k * s)).take s = f (l.getD k d) := by
  have h1 := bks_take (f := f) (l.drop k) 1
  rw [Nat.one_mul] at h1
  rw [bks_drop, h1, List.drop_eq_getElem_cons hk, List.take_succ_cons, List.take_zero, bks_cons, bks_nil, List.append_nil, List.getD_eq_getElem?_getD, List.getElem?_eq_getElem hk, Option.getD_some]
theorem bks_get {l : List α} {k j : Nat} (d : α) (hk : k < l.length) (hj : j < s) : (bks f l)[k * s + j]? = (f (l.getD k d))[j]? := by
  rw [← bks_piece (f := f) d hk, List.getElem?_take_of_lt hj, List.getElem?_drop]
end
/-! ### Rows that are made -/
section
variable {P : Program} {N : Nat} {C : Beg} {Q : Exit → Act → World → Prop} {E : Env} {Γ H : RL} {ty : TypeId} {ops : Array Oper} {rest : List Oper}
theorem Mv.sr {T m : Nat} {x y : Operand} {v u : Value} {o n : Nat} {e : TypeId} {size : Nat} {us xs : List Value} {H' : RL} (hT : (P.info? T).map (·.size) = some m) (hx : ev E x = some (ptr (blk v) o) := by rfl) (hy : ev E y = some u := by rfl) (hu : u.cells = us.toArray := by rfl) (hm : us.length = m := by first | rfl | (simp; done) | (simp; omega) | (simp [*]; done) | fail) (h1 : ∀ a ∈ us, a.oneCell' = true := by first | (simp; done) | exact one_sing rfl | exact one_map (fun _ => rfl) | exact one_piece (one_map (fun _ => rfl)) | exact one_tab (fun _ => rfl) | exact one_tab (fun _ => by split <;> rfl) | fail) (hp : Upd H (Res.row v n e size xs) (Res.row v n e size (splice xs o us)) H' := by (repeat (first | exact Upd.here _ _ _ | apply Upd.there)); first | done | fail) (hn : 0 < n := by first | exact ltb rfl | (simp; done) | (simp; omega) | omega | (simp [*]; omega) | fail) (hl : o + m ≤ n * size := by first | (simp; done) | omega | (simp; omega) | fail) : Mv P N C E Γ H (.store T x y) ty (fun _ Γ1 H1 => Γ1 = Γ ∧ H1 = H') := .storeRow hT hx hy hu hm h1 hp hn hl
end
end Go.Proofs.YthfipbjmpeegbaaGreatDoor

/- What is written is read: the plain side. No program in sight. -/
namespace Go.Proofs.YthfipbjmpeegbaaGreatDoor
open Go.RowKit
namespace Rdr
theorem out_eq {xs ys : B8} {n : Nat} (h : xs.length = n) : (Rdr.mk (xs ++ ys) 0).out n = xs := by
  rw [out_ok (by show ¬ (xs ++ ys).length < n; rw [List.length_append]; omega) rfl]
  show (xs ++ ys).take n = xs
  rw [← h, List.take_left]
theorem aft_eq {xs ys : B8} {n : Nat} (h : xs.length = n) : (Rdr.mk (xs ++ ys) 0).aft n = ⟨ys, 0⟩ := by
  rw [aft_ok (by show ¬ (xs ++ ys).length < n; rw [List.length_append]; omega) rfl]
  show Rdr.mk ((xs ++ ys).drop n) 0 = _
  rw [← h, List.drop_left]
theorem aft_few {xs : B8} {n : Nat} (h : xs.length < n) : ((Rdr.mk xs 0).aft n).e = 3 := by
  have h1 : (Rdr.mk xs 0).chk n = ⟨[], 3⟩ := by rw [chk_lt (by exact h)]; rfl
  rw [aft_bad (by rw [h1]; decide), h1]
theorem out_few {xs : B8} {n : Nat} (h : xs.length < n) : (Rdr.mk xs 0).out n = [] := by
  have h1 : (Rdr.mk xs 0).chk n = ⟨[], 3⟩ := by rw [chk_lt (by exact h)]; rfl
  rw [out_bad (by rw [h1]; decide)]
theorem top_digit (n : BitVec 64) (h : 0 < nsz n) : (digs n (nsz n)).getD 0 0 ≠ 0 := by
  intro h0
  have h1 : (digs n (nsz n)).getD 0 0 = (n >>> (8 * (nsz n - 1 - 0))).setWidth 8 := by simp [digs, List.getD_eq_getElem?_getD, h]
  rw [h1, Nat.sub_zero] at h0
  have h8 := nsz_le n
  have hlt : n.toNat < 2 ^ (8 * nsz n) := Nat.lt_of_lt_of_le (bitlen_lt (n := n.toNat) (Nat.le_refl _)) (Nat.pow_le_pow_right (by decide) (by unfold nsz len64; omega))
  have h2 : n >>> (8 * (nsz n - 1)) = 0 := by
    apply BitVec.eq_of_toNat_eq
    have h3 := congrArg BitVec.toNat h0
    rw [BitVec.toNat_setWidth, BitVec.toNat_ushiftRight, Nat.shiftRight_eq_div_pow] at h3
    have h4 : n.toNat / 2 ^ (8 * (nsz n - 1)) < 2 ^ 8 := by
      rw [Nat.div_lt_iff_lt_mul (Nat.two_pow_pos _), ← Nat.pow_add]
      rw [show 8 + 8 * (nsz n - 1) = 8 * nsz n by omega]
      exact hlt
    rw [Nat.mod_eq_of_lt h4] at h3
    rw [BitVec.toNat_ushiftRight, Nat.shiftRight_eq_div_pow]
    exact h3
  have := nsz_le_of_top h2
  omega
theorem k8_toNat (n : BitVec 64) : (BitVec.ofNat 8 (nsz n)).toNat = nsz n := by
  have := nsz_le n
  rw [BitVec.toNat_ofNat]
  omega
section
variable {n lim : BitVec 64} {ys : B8}
theorem small_1 : (Rdr.mk (smallB n ++ ys) 0).out 1 = [BitVec.ofNat 8 (nsz n)] := out_eq (xs := [BitVec.ofNat 8 (nsz n)]) (ys := digs n (nsz n) ++ ys) rfl
theorem small_2 : (Rdr.mk (smallB n ++ ys) 0).aft 1 = ⟨digs n (nsz n) ++ ys, 0⟩ := aft_eq (xs := [BitVec.ofNat 8 (nsz n)]) (ys := digs n (nsz n) ++ ys) rfl
theorem small_3 : (Rdr.mk (smallB n ++ ys) 0).k8.toNat = nsz n := by
  rw [k8, small_1]
  exact k8_toNat n
theorem small_4 : (Rdr.mk (smallB n ++ ys) 0).smO = digs n (nsz n) := by
  rw [smO, small_3, if_pos (nsz_le n), small_2]
  exact out_eq (digs_length _ _)
theorem small_5 : (Rdr.mk (smallB n ++ ys) 0).smR = ⟨ys, 0⟩ := by
  rw [smR, small_3, if_pos (nsz_le n), small_2]
  exact aft_eq (digs_length _ _)
theorem small_6 (h : n.toNat ≤ lim.toNat) : (Rdr.mk (smallB n ++ ys) 0).smF lim = ⟨ys, 0⟩ := by
  have h8 := nsz_le n
  have hw : (ofBytes (digs n (nsz n))).getD 0 0 = n := word0_digs n
  rw [smF, small_5, small_3, small_4, hw, if_neg (not_not_intro rfl), if_neg (by omega), if_neg (fun h => top_digit n h.1 h.2), if_neg (by omega)]
theorem small_full (h : n.toNat ≤ lim.toNat) : (Rdr.mk (smallB n ++ ys) 0).sm lim = n ∧ (Rdr.mk (smallB n ++ ys) 0).smA lim = ⟨ys, 0⟩ := by
  constructor
  · rw [sm, if_neg (by rw [small_1]; exact Nat.one_ne_zero), small_6 h, if_neg (not_not_intro rfl), small_4]
    exact word0_digs n
  · rw [smA, if_neg (by rw [small_1]; exact Nat.one_ne_zero), small_6 h]
/-- Cut short within a small number. -/
theorem small_cut {m : Nat} (h : m < (smallB n).length) : ((Rdr.mk ((smallB n).take m) 0).smA lim).e = 3 := by
  rw [smallB_length] at h
  cases m with
  | zero =>
    have h1 : (Rdr.mk ([] : B8) 0).out 1 = [] := out_few (by decide)
    rw [List.take_zero, smA, h1]
    exact aft_few (xs := []) (n := 1) (by decide)
  | succ m =>
    have hm : ((digs n (nsz n)).take m).length = m := by rw [List.length_take, digs_length]; omega
    have hc : (smallB n).take (m + 1) = [BitVec.ofNat 8 (nsz n)] ++ (digs n (nsz n)).take m := rfl
    have h1 : (Rdr.mk ((smallB n).take (m + 1)) 0).out 1 = [BitVec.ofNat 8 (nsz n)] := by rw [hc]; exact out_eq rfl
    have h2 : (Rdr.mk ((smallB n).take (m + 1)) 0).aft 1 = ⟨(digs n (nsz n)).take m, 0⟩ := by rw [hc]; exact aft_eq rfl
    have h3 : (Rdr.mk ((smallB n).take (m + 1)) 0).k8.toNat = nsz n := by rw [k8, h1]; exact k8_toNat n
    have h4 : (Rdr.mk ((smallB n).take (m + 1)) 0).smR.e = 3 := by
      rw [smR, h3, if_pos (nsz_le n), h2]
      exact aft_few (by omega)
    rw [smA, if_neg (by rw [h1]; exact Nat.one_ne_zero), smF, if_pos (by rw [h4]; decide)]
    exact h4
end
theorem cnt_full {c : Nat} {m : Int} {ys : B8} (hc : (c : Int) ≤ m) (hm : m ≤ 100000) : (Rdr.mk (smallB (BitVec.ofNat 64 c) ++ ys) 0).cnt m = BitVec.ofNat 64 c ∧ (Rdr.mk (smallB (BitVec.ofNat 64 c) ++ ys) 0).cntA m = ⟨ys, 0⟩ := by
  have h1 : (Rdr.mk (smallB (BitVec.ofNat 64 c) ++ ys) 0).cntR m = Rdr.mk (smallB (BitVec.ofNat 64 c) ++ ys) 0 := if_neg (by omega)
  have h2 : (BitVec.ofNat 64 c).toNat ≤ (BitVec.ofInt 64 m).toNat := by
    obtain ⟨k, rfl⟩ : ∃ k : Nat, m = (k : Int) := ⟨m.toNat, by omega⟩
    rw [BitVec.ofInt_natCast, BitVec.toNat_ofNat, BitVec.toNat_ofNat]
    omega
  rw [cnt, cntA, h1]
  exact small_full h2
theorem cnt_cut {c : Nat} {m : Int} {j : Nat} (hm : 0 ≤ m) (h : j < (smallB (BitVec.ofNat 64 c)).length) : ((Rdr.mk ((smallB (BitVec.ofNat 64 c)).take j) 0).cntA m).e = 3 := by
  have h1 : (Rdr.mk ((smallB (BitVec.ofNat 64 c)).take j) 0).cntR m = Rdr.mk ((smallB (BitVec.ofNat 64 c)).take j) 0 := if_neg (by omega)
  rw [cntA, h1]
  exact small_cut h
theorem toNat_small {c : Nat} (h : c ≤ 100000) : (BitVec.ofNat 64 c).toNat = c := by rw [BitVec.toNat_ofNat]; omega
theorem bytes_full {b ys : B8} (hb : b.length ≤ 1000) : (Rdr.mk (bytesB b ++ ys) 0).byO 1000 = b ∧ (Rdr.mk (bytesB b ++ ys) 0).byA 1000 = ⟨ys, 0⟩ := by
  obtain ⟨h1, h2⟩ := cnt_full (c := b.length) (m := 1000) (ys := b ++ ys) (by omega) (by decide)
  rw [bytesB, List.append_assoc, byO, byA, h1, h2, toNat_small (by omega)]
  exact ⟨out_eq rfl, aft_eq rfl⟩
theorem bytes_cut {b : B8} {j : Nat} (hb : b.length ≤ 1000) (h : j < (bytesB b).length) : ((Rdr.mk ((bytesB b).take j) 0).byA 1000).e = 3 := by
  by_cases hj : j < (smallB (BitVec.ofNat 64 b.length)).length
  · have h1 : (bytesB b).take j = (smallB (BitVec.ofNat 64 b.length)).take j := List.take_append_of_le_length (by omega)
    have h2 := cnt_cut (m := 1000) (by decide) hj
    rw [h1, byA, aft_st (by rw [h2]; decide), h2]
  · have h1 : (bytesB b).take j = smallB (BitVec.ofNat 64 b.length) ++ b.take (j - (smallB (BitVec.ofNat 64 b.length)).length) := by
      rw [bytesB, List.take_append, List.take_of_length_le (by omega)]
    obtain ⟨h2, h3⟩ := cnt_full (c := b.length) (m := 1000) (ys := b.take (j - (smallB (BitVec.ofNat 64 b.length)).length)) (by omega) (by decide)
    rw [bytesB, List.length_append] at h
    rw [h1, byA, h2, h3, toNat_small (by omega)]
    exact aft_few (by rw [List.length_take]; omega)
theorem go_full : ∀ (l : List W4) (acc : List W4) (ys : B8), (∀ ws ∈ l, ws.length = 4) → go l.length acc ⟨flatB l ++ ys, 0⟩ = (acc ++ l, ⟨ys, 0⟩)
  | [], acc, ys, _ => by rw [List.append_nil]; rfl
  | ws :: l, acc, ys, h => by
    have h1 : flatB (ws :: l) ++ ys = natBytes ws ++ (flatB l ++ ys) := by simp [flatB]
    have h2 : (Rdr.mk (natBytes ws ++ (flatB l ++ ys)) 0).aft 32 = ⟨flatB l ++ ys, 0⟩ := aft_eq (natBytes_length ws)
    have h3 : (Rdr.mk (natBytes ws ++ (flatB l ++ ys)) 0).out 32 = natBytes ws := out_eq (natBytes_length ws)
    rw [h1, List.length_cons, go_ok (by rw [h2]), h2, h3, ofBytes_natBytes ws (h ws (.head _)), go_full l _ ys fun x hx => h x (.tail _ hx), List.append_assoc]
    rfl
theorem go_cut : ∀ (n : Nat) (acc : List W4) (b : B8), b.length < 32 * n → (go n acc ⟨b, 0⟩).2.e = 3
  | 0, _, _, h => absurd h (by omega)
  | n + 1, acc, b, h => by
    by_cases hb : b.length < 32
    · have h1 := aft_few hb
      rw [go_bad (by rw [h1]; decide)]
      exact h1
    · have h1 : (Rdr.mk b 0).aft 32 = ⟨b.drop 32, 0⟩ := aft_ok hb rfl
      rw [go_ok (by rw [h1]), h1]
      exact go_cut n _ _ (by rw [List.length_drop]; omega)
theorem nats_full {l : List W4} {ys : B8} (h4 : ∀ ws ∈ l, ws.length = 4) (hl : l.length ≤ 40) : (Rdr.mk (natsB l ++ ys) 0).naO 40 = l ∧ (Rdr.mk (natsB l ++ ys) 0).naA 40 = ⟨ys, 0⟩ := by
  obtain ⟨h1, h2⟩ := cnt_full (c := l.length) (m := 40) (ys := flatB l ++ ys) (by omega) (by decide)
  rw [natsB, List.append_assoc, naO, naA, h1, h2, toNat_small (by omega), go_full l [] ys h4]
  exact ⟨rfl, rfl⟩
theorem nats_cut {l : List W4} {j : Nat} (hl : l.length ≤ 40) (h : j < (natsB l).length) : ((Rdr.mk ((natsB l).take j) 0).naA 40).e = 3 := by
  by_cases hj : j < (smallB (BitVec.ofNat 64 l.length)).length
  · have h1 : (natsB l).take j = (smallB (BitVec.ofNat 64 l.length)).take j := List.take_append_of_le_length (by omega)
    have h2 := cnt_cut (m := 40) (by decide) hj
    have h3 : ((Rdr.mk ((smallB (BitVec.ofNat 64 l.length)).take j) 0).cntA 40).e ≠ 0 := by rw [h2]; decide
    have h4 : ∀ n acc, (go n acc ((Rdr.mk ((smallB (BitVec.ofNat 64 l.length)).take j) 0).cntA 40)).2.e = 3 := by
      intro n acc
      cases n with
      | zero => exact h2
      | succ n =>
        rw [go_bad (by rw [aft_st h3]; exact h3), aft_st h3]
        exact h2
    rw [h1, naA]
    exact h4 _ _
  · have h1 : (natsB l).take j = smallB (BitVec.ofNat 64 l.length) ++ (flatB l).take (j - (smallB (BitVec.ofNat 64 l.length)).length) := by
      rw [natsB, List.take_append, List.take_of_length_le (by omega)]
    obtain ⟨h2, h3⟩ := cnt_full (c := l.length) (m := 40) (ys := (flatB l).take (j - (smallB (BitVec.ofNat 64 l.length)).length)) (by omega) (by decide)
    have h4 := flatB_len l
    rw [natsB, List.length_append] at h
    rw [h1, naA, h2, h3, toNat_small (by omega)]
    exact go_cut _ _ _ (by rw [List.length_take]; omega)
end Rdr

/-- What CodecBack does with one thing that was put. -/
def stepP (r : Rdr) (d : Put) : Rdr := if d.act = 1 then r.smA 18446744073709551615#64 else if d.act = 2 then r.aft 32 else if d.act = 3 then r.byA 1000 else if d.act = 4 then r.naA 40 else r
def fineB (r : Rdr) (d : Put) : Bool :=
  if d.act = 1 then decide (r.sm 18446744073709551615#64 = d.n) else if d.act = 2 then decide (ofBytes (r.out 32) = d.a) else if d.act = 3 then decide (r.byO 1000 = d.b) else if d.act = 4 then decide (r.naO 40 = d.l) else true
theorem le_max (n : BitVec 64) : n.toNat ≤ (18446744073709551615#64).toNat := by have := n.isLt; show n.toNat ≤ 18446744073709551615; omega
theorem step_full {d : Put} {ys : B8} (hok : d.ok) (hb : d.b.length ≤ 1000) (hl : d.l.length ≤ 40) : stepP ⟨d.out ++ ys, 0⟩ d = ⟨ys, 0⟩ ∧ fineB ⟨d.out ++ ys, 0⟩ d = true := by
  unfold stepP fineB Put.out
  by_cases c1 : d.act = 1
  · simp only [if_pos c1]
    obtain ⟨h1, h2⟩ := Rdr.small_full (n := d.n) (ys := ys) (le_max d.n)
    exact ⟨h2, decide_eq_true h1⟩
  · by_cases c2 : d.act = 2
    · simp only [if_neg c1, if_pos c2]
      exact ⟨Rdr.aft_eq (natBytes_length _), decide_eq_true (by rw [Rdr.out_eq (natBytes_length _), ofBytes_natBytes _ hok.1])⟩
    · by_cases c3 : d.act = 3
      · simp only [if_neg c1, if_neg c2, if_pos c3]
        obtain ⟨h1, h2⟩ := Rdr.bytes_full (ys := ys) hb
        exact ⟨h2, decide_eq_true h1⟩
      · by_cases c4 : d.act = 4
        · simp only [if_neg c1, if_neg c2, if_neg c3, if_pos c4]
          obtain ⟨h1, h2⟩ := Rdr.nats_full (ys := ys) hok.2 hl
          exact ⟨h2, decide_eq_true h1⟩
        · simp only [if_neg c1, if_neg c2, if_neg c3, if_neg c4]
          exact ⟨rfl, trivial⟩
theorem step_cut {d : Put} {j : Nat} (hb : d.b.length ≤ 1000) (hl : d.l.length ≤ 40) (h : j < d.out.length) : (stepP ⟨d.out.take j, 0⟩ d).e = 3 := by
  unfold Put.out at h
  unfold stepP Put.out
  by_cases c1 : d.act = 1
  · simp only [if_pos c1] at h ⊢; exact Rdr.small_cut h
  · by_cases c2 : d.act = 2
    · simp only [if_neg c1, if_pos c2] at h ⊢
      rw [natBytes_length] at h
      exact Rdr.aft_few (by rw [List.length_take]; omega)
    · by_cases c3 : d.act = 3
      · simp only [if_neg c1, if_neg c2, if_pos c3] at h ⊢; exact Rdr.bytes_cut hb h
      · by_cases c4 : d.act = 4
        · simp only [if_neg c1, if_neg c2, if_neg c3, if_pos c4] at h ⊢; exact Rdr.nats_cut hl h
        · simp only [if_neg c1, if_neg c2, if_neg c3, if_neg c4] at h; exact absurd h (by simp)
theorem stepP_st {r : Rdr} (h : r.e ≠ 0) (d : Put) : stepP r d = r := by
  unfold stepP
  rw [Rdr.smA_st h, Rdr.aft_st h, Rdr.byA_st h, Rdr.naA_st h]
  simp
/-- Where the reader stands behind k things: n = 0: all of it lies there; n = 1: it was cut short. -/
def Inv (l : List Put) (n k : Nat) (r : Rdr) : Prop :=
  (n = 0 ∧ r = ⟨putOut (l.drop k), 0⟩) ∨ (n = 1 ∧ (r.e = 3 ∨ ∃ m, m < (putOut (l.drop k)).length ∧ r = ⟨(putOut (l.drop k)).take m, 0⟩))
theorem drop_at {l : List Put} {k : Nat} (h : k < l.length) : putOut (l.drop k) = (putAt l k).out ++ putOut (l.drop (k + 1)) := by
  rw [List.drop_eq_getElem_cons h, putAt, List.getD_eq_getElem?_getD, List.getElem?_eq_getElem h]
  rfl
theorem Inv.step {l : List Put} {n k : Nat} {r : Rdr} (hok : ∀ d ∈ l, d.ok) (hsh : short l = true) (hk : k < l.length) (h : Inv l n k r) : Inv l n (k + 1) (stepP r (putAt l k)) ∧ (n = 0 → fineB r (putAt l k) = true) := by
  obtain ⟨hb, hl⟩ := (short_few hsh).2 k hk
  have ho := hok _ (putAt_mem hk)
  have hd := drop_at hk
  rcases h with ⟨hn, rfl⟩ | ⟨hn, h⟩
  · obtain ⟨h1, h2⟩ := step_full (ys := putOut (l.drop (k + 1))) ho hb hl
    rw [hd, h1]
    exact ⟨.inl ⟨hn, rfl⟩, fun _ => h2⟩
  · refine ⟨.inr ⟨hn, ?_⟩, fun h0 => by omega⟩
    rcases h with h | ⟨m, hm, rfl⟩
    · exact .inl (by rw [stepP_st (by rw [h]; decide), h])
    · rw [hd] at hm ⊢
      by_cases hj : m < (putAt l k).out.length
      · rw [List.take_append_of_le_length (by omega)]
        exact .inl (step_cut hb hl hj)
      · rw [List.length_append] at hm
        refine .inr ⟨m - (putAt l k).out.length, by omega, ?_⟩
        rw [List.take_append, List.take_of_length_le (by omega)]
        exact (step_full (ys := (putOut (l.drop (k + 1))).take (m - (putAt l k).out.length)) ho hb hl).1
theorem Inv.fin {l : List Put} {n : Nat} {r : Rdr} (h : Inv l n l.length r) : (n = 0 ∧ r.fin = 0) ∨ (n = 1 ∧ r.fin = 3) := by
  rcases h with ⟨hn, rfl⟩ | ⟨hn, h⟩
  · rw [List.drop_length]
    exact .inl ⟨hn, rfl⟩
  · refine .inr ⟨hn, ?_⟩
    rcases h with h | ⟨m, hm, _⟩
    · rw [Rdr.fin, if_neg (fun h2 => by rw [h] at h2; exact absurd h2.1 (by decide)), h]
    · rw [List.drop_length] at hm
      exact absurd hm (by simp [putOut])
end Go.Proofs.YthfipbjmpeegbaaGreatDoor

/- Blocks, packed and unpacked: the plain side. No program in sight. -/
namespace Go.Proofs.YthfipbjmpeegbaaGreatDoor
open Go.RowKit
set_option linter.unusedVariables false
set_option linter.unusedSimpArgs false
abbrev unfit : PB := fun c => !fitB c
def packB (h : BitVec 64) (l : List B8) : B8 := smallB h ++ smallB (BitVec.ofNat 64 l.length) ++ l.flatMap bytesB
def packE (l : List B8) : Int := if l.length > 10 ∨ hasP unfit l = true then 2 else if twB l = true then 13 else 0
def packO (h : BitVec 64) (l : List B8) : B8 := if packE l = 0 then packB h l else []
theorem flatB_le {l : List B8} (h : ∀ b ∈ l, b.length ≤ 1000) : (l.flatMap bytesB).length ≤ 1009 * l.length := by
  induction l with
  | nil => simp
  | cons b l ih =>
    have h1 := h b (.head _)
    have h2 := ih fun c hc => h c (.tail _ hc)
    have h3 := bytesB_len b
    rw [List.flatMap_cons, List.length_append, List.length_cons]; omega
theorem fit_all {l : List B8} (h : ¬ hasP unfit l = true) : ∀ b ∈ l, 1 ≤ b.length ∧ b.length ≤ 1000 := fun b hb => by
  have : unfit b ≠ true := fun h1 => h (List.any_eq_true.2 ⟨b, hb, h1⟩)
  have h2 : fitB b = true := by simpa using this
  exact of_decide_eq_true h2
theorem packE_0 {l : List B8} : packE l = 0 ↔ l.length ≤ 10 ∧ (∀ b ∈ l, 1 ≤ b.length ∧ b.length ≤ 1000) ∧ l.Nodup := by
  unfold packE
  constructor
  · intro h
    split at h
    · cases h
    · rename_i h1
      split at h
      · cases h
      · rename_i h2
        refine ⟨by omega, fit_all fun h3 => h1 (.inr h3), ?_⟩
        unfold twB at h2
        simpa using h2
  · rintro ⟨h1, h2, h3⟩
    rw [if_neg, if_neg]
    · unfold twB; simp [h3]
    · rintro (h | h)
      · omega
      · obtain ⟨b, hb, h4⟩ := List.any_eq_true.1 h
        have := h2 b hb
        have h5 : fitB b = true := decide_eq_true this
        rw [unfit, h5] at h4
        cases h4
namespace Rdr
def goB : Nat → List B8 → Rdr → List B8 × Rdr
  | 0, acc, r => (acc, r)
  | n + 1, acc, r => goB n (acc ++ [r.byO 1000]) (r.byA 1000)
theorem sm_le (r : Rdr) (lim : BitVec 64) : (r.sm lim).toNat ≤ lim.toNat := by
  unfold sm
  split
  · exact Nat.zero_le _
  · split
    · exact Nat.zero_le _
    · rename_i h
      have h := Decidable.not_not.1 h
      unfold smF at h
      split at h
      · rename_i h1; exact absurd h h1
      · split at h
        · exact absurd h (wrong_ne (by decide))
        · split at h
          · exact absurd h (wrong_ne (by decide))
          · split at h
            · exact absurd h (wrong_ne (by decide))
            · omega
theorem goB_full : ∀ (l acc : List B8) (ys : B8), (∀ b ∈ l, b.length ≤ 1000) → goB l.length acc ⟨l.flatMap bytesB ++ ys, 0⟩ = (acc ++ l, ⟨ys, 0⟩)
  | [], acc, ys, _ => by simp [goB]
  | b :: l, acc, ys, h => by
    rw [List.length_cons, goB, List.flatMap_cons, List.append_assoc]
    obtain ⟨h1, h2⟩ := bytes_full (b := b) (ys := l.flatMap bytesB ++ ys) (h b (.head _))
    rw [h1, h2, goB_full l _ ys fun c hc => h c (.tail _ hc), List.append_assoc]
    rfl
theorem cnt_le (r : Rdr) : (r.cnt 1000).toNat ≤ 1000 := by
  have := sm_le (r.cntR 1000) (BitVec.ofInt 64 1000)
  exact this
theorem byO_le (r : Rdr) : (r.byO 1000).length ≤ 1000 := Nat.le_trans (out_le _ _) (cnt_le r)
theorem goB_len : ∀ (n : Nat) (acc : List B8) (r : Rdr), (goB n acc r).1.length = acc.length + n
  | 0, acc, r => rfl
  | n + 1, acc, r => by rw [goB, goB_len n]; simp; omega
theorem goB_le : ∀ (n : Nat) (acc : List B8) (r : Rdr), (∀ b ∈ acc, b.length ≤ 1000) → ∀ b ∈ (goB n acc r).1, b.length ≤ 1000
  | 0, acc, r, h => h
  | n + 1, acc, r, h => goB_le n _ _ fun b hb => (List.mem_append.1 hb).elim (h b) fun hb => by rw [List.mem_singleton] at hb; subst hb; exact byO_le r
theorem goB_back : ∀ (n : Nat) (acc : List B8) (r : Rdr), (goB n acc r).2.e = 0 → r.e = 0 ∧ acc.flatMap bytesB ++ r.b = (goB n acc r).1.flatMap bytesB ++ (goB n acc r).2.b
  | 0, acc, r, h => ⟨h, rfl⟩
  | n + 1, acc, r, h => by
    rw [goB] at h ⊢
    obtain ⟨h1, h2⟩ := goB_back n _ _ h
    have h3 := back_bytes h1
    have h0 : r.e = 0 := by
      by_cases h0 : r.e = 0
      · exact h0
      · rw [byA_st h0] at h1; exact absurd h1 h0
    refine ⟨h0, ?_⟩
    rw [← h2, h3]
    simp
end Rdr
def mx : BitVec 64 := 18446744073709551615#64
def unR (b : B8) : Rdr := ((Rdr.mk b 0).smA mx).smA 10#64
def unN (b : B8) : Nat := (((Rdr.mk b 0).smA mx).sm 10#64).toNat
def unG (b : B8) : List B8 × Rdr := Rdr.goB (unN b) [] (unR b)
def unE (b : B8) : Int := if (unG b).2.fin = 0 ∧ (twB (unG b).1 = true ∨ hasP (isB []) (unG b).1 = true) then 31 else (unG b).2.fin
def unH (b : B8) : BitVec 64 := if unE b = 0 then (Rdr.mk b 0).sm mx else 0
def unL (b : B8) : List B8 := if unE b = 0 then (unG b).1 else []
theorem unN_le (b : B8) : unN b ≤ 10 := Rdr.sm_le _ 10#64
theorem unG_le (b : B8) : ∀ c ∈ (unG b).1, c.length ≤ 1000 := Rdr.goB_le _ _ _ (fun _ h => by cases h)
theorem unG_len (b : B8) : (unG b).1.length = unN b := by rw [unG, Rdr.goB_len]; simp
theorem un_full {h : BitVec 64} {l : List B8} (hp : packE l = 0) (ys : B8) : (Rdr.mk (packB h l ++ ys) 0).sm mx = h ∧ unG (packB h l ++ ys) = (l, ⟨ys, 0⟩) := by
  obtain ⟨h1, h2, h3⟩ := packE_0.1 hp
  have e : packB h l ++ ys = smallB h ++ (smallB (BitVec.ofNat 64 l.length) ++ (l.flatMap bytesB ++ ys)) := by simp [packB]
  rw [e]
  obtain ⟨e1, e2⟩ := Rdr.small_full (n := h) (lim := mx) (ys := smallB (BitVec.ofNat 64 l.length) ++ (l.flatMap bytesB ++ ys)) (by have := h.isLt; show h.toNat ≤ 18446744073709551615; omega)
  obtain ⟨e3, e4⟩ := Rdr.small_full (n := BitVec.ofNat 64 l.length) (lim := 10#64) (ys := l.flatMap bytesB ++ ys) (by rw [BitVec.toNat_ofNat]; show _ ≤ 10; omega)
  refine ⟨e1, ?_⟩
  have hn : (BitVec.ofNat 64 l.length).toNat = l.length := by rw [BitVec.toNat_ofNat]; omega
  rw [unG, unN, unR, e2, e3, e4, hn]
  have := Rdr.goB_full l [] ys fun b hb => (h2 b hb).2
  simpa using this
theorem un_pack {h : BitVec 64} {l : List B8} (hp : packE l = 0) : unE (packB h l) = 0 ∧ unH (packB h l) = h ∧ unL (packB h l) = l := by
  obtain ⟨h1, h2⟩ := un_full (h := h) hp []
  rw [List.append_nil] at h1 h2
  obtain ⟨p1, p2, p3⟩ := packE_0.1 hp
  have he : unE (packB h l) = 0 := by
    rw [unE, h2, if_neg]
    · rfl
    · rintro ⟨_, h3 | h3⟩
      · unfold twB at h3; simp [p3] at h3
      · rw [has_mem, decide_eq_true_eq] at h3
        have := (p2 _ h3).1
        simp at this
  exact ⟨he, by rw [unH, if_pos he, h1], by rw [unL, if_pos he, h2]⟩
theorem un_back {b : B8} (h : unE b = 0) : packE (unL b) = 0 ∧ packB (unH b) (unL b) = b := by
  have hL : unL b = (unG b).1 := if_pos h
  have hH : unH b = (Rdr.mk b 0).sm mx := if_pos h
  have h2 := h
  unfold unE at h2
  split at h2
  · cases h2
  · rename_i hc
    obtain ⟨f1, f2⟩ := fin_0 h2
    obtain ⟨g1, g2⟩ := Rdr.goB_back _ _ _ f1
    have h3 : (((Rdr.mk b 0).smA mx).smA 10#64).e = 0 := g1
    have h4 := Rdr.back_small h3
    have h5 : ((Rdr.mk b 0).smA mx).e = 0 := by
      by_cases h0 : ((Rdr.mk b 0).smA mx).e = 0
      · exact h0
      · rw [Rdr.smA_st h0] at h3; exact absurd h3 h0
    have h6 := Rdr.back_small h5
    have hl := unG_len b
    have hnn : BitVec.ofNat 64 (unG b).1.length = ((Rdr.mk b 0).smA mx).sm 10#64 := by rw [hl, unN]; simp
    have g3 : (unR b).b = (unG b).1.flatMap bytesB := by
      have : (unG b).2.b = [] := f2
      have g2' : (unR b).b = (unG b).1.flatMap bytesB ++ (unG b).2.b := by simpa [unG] using g2
      rw [g2', this, List.append_nil]
    rw [hL, hH]
    refine ⟨packE_0.2 ⟨by rw [hl]; exact unN_le b, fun c hc2 => ⟨?_, unG_le b c hc2⟩, ?_⟩, ?_⟩
    · rcases Nat.eq_zero_or_pos c.length with h0 | h0
      · obtain rfl := List.length_eq_zero_iff.1 h0
        exact absurd ⟨h2, .inr (by rw [has_mem, decide_eq_true_eq]; exact hc2)⟩ hc
      · exact h0
    · by_cases hn : (unG b).1.Nodup
      · exact hn
      · exact absurd ⟨h2, .inl (by rw [twB, decide_eq_false hn]; rfl)⟩ hc
    · rw [packB, hnn, ← g3]
      have h7 : b = smallB ((Rdr.mk b 0).sm mx) ++ ((Rdr.mk b 0).smA mx).b := h6
      conv => rhs; rw [h7, h4]
      rw [List.append_assoc]
      rfl
theorem packB_len {h : BitVec 64} {l : List B8} (hl : l.length ≤ 12) (hb : ∀ b ∈ l, b.length ≤ 1000) : (packB h l).length ≤ 20000 := by
  have h1 := smallB_le h
  have h2 := smallB_le (BitVec.ofNat 64 l.length)
  have h3 := flatB_le hb
  rw [packB, List.length_append, List.length_append]; omega
theorem packO_len (h : BitVec 64) (l : List B8) : (packO h l).length ≤ 20000 := by
  unfold packO
  split
  · rename_i hp
    obtain ⟨h1, h2, _⟩ := packE_0.1 hp
    exact packB_len (by omega) fun b hb => (h2 b hb).2
  · simp
end Go.Proofs.YthfipbjmpeegbaaGreatDoor

/- Claims: as_ cells, and what they say; the claims of a log. No program in sight. -/
namespace Go.Proofs.YthfipbjmpeegbaaGreatDoor
open Go.RowKit
set_option linter.unusedVariables false
structure CLM where
  h : BitVec 64
  w : Int
  A : Option Addr
  n : Nat
  c : Nat
  b : B8
def CLM.v (x : CLM) : Value := .slice x.A x.n x.c
def clC (x : CLM) : List Value := [u64 x.h, it x.w, x.v]
instance : FS clC 3 := ⟨fun _ => rfl, fun a v hv => by
  simp only [clC, List.mem_cons, List.not_mem_nil, or_false] at hv
  rcases hv with rfl | rfl | rfl <;> rfl⟩
def clD : CLM := ⟨0, 0, none, 0, 0, []⟩
abbrev clAt (l : List CLM) (k : Nat) : CLM := l.getD k clD
/-- The blocks of claims, as_ pieces. -/
def clP (l : List CLM) : Pcs := l.map fun x => (x.v, x.b)
/-- What claims say. -/
def clOf (l : List CLM) : List (BitVec 64 × Int × B8) := l.map fun x => (x.h, x.w, x.b)
def ansK (L : List B8) (w : Int) (fr k : Nat) : List (BitVec 64 × Int × B8) := (List.range k).map fun j => (BitVec.ofNat 64 (fr + j), w, L.getD (fr + j) [])
/-- The claims of a log, from a place on. -/
def ans (L : List B8) (w : Int) (fr : BitVec 64) : List (BitVec 64 × Int × B8) := ansK L w fr.toNat (min 4 (L.length - fr.toNat))
theorem ansK_succ (L : List B8) (w : Int) (fr k : Nat) : ansK L w fr (k + 1) = ansK L w fr k ++ [(BitVec.ofNat 64 (fr + k), w, L.getD (fr + k) [])] := by
  rw [ansK, List.range_succ, List.map_append]; rfl
theorem ansK_len (L : List B8) (w : Int) (fr k : Nat) : (ansK L w fr k).length = k := by simp [ansK]
theorem clOf_snoc (l : List CLM) (x : CLM) : clOf (l ++ [x]) = clOf l ++ [(x.h, x.w, x.b)] := by simp [clOf]
theorem clOf_len (l : List CLM) : (clOf l).length = l.length := by simp [clOf]
theorem snocCl {v : Value} {l : List CLM} {x : CLM} {e : TypeId} : Res.row v (l.length + 1) e 3 (bks clC l ++ clC x) = Res.row v (l ++ [x]).length e 3 (bks clC (l ++ [x])) := by
  simp [bks, List.flatMap_append]
/-- A law's block: of a height, with one thing, if it has some. -/
def blkL (b : B8) : List B8 := if b.length = 0 then [] else [b]
def blockB (h : BitVec 64) (b : B8) : B8 := packO h (blkL b)
end Go.Proofs.YthfipbjmpeegbaaGreatDoor

/- Claims, and lists of bools, as_ they come in. -/
namespace Go.Proofs.YthfipbjmpeegbaaGreatDoor
open Go.ChangeShapes Go.WideShapes Go.ChangeAt Go.RowKit
set_option maxRecDepth 100000
variable {H : Type} {enc : TypeId × Value → H} {w : World}
theorem came_bools {v : Value} (h : Came enc Tryz.prog w 50 [v]) : ∃ l : List Bool, Rds w [Res.rd v l.length 1 (l.map Value.bool)] := by
  obtain ⟨n, xs, h1, h2⟩ := h.slice (size := 1) Tryz.underlying50 (by kernel_rfl) (by decide)
  obtain ⟨l, rfl, rfl, _⟩ := pieces (f := fun x => [Value.bool x]) (p := fun _ => True) (s := 1) (by decide) n xs (by obtain ⟨_, _, _, hl, _⟩ := h1; exact hl) (fun i hi => by
    obtain ⟨x, hx⟩ := (h2 i hi).bool Tryz.underlying4
    exact ⟨x, hx, trivial⟩)
  rw [map_flat] at h1
  exact ⟨l, Rds.one h1⟩
theorem came_clms {v : Value} (h : Came enc Tryz.prog w 29 [v]) : ∃ l : List CLM, Rds w [Res.rd v l.length 3 (bks clC l), Res.all (pcRes (clP l))] := by
  obtain ⟨n, xs, h1, h2⟩ := h.slice (size := 3) Tryz.underlying29 (by kernel_rfl) (by decide)
  obtain ⟨l, rfl, rfl, h3⟩ := pieces (f := clC) (p := fun x => Rds w [Res.rd x.v x.b.length 1 (x.b.map u8)]) (s := 3) (by decide) n xs (by obtain ⟨_, _, _, hl, _⟩ := h1; exact hl) (fun i hi => by
    obtain ⟨hl, hf⟩ := (h2 i hi).struct Tryz.underlying33
    have hl : ((xs.drop (i * 3)).take 3).length = 3 := hl.trans (by kernel_rfl)
    generalize (xs.drop (i * 3)).take 3 = cs at hl hf
    have s0 : Tryz.prog.cellsOf 30 = 1 := by kernel_rfl
    have s1 : Tryz.prog.cellsOf 3 = 1 := by kernel_rfl
    have s2 : Tryz.prog.cellsOf 23 = 1 := by kernel_rfl
    obtain ⟨x, hx⟩ := Came.u64 Tryz.underlying30 (by have h0 : Came enc Tryz.prog w 30 ((cs.drop 0).take (Tryz.prog.cellsOf 30)) := hf 0 _ rfl; rw [s0] at h0; exact h0)
    obtain ⟨k, hk, _⟩ := Came.it Tryz.underlying3 (by have h0 : Came enc Tryz.prog w 3 ((cs.drop 1).take (Tryz.prog.cellsOf 3)) := hf 1 _ rfl; rw [s1] at h0; exact h0)
    have h4 : Came enc Tryz.prog w 23 ((cs.drop 2).take 1) := by have h0 : Came enc Tryz.prog w 23 ((cs.drop 2).take (Tryz.prog.cellsOf 23)) := hf 2 _ rfl; rw [s2] at h0; exact h0
    match cs, hl with
    | [c0, c1, c2], _ =>
      obtain ⟨b, hb⟩ := h4.bytes Tryz.underlying23 (by kernel_rfl) Tryz.underlying5
      have hb2 := hb
      obtain ⟨A, c, rfl, _⟩ := hb
      obtain rfl : c0 = u64 x := by simpa using hx
      obtain rfl : c1 = it k := by simpa using hk
      exact ⟨⟨x, k, A, b.length, c, b⟩, rfl, Rds.one hb2⟩)
  refine ⟨l, (Rds.one h1).append (Rds.all fun r hr => ?_)⟩
  obtain ⟨d, hd, rfl⟩ := List.mem_map.1 hr
  obtain ⟨y, hy, rfl⟩ := List.mem_map.1 hd
  exact h3 y hy _ (.head _)
end Go.Proofs.YthfipbjmpeegbaaGreatDoor

/- Closed facts of the loaded program: sizes, places, bodies. Printed by a program of ours. -/
namespace Go.Proofs.YthfipbjmpeegbaaGreatDoor
open Go.RowKit
set_option maxRecDepth 100000
theorem sz_5 : (Tryz.prog.info? 5).map (·.size) = some 1 := by kernel_rfl
theorem sz_30 : (Tryz.prog.info? 30).map (·.size) = some 1 := by kernel_rfl
theorem mkey_90 : MKey Tryz.prog 3 itK := MKey.int Tryz.underlying3
theorem mkey_91 : MKey Tryz.prog 3 itK := MKey.int Tryz.underlying3
theorem sz_145 : (Tryz.prog.info? 145).map (·.size) = some 73 := by kernel_rfl
theorem info_23 : (Tryz.prog.info? 23).map (fun i => (i.zero, i.size, i.bytes)) = some (some (Value.slice none 0 0), 1, 24) := by kernel_rfl
theorem ext_83 (x y c : BitVec 64) (hc : c.toNat ≤ 1) (w : World) : (callFunc 83 #[u64 x, u64 y, u64 c]).run Tryz.prog w = .ok (.value (.tuple #[u64 (x + y + c), u64 (BitVec.ofNat 64 ((x.toNat + y.toNat + c.toNat) / 18446744073709551616))])) w := add64 Tryz.func83 rfl rfl (by kernel_rfl) (by kernel_rfl) x y c hc w
theorem agg_132 : Agg Tryz.prog 132 8 := Agg.mk Tryz.underlying132 rfl (by kernel_rfl)
theorem mkey_67 : MKey Tryz.prog 53 dgV := MKey.dig Tryz.underlying53 Tryz.underlying5 sz_5
theorem mkey_60 : MKey Tryz.prog 30 (fun a : BitVec 64 => u64 a) := MKey.u64 Tryz.underlying30
theorem info_5 : (Tryz.prog.info? 5).map (fun i => (i.zero, i.size, i.bytes)) = some (some (Value.int .u8 0), 1, 1) := by kernel_rfl
theorem one_30 : One Tryz.prog 30 := One.mk Tryz.underlying30 rfl
theorem zero_87 : (Tryz.prog.info? 87).map (·.zero) = some (some (Value.agg #[Value.int .u64 0, Value.int .u64 0, Value.int .u64 0, Value.int .u64 0])) := by kernel_rfl
theorem one_5 : One Tryz.prog 5 := One.mk Tryz.underlying5 rfl
theorem mixed : Tryz.prog.follows .mixedOrders = true := by kernel_rfl
theorem agg_87 : Agg Tryz.prog 87 4 := Agg.mk Tryz.underlying87 rfl (by kernel_rfl)
theorem sz_87 : (Tryz.prog.info? 87).map (·.size) = some 4 := by kernel_rfl
theorem body_39 : Body Tryz.prog 39 := Body.mk Tryz.func39 rfl (by decide)
theorem bld_117 : Bld Tryz.prog 117 (fun i => (#[(0, 1), (1, 1)] : Array (Nat × Nat))[i]?) [.slice none 0 0, .int .i64 0] := by intro parts; kernel_rfl
theorem fa_117_1 : FA Tryz.prog 117 1 1 := FA.mk (m := 0) Tryz.underlying117 rfl rfl (by kernel_rfl)
theorem one_26 : One Tryz.prog 26 := One.mk Tryz.underlying26 rfl
theorem fa_117_0 : FA Tryz.prog 117 0 0 := FA.mk (m := 0) Tryz.underlying117 rfl rfl (by kernel_rfl)
theorem sz_23 : (Tryz.prog.info? 23).map (·.size) = some 1 := by kernel_rfl
theorem sz_26 : (Tryz.prog.info? 26).map (·.size) = some 1 := by kernel_rfl
theorem one_23 : One Tryz.prog 23 := One.mk Tryz.underlying23 rfl
theorem body_64 : Body Tryz.prog 64 := Body.mk Tryz.func64 rfl (by decide)
theorem body_62 : Body Tryz.prog 62 := Body.mk Tryz.func62 rfl (by decide)
theorem body_63 : Body Tryz.prog 63 := Body.mk Tryz.func63 rfl (by decide)
theorem body_42 : Body Tryz.prog 42 := Body.mk Tryz.func42 rfl (by decide)
theorem body_65 : Body Tryz.prog 65 := Body.mk Tryz.func65 rfl (by decide)
theorem body_27 : Body Tryz.prog 27 := Body.mk Tryz.func27 rfl (by decide)
theorem body_120 : Body Tryz.prog 120 := Body.mk Tryz.func120 rfl (by decide)
theorem zero_139 : (Tryz.prog.info? 139).map (·.zero) = some (some (Value.agg #[Value.int .u32 0, Value.int .u32 0, Value.int .u32 0, Value.int .u32 0, Value.int .u32 0, Value.int .u32 0, Value.int .u32 0, Value.int .u32 0])) := by kernel_rfl
theorem fa_145_0 : FA Tryz.prog 145 0 0 := FA.mk (m := 7) Tryz.underlying145 rfl rfl (by kernel_rfl)
theorem agg_139 : Agg Tryz.prog 139 8 := Agg.mk Tryz.underlying139 rfl (by kernel_rfl)
theorem sz_139 : (Tryz.prog.info? 139).map (·.size) = some 8 := by kernel_rfl
theorem sz_138 : (Tryz.prog.info? 138).map (·.size) = some 1 := by kernel_rfl
theorem one_138 : One Tryz.prog 138 := One.mk Tryz.underlying138 rfl
theorem agg_145 : Agg Tryz.prog 145 73 := Agg.mk Tryz.underlying145 rfl (by kernel_rfl)
theorem zero_145 : (Tryz.prog.info? 145).map (·.zero) = some (some (Value.agg #[Value.int .u32 0, Value.int .u32 0, Value.int .u32 0, Value.int .u32 0, Value.int .u32 0, Value.int .u32 0, Value.int .u32 0, Value.int .u32 0, Value.int .u8 0, Value.int .u8 0, Value.int .u8 0, Value.int .u8 0, Value.int .u8 0, Value.int .u8 0, Value.int .u8 0, Value.int .u8 0, Value.int .u8 0, Value.int .u8 0, Value.int .u8 0, Value.int .u8 0, Value.int .u8 0, Value.int .u8 0, Value.int .u8 0, Value.int .u8 0, Value.int .u8 0, Value.int .u8 0, Value.int .u8 0, Value.int .u8 0, Value.int .u8 0, Value.int .u8 0, Value.int .u8 0, Value.int .u8 0, Value.int .u8 0, Value.int .u8 0, Value.int .u8 0, Value.int .u8 0, Value.int .u8 0, Value.int .u8 0, Value.int .u8 0, Value.int .u8 0, Value.int .u8 0, Value.int .u8 0, Value.int .u8 0, Value.int .u8 0, Value.int .u8 0, Value.int .u8 0, Value.int .u8 0, Value.int .u8 0, Value.int .u8 0, Value.int .u8 0, Value.int .u8 0, Value.int .u8 0, Value.int .u8 0, Value.int .u8 0, Value.int .u8 0, Value.int .u8 0, Value.int .u8 0, Value.int .u8 0, Value.int .u8 0, Value.int .u8 0, Value.int .u8 0, Value.int .u8 0, Value.int .u8 0, Value.int .u8 0, Value.int .u8 0, Value.int .u8 0, Value.int .u8 0, Value.int .u8 0, Value.int .u8 0, Value.int .u8 0, Value.int .u8 0, Value.int .u8 0, Value.int .u64 0])) := by kernel_rfl
theorem zero_164 : (Tryz.prog.info? 164).map (·.zero) = some (some (Value.agg #[Value.int .u32 0, Value.int .u32 0, Value.int .u32 0, Value.int .u32 0, Value.int .u32 0, Value.int .u32 0, Value.int .u32 0, Value.int .u32 0, Value.int .u32 0, Value.int .u32 0, Value.int .u32 0, Value.int .u32 0, Value.int .u32 0, Value.int .u32 0, Value.int .u32 0, Value.int .u32 0, Value.int .u32 0, Value.int .u32 0, Value.int .u32 0, Value.int .u32 0, Value.int .u32 0, Value.int .u32 0, Value.int .u32 0, Value.int .u32 0, Value.int .u32 0, Value.int .u32 0, Value.int .u32 0, Value.int .u32 0, Value.int .u32 0, Value.int .u32 0, Value.int .u32 0, Value.int .u32 0, Value.int .u32 0, Value.int .u32 0, Value.int .u32 0, Value.int .u32 0, Value.int .u32 0, Value.int .u32 0, Value.int .u32 0, Value.int .u32 0, Value.int .u32 0, Value.int .u32 0, Value.int .u32 0, Value.int .u32 0, Value.int .u32 0, Value.int .u32 0, Value.int .u32 0, Value.int .u32 0, Value.int .u32 0, Value.int .u32 0, Value.int .u32 0, Value.int .u32 0, Value.int .u32 0, Value.int .u32 0, Value.int .u32 0, Value.int .u32 0, Value.int .u32 0, Value.int .u32 0, Value.int .u32 0, Value.int .u32 0, Value.int .u32 0, Value.int .u32 0, Value.int .u32 0, Value.int .u32 0])) := by kernel_rfl
theorem fa_145_1 : FA Tryz.prog 145 1 8 := FA.mk (m := 63) Tryz.underlying145 rfl rfl (by kernel_rfl)
theorem body_109 : Body Tryz.prog 109 := Body.mk Tryz.func109 rfl (by decide)
theorem body_87 : Body Tryz.prog 87 := Body.mk Tryz.func87 rfl (by decide)
theorem body_110 : Body Tryz.prog 110 := Body.mk Tryz.func110 rfl (by decide)
theorem bld_139 : Bld Tryz.prog 139 (fun i => some (i * 1, 1)) [.int .u32 0, .int .u32 0, .int .u32 0, .int .u32 0, .int .u32 0, .int .u32 0, .int .u32 0, .int .u32 0] := by intro parts; kernel_rfl
theorem fa_145_2 : FA Tryz.prog 145 2 72 := FA.mk (m := 0) Tryz.underlying145 rfl rfl (by kernel_rfl)
theorem body_84 : Body Tryz.prog 84 := Body.mk Tryz.func84 rfl (by decide)
theorem bld_145 : Bld Tryz.prog 145 (fun i => (#[(0, 8), (8, 64), (72, 1)] : Array (Nat × Nat))[i]?) [.int .u32 0, .int .u32 0, .int .u32 0, .int .u32 0, .int .u32 0, .int .u32 0, .int .u32 0, .int .u32 0, .int .u8 0, .int .u8 0, .int .u8 0, .int .u8 0, .int .u8 0, .int .u8 0, .int .u8 0, .int .u8 0, .int .u8 0, .int .u8 0, .int .u8 0, .int .u8 0, .int .u8 0, .int .u8 0, .int .u8 0, .int .u8 0, .int .u8 0, .int .u8 0, .int .u8 0, .int .u8 0, .int .u8 0, .int .u8 0, .int .u8 0, .int .u8 0, .int .u8 0, .int .u8 0, .int .u8 0, .int .u8 0, .int .u8 0, .int .u8 0, .int .u8 0, .int .u8 0, .int .u8 0, .int .u8 0, .int .u8 0, .int .u8 0, .int .u8 0, .int .u8 0, .int .u8 0, .int .u8 0, .int .u8 0, .int .u8 0, .int .u8 0, .int .u8 0, .int .u8 0, .int .u8 0, .int .u8 0, .int .u8 0, .int .u8 0, .int .u8 0, .int .u8 0, .int .u8 0, .int .u8 0, .int .u8 0, .int .u8 0, .int .u8 0, .int .u8 0, .int .u8 0, .int .u8 0, .int .u8 0, .int .u8 0, .int .u8 0, .int .u8 0, .int .u8 0, .int .u64 0] := by intro parts; kernel_rfl
theorem zero_53 : (Tryz.prog.info? 53).map (·.zero) = some (some (Value.agg #[Value.int .u8 0, Value.int .u8 0, Value.int .u8 0, Value.int .u8 0, Value.int .u8 0, Value.int .u8 0, Value.int .u8 0, Value.int .u8 0, Value.int .u8 0, Value.int .u8 0, Value.int .u8 0, Value.int .u8 0, Value.int .u8 0, Value.int .u8 0, Value.int .u8 0, Value.int .u8 0, Value.int .u8 0, Value.int .u8 0, Value.int .u8 0, Value.int .u8 0, Value.int .u8 0, Value.int .u8 0, Value.int .u8 0, Value.int .u8 0, Value.int .u8 0, Value.int .u8 0, Value.int .u8 0, Value.int .u8 0, Value.int .u8 0, Value.int .u8 0, Value.int .u8 0, Value.int .u8 0])) := by kernel_rfl
theorem body_86 : Body Tryz.prog 86 := Body.mk Tryz.func86 rfl (by decide)
theorem body_70 : Body Tryz.prog 70 := Body.mk Tryz.func70 rfl (by decide)
theorem zero_147 : (Tryz.prog.info? 147).map (·.zero) = some (some (Value.agg #[Value.int .u8 0, Value.int .u8 0, Value.int .u8 0, Value.int .u8 0, Value.int .u8 0, Value.int .u8 0, Value.int .u8 0, Value.int .u8 0])) := by kernel_rfl
theorem agg_53 : Agg Tryz.prog 53 32 := Agg.mk Tryz.underlying53 rfl (by kernel_rfl)
theorem sz_53 : (Tryz.prog.info? 53).map (·.size) = some 32 := by kernel_rfl
theorem bld_164 : Bld Tryz.prog 164 (fun i => some (i * 1, 1)) [.int .u32 0, .int .u32 0, .int .u32 0, .int .u32 0, .int .u32 0, .int .u32 0, .int .u32 0, .int .u32 0, .int .u32 0, .int .u32 0, .int .u32 0, .int .u32 0, .int .u32 0, .int .u32 0, .int .u32 0, .int .u32 0, .int .u32 0, .int .u32 0, .int .u32 0, .int .u32 0, .int .u32 0, .int .u32 0, .int .u32 0, .int .u32 0, .int .u32 0, .int .u32 0, .int .u32 0, .int .u32 0, .int .u32 0, .int .u32 0, .int .u32 0, .int .u32 0, .int .u32 0, .int .u32 0, .int .u32 0, .int .u32 0, .int .u32 0, .int .u32 0, .int .u32 0, .int .u32 0, .int .u32 0, .int .u32 0, .int .u32 0, .int .u32 0, .int .u32 0, .int .u32 0, .int .u32 0, .int .u32 0, .int .u32 0, .int .u32 0, .int .u32 0, .int .u32 0, .int .u32 0, .int .u32 0, .int .u32 0, .int .u32 0, .int .u32 0, .int .u32 0, .int .u32 0, .int .u32 0, .int .u32 0, .int .u32 0, .int .u32 0, .int .u32 0] := by intro parts; kernel_rfl
theorem sz_164 : (Tryz.prog.info? 164).map (·.size) = some 64 := by kernel_rfl
theorem body_108 : Body Tryz.prog 108 := Body.mk Tryz.func108 rfl (by decide)
theorem body_81 : Body Tryz.prog 81 := Body.mk Tryz.func81 rfl (by decide)
theorem bld_53 : Bld Tryz.prog 53 (fun i => some (i * 1, 1)) [.int .u8 0, .int .u8 0, .int .u8 0, .int .u8 0, .int .u8 0, .int .u8 0, .int .u8 0, .int .u8 0, .int .u8 0, .int .u8 0, .int .u8 0, .int .u8 0, .int .u8 0, .int .u8 0, .int .u8 0, .int .u8 0, .int .u8 0, .int .u8 0, .int .u8 0, .int .u8 0, .int .u8 0, .int .u8 0, .int .u8 0, .int .u8 0, .int .u8 0, .int .u8 0, .int .u8 0, .int .u8 0, .int .u8 0, .int .u8 0, .int .u8 0, .int .u8 0] := by intro parts; kernel_rfl
theorem body_14 : Body Tryz.prog 14 := Body.mk Tryz.func14 rfl (by decide)
theorem body_68 : Body Tryz.prog 68 := Body.mk Tryz.func68 rfl (by decide)
theorem body_67 : Body Tryz.prog 67 := Body.mk Tryz.func67 rfl (by decide)
theorem body_66 : Body Tryz.prog 66 := Body.mk Tryz.func66 rfl (by decide)
theorem body_47 : Body Tryz.prog 47 := Body.mk Tryz.func47 rfl (by decide)
theorem body_46 : Body Tryz.prog 46 := Body.mk Tryz.func46 rfl (by decide)
theorem body_41 : Body Tryz.prog 41 := Body.mk Tryz.func41 rfl (by decide)
theorem body_43 : Body Tryz.prog 43 := Body.mk Tryz.func43 rfl (by decide)
theorem body_44 : Body Tryz.prog 44 := Body.mk Tryz.func44 rfl (by decide)
theorem body_45 : Body Tryz.prog 45 := Body.mk Tryz.func45 rfl (by decide)
theorem body_61 : Body Tryz.prog 61 := Body.mk Tryz.func61 rfl (by decide)
theorem body_38 : Body Tryz.prog 38 := Body.mk Tryz.func38 rfl (by decide)
theorem body_40 : Body Tryz.prog 40 := Body.mk Tryz.func40 rfl (by decide)
theorem bld_87 : Bld Tryz.prog 87 (fun i => some (i * 1, 1)) [.int .u64 0, .int .u64 0, .int .u64 0, .int .u64 0] := by intro parts; kernel_rfl
theorem body_85 : Body Tryz.prog 85 := Body.mk Tryz.func85 rfl (by decide)
theorem body_69 : Body Tryz.prog 69 := Body.mk Tryz.func69 rfl (by decide)
theorem body_71 : Body Tryz.prog 71 := Body.mk Tryz.func71 rfl (by decide)
theorem body_72 : Body Tryz.prog 72 := Body.mk Tryz.func72 rfl (by decide)
theorem body_82 : Body Tryz.prog 82 := Body.mk Tryz.func82 rfl (by decide)
theorem body_59 : Body Tryz.prog 59 := Body.mk Tryz.func59 rfl (by decide)
theorem body_58 : Body Tryz.prog 58 := Body.mk Tryz.func58 rfl (by decide)
theorem body_48 : Body Tryz.prog 48 := Body.mk Tryz.func48 rfl (by decide)
theorem body_35 : Body Tryz.prog 35 := Body.mk Tryz.func35 rfl (by decide)
theorem body_60 : Body Tryz.prog 60 := Body.mk Tryz.func60 rfl (by decide)
theorem zero_132 : (Tryz.prog.info? 132).map (·.zero) = some (some (Value.agg #[Value.int .u64 0, Value.int .u64 0, Value.int .u64 0, Value.int .u64 0, Value.int .u64 0, Value.int .u64 0, Value.int .u64 0, Value.int .u64 0])) := by kernel_rfl
theorem body_98 : Body Tryz.prog 98 := Body.mk Tryz.func98 rfl (by decide)
theorem sz_132 : (Tryz.prog.info? 132).map (·.size) = some 8 := by kernel_rfl
theorem body_76 : Body Tryz.prog 76 := Body.mk Tryz.func76 rfl (by decide)
theorem body_37 : Body Tryz.prog 37 := Body.mk Tryz.func37 rfl (by decide)
theorem info_30 : (Tryz.prog.info? 30).map (fun i => (i.zero, i.size, i.bytes)) = some (some (Value.int .u64 0), 1, 8) := by kernel_rfl
theorem one_56 : One Tryz.prog 56 := One.mk Tryz.underlying56 rfl
theorem fa_93_0 : FA Tryz.prog 93 0 0 := FA.mk (m := 0) Tryz.underlying93 rfl rfl (by kernel_rfl)
theorem one_22 : One Tryz.prog 22 := One.mk Tryz.underlying22 rfl
theorem body_78 : Body Tryz.prog 78 := Body.mk Tryz.func78 rfl (by decide)
theorem fa_93_2 : FA Tryz.prog 93 2 2 := FA.mk (m := 0) Tryz.underlying93 rfl rfl (by kernel_rfl)
theorem one_90 : One Tryz.prog 90 := One.mk Tryz.underlying90 rfl
theorem body_77 : Body Tryz.prog 77 := Body.mk Tryz.func77 rfl (by decide)
theorem zf_53 : (Tryz.prog.info? 53).bind (·.zero) = some (Value.agg #[Value.int .u8 0, Value.int .u8 0, Value.int .u8 0, Value.int .u8 0, Value.int .u8 0, Value.int .u8 0, Value.int .u8 0, Value.int .u8 0, Value.int .u8 0, Value.int .u8 0, Value.int .u8 0, Value.int .u8 0, Value.int .u8 0, Value.int .u8 0, Value.int .u8 0, Value.int .u8 0, Value.int .u8 0, Value.int .u8 0, Value.int .u8 0, Value.int .u8 0, Value.int .u8 0, Value.int .u8 0, Value.int .u8 0, Value.int .u8 0, Value.int .u8 0, Value.int .u8 0, Value.int .u8 0, Value.int .u8 0, Value.int .u8 0, Value.int .u8 0, Value.int .u8 0, Value.int .u8 0]) := by kernel_rfl
theorem fa_93_3 : FA Tryz.prog 93 3 3 := FA.mk (m := 0) Tryz.underlying93 rfl rfl (by kernel_rfl)
theorem one_91 : One Tryz.prog 91 := One.mk Tryz.underlying91 rfl
theorem body_36 : Body Tryz.prog 36 := Body.mk Tryz.func36 rfl (by decide)
theorem bld_93 : Bld Tryz.prog 93 (fun i => (#[(0, 1), (1, 1), (2, 1), (3, 1)] : Array (Nat × Nat))[i]?) [.slice none 0 0, .int .u64 0, .map none, .map none] := by intro parts; kernel_rfl
theorem body_22 : Body Tryz.prog 22 := Body.mk Tryz.func22 rfl (by decide)
theorem fa_93_1 : FA Tryz.prog 93 1 1 := FA.mk (m := 0) Tryz.underlying93 rfl rfl (by kernel_rfl)
theorem body_54 : Body Tryz.prog 54 := Body.mk Tryz.func54 rfl (by decide)
theorem body_53 : Body Tryz.prog 53 := Body.mk Tryz.func53 rfl (by decide)
theorem one_67 : One Tryz.prog 67 := One.mk Tryz.underlying67 rfl
theorem body_51 : Body Tryz.prog 51 := Body.mk Tryz.func51 rfl (by decide)
theorem one_73 : One Tryz.prog 73 := One.mk Tryz.underlying73 rfl
theorem info_53 : (Tryz.prog.info? 53).map (fun i => (i.zero, i.size, i.bytes)) = some (some (Value.agg #[Value.int .u8 0, Value.int .u8 0, Value.int .u8 0, Value.int .u8 0, Value.int .u8 0, Value.int .u8 0, Value.int .u8 0, Value.int .u8 0, Value.int .u8 0, Value.int .u8 0, Value.int .u8 0, Value.int .u8 0, Value.int .u8 0, Value.int .u8 0, Value.int .u8 0, Value.int .u8 0, Value.int .u8 0, Value.int .u8 0, Value.int .u8 0, Value.int .u8 0, Value.int .u8 0, Value.int .u8 0, Value.int .u8 0, Value.int .u8 0, Value.int .u8 0, Value.int .u8 0, Value.int .u8 0, Value.int .u8 0, Value.int .u8 0, Value.int .u8 0, Value.int .u8 0, Value.int .u8 0]), 32, 32) := by kernel_rfl
theorem sz_73 : (Tryz.prog.info? 73).map (·.size) = some 1 := by kernel_rfl
theorem body_73 : Body Tryz.prog 73 := Body.mk Tryz.func73 rfl (by decide)
theorem body_49 : Body Tryz.prog 49 := Body.mk Tryz.func49 rfl (by decide)
theorem body_50 : Body Tryz.prog 50 := Body.mk Tryz.func50 rfl (by decide)
theorem body_21 : Body Tryz.prog 21 := Body.mk Tryz.func21 rfl (by decide)
theorem bld_62 : Bld Tryz.prog 62 (fun i => (#[(0, 1), (1, 1)] : Array (Nat × Nat))[i]?) [.slice none 0 0, .map none] := by intro parts; kernel_rfl
theorem bld_33 : Bld Tryz.prog 33 (fun i => (#[(0, 1), (1, 1), (2, 1)] : Array (Nat × Nat))[i]?) [.int .u64 0, .int .i64 0, .slice none 0 0] := by intro parts; kernel_rfl
theorem info_33 : (Tryz.prog.info? 33).map (fun i => (i.zero, i.size, i.bytes)) = some (some (Value.agg #[Value.int .u64 0, Value.int .i64 0, Value.slice none 0 0]), 3, 40) := by kernel_rfl
theorem body_23 : Body Tryz.prog 23 := Body.mk Tryz.func23 rfl (by decide)
theorem fa_33_2 : FA Tryz.prog 33 2 2 := FA.mk (m := 0) Tryz.underlying33 rfl rfl (by kernel_rfl)
theorem body_24 : Body Tryz.prog 24 := Body.mk Tryz.func24 rfl (by decide)
theorem fa_33_0 : FA Tryz.prog 33 0 0 := FA.mk (m := 0) Tryz.underlying33 rfl rfl (by kernel_rfl)
theorem fa_62_1 : FA Tryz.prog 62 1 1 := FA.mk (m := 0) Tryz.underlying62 rfl rfl (by kernel_rfl)
theorem one_60 : One Tryz.prog 60 := One.mk Tryz.underlying60 rfl
theorem zf_69 : (Tryz.prog.info? 69).bind (·.zero) = some (Value.agg #[Value.pointer none, Value.map none]) := by kernel_rfl
theorem zero_69 : (Tryz.prog.info? 69).map (·.zero) = some (some (Value.agg #[Value.pointer none, Value.map none])) := by kernel_rfl
theorem sz_69 : (Tryz.prog.info? 69).map (·.size) = some 2 := by kernel_rfl
theorem body_25 : Body Tryz.prog 25 := Body.mk Tryz.func25 rfl (by decide)
theorem fa_69_0 : FA Tryz.prog 69 0 0 := FA.mk (m := 0) Tryz.underlying69 rfl rfl (by kernel_rfl)
theorem fa_33_1 : FA Tryz.prog 33 1 1 := FA.mk (m := 0) Tryz.underlying33 rfl rfl (by kernel_rfl)
theorem one_3 : One Tryz.prog 3 := One.mk Tryz.underlying3 rfl
theorem body_26 : Body Tryz.prog 26 := Body.mk Tryz.func26 rfl (by decide)
theorem fa_69_1 : FA Tryz.prog 69 1 1 := FA.mk (m := 0) Tryz.underlying69 rfl rfl (by kernel_rfl)
theorem zf_23 : (Tryz.prog.info? 23).bind (·.zero) = some (Value.slice none 0 0) := by kernel_rfl
theorem agg_69 : Agg Tryz.prog 69 2 := Agg.mk Tryz.underlying69 rfl (by kernel_rfl)
theorem fa_62_0 : FA Tryz.prog 62 0 0 := FA.mk (m := 0) Tryz.underlying62 rfl rfl (by kernel_rfl)
theorem sz_56 : (Tryz.prog.info? 56).map (·.size) = some 1 := by kernel_rfl
theorem sz_67 : (Tryz.prog.info? 67).map (·.size) = some 1 := by kernel_rfl
theorem body_29 : Body Tryz.prog 29 := Body.mk Tryz.func29 rfl (by decide)
theorem body_28 : Body Tryz.prog 28 := Body.mk Tryz.func28 rfl (by decide)
theorem body_32 : Body Tryz.prog 32 := Body.mk Tryz.func32 rfl (by decide)
theorem body_12 : Body Tryz.prog 12 := Body.mk Tryz.func12 rfl (by decide)
theorem body_119 : Body Tryz.prog 119 := Body.mk Tryz.func119 rfl (by decide)
theorem body_105 : Body Tryz.prog 105 := Body.mk Tryz.func105 rfl (by decide)
theorem body_116 : Body Tryz.prog 116 := Body.mk Tryz.func116 rfl (by decide)
theorem sz_3 : (Tryz.prog.info? 3).map (·.size) = some 1 := by kernel_rfl
theorem body_122 : Body Tryz.prog 122 := Body.mk Tryz.func122 rfl (by decide)
theorem zero_3 : (Tryz.prog.info? 3).map (·.zero) = some (some (Value.int .i64 0)) := by kernel_rfl
theorem body_118 : Body Tryz.prog 118 := Body.mk Tryz.func118 rfl (by decide)
theorem body_97 : Body Tryz.prog 97 := Body.mk Tryz.func97 rfl (by decide)
theorem body_75 : Body Tryz.prog 75 := Body.mk Tryz.func75 rfl (by decide)
theorem one_167 : One Tryz.prog 167 := One.mk Tryz.underlying167 rfl
theorem sz_167 : (Tryz.prog.info? 167).map (·.size) = some 1 := by kernel_rfl
theorem zero_167 : (Tryz.prog.info? 167).map (·.zero) = some (some (Value.int .u64 0)) := by kernel_rfl
theorem body_112 : Body Tryz.prog 112 := Body.mk Tryz.func112 rfl (by decide)
theorem body_113 : Body Tryz.prog 113 := Body.mk Tryz.func113 rfl (by decide)
theorem body_99 : Body Tryz.prog 99 := Body.mk Tryz.func99 rfl (by decide)
theorem body_100 : Body Tryz.prog 100 := Body.mk Tryz.func100 rfl (by decide)
theorem body_101 : Body Tryz.prog 101 := Body.mk Tryz.func101 rfl (by decide)
theorem body_102 : Body Tryz.prog 102 := Body.mk Tryz.func102 rfl (by decide)
theorem body_103 : Body Tryz.prog 103 := Body.mk Tryz.func103 rfl (by decide)
theorem body_104 : Body Tryz.prog 104 := Body.mk Tryz.func104 rfl (by decide)
theorem body_106 : Body Tryz.prog 106 := Body.mk Tryz.func106 rfl (by decide)
theorem body_107 : Body Tryz.prog 107 := Body.mk Tryz.func107 rfl (by decide)
theorem body_80 : Body Tryz.prog 80 := Body.mk Tryz.func80 rfl (by decide)
theorem body_8 : Body Tryz.prog 8 := Body.mk Tryz.func8 rfl (by decide)
theorem body_9 : Body Tryz.prog 9 := Body.mk Tryz.func9 rfl (by decide)
theorem body_10 : Body Tryz.prog 10 := Body.mk Tryz.func10 rfl (by decide)
theorem body_11 : Body Tryz.prog 11 := Body.mk Tryz.func11 rfl (by decide)
theorem body_16 : Body Tryz.prog 16 := Body.mk Tryz.func16 rfl (by decide)
theorem body_15 : Body Tryz.prog 15 := Body.mk Tryz.func15 rfl (by decide)
theorem body_13 : Body Tryz.prog 13 := Body.mk Tryz.func13 rfl (by decide)
theorem body_57 : Body Tryz.prog 57 := Body.mk Tryz.func57 rfl (by decide)
theorem sz_22 : (Tryz.prog.info? 22).map (·.size) = some 1 := by kernel_rfl
theorem body_79 : Body Tryz.prog 79 := Body.mk Tryz.func79 rfl (by decide)
theorem body_55 : Body Tryz.prog 55 := Body.mk Tryz.func55 rfl (by decide)
theorem body_56 : Body Tryz.prog 56 := Body.mk Tryz.func56 rfl (by decide)
theorem body_34 : Body Tryz.prog 34 := Body.mk Tryz.func34 rfl (by decide)
theorem body_33 : Body Tryz.prog 33 := Body.mk Tryz.func33 rfl (by decide)
theorem body_7 : Body Tryz.prog 7 := Body.mk Tryz.func7 rfl (by decide)
theorem sz_33 : (Tryz.prog.info? 33).map (·.size) = some 3 := by kernel_rfl
theorem agg_33 : Agg Tryz.prog 33 3 := Agg.mk Tryz.underlying33 rfl (by kernel_rfl)
theorem body_17 : Body Tryz.prog 17 := Body.mk Tryz.func17 rfl (by decide)
theorem sz_4 : (Tryz.prog.info? 4).map (·.size) = some 1 := by kernel_rfl
theorem one_4 : One Tryz.prog 4 := One.mk Tryz.underlying4 rfl
theorem body_19 : Body Tryz.prog 19 := Body.mk Tryz.func19 rfl (by decide)
theorem zero_33 : (Tryz.prog.info? 33).map (·.zero) = some (some (Value.agg #[Value.int .u64 0, Value.int .i64 0, Value.slice none 0 0])) := by kernel_rfl
theorem body_20 : Body Tryz.prog 20 := Body.mk Tryz.func20 rfl (by decide)
theorem zqa {p : Prop} (h : p := by repeat (first | exact List.Mem.head _ | refine List.Mem.tail _ ?_)) : p := h
theorem zqb {p : Prop} (h : p := by first | exact ltb rfl | (simp; done) | (simp; omega) | omega | (simp [*]; omega)) : p := h
theorem zqc {p : Prop} (h : p := by repeat (first | exact Lend.same _ _ | exact Lend.row _ _ _ _ _ _ (by decide) | apply Lend.there)) : p := h
theorem zqd {p : Prop} (h : p := by repeat (first | exact Picks.nil _ | apply Picks.cons | exact Pull.here _ _ | apply Pull.there)) : p := h
theorem zqe {p : Prop} (h : p := by repeat (first | exact Subs.nil _ | apply Subs.cons | exact List.Mem.head _ | refine List.Mem.tail _ ?_)) : p := h
theorem zqf {p : Prop} (h : p := by first | (constructor <;> omega) | (constructor <;> simp <;> omega)) : p := h
theorem zqg {p : Prop} (h : p := by first | omega | (simp; omega)) : p := h
end Go.Proofs.YthfipbjmpeegbaaGreatDoor
