/- Ranges over functions: the rounds' bodies, what stands behind such a loop, and an iterator's calls of yield. No program in sight. -/
import Derived.Test.YtffgimlkmfjgmaaDoorK4
import Derived.RangeFuncNested
import Derived.RangeFuncLeaves
import Derived.OrdersIn
namespace Go.Proofs.YtffgimlkmfjgmaaDoor
open Go.RowKit
set_option linter.unusedVariables false
/-- The wide fence, in a round or in none. -/
abbrev FW (r : Option Nat) : Fence := { Fence.wide with round := r }
theorem callsFW {r : Option Nat} {n : Nat} {P : Program} {f : FuncId} {args : Array Value} {w : World} {R : Ending → World → Prop} : CallsIn (FW r) n P f args w R ↔ Calls P f args w R :=
  Iff.trans (Iff.of_eq rfl) (callsIn_wide (n := n))
theorem rowsFW {r : Option Nat} {n : Nat} {P : Program} {f : String} {args : Array Value} {w : World} {R : Value → World → Prop} (h : Rows P f args w R) : RowsIn (FW r) n P f args w R := fun c cs _ => by
  obtain ⟨v, w', hR, hs⟩ := h c cs
  exact ⟨v, w', hR, stepsIn_wide.2 hs⟩
/-- Where a range over a function stands: the round, and what the activation has put off. -/
structure Md where
  rd : Option Nat
  ds : List Deferred
def Md.up (m : Md) (a : Act) : Act := { a with defers := a.defers ++ m.ds }
@[simp] theorem Md.up_tmps (m : Md) (a : Act) : (m.up a).tmps = a.tmps := rfl
theorem Md.up_put (m : Md) (a : Act) (d : Option Tmp) (v : Value) : m.up (a.put d v) = (m.up a).put d v := by cases d <;> rfl
theorem Md.up_eval (m : Md) (a : Act) : (m.up a).eval = a.eval := rfl
/-- Q, before what was put off. -/
def QU (m : Md) (Q : Exit → Act → World → Prop) : Exit → Act → World → Prop := fun e a w => Q e (m.up a) w
theorem NP.QU {m : Md} {Q : Exit → Act → World → Prop} (h : NP Q) : NP (QU m Q) := fun c a w => h c _ w
def noDefer (o : Oper) : Bool := match o.op with
  | .defer _ => false
  | _ => true
theorem noDefer_spec {o : Oper} (h : noDefer o = true) : ∀ c, o.op ≠ .defer c := fun c e => by unfold noDefer at h; rw [e] at h; cases h
section
variable {P : Program} {m : Md} {n : Nat} {Q Q1 : Exit → Act → World → Prop} {ops : Array Oper}
/-- No letting out. -/
def NL (Q : Exit → Act → World → Prop) : Prop := ∀ a w, ¬ Q .outgrown a w
theorem uponIn_of {o : Oper} {a : Act} {K K' : Act → World → Prop} {r : Result Next} (hL : NL Q1) (hp : ∀ c a w, Q1 (.panic c) a w → Q (.panic c) (m.up a) w) (hK : ∀ a w, K a w → K' (m.up a) w) (h : o.upon P a K Q1 r) : o.uponIn (FW m.rd) n P (m.up a) K' Q r := by
  have hp' : ∀ (d : Option Tmp) (v : Value) (w : World), K (a.put d v) w → K' ((m.up a).put d v) w := fun d v w h => by rw [← m.up_put]; exact hK _ _ h
  have nl : ¬ LetsOut Q1 := fun ⟨a, w, h⟩ => hL _ w h
  cases r with
  | ok x w' =>
    cases x with
    | value v => exact hp' _ _ _ h
    | skip => exact hp' _ _ _ h
    | defer d =>
      have h1 := hK _ _ h
      rw [m.up_put] at h1
      exact h1
    | enter f args =>
      refine ⟨fun h => (by cases h), callsFW.2 (Calls.mono h fun e w'' he => ?_)⟩
      cases e with
      | returned v => exact hp' _ _ _ he
      | panicked c => exact hp _ _ _ he
      | outgrown => exact absurd he nl
    | row s args => exact ⟨fun h => (by cases h), rowsFW (Rows.mono h fun v w'' he => hp' _ _ _ he)⟩
    | _ => exact h.elim
  | halt x w' =>
    cases x with
    | panic v => exact hp _ _ _ h
    | _ => exact h.elim
theorem wpIn_of {o : Oper} {a : Act} {w : World} {K K' : Act → World → Prop} (hL : NL Q1) (hp : ∀ c a w, Q1 (.panic c) a w → Q (.panic c) (m.up a) w) (hd : noDefer o = true) (hK : ∀ a w, K a w → K' (m.up a) w) (h : o.wp P a w K Q1) : o.wpIn (FW m.rd) n P (m.up a) w K' Q := by
  refine ⟨fun _ _ => trivial, ?_⟩
  rw [Oper.semAt_eq _ _ _ (noDefer_spec hd)]
  exact uponIn_of hL hp hK h
theorem wpListIn_of {K : Act → World → Prop} (hL : NL Q) {l2 : List Oper} (hK : ∀ a w, K a w → wpListIn (FW m.rd) n P ops Q l2 (m.up a) w) : ∀ (l : List Oper), l.all noDefer = true → ∀ (a : Act) (w : World),
    wpList P ops (Exit.then K (QU m Q)) l a w → wpListIn (FW m.rd) n P ops Q (l ++ l2) (m.up a) w
  | [], _, a, w, h => hK _ _ h
  | o :: l, hd, a, w, h => by
    have nl : NL (Exit.then K (QU m Q)) := fun a w h => hL _ w h
    rw [List.all_cons, Bool.and_eq_true] at hd
    have ih := wpListIn_of hL hK l hd.2
    simp only [List.cons_append]
    unfold wpList at h
    unfold wpListIn
    by_cases hw : Region.wanted o (yielded ops (m.up a).tmps) = true
    · have hw' : Region.wanted o (yielded ops a.tmps) = true := hw
      rw [if_pos hw'] at h
      rw [if_pos hw]
      rcases h with h | h
      · exact wpIn_of nl (fun c a w h => h) hd.1 (K := wpList P ops (Exit.then K (QU m Q)) l) (fun a w h => ih a w h) h
      · exact absurd h.2 (fun ⟨a, w, h⟩ => nl a w h)
    · have hw' : ¬ Region.wanted o (yielded ops a.tmps) = true := hw
      rw [if_neg hw'] at h
      rw [if_neg hw]
      exact ⟨fun _ _ => trivial, by rw [← m.up_put]; exact ih _ _ h⟩
theorem wpOpIn_of {K K' : Act → World → Prop} {i : Nat} {a : Act} {w : World} (hL : NL Q) (hd : ops.toList.all noDefer = true) (hK : ∀ a w, K a w → K' (m.up a) w) (h : wpOp P ops (QU m Q) i K a w) : wpOpIn (FW m.rd) n P ops Q i K' (m.up a) w := by
  have nl : NL (QU m Q) := fun a w h => hL _ w h
  unfold wpOp at h
  unfold wpOpIn
  split
  · rename_i h0
    simp only [h0] at h
    exact hK _ _ h
  · rename_i o ho
    simp only [ho] at h
    have hdo : noDefer o = true := List.all_eq_true.1 hd o (by rw [Array.getElem?_toList.symm] at ho; exact List.mem_of_getElem? ho)
    by_cases hw : Region.wanted o (yielded ops (m.up a).tmps) = true
    · have hw' : Region.wanted o (yielded ops a.tmps) = true := hw
      rw [if_pos hw'] at h
      rw [if_pos hw]
      rcases h with h | h
      · exact wpIn_of nl (fun c a w h => h) hdo hK h
      · exact absurd h.2 (fun ⟨a, w, h⟩ => nl a w h)
    · have hw' : ¬ Region.wanted o (yielded ops a.tmps) = true := hw
      rw [if_neg hw'] at h
      rw [if_neg hw]
      exact ⟨fun _ _ => trivial, by rw [← m.up_put]; exact hK _ _ h⟩
theorem wpAnyIn_of {md : Region.Mode} (hL : NL Q) (hd : ops.toList.all noDefer = true) : ∀ (fuel : Nat) (listed : Array Bool) (a : Act) (w : World), wpAny P md ops (QU m Q) fuel listed a w → wpAnyIn (FW m.rd) n P md ops Q fuel listed (m.up a) w
  | 0, _, _, _, h => h
  | fuel + 1, listed, a, w, h => ⟨h.1, fun i hi => wpOpIn_of hL hd (fun a w h => wpAnyIn_of hL hd fuel _ a w h) (h.2 i hi)⟩
end
/-! ### The judgement, where a range over a function stands around -/
/-- Nothing panics, nothing outgrows. -/
class NPL (Q : Exit → Act → World → Prop) : Prop where
  np : NP Q
  nl : NL Q
instance NPL.then {K : Act → World → Prop} {Q : Exit → Act → World → Prop} [h : NPL Q] : NPL (Exit.then K Q) := ⟨h.np.then, fun a w hq => h.nl a w hq⟩
instance NPL.inBlock {id : Nat} {Q : Exit → Act → World → Prop} [h : NPL Q] : NPL (Exit.inBlock id Q) := ⟨h.np.inBlock, fun a w hq => h.nl a w hq⟩
instance NPL.round {P : Program} {l : Nat} {R : Ending → World → Prop} : NPL (roundPost P l R) := ⟨fun _ _ _ h => h, fun _ _ h => h⟩
def JX (P : Program) (N : Nat) (m : Md) (C : Beg) (c : Code) (Q : Exit → Act → World → Prop) (E : Env) (Γ H : RL) : Prop :=
  ∀ a w, EnvOk N E a → St C Γ H w → c.wpIn (FW m.rd) 0 P Q (m.up a) w
def JXO (P : Program) (N : Nat) (m : Md) (C : Beg) (ops : Array Oper) (l : List Oper) (Q : Exit → Act → World → Prop) (E : Env) (Γ H : RL) : Prop :=
  ∀ a w, EnvOk N E a → St C Γ H w → wpListIn (FW m.rd) 0 P ops Q l (m.up a) w
section
variable {P : Program} {N : Nat} {m : Md} {C : Beg} {Q : Exit → Act → World → Prop} {E : Env} {Γ H : RL}
theorem JX.seq {x y : Code} (h : JX P N m C x (Exit.then (y.wpIn (FW m.rd) 0 P Q) Q) E Γ H) : JX P N m C (.seq x y) Q E Γ H := fun a w he hs => wpIn_seq (h a w he hs)
theorem JX.skip [hn : NPL Q] (h : JQ N C .normal (QU m Q) E Γ H) : JX P N m C .skip Q E Γ H := fun a w he hs => wpIn_skip (h hn.np.QU a w he hs)
theorem JX.exit [hn : NPL Q] {id : Nat} (h : JQ N C (.exit id) (QU m Q) E Γ H) : JX P N m C (.exit id) Q E Γ H := fun a w he hs => wpIn_exit (h hn.np.QU a w he hs)
theorem JX.ret [hn : NPL Q] (h : JQ N C .ret (QU m Q) E Γ H) : JX P N m C .ret Q E Γ H := fun a w he hs => wpIn_ret (h hn.np.QU a w he hs)
theorem JX.block {id : Nat} {c : Code} (h : JX P N m C c (Exit.inBlock id Q) E Γ H) : JX P N m C (.block id c) Q E Γ H := fun a w he hs => wpIn_block (h a w he hs)
theorem JX.cond {c : Operand} {x y : Code} {t : Bool} (hc : ev E c = some (.bool t)) (ht : t = true → JX P N m C x Q E Γ H) (hf : t = false → JX P N m C y Q E Γ H) : JX P N m C (.cond c x y) Q E Γ H :=
  fun a w he hs => wpIn_cond_split (by rw [m.up_eval]; exact he.ev hc) (fun e => ht e a w he hs) (fun e => hf e a w he hs)
theorem JX.cn {c : Operand} {x y : Code} {b : Bool} {p q : Prop} [hb : NB b p q] (hc : ev E c = some (.bool b)) (ht : p → JX P N m C x Q E Γ H) (hf : q → JX P N m C y Q E Γ H) : JX P N m C (.cond c x y) Q E Γ H :=
  .cond hc (fun e => ht (hb.t e)) (fun e => hf (hb.f e))
theorem JX.ct {c : Operand} {x y : Code} (hc : ev E c = some (.bool true)) (ht : JX P N m C x Q E Γ H) : JX P N m C (.cond c x y) Q E Γ H := .cond hc (fun _ => ht) (fun e => by cases e)
theorem JX.cf {c : Operand} {x y : Code} (hc : ev E c = some (.bool false)) (hf : JX P N m C y Q E Γ H) : JX P N m C (.cond c x y) Q E Γ H := .cond hc (fun e => by cases e) (fun _ => hf)
theorem JX.k1 {c : Operand} {x y : Code} {e : Bool} (hc : ev E c = some (.bool e)) (he : e = true) (ht : JX P N m C x Q E Γ H) : JX P N m C (.cond c x y) Q E Γ H := by subst he; exact .ct hc ht
theorem JX.k0 {c : Operand} {x y : Code} {e : Bool} (hc : ev E c = some (.bool e)) (he : e = false) (hf : JX P N m C y Q E Γ H) : JX P N m C (.cond c x y) Q E Γ H := by subst he; exact .cf hc hf
theorem JX.know {c : Code} {φ : Prop} (hφ : ∀ w, Sat Γ H w → φ) (h : φ → JX P N m C c Q E Γ H) : JX P N m C c Q E Γ H := fun a w he hs => h (hφ w hs.sat) a w he hs
/-- A statement in order: as everywhere. -/
theorem JX.region [hn : NPL Q] {id : Nat} {l : List Oper} (h : JO P N C l.toArray l (QU m Q) E Γ H) (hd : l.all noDefer = true := by rfl) : JX P N m C (.region id l.toArray false) Q E Γ H := fun a w he hs => by
  refine wpIn_region_lit ?_
  have h1 := h hn.np.QU a w he hs
  have h2 : wpList P l.toArray (Exit.then (fun a w => QU m Q .normal a w) (QU m Q)) l a w := by
    have : Exit.then (fun a w => QU m Q .normal a w) (QU m Q) = QU m Q := by funext e a w; cases e <;> rfl
    rw [this]; exact h1
  have h3 := wpListIn_of (n := 0) (ops := l.toArray) (l2 := []) hn.nl (fun a w h => wpListIn_nil h) l hd a w h2
  rwa [List.append_nil] at h3
/-- A statement whose order is open. -/
theorem JX.draw [hn : NPL Q] {id : Nat} {ops : Array Oper} (l : OT) (T M U : Nat → Bool) (hm : P.follows .mixedOrders = true) (hs : Region.noSelect ops = true) (hl : l.len ≤ ops.size)
    (hc : chkOrd .any ops T M U true l (Array.replicate ops.size false) = true) (h : JR P N C ops T M U Γ H l (QU m Q) E Γ H) (hd : ops.toList.all noDefer = true := by rfl) : JX P N m C (.region id ops true) Q E Γ H :=
  fun a w he hst => by
    refine wpIn_region_any hm ?_
    have h1 := wpAny_of_T _ _ _ _ ((wpAnyT_of_ord hs hn.np.QU l).1 _ _ _ _ hl hc (St.keep0 hst.drew) (.inl hst.drew) (h hn.np.QU a _ he hst.drew))
    exact wpAnyIn_of hn.nl hd _ _ _ _ h1
/-- A statement that calls yield: what stands ahead of the call, and the call. -/
theorem JX.regionO {id : Nat} {l : List Oper} (h : JXO P N m C l.toArray l Q E Γ H) : JX P N m C (.region id l.toArray false) Q E Γ H := fun a w he hs => wpIn_region_lit (h a w he hs)
/-- .. the operations ahead of it, as everywhere. -/
theorem JXO.pre [hn : NPL Q] {ops : Array Oper} (k : Nat) {l : List Oper} (h : JO P N C ops (l.take k) (Exit.then (fun a w => wpListIn (FW m.rd) 0 P ops Q (l.drop k) (m.up a) w) (QU m Q)) E Γ H) (hd : (l.take k).all noDefer = true := by rfl) : JXO P N m C ops l Q E Γ H := fun a w he hs => by
  have h1 := wpListIn_of (n := 0) (ops := ops) (l2 := l.drop k) hn.nl (fun a w h => h) (l.take k) hd a w (h hn.np.QU.then a w he hs)
  rwa [List.take_append_drop] at h1
theorem JQ.xpre {l2 : List Oper} {ops : Array Oper} {Q' : Exit → Act → World → Prop} (h : JXO P N m C ops l2 Q E Γ H) : JQ N C .normal (Exit.then (fun a w => wpListIn (FW m.rd) 0 P ops Q l2 (m.up a) w) Q') E Γ H := fun _ a w he hs => h a w he hs
theorem JXO.nil [hn : NPL Q] {ops : Array Oper} (h : JQ N C .normal (QU m Q) E Γ H) : JXO P N m C ops [] Q E Γ H := fun a w he hs => wpListIn_nil (h hn.np.QU a w he hs)
theorem JQ.xtn {y : Code} (h : JX P N m C y Q E Γ H) : JQ N C .normal (QU m (Exit.then (y.wpIn (FW m.rd) 0 P Q) Q)) E Γ H := fun _ a w he hs => h a w he hs
theorem JQ.xthen_exit {K : Act → World → Prop} {id : Nat} (h : JQ N C (.exit id) (QU m Q) E Γ H) : JQ N C (.exit id) (QU m (Exit.then K Q)) E Γ H := fun hn a w he hs => h (fun c a w hq => hn c a w hq) a w he hs
theorem JQ.xthen_ret {K : Act → World → Prop} (h : JQ N C .ret (QU m Q) E Γ H) : JQ N C .ret (QU m (Exit.then K Q)) E Γ H := fun hn a w he hs => h (fun c a w hq => hn c a w hq) a w he hs
theorem JQ.xblock_normal {id : Nat} (h : JQ N C .normal (QU m Q) E Γ H) : JQ N C .normal (QU m (Exit.inBlock id Q)) E Γ H := fun hn a w he hs => h (fun c a w hq => hn c a w hq) a w he hs
theorem JQ.xblock_ret {id : Nat} (h : JQ N C .ret (QU m Q) E Γ H) : JQ N C .ret (QU m (Exit.inBlock id Q)) E Γ H := fun hn a w he hs => h (fun c a w hq => hn c a w hq) a w he hs
theorem JQ.xblock_exit {id : Nat} (h : JQ N C .normal (QU m Q) E Γ H) : JQ N C (.exit id) (QU m (Exit.inBlock id Q)) E Γ H := fun hn a w he hs => by
  show (if id = id then Q .normal (m.up a) w else Q (.exit id) (m.up a) w)
  rw [if_pos rfl]
  exact h (fun c a w hq => hn c a w hq) a w he hs
theorem JQ.xblock_other {id id' : Nat} (hne : id' ≠ id) (h : JQ N C (.exit id') (QU m Q) E Γ H) : JQ N C (.exit id') (QU m (Exit.inBlock id Q)) E Γ H := fun hn a w he hs => by
  show (if id' = id then Q .normal (m.up a) w else Q (.exit id') (m.up a) w)
  rw [if_neg hne]
  exact h (fun c a w hq => hn c a w hq) a w he hs
end
end Go.Proofs.YtffgimlkmfjgmaaDoor
