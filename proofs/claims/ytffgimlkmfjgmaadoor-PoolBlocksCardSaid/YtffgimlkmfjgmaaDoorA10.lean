/- The calculus, part 10: function values, and calls through them. No program in sight. -/
import Derived.Test.YtffgimlkmfjgmaaDoorA9
import Derived.Scope
import Derived.Laws.Externs
namespace Go.Proofs.YtffgimlkmfjgmaaDoor
open Go.RowKit
section
variable {P : Program} {N : Nat} {C : Beg} {Q : Exit → Act → World → Prop} {E : Env} {Γ H : RL} {ty : TypeId} {ops : Array Oper} {rest : List Oper}
theorem Yv.makeFunc {fn : Fn} {xs ys : List Operand} {us vs : List Value} (hx : evs E xs = some us) (hy : evs E ys = some vs) : Yv P N C E Γ H (.makeFunc fn xs.toArray ys.toArray) ty (.func fn us.toArray vs.toArray) := by
  intro dst pos aft gd a w he _
  have h1 : xs.toArray.map a.eval = us.toArray := by rw [← he.evs hx]; simp
  have h2 : ys.toArray.map a.eval = vs.toArray := by rw [← he.evs hy]; simp
  simp only [execOp, Instr.makeFunc, h1, h2, Sem.run_bind, Sem.run_pure, Result.andThen_ok]
/-- A call through a function value. -/
theorem Mv.callF {f : FuncId} {x : Operand} {fst cap args : Array Value} {xs : List Operand} {vs : List Value} {AT : Array TypeId} {Γc Hc G : RL} {post : Value → RL → RL → Prop} (hb : Body P f) (hf : ev E x = some (.func (.func f) fst cap)) (hx : evs E xs = some vs)
    (ha : fst ++ vs.toArray ++ cap = args) (hc : Spec P f args Γc Hc post) (hp : Picks Hc H G) (hg : Lends Γc (G ++ Γ)) (h0 : ∀ v Γ1 H1, post v Γ1 H1 → Γ1 = []) :
    Mv P N C E Γ H (.call { callee := .value x, args := xs.toArray, argTypes := AT }) ty (fun v Γ' H' => ∃ H1, post v [] H1 ∧ Γ' = Γ ∧ H' = H1 ++ G) := by
  subst ha
  intro dst pos aft gd a w he hs K Q hK
  have hr : (execOp a.eval ⟨dst, .call { callee := .value x, args := xs.toArray, argTypes := AT }, ty, pos, aft, gd⟩).run P w = .ok (.enter f (fst ++ vs.toArray ++ cap)) w := by
    have h1 := hb (fst ++ vs.toArray ++ cap) w
    have h2 : xs.toArray.map a.eval = vs.toArray := by rw [← he.evs hx]; simp
    simp only [execOp, resolve, Deferred.ofValue, he.ev hf, h2, Sem.run_bind, Sem.run_pure, Result.andThen_ok, invoke]
    exact h1
  have hst := hs.perm hp.perm
  simp only [Oper.wp, hr, Oper.upon]
  refine (hc w (hst.sat.lend hg)).mono ?_
  rintro e w' ⟨v, Γ', H', rfl, hpost, hst'⟩
  have e0 := h0 _ _ _ hpost
  subst e0
  have hst2 : St ⟨w, [], Hc⟩ [] H' w' := by
    refine ⟨⟨by simp, by simp, hst'.sat.hok, hst'.sat.hlt, hst'.sat.hdj, by simp⟩, hst'.stp, hst'.hsub, ?_⟩
    rintro k ⟨r, hr, _⟩
    cases hr
  have := hst.frame (Γc := []) (by simp) hst2
  exact hK _ _ _ _ ⟨_, hpost, rfl, rfl⟩ (by simpa using this)
theorem JO.callF {d : Nat} {pos : String} {aft : Array Edge} {f : FuncId} {x : Operand} {fst cap args : Array Value} {xs : List Operand} {vs : List Value} {AT : Array TypeId} {Γc Hc G : RL} {post : Value → RL → RL → Prop} (hc : Spec P f args Γc Hc post) (hb : Body P f) (hf : ev E x = some (.func (.func f) fst cap)) (hx : evs E xs = some vs)
    (ha : fst ++ vs.toArray ++ cap = args) (hp : Picks Hc H G) (hg : Lends Γc (G ++ Γ)) (h0 : ∀ v Γ1 H1, post v Γ1 H1 → Γ1 = []) (hd : d < N)
    (h : ∀ v H2, (∃ H1, post v [] H1 ∧ H2 = H1 ++ G) → JO P N C ops rest Q ((d, v) :: E) Γ H2) :
    JO P N C ops (⟨some d, .call { callee := .value x, args := xs.toArray, argTypes := AT }, ty, pos, aft, none⟩ :: rest) Q E Γ H :=
  .m (Mv.callF hb hf hx ha hc hp hg h0) hd fun v Γ' H' ⟨H1, hp, hΓ, hH⟩ => by subst hΓ; exact h v H' ⟨H1, hp, hH⟩
theorem JO.callF0 {pos : String} {aft : Array Edge} {f : FuncId} {x : Operand} {fst cap args : Array Value} {xs : List Operand} {vs : List Value} {AT : Array TypeId} {Γc Hc G : RL} {post : Value → RL → RL → Prop} (hc : Spec P f args Γc Hc post) (hb : Body P f) (hf : ev E x = some (.func (.func f) fst cap)) (hx : evs E xs = some vs)
    (ha : fst ++ vs.toArray ++ cap = args) (hp : Picks Hc H G) (hg : Lends Γc (G ++ Γ)) (h0 : ∀ v Γ1 H1, post v Γ1 H1 → Γ1 = [])
    (h : ∀ v H2, (∃ H1, post v [] H1 ∧ H2 = H1 ++ G) → JO P N C ops rest Q E Γ H2) :
    JO P N C ops (⟨none, .call { callee := .value x, args := xs.toArray, argTypes := AT }, ty, pos, aft, none⟩ :: rest) Q E Γ H :=
  .m0 (Mv.callF hb hf hx ha hc hp hg h0) fun v Γ' H' ⟨H1, hp, hΓ, hH⟩ => by subst hΓ; exact h v H' ⟨H1, hp, hH⟩
theorem JO.env {l : List Oper} (E' : Env) (hE : Sub E' E) (h : JO P N C ops l Q E' Γ H) : JO P N C ops l Q E Γ H := fun hn a w he hs => h hn a w (he.sub hE) hs
theorem JC.frz {c : Code} {r : Res} {G : RL} (hp : Pull r H G) (h : JC P N C c Q E (r :: Γ) G) : JC P N C c Q E Γ H :=
  fun hn a w he hs => h hn a w he ((hs.perm hp.perm).freeze)
/-! ### Scopes, labels -/
theorem NP.noGoto {Q : Exit → Act → World → Prop} (h : NP Q) : NP (Exit.noGoto Q) := fun c a w hq => h c a w hq
theorem JC.scope {c : Code} (h : JC P N C c (Exit.noGoto Q) E Γ H) : JC P N C (.scope c) Q E Γ H := fun hn a w he hs => wp_scope_straight (h hn.noGoto a w he hs)
theorem JC.label {l : Nat} (h : JQ N C .normal Q E Γ H) : JC P N C (.label l) Q E Γ H := fun hn a w he hs => wp_label (h hn a w he hs)
theorem JQ.scope_normal (h : JQ N C .normal Q E Γ H) : JQ N C .normal (Exit.noGoto Q) E Γ H := fun hn a w he hs => h (fun c a w hq => hn c a w hq) a w he hs
theorem JQ.scope_ret (h : JQ N C .ret Q E Γ H) : JQ N C .ret (Exit.noGoto Q) E Γ H := fun hn a w he hs => h (fun c a w hq => hn c a w hq) a w he hs
theorem JQ.scope_exit {id : Nat} (h : JQ N C (.exit id) Q E Γ H) : JQ N C (.exit id) (Exit.noGoto Q) E Γ H := fun hn a w he hs => h (fun c a w hq => hn c a w hq) a w he hs

/-- A package's variable, loaded as a whole. -/
theorem Yv.loadVar {T n b : Nat} {x : Operand} {cs : List Value} (hA : Agg P T n) (hm : Res.var b cs ∈ Γ) (hx : ev E x = some (ptr b 0)) (hl : cs.length = n) : Yv P N C E Γ H (.load T x) ty (.agg cs.toArray) :=
  .loadA hA hx hl fun i v hv => by rw [Nat.zero_add]; exact Kn.var hm hv
/-! ### Calls that the model stands in for -/
theorem Yv.ext {f : FuncId} {xs : List Operand} {vs : List Value} {AT : Array TypeId} {v : Value} (hx : evs E xs = some vs) (hr : ∀ w, (callFunc f vs.toArray).run P w = .ok (.value v) w) :
    Yv P N C E Γ H (.call { callee := .value (.func f), args := xs.toArray, argTypes := AT }) ty v := by
  intro dst pos aft gd a w he _
  have h2 : xs.toArray.map a.eval = vs.toArray := by rw [← he.evs hx]; simp
  simp only [execOp, resolve, Deferred.ofValue, Act.eval, h2, Sem.run_bind, Sem.run_pure, Result.andThen_ok, invoke]
  have := hr w
  simpa using this
end
theorem add64 {P : Program} {f : FuncId} {fn : Func} (hf : P.funcs[f]? = some fn) (hb : fn.body.isNone = true) (hn : (fn.name == "runtime.NumGoroutine") = false) (hx : Extern.findNext fn = none) (he : Extern.find fn = some add64Entry)
    (x y c : BitVec 64) (hc : c.toNat ≤ 1) (w : World) :
    (callFunc f #[u64 x, u64 y, u64 c]).run P w = .ok (.value (.tuple #[u64 (x + y + c), u64 (BitVec.ofNat 64 ((x.toNat + y.toNat + c.toNat) / 18446744073709551616))])) w := by
  unfold u64
  rw [run_callFunc_extern hf hn hb hx he, run_add64 x.toNat y.toNat c.toNat (by omega) (by omega) (by omega) (by omega)]
  simp only [Result.andThen]
  have h1 := x.isLt; have h2 := y.isLt
  congr 5 <;> simp <;> omega
def sub64Entry : Array Value → Sem Value := fun args => do
  let (x, y, b) ← Extern.MathBitsCarry.three "Sub64" args
  pure (Extern.MathBitsCarry.pair ((x + Extern.MathBitsCarry.m64 - y - b) % Extern.MathBitsCarry.m64) (if x < y + b then 1 else 0))
theorem run_sub64 {P : Program} (x y b : Nat) (hb : b ≤ 1) (w : World) :
    (sub64Entry #[.int .u64 x, .int .u64 y, .int .u64 b]).run P w =
      .ok (.tuple #[.int .u64 (((x + 18446744073709551616 - y - b) % 18446744073709551616 : Nat) : Int), .int .u64 ((if x < y + b then 1 else 0 : Nat) : Int)]) w := by
  have : b = 0 ∨ b = 1 := by omega
  rcases this with rfl | rfl <;> rfl
theorem sub64 {P : Program} {f : FuncId} {fn : Func} (hf : P.funcs[f]? = some fn) (hb : fn.body.isNone = true) (hn : (fn.name == "runtime.NumGoroutine") = false) (hx : Extern.findNext fn = none) (he : Extern.find fn = some sub64Entry)
    (x y c : BitVec 64) (hc : c.toNat ≤ 1) (w : World) :
    (callFunc f #[u64 x, u64 y, u64 c]).run P w = .ok (.value (.tuple #[u64 (x - y - c), u64 (if x.toNat < y.toNat + c.toNat then 1 else 0)])) w := by
  unfold u64
  rw [run_callFunc_extern hf hn hb hx he, run_sub64 x.toNat y.toNat c.toNat hc]
  simp only [Result.andThen]
  have h1 := x.isLt; have h2 := y.isLt
  have e : (x.toNat + 18446744073709551616 - y.toNat - c.toNat) % 18446744073709551616 = (x - y - c).toNat := by simp only [BitVec.toNat_sub]; omega
  have e2 : (if x.toNat < y.toNat + c.toNat then 1 else 0 : Nat) = (if x.toNat < y.toNat + c.toNat then 1 else 0 : BitVec 64).toNat := by split <;> rfl
  rw [e, e2]
end Go.Proofs.YtffgimlkmfjgmaaDoor
