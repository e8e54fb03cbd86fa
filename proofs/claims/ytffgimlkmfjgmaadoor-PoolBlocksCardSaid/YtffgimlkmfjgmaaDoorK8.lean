/- Ranges over functions: loops within, yield, the statement, the end of such a function. No program in sight. -/
import Derived.Test.YtffgimlkmfjgmaaDoorK6
import Derived.Sort.LoopGhostIn
namespace Go.Proofs.YtffgimlkmfjgmaaDoor
open Go.RowKit
set_option linter.unusedVariables false
section
variable {P : Program} {N : Nat} {m : Md} {C : Beg} {Q : Exit → Act → World → Prop} {E : Env} {Γ H : RL}
/-- A loop; what it doesn't turn is kept. -/
theorem JX.lp {ι : Type} {c : Code} (pr : ι → Prop) (IE : Env → ι → Env) (IΓ IH : RL → ι → RL) (μ : ι → Nat) (x0 : ι) (keep : List Nat) {E' : Env} {G : RL} (h0 : pr x0)
    (round : ∀ x, pr x → JX P N m C c (Exit.then (fun a w => ∃ a0, a = m.up a0 ∧ Head N C (IE E') (IΓ Γ) (IH G) (fun y => pr y ∧ μ y < μ x) a0 w) Q) (IE E' x) (IΓ Γ x) (IH G x))
    (hk : KeepE keep E E' := by (repeat (first | exact KeepE.nil _ | (apply KeepE.cons; rfl) | apply KeepE.skip)); first | done | fail) (hE : Sub (IE [] x0) E := by (repeat (first | exact trivial | (refine ⟨?_, ?_⟩; focus (first | rfl | (simp; done) | fail)))); first | done | fail) (hH : Picks (IH [] x0) H G := by (repeat (first | exact Picks.nil _ | apply Picks.cons | exact Pull.here _ _ | apply Pull.there)); first | done | fail) (hg : Subs (IΓ [] x0) Γ := by (repeat (first | exact Subs.nil _ | apply Subs.cons | exact List.Mem.head _ | refine List.Mem.tail _ ?_)); first | done | fail)
    (e1 : ∀ T x, IE T x = IE [] x ++ T := by exact fun _ _ => rfl) (e2 : ∀ T x, IH T x = IH [] x ++ T := by exact fun _ _ => rfl) (e3 : ∀ T x, IΓ T x = IΓ [] x ++ T := by exact fun _ _ => rfl) : JX P N m C (.loop c) Q E Γ H := by
  intro a w he hs
  refine wpIn_loop_ghost (fun n a w => ∃ x a0, a = m.up a0 ∧ pr x ∧ μ x = n ∧ EnvOk N (IE E' x) a0 ∧ St C (IΓ Γ x) (IH G x) w) (μ x0) ⟨x0, a, rfl, h0, rfl, ?_, ?_⟩ ?_
  · rw [e1]; exact (he.sub hE).app (he.sub hk.sub)
  · rw [e2, e3]
    have h1 : St C Γ (IH [] x0 ++ G) w := hs.perm hH.perm
    exact (h1.perm (show (IH [] x0 ++ G).Perm ((IH [] x0 ++ G) ++ []) by rw [List.append_nil])).weak fun r hr => (List.mem_append.1 hr).elim (hg.sub r) id
  rintro n a w ⟨x, a0, rfl, hx, rfl, hea, hst⟩
  refine wpIn_mono (round x hx a0 w hea hst) ?_
  intro e a' w' h
  cases e with
  | normal =>
    obtain ⟨b0, rfl, y, ⟨hy0, hy⟩, hea', hst'⟩ := h
    exact ⟨μ y, hy, y, b0, rfl, hy0, rfl, hea', hst'⟩
  | _ => exact h
theorem JQ.xhd {ι : Type} {IE : ι → Env} {IΓ IH : ι → RL} {ok : ι → Prop} (y : ι) {G : RL} (hy : ok y) (hE : Sub (IE y) E := by (repeat (first | exact trivial | (refine ⟨?_, ?_⟩; focus (first | rfl | (simp; done) | fail)))); first | done | fail) (hg : Subs (IΓ y) Γ := by (repeat (first | exact Subs.nil _ | apply Subs.cons | exact List.Mem.head _ | refine List.Mem.tail _ ?_)); first | done | fail) (hH : Picks (IH y) H G := by (repeat (first | exact Picks.nil _ | apply Picks.cons | exact Pull.here _ _ | apply Pull.there)); first | done | fail) : JQ N C .normal (QU m (Exit.then (fun a w => ∃ a0, a = m.up a0 ∧ Head N C IE IΓ IH ok a0 w) Q)) E Γ H :=
  fun _ a w he hs => ⟨a, rfl, y, hy, he.sub hE, (hs.perm hH.perm).weak hg.sub⟩
/-- Nothing put off: as everywhere. -/
theorem JQ.x0 {r : Option Nat} {e : Exit} (h : JQ N C e Q E Γ H) : JQ N C e (QU ⟨r, []⟩ Q) E Γ H := fun hn a w he hs => by
  have hu : ∀ a : Act, (⟨r, []⟩ : Md).up a = a := fun a => by simp [Md.up]
  have h1 := h (fun c a w hq => hn c a w (by unfold QU; rw [hu]; exact hq)) a w he hs
  unfold QU
  rw [hu]
  exact h1
end
/-! ### Blocks of the machine's own -/
def Res.ob (b : Nat) (o : Obj) : Res where
  fp k := k = b
  ok w := w.heap[b]? = some o
  loc _ _ h ho := (h b rfl).trans ho
theorem Res.ob_ok {b : Nat} {o : Obj} {w : World} : (Res.ob b o).ok w ↔ w.heap[b]? = some o := Iff.rfl
theorem Res.ob_fp {b k : Nat} {o : Obj} : (Res.ob b o).fp k ↔ k = b := Iff.rfl
attribute [irreducible] Res.ob
theorem St.newOb {C : Beg} {Γ H : RL} {w : World} (h : St C Γ H w) (o : Obj) : St C Γ (Res.ob w.heap.size o :: H) (w.alloc o) :=
  h.newObj o _ (fun _ => Res.ob_fp) (Res.ob_ok.2 (World.alloc_heap_new w o))
theorem St.putOb {C : Beg} {Γ H : RL} {b : Nat} {o o' : Obj} {w : World} (h : St C Γ (Res.ob b o :: H) w) : St C Γ (Res.ob b o' :: H) (w.putObj b o') := by
  have hb := Res.ob_ok.1 (h.sat.hok _ (.head _))
  have hlt := (Array.getElem?_eq_some_iff.1 hb).1
  exact h.obj (b := b) (fun _ => Res.ob_fp) (fun _ => Res.ob_fp) rfl rfl rfl (by simp [World.putObj]) (Res.ob_ok.2 (World.putObj_heap_same hlt)) (fun k hk => World.putObj_heap_other hk)
/-! ### yield -/
/-- What a call of yield comes to. -/
def YSpec (P : Program) (l : Nat) (args : Array Value) (Γ H : RL) (post : Value → RL → RL → Prop) : Prop := ∀ w, Sat Γ H w → YieldAt (FW none) 0 P l args w (SpecPost Γ H post w)
section
variable {P : Program} {N : Nat} {m : Md} {C : Beg} {Q : Exit → Act → World → Prop} {E : Env} {Γ H : RL} {ops : Array Oper} {rest : List Oper} {ty : TypeId}
theorem JXO.yield {d l : Nat} {pos : String} {aft : Array Edge} {x : Operand} {xs : List Operand} {vs : List Value} {AT : Array TypeId} {Γc Hc G : RL} {post : Value → RL → RL → Prop} (hY : YSpec P l vs.toArray Γc Hc post)
    (h : ∀ v H1, post v [] H1 → AppJ H1 G (JXO P N m C ops rest Q ((d, v) :: E) Γ)) (hx : ev E x = some (.func (.yield l) #[] #[]) := by rfl) (hxs : evs E xs = some vs := by rfl)
    (hp : Picks Hc H G := by (repeat (first | exact Picks.nil _ | apply Picks.cons | exact Pull.here _ _ | apply Pull.there)); first | done | fail) (hg : Lends Γc (G ++ Γ) := by (repeat (first | exact Lends.nil _ | apply Lends.cons | exact Lend.same _ _ | exact Lend.row _ _ _ _ _ _ (by decide) | apply Lend.there)); first | done | fail)
    (h0 : ∀ v Γ1 H1, post v Γ1 H1 → Γ1 = [] := by rintro _ _ _ ⟨_, h, _⟩; exact h) (hd : d < N := by decide) :
    JXO P N m C ops (⟨some d, .call { callee := .value x, args := xs.toArray, argTypes := AT }, ty, pos, aft, none⟩ :: rest) Q E Γ H := by
  intro a w he hs
  have hst := hs.perm hp.perm
  obtain ⟨fn, tmps, assign, body, hy, hR⟩ := hY w (hst.sat.lend hg)
  unfold wpListIn
  rw [if_pos (by simp [Region.wanted])]
  refine ⟨fun _ _ => trivial, ?_⟩
  rw [Oper.semAt_eq _ _ _ (fun c e => by cases e)]
  have hr : (execOp (m.up a).eval ⟨some d, .call { callee := .value x, args := xs.toArray, argTypes := AT }, ty, pos, aft, none⟩).run P w = .ok (.round l fn tmps assign body) w := by
    rw [m.up_eval]
    have h2 : xs.toArray.map a.eval = vs.toArray := by rw [← he.evs hxs]; simp
    simp only [execOp, resolve, Deferred.ofValue, he.ev hx, h2, Sem.run_bind, Sem.run_pure, Result.andThen_ok, invoke]
    have := hy
    simpa using this
  rw [hr]
  refine ⟨fun h => (by cases h), RoundIn.mono hR ?_⟩
  rintro e w' ⟨v, Γ', H', rfl, hpost, hst'⟩
  have e0 := h0 _ _ _ hpost
  subst e0
  have hst2 : St ⟨w, [], Hc⟩ [] H' w' := by
    refine ⟨⟨by simp, by simp, hst'.sat.hok, hst'.sat.hlt, hst'.sat.hdj, by simp⟩, hst'.stp, hst'.hsub, ?_⟩
    rintro k ⟨r, hr, _⟩
    cases hr
  have h3 := hst.frame (Γc := []) (by simp) hst2
  have h4 := (show JXO P N m C ops rest Q ((d, v) :: E) Γ (H' ++ G) from by have := h v H' hpost; unfold AppJ at this; exact this) (a.put (some d) v) w' (he.put d hd v) (by simpa using h3)
  rw [m.up_put] at h4
  exact h4
theorem JXO.tail [hn : NPL Q] {l : List Oper} (h : JO P N C ops l (QU m Q) E Γ H) (hd : l.all noDefer = true := by rfl) : JXO P N m C ops l Q E Γ H := fun a w he hs => by
  have h1 := h hn.np.QU a w he hs
  have h2 : wpList P ops (Exit.then (fun a w => QU m Q .normal a w) (QU m Q)) l a w := by
    have : Exit.then (fun a w => QU m Q .normal a w) (QU m Q) = QU m Q := by funext e a w; cases e <;> rfl
    rw [this]; exact h1
  have h3 := wpListIn_of (n := 0) (ops := ops) (l2 := []) hn.nl (fun a w h => wpListIn_nil h) l hd a w h2
  rwa [List.append_nil] at h3
end
/-! ### The ends -/
instance NPL.body {P : Program} {fn : Func} {Γ H : RL} {post : Value → RL → RL → Prop} {w : World} : NPL (bodyPost P fn (SpecPost Γ H post w)) :=
  ⟨fun c a w' h => (by obtain ⟨_, v, _, _, he, _⟩ := h; cases he), fun a w' h => (by obtain ⟨v, _, _, he, _⟩ := h; cases he)⟩
/-- The end of a function in which a range over a function stands. -/
def endM (P : Program) (fn : Func) (R : Ending → World → Prop) : Exit → Act → World → Prop
  | .normal, a, w | .ret, a, w => LeavesInM (FW none) 0 P fn a.tmps R a.defers .returning w
  | _, _, _ => False
instance NPL.endM {P : Program} {fn : Func} {R : Ending → World → Prop} : NPL (endM P fn R) := ⟨fun _ _ _ h => h, fun _ _ h => h⟩
/-- From the walk to the function's contract. -/
theorem Spec.of_argsX {P : Program} {f : FuncId} {fn : Func} {c : Code} {args : List Value} {Γ H : RL} {post : Value → RL → RL → Prop} {N : Nat}
    (hf : P.funcs[f]? = some fn) (hb : fn.body = some c) (hN : fn.ntmps = N) (hle : args.length ≤ N)
    (h : ∀ w, JX P N ⟨none, []⟩ ⟨w, Γ, H⟩ c (bodyPost P fn (SpecPost Γ H post w)) (argEnv 0 args) Γ H) : Spec P f args.toArray Γ H post := by
  intro w hw
  refine callsFW.1 (callsIn_of_wp (F := FW none) (n := 0) hf hb trivial ?_ rfl)
  have hu : ∀ a : Act, (⟨none, []⟩ : Md).up a = a := fun a => by simp [Md.up]
  have h1 := h w { tmps := args.toArray ++ Array.replicate (fn.ntmps - args.toArray.size) undef, defers := [] } w ⟨rfl, by simp [hN]; omega, fun t v ht => by
    have h2 := (argEnv_lk args 0 t v ht).2
    have hlt : t < args.length := by simpa using (List.getElem?_eq_some_iff.1 h2).1
    simp [Array.getElem?_append_left, hlt]
    simpa [hlt] using h2⟩ (St.begin hw)
  rw [hu] at h1
  exact h1
theorem Spec.of_argsM {P : Program} {f : FuncId} {fn : Func} {c : Code} {args : List Value} {Γ H : RL} {post : Value → RL → RL → Prop} {N : Nat}
    (hf : P.funcs[f]? = some fn) (hb : fn.body = some c) (hN : fn.ntmps = N) (hle : args.length ≤ N)
    (h : ∀ w, JX P N ⟨none, []⟩ ⟨w, Γ, H⟩ c (endM P fn (SpecPost Γ H post w)) (argEnv 0 args) Γ H) : Spec P f args.toArray Γ H post := by
  intro w hw
  refine callsFW.1 (callsIn_of_wp_marks (F := FW none) (n := 0) hf hb trivial ?_ rfl)
  have hu : ∀ a : Act, (⟨none, []⟩ : Md).up a = a := fun a => by simp [Md.up]
  have h1 := h w { tmps := args.toArray ++ Array.replicate (fn.ntmps - args.toArray.size) undef, defers := [] } w ⟨rfl, by simp [hN]; omega, fun t v ht => by
    have h2 := (argEnv_lk args 0 t v ht).2
    have hlt : t < args.length := by simpa using (List.getElem?_eq_some_iff.1 h2).1
    simp [Array.getElem?_append_left, hlt]
    simpa [hlt] using h2⟩ (St.begin hw)
  rw [hu] at h1
  refine wpIn_mono h1 ?_
  intro e a' w' hq
  cases e with
  | normal => exact hq
  | ret => exact hq
  | _ => exact hq.elim
section
variable {P : Program} {N : Nat} {m : Md} {C : Beg} {Q : Exit → Act → World → Prop} {E : Env} {Γ H : RL}
/-- The end, behind such a loop. -/
theorem JQ.xdn {fn : Func} {post : Value → RL → RL → Prop} {w : World} {Γ0 H0 : RL} {e : Exit} {D : Nat} {G : RL} (hD : Pull (Res.ob D (.deferred (some []))) H G) (Γ' H' : RL) {v : Value} {G2 : RL} (hr : ∀ a w', EnvOk N E a → St ⟨w, Γ0, H0⟩ Γ G w' → (results fn a.tmps).run P w' = .ok v w') (hp : post v Γ' H')
    (he : e = .normal ∨ e = .ret := by first | exact .inl rfl | exact .inr rfl) (hg : Subs Γ' Γ := by (repeat (first | exact Subs.nil _ | apply Subs.cons | exact List.Mem.head _ | refine List.Mem.tail _ ?_)); first | done | fail) (hH : Picks H' G G2 := by (repeat (first | exact Picks.nil _ | apply Picks.cons | exact Pull.here _ _ | apply Pull.there)); first | done | fail) :
    JQ N ⟨w, Γ0, H0⟩ e (QU ⟨none, [{ target := .collected D, args := #[] }]⟩ (endM P fn (SpecPost Γ0 H0 post w))) E Γ H := by
  intro _ a w' hea hst
  have hs1 := hst.perm hD.perm
  have hk := Res.ob_ok.1 (hs1.sat.hok _ (.head _))
  have hs2 := hs1.putOb (o' := .deferred none)
  have hs3 : St ⟨w, Γ0, H0⟩ Γ G (w'.putObj D (.deferred none)) := (hs2.perm (show (Res.ob D (.deferred none) :: G).Perm (G ++ [Res.ob D (.deferred none)]) from (List.perm_append_singleton _ _).symm)).weak fun _ h => h
  have hx : endM P fn (SpecPost Γ0 H0 post w) .ret ((⟨none, [{ target := .collected D, args := #[] }]⟩ : Md).up a) w' := by
    show LeavesInM (FW none) 0 P fn a.tmps _ (a.defers ++ [{ target := .collected D, args := #[] }]) .returning w'
    rw [hea.nd, List.nil_append]
    exact ⟨by simp, .inl ⟨D, _, rfl, run_takeDeferred hk, ⟨v, hr a _ hea hs3, v, Γ', H', rfl, hp, (hs3.perm hH.perm).weak hg.sub⟩⟩⟩
  rcases he with rfl | rfl
  · exact hx
  · exact hx
theorem RV.cell1 {P : Program} {N : Nat} {C : Beg} {E : Env} {Γ H : RL} {t T b : Nat} {v : Value} {cs : List Value} {T' : TypeId} (h1 : One P T) (ht : lk E t = some (ptr b 0) := by rfl) (hm : Res.cells b (v :: cs) T' ∈ H := by (repeat (first | exact List.Mem.head _ | refine List.Mem.tail _ ?_)); first | done | fail) : RV P N C E Γ H (.cell t T) v := fun a w he hs => by
  have hv := he.val t _ ht
  have hc := Kn.own hm (o := 0) rfl w hs.sat
  rw [Array.getD_eq_getD_getElem?] at hv
  simp [resv, hv, asAddr, loadVar, h1 w, hc]
instance NPL.never : NPL (fun _ _ _ => False) := ⟨fun _ _ _ h => h, fun _ _ h => h⟩
/-! ### The statement -/
/-- The record of a range over a function. -/
abbrev lrec (fn : FuncId) (T : Array Value) (ps : Array Tmp) (assign body : Code) (D : Nat) (s : LoopState) : Obj := .loop { state := s, pending := none, fn, tmps := T, params := ps, assign, body, defers := D }
/-- What begins a round's body. -/
def RdK (P : Program) (body : Code) (Q : Exit → Act → World → Prop) (l : Nat) : Act → World → Prop := fun a w => ∃ w2, (Instr.beginRound l).run P w = .ok () w2 ∧ body.wpIn (FW (some l)) 0 P Q a w2
theorem JQ.rk {body : Code} {l D : Nat} {fn : FuncId} {T : Array Value} {ps : Array Tmp} {as bd : Code} {G : RL} {Q' : Exit → Act → World → Prop} (h : JX P N ⟨some l, []⟩ C body Q E Γ (Res.ob l (lrec fn T ps as bd D .busy) :: G))
    (hL : Pull (Res.ob l (lrec fn T ps as bd D .ready)) H G := by (repeat (first | exact Pull.here _ _ | apply Pull.there)); first | done | fail) : JQ N C .normal (QU ⟨some l, []⟩ (Exit.then (RdK P body Q l) Q')) E Γ H := fun _ a w he hs => by
  have hs1 := hs.perm hL.perm
  have hl := Res.ob_ok.1 (hs1.sat.hok _ (.head _))
  exact ⟨_, run_beginRound hl rfl, h a _ he hs1.putOb⟩
/-- A round ends. -/
theorem JQ.re {l D : Nat} {fn : FuncId} {T : Array Value} {ps : Array Tmp} {as bd : Code} {w : World} {Γ0 H0 G G2 : RL} {post : Value → RL → RL → Prop} (H' : RL) (hp : post (.bool true) [] H')
    (hL : Pull (Res.ob l (lrec fn T ps as bd D .busy)) H G := by (repeat (first | exact Pull.here _ _ | apply Pull.there)); first | done | fail)
    (hH : ∀ w', St ⟨w, Γ0, H0⟩ Γ (Res.ob l (lrec fn T ps as bd D .ready) :: G) w' → St ⟨w, Γ0, H0⟩ [] H' w') : JQ N ⟨w, Γ0, H0⟩ .normal (QU ⟨some l, []⟩ (roundPost P l (SpecPost Γ0 H0 post w))) E Γ H := fun _ a w' he hs => by
  have hs1 := hs.perm hL.perm
  have hl := Res.ob_ok.1 (hs1.sat.hok _ (.head _))
  exact ⟨_, _, run_endRound none hl, _, [], H', rfl, hp, hH _ hs1.putOb⟩
/-- What the caller holds between two rounds, in one. -/
def rfR (fn : FuncId) (T : Array Value) (ps : Array Tmp) (assign body : Code) (l D : Nat) (I : RL) : Res := .sep (Res.ob l (lrec fn T ps assign body D .ready) :: Res.ob D (.deferred (some [])) :: I)
theorem JQ.rend {l D : Nat} {fn : FuncId} {T : Array Value} {ps : Array Tmp} {as bd : Code} {w : World} {Γ0 H0 G G1 G2 : RL} {I : RL → Prop} (L' : RL) (hI : I L')
    (hL : Pull (Res.ob l (lrec fn T ps as bd D .busy)) H G := by (repeat (first | exact Pull.here _ _ | apply Pull.there)); first | done | fail) (hD : Pull (Res.ob D (.deferred (some []))) G G1 := by (repeat (first | exact Pull.here _ _ | apply Pull.there)); first | done | fail)
    (hH : Picks L' G1 G2 := by (repeat (first | exact Picks.nil _ | apply Picks.cons | exact Pull.here _ _ | apply Pull.there)); first | done | fail) : JQ N ⟨w, Γ0, H0⟩ .normal (QU ⟨some l, []⟩ (roundPost P l (SpecPost Γ0 H0 (fun b Γ' H' => b = .bool true ∧ Γ' = [] ∧ ∃ r', (∃ L', I L' ∧ r' = rfR fn T ps as bd l D L') ∧ H' = [r']) w))) E Γ H := fun a he =>
  JQ.re (Γ := Γ) (H := H) (E := E) (G := G) (G2 := []) [rfR fn T ps as bd l D L'] ⟨rfl, rfl, _, ⟨L', hI, rfl⟩, rfl⟩ hL (fun w' hs => by
    have h1 : (Res.ob l (lrec fn T ps as bd D .ready) :: G).Perm ((Res.ob l (lrec fn T ps as bd D .ready) :: Res.ob D (.deferred (some [])) :: L') ++ G2) := List.Perm.cons _ (hD.perm.trans (List.Perm.cons _ hH.perm))
    have h2 : St ⟨w, Γ0, H0⟩ Γ (Res.sep (Res.ob l (lrec fn T ps as bd D .ready) :: Res.ob D (.deferred (some [])) :: L') :: G2) w' := St.sep.2 (hs.perm h1)
    have h3 : St ⟨w, Γ0, H0⟩ Γ ([rfR fn T ps as bd l D L'] ++ G2) w' := h2
    exact h3.weak (by simp)) a he
theorem lk_zip {tmps : Array Value} {N : Nat} : ∀ (ps : List Tmp) (vs : List Value), tmps.size = N → (∀ p ∈ ps, p < N) → ps.Nodup → ∀ t v, lk (ps.zip vs) t = some v → ((ps.zip vs).foldl (fun t (p, v) => t.setIfInBounds p v) tmps).getD t undef = v
  | [], _, _, _, _, _, _, h => by cases h
  | p :: ps, [], _, _, _, _, _, h => by cases h
  | p :: ps, v :: vs, hN, hlt, hnd, t, u, h => by
    rw [List.nodup_cons] at hnd
    simp only [List.zip_cons_cons, List.foldl_cons]
    simp only [List.zip_cons_cons, lk] at h
    have keep : ∀ (l : List (Tmp × Value)) (T : Array Value), t ∉ l.map (·.1) → (l.foldl (fun t (p, v) => t.setIfInBounds p v) T).getD t undef = T.getD t undef := fun l => by
      induction l with
      | nil => intro T _; rfl
      | cons a l ih =>
        intro T hT
        simp only [List.map_cons, List.mem_cons, not_or] at hT
        rw [List.foldl_cons, ih _ hT.2]
        simp only [Array.getD_eq_getD_getElem?]
        rw [Array.getElem?_setIfInBounds_ne (Ne.symm hT.1)]
    split at h
    · rename_i e
      subst e
      obtain rfl := Option.some.inj h
      rw [keep _ _ (fun hm => by
        obtain ⟨x, hx, rfl⟩ := List.mem_map.1 hm
        exact hnd.1 (List.of_mem_zip hx).1)]
      have : p < tmps.size := by rw [hN]; exact hlt p (.head _)
      simp [this]
    · exact lk_zip ps vs (by simpa using hN) (fun q hq => hlt q (.tail _ hq)) hnd.2 t u h
theorem keep_zip {tmps : Array Value} {t : Nat} : ∀ (l : List (Tmp × Value)) (T : Array Value), t ∉ l.map (·.1) → (l.foldl (fun t (p, v) => t.setIfInBounds p v) T).getD t undef = T.getD t undef := fun l => by
  induction l with
  | nil => intro T _; rfl
  | cons a l ih =>
    intro T hT
    simp only [List.map_cons, List.mem_cons, not_or] at hT
    rw [List.foldl_cons, ih _ hT.2]
    simp only [Array.getD_eq_getD_getElem?]
    rw [Array.getElem?_setIfInBounds_ne (Ne.symm hT.1)]
theorem size_zip : ∀ (l : List (Tmp × Value)) (T : Array Value), (l.foldl (fun t (p, v) => t.setIfInBounds p v) T).size = T.size
  | [], _ => rfl
  | a :: l, T => by rw [List.foldl_cons, size_zip l]; simp
theorem lk_none {l : List (Tmp × Value)} {t : Nat} (h : lk l t = none) : t ∉ l.map (·.1) := by
  induction l with
  | nil => simp
  | cons a l ih =>
    simp only [lk] at h
    split at h
    · cases h
    · rename_i hne
      simp only [List.map_cons, List.mem_cons, not_or]
      exact ⟨fun e => hne e.symm, ih h⟩
/-- yield's arguments, laid in a round's slots. -/
theorem EnvOk.round {a : Act} {ps : Array Tmp} {vs : List Value} (he : EnvOk N E a) (hlt : ∀ p ∈ ps.toList, p < N) (hnd : ps.toList.Nodup) : EnvOk N (ps.toList.zip vs ++ E) { tmps := (ps.zip vs.toArray).foldl (fun t (p, v) => t.setIfInBounds p v) a.tmps, defers := [] } := by
  have e : (ps.zip vs.toArray).foldl (fun t (p, v) => t.setIfInBounds p v) a.tmps = (ps.toList.zip vs).foldl (fun t (p, v) => t.setIfInBounds p v) a.tmps := by
    rw [← Array.foldl_toList, Array.toList_zip]
  refine ⟨rfl, ?_, fun t v ht => ?_⟩
  · rw [e, size_zip]; exact he.sz
  · rw [e]
    rw [lk_append] at ht
    cases h : lk (ps.toList.zip vs) t with
    | some u =>
      rw [h] at ht
      obtain rfl := Option.some.inj ht
      exact lk_zip _ _ he.sz hlt hnd t _ h
    | none =>
      rw [h] at ht
      rw [keep_zip (tmps := a.tmps) _ _ (lk_none h)]
      exact he.val t v ht
/-- **A range over a function, its rounds as many as n, none left early.** I: what one's own cells may hold behind k rounds; ok: what the iterator hands in round k, and what of it may be read. -/
theorem JX.rf [hn : NPL Q] {g : Operand} {ps : Array Tmp} {assign body : Code} {gf : FuncId} {lb : Array Value} (n : Nat) (I : Nat → RL → Prop) {I0 Γi G : RL} (ok : Nat → List Value → RL → Prop) (hx : ev E g = some (.func (.func gf) #[] lb)) (hb : Body P gf) (hI0 : I 0 I0)
    (hit : ∀ l (X : Res) (R : Nat → Res → Prop) r0, R 0 r0 → (∀ k, k < n → ∀ vs Γy r, ok k vs Γy → R k r → YSpec P l vs.toArray (Γy ++ [X]) [r] fun b Γ' H' => b = .bool true ∧ Γ' = [] ∧ ∃ r', R (k + 1) r' ∧ H' = [r']) → Spec P gf (#[.func (.yield l) #[] #[]] ++ lb) (Γi ++ [X]) [r0] fun _ Γ' H' => True ∧ Γ' = [] ∧ ∃ r', R n r' ∧ H' = [r'])
    (hround : ∀ l D fn T w0 k vs Γy L, k < n → ok k vs Γy → I k L → JX P N ⟨some l, []⟩ ⟨w0, Γy ++ [Res.all Γ], [rfR fn T ps assign body l D L]⟩ assign (Exit.then (RdK P body (roundPost P l (SpecPost (Γy ++ [Res.all Γ]) [rfR fn T ps assign body l D L] (fun b Γ' H' => b = .bool true ∧ Γ' = [] ∧ ∃ r', (∃ L', I (k + 1) L' ∧ r' = rfR fn T ps assign body l D L') ∧ H' = [r']) w0)) l) fun _ _ _ => False)
      (ps.toList.zip vs ++ E) (Γy ++ Γ) (Res.ob l (lrec fn T ps assign body D .ready) :: Res.ob D (.deferred (some [])) :: L))
    (hnext : ∀ D L, I n L → JQ N C .normal (QU ⟨none, [{ target := .collected D, args := #[] }]⟩ Q) E Γ (Res.ob D (.deferred (some [])) :: (L ++ G)))
    (hps : ∀ k vs Γy, ok k vs Γy → vs.length = ps.size) (hlt : ∀ p ∈ ps.toList, p < N) (hnd : ps.toList.Nodup) (hp : Picks I0 H G) (hg : Lends Γi (G ++ Γ)) :
    JX P N ⟨none, []⟩ C (.rangeFunc g ps assign body) Q E Γ H := by
  intro a w he hs
  have hu : (⟨none, []⟩ : Md).up a = a := by simp [Md.up]
  rw [hu]
  refine wpIn_rangeFunc ?_
  intro fn _
  have h1 := ((hs.perm hp.perm).newOb (.deferred (some [])))
  have h2 := h1.newOb (lrec fn a.tmps ps assign body w.heap.size .ready)
  have hsz : (w.alloc (.deferred (some []))).heap.size = w.heap.size + 1 := by simp
  rw [hsz] at h2
  obtain ⟨W1, hW1⟩ : ∃ W1, (w.alloc (.deferred (some []))).alloc (lrec fn a.tmps ps assign body w.heap.size .ready) = W1 := ⟨_, rfl⟩
  rw [hW1] at h2
  refine ⟨w.heap.size + 1, [{ target := .collected w.heap.size, args := #[] }], W1, { target := .fn (.func gf) lb, args := #[.func (.yield (w.heap.size + 1)) #[] #[]] }, W1, gf, #[.func (.yield (w.heap.size + 1)) #[] #[]] ++ lb, W1, by rw [← hW1]; exact run_enterLoop_outer _ _ _ _ _, ?_, fun _ _ => trivial, ?_, fun h => (by cases h), ?_⟩
  · simp only [resolve, he.ev hx]
    simp [Deferred.ofValue, Act.eval]
  · simp only [invoke]
    exact hb _ _
  · refine callsFW.2 ?_
    -- what one holds, in one
    have h3 : St C Γ (Res.sep (Res.ob (w.heap.size + 1) (lrec fn a.tmps ps assign body w.heap.size .ready) :: Res.ob w.heap.size (.deferred (some [])) :: I0) :: G) _ := St.sep.2 (by simpa using h2)
    have h4 := h3.bundle (G := Γ) (fun r h => h)
    have hc := hit (w.heap.size + 1) (Res.all Γ) (fun k r => ∃ L, I k L ∧ r = rfR fn a.tmps ps assign body (w.heap.size + 1) w.heap.size L) _ ⟨I0, hI0, rfl⟩ (fun k hk vs Γy r hok hR w0 hs0 => by
      obtain ⟨L, hL, rfl⟩ := hR
      have hl0 : St ⟨w0, Γy ++ [Res.all Γ], [rfR fn a.tmps ps assign body (w.heap.size + 1) w.heap.size L]⟩ (Γy ++ Γ) (Res.ob (w.heap.size + 1) (lrec fn a.tmps ps assign body w.heap.size .ready) :: Res.ob w.heap.size (.deferred (some [])) :: L) w0 := by
        have hb0 := St.begin hs0
        have hb1 : St ⟨w0, Γy ++ [Res.all Γ], [rfR fn a.tmps ps assign body (w.heap.size + 1) w.heap.size L]⟩ (Γy ++ [Res.all Γ]) ((Res.ob (w.heap.size + 1) (lrec fn a.tmps ps assign body w.heap.size .ready) :: Res.ob w.heap.size (.deferred (some [])) :: L) ++ []) w0 := St.sep.1 hb0
        rw [List.append_nil] at hb1
        refine ⟨⟨?_, ?_, hb1.sat.hok, hb1.sat.hlt, hb1.sat.hdj, ?_⟩, hb1.stp, hb1.hsub, ?_⟩
        · intro r hr
          rcases List.mem_append.1 hr with hr | hr
          · exact hb1.sat.gok r (List.mem_append.2 (.inl hr))
          · exact (hb1.sat.gok (Res.all Γ) (List.mem_append.2 (.inr (.head _)))) r hr
        · intro r hr k hk
          rcases List.mem_append.1 hr with hr | hr
          · exact hb1.sat.glt r (List.mem_append.2 (.inl hr)) k hk
          · exact hb1.sat.glt (Res.all Γ) (List.mem_append.2 (.inr (.head _))) k ⟨r, hr, hk⟩
        · intro r hr s hs' k hk hk'
          rcases List.mem_append.1 hr with hr | hr
          · exact hb1.sat.ghd r (List.mem_append.2 (.inl hr)) s hs' k hk hk'
          · exact hb1.sat.ghd (Res.all Γ) (List.mem_append.2 (.inr (.head _))) s hs' k ⟨r, hr, hk⟩ hk'
        · rintro k ⟨r, hr, hk⟩
          rcases List.mem_append.1 hr with hr | hr
          · exact hb1.gsub k ⟨r, List.mem_append.2 (.inl hr), hk⟩
          · exact hb1.gsub k ⟨Res.all Γ, List.mem_append.2 (.inr (.head _)), r, hr, hk⟩
      have hl := Res.ob_ok.1 (hl0.sat.hok _ (.head _))
      have hy := run_yield (P := P) (args := vs.toArray) hl (by simpa using hps k vs Γy hok)
      refine ⟨fn, _, assign, body, hy, roundIn_of_wpIn (F := FW none) trivial ?_⟩
      have h5 := hround (w.heap.size + 1) w.heap.size fn a.tmps w0 k vs Γy L hk hok hL _ w0 (he.round hlt hnd) hl0
      have hu2 : ∀ b : Act, (⟨some (w.heap.size + 1), []⟩ : Md).up b = b := fun b => by simp [Md.up]
      rw [hu2] at h5
      exact h5)
    have h6 : St C (Res.all Γ :: Γ) ([rfR fn a.tmps ps assign body (w.heap.size + 1) w.heap.size I0] ++ G) _ := h4
    have hl2 : Lends (Γi ++ [Res.all Γ]) (G ++ (Res.all Γ :: Γ)) := by
      have hmono : ∀ {l : RL} {A B : RL}, Lends l A → (∀ r, Lend r A → Lend r B) → Lends l B := by
        intro l A B h hAB
        induction h with
        | nil => exact .nil _
        | cons r l A h1 _ ih => exact .cons _ _ _ (hAB _ h1) (ih hAB)
      have ins : ∀ (A : RL) (r : Res), Lend r (A ++ Γ) → Lend r (A ++ (Res.all Γ :: Γ)) := by
        intro A
        induction A with
        | nil => intro r h; exact Lend.there _ _ _ h
        | cons s A ih =>
          intro r h
          cases h with
          | same => exact Lend.same _ _
          | row => exact Lend.row _ _ _ _ _ _ (by assumption)
          | there _ _ _ h => exact Lend.there _ _ _ (ih _ h)
      have one : ∀ (A : RL), Lend (Res.all Γ) (A ++ (Res.all Γ :: Γ)) := by
        intro A
        induction A with
        | nil => exact .same _ _
        | cons s A ih => exact Lend.there _ _ _ ih
      have app : ∀ {l : RL} {A : RL} {r : Res}, Lends l A → Lend r A → Lends (l ++ [r]) A := by
        intro l A r h hr
        induction h with
        | nil => exact .cons _ _ _ hr (.nil _)
        | cons s l A h1 _ ih => exact .cons _ _ _ h1 (ih hr)
      exact app (hmono hg (ins G)) (one G)
    refine Calls.mono (hc _ (h6.sat.lend hl2)) ?_
    rintro e w' ⟨v, Γ', H', rfl, ⟨_, rfl, _, ⟨L, hL, rfl⟩, rfl⟩, hst'⟩
    have hst2 : St ⟨W1, [], [rfR fn a.tmps ps assign body (w.heap.size + 1) w.heap.size I0]⟩ [] [rfR fn a.tmps ps assign body (w.heap.size + 1) w.heap.size L] w' := by
      refine ⟨⟨by simp, by simp, hst'.sat.hok, hst'.sat.hlt, hst'.sat.hdj, by simp⟩, hst'.stp, hst'.hsub, ?_⟩
      rintro k ⟨r, hr, _⟩
      cases hr
    have h7 := h6.frame (Γc := []) (by simp) hst2
    have h8 : St C (Res.all Γ :: Γ) ((Res.ob (w.heap.size + 1) (lrec fn a.tmps ps assign body w.heap.size .ready) :: Res.ob w.heap.size (.deferred (some [])) :: L) ++ G) w' := St.sep.1 (by unfold rfR at h7; simpa using h7)
    have hl := Res.ob_ok.1 (h8.sat.hok _ (.head _))
    have h9 := (show St C (Res.all Γ :: Γ) (Res.ob (w.heap.size + 1) (lrec fn a.tmps ps assign body w.heap.size .ready) :: ((Res.ob w.heap.size (.deferred (some [])) :: L) ++ G)) w' from h8).putOb (o' := lrec fn a.tmps ps assign body w.heap.size .exhausted)
    have h10 := (h9.perm (List.perm_append_singleton (Res.ob (w.heap.size + 1) (lrec fn a.tmps ps assign body w.heap.size .exhausted)) _).symm).weak (Γ' := Γ) (fun r h => .tail _ h)
    refine ⟨none, _, run_endLoop hl (by simp), ?_⟩
    have h11 := hnext w.heap.size L hL (fun c a w hq => hn.np c _ w hq) a _ he h10
    unfold QU Md.up at h11
    rw [he.nd] at h11 ⊢
    exact h11
end
end Go.Proofs.YtffgimlkmfjgmaaDoor
