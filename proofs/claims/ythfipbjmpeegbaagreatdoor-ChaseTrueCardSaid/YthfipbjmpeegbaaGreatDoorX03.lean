/- Texts of ours, gathered: K1 K2 K3 K4 K6 K8 G11 CW. -/
import Derived.Laws.IdiomStrings
import Derived.MapKept
import Derived.Maps.RangeRun
import Derived.RangeFuncNested
import Derived.RangeFuncLeaves
import Derived.OrdersIn
import Derived.Sort.LoopGhostIn
import Derived.Test.YthfipbjmpeegbaaGreatDoorRows
import Derived.Test.YthfipbjmpeegbaaGreatDoorX02
/- The calculus in short forms: what a rule needs besides is found by itself. No program in sight. -/
namespace Go.Proofs.YthfipbjmpeegbaaGreatDoor
open Go.RowKit
set_option linter.unusedVariables false
/-! ### Relations that are found by themselves -/
inductive App : RL → RL → RL → Prop
  | nil (l : RL) : App [] l l
  | cons (r : Res) (a l m : RL) : App a l m → App (r :: a) l (r :: m)
theorem App.eq {a l m : RL} (h : App a l m) : a ++ l = m := by
  induction h with
  | nil => rfl
  | cons r a l m _ ih => rw [List.cons_append, ih]
inductive KeepE : List Nat → Env → Env → Prop
  | nil (E : Env) : KeepE [] E []
  | cons {t : Nat} {v : Value} {ts : List Nat} {E E' : Env} : lk E t = some v → KeepE ts E E' → KeepE (t :: ts) E ((t, v) :: E')
  | skip {t : Nat} {ts : List Nat} {E E' : Env} : KeepE ts E E' → KeepE (t :: ts) E E'
theorem KeepE.sub {ks : List Nat} {E E' : Env} (h : KeepE ks E E') : Sub E' E := by
  induction h with
  | nil => trivial
  | cons h1 _ ih => exact ⟨h1, ih⟩
  | skip _ ih => exact ih
theorem lk_append (A B : Env) (t : Nat) : lk (A ++ B) t = (lk A t).or (lk B t) := by
  induction A with
  | nil => rfl
  | cons p A ih =>
    obtain ⟨s, v⟩ := p
    simp only [List.cons_append, lk]
    split
    · rfl
    · exact ih
theorem EnvOk.app {N : Nat} {A B : Env} {a : Act} (h1 : EnvOk N A a) (h2 : EnvOk N B a) : EnvOk N (A ++ B) a :=
  ⟨h1.nd, h1.sz, fun t v ht => by
    rw [lk_append] at ht
    cases h : lk A t with
    | none => rw [h] at ht; exact h2.val t v ht
    | some u => rw [h] at ht; exact h1.val t v (h.trans ht)⟩
/-- What a bool says. -/
class NB (b : Bool) (p q : outParam Prop) : Prop where
  t : b = true → p
  f : b = false → q
instance (priority := low) NB.self (b : Bool) : NB b (b = true) (b = false) := ⟨id, id⟩
instance NB.dec (p : Prop) [Decidable p] : NB (decide p) p (¬ p) := ⟨of_decide_eq_true, of_decide_eq_false⟩
instance (priority := high) NB.decNot (p : Prop) [h : Decidable (¬ p)] : NB (@decide (¬ p) h) (¬ p) p :=
  ⟨fun h => of_decide_eq_true h, fun h => Classical.byContradiction fun hn => absurd hn (of_decide_eq_false h)⟩
instance NB.not (b : Bool) (p q : Prop) [h : NB b p q] : NB (!b) q p := ⟨fun e => h.f (by simpa using e), fun e => h.t (by simpa using e)⟩

section
variable {P : Program} {N : Nat} {C : Beg} {Q : Exit → Act → World → Prop} {E : Env} {Γ H : RL} {ty : TypeId} {ops : Array Oper} {rest : List Oper}
theorem Sat.rowSl {v : Value} {n : Nat} {e : TypeId} {size : Nat} {xs : List Value} {w : World} (hs : Sat Γ H w) (hm : Res.row v n e size xs ∈ H) : ∃ A c, v = .slice A n c := by
  rcases (Res.row_ok.1 (hs.hok _ hm)).2 with ⟨rfl, h⟩ | ⟨g, cap, cur, rfl, _⟩
  · exact ⟨none, 0, by rw [h]⟩
  · exact ⟨_, cap, rfl⟩
theorem JO.w {d : Nat} {pos : String} {aft : Array Edge} {op : Op} {v : Value} (hv : Yv P N C E Γ H op ty v) (h : JO P N C ops rest Q ((d, v) :: E) Γ H) (hd : d < N := by decide) : JO P N C ops (⟨some d, op, ty, pos, aft, none⟩ :: rest) Q E Γ H := .v hv hd h
theorem Yv.asI {op : Op} {a : Int} (b : Int) (h : Yv P N C E Γ H op ty (it a)) (e : a = b := by first | omega | (simp; omega)) : Yv P N C E Γ H op ty (it b) := .as h (congrArg it e)
theorem Yv.asT {op : Op} {a : Bool} (h : Yv P N C E Γ H op ty (.bool a)) (e : a = true := by first | rfl | decide | exact decide_eq_true (by first | omega | assumption)) : Yv P N C E Γ H op ty (.bool true) := .as h (congrArg Value.bool e)
theorem Yv.asF {op : Op} {a : Bool} (h : Yv P N C E Γ H op ty (.bool a)) (e : a = false := by first | rfl | decide | exact decide_eq_false (by first | omega | assumption)) : Yv P N C E Γ H op ty (.bool false) := .as h (congrArg Value.bool e)
def KM (Γ H : RL) (a : Addr) (xs : List Value) (j : Nat) : Prop := ∀ u, xs[j]? = some u → Kn Γ H a u
theorem KM.own {b j : Nat} {cs : List Value} {T : TypeId} (hm : Res.cells b cs T ∈ H) : KM Γ H ⟨b, j, none⟩ cs j := fun _ h => Kn.own hm h
theorem KM.ro {b j : Nat} {cs : List Value} {T : TypeId} (hm : Res.cells b cs T ∈ Γ) : KM Γ H ⟨b, j, none⟩ cs j := fun _ h => Kn.ro hm h
theorem KM.row {v : Value} {n j : Nat} {e : TypeId} {size : Nat} {xs : List Value} (hm : Res.row v n e size xs ∈ H) : KM Γ H ⟨blk v, j, none⟩ xs j := fun _ h => Kn.row hm h
theorem KM.rd {v : Value} {n size j : Nat} {xs : List Value} (hm : Lend (Res.rd v n size xs) (H ++ Γ)) : KM Γ H ⟨blk v, off v + j, none⟩ xs j := fun _ h => Kn.rd hm h
theorem KM.rd2 {v : Value} {n size i j : Nat} {xs : List Value} (hm : Lend (Res.rd v n size xs) (H ++ Γ)) : KM Γ H ⟨blk v, off v + i + j, none⟩ xs (i + j) := fun _ h => Kn.rd2 hm h
theorem KM.var {b j : Nat} {cs : List Value} (hm : Res.var b cs ∈ Γ) : KM Γ H ⟨b, j, none⟩ cs j := fun _ h => Kn.var hm h
theorem Yv.ld {T : TypeId} {x : Operand} {b q j : Nat} {xs : List Value} {v : Value} (h1 : One P T) (hx : ev E x = some (ptr b q)) (hk : KM Γ H ⟨b, q, none⟩ xs j := by first | exact KM.own (by (repeat (first | exact List.Mem.head _ | refine List.Mem.tail _ ?_)); first | done | fail) | exact KM.ro (by (repeat (first | exact List.Mem.head _ | refine List.Mem.tail _ ?_)); first | done | fail) | exact KM.row (by (repeat (first | exact List.Mem.head _ | refine List.Mem.tail _ ?_)); first | done | fail) | exact KM.rd (by (repeat (first | exact Lend.same _ _ | exact Lend.row _ _ _ _ _ _ (by decide) | apply Lend.there)); first | done | fail) | exact KM.rd2 (by (repeat (first | exact Lend.same _ _ | exact Lend.row _ _ _ _ _ _ (by decide) | apply Lend.there)); first | done | fail) | exact KM.var (by (repeat (first | exact List.Mem.head _ | refine List.Mem.tail _ ?_)); first | done | fail)) (hj : xs[j]? = some v := by first | rfl | exact tab_get (by first | omega | (simp; omega)) | exact gm (d := 0) (by first | omega | (simp; omega)) | fail) : Yv P N C E Γ H (.load T x) ty v := .load1 h1 hx (hk v hj)
def AM (Γ H : RL) (b q n : Nat) (cs : List Value) : Prop := cs.length = n ∧ ∀ i v, cs[i]? = some v → Kn Γ H ⟨b, q + i, none⟩ v
theorem AM.own {b n : Nat} {cs : List Value} {T : TypeId} (hm : Res.cells b cs T ∈ H) (hl : cs.length = n) : AM Γ H b 0 n cs := ⟨hl, fun i v hv => by rw [Nat.zero_add]; exact Kn.own hm hv⟩
theorem AM.var {b n : Nat} {cs : List Value} (hm : Res.var b cs ∈ Γ) (hl : cs.length = n) : AM Γ H b 0 n cs := ⟨hl, fun i v hv => by rw [Nat.zero_add]; exact Kn.var hm hv⟩
theorem AM.roW {b n : Nat} {cs : List Value} {T : TypeId} (hm : Res.cells b cs T ∈ Γ) (hl : cs.length = n) : AM Γ H b 0 n cs := ⟨hl, fun i v hv => by rw [Nat.zero_add]; exact Kn.ro hm hv⟩
theorem AM.ownAt {b q n : Nat} {cs : List Value} {T : TypeId} (hm : Res.cells b cs T ∈ H) (hl : q + n ≤ cs.length) : AM Γ H b q n ((cs.drop q).take n) := ⟨by simp; omega, fun _ _ hv => Kn.own hm (getElem?_piece hv)⟩
theorem AM.ro {b q n : Nat} {cs : List Value} {T : TypeId} (hm : Res.cells b cs T ∈ Γ) (hl : q + n ≤ cs.length) : AM Γ H b q n ((cs.drop q).take n) := ⟨by simp; omega, fun _ _ hv => Kn.ro hm (getElem?_piece hv)⟩
theorem AM.row {u : Value} {m q n size : Nat} {e : TypeId} {xs : List Value} (hm : Res.row u m e size xs ∈ H) (hl : q + n ≤ xs.length) : AM Γ H (blk u) q n ((xs.drop q).take n) := ⟨by simp; omega, fun _ _ hv => Kn.row hm (getElem?_piece hv)⟩
theorem AM.rd {u : Value} {m j n size : Nat} {xs : List Value} (hm : Lend (Res.rd u m size xs) (H ++ Γ)) (hl : j + n ≤ xs.length) : AM Γ H (blk u) (off u + j) n ((xs.drop j).take n) := ⟨by simp; omega, fun _ _ hv => by rw [Nat.add_assoc]; exact Kn.rd hm (getElem?_piece hv)⟩
theorem AM.rd2 {u : Value} {m i j n size : Nat} {xs : List Value} (hm : Lend (Res.rd u m size xs) (H ++ Γ)) (hl : i + j + n ≤ xs.length) : AM Γ H (blk u) (off u + i + j) n ((xs.drop (i + j)).take n) := by rw [Nat.add_assoc]; exact AM.rd hm hl
theorem Yv.lda {T n b q : Nat} {x : Operand} {cs : List Value} (hA : Agg P T n) (hx : ev E x = some (ptr b q)) (hm : AM Γ H b q n cs := by first | exact AM.own (by (repeat (first | exact List.Mem.head _ | refine List.Mem.tail _ ?_)); first | done | fail) (by first | rfl | (simp; done) | (simp; omega) | (simp [*]; done) | fail) | exact AM.roW (by (repeat (first | exact List.Mem.head _ | refine List.Mem.tail _ ?_)); first | done | fail) (by first | rfl | (simp; done) | (simp; omega) | (simp [*]; done) | fail) | exact AM.ownAt (by (repeat (first | exact List.Mem.head _ | refine List.Mem.tail _ ?_)); first | done | fail) (by first | (simp; done) | omega | (simp; omega) | (simp [*]; done) | (simp [*]; omega) | fail) | exact AM.row (by (repeat (first | exact List.Mem.head _ | refine List.Mem.tail _ ?_)); first | done | fail) (by first | (simp; done) | omega | (simp; omega) | (simp [*]; done) | (simp [*]; omega) | fail) | exact AM.rd (by (repeat (first | exact Lend.same _ _ | exact Lend.row _ _ _ _ _ _ (by decide) | apply Lend.there)); first | done | fail) (by first | (simp; done) | omega | (simp; omega) | (simp [*]; done) | (simp [*]; omega) | fail) | exact AM.rd2 (by (repeat (first | exact Lend.same _ _ | exact Lend.row _ _ _ _ _ _ (by decide) | apply Lend.there)); first | done | fail) (by first | (simp; done) | omega | (simp; omega) | (simp [*]; done) | (simp [*]; omega) | fail) | exact AM.ro (by (repeat (first | exact List.Mem.head _ | refine List.Mem.tail _ ?_)); first | done | fail) (by first | (simp; done) | omega | (simp; omega) | (simp [*]; done) | (simp [*]; omega) | fail) | exact AM.var (by (repeat (first | exact List.Mem.head _ | refine List.Mem.tail _ ?_)); first | done | fail) (by first | rfl | (simp; done) | (simp; omega) | (simp [*]; done) | fail)) : Yv P N C E Γ H (.load T x) ty (.agg cs.toArray) := .loadA hA hx hm.1 hm.2
def LM (Γ H : RL) (v : Value) (n : Nat) : Prop := ∀ w, Sat Γ H w → ∃ A c, v = .slice A n c
theorem LM.sl {A : Option Addr} {n c : Nat} : LM Γ H (.slice A n c) n := fun _ _ => ⟨_, _, rfl⟩
theorem LM.rd {v : Value} {n size : Nat} {xs : List Value} (hm : Lend (Res.rd v n size xs) (H ++ Γ)) : LM Γ H v n := fun w hs => by
  obtain ⟨A, c, h, _⟩ := hs.rd hm
  exact ⟨A, c, h⟩
theorem Yv.len {x : Operand} {T e : TypeId} {v : Value} {n : Nat} (hT : P.underlying T = some (.slice e)) (hx : ev E x = some v) (hn : LM Γ H v n := by first | exact LM.sl | exact LM.rd (by (repeat (first | exact Lend.same _ _ | exact Lend.row _ _ _ _ _ _ (by decide) | apply Lend.there)); first | done | fail)) : Yv P N C E Γ H (.call { callee := .builtin .len, args := #[x], argTypes := #[T] }) ty (it (n : Int)) := by
  intro dst pos aft gd a w he hs
  obtain ⟨A, c, rfl⟩ := hn w hs.sat
  exact Yv.len_s hT hx dst pos aft gd a w he hs
def XM (P : Program) (Γ H : RL) (e : TypeId) (v : Value) (j q : Nat) : Prop := ∀ (N : Nat) (C : Beg) (E : Env) (ty T : TypeId) (x ix : Operand) (k : IntKind), P.underlying T = some (.slice e) → ev E x = some v → ev E ix = some (.int k (j : Int)) → Yv P N C E Γ H (.indexAddr T x ix) ty (ptr (blk v) q)
theorem XM.row {e : TypeId} {v : Value} {n size j : Nat} {xs : List Value} (hs : (P.info? e).map (·.size) = some size) (hm : Res.row v n e size xs ∈ H) (hj : j < n) : XM P Γ H e v j (j * size) := fun _ _ _ _ _ _ _ _ hT hx hi => .indexRow hT hs hx hi hm hj
theorem XM.row1 {e : TypeId} {v : Value} {n j : Nat} {xs : List Value} (hs : (P.info? e).map (·.size) = some 1) (hm : Res.row v n e 1 xs ∈ H) (hj : j < n) : XM P Γ H e v j j := fun _ _ _ _ _ _ _ _ hT hx hi => .indexRow1 hT hs hx hi hm hj
theorem XM.rd {e : TypeId} {v : Value} {n size j : Nat} {xs : List Value} (hs : (P.info? e).map (·.size) = some size) (hm : Lend (Res.rd v n size xs) (H ++ Γ)) (h0 : 0 < size) (hj : j < n) : XM P Γ H e v j (off v + j * size) := fun _ _ _ _ _ _ _ _ hT hx hi => .indexRd hT hs hx hi hm h0 hj
theorem XM.rd1 {e : TypeId} {v : Value} {n j : Nat} {xs : List Value} (hs : (P.info? e).map (·.size) = some 1) (hm : Lend (Res.rd v n 1 xs) (H ++ Γ)) (hj : j < n) : XM P Γ H e v j (off v + j) := fun _ _ _ _ _ _ _ _ hT hx hi => .indexRd1 hT hs hx hi hm hj
theorem Yv.ix {T e j q size : Nat} {x ix : Operand} {v : Value} {k : IntKind} (hT : P.underlying T = some (.slice e)) (hs : (P.info? e).map (·.size) = some size) (hx : ev E x = some v) (hi : ev E ix = some (.int k (j : Int))) (hm : (P.info? e).map (·.size) = some size → XM P Γ H e v j q := by intro hs; first | exact XM.row hs (by (repeat (first | exact List.Mem.head _ | refine List.Mem.tail _ ?_)); first | done | fail) (by first | exact ltb rfl | (simp; done) | (simp; omega) | omega | (simp [*]; omega) | fail) | exact XM.rd hs (by (repeat (first | exact Lend.same _ _ | exact Lend.row _ _ _ _ _ _ (by decide) | apply Lend.there)); first | done | fail) (by decide) (by first | exact ltb rfl | (simp; done) | (simp; omega) | omega | (simp [*]; omega) | fail)) : Yv P N C E Γ H (.indexAddr T x ix) ty (ptr (blk v) q) := hm hs _ _ _ _ _ _ _ _ hT hx hi
theorem Yv.ix1 {T e j q : Nat} {x ix : Operand} {v : Value} {k : IntKind} (hT : P.underlying T = some (.slice e)) (hs : (P.info? e).map (·.size) = some 1) (hx : ev E x = some v) (hi : ev E ix = some (.int k (j : Int))) (hm : (P.info? e).map (·.size) = some 1 → XM P Γ H e v j q := by intro hs; first | exact XM.row1 hs (by (repeat (first | exact List.Mem.head _ | refine List.Mem.tail _ ?_)); first | done | fail) (by first | exact ltb rfl | (simp; done) | (simp; omega) | omega | (simp [*]; omega) | fail) | exact XM.rd1 hs (by (repeat (first | exact Lend.same _ _ | exact Lend.row _ _ _ _ _ _ (by decide) | apply Lend.there)); first | done | fail) (by first | exact ltb rfl | (simp; done) | (simp; omega) | omega | (simp [*]; omega) | fail)) : Yv P N C E Γ H (.indexAddr T x ix) ty (ptr (blk v) q) := hm hs _ _ _ _ _ _ _ _ hT hx hi
def YM (n b q j q' : Nat) : Prop := j < n ∧ q' = q + j
theorem Yv.ixA {T e n b q j q' : Nat} {x ix : Operand} {k : IntKind} (hT : P.underlying T = some (.array n e)) (hs : (P.info? e).map (·.size) = some 1) (hx : ev E x = some (ptr b q)) (hi : ev E ix = some (.int k (j : Int))) (hm : YM n b q j q' := by first | exact ⟨by first | exact ltb rfl | (simp; done) | (simp; omega) | omega | (simp [*]; omega) | fail, (Nat.zero_add _).symm⟩ | exact ⟨by first | exact ltb rfl | (simp; done) | (simp; omega) | omega | (simp [*]; omega) | fail, rfl⟩) : Yv P N C E Γ H (.indexAddr T x ix) ty (ptr b q') := by
  obtain ⟨h1, rfl⟩ := hm
  exact .indexArr1o hT hs hx hi h1
theorem JO.al {d : Nat} {pos : String} {aft : Array Edge} {T : TypeId} {z : Value} {zs : List Value} (hz : (P.info? T).map (·.zero) = some (some z)) (h : ∀ b, JO P N C ops rest Q ((d, ptr b 0) :: E) Γ (Res.cells b zs T :: H)) (hzs : z.cells.toList = zs := by rfl) (hd : d < N := by decide) : JO P N C ops (⟨some d, .alloc T, ty, pos, aft, none⟩ :: rest) Q E Γ H := .alloc zs hz hzs hd h
theorem JO.bx {d : Nat} {pos : String} {aft : Array Edge} {T : TypeId} {x : Operand} {v : Value} {vs : List Value} (h : ∀ b, JO P N C ops rest Q ((d, ptr b 0) :: E) Γ (Res.cells b vs T :: H)) (hx : ev E x = some v := by rfl) (hvs : v.cells.toList = vs := by rfl) (hd : d < N := by decide) : JO P N C ops (⟨some d, .box T x, ty, pos, aft, none⟩ :: rest) Q E Γ H := .box hx vs hvs hd h
theorem JO.s1 {pos : String} {aft : Array Edge} {T : TypeId} {x y : Operand} {b o : Nat} {v : Value} {cs : List Value} {T' : TypeId} {H' : RL} (hT : (P.info? T).map (·.size) = some 1) (h : JO P N C ops rest Q E Γ H') (hx : ev E x = some (ptr b o) := by rfl) (hy : ev E y = some v := by rfl) (h1 : v.oneCell' = true := by rfl) (hu : Upd H (Res.cells b cs T') (Res.cells b (cs.set o v) T') H' := by (repeat (first | exact Upd.here _ _ _ | apply Upd.there)); first | done | fail) (hl : o < cs.length := by first | exact ltb rfl | (simp; done) | (simp; omega) | omega | (simp [*]; omega) | fail) : JO P N C ops (⟨none, .store T x y, ty, pos, aft, none⟩ :: rest) Q E Γ H := .store1 hT hx hy h1 hu hl h
theorem JO.s1s {pos : String} {aft : Array Edge} {T : TypeId} {x y : Operand} {b o : Nat} {v : Value} {cs : List Value} {T' : TypeId} {H' : RL} {n size : Nat} {xs : List Value} (hT : (P.info? T).map (·.size) = some 1) (h : JO P N C ops rest Q E Γ H') (hx : ev E x = some (ptr b o) := by rfl) (hy : ev E y = some v := by rfl) (hm : Lend (Res.rd v n size xs) (H ++ Γ) := by (repeat (first | exact Lend.same _ _ | exact Lend.row _ _ _ _ _ _ (by decide) | apply Lend.there)); first | done | fail) (hu : Upd H (Res.cells b cs T') (Res.cells b (cs.set o v) T') H' := by (repeat (first | exact Upd.here _ _ _ | apply Upd.there)); first | done | fail) (hl : o < cs.length := by first | exact ltb rfl | (simp; done) | (simp; omega) | omega | (simp [*]; omega) | fail) : JO P N C ops (⟨none, .store T x y, ty, pos, aft, none⟩ :: rest) Q E Γ H := .store1s hT hx hy hm hu hl h
theorem JO.sr1 {pos : String} {aft : Array Edge} {T : TypeId} {x y : Operand} {v u : Value} {o n : Nat} {e : TypeId} {xs : List Value} {H' : RL} (hT : (P.info? T).map (·.size) = some 1) (h : JO P N C ops rest Q E Γ H') (hx : ev E x = some (ptr (blk v) o) := by rfl) (hy : ev E y = some u := by rfl) (h1 : u.oneCell' = true := by rfl) (hp : Upd H (Res.row v n e 1 xs) (Res.row v n e 1 (xs.set o u)) H' := by (repeat (first | exact Upd.here _ _ _ | apply Upd.there)); first | done | fail) (hl : o < n := by first | exact ltb rfl | (simp; done) | (simp; omega) | omega | (simp [*]; omega) | fail) (hlen : xs.length = n := by first | rfl | (simp; done) | omega | (simp; omega)) : JO P N C ops (⟨none, .store T x y, ty, pos, aft, none⟩ :: rest) Q E Γ H := .storeRow1 hT hx hy h1 hp hl hlen h
theorem JO.sa {pos : String} {aft : Array Edge} {T n : Nat} {x y : Operand} {b : Nat} {v : Value} {vs cs : List Value} {T' : TypeId} {H' : RL} (hT : (P.info? T).map (·.size) = some n) (h : JO P N C ops rest Q E Γ H') (hx : ev E x = some (ptr b 0) := by rfl) (hy : ev E y = some v := by rfl) (hv : v.cells = vs.toArray := by rfl) (hm : vs.length = n := by first | rfl | (simp; done) | (simp; omega) | (simp [*]; done) | fail) (h1 : ∀ a ∈ vs, a.oneCell' = true := by first | (simp; done) | exact one_sing rfl | exact one_map (fun _ => rfl) | exact one_piece (one_map (fun _ => rfl)) | exact one_tab (fun _ => rfl) | exact one_tab (fun _ => by split <;> rfl) | fail) (hu : Upd H (Res.cells b cs T') (Res.cells b vs T') H' := by (repeat (first | exact Upd.here _ _ _ | apply Upd.there)); first | done | fail) (hl : cs.length = n := by first | rfl | (simp; done) | (simp; omega) | (simp [*]; done) | fail) : JO P N C ops (⟨none, .store T x y, ty, pos, aft, none⟩ :: rest) Q E Γ H := .storeAll hT hx hy hv hm h1 hu hl h
theorem JO.so {pos : String} {aft : Array Edge} {T n : Nat} {x y : Operand} {b o : Nat} {v : Value} {vs cs : List Value} {T' : TypeId} {H' : RL} (hT : (P.info? T).map (·.size) = some n) (h : JO P N C ops rest Q E Γ H') (hx : ev E x = some (ptr b o) := by rfl) (hy : ev E y = some v := by rfl) (hv : v.cells = vs.toArray := by rfl) (hm : vs.length = n := by first | rfl | (simp; done) | (simp; omega) | (simp [*]; done) | fail) (h1 : ∀ a ∈ vs, a.oneCell' = true := by first | (simp; done) | exact one_sing rfl | exact one_map (fun _ => rfl) | exact one_piece (one_map (fun _ => rfl)) | exact one_tab (fun _ => rfl) | exact one_tab (fun _ => by split <;> rfl) | fail) (hu : Upd H (Res.cells b cs T') (Res.cells b (splice cs o vs) T') H' := by (repeat (first | exact Upd.here _ _ _ | apply Upd.there)); first | done | fail) (hl : o + n ≤ cs.length := by first | (simp; done) | omega | (simp; omega) | fail) : JO P N C ops (⟨none, .store T x y, ty, pos, aft, none⟩ :: rest) Q E Γ H := .store hT hx hy hv hm h1 hu hl h
theorem JO.sr {pos : String} {aft : Array Edge} {T m : Nat} {x y : Operand} {v u : Value} {o n : Nat} {e : TypeId} {size : Nat} {us xs : List Value} {H' : RL} (hT : (P.info? T).map (·.size) = some m) (h : JO P N C ops rest Q E Γ H') (hx : ev E x = some (ptr (blk v) o) := by rfl) (hy : ev E y = some u := by rfl) (hu : u.cells = us.toArray := by rfl) (hm : us.length = m := by first | rfl | (simp; done) | (simp; omega) | (simp [*]; done) | fail) (h1 : ∀ a ∈ us, a.oneCell' = true := by first | (simp; done) | exact one_sing rfl | exact one_map (fun _ => rfl) | exact one_piece (one_map (fun _ => rfl)) | exact one_tab (fun _ => rfl) | exact one_tab (fun _ => by split <;> rfl) | fail) (hp : Upd H (Res.row v n e size xs) (Res.row v n e size (splice xs o us)) H' := by (repeat (first | exact Upd.here _ _ _ | apply Upd.there)); first | done | fail) (hn : 0 < n := by first | exact ltb rfl | (simp; done) | (simp; omega) | omega | (simp [*]; omega) | fail) (hl : o + m ≤ n * size := by first | (simp; done) | omega | (simp; omega) | fail) : JO P N C ops (⟨none, .store T x y, ty, pos, aft, none⟩ :: rest) Q E Γ H := .storeRow hT hx hy hu hm h1 hp hn hl h
theorem JO.ap {d : Nat} {pos : String} {aft : Array Edge} {t e : TypeId} {z : Value} {size bytes : Nat} {x y : Operand} {v u : Value} {n m : Nat} {xs news : List Value} {G : RL} (ht : P.underlying t = some (.slice e)) (hinfo : (P.info? e).map (fun i => (i.zero, i.size, i.bytes)) = some (some z, size, bytes)) (h : ∀ v', JO P N C ops rest Q ((d, v') :: E) Γ (Res.row v' (n + m) e size (xs ++ news) :: G)) (hz : z.cells.size = size := by rfl) (h0 : 0 < size := by decide) (hx : ev E x = some v := by rfl) (hy : ev E y = some u := by rfl) (hp : Pull (Res.row v n e size xs) H G := by (repeat (first | exact Pull.here _ _ | apply Pull.there)); first | done | fail) (hsrc : Src Γ H size u m news := by first | exact Src.nil | exact Src.rd (by (repeat (first | exact Lend.same _ _ | exact Lend.row _ _ _ _ _ _ (by decide) | apply Lend.there)); first | done | fail) (by decide) | exact Src.cells (by (repeat (first | exact List.Mem.head _ | refine List.Mem.tail _ ?_)); first | done | fail) (by simp)) (hone : ∀ a ∈ news, a.oneCell' = true := by first | (simp; done) | exact one_sing rfl | exact one_map (fun _ => rfl) | exact one_piece (one_map (fun _ => rfl)) | exact one_tab (fun _ => rfl) | exact one_tab (fun _ => by split <;> rfl) | fail) (hnm : n + m ≤ maxLen := by unfold maxLen; omega) (hb : (n + m) * bytes ≤ 140737488355328 := by omega) (hd : d < N := by decide) : JO P N C ops (⟨some d, .call { callee := .builtin .append, args := #[x, y], argTypes := #[t, t] }, ty, pos, aft, none⟩ :: rest) Q E Γ H := .append ht hinfo hz h0 hx hy hp hsrc hone hnm hb hd h
theorem JO.l1 {d : Nat} {pos : String} {aft : Array Edge} {t e : TypeId} {len : Nat} {parts : List (Nat × Operand)} {vs : List Value} {z : Value} {bytes : Nat} (hu : P.underlying t = some (.slice e)) (hinfo : (P.info? e).map (fun i => (i.zero, i.size, i.bytes)) = some (some z, 1, bytes)) (h : ∀ v, JO P N C ops rest Q ((d, v) :: E) Γ (Res.row v len e 1 vs :: H)) (hidx : parts.map (·.1) = List.range len := by rfl) (hp : evs E (parts.map (·.2)) = some vs := by rfl) (h1 : ∀ v ∈ vs, v.oneCell' = true := by simp) (hsmall : len ≤ 2 ^ 24 := by decide) (hpos : 0 < len := by decide) (hd : d < N := by decide) : JO P N C ops (⟨some d, .buildSlice t len parts.toArray, ty, pos, aft, none⟩ :: rest) Q E Γ H := .lit1 hu hinfo hidx hp h1 hsmall hpos hd h
theorem JO.ls {d : Nat} {pos : String} {aft : Array Edge} {t e : TypeId} {len : Nat} {parts : List (Nat × Operand)} {vs : List Value} {z : Value} {size bytes : Nat} (hu : P.underlying t = some (.slice e)) (hinfo : (P.info? e).map (fun i => (i.zero, i.size, i.bytes)) = some (some z, size, bytes)) (h : ∀ v, JO P N C ops rest Q ((d, v) :: E) Γ (Res.row v len e size (vs.flatMap fun v => v.cells.toList) :: H)) (hidx : parts.map (·.1) = List.range len := by rfl) (hp : evs E (parts.map (·.2)) = some vs := by rfl) (hsz : ∀ v ∈ vs, v.cells.size = size := by simp) (hsmall : len * size ≤ 2 ^ 24 := by decide) (hpos : 0 < len * size := by decide) (hm : len ≤ maxLen := by unfold maxLen; omega) (hd : d < N := by decide) : JO P N C ops (⟨some d, .buildSlice t len parts.toArray, ty, pos, aft, none⟩ :: rest) Q E Γ H := .lit hu hinfo hidx hp hsz hsmall hpos hm hd h
theorem JO.le {d : Nat} {pos : String} {aft : Array Edge} {t e : TypeId} {size : Nat} (hu : P.underlying t = some (.slice e)) (hs : (P.info? e).map (·.size) = some size) (h : ∀ v, JO P N C ops rest Q ((d, v) :: E) Γ (Res.row v 0 e size [] :: H)) (hd : d < N := by decide) : JO P N C ops (⟨some d, .buildSlice t 0 #[], ty, pos, aft, none⟩ :: rest) Q E Γ H := .buildEmpty hu hs hd h
theorem JO.ct {d : Nat} {pos : String} {aft : Array Edge} {T e : TypeId} {x : Operand} {lo hi : Option Operand} {v : Value} {n size : Nat} (l h : Nat) {xs : List Value} (hT : P.underlying T = some (.slice e)) (hsz : (P.info? e).map (·.size) = some size) (hk : ∀ v', JO P N C ops rest Q ((d, v') :: E) (Res.rd v' (h - l) size ((xs.drop (l * size)).take ((h - l) * size)) :: Γ) H) (hx : ev E x = some v := by rfl) (hm : Res.rd v n size xs ∈ Γ := by (repeat (first | exact List.Mem.head _ | refine List.Mem.tail _ ?_)); first | done | fail) (hlo : Bd E lo 0 l := by first | rfl | exact ⟨_, rfl⟩) (hhi : Bd E hi n h := by first | rfl | exact ⟨_, rfl⟩) (hlh : l ≤ h := by first | (simp; done) | omega | (simp; omega) | fail) (hn : h ≤ n := by first | (simp; done) | omega | (simp; omega) | fail) (hd : d < N := by decide) : JO P N C ops (⟨some d, .slice T x lo hi none, ty, pos, aft, none⟩ :: rest) Q E Γ H := .cut l h hT hsz hx hm hlo hhi hlh hn hd hk
theorem JO.cf {d : Nat} {pos : String} {aft : Array Edge} {T e : TypeId} {x : Operand} {lo hi : Option Operand} {v : Value} {n size : Nat} (l h : Nat) {xs : List Value} {G : RL} (hT : P.underlying T = some (.slice e)) (hsz : (P.info? e).map (·.size) = some size) (hk : ∀ v', JO P N C ops rest Q ((d, v') :: E) (Res.rd v' (h - l) size ((xs.drop (l * size)).take ((h - l) * size)) :: Res.rd v n size xs :: Γ) G) (hx : ev E x = some v := by rfl) (hp : Pull (Res.row v n e size xs) H G := by (repeat (first | exact Pull.here _ _ | apply Pull.there)); first | done | fail) (h0 : 0 < size := by decide) (hlo : Bd E lo 0 l := by first | rfl | exact ⟨_, rfl⟩) (hhi : Bd E hi n h := by first | rfl | exact ⟨_, rfl⟩) (hlh : l ≤ h := by first | (simp; done) | omega | (simp; omega) | fail) (hn : h ≤ n := by first | (simp; done) | omega | (simp; omega) | fail) (hd : d < N := by decide) : JO P N C ops (⟨some d, .slice T x lo hi none, ty, pos, aft, none⟩ :: rest) Q E Γ H := .cutFr l h hT hsz hx hp h0 hlo hhi hlh hn hd hk
theorem JO.c {d : Nat} {pos : String} {aft : Array Edge} {f : FuncId} {xs : List Operand} {vs : List Value} {AT : Array TypeId} {Γc Hc G : RL} {v : Value} {H1 H2 : RL} (hc : Spec P f vs.toArray Γc Hc (fun r Γ' H' => r = v ∧ Γ' = [] ∧ H' = H1)) (hb : Body P f) (h : JO P N C ops rest Q ((d, v) :: E) Γ H2) (hx : evs E xs = some vs := by rfl) (hp : Picks Hc H G := by (repeat (first | exact Picks.nil _ | apply Picks.cons | exact Pull.here _ _ | apply Pull.there)); first | done | fail) (hg : Lends Γc (G ++ Γ) := by (repeat (first | exact Lends.nil _ | apply Lends.cons | exact Lend.same _ _ | exact Lend.row _ _ _ _ _ _ (by decide) | apply Lend.there)); first | done | fail) (ha : App H1 G H2 := by (repeat (first | exact App.nil _ | apply App.cons)); first | done | fail) (hd : d < N := by decide) : JO P N C ops (⟨some d, .call { callee := .value (.func f), args := xs.toArray, argTypes := AT }, ty, pos, aft, none⟩ :: rest) Q E Γ H :=
  .callB hc hb hx hp hg (fun _ _ _ h => h.2.1) hd fun v' H' ⟨H1', ⟨e1, _, e3⟩, e2⟩ => by subst e1 e3 e2; rw [ha.eq]; exact h
theorem JO.c0 {pos : String} {aft : Array Edge} {f : FuncId} {xs : List Operand} {vs : List Value} {AT : Array TypeId} {Γc Hc G : RL} {v : Value} {H1 H2 : RL} (hc : Spec P f vs.toArray Γc Hc (fun r Γ' H' => r = v ∧ Γ' = [] ∧ H' = H1)) (hb : Body P f) (h : JO P N C ops rest Q E Γ H2) (hx : evs E xs = some vs := by rfl) (hp : Picks Hc H G := by (repeat (first | exact Picks.nil _ | apply Picks.cons | exact Pull.here _ _ | apply Pull.there)); first | done | fail) (hg : Lends Γc (G ++ Γ) := by (repeat (first | exact Lends.nil _ | apply Lends.cons | exact Lend.same _ _ | exact Lend.row _ _ _ _ _ _ (by decide) | apply Lend.there)); first | done | fail) (ha : App H1 G H2 := by (repeat (first | exact App.nil _ | apply App.cons)); first | done | fail) : JO P N C ops (⟨none, .call { callee := .value (.func f), args := xs.toArray, argTypes := AT }, ty, pos, aft, none⟩ :: rest) Q E Γ H :=
  .callB0 hc hb hx hp hg (fun _ _ _ h => h.2.1) fun v' H' ⟨H1', ⟨e1, _, e3⟩, e2⟩ => by subst e1 e3 e2; rw [ha.eq]; exact h
def AppJ (H1 G : RL) (K : RL → Prop) : Prop := K (H1 ++ G)
theorem AppJ.ap {H1 G H2 : RL} {K : RL → Prop} (h : K H2) (ha : App H1 G H2 := by (repeat (first | exact App.nil _ | apply App.cons)); first | done | fail) : AppJ H1 G K := by unfold AppJ; rw [ha.eq]; exact h
theorem JO.cb {d : Nat} {pos : String} {aft : Array Edge} {f : FuncId} {xs : List Operand} {vs : List Value} {AT : Array TypeId} {Γc Hc G : RL} {post : Value → RL → RL → Prop} (hc : Spec P f vs.toArray Γc Hc post) (hb : Body P f) (h : ∀ v H1, post v [] H1 → AppJ H1 G (JO P N C ops rest Q ((d, v) :: E) Γ)) (hx : evs E xs = some vs := by rfl) (hp : Picks Hc H G := by (repeat (first | exact Picks.nil _ | apply Picks.cons | exact Pull.here _ _ | apply Pull.there)); first | done | fail) (hg : Lends Γc (G ++ Γ) := by (repeat (first | exact Lends.nil _ | apply Lends.cons | exact Lend.same _ _ | exact Lend.row _ _ _ _ _ _ (by decide) | apply Lend.there)); first | done | fail) (h0 : ∀ v Γ1 H1, post v Γ1 H1 → Γ1 = [] := by rintro _ _ _ ⟨_, h, _⟩; exact h) (hd : d < N := by decide) : JO P N C ops (⟨some d, .call { callee := .value (.func f), args := xs.toArray, argTypes := AT }, ty, pos, aft, none⟩ :: rest) Q E Γ H := .callB hc hb hx hp hg h0 hd fun v H' ⟨H1, h1, h2⟩ => by subst h2; exact h v H1 h1
theorem JO.cs {d : Nat} {pos : String} {aft : Array Edge} {f : FuncId} {xs : List Operand} {vs : List Value} {AT : Array TypeId} {Γc Hc G : RL} {post : Value → RL → RL → Prop} (hc : Spec P f vs.toArray Γc Hc post) (hb : Body P f) (h : ∀ v Γ1 H1, post v Γ1 H1 → AppJ Γ1 Γ fun Γ2 => AppJ H1 G fun H2 => JO P N C ops rest Q ((d, v) :: E) Γ2 H2) (hx : evs E xs = some vs := by rfl) (hp : Picks Hc H G := by (repeat (first | exact Picks.nil _ | apply Picks.cons | exact Pull.here _ _ | apply Pull.there)); first | done | fail) (hg : Subs Γc Γ := by (repeat (first | exact Subs.nil _ | apply Subs.cons | exact List.Mem.head _ | refine List.Mem.tail _ ?_)); first | done | fail) (hd : d < N := by decide) : JO P N C ops (⟨some d, .call { callee := .value (.func f), args := xs.toArray, argTypes := AT }, ty, pos, aft, none⟩ :: rest) Q E Γ H := .call hc hb hx hp hg hd fun v Γ' H' ⟨Γ1, H1, h1, h2, h3⟩ => by subst h2 h3; exact h v Γ1 H1 h1
theorem JO.cs0 {pos : String} {aft : Array Edge} {f : FuncId} {xs : List Operand} {vs : List Value} {AT : Array TypeId} {Γc Hc G : RL} {post : Value → RL → RL → Prop} (hc : Spec P f vs.toArray Γc Hc post) (hb : Body P f) (h : ∀ v Γ1 H1, post v Γ1 H1 → AppJ Γ1 Γ fun Γ2 => AppJ H1 G fun H2 => JO P N C ops rest Q E Γ2 H2) (hx : evs E xs = some vs := by rfl) (hp : Picks Hc H G := by (repeat (first | exact Picks.nil _ | apply Picks.cons | exact Pull.here _ _ | apply Pull.there)); first | done | fail) (hg : Subs Γc Γ := by (repeat (first | exact Subs.nil _ | apply Subs.cons | exact List.Mem.head _ | refine List.Mem.tail _ ?_)); first | done | fail) : JO P N C ops (⟨none, .call { callee := .value (.func f), args := xs.toArray, argTypes := AT }, ty, pos, aft, none⟩ :: rest) Q E Γ H := .call0 hc hb hx hp hg fun v Γ' H' ⟨Γ1, H1, h1, h2, h3⟩ => by subst h2 h3; exact h v Γ1 H1 h1
theorem JC.cn {c : Operand} {x y : Code} {t : Bool} {p q : Prop} [hn : NB t p q] (hc : ev E c = some (.bool t)) (ht : p → JC P N C x Q E Γ H) (hf : q → JC P N C y Q E Γ H) : JC P N C (.cond c x y) Q E Γ H := .cond hc (fun h => ht (hn.t h)) (fun h => hf (hn.f h))
theorem JC.ct {c : Operand} {x y : Code} (hc : ev E c = some (.bool true)) (ht : JC P N C x Q E Γ H) : JC P N C (.cond c x y) Q E Γ H := .cond hc (fun _ => ht) (fun h => by cases h)
theorem JC.cf {c : Operand} {x y : Code} (hc : ev E c = some (.bool false)) (hf : JC P N C y Q E Γ H) : JC P N C (.cond c x y) Q E Γ H := .cond hc (fun h => by cases h) (fun _ => hf)
theorem JO.gn {g : Nat} {b : Bool} {l : List Oper} {p q : Prop} [hn : NB b p q] (hg : lk E g = some (.bool b)) (ht : b = true → p → JO P N C ops l Q E Γ H) (hf : b = false → q → JO P N C ops l Q E Γ H) : JO P N C ops l Q E Γ H := .gsplit hg (fun h => ht h (hn.t h)) (fun h => hf h (hn.f h))
/-- A loop; what it doesn't turn is kept. -/
theorem JC.lp {ι : Type} {c : Code} (pr : ι → Prop) (IE : Env → ι → Env) (IΓ IH : RL → ι → RL) (μ : ι → Nat) (x0 : ι) (keep : List Nat) {E' : Env} {G : RL} (h0 : pr x0)
    (round : ∀ x, pr x → JC P N C c (Exit.then (Head N C (IE E') (IΓ Γ) (IH G) (fun y => pr y ∧ μ y < μ x)) Q) (IE E' x) (IΓ Γ x) (IH G x))
    (hk : KeepE keep E E' := by (repeat (first | exact KeepE.nil _ | (apply KeepE.cons; rfl) | apply KeepE.skip)); first | done | fail) (hE : Sub (IE [] x0) E := by (repeat (first | exact trivial | (refine ⟨?_, ?_⟩; focus (first | rfl | (simp; done) | fail)))); first | done | fail) (hH : Picks (IH [] x0) H G := by (repeat (first | exact Picks.nil _ | apply Picks.cons | exact Pull.here _ _ | apply Pull.there)); first | done | fail) (hg : Subs (IΓ [] x0) Γ := by (repeat (first | exact Subs.nil _ | apply Subs.cons | exact List.Mem.head _ | refine List.Mem.tail _ ?_)); first | done | fail)
    (e1 : ∀ T x, IE T x = IE [] x ++ T := by exact fun _ _ => rfl) (e2 : ∀ T x, IH T x = IH [] x ++ T := by exact fun _ _ => rfl) (e3 : ∀ T x, IΓ T x = IΓ [] x ++ T := by exact fun _ _ => rfl) : JC P N C (.loop c) Q E Γ H := by
  intro hn a w he hs
  refine wp_loop_ghost (fun n a w => ∃ x, pr x ∧ μ x = n ∧ EnvOk N (IE E' x) a ∧ St C (IΓ Γ x) (IH G x) w) (μ x0) ⟨x0, h0, rfl, ?_, ?_⟩ ?_
  · rw [e1]; exact (he.sub hE).app (he.sub hk.sub)
  · rw [e2, e3]
    have h1 : St C Γ (IH [] x0 ++ G) w := hs.perm hH.perm
    exact (h1.perm (show (IH [] x0 ++ G).Perm ((IH [] x0 ++ G) ++ []) by rw [List.append_nil])).weak fun r hr => (List.mem_append.1 hr).elim (hg.sub r) id
  rintro n a w ⟨x, hx, rfl, hea, hst⟩
  refine Code.wp_mono ?_ (round x hx hn.then a w hea hst)
  intro e a' w' h
  cases e with
  | normal =>
    obtain ⟨y, ⟨hy0, hy⟩, hea', hst'⟩ := h
    exact ⟨μ y, hy, y, hy0, rfl, hea', hst'⟩
  | _ => exact h
/-- Ways that meet again; what they don't turn is kept. -/
theorem JC.mt {ι : Type} {x y : Code} (pr : ι → Prop) (IE : Env → ι → Env) (IΓ IH : RL → ι → RL) (keep : List Nat) (take : RL) {E' : Env} {G : RL}
    (hx : JC P N C x (Exit.then (Head N C (IE E') (IΓ Γ) (IH G) pr) Q) E Γ H) (hy : ∀ i, pr i → JC P N C y Q (IE E' i) (IΓ Γ i) (IH G i))
    (hk : KeepE keep E E' := by (repeat (first | exact KeepE.nil _ | (apply KeepE.cons; rfl) | apply KeepE.skip)); first | done | fail) (hH : Picks take H G := by (repeat (first | exact Picks.nil _ | apply Picks.cons | exact Pull.here _ _ | apply Pull.there)); first | done | fail) : JC P N C (.seq x y) Q E Γ H := .cut pr (IE E') (IΓ Γ) (IH G) hx hy
theorem JQ.hd {ι : Type} {IE : ι → Env} {IΓ IH : ι → RL} {ok : ι → Prop} (y : ι) {G : RL} (hy : ok y) (hE : Sub (IE y) E := by (repeat (first | exact trivial | (refine ⟨?_, ?_⟩; focus (first | rfl | (simp; done) | fail)))); first | done | fail) (hg : Subs (IΓ y) Γ := by (repeat (first | exact Subs.nil _ | apply Subs.cons | exact List.Mem.head _ | refine List.Mem.tail _ ?_)); first | done | fail) (hH : Picks (IH y) H G := by (repeat (first | exact Picks.nil _ | apply Picks.cons | exact Pull.here _ _ | apply Pull.there)); first | done | fail) : JQ N C .normal (Exit.then (Head N C IE IΓ IH ok) Q) E Γ H := .head y hE hg.sub hH.perm hy
theorem JQ.dn {fn : Func} {post : Value → RL → RL → Prop} {w : World} {Γ0 H0 : RL} {e : Exit} (Γ' H' : RL) {v : Value} {G : RL} (hr : ∀ a w', EnvOk N E a → St ⟨w, Γ0, H0⟩ Γ H w' → (results fn a.tmps).run P w' = .ok v w') (hp : post v Γ' H')
    (he : e = .normal ∨ e = .ret := by first | exact .inl rfl | exact .inr rfl) (hg : Subs Γ' Γ := by (repeat (first | exact Subs.nil _ | apply Subs.cons | exact List.Mem.head _ | refine List.Mem.tail _ ?_)); first | done | fail) (hH : Picks H' H G := by (repeat (first | exact Picks.nil _ | apply Picks.cons | exact Pull.here _ _ | apply Pull.there)); first | done | fail) : JQ N ⟨w, Γ0, H0⟩ e (bodyPost P fn (SpecPost Γ0 H0 post w)) E Γ H := .done he hr hg.sub hH.perm hp
theorem JQ.tn {y : Code} (h : JC P N C y Q E Γ H) : JQ N C .normal (Exit.then (y.wp P Q) Q) E Γ H := .then_normal h
theorem RV.cl {t T n b : Nat} {cs : List Value} {T' : TypeId} (hA : Agg P T n) (ht : lk E t = some (ptr b 0) := by rfl) (hm : Res.cells b cs T' ∈ H := by (repeat (first | exact List.Mem.head _ | refine List.Mem.tail _ ?_)); first | done | fail) (hn : cs.length = n := by first | rfl | (simp; done) | (simp; omega) | (simp [*]; done) | fail) : RV P N C E Γ H (.cell t T) (.agg cs.toArray) := .cell hA hm ht hn
end
section
variable {P : Program} {N : Nat} {C : Beg} {Q : Exit → Act → World → Prop} {E : Env} {Γ H Γ0 H0 : RL} {ty : TypeId} {ops : Array Oper} {T M U : Nat → Bool} {l : OT}
theorem kp {i : Nat} {J : Prop} (h : J) (hs : (∀ r ∈ Γ0, r ∈ Γ) ∧ (T i = true ∨ ∀ w, St C Γ H w → St C Γ0 H0 w) := by exact ⟨Subs.sub (by (repeat (first | exact Subs.nil _ | apply Subs.cons | exact List.Mem.head _ | refine List.Mem.tail _ ?_)); first | done | fail), by first | exact .inl rfl | exact .inr (St.keep (by (repeat (first | exact Subs.nil _ | apply Subs.cons | exact List.Mem.head _ | refine List.Mem.tail _ ?_)); first | done | fail) (by (repeat (first | exact Picks.nil _ | apply Picks.cons | exact Pull.here _ _ | apply Pull.there)); first | done | fail))⟩) : ((∀ r ∈ Γ0, r ∈ Γ) ∧ (T i = true ∨ ∀ w, St C Γ H w → St C Γ0 H0 w)) ∧ J := ⟨hs, h⟩
theorem JR.w {i d : Nat} {op : Op} {pos : String} {aft : Array Edge} {v : Value} (ho : ops[i]? = some ⟨some d, op, ty, pos, aft, none⟩) (hv : Yv P N C E Γ0 H0 op ty v) (h : JR P N C ops T M U Γ0 H0 l Q ((d, v) :: E) Γ H) (hM : M i = false := by rfl) (hU : U i = false := by rfl) (hd : d < N := by decide) : JR P N C ops T M U Γ0 H0 (.one i l) Q E Γ H := .v ho hM hU hv hd h
theorem JR.uw {i d : Nat} {op : Op} {pos : String} {aft : Array Edge} {v : Value} (ho : ops[i]? = some ⟨some d, op, ty, pos, aft, none⟩) (hv : Yv P N C E Γ0 [] op ty v) (h : JR P N C ops T M U Γ0 H0 l Q ((d, v) :: E) Γ H) (hM : M i = false := by rfl) (hU : U i = true := by rfl) (hd : d < N := by decide) : JR P N C ops T M U Γ0 H0 (.one i l) Q E Γ H := .u ho hM hU hv hd h
theorem JR.mw {i d : Nat} {op : Op} {pos : String} {aft : Array Edge} {post : Value → RL → RL → Prop} (ho : ops[i]? = some ⟨some d, op, ty, pos, aft, none⟩) (hm : Mv P N C E Γ H op ty post) (h : ∀ v Γ' H', post v Γ' H' → ((∀ r ∈ Γ0, r ∈ Γ') ∧ (T i = true ∨ ∀ w, St C Γ' H' w → St C Γ0 H0 w)) ∧ JR P N C ops T M U Γ0 H0 l Q ((d, v) :: E) Γ' H') (hM : M i = true := by rfl) (hd : d < N := by decide) : JR P N C ops T M U Γ0 H0 (.one i l) Q E Γ H := .m ho hM hm hd h
theorem JR.mw0 {i : Nat} {op : Op} {pos : String} {aft : Array Edge} {post : Value → RL → RL → Prop} (ho : ops[i]? = some ⟨none, op, ty, pos, aft, none⟩) (hm : Mv P N C E Γ H op ty post) (h : ∀ v Γ' H', post v Γ' H' → ((∀ r ∈ Γ0, r ∈ Γ') ∧ (T i = true ∨ ∀ w, St C Γ' H' w → St C Γ0 H0 w)) ∧ JR P N C ops T M U Γ0 H0 l Q E Γ' H') (hM : M i = true := by rfl) : JR P N C ops T M U Γ0 H0 (.one i l) Q E Γ H := .m0 ho hM hm h
end
section
variable {P : Program} {N : Nat} {C : Beg} {E : Env} {Γ H : RL} {ty : TypeId}
theorem Mv.s1 {T : TypeId} {x y : Operand} {b o : Nat} {v : Value} {cs : List Value} {T' : TypeId} {H' : RL} (hT : (P.info? T).map (·.size) = some 1) (hx : ev E x = some (ptr b o) := by rfl) (hy : ev E y = some v := by rfl) (h1 : v.oneCell' = true := by rfl) (hu : Upd H (Res.cells b cs T') (Res.cells b (cs.set o v) T') H' := by (repeat (first | exact Upd.here _ _ _ | apply Upd.there)); first | done | fail) (hl : o < cs.length := by first | exact ltb rfl | (simp; done) | (simp; omega) | omega | (simp [*]; omega) | fail) : Mv P N C E Γ H (.store T x y) ty (fun _ Γ1 H1 => Γ1 = Γ ∧ H1 = H') := .store1 hT hx hy h1 hu hl
theorem Mv.s1s {T : TypeId} {x y : Operand} {b o : Nat} {v : Value} {cs : List Value} {T' : TypeId} {H' : RL} {n size : Nat} {xs : List Value} (hT : (P.info? T).map (·.size) = some 1) (hx : ev E x = some (ptr b o) := by rfl) (hy : ev E y = some v := by rfl) (hm : Lend (Res.rd v n size xs) (H ++ Γ) := by (repeat (first | exact Lend.same _ _ | exact Lend.row _ _ _ _ _ _ (by decide) | apply Lend.there)); first | done | fail) (hu : Upd H (Res.cells b cs T') (Res.cells b (cs.set o v) T') H' := by (repeat (first | exact Upd.here _ _ _ | apply Upd.there)); first | done | fail) (hl : o < cs.length := by first | exact ltb rfl | (simp; done) | (simp; omega) | omega | (simp [*]; omega) | fail) : Mv P N C E Γ H (.store T x y) ty (fun _ Γ1 H1 => Γ1 = Γ ∧ H1 = H') := .store1s hT hx hy hm hu hl
theorem Mv.sr1 {T : TypeId} {x y : Operand} {v u : Value} {o n : Nat} {e : TypeId} {xs : List Value} {H' : RL} (hT : (P.info? T).map (·.size) = some 1) (hx : ev E x = some (ptr (blk v) o) := by rfl) (hy : ev E y = some u := by rfl) (h1 : u.oneCell' = true := by rfl) (hp : Upd H (Res.row v n e 1 xs) (Res.row v n e 1 (xs.set o u)) H' := by (repeat (first | exact Upd.here _ _ _ | apply Upd.there)); first | done | fail) (hl : o < n := by first | exact ltb rfl | (simp; done) | (simp; omega) | omega | (simp [*]; omega) | fail) (hlen : xs.length = n := by first | rfl | (simp; done) | omega | (simp; omega)) : Mv P N C E Γ H (.store T x y) ty (fun _ Γ1 H1 => Γ1 = Γ ∧ H1 = H') := .storeRow1 hT hx hy h1 hp hl hlen
theorem Mv.sa {T n : Nat} {x y : Operand} {b : Nat} {v : Value} {vs cs : List Value} {T' : TypeId} {H' : RL} (hT : (P.info? T).map (·.size) = some n) (hx : ev E x = some (ptr b 0) := by rfl) (hy : ev E y = some v := by rfl) (hv : v.cells = vs.toArray := by rfl) (hm : vs.length = n := by first | rfl | (simp; done) | (simp; omega) | (simp [*]; done) | fail) (h1 : ∀ a ∈ vs, a.oneCell' = true := by first | (simp; done) | exact one_sing rfl | exact one_map (fun _ => rfl) | exact one_piece (one_map (fun _ => rfl)) | exact one_tab (fun _ => rfl) | exact one_tab (fun _ => by split <;> rfl) | fail) (hu : Upd H (Res.cells b cs T') (Res.cells b vs T') H' := by (repeat (first | exact Upd.here _ _ _ | apply Upd.there)); first | done | fail) (hl : cs.length = n := by first | rfl | (simp; done) | (simp; omega) | (simp [*]; done) | fail) : Mv P N C E Γ H (.store T x y) ty (fun _ Γ1 H1 => Γ1 = Γ ∧ H1 = H') := .storeAll hT hx hy hv hm h1 hu hl
theorem Mv.so {T n : Nat} {x y : Operand} {b o : Nat} {v : Value} {vs cs : List Value} {T' : TypeId} {H' : RL} (hT : (P.info? T).map (·.size) = some n) (hx : ev E x = some (ptr b o) := by rfl) (hy : ev E y = some v := by rfl) (hv : v.cells = vs.toArray := by rfl) (hm : vs.length = n := by first | rfl | (simp; done) | (simp; omega) | (simp [*]; done) | fail) (h1 : ∀ a ∈ vs, a.oneCell' = true := by first | (simp; done) | exact one_sing rfl | exact one_map (fun _ => rfl) | exact one_piece (one_map (fun _ => rfl)) | exact one_tab (fun _ => rfl) | exact one_tab (fun _ => by split <;> rfl) | fail) (hu : Upd H (Res.cells b cs T') (Res.cells b (splice cs o vs) T') H' := by (repeat (first | exact Upd.here _ _ _ | apply Upd.there)); first | done | fail) (hl : o + n ≤ cs.length := by first | (simp; done) | omega | (simp; omega) | fail) : Mv P N C E Γ H (.store T x y) ty (fun _ Γ1 H1 => Γ1 = Γ ∧ H1 = H') := .store hT hx hy hv hm h1 hu hl
theorem Mv.ap {t e : TypeId} {z : Value} {size bytes : Nat} {x y : Operand} {v u : Value} {n m : Nat} {xs news : List Value} {G : RL} (ht : P.underlying t = some (.slice e)) (hinfo : (P.info? e).map (fun i => (i.zero, i.size, i.bytes)) = some (some z, size, bytes)) (hz : z.cells.size = size := by rfl) (h0 : 0 < size := by decide) (hx : ev E x = some v := by rfl) (hy : ev E y = some u := by rfl) (hp : Pull (Res.row v n e size xs) H G := by (repeat (first | exact Pull.here _ _ | apply Pull.there)); first | done | fail) (hsrc : Src Γ H size u m news := by first | exact Src.nil | exact Src.rd (by (repeat (first | exact Lend.same _ _ | exact Lend.row _ _ _ _ _ _ (by decide) | apply Lend.there)); first | done | fail) (by decide) | exact Src.cells (by (repeat (first | exact List.Mem.head _ | refine List.Mem.tail _ ?_)); first | done | fail) (by simp)) (hone : ∀ a ∈ news, a.oneCell' = true := by first | (simp; done) | exact one_sing rfl | exact one_map (fun _ => rfl) | exact one_piece (one_map (fun _ => rfl)) | exact one_tab (fun _ => rfl) | exact one_tab (fun _ => by split <;> rfl) | fail) (hnm : n + m ≤ maxLen := by unfold maxLen; omega) (hb : (n + m) * bytes ≤ 140737488355328 := by omega) : Mv P N C E Γ H (.call { callee := .builtin .append, args := #[x, y], argTypes := #[t, t] }) ty (fun v' Γ' H' => Γ' = Γ ∧ H' = Res.row v' (n + m) e size (xs ++ news) :: G) := .append ht hinfo hz h0 hx hy hp hsrc hone hnm hb
theorem Mv.cb {f : FuncId} {xs : List Operand} {vs : List Value} {AT : Array TypeId} {Γc Hc G : RL} {post : Value → RL → RL → Prop} (hc : Spec P f vs.toArray Γc Hc post) (hb : Body P f) (hx : evs E xs = some vs := by rfl) (hp : Picks Hc H G := by (repeat (first | exact Picks.nil _ | apply Picks.cons | exact Pull.here _ _ | apply Pull.there)); first | done | fail) (hg : Lends Γc (G ++ Γ) := by (repeat (first | exact Lends.nil _ | apply Lends.cons | exact Lend.same _ _ | exact Lend.row _ _ _ _ _ _ (by decide) | apply Lend.there)); first | done | fail) (h0 : ∀ v Γ1 H1, post v Γ1 H1 → Γ1 = [] := by rintro _ _ _ ⟨_, h, _⟩; exact h) : Mv P N C E Γ H (.call { callee := .value (.func f), args := xs.toArray, argTypes := AT }) ty (fun v Γ' H' => ∃ H1, post v [] H1 ∧ Γ' = Γ ∧ H' = H1 ++ G) := .callB hb hx hc hp hg h0
theorem Mv.c {f : FuncId} {xs : List Operand} {vs : List Value} {AT : Array TypeId} {Γc Hc G : RL} {v : Value} {H1 H2 : RL} (hc : Spec P f vs.toArray Γc Hc (fun r Γ' H' => r = v ∧ Γ' = [] ∧ H' = H1)) (hb : Body P f) (hx : evs E xs = some vs := by rfl) (hp : Picks Hc H G := by (repeat (first | exact Picks.nil _ | apply Picks.cons | exact Pull.here _ _ | apply Pull.there)); first | done | fail) (hg : Lends Γc (G ++ Γ) := by (repeat (first | exact Lends.nil _ | apply Lends.cons | exact Lend.same _ _ | exact Lend.row _ _ _ _ _ _ (by decide) | apply Lend.there)); first | done | fail) (ha : App H1 G H2 := by (repeat (first | exact App.nil _ | apply App.cons)); first | done | fail) : Mv P N C E Γ H (.call { callee := .value (.func f), args := xs.toArray, argTypes := AT }) ty (fun r Γ' H' => r = v ∧ Γ' = Γ ∧ H' = H2) :=
  fun dst pos aft gd a w he hs K Q hK => Mv.callB hb hx hc hp hg (fun _ _ _ h => h.2.1) dst pos aft gd a w he hs K Q fun v' Γ' H' w' ⟨H1', ⟨e1, _, e3⟩, e4, e5⟩ hs' => hK v' Γ' H' w' ⟨e1, e4, by rw [e5, e3, ha.eq]⟩ hs'
end
end Go.Proofs.YthfipbjmpeegbaaGreatDoor

/- Maps of one's own: what they hold, by typed keys and values; ranges over them; bytes as_ a string. No program in sight. -/
namespace Go.Proofs.YthfipbjmpeegbaaGreatDoor
open Go.RowKit
set_option linter.unusedVariables false
set_option linter.unusedSectionVars false
set_option linter.unusedSimpArgs false
/-! ### Strings of bytes -/
def strOf (b : List (BitVec 8)) : ByteArray := ⟨(b.map UInt8.ofBitVec).toArray⟩
theorem strOf_inj {a b : List (BitVec 8)} (h : strOf a = strOf b) : a = b := by
  have h1 := congrArg (fun s : ByteArray => s.data.toList) h
  simp only [strOf] at h1
  refine List.map_inj_right (f := UInt8.ofBitVec) (fun x y e => ?_) |>.1 (by simpa using h1)
  exact congrArg UInt8.toBitVec e
section
variable {P : Program} {N : Nat} {C : Beg} {Q : Exit → Act → World → Prop} {E : Env} {Γ H : RL} {ty : TypeId} {ops : Array Oper} {rest : List Oper}
theorem Yv.conv_str {S D e n : TypeId} {x : Operand} {v : Value} {b : List (BitVec 8)} (hs : P.underlying S = some (.slice e)) (he : P.underlying e = some (.int .u8)) (hd : P.underlying D = some .string) (hx : ev E x = some v)
    (hn : n = b.length) (hm : Lend (Res.rd v n 1 (b.map u8)) (H ++ Γ)) : Yv P N C E Γ H (.convert S D x) ty (.string (strOf b)) := by
  intro dst pos aft gd a w hE hS
  subst hn
  obtain ⟨A, c, rfl, h0, h1, h2, h3⟩ := hS.sat.rd hm
  cases A with
  | none =>
    have hb : b = [] := by
      cases b with
      | nil => rfl
      | cons x b =>
        obtain ⟨_, _, h, _⟩ := h3 0 (u8 x) rfl
        cases h
    subst hb
    have : (convert S D (.slice none 0 c)).run P w = .ok (.string (strOf [])) w := by
      rw [run_convert_bytes_string w S D e none _ c hs he hd]
      rfl
    simp only [List.length_nil] at hx
    simp [execOp, hE.ev hx, this]
  | some ad =>
    have := run_convert_bytes_back (P := P) w S D e ad c (b.map UInt8.ofBitVec) hs he hd (fun j hj => by
      have hj' : j < b.length := by simpa using hj
      obtain ⟨ab, ao, hA, hc⟩ := h3 j (u8 b[j]) (by simp [hj'])
      obtain rfl := Option.some.inj hA
      rw [add_none, hc]
      simp [u8, UInt8.toNat])
    rw [List.length_map] at this
    simp [execOp, hE.ev hx, this, strOf]
theorem BinR.eql_str {x y : Operand} {T : TypeId} (a b : List (BitVec 8)) : BinR P .eql T x y (.string (strOf a)) (.string (strOf b)) (.bool (decide (a = b))) := fun w => by
  have hg : (eqGuard .eql T x y (.string (strOf a)) (.string (strOf b))).run P w = .ok () w := by
    unfold eqGuard
    split <;> rfl
  simp only [Sem.run_bind, hg, Result.andThen_ok, binOp]
  have h : ((strOf a).toList == (strOf b).toList) = decide (a = b) := by
    rw [Bool.eq_iff_iff, beq_iff_eq, decide_eq_true_eq, ByteArray.toList_eq, ByteArray.toList_eq]
    exact ⟨fun h => strOf_inj (by rcases h1 : strOf a with ⟨⟨l⟩⟩; rcases h2 : strOf b with ⟨⟨l'⟩⟩; rw [h1, h2] at h; simp at h; rw [h]), fun h => by rw [h]⟩
  simp [Op.stringOp, h]
end
/-! ### What a map holds -/
structure MM (α β : Type) where
  es : List (α × β × Nat)
  ck : Nat
namespace MM
variable {α β : Type} [DecidableEq α]
def nil : MM α β := ⟨[], 0⟩
def findL : List (α × β × Nat) → α → Option β
  | [], _ => none
  | e :: es, k => if k = e.1 then some e.2.1 else findL es k
def get (m : MM α β) (k : α) : Option β := findL m.es k
def setL : List (α × β × Nat) → α → β → Nat → List (α × β × Nat)
  | [], k, v, c => [(k, v, c)]
  | e :: es, k, v, c => if k = e.1 then (k, v, e.2.2) :: es else e :: setL es k v c
def put (m : MM α β) (k : α) (v : β) : MM α β := ⟨setL m.es k v m.ck, if (m.get k).isSome then m.ck else m.ck + 1⟩
def delL : List (α × β × Nat) → α → List (α × β × Nat)
  | [], _ => []
  | e :: es, k => if k = e.1 then es else e :: delL es k
def del (m : MM α β) (k : α) : MM α β := ⟨delL m.es k, m.ck⟩
structure Ok (m : MM α β) : Prop where
  nk : (m.es.map (·.1)).Nodup
  nb : (m.es.map (·.2.2)).Nodup
  lt : ∀ e ∈ m.es, e.2.2 < m.ck
theorem ok_nil : (nil : MM α β).Ok := ⟨.nil, .nil, by simp [nil]⟩
@[simp] theorem get_nil (k : α) : (nil : MM α β).get k = none := rfl
theorem findL_setL (es : List (α × β × Nat)) (k : α) (v : β) (c : Nat) (j : α) : findL (setL es k v c) j = if j = k then some v else findL es j := by
  induction es with
  | nil => simp [setL, findL]
  | cons e es ih =>
    unfold setL
    by_cases h : k = e.1
    · rw [if_pos h]; subst h
      simp only [findL]
      by_cases hj : j = e.1
      · rw [if_pos hj, if_pos hj]
      · rw [if_neg hj, if_neg hj, if_neg hj]
    · rw [if_neg h]
      simp only [findL, ih]
      by_cases hj : j = e.1
      · subst hj; rw [if_pos rfl, if_neg (Ne.symm h), if_pos rfl]
      · rw [if_neg hj, if_neg hj]
theorem get_put (m : MM α β) (k : α) (v : β) (j : α) : (m.put k v).get j = if j = k then some v else m.get j := findL_setL _ _ _ _ _
theorem findL_none {es : List (α × β × Nat)} {k : α} (h : findL es k = none) : k ∉ es.map (·.1) := by
  induction es with
  | nil => simp
  | cons e es ih =>
    simp only [findL] at h
    split at h
    · cases h
    · rename_i hk
      simp only [List.map_cons, List.mem_cons, not_or]
      exact ⟨hk, ih h⟩
theorem setL_none {es : List (α × β × Nat)} {k : α} {v : β} {c : Nat} (h : findL es k = none) : setL es k v c = es ++ [(k, v, c)] := by
  induction es with
  | nil => rfl
  | cons e es ih =>
    simp only [findL] at h
    split at h
    · cases h
    · rename_i hk
      rw [setL, if_neg hk, ih h]; rfl
theorem setL_some {es : List (α × β × Nat)} {k : α} {v u : β} {c : Nat} (h : findL es k = some u) : (setL es k v c).map (·.1) = es.map (·.1) ∧ (setL es k v c).map (·.2.2) = es.map (·.2.2) := by
  induction es with
  | nil => cases h
  | cons e es ih =>
    simp only [findL] at h
    unfold setL
    split at h
    · rename_i hk; rw [if_pos hk]; subst hk; exact ⟨rfl, rfl⟩
    · rename_i hk; rw [if_neg hk]; simp [ih h]
theorem ok_put {m : MM α β} (h : m.Ok) (k : α) (v : β) : (m.put k v).Ok := by
  cases hf : findL m.es k with
  | none =>
    have e1 : (m.put k v).es = m.es ++ [(k, v, m.ck)] := setL_none hf
    have e2 : (m.put k v).ck = m.ck + 1 := by simp [put, get, hf]
    refine ⟨?_, ?_, ?_⟩
    · rw [e1, List.map_append, List.nodup_append]
      exact ⟨h.nk, by simp, fun a ha b hb => by simp at hb; subst hb; exact fun e => findL_none hf (e ▸ ha)⟩
    · rw [e1, List.map_append, List.nodup_append]
      exact ⟨h.nb, by simp, fun a ha b hb => by
        simp at hb; subst hb
        obtain ⟨e, he, rfl⟩ := List.mem_map.1 ha
        have := h.lt e he; omega⟩
    · rw [e1, e2]
      intro e he
      rcases List.mem_append.1 he with he | he
      · have := h.lt e he; omega
      · simp at he; subst he; exact Nat.lt_succ_self _
  | some u =>
    have e2 : (m.put k v).ck = m.ck := by simp [put, get, hf]
    have e1 := setL_some (v := v) (c := m.ck) hf
    refine ⟨e1.1 ▸ h.nk, e1.2 ▸ h.nb, ?_⟩
    rw [e2]
    intro e he
    have : e.2.2 ∈ (setL m.es k v m.ck).map (·.2.2) := List.mem_map.2 ⟨e, he, rfl⟩
    rw [e1.2] at this
    obtain ⟨e', he', h'⟩ := List.mem_map.1 this
    rw [← h']; exact h.lt e' he'
theorem mem_findL {es : List (α × β × Nat)} (hn : (es.map (·.1)).Nodup) {k : α} {v : β} : findL es k = some v ↔ ∃ c, (k, v, c) ∈ es := by
  induction es with
  | nil => simp [findL]
  | cons e es ih =>
    obtain ⟨a, b, c⟩ := e
    simp only [List.map_cons, List.nodup_cons] at hn
    simp only [findL]
    by_cases hk : k = a
    · subst hk
      rw [if_pos rfl]
      constructor
      · intro h; exact ⟨c, by simp [Option.some.inj h]⟩
      · rintro ⟨c', h⟩
        rcases List.mem_cons.1 h with h | h
        · cases h; rfl
        · exact absurd (List.mem_map.2 ⟨_, h, rfl⟩) hn.1
    · rw [if_neg hk, ih hn.2]
      constructor
      · rintro ⟨c', h⟩; exact ⟨c', .tail _ h⟩
      · rintro ⟨c', h⟩
        rcases List.mem_cons.1 h with h | h
        · cases h; exact absurd rfl hk
        · exact ⟨c', h⟩
theorem get_iff {m : MM α β} (h : m.Ok) {k : α} {v : β} : m.get k = some v ↔ ∃ c, (k, v, c) ∈ m.es := mem_findL h.nk
/-- What a range has handed out. -/
structure Walk (m : MM α β) (p : List (α × β × Nat)) : Prop where
  nd : p.Nodup
  sub : ∀ e ∈ p, e ∈ m.es
theorem Walk.nil {m : MM α β} : Walk m [] := ⟨.nil, by simp⟩
end MM
/-! ### Keys -/
def kfind {α : Type} [DecidableEq α] (k : α) : List α → List MapEntry → Nat → Option (Nat × Value)
  | a :: ks, e :: L, i => if k = a then some (i, e.val) else kfind k ks L (i + 1)
  | _, _, _ => none
/-- A type of keys: two are held against each other, found, kept. -/
structure MKey {α : Type} [DecidableEq α] (P : Program) (K : TypeId) (f : α → Value) : Prop where
  fk : ∀ (k : α) (ks : List α) (L : List MapEntry), L.map (·.key) = ks.map f → ∀ w, (Instr.findKey K (f k) L).run P w = .ok (kfind k ks L 0) w
  chk : ∀ (e : Bool) (n : Nat) (a : α) (w : World), (Instr.checkKey e (n + 2) K (f a)).run P w = .ok () w
  bits : ∀ (n : Nat) (a : α), Instr.sameBits (n + 1) (f a) (f a) = true
section
variable {α : Type} [DecidableEq α] {P : Program} {K : TypeId} {f : α → Value}
theorem findNow_is {kd : TypeDesc} (hk : ∀ a b, Instr.sameNow kd (f a) (f b) = some (decide (a = b))) (k : α) : ∀ (ks : List α) (L : List MapEntry) (i : Nat), L.map (·.key) = ks.map f → Instr.findNow kd (f k) L i = some (kfind k ks L i)
  | [], [], _, _ => rfl
  | [], _ :: _, _, h => by simp at h
  | _ :: _, [], _, h => by simp at h
  | a :: ks, x :: L, i, h => by
    simp only [List.map_cons, List.cons.injEq] at h
    have ih := findNow_is hk k ks L (i + 1) h.2
    simp only [Instr.findNow, kfind, h.1, hk]
    by_cases hka : k = a
    · simp [hka]
    · simp [hka, ih]
theorem findAsk_is (he : ∀ a b w, (Op.equal K (f a) (f b)).run P w = .ok (decide (a = b)) w) (k : α) (w : World) : ∀ (ks : List α) (L : List MapEntry) (i : Nat), L.map (·.key) = ks.map f → (Instr.findAsking K (f k) L i).run P w = .ok (kfind k ks L i) w
  | [], [], _, _ => rfl
  | [], _ :: _, _, h => by simp at h
  | _ :: _, [], _, h => by simp at h
  | a :: ks, x :: L, i, h => by
    simp only [List.map_cons, List.cons.injEq] at h
    have ih := findAsk_is he k w ks L (i + 1) h.2
    simp only [Instr.findAsking, kfind, h.1, Sem.run_bind, he, Result.andThen_ok]
    by_cases hka : k = a
    · simp [hka]
    · simp [hka, ih]
theorem MKey.now {kd : TypeDesc} (hK : P.underlying K = some kd) (hk : ∀ a b, Instr.sameNow kd (f a) (f b) = some (decide (a = b)))
    (chk : ∀ (e : Bool) (n : Nat) (a : α) (w : World), (Instr.checkKey e (n + 2) K (f a)).run P w = .ok () w) (bits : ∀ (n : Nat) (a : α), Instr.sameBits (n + 1) (f a) (f a) = true) : MKey P K f :=
  ⟨fun k ks L h w => by simp [Instr.findKey, underlying, hK, findNow_is hk k ks L 0 h], chk, bits⟩
theorem MKey.ask {kd : TypeDesc} (hK : P.underlying K = some kd) (hn : ∀ a b, Instr.sameNow kd (f a) (f b) = none) (he : ∀ a b w, (Op.equal K (f a) (f b)).run P w = .ok (decide (a = b)) w)
    (chk : ∀ (e : Bool) (n : Nat) (a : α) (w : World), (Instr.checkKey e (n + 2) K (f a)).run P w = .ok () w) (bits : ∀ (n : Nat) (a : α), Instr.sameBits (n + 1) (f a) (f a) = true) : MKey P K f :=
  ⟨fun k ks L h w => by
    cases L with
    | nil =>
      cases ks with
      | nil => simp [Instr.findKey, underlying, hK, Instr.findNow, kfind]
      | cons a ks => simp at h
    | cons x L =>
      cases ks with
      | nil => simp at h
      | cons a ks =>
        have hx : x.key = f a := by simp at h; exact h.1
        have := findAsk_is he k w (a :: ks) (x :: L) 0 h
        simp [Instr.findKey, underlying, hK, Instr.findNow, hx, hn, this], chk, bits⟩
theorem MKey.int {q k : IntKind} (h : P.underlying K = some (.int q)) : MKey P K (fun a : Int => Value.int k a) :=
  .now h (fun a b => by simp [Instr.sameNow, Bool.beq_eq_decide_eq]) (fun e n a w => by simp [Instr.checkKey, underlying, h]) (fun n a => by simp [Instr.sameBits])
theorem MKey.u64 (h : P.underlying K = some (.int .u64)) : MKey P K (fun a : BitVec 64 => Go.Proofs.YthfipbjmpeegbaaGreatDoor.u64 a) :=
  .now h (fun a b => by
    simp only [Instr.sameNow, if_true]
    congr 1
    rw [Bool.eq_iff_iff, beq_iff_eq, decide_eq_true_iff]
    exact ⟨fun h => BitVec.eq_of_toNat_eq (by omega), fun h => by rw [h]⟩) (fun e n a w => by simp [Instr.checkKey, underlying, h]) (fun n a => by simp [Instr.sameBits])
end
abbrev D32 := { l : List (BitVec 8) // l.length = 32 }
abbrev dgV (d : D32) : Value := .agg (d.1.map u8).toArray
abbrev itK : Int → Value := fun a => Value.int .i64 a
abbrev blV : Bool → Value := fun b => .bool b
def D0 : D32 := ⟨List.replicate 32 0, rfl⟩
theorem u8_inj {x y : BitVec 8} (h : (x.toNat : Int) = y.toNat) : x = y := BitVec.eq_of_toNat_eq (by omega)
theorem run_forBody {P : Program} {α : Type} (w : World) {body : α → PUnit → Sem (ForInStep PUnit)} : ∀ (l : List α), (∀ a ∈ l, (body a PUnit.unit).run P w = .ok (.yield PUnit.unit) w) → (forIn l PUnit.unit body).run P w = .ok PUnit.unit w
  | [], _ => rfl
  | a :: l, h => by
    have ih := run_forBody w l fun b hb => h b (.tail _ hb)
    simp only [List.forIn_cons, Sem.run_bind, h a (.head _), Result.andThen_ok]
    exact ih
theorem MKey.dig {P : Program} {K e : TypeId} (hK : P.underlying K = some (.array 32 e)) (he : P.underlying e = some (.int .u8)) (hs : (P.info? e).map (·.size) = some 1) : MKey P K dgV :=
  .ask hK (fun a b => rfl) (fun a b w => by
    have := run_eqArr (P := P) (f := u8) (g := fun x => (x.toNat : Int)) hK he hs (fun _ => rfl) (fun _ _ h => u8_inj h) a.1 b.1 a.2 b.2 9998 w
    rw [show decide (a = b) = decide (a.1 = b.1) from decide_eq_decide.2 Subtype.ext_iff]
    exact this)
  (fun em n a w => by
    obtain ⟨i, hi1, hi2⟩ := Option.map_eq_some_iff.1 hs
    rw [Instr.checkKey]
    simp only [underlying, Sem.run_bind, run_program, Result.andThen_ok, hK, Sem.run_pure, Std.Legacy.Range.forIn_eq_forIn_range', Std.Legacy.Range.size, Nat.sub_zero, Nat.add_sub_cancel, Nat.div_one]
    rw [run_forBody w _ fun j hj => ?_]
    · rfl
    · have hj' : j < a.1.length := by rw [a.2]; simpa using hj
      have p1 := run_parts (P := P) (w := w) he rfl (show (a.1.map u8).toArray[j]? = some (u8 a.1[j]) by simp [hj'])
      simp only [sizeOf, typeInfo, Sem.run_bind, run_program, Result.andThen_ok, hi1, hi2, Sem.run_pure, Nat.mul_one, p1]
      simp [Instr.checkKey, underlying, he])
  (fun n a => by
    simp only [Instr.sameBits, beq_self_eq_true, Bool.true_and]
    rw [List.all_eq_true]
    rintro ⟨x, y⟩ h
    have hz : ∀ (l : List Value) (x y : Value), (x, y) ∈ l.zip l → x = y ∧ x ∈ l := by
      intro l
      induction l with
      | nil => simp
      | cons v l ih =>
        intro x y h
        rcases List.mem_cons.1 h with h | h
        · cases h; exact ⟨rfl, .head _⟩
        · exact ⟨(ih x y h).1, .tail _ (ih x y h).2⟩
    obtain ⟨rfl, hx⟩ := hz _ _ _ h
    simp only [List.mem_map] at hx
    obtain ⟨b, _, rfl⟩ := hx
    cases n <;> simp [Instr.sameBits])
@[simp] theorem D32_len (d : D32) : d.1.length = 32 := d.2
/-- Keys of two numbers. -/
abbrev k2V (p : Int × Int) : Value := .agg #[it p.1, it p.2]
theorem MKey.two {P : Program} {K : TypeId} {f1 f2 : Field} {q1 q2 : IntKind} (hK : P.underlying K = some (.struct #[f1, f2])) (h1 : P.underlying f1.type = some (.int q1)) (h2 : P.underlying f2.type = some (.int q2)) (o1 : f1.offset = 0) (o2 : f2.offset = 1)
    (n1 : f1.name ≠ "_") (n2 : f2.name ≠ "_") (hs : P.stoodInHeld K = false) : MKey P K k2V :=
  .ask hK (fun a b => rfl) (fun a b w => by
    have : (Op.equal K (k2V a) (k2V b)).run P w = .ok (decide (a.1 = b.1 ∧ a.2 = b.2)) w := run_eqTwo hK h1 h2 o1 o2 n1 n2 hs a.1 b.1 a.2 b.2 9998 w
    rw [this]
    congr 1
    exact decide_eq_decide.2 ⟨fun h => Prod.ext h.1 h.2, fun h => by rw [h]; exact ⟨rfl, rfl⟩⟩)
  (fun em n a w => by
    have p1 : (part f1.type #[it a.1, it a.2] f1.offset).run P w = .ok (it a.1) w := run_parts h1 rfl (by rw [o1]; rfl)
    have p2 : (part f2.type #[it a.1, it a.2] f2.offset).run P w = .ok (it a.2) w := run_parts h2 rfl (by rw [o2]; rfl)
    rw [Instr.checkKey]
    simp only [underlying, Sem.run_bind, run_program, Result.andThen_ok, hK, Sem.run_pure]
    have c1 : ∀ v : Int, (Instr.checkKey em (n + 1) f1.type (it v)).run P w = .ok () w := fun v => by simp [Instr.checkKey, underlying, h1]
    have c2 : ∀ v : Int, (Instr.checkKey em (n + 1) f2.type (it v)).run P w = .ok () w := fun v => by simp [Instr.checkKey, underlying, h2]
    simp [p1, p2, c1, c2, n1, n2])
  (fun n a => by simp [Instr.sameBits])
/-! ### Maps as_ resources -/
def Res.mp (b : Nat) (L : List MapEntry) (ck : Nat) : Res where
  fp k := k = b
  ok w := w.heap[b]? = some (.map L.toArray ck)
  loc _ _ h ho := (h b rfl).trans ho
def Res.mi (r b ck : Nat) (seen : List Nat) : Res where
  fp k := k = r
  ok w := w.heap[r]? = some (.mapIter (some b) ck seen.toArray ck)
  loc _ _ h ho := (h r rfl).trans ho
theorem Res.mp_ok {b ck : Nat} {L : List MapEntry} {w : World} : (Res.mp b L ck).ok w ↔ w.heap[b]? = some (.map L.toArray ck) := Iff.rfl
theorem Res.mp_fp {b ck k : Nat} {L : List MapEntry} : (Res.mp b L ck).fp k ↔ k = b := Iff.rfl
theorem Res.mi_ok {r b ck : Nat} {s : List Nat} {w : World} : (Res.mi r b ck s).ok w ↔ w.heap[r]? = some (.mapIter (some b) ck s.toArray ck) := Iff.rfl
theorem Res.mi_fp {r b ck k : Nat} {s : List Nat} : (Res.mi r b ck s).fp k ↔ k = r := Iff.rfl
attribute [irreducible] Res.mp Res.mi
def ents {α β : Type} (f : α → Value) (g : β → Value) (es : List (α × β × Nat)) : List MapEntry := es.map fun e => ⟨f e.1, g e.2.1, e.2.2⟩
abbrev mpR {α β : Type} (b : Nat) (f : α → Value) (g : β → Value) (m : MM α β) : Res := Res.mp b (ents f g m.es) m.ck
abbrev miR {α β : Type} (r b : Nat) (m : MM α β) (p : List (α × β × Nat)) : Res := Res.mi r b m.ck (p.map fun e => e.2.2)
theorem St.obj {C : Beg} {Γ H : RL} {r r' : Res} {b : Nat} {w w' : World} (hs : St C Γ (r :: H) w) (hf : ∀ k, r.fp k ↔ k = b) (hf' : ∀ k, r'.fp k ↔ k = b) (hos : w'.os = w.os) (htape : w'.tape = w.tape) (hout : w'.output = w.output) (hsz : w'.heap.size = w.heap.size)
    (hb : r'.ok w') (ho : ∀ k, k ≠ b → w'.heap[k]? = w.heap[k]?) : St C Γ (r' :: H) w' := by
  have hlt : b < w.heap.size := hs.sat.hlt _ (.head _) b ((hf b).2 rfl)
  have h0 : St ⟨w, [], [r]⟩ [] [r'] w' := by
    refine ⟨⟨by simp, by simp, ?_, ?_, by simp, by simp⟩, ⟨hos, htape, hout, Nat.le_of_eq hsz.symm, ?_⟩, ?_, fun k ⟨_, h, _⟩ => by simp at h⟩
    · intro x hx
      obtain rfl := List.mem_singleton.1 hx
      exact hb
    · intro x hx k hk
      obtain rfl := List.mem_singleton.1 hx
      have := (hf' k).1 hk
      subst this
      rw [hsz]; exact hlt
    · intro k _ hn
      exact ho k fun e => hn ⟨_, .head _, (hf k).2 e⟩
    · rintro k ⟨x, hx, hk⟩
      obtain rfl := List.mem_singleton.1 hx
      exact .inl ⟨_, .head _, (hf k).2 ((hf' k).1 hk)⟩
  have h3 := St.frame (G := H) (Hc := [_]) (Γc := []) (by simpa using hs) (by simp) h0
  simpa using h3
theorem St.newObj {C : Beg} {Γ H : RL} {w : World} (h : St C Γ H w) (o : Obj) (r : Res) (hf : ∀ k, r.fp k ↔ k = w.heap.size) (hok : r.ok (w.alloc o)) : St C Γ (r :: H) (w.alloc o) := by
  have h0 : St ⟨w, [], []⟩ [] [r] (w.alloc o) := by
    refine ⟨⟨by simp, by simp, ?_, ?_, by simp, by simp⟩, ⟨rfl, rfl, rfl, by simp, ?_⟩, ?_, fun k ⟨_, h, _⟩ => by simp at h⟩
    · intro x hx
      obtain rfl := List.mem_singleton.1 hx
      exact hok
    · intro x hx k hk
      obtain rfl := List.mem_singleton.1 hx
      have := (hf k).1 hk
      subst this
      simp
    · intro k hk _
      exact Below.heap_alloc w _ k hk
    · rintro k ⟨x, hx, hk⟩
      obtain rfl := List.mem_singleton.1 hx
      have := (hf k).1 hk
      exact .inr (by rw [this]; exact Nat.le_refl _)
  simpa using St.frame (Hc := []) (Γc := []) (by simpa using h) (by simp) h0
section
variable {P : Program} {N : Nat} {C : Beg} {Q : Exit → Act → World → Prop} {E : Env} {Γ H : RL} {ty : TypeId} {ops : Array Oper} {rest : List Oper} {α β : Type} [DecidableEq α] {f : α → Value} {g : β → Value}
theorem kfind_get (k : α) : ∀ (es : List (α × β × Nat)) (i : Nat), (kfind k (es.map (·.1)) (ents f g es) i).map (·.2) = (MM.findL es k).map g
  | [], _ => rfl
  | e :: es, i => by
    have ih := kfind_get k es (i + 1)
    simp only [ents, List.map_cons, kfind, MM.findL]
    split
    · rfl
    · exact ih
theorem ents_keys (es : List (α × β × Nat)) : (ents f g es).map (·.key) = (es.map (·.1)).map f := by simp [ents]
def MP (Γ H : RL) (r : Res) : Prop := r ∈ H ∨ r ∈ Γ
theorem MP.ok {r : Res} {w : World} (h : MP Γ H r) (hs : Sat Γ H w) : r.ok w := h.elim (hs.hok r) (hs.gok r)
theorem Yv.lk {T K e : TypeId} {x i : Operand} {b : Nat} {m : MM α β} {z : Value} (k : α) (hT : P.underlying T = some (.map K e)) (hK : MKey P K f) (hz : (P.info? e).bind (·.zero) = some z) (hx : ev E x = some (.map (some b)) := by rfl) (hi : ev E i = some (f k) := by rfl)
    (hm : MP Γ H (mpR b f g m) := by first | exact .inl (by (repeat (first | exact List.Mem.head _ | refine List.Mem.tail _ ?_)); first | done | fail) | exact .inr (by (repeat (first | exact List.Mem.head _ | refine List.Mem.tail _ ?_)); first | done | fail)) : Yv P N C E Γ H (.lookup T x i false) ty (((m.get k).map g).getD z) := by
  intro dst pos aft gd a w hE hS
  have h1 := Res.mp_ok.1 (hm.ok hS.sat)
  obtain ⟨inf, hi1, hi2⟩ := Option.bind_eq_some_iff.1 hz
  have hf := hK.fk k (m.es.map (·.1)) (ents f g m.es) (ents_keys _) w
  have hc := hK.chk (ents f g m.es).isEmpty 9998 k w
  have hg := kfind_get (f := f) (g := g) k m.es 0
  rw [MM.get, ← hg]
  cases hk : kfind k (m.es.map (·.1)) (ents f g m.es) 0 with
  | none =>
    rw [hk] at hf
    simp [execOp, hE.ev hx, hE.ev hi, Instr.lookup, underlying, hT, getObj, Sem.run, h1, hc, hf, zeroValue, typeInfo, hi1, hi2]
  | some p =>
    rw [hk] at hf
    simp [execOp, hE.ev hx, hE.ev hi, Instr.lookup, underlying, hT, getObj, Sem.run, h1, hc, hf]
theorem Yv.lk2 {T K e : TypeId} {x i : Operand} {b : Nat} {m : MM α β} {z : Value} (k : α) (hT : P.underlying T = some (.map K e)) (hK : MKey P K f) (hz : (P.info? e).bind (·.zero) = some z) (hx : ev E x = some (.map (some b)) := by rfl) (hi : ev E i = some (f k) := by rfl)
    (hm : MP Γ H (mpR b f g m) := by first | exact .inl (by (repeat (first | exact List.Mem.head _ | refine List.Mem.tail _ ?_)); first | done | fail) | exact .inr (by (repeat (first | exact List.Mem.head _ | refine List.Mem.tail _ ?_)); first | done | fail)) : Yv P N C E Γ H (.lookup T x i true) ty (.tuple #[((m.get k).map g).getD z, .bool (m.get k).isSome]) := by
  intro dst pos aft gd a w hE hS
  have h1 := Res.mp_ok.1 (hm.ok hS.sat)
  obtain ⟨inf, hi1, hi2⟩ := Option.bind_eq_some_iff.1 hz
  have hf := hK.fk k (m.es.map (·.1)) (ents f g m.es) (ents_keys _) w
  have hc := hK.chk (ents f g m.es).isEmpty 9998 k w
  have hg := kfind_get (f := f) (g := g) k m.es 0
  have hs : (m.get k).isSome = ((kfind k (m.es.map (·.1)) (ents f g m.es) 0).map (·.2)).isSome := by rw [hg, MM.get]; simp
  rw [hs, MM.get, ← hg]
  cases hk : kfind k (m.es.map (·.1)) (ents f g m.es) 0 with
  | none =>
    rw [hk] at hf
    simp [execOp, hE.ev hx, hE.ev hi, Instr.lookup, underlying, hT, getObj, Sem.run, h1, hc, hf, zeroValue, typeInfo, hi1, hi2]
  | some p =>
    rw [hk] at hf
    simp [execOp, hE.ev hx, hE.ev hi, Instr.lookup, underlying, hT, getObj, Sem.run, h1, hc, hf]
theorem kfind_some {k : α} : ∀ {es : List (α × β × Nat)} {i j : Nat} {u : Value} (v : β) (c : Nat), kfind k (es.map (·.1)) (ents f g es) i = some (j, u) → i ≤ j ∧ (MM.findL es k).isSome ∧ ((ents f g es)[j - i]?.map (·.key)) = some (f k) ∧ (ents f g es).modify (j - i) (fun e => { e with key := f k, val := g v }) = ents f g (MM.setL es k v c)
  | [], _, _, _, _, _, h => by simp [kfind] at h
  | e :: es, i, j, u, v, c, h => by
    by_cases hk : k = e.1
    · simp only [ents, List.map_cons, kfind, if_pos hk, Option.some.injEq, Prod.mk.injEq] at h
      obtain ⟨rfl, rfl⟩ := h
      refine ⟨Nat.le_refl _, by simp [MM.findL, hk], by simp [ents, hk], ?_⟩
      simp [ents, MM.setL, if_pos hk]
    · simp only [ents, List.map_cons, kfind, if_neg hk] at h
      obtain ⟨h1, h2, h3, h4⟩ := kfind_some v c h
      refine ⟨by omega, by simpa [MM.findL, hk] using h2, ?_, ?_⟩
      · rw [show j - i = (j - (i + 1)) + 1 by omega]
        simpa [ents] using h3
      · rw [show j - i = (j - (i + 1)) + 1 by omega]
        simp only [MM.setL, if_neg hk]
        have : ents f g (e :: es) = ⟨f e.1, g e.2.1, e.2.2⟩ :: ents f g es := rfl
        rw [this, List.modify_succ_cons, h4]
        rfl
theorem kfind_none {k : α} : ∀ {es : List (α × β × Nat)} {i : Nat}, kfind k (es.map (·.1)) (ents f g es) i = none → MM.findL es k = none := by
  intro es i h
  have := kfind_get (f := f) (g := g) k es i
  rw [h] at this
  cases hf : MM.findL es k with
  | none => rfl
  | some v => rw [hf] at this; cases this
/-- A key's value is laid down. -/
theorem Mv.mu {T K e : TypeId} {x y z : Operand} {b : Nat} {m : MM α β} {H' : RL} (k : α) (v : β) (hT : P.underlying T = some (.map K e)) (hK : MKey P K f) (hx : ev E x = some (.map (some b)) := by rfl) (hy : ev E y = some (f k) := by rfl) 
    (hp : Upd H (mpR b f g m) (mpR b f g (m.put k v)) H' := by (repeat (first | exact Upd.here _ _ _ | apply Upd.there)); first | done | fail) (hz : ev E z = some (g v) := by rfl) : Mv P N C E Γ H (.mapUpdate T x y z) ty (fun _ Γ1 H1 => Γ1 = Γ ∧ H1 = H') := by
  intro dst pos aft gd a w he hs KK Q hKK
  obtain ⟨G, hp1, hp2⟩ := hp.ex
  have hst := hs.perm hp1
  have h1 := Res.mp_ok.1 (hst.sat.hok _ (.head _))
  have hf := hK.fk k (m.es.map (·.1)) (ents f g m.es) (ents_keys _) w
  have hc := hK.chk false 9998 k w
  have hlt : b < w.heap.size := (Array.getElem?_eq_some_iff.1 h1).1
  have fin : ∀ o : Obj, o = .map (ents f g (m.put k v).es).toArray (m.put k v).ck → (execOp a.eval ⟨dst, .mapUpdate T x y z, ty, pos, aft, gd⟩).run P w = .ok .skip { w with heap := w.heap.setIfInBounds b o } → Oper.wp P ⟨dst, .mapUpdate T x y z, ty, pos, aft, gd⟩ a w KK Q := by
    intro o ho hr
    subst ho
    simp only [Oper.wp, hr, Oper.upon]
    have h5 : St C Γ (mpR b f g (m.put k v) :: G) { w with heap := w.heap.setIfInBounds b (.map (ents f g (m.put k v).es).toArray (m.put k v).ck) } :=
      St.obj (b := b) hst (fun k => Res.mp_fp) (fun k => Res.mp_fp) rfl rfl rfl (by simp) (Res.mp_ok.2 (by simp [hlt])) fun k hk => Array.getElem?_setIfInBounds_ne (Ne.symm hk)
    exact hKK _ _ _ _ ⟨rfl, rfl⟩ (h5.perm hp2.symm)
  cases hk : kfind k (m.es.map (·.1)) (ents f g m.es) 0 with
  | none =>
    rw [hk] at hf
    have hn := kfind_none hk
    refine fin (.map ((ents f g m.es).toArray.push { key := f k, val := g v, born := m.ck }) (m.ck + 1)) ?_ ?_
    · have e1 : (m.put k v).es = m.es ++ [(k, v, m.ck)] := MM.setL_none hn
      have e2 : (m.put k v).ck = m.ck + 1 := by simp [MM.put, MM.get, hn]
      rw [e1, e2]
      simp [ents]
    · simp [execOp, he.ev hx, he.ev hy, he.ev hz, Instr.mapUpdate, underlying, hT, getObj, setObj, Sem.run, h1, hc, hf]
  | some p =>
    obtain ⟨j, u⟩ := p
    rw [hk] at hf
    obtain ⟨_, hsm, hkey, hmod⟩ := kfind_some v m.ck hk
    rw [Nat.sub_zero] at hkey hmod
    refine fin (.map ((ents f g m.es).toArray.modify j fun e => { e with key := f k, val := g v }) m.ck) ?_ ?_
    · have e2 : (m.put k v).ck = m.ck := by simp [MM.put, MM.get, hsm]
      rw [e2]
      congr 1
      rw [List.modify_toArray, hmod]
      rfl
    · have hb := hK.bits 9999 k
      have hg : (((ents f g m.es).toArray[j]?).map (·.key)).getD (f k) = f k := by rw [List.getElem?_toArray, hkey]; rfl
      simp [execOp, he.ev hx, he.ev hy, he.ev hz, Instr.mapUpdate, underlying, hT, getObj, setObj, Sem.run, h1, hc, hf, Instr.keyThatStays, hkey, hb]
theorem JO.mu {pos : String} {aft : Array Edge} {T K e : TypeId} {x y z : Operand} {b : Nat} {m : MM α β} {H' : RL} (k : α) (v : β) (hT : P.underlying T = some (.map K e)) (hK : MKey P K f) (h : JO P N C ops rest Q E Γ H') (hx : ev E x = some (.map (some b)) := by rfl) (hy : ev E y = some (f k) := by rfl) 
    (hp : Upd H (mpR b f g m) (mpR b f g (m.put k v)) H' := by (repeat (first | exact Upd.here _ _ _ | apply Upd.there)); first | done | fail) (hz : ev E z = some (g v) := by rfl) : JO P N C ops (⟨none, .mapUpdate T x y z, ty, pos, aft, none⟩ :: rest) Q E Γ H :=
  .m0 (Mv.mu k v hT hK hx hy hp hz) fun _ Γ' H' ⟨h1, h2⟩ => by subst h1 h2; exact h
theorem Mv.mm {T : TypeId} (f : α → Value) (g : β → Value) : Mv P N C E Γ H (.makeMap T none) ty (fun v Γ' H' => ∃ b, v = .map (some b) ∧ Γ' = Γ ∧ H' = mpR b f g MM.nil :: H) := by
  intro dst pos aft gd a w he hs K Q hK
  have hr : (execOp a.eval ⟨dst, .makeMap T none, ty, pos, aft, gd⟩).run P w = .ok (.value (.map (some w.heap.size))) (w.alloc (.map #[] 0)) := by
    simp [execOp, Instr.makeMap, newObj, Sem.run]
  simp only [Oper.wp, hr, Oper.upon]
  refine hK _ _ _ _ ⟨_, rfl, rfl, rfl⟩ (hs.newObj _ _ (fun k => Res.mp_fp) (Res.mp_ok.2 ?_))
  simpa [ents, MM.nil] using heap_alloc_new w _
theorem JO.mm {d : Nat} {pos : String} {aft : Array Edge} {T : TypeId} (f : α → Value) (g : β → Value) (h : ∀ b, JO P N C ops rest Q ((d, .map (some b)) :: E) Γ (mpR b f g MM.nil :: H)) (hd : d < N := by decide) : JO P N C ops (⟨some d, .makeMap T none, ty, pos, aft, none⟩ :: rest) Q E Γ H :=
  .m (Mv.mm f g) hd fun v Γ' H' ⟨b, h1, h2, h3⟩ => by subst h1 h2 h3; exact h b
/-- A range begins. -/
theorem Mv.rg {T K e : TypeId} {x : Operand} {b : Nat} {m : MM α β} (hT : P.underlying T = some (.map K e)) (hx : ev E x = some (.map (some b))) (hm : MP Γ H (mpR b f g m)) : Mv P N C E Γ H (.range T x) ty (fun v Γ' H' => ∃ r, v = ptr r 0 ∧ Γ' = Γ ∧ H' = miR r b m [] :: H) := by
  intro dst pos aft gd a w he hs KK Q hK
  have h1 := Res.mp_ok.1 (hm.ok hs.sat)
  have hr : (execOp a.eval ⟨dst, .range T x, ty, pos, aft, gd⟩).run P w = .ok (.value (ptr w.heap.size 0)) (w.alloc (.mapIter (some b) m.ck #[] m.ck)) := by
    simp [execOp, he.ev hx, Instr.range, underlying, hT, getObj, newObj, Sem.run, h1]
  simp only [Oper.wp, hr, Oper.upon]
  refine hK _ _ _ _ ⟨_, rfl, rfl, rfl⟩ (hs.newObj _ _ (fun k => Res.mi_fp) (Res.mi_ok.2 ?_))
  simpa using heap_alloc_new w _
theorem JO.rg {d : Nat} {pos : String} {aft : Array Edge} {T K e : TypeId} {x : Operand} {b : Nat} {m : MM α β} (hT : P.underlying T = some (.map K e)) (h : ∀ r, JO P N C ops rest Q ((d, ptr r 0) :: E) Γ (miR r b m [] :: H)) (hx : ev E x = some (.map (some b)) := by rfl)
    (hm : MP Γ H (mpR b f g m) := by first | exact .inl (by (repeat (first | exact List.Mem.head _ | refine List.Mem.tail _ ?_)); first | done | fail) | exact .inr (by (repeat (first | exact List.Mem.head _ | refine List.Mem.tail _ ?_)); first | done | fail)) (hd : d < N := by decide) : JO P N C ops (⟨some d, .range T x, ty, pos, aft, none⟩ :: rest) Q E Γ H :=
  .m (Mv.rg hT hx hm) hd fun v Γ' H' ⟨r, h1, h2, h3⟩ => by subst h1 h2 h3; exact h r
theorem walk_all {m : MM α β} (hok : m.Ok) {p : List (α × β × Nat)} (hw : m.Walk p) (h : ∀ e ∈ m.es, e.2.2 ∈ p.map (·.2.2)) : p.Perm m.es := by
  have hn : m.es.Nodup := List.Pairwise.of_map (fun e : α × β × Nat => e.2.2) (fun a b h e => h (by rw [e])) hok.nb
  refine (List.perm_ext_iff_of_nodup hw.nd hn).2 fun e => ⟨hw.sub e, fun he => ?_⟩
  obtain ⟨e', he', hb⟩ := List.mem_map.1 (h e he)
  have : e' = e := by
    have h1 := hw.sub e' he'
    have hinj : ∀ l : List (α × β × Nat), (l.map (·.2.2)).Nodup → ∀ x ∈ l, ∀ y ∈ l, x.2.2 = y.2.2 → x = y := by
      intro l
      induction l with
      | nil => simp
      | cons a l ih =>
        intro hnd x hx y hy hxy
        simp only [List.map_cons, List.nodup_cons] at hnd
        rcases List.mem_cons.1 hx with hx1 | hx1 <;> rcases List.mem_cons.1 hy with hy1 | hy1
        · rw [hx1, hy1]
        · exact absurd (List.mem_map.2 ⟨y, hy1, by rw [← hxy, hx1]⟩) hnd.1
        · exact absurd (List.mem_map.2 ⟨x, hx1, by rw [hxy, hy1]⟩) hnd.1
        · exact ih hnd.2 x hx1 y hy1 hxy
    exact hinj m.es hok.nb e' h1 e he hb
  exact this ▸ he'
/-- A step of a range: all has come, or one more comes. -/
theorem JO.nx {d : Nat} {pos : String} {aft : Array Edge} {x : Operand} {r b : Nat} {m : MM α β} {p : List (α × β × Nat)} {G : RL} (hok : m.Ok) (hw : m.Walk p)
    (h1 : p.Perm m.es → JO P N C ops rest Q ((d, .tuple #[.bool false]) :: E) Γ (miR r b m p :: G))
    (h2 : ∀ e, e ∈ m.es → e ∉ p → m.Walk (p ++ [e]) → JO P N C ops rest Q ((d, .tuple #[.bool true, f e.1, g e.2.1]) :: E) Γ (miR r b m (p ++ [e]) :: G))
    (hx : ev E x = some (ptr r 0) := by rfl) (hp : Pull (miR r b m p) H G := by (repeat (first | exact Pull.here _ _ | apply Pull.there)); first | done | fail)
    (hm : MP Γ G (mpR b f g m) := by first | exact .inl (by (repeat (first | exact List.Mem.head _ | refine List.Mem.tail _ ?_)); first | done | fail) | exact .inr (by (repeat (first | exact List.Mem.head _ | refine List.Mem.tail _ ?_)); first | done | fail)) (hd : d < N := by decide) :
    JO P N C ops (⟨some d, .next x false, ty, pos, aft, none⟩ :: rest) Q E Γ H := by
  intro hn a w he hs
  have hst := hs.perm hp.perm
  have hit := Res.mi_ok.1 (hst.sat.hok _ (.head _))
  have hmp : w.heap[b]? = some (.map (ents f g m.es).toArray m.ck) := Res.mp_ok.1 (hm.elim (fun h => hst.sat.hok _ (.tail _ h)) (fun h => hst.sat.gok _ h))
  have hlt : r < w.heap.size := (Array.getElem?_eq_some_iff.1 hit).1
  refine wpList_plain rfl fun K hK => ?_
  have hold : ∀ y ∈ (ents f g m.es).toArray.toList, y.born < m.ck := by
    intro y hy
    obtain ⟨e, he, rfl⟩ := List.mem_map.1 (show y ∈ ents f g m.es from hy)
    exact hok.lt e he
  rcases run_next_at (P := P) w ty r b m.ck m.ck (p.map fun e => e.2.2).toArray (ents f g m.es).toArray m.ck hit hmp hold (Nat.le_refl _) with ⟨h0, hr⟩ | ⟨y, hy, w1, hw1, hr⟩
  · have hr' : (execOp a.eval ⟨some d, .next x false, ty, pos, aft, none⟩).run P w = .ok (.value (.tuple #[.bool false])) w := by simp [execOp, he.ev hx, hr]
    simp only [Oper.wp, hr', Oper.upon]
    refine hK _ _ (h1 (walk_all hok hw fun e hem => ?_) hn _ _ (he.put d hd _) hst)
    have : leftOf (ents f g m.es).toArray (p.map fun e => e.2.2).toArray = #[] := Array.eq_empty_of_size_eq_zero h0
    unfold leftOf at this
    rw [Array.filter_eq_empty_iff] at this
    have := this ⟨f e.1, g e.2.1, e.2.2⟩ (by simp [ents]; exact ⟨_, _, _, hem, rfl, rfl, rfl⟩)
    simpa using this
  · have h3 := mem_left hy
    obtain ⟨e, hem, rfl⟩ := List.mem_map.1 (show y ∈ ents f g m.es from h3.1)
    have hnp : e ∉ p := fun h => by
      have := h3.2
      simp at this
      exact this _ _ h
    have hr' : (execOp a.eval ⟨some d, .next x false, ty, pos, aft, none⟩).run P w = .ok (.value (.tuple #[.bool true, f e.1, g e.2.1])) (ChangeMaps.setBlock w1 r (.mapIter (some b) m.ck ((p.map fun e => e.2.2).toArray.push e.2.2) m.ck)) := by simp [execOp, he.ev hx, hr]
    simp only [Oper.wp, hr', Oper.upon]
    refine hK _ _ (h2 e hem hnp ⟨by rw [List.nodup_append]; exact ⟨hw.nd, by simp, fun a ha b hb => by simp at hb; subst hb; exact fun h => hnp (h ▸ ha)⟩, fun z hz => by
      rcases List.mem_append.1 hz with hz | hz
      · exact hw.sub z hz
      · simp at hz; subst hz; exact hem⟩ hn _ _ (he.put d hd _) ?_)
    have hst1 : St C Γ (miR r b m p :: G) w1 := by
      rcases hw1 with rfl | rfl
      · exact hst
      · exact hst.drew
    have hsz : w1.heap.size = w.heap.size := by rcases hw1 with rfl | rfl <;> rfl
    refine St.obj (b := r) hst1 (fun k => Res.mi_fp) (fun k => Res.mi_fp) rfl rfl rfl (by simp [ChangeMaps.setBlock]) (Res.mi_ok.2 ?_) ?_
    · simp [ChangeMaps.setBlock, hsz, hlt]
    · intro k hk
      simp only [ChangeMaps.setBlock]
      exact Array.getElem?_setIfInBounds_ne (Ne.symm hk)
/-- The entry that came last. -/
theorem Yv.en {x : Operand} {r b : Nat} {m : MM α β} {p : List (α × β × Nat)} {e : α × β × Nat} (hok : m.Ok) (he : e ∈ m.es) (hx : ev E x = some (ptr r 0) := by rfl)
    (hi : miR r b m (p ++ [e]) ∈ H := by (repeat (first | exact List.Mem.head _ | refine List.Mem.tail _ ?_)); first | done | fail)
    (hm : MP Γ H (mpR b f g m) := by first | exact .inl (by (repeat (first | exact List.Mem.head _ | refine List.Mem.tail _ ?_)); first | done | fail) | exact .inr (by (repeat (first | exact List.Mem.head _ | refine List.Mem.tail _ ?_)); first | done | fail)) : Yv P N C E Γ H (.entry x) ty (.tuple #[f e.1, g e.2.1]) := by
  intro dst pos aft gd a w hE hS
  have hmp := Res.mp_ok.1 (hm.ok hS.sat)
  have hit := Res.mi_ok.1 (hS.sat.hok _ hi)
  have hit' : w.heap[r]? = some (.mapIter (some b) m.ck ((p.map fun e => e.2.2).toArray.push (MapEntry.mk (f e.1) (g e.2.1) e.2.2).born) m.ck) := by rw [hit]; simp
  have := run_entry_at (P := P) w r b m.ck (p.map fun e => e.2.2).toArray (ents f g m.es).toArray m.ck ⟨f e.1, g e.2.1, e.2.2⟩ hit' hmp (by simp [ents]; exact ⟨_, _, _, he, rfl, rfl, rfl⟩) (by
    have h2 : ((ents f g m.es).toArray.toList.map (·.born)) = m.es.map (·.2.2) := by simp [ents]
    rw [h2]; exact hok.nb)
  simp [execOp, hE.ev hx, this]
theorem Yv.len_m {x : Operand} {T K e : TypeId} {b : Nat} {m : MM α β} (hT : P.underlying T = some (.map K e)) (hx : ev E x = some (.map (some b)))
    (hm : MP Γ H (mpR b f g m) := by first | exact .inl (by (repeat (first | exact List.Mem.head _ | refine List.Mem.tail _ ?_)); first | done | fail) | exact .inr (by (repeat (first | exact List.Mem.head _ | refine List.Mem.tail _ ?_)); first | done | fail)) : Yv P N C E Γ H (.call { callee := .builtin .len, args := #[x], argTypes := #[T] }) ty (it (m.es.length : Int)) := by
  intro dst pos aft gd a w he hS
  have h1 := Res.mp_ok.1 (hm.ok hS.sat)
  simp [execOp, he.ev hx, resolve, invoke, builtin, Builtin.len_, goInt, underlying, hT, getObj, Sem.run, h1, ents]
theorem Mv.dl {T K e : TypeId} {x y : Operand} {AT : Array TypeId} {b : Nat} {m : MM α β} {H' : RL} (k : α) (hT : P.underlying T = some (.map K e)) (hK : MKey P K f) (hx : ev E x = some (.map (some b)) := by rfl) (hy : ev E y = some (f k) := by rfl) (hA : AT[0]? = some T := by rfl)
    (hp : Upd H (mpR b f g m) (mpR b f g (m.del k)) H' := by (repeat (first | exact Upd.here _ _ _ | apply Upd.there)); first | done | fail) : Mv P N C E Γ H (.call { callee := .builtin .delete, args := #[x, y], argTypes := AT }) ty (fun _ Γ1 H1 => Γ1 = Γ ∧ H1 = H') := by
  intro dst pos aft gd a w he hs KK Q hKK
  obtain ⟨G, hp1, hp2⟩ := hp.ex
  have hst := hs.perm hp1
  have h1 := Res.mp_ok.1 (hst.sat.hok _ (.head _))
  have hf := hK.fk k (m.es.map (·.1)) (ents f g m.es) (ents_keys _) w
  have hc := hK.chk (ents f g m.es).isEmpty 9998 k w
  have hlt : b < w.heap.size := (Array.getElem?_eq_some_iff.1 h1).1
  have fin : ∀ o : Obj, o = .map (ents f g (m.del k).es).toArray (m.del k).ck → (execOp a.eval ⟨dst, .call { callee := .builtin .delete, args := #[x, y], argTypes := AT }, ty, pos, aft, gd⟩).run P w = .ok (.value (.tuple #[])) { w with heap := w.heap.setIfInBounds b o } → Oper.wp P ⟨dst, .call { callee := .builtin .delete, args := #[x, y], argTypes := AT }, ty, pos, aft, gd⟩ a w KK Q := by
    intro o ho hr
    subst ho
    simp only [Oper.wp, hr, Oper.upon]
    have h5 : St C Γ (mpR b f g (m.del k) :: G) { w with heap := w.heap.setIfInBounds b (.map (ents f g (m.del k).es).toArray (m.del k).ck) } :=
      St.obj (b := b) hst (fun k => Res.mp_fp) (fun k => Res.mp_fp) rfl rfl rfl (by simp) (Res.mp_ok.2 (by simp [hlt])) fun k hk => Array.getElem?_setIfInBounds_ne (Ne.symm hk)
    exact hKK _ _ _ _ ⟨rfl, rfl⟩ (h5.perm hp2.symm)
  have hdel : ∀ (es : List (α × β × Nat)) (i : Nat), (kfind k (es.map (·.1)) (ents f g es) i = none → MM.delL es k = es) ∧ ∀ j u, kfind k (es.map (·.1)) (ents f g es) i = some (j, u) → i ≤ j ∧ (ents f g es).eraseIdx (j - i) = ents f g (MM.delL es k) := by
    intro es
    induction es with
    | nil => intro i; exact ⟨fun _ => rfl, fun j u h => by simp [kfind] at h⟩
    | cons e es ih =>
      intro i
      have h0 : ents f g (e :: es) = ⟨f e.1, g e.2.1, e.2.2⟩ :: ents f g es := rfl
      by_cases hk : k = e.1
      · refine ⟨fun h => by simp [h0, kfind, hk] at h, fun j u h => ?_⟩
        simp only [h0, List.map_cons, kfind, if_pos hk, Option.some.injEq, Prod.mk.injEq] at h
        obtain ⟨rfl, rfl⟩ := h
        refine ⟨Nat.le_refl _, ?_⟩
        simp [h0, MM.delL, if_pos hk]
      · refine ⟨fun h => ?_, fun j u h => ?_⟩
        · simp only [h0, List.map_cons, kfind, if_neg hk] at h
          rw [MM.delL, if_neg hk, (ih (i + 1)).1 h]
        · simp only [h0, List.map_cons, kfind, if_neg hk] at h
          obtain ⟨h1, h2⟩ := (ih (i + 1)).2 j u h
          refine ⟨by omega, ?_⟩
          rw [show j - i = (j - (i + 1)) + 1 by omega, h0, List.eraseIdx_cons_succ, h2, MM.delL, if_neg hk]
          rfl
  cases hk : kfind k (m.es.map (·.1)) (ents f g m.es) 0 with
  | none =>
    rw [hk] at hf
    refine fin (.map (ents f g m.es).toArray m.ck) ?_ ?_
    · simp only [MM.del, (hdel m.es 0).1 hk]
    · simp [execOp, he.ev hx, he.ev hy, resolve, invoke, builtin, Builtin.delete_, hA, underlying, hT, getObj, setObj, Sem.run, h1, hc, hf]
  | some p =>
    obtain ⟨j, u⟩ := p
    rw [hk] at hf
    have h2 := ((hdel m.es 0).2 j u hk).2
    rw [Nat.sub_zero] at h2
    refine fin (.map ((ents f g m.es).toArray.eraseIdxIfInBounds j) m.ck) ?_ ?_
    · simp only [MM.del, ← h2]
      simp
    · simp [execOp, he.ev hx, he.ev hy, resolve, invoke, builtin, Builtin.delete_, hA, underlying, hT, getObj, setObj, Sem.run, h1, hc, hf]
theorem JO.dl {pos : String} {aft : Array Edge} {T K e : TypeId} {x y : Operand} {AT : Array TypeId} {b : Nat} {m : MM α β} {H' : RL} (k : α) (hT : P.underlying T = some (.map K e)) (hK : MKey P K f) (h : JO P N C ops rest Q E Γ H') (hx : ev E x = some (.map (some b)) := by rfl) (hy : ev E y = some (f k) := by rfl) (hA : AT[0]? = some T := by rfl)
    (hp : Upd H (mpR b f g m) (mpR b f g (m.del k)) H' := by (repeat (first | exact Upd.here _ _ _ | apply Upd.there)); first | done | fail) : JO P N C ops (⟨none, .call { callee := .builtin .delete, args := #[x, y], argTypes := AT }, ty, pos, aft, none⟩ :: rest) Q E Γ H :=
  .m0 (Mv.dl k hT hK hx hy hA hp) fun _ Γ' H' ⟨h1, h2⟩ => by subst h1 h2; exact h
end
end Go.Proofs.YthfipbjmpeegbaaGreatDoor

/- Bundles of one's own: many resources held as_ one. Conditions that are known. No program in sight. -/
namespace Go.Proofs.YthfipbjmpeegbaaGreatDoor
open Go.RowKit
set_option linter.unusedVariables false
def Res.sep (L : RL) : Res where
  fp k := FP L k
  ok w := (∀ r ∈ L, r.ok w) ∧ L.Pairwise (fun (r s : Res) => ∀ k : Nat, r.fp k → ¬ s.fp k)
  loc w w' h ho := ⟨fun r hr => r.loc w w' (fun k hk => h k ⟨r, hr, hk⟩) (ho.1 r hr), ho.2⟩
theorem Sat.sep {Γ L H : RL} {w : World} : Sat Γ (Res.sep L :: H) w ↔ Sat Γ (L ++ H) w := by
  constructor
  · intro h
    have hp := List.pairwise_cons.1 h.hdj
    have h0 := h.hok _ (.head _)
    refine ⟨h.gok, h.glt, ?_, ?_, ?_, ?_⟩
    · intro r hr
      rcases List.mem_append.1 hr with hr | hr
      · exact h0.1 r hr
      · exact h.hok r (.tail _ hr)
    · intro r hr k hk
      rcases List.mem_append.1 hr with hr | hr
      · exact h.hlt _ (.head _) k ⟨r, hr, hk⟩
      · exact h.hlt r (.tail _ hr) k hk
    · refine List.pairwise_append.2 ⟨h0.2, hp.2, fun r hr s hs k hk => hp.1 s hs k ⟨r, hr, hk⟩⟩
    · intro r hr s hs k hk
      rcases List.mem_append.1 hs with hs | hs
      · exact fun hk' => h.ghd r hr _ (.head _) k hk ⟨s, hs, hk'⟩
      · exact h.ghd r hr s (.tail _ hs) k hk
  · intro h
    have hp := List.pairwise_append.1 h.hdj
    refine ⟨h.gok, h.glt, ?_, ?_, ?_, ?_⟩
    · intro r hr
      rcases List.mem_cons.1 hr with rfl | hr
      · exact ⟨fun r hr => h.hok r (List.mem_append.2 (.inl hr)), hp.1⟩
      · exact h.hok r (List.mem_append.2 (.inr hr))
    · intro r hr k hk
      rcases List.mem_cons.1 hr with rfl | hr
      · obtain ⟨s, hs, hk⟩ := hk
        exact h.hlt s (List.mem_append.2 (.inl hs)) k hk
      · exact h.hlt r (List.mem_append.2 (.inr hr)) k hk
    · refine List.pairwise_cons.2 ⟨fun s hs k ⟨r, hr, hk⟩ => hp.2.2 r hr s hs k hk, hp.2.1⟩
    · intro r hr s hs k hk hk'
      rcases List.mem_cons.1 hs with rfl | hs
      · obtain ⟨t, ht, hk'⟩ := hk'
        exact h.ghd r hr t (List.mem_append.2 (.inl ht)) k hk hk'
      · exact h.ghd r hr s (List.mem_append.2 (.inr hs)) k hk hk'
theorem FP_sep {L H : RL} {k : Nat} : FP (Res.sep L :: H) k ↔ FP (L ++ H) k := by
  rw [FP_append]
  constructor
  · rintro ⟨r, hr, hk⟩
    rcases List.mem_cons.1 hr with rfl | hr
    · exact .inl hk
    · exact .inr ⟨r, hr, hk⟩
  · rintro (h | ⟨r, hr, hk⟩)
    · exact ⟨_, .head _, h⟩
    · exact ⟨r, .tail _ hr, hk⟩
theorem St.sep {C : Beg} {Γ L H : RL} {w : World} : St C Γ (Res.sep L :: H) w ↔ St C Γ (L ++ H) w :=
  ⟨fun h => ⟨Sat.sep.1 h.sat, h.stp, fun k hk => h.hsub k (FP_sep.2 hk), h.gsub⟩, fun h => ⟨Sat.sep.2 h.sat, h.stp, fun k hk => h.hsub k (FP_sep.1 hk), h.gsub⟩⟩
theorem St.unsep {C : Beg} {Γ L A B H G H' : RL} {w : World} (h : St C Γ H w) (hp : Pull (Res.sep L) H G) (hl : L.Perm (A ++ B)) (ha : App A (Res.sep B :: G) H') : St C Γ H' w := by
  have h1 := St.sep.1 (h.perm hp.perm)
  have h2 : St C Γ (Res.sep B :: (A ++ G)) w := St.sep.2 (h1.perm (by rw [← List.append_assoc]; exact (hl.trans List.perm_append_comm).append_right G))
  rw [← ha.eq]
  exact h2.perm List.perm_middle.symm
theorem St.resep {C : Beg} {Γ L A B H G : RL} {w : World} (h : St C Γ H w) (hp : Picks (Res.sep B :: A) H G) (hl : L.Perm (A ++ B)) : St C Γ (Res.sep L :: G) w := by
  have h1 : St C Γ (Res.sep B :: (A ++ G)) w := h.perm hp.perm
  exact St.sep.2 ((St.sep.1 h1).perm (by rw [← List.append_assoc]; exact ((hl.trans List.perm_append_comm).append_right G).symm))
section
variable {P : Program} {N : Nat} {C : Beg} {Q : Exit → Act → World → Prop} {E : Env} {Γ H : RL} {ty : TypeId} {ops : Array Oper} {rest : List Oper}
theorem JO.us {l : List Oper} {L A B G H' : RL} (hl : L.Perm (A ++ B)) (k : JO P N C ops l Q E Γ H') (hp : Pull (Res.sep L) H G := by (repeat (first | exact Pull.here _ _ | apply Pull.there)); first | done | fail)
    (ha : App A (Res.sep B :: G) H' := by (repeat (first | exact App.nil _ | apply App.cons)); first | done | fail) : JO P N C ops l Q E Γ H := fun hn a w he hs => k hn a w he (hs.unsep hp hl ha)
theorem JO.rs {l : List Oper} {L A B G : RL} (hl : L.Perm (A ++ B)) (k : JO P N C ops l Q E Γ (Res.sep L :: G)) (hp : Picks (Res.sep B :: A) H G := by (repeat (first | exact Picks.nil _ | apply Picks.cons | exact Pull.here _ _ | apply Pull.there)); first | done | fail) : JO P N C ops l Q E Γ H := fun hn a w he hs => k hn a w he (hs.resep hp hl)
theorem JC.us {c : Code} {L A B G H' : RL} (hl : L.Perm (A ++ B)) (k : JC P N C c Q E Γ H') (hp : Pull (Res.sep L) H G := by (repeat (first | exact Pull.here _ _ | apply Pull.there)); first | done | fail)
    (ha : App A (Res.sep B :: G) H' := by (repeat (first | exact App.nil _ | apply App.cons)); first | done | fail) : JC P N C c Q E Γ H := fun hn a w he hs => k hn a w he (hs.unsep hp hl ha)
theorem JC.rs {c : Code} {L A B G : RL} (hl : L.Perm (A ++ B)) (k : JC P N C c Q E Γ (Res.sep L :: G)) (hp : Picks (Res.sep B :: A) H G := by (repeat (first | exact Picks.nil _ | apply Picks.cons | exact Pull.here _ _ | apply Pull.there)); first | done | fail) : JC P N C c Q E Γ H := fun hn a w he hs => k hn a w he (hs.resep hp hl)
theorem JQ.rs {e : Exit} {L A B G : RL} (hl : L.Perm (A ++ B)) (k : JQ N C e Q E Γ (Res.sep L :: G)) (hp : Picks (Res.sep B :: A) H G := by (repeat (first | exact Picks.nil _ | apply Picks.cons | exact Pull.here _ _ | apply Pull.there)); first | done | fail) : JQ N C e Q E Γ H := fun hn a w he hs => k hn a w he (hs.resep hp hl)
theorem JQ.sp0 {e : Exit} (k : JQ N C e Q E Γ (Res.sep [] :: H)) : JQ N C e Q E Γ H := fun hn a w he hs => k hn a w he (St.sep.2 hs)
theorem JO.sp0 {l : List Oper} (k : JO P N C ops l Q E Γ (Res.sep [] :: H)) : JO P N C ops l Q E Γ H := fun hn a w he hs => k hn a w he (St.sep.2 hs)
theorem JR.us {T M U : Nat → Bool} {Γ0 H0 : RL} {l : OT} {L A B G H' : RL} (hl : L.Perm (A ++ B)) (k : JR P N C ops T M U Γ0 H0 l Q E Γ H') (hp : Pull (Res.sep L) H G := by (repeat (first | exact Pull.here _ _ | apply Pull.there)); first | done | fail)
    (ha : App A (Res.sep B :: G) H' := by (repeat (first | exact App.nil _ | apply App.cons)); first | done | fail) : JR P N C ops T M U Γ0 H0 l Q E Γ H := fun hn a w he hs => k hn a w he (hs.unsep hp hl ha)
theorem JR.rs {T M U : Nat → Bool} {Γ0 H0 : RL} {l : OT} {L A B G : RL} (hl : L.Perm (A ++ B)) (k : JR P N C ops T M U Γ0 H0 l Q E Γ (Res.sep L :: G)) (hp : Picks (Res.sep B :: A) H G := by (repeat (first | exact Picks.nil _ | apply Picks.cons | exact Pull.here _ _ | apply Pull.there)); first | done | fail) : JR P N C ops T M U Γ0 H0 l Q E Γ H := fun hn a w he hs => k hn a w he (hs.resep hp hl)
theorem JC.k1 {c : Operand} {x y : Code} {e : Bool} (hc : ev E c = some (.bool e)) (he : e = true) (ht : JC P N C x Q E Γ H) : JC P N C (.cond c x y) Q E Γ H := by subst he; exact .ct hc ht
theorem JC.k0 {c : Operand} {x y : Code} {e : Bool} (hc : ev E c = some (.bool e)) (he : e = false) (hf : JC P N C y Q E Γ H) : JC P N C (.cond c x y) Q E Γ H := by subst he; exact .cf hc hf
end
end Go.Proofs.YthfipbjmpeegbaaGreatDoor

/- Values built of parts that are lists; structs held against each other. No program in sight. -/
namespace Go.Proofs.YthfipbjmpeegbaaGreatDoor
open Go.RowKit
set_option linter.unusedVariables false
set_option linter.unusedSimpArgs false
theorem foldl_splice : ∀ (c zs : List Value) (o k : Nat), o + k + c.length ≤ zs.length → (c.zipIdx k).foldl (fun (cs : Array Value) (p : Value × Nat) => cs.setIfInBounds (o + p.2) p.1) zs.toArray = (splice zs (o + k) c).toArray
  | [], zs, o, k, _ => by simp [splice]
  | x :: c, zs, o, k, h => by
    simp only [List.length_cons] at h
    have ih := foldl_splice c (zs.set (o + k) x) o (k + 1) (by simp; omega)
    simp only [List.zipIdx_cons, List.foldl_cons]
    have e1 : (zs.toArray.setIfInBounds (o + k) x) = (zs.set (o + k) x).toArray := by simp
    rw [e1, ih]
    congr 1
    unfold splice
    have h1 : (zs.set (o + k) x).take (o + (k + 1)) = zs.take (o + k) ++ [x] := by
      rw [show o + (k + 1) = o + k + 1 by omega, List.take_add_one, List.take_set_of_le (Nat.le_refl _), List.getElem?_set_self (by omega)]
      rfl
    have h2 : (zs.set (o + k) x).drop (o + (k + 1) + c.length) = zs.drop (o + k + (x :: c).length) := by
      rw [List.drop_set_of_lt (by omega), List.length_cons]
      congr 1
      omega
    rw [h1, h2]
    simp
inductive FillL (place : Nat → Option (Nat × Nat)) : List Value → List (Nat × Value) → List Value → Prop
  | nil (zs : List Value) : FillL place zs [] zs
  | cons {zs cs c : List Value} {i off size : Nat} {v : Value} {rest : List (Nat × Value)} : place i = some (off, size) → v.cells = c.toArray → c.length = size → off + size ≤ zs.length → FillL place (splice zs off c) rest cs → FillL place zs ((i, v) :: rest) cs
theorem FillL.fill {place : Nat → Option (Nat × Nat)} {zs cs : List Value} {vs : List (Nat × Value)} (h : FillL place zs vs cs) : Instr.fill place zs.toArray vs = some cs.toArray := by
  induction h with
  | nil zs => rfl
  | @cons zs cs c i off size v rest hp hv hc hl _ ih =>
    have h1 : v.cells.size = size := by rw [hv]; simpa using hc
    unfold Instr.fill
    simp only [hp]
    rw [if_neg (by rw [h1]; simp; omega)]
    have h2 := foldl_splice c zs off 0 (by omega)
    rw [Nat.add_zero] at h2
    rw [hv]
    have h3 : (c.toArray.zipIdx.foldl (fun (cs : Array Value) (x : Value × Nat) => match x with | (c, j) => cs.setIfInBounds (off + j) c) zs.toArray) = (splice zs off c).toArray := by
      rw [← h2]
      simp
    rw [h3]
    exact ih
section
variable {P : Program} {N : Nat} {C : Beg} {E : Env} {Γ H : RL} {ty : TypeId}
theorem Yv.bd {T : TypeId} {parts : List (Nat × Operand)} {vs : List (Nat × Value)} {place : Nat → Option (Nat × Nat)} {zs cs : List Value} (hB : Bld P T place zs) (hp : evp E parts = some vs := by rfl)
    (hf : FillL place zs vs cs := by (repeat (first | exact FillL.nil _ | (apply FillL.cons; rfl; rfl; (focus (first | rfl | (simp; done) | fail)); (focus (first | (simp [splice]; done) | fail))))); first | done | fail) : Yv P N C E Γ H (.build T parts.toArray) ty (.agg cs.toArray) := .build hB hp hf.fill
end
/-! ### Structs held against each other -/
def EqF (P : Program) (d : Nat) (w : World) (f : Field) (xs ys : Array Value) (b : Bool) : Prop :=
  f.name ≠ "_" ∧ ∃ u v, (part f.type xs f.offset).run P w = .ok u w ∧ (part f.type ys f.offset).run P w = .ok v w ∧ (Op.equalIn d f.type u v).run P w = .ok b w
inductive EqFs (P : Program) (d : Nat) (w : World) (xs ys : Array Value) : List Field → List Bool → Prop
  | nil : EqFs P d w xs ys [] []
  | cons {f : Field} {fs : List Field} {b : Bool} {bs : List Bool} : EqF P d w f xs ys b → EqFs P d w xs ys fs bs → EqFs P d w xs ys (f :: fs) (b :: bs)
theorem EqF.int {P : Program} {d : Nat} {w : World} {f : Field} {xs ys : Array Value} {q k : IntKind} {m n : Int} (ht : P.underlying f.type = some (.int q)) (hn : f.name ≠ "_") (hx : xs[f.offset]? = some (.int k m)) (hy : ys[f.offset]? = some (.int k n)) : EqF P (d + 1) w f xs ys (decide (m = n)) :=
  ⟨hn, _, _, run_parts ht rfl hx, run_parts ht rfl hy, by
    rw [Op.equalIn]
    simp [underlying, ht, Bool.beq_eq_decide_eq]⟩
theorem EqF.bool {P : Program} {d : Nat} {w : World} {f : Field} {xs ys : Array Value} {m n : Bool} (ht : P.underlying f.type = some .bool) (hn : f.name ≠ "_") (hx : xs[f.offset]? = some (.bool m)) (hy : ys[f.offset]? = some (.bool n)) : EqF P (d + 1) w f xs ys (decide (m = n)) :=
  ⟨hn, _, _, run_parts ht rfl hx, run_parts ht rfl hy, by
    rw [Op.equalIn]
    simp [underlying, ht]
    cases m <;> cases n <;> rfl⟩
theorem EqF.dig {P : Program} {d : Nat} {w : World} {f : Field} {xs ys : Array Value} {e : TypeId} {a b : D32} (hA : Agg P f.type 32) (ht : P.underlying f.type = some (.array 32 e)) (he : P.underlying e = some (.int .u8)) (hs : (P.info? e).map (·.size) = some 1) (hn : f.name ≠ "_")
    (hx : xs.extract f.offset (f.offset + 32) = (a.1.map u8).toArray) (hy : ys.extract f.offset (f.offset + 32) = (b.1.map u8).toArray) : EqF P (d + 2) w f xs ys (decide (a = b)) := by
  have hp : ∀ zs : Array Value, (part f.type zs f.offset).run P w = .ok (.agg (zs.extract f.offset (f.offset + 32))) w := fun zs => by
    simp [part, (hA w).1, (hA w).2]
  refine ⟨hn, _, _, hp xs, hp ys, ?_⟩
  rw [hx, hy]
  have := run_eqArr (P := P) (f := u8) (g := fun x => (x.toNat : Int)) ht he hs (fun _ => rfl) (fun _ _ h => u8_inj h) a.1 b.1 a.2 b.2 d w
  rw [show decide (a = b) = decide (a.1 = b.1) from decide_eq_decide.2 Subtype.ext_iff]
  exact this
end Go.Proofs.YthfipbjmpeegbaaGreatDoor

/- Ranges over functions: the rounds' bodies, what stands behind such a loop, and an iterator's calls of yield. No program in sight. -/
namespace Go.Proofs.YthfipbjmpeegbaaGreatDoor
open Go.RowKit
set_option linter.unusedVariables false
/-- The wide fence, in a round or in none. -/
abbrev FW (r : Option Nat) : Fence := { Fence.wide with round := r }
theorem callsFW {r : Option Nat} {n : Nat} {P : Program} {f : FuncId} {args : Array Value} {w : World} {R : Ending → World → Prop} : CallsIn (FW r) n P f args w R ↔ Calls P f args w R :=
  Iff.trans (Iff.of_eq rfl) (callsIn_wide (n := n))
theorem rowsFW {r : Option Nat} {n : Nat} {P : Program} {f : String} {args : Array Value} {w : World} {R : Value → World → Prop} (h : Rows P f args w R) : RowsIn (FW r) n P f args w R := fun c cs _ => by
  obtain ⟨v, w', hR, hs⟩ := h c cs
  exact ⟨v, w', hR, stepsIn_wide.2 hs⟩
/-- Where a range over a function stands: the round, and what the activation has put off. -/
structure Md where
  rd : Option Nat
  ds : List Deferred
def Md.up (m : Md) (a : Act) : Act := { a with defers := a.defers ++ m.ds }
@[simp] theorem Md.up_tmps (m : Md) (a : Act) : (m.up a).tmps = a.tmps := rfl
theorem Md.up_put (m : Md) (a : Act) (d : Option Tmp) (v : Value) : m.up (a.put d v) = (m.up a).put d v := by cases d <;> rfl
theorem Md.up_eval (m : Md) (a : Act) : (m.up a).eval = a.eval := rfl
/-- Q, before what was put off. -/
def QU (m : Md) (Q : Exit → Act → World → Prop) : Exit → Act → World → Prop := fun e a w => Q e (m.up a) w
theorem NP.QU {m : Md} {Q : Exit → Act → World → Prop} (h : NP Q) : NP (QU m Q) := fun c a w => h c _ w
def noDefer (o : Oper) : Bool := match o.op with
  | .defer _ => false
  | _ => true
theorem noDefer_spec {o : Oper} (h : noDefer o = true) : ∀ c, o.op ≠ .defer c := fun c e => by unfold noDefer at h; rw [e] at h; cases h
section
variable {P : Program} {m : Md} {n : Nat} {Q Q1 : Exit → Act → World → Prop} {ops : Array Oper}
/-- No letting out. -/
def NL (Q : Exit → Act → World → Prop) : Prop := ∀ a w, ¬ Q .outgrown a w
theorem uponIn_of {o : Oper} {a : Act} {K K' : Act → World → Prop} {r : Result Next} (hL : NL Q1) (hp : ∀ c a w, Q1 (.panic c) a w → Q (.panic c) (m.up a) w) (hK : ∀ a w, K a w → K' (m.up a) w) (h : o.upon P a K Q1 r) : o.uponIn (FW m.rd) n P (m.up a) K' Q r := by
  have hp' : ∀ (d : Option Tmp) (v : Value) (w : World), K (a.put d v) w → K' ((m.up a).put d v) w := fun d v w h => by rw [← m.up_put]; exact hK _ _ h
  have nl : ¬ LetsOut Q1 := fun ⟨a, w, h⟩ => hL _ w h
  cases r with
  | ok x w' =>
    cases x with
    | value v => exact hp' _ _ _ h
    | skip => exact hp' _ _ _ h
    | defer d =>
      have h1 := hK _ _ h
      rw [m.up_put] at h1
      exact h1
    | enter f args =>
      refine ⟨fun h => (by cases h), callsFW.2 (Calls.mono h fun e w'' he => ?_)⟩
      cases e with
      | returned v => exact hp' _ _ _ he
      | panicked c => exact hp _ _ _ he
      | outgrown => exact absurd he nl
    | row s args => exact ⟨fun h => (by cases h), rowsFW (Rows.mono h fun v w'' he => hp' _ _ _ he)⟩
    | _ => exact h.elim
  | halt x w' =>
    cases x with
    | panic v => exact hp _ _ _ h
    | _ => exact h.elim
theorem wpIn_of {o : Oper} {a : Act} {w : World} {K K' : Act → World → Prop} (hL : NL Q1) (hp : ∀ c a w, Q1 (.panic c) a w → Q (.panic c) (m.up a) w) (hd : noDefer o = true) (hK : ∀ a w, K a w → K' (m.up a) w) (h : o.wp P a w K Q1) : o.wpIn (FW m.rd) n P (m.up a) w K' Q := by
  refine ⟨fun _ _ => trivial, ?_⟩
  rw [Oper.semAt_eq _ _ _ (noDefer_spec hd)]
  exact uponIn_of hL hp hK h
theorem wpListIn_of {K : Act → World → Prop} (hL : NL Q) {l2 : List Oper} (hK : ∀ a w, K a w → wpListIn (FW m.rd) n P ops Q l2 (m.up a) w) : ∀ (l : List Oper), l.all noDefer = true → ∀ (a : Act) (w : World),
    wpList P ops (Exit.then K (QU m Q)) l a w → wpListIn (FW m.rd) n P ops Q (l ++ l2) (m.up a) w
  | [], _, a, w, h => hK _ _ h
  | o :: l, hd, a, w, h => by
    have nl : NL (Exit.then K (QU m Q)) := fun a w h => hL _ w h
    rw [List.all_cons, Bool.and_eq_true] at hd
    have ih := wpListIn_of hL hK l hd.2
    simp only [List.cons_append]
    unfold wpList at h
    unfold wpListIn
    by_cases hw : Region.wanted o (yielded ops (m.up a).tmps) = true
    · have hw' : Region.wanted o (yielded ops a.tmps) = true := hw
      rw [if_pos hw'] at h
      rw [if_pos hw]
      rcases h with h | h
      · exact wpIn_of nl (fun c a w h => h) hd.1 (K := wpList P ops (Exit.then K (QU m Q)) l) (fun a w h => ih a w h) h
      · exact absurd h.2 (fun ⟨a, w, h⟩ => nl a w h)
    · have hw' : ¬ Region.wanted o (yielded ops a.tmps) = true := hw
      rw [if_neg hw'] at h
      rw [if_neg hw]
      exact ⟨fun _ _ => trivial, by rw [← m.up_put]; exact ih _ _ h⟩
theorem wpOpIn_of {K K' : Act → World → Prop} {i : Nat} {a : Act} {w : World} (hL : NL Q) (hd : ops.toList.all noDefer = true) (hK : ∀ a w, K a w → K' (m.up a) w) (h : wpOp P ops (QU m Q) i K a w) : wpOpIn (FW m.rd) n P ops Q i K' (m.up a) w := by
  have nl : NL (QU m Q) := fun a w h => hL _ w h
  unfold wpOp at h
  unfold wpOpIn
  split
  · rename_i h0
    simp only [h0] at h
    exact hK _ _ h
  · rename_i o ho
    simp only [ho] at h
    have hdo : noDefer o = true := List.all_eq_true.1 hd o (by rw [Array.getElem?_toList.symm] at ho; exact List.mem_of_getElem? ho)
    by_cases hw : Region.wanted o (yielded ops (m.up a).tmps) = true
    · have hw' : Region.wanted o (yielded ops a.tmps) = true := hw
      rw [if_pos hw'] at h
      rw [if_pos hw]
      rcases h with h | h
      · exact wpIn_of nl (fun c a w h => h) hdo hK h
      · exact absurd h.2 (fun ⟨a, w, h⟩ => nl a w h)
    · have hw' : ¬ Region.wanted o (yielded ops a.tmps) = true := hw
      rw [if_neg hw'] at h
      rw [if_neg hw]
      exact ⟨fun _ _ => trivial, by rw [← m.up_put]; exact hK _ _ h⟩
theorem wpAnyIn_of {md : Region.Mode} (hL : NL Q) (hd : ops.toList.all noDefer = true) : ∀ (fuel : Nat) (listed : Array Bool) (a : Act) (w : World), wpAny P md ops (QU m Q) fuel listed a w → wpAnyIn (FW m.rd) n P md ops Q fuel listed (m.up a) w
  | 0, _, _, _, h => h
  | fuel + 1, listed, a, w, h => ⟨h.1, fun i hi => wpOpIn_of hL hd (fun a w h => wpAnyIn_of hL hd fuel _ a w h) (h.2 i hi)⟩
end
/-! ### The judgement, where a range over a function stands around -/
/-- Nothing panics, nothing outgrows. -/
class NPL (Q : Exit → Act → World → Prop) : Prop where
  np : NP Q
  nl : NL Q
instance NPL.then {K : Act → World → Prop} {Q : Exit → Act → World → Prop} [h : NPL Q] : NPL (Exit.then K Q) := ⟨h.np.then, fun a w hq => h.nl a w hq⟩
instance NPL.inBlock {id : Nat} {Q : Exit → Act → World → Prop} [h : NPL Q] : NPL (Exit.inBlock id Q) := ⟨h.np.inBlock, fun a w hq => h.nl a w hq⟩
instance NPL.round {P : Program} {l : Nat} {R : Ending → World → Prop} : NPL (roundPost P l R) := ⟨fun _ _ _ h => h, fun _ _ h => h⟩
def JX (P : Program) (N : Nat) (m : Md) (C : Beg) (c : Code) (Q : Exit → Act → World → Prop) (E : Env) (Γ H : RL) : Prop :=
  ∀ a w, EnvOk N E a → St C Γ H w → c.wpIn (FW m.rd) 0 P Q (m.up a) w
def JXO (P : Program) (N : Nat) (m : Md) (C : Beg) (ops : Array Oper) (l : List Oper) (Q : Exit → Act → World → Prop) (E : Env) (Γ H : RL) : Prop :=
  ∀ a w, EnvOk N E a → St C Γ H w → wpListIn (FW m.rd) 0 P ops Q l (m.up a) w
section
variable {P : Program} {N : Nat} {m : Md} {C : Beg} {Q : Exit → Act → World → Prop} {E : Env} {Γ H : RL}
theorem JX.seq {x y : Code} (h : JX P N m C x (Exit.then (y.wpIn (FW m.rd) 0 P Q) Q) E Γ H) : JX P N m C (.seq x y) Q E Γ H := fun a w he hs => wpIn_seq (h a w he hs)
theorem JX.skip [hn : NPL Q] (h : JQ N C .normal (QU m Q) E Γ H) : JX P N m C .skip Q E Γ H := fun a w he hs => wpIn_skip (h hn.np.QU a w he hs)
theorem JX.exit [hn : NPL Q] {id : Nat} (h : JQ N C (.exit id) (QU m Q) E Γ H) : JX P N m C (.exit id) Q E Γ H := fun a w he hs => wpIn_exit (h hn.np.QU a w he hs)
theorem JX.ret [hn : NPL Q] (h : JQ N C .ret (QU m Q) E Γ H) : JX P N m C .ret Q E Γ H := fun a w he hs => wpIn_ret (h hn.np.QU a w he hs)
theorem JX.block {id : Nat} {c : Code} (h : JX P N m C c (Exit.inBlock id Q) E Γ H) : JX P N m C (.block id c) Q E Γ H := fun a w he hs => wpIn_block (h a w he hs)
theorem JX.cond {c : Operand} {x y : Code} {t : Bool} (hc : ev E c = some (.bool t)) (ht : t = true → JX P N m C x Q E Γ H) (hf : t = false → JX P N m C y Q E Γ H) : JX P N m C (.cond c x y) Q E Γ H :=
  fun a w he hs => wpIn_cond_split (by rw [m.up_eval]; exact he.ev hc) (fun e => ht e a w he hs) (fun e => hf e a w he hs)
theorem JX.cn {c : Operand} {x y : Code} {b : Bool} {p q : Prop} [hb : NB b p q] (hc : ev E c = some (.bool b)) (ht : p → JX P N m C x Q E Γ H) (hf : q → JX P N m C y Q E Γ H) : JX P N m C (.cond c x y) Q E Γ H :=
  .cond hc (fun e => ht (hb.t e)) (fun e => hf (hb.f e))
theorem JX.ct {c : Operand} {x y : Code} (hc : ev E c = some (.bool true)) (ht : JX P N m C x Q E Γ H) : JX P N m C (.cond c x y) Q E Γ H := .cond hc (fun _ => ht) (fun e => by cases e)
theorem JX.cf {c : Operand} {x y : Code} (hc : ev E c = some (.bool false)) (hf : JX P N m C y Q E Γ H) : JX P N m C (.cond c x y) Q E Γ H := .cond hc (fun e => by cases e) (fun _ => hf)
theorem JX.k1 {c : Operand} {x y : Code} {e : Bool} (hc : ev E c = some (.bool e)) (he : e = true) (ht : JX P N m C x Q E Γ H) : JX P N m C (.cond c x y) Q E Γ H := by subst he; exact .ct hc ht
theorem JX.k0 {c : Operand} {x y : Code} {e : Bool} (hc : ev E c = some (.bool e)) (he : e = false) (hf : JX P N m C y Q E Γ H) : JX P N m C (.cond c x y) Q E Γ H := by subst he; exact .cf hc hf
theorem JX.know {c : Code} {φ : Prop} (hφ : ∀ w, Sat Γ H w → φ) (h : φ → JX P N m C c Q E Γ H) : JX P N m C c Q E Γ H := fun a w he hs => h (hφ w hs.sat) a w he hs
/-- A statement in order: as_ everywhere. -/
theorem JX.region [hn : NPL Q] {id : Nat} {l : List Oper} (h : JO P N C l.toArray l (QU m Q) E Γ H) (hd : l.all noDefer = true := by rfl) : JX P N m C (.region id l.toArray false) Q E Γ H := fun a w he hs => by
  refine wpIn_region_lit ?_
  have h1 := h hn.np.QU a w he hs
  have h2 : wpList P l.toArray (Exit.then (fun a w => QU m Q .normal a w) (QU m Q)) l a w := by
    have : Exit.then (fun a w => QU m Q .normal a w) (QU m Q) = QU m Q := by funext e a w; cases e <;> rfl
    rw [this]; exact h1
  have h3 := wpListIn_of (n := 0) (ops := l.toArray) (l2 := []) hn.nl (fun a w h => wpListIn_nil h) l hd a w h2
  rwa [List.append_nil] at h3
/-- A statement whose order is open. -/
theorem JX.draw [hn : NPL Q] {id : Nat} {ops : Array Oper} (l : OT) (T M U : Nat → Bool) (hm : P.follows .mixedOrders = true) (hs : Region.noSelect ops = true) (hl : l.len ≤ ops.size)
    (hc : chkOrd .any ops T M U true l (Array.replicate ops.size false) = true) (h : JR P N C ops T M U Γ H l (QU m Q) E Γ H) (hd : ops.toList.all noDefer = true := by rfl) : JX P N m C (.region id ops true) Q E Γ H :=
  fun a w he hst => by
    refine wpIn_region_any hm ?_
    have h1 := wpAny_of_T _ _ _ _ ((wpAnyT_of_ord hs hn.np.QU l).1 _ _ _ _ hl hc (St.keep0 hst.drew) (.inl hst.drew) (h hn.np.QU a _ he hst.drew))
    exact wpAnyIn_of hn.nl hd _ _ _ _ h1
/-- A statement that calls yield: what stands ahead of the call, and the call. -/
theorem JX.regionO {id : Nat} {l : List Oper} (h : JXO P N m C l.toArray l Q E Γ H) : JX P N m C (.region id l.toArray false) Q E Γ H := fun a w he hs => wpIn_region_lit (h a w he hs)
/-- .. the operations ahead of it, as_ everywhere. -/
theorem JXO.pre [hn : NPL Q] {ops : Array Oper} (k : Nat) {l : List Oper} (h : JO P N C ops (l.take k) (Exit.then (fun a w => wpListIn (FW m.rd) 0 P ops Q (l.drop k) (m.up a) w) (QU m Q)) E Γ H) (hd : (l.take k).all noDefer = true := by rfl) : JXO P N m C ops l Q E Γ H := fun a w he hs => by
  have h1 := wpListIn_of (n := 0) (ops := ops) (l2 := l.drop k) hn.nl (fun a w h => h) (l.take k) hd a w (h hn.np.QU.then a w he hs)
  rwa [List.take_append_drop] at h1
theorem JQ.xpre {l2 : List Oper} {ops : Array Oper} {Q' : Exit → Act → World → Prop} (h : JXO P N m C ops l2 Q E Γ H) : JQ N C .normal (Exit.then (fun a w => wpListIn (FW m.rd) 0 P ops Q l2 (m.up a) w) Q') E Γ H := fun _ a w he hs => h a w he hs
theorem JXO.nil [hn : NPL Q] {ops : Array Oper} (h : JQ N C .normal (QU m Q) E Γ H) : JXO P N m C ops [] Q E Γ H := fun a w he hs => wpListIn_nil (h hn.np.QU a w he hs)
theorem JQ.xtn {y : Code} (h : JX P N m C y Q E Γ H) : JQ N C .normal (QU m (Exit.then (y.wpIn (FW m.rd) 0 P Q) Q)) E Γ H := fun _ a w he hs => h a w he hs
theorem JQ.xthen_exit {K : Act → World → Prop} {id : Nat} (h : JQ N C (.exit id) (QU m Q) E Γ H) : JQ N C (.exit id) (QU m (Exit.then K Q)) E Γ H := fun hn a w he hs => h (fun c a w hq => hn c a w hq) a w he hs
theorem JQ.xblock_normal {id : Nat} (h : JQ N C .normal (QU m Q) E Γ H) : JQ N C .normal (QU m (Exit.inBlock id Q)) E Γ H := fun hn a w he hs => h (fun c a w hq => hn c a w hq) a w he hs
theorem JQ.xblock_exit {id : Nat} (h : JQ N C .normal (QU m Q) E Γ H) : JQ N C (.exit id) (QU m (Exit.inBlock id Q)) E Γ H := fun hn a w he hs => by
  show (if id = id then Q .normal (m.up a) w else Q (.exit id) (m.up a) w)
  rw [if_pos rfl]
  exact h (fun c a w hq => hn c a w hq) a w he hs
end
end Go.Proofs.YthfipbjmpeegbaaGreatDoor

/- Ranges over functions: loops within, yield, the statement, the end of such a function. No program in sight. -/
namespace Go.Proofs.YthfipbjmpeegbaaGreatDoor
open Go.RowKit
set_option linter.unusedVariables false
section
variable {P : Program} {N : Nat} {m : Md} {C : Beg} {Q : Exit → Act → World → Prop} {E : Env} {Γ H : RL}
/-- A loop; what it doesn't turn is kept. -/
theorem JX.lp {ι : Type} {c : Code} (pr : ι → Prop) (IE : Env → ι → Env) (IΓ IH : RL → ι → RL) (μ : ι → Nat) (x0 : ι) (keep : List Nat) {E' : Env} {G : RL} (h0 : pr x0)
    (round : ∀ x, pr x → JX P N m C c (Exit.then (fun a w => ∃ a0, a = m.up a0 ∧ Head N C (IE E') (IΓ Γ) (IH G) (fun y => pr y ∧ μ y < μ x) a0 w) Q) (IE E' x) (IΓ Γ x) (IH G x))
    (hk : KeepE keep E E' := by (repeat (first | exact KeepE.nil _ | (apply KeepE.cons; rfl) | apply KeepE.skip)); first | done | fail) (hE : Sub (IE [] x0) E := by (repeat (first | exact trivial | (refine ⟨?_, ?_⟩; focus (first | rfl | (simp; done) | fail)))); first | done | fail) (hH : Picks (IH [] x0) H G := by (repeat (first | exact Picks.nil _ | apply Picks.cons | exact Pull.here _ _ | apply Pull.there)); first | done | fail) (hg : Subs (IΓ [] x0) Γ := by (repeat (first | exact Subs.nil _ | apply Subs.cons | exact List.Mem.head _ | refine List.Mem.tail _ ?_)); first | done | fail)
    (e1 : ∀ T x, IE T x = IE [] x ++ T := by exact fun _ _ => rfl) (e2 : ∀ T x, IH T x = IH [] x ++ T := by exact fun _ _ => rfl) (e3 : ∀ T x, IΓ T x = IΓ [] x ++ T := by exact fun _ _ => rfl) : JX P N m C (.loop c) Q E Γ H := by
  intro a w he hs
  refine wpIn_loop_ghost (fun n a w => ∃ x a0, a = m.up a0 ∧ pr x ∧ μ x = n ∧ EnvOk N (IE E' x) a0 ∧ St C (IΓ Γ x) (IH G x) w) (μ x0) ⟨x0, a, rfl, h0, rfl, ?_, ?_⟩ ?_
  · rw [e1]; exact (he.sub hE).app (he.sub hk.sub)
  · rw [e2, e3]
    have h1 : St C Γ (IH [] x0 ++ G) w := hs.perm hH.perm
    exact (h1.perm (show (IH [] x0 ++ G).Perm ((IH [] x0 ++ G) ++ []) by rw [List.append_nil])).weak fun r hr => (List.mem_append.1 hr).elim (hg.sub r) id
  rintro n a w ⟨x, a0, rfl, hx, rfl, hea, hst⟩
  refine wpIn_mono (round x hx a0 w hea hst) ?_
  intro e a' w' h
  cases e with
  | normal =>
    obtain ⟨b0, rfl, y, ⟨hy0, hy⟩, hea', hst'⟩ := h
    exact ⟨μ y, hy, y, b0, rfl, hy0, rfl, hea', hst'⟩
  | _ => exact h
theorem JQ.xhd {ι : Type} {IE : ι → Env} {IΓ IH : ι → RL} {ok : ι → Prop} (y : ι) {G : RL} (hy : ok y) (hE : Sub (IE y) E := by (repeat (first | exact trivial | (refine ⟨?_, ?_⟩; focus (first | rfl | (simp; done) | fail)))); first | done | fail) (hg : Subs (IΓ y) Γ := by (repeat (first | exact Subs.nil _ | apply Subs.cons | exact List.Mem.head _ | refine List.Mem.tail _ ?_)); first | done | fail) (hH : Picks (IH y) H G := by (repeat (first | exact Picks.nil _ | apply Picks.cons | exact Pull.here _ _ | apply Pull.there)); first | done | fail) : JQ N C .normal (QU m (Exit.then (fun a w => ∃ a0, a = m.up a0 ∧ Head N C IE IΓ IH ok a0 w) Q)) E Γ H :=
  fun _ a w he hs => ⟨a, rfl, y, hy, he.sub hE, (hs.perm hH.perm).weak hg.sub⟩
/-- Nothing put off: as_ everywhere. -/
theorem JQ.x0 {r : Option Nat} {e : Exit} (h : JQ N C e Q E Γ H) : JQ N C e (QU ⟨r, []⟩ Q) E Γ H := fun hn a w he hs => by
  have hu : ∀ a : Act, (⟨r, []⟩ : Md).up a = a := fun a => by simp [Md.up]
  have h1 := h (fun c a w hq => hn c a w (by unfold QU; rw [hu]; exact hq)) a w he hs
  unfold QU
  rw [hu]
  exact h1
end
/-! ### Blocks of the machine's own -/
def Res.ob (b : Nat) (o : Obj) : Res where
  fp k := k = b
  ok w := w.heap[b]? = some o
  loc _ _ h ho := (h b rfl).trans ho
theorem Res.ob_ok {b : Nat} {o : Obj} {w : World} : (Res.ob b o).ok w ↔ w.heap[b]? = some o := Iff.rfl
theorem Res.ob_fp {b k : Nat} {o : Obj} : (Res.ob b o).fp k ↔ k = b := Iff.rfl
attribute [irreducible] Res.ob
theorem St.newOb {C : Beg} {Γ H : RL} {w : World} (h : St C Γ H w) (o : Obj) : St C Γ (Res.ob w.heap.size o :: H) (w.alloc o) :=
  h.newObj o _ (fun _ => Res.ob_fp) (Res.ob_ok.2 (World.alloc_heap_new w o))
theorem St.putOb {C : Beg} {Γ H : RL} {b : Nat} {o o' : Obj} {w : World} (h : St C Γ (Res.ob b o :: H) w) : St C Γ (Res.ob b o' :: H) (w.putObj b o') := by
  have hb := Res.ob_ok.1 (h.sat.hok _ (.head _))
  have hlt := (Array.getElem?_eq_some_iff.1 hb).1
  exact h.obj (b := b) (fun _ => Res.ob_fp) (fun _ => Res.ob_fp) rfl rfl rfl (by simp [World.putObj]) (Res.ob_ok.2 (World.putObj_heap_same hlt)) (fun k hk => World.putObj_heap_other hk)
/-! ### yield -/
/-- What a call of yield comes to. -/
def YSpec (P : Program) (l : Nat) (args : Array Value) (Γ H : RL) (post : Value → RL → RL → Prop) : Prop := ∀ w, Sat Γ H w → YieldAt (FW none) 0 P l args w (SpecPost Γ H post w)
section
variable {P : Program} {N : Nat} {m : Md} {C : Beg} {Q : Exit → Act → World → Prop} {E : Env} {Γ H : RL} {ops : Array Oper} {rest : List Oper} {ty : TypeId}
theorem JXO.yield {d l : Nat} {pos : String} {aft : Array Edge} {x : Operand} {xs : List Operand} {vs : List Value} {AT : Array TypeId} {Γc Hc G : RL} {post : Value → RL → RL → Prop} (hY : YSpec P l vs.toArray Γc Hc post)
    (h : ∀ v H1, post v [] H1 → AppJ H1 G (JXO P N m C ops rest Q ((d, v) :: E) Γ)) (hx : ev E x = some (.func (.yield l) #[] #[]) := by rfl) (hxs : evs E xs = some vs := by rfl)
    (hp : Picks Hc H G := by (repeat (first | exact Picks.nil _ | apply Picks.cons | exact Pull.here _ _ | apply Pull.there)); first | done | fail) (hg : Lends Γc (G ++ Γ) := by (repeat (first | exact Lends.nil _ | apply Lends.cons | exact Lend.same _ _ | exact Lend.row _ _ _ _ _ _ (by decide) | apply Lend.there)); first | done | fail)
    (h0 : ∀ v Γ1 H1, post v Γ1 H1 → Γ1 = [] := by rintro _ _ _ ⟨_, h, _⟩; exact h) (hd : d < N := by decide) :
    JXO P N m C ops (⟨some d, .call { callee := .value x, args := xs.toArray, argTypes := AT }, ty, pos, aft, none⟩ :: rest) Q E Γ H := by
  intro a w he hs
  have hst := hs.perm hp.perm
  obtain ⟨fn, tmps, assign, body, hy, hR⟩ := hY w (hst.sat.lend hg)
  unfold wpListIn
  rw [if_pos (by simp [Region.wanted])]
  refine ⟨fun _ _ => trivial, ?_⟩
  rw [Oper.semAt_eq _ _ _ (fun c e => by cases e)]
  have hr : (execOp (m.up a).eval ⟨some d, .call { callee := .value x, args := xs.toArray, argTypes := AT }, ty, pos, aft, none⟩).run P w = .ok (.round l fn tmps assign body) w := by
    rw [m.up_eval]
    have h2 : xs.toArray.map a.eval = vs.toArray := by rw [← he.evs hxs]; simp
    simp only [execOp, resolve, Deferred.ofValue, he.ev hx, h2, Sem.run_bind, Sem.run_pure, Result.andThen_ok, invoke]
    have := hy
    simpa using this
  rw [hr]
  refine ⟨fun h => (by cases h), RoundIn.mono hR ?_⟩
  rintro e w' ⟨v, Γ', H', rfl, hpost, hst'⟩
  have e0 := h0 _ _ _ hpost
  subst e0
  have hst2 : St ⟨w, [], Hc⟩ [] H' w' := by
    refine ⟨⟨by simp, by simp, hst'.sat.hok, hst'.sat.hlt, hst'.sat.hdj, by simp⟩, hst'.stp, hst'.hsub, ?_⟩
    rintro k ⟨r, hr, _⟩
    cases hr
  have h3 := hst.frame (Γc := []) (by simp) hst2
  have h4 := (show JXO P N m C ops rest Q ((d, v) :: E) Γ (H' ++ G) from by have := h v H' hpost; unfold AppJ at this; exact this) (a.put (some d) v) w' (he.put d hd v) (by simpa using h3)
  rw [m.up_put] at h4
  exact h4
theorem JXO.tail [hn : NPL Q] {l : List Oper} (h : JO P N C ops l (QU m Q) E Γ H) (hd : l.all noDefer = true := by rfl) : JXO P N m C ops l Q E Γ H := fun a w he hs => by
  have h1 := h hn.np.QU a w he hs
  have h2 : wpList P ops (Exit.then (fun a w => QU m Q .normal a w) (QU m Q)) l a w := by
    have : Exit.then (fun a w => QU m Q .normal a w) (QU m Q) = QU m Q := by funext e a w; cases e <;> rfl
    rw [this]; exact h1
  have h3 := wpListIn_of (n := 0) (ops := ops) (l2 := []) hn.nl (fun a w h => wpListIn_nil h) l hd a w h2
  rwa [List.append_nil] at h3
end
/-! ### The ends -/
instance NPL.body {P : Program} {fn : Func} {Γ H : RL} {post : Value → RL → RL → Prop} {w : World} : NPL (bodyPost P fn (SpecPost Γ H post w)) :=
  ⟨fun c a w' h => (by obtain ⟨_, v, _, _, he, _⟩ := h; cases he), fun a w' h => (by obtain ⟨v, _, _, he, _⟩ := h; cases he)⟩
/-- The end of a function in which a range over a function stands. -/
def endM (P : Program) (fn : Func) (R : Ending → World → Prop) : Exit → Act → World → Prop
  | .normal, a, w | .ret, a, w => LeavesInM (FW none) 0 P fn a.tmps R a.defers .returning w
  | _, _, _ => False
instance NPL.endM {P : Program} {fn : Func} {R : Ending → World → Prop} : NPL (endM P fn R) := ⟨fun _ _ _ h => h, fun _ _ h => h⟩
/-- From the walk to the function's contract. -/
theorem Spec.of_argsX {P : Program} {f : FuncId} {fn : Func} {c : Code} {args : List Value} {Γ H : RL} {post : Value → RL → RL → Prop} {N : Nat}
    (hf : P.funcs[f]? = some fn) (hb : fn.body = some c) (hN : fn.ntmps = N) (hle : args.length ≤ N)
    (h : ∀ w, JX P N ⟨none, []⟩ ⟨w, Γ, H⟩ c (bodyPost P fn (SpecPost Γ H post w)) (argEnv 0 args) Γ H) : Spec P f args.toArray Γ H post := by
  intro w hw
  refine callsFW.1 (callsIn_of_wp (F := FW none) (n := 0) hf hb trivial ?_ rfl)
  have hu : ∀ a : Act, (⟨none, []⟩ : Md).up a = a := fun a => by simp [Md.up]
  have h1 := h w { tmps := args.toArray ++ Array.replicate (fn.ntmps - args.toArray.size) undef, defers := [] } w ⟨rfl, by simp [hN]; omega, fun t v ht => by
    have h2 := (argEnv_lk args 0 t v ht).2
    have hlt : t < args.length := by simpa using (List.getElem?_eq_some_iff.1 h2).1
    simp [Array.getElem?_append_left, hlt]
    simpa [hlt] using h2⟩ (St.begin hw)
  rw [hu] at h1
  exact h1
theorem Spec.of_argsM {P : Program} {f : FuncId} {fn : Func} {c : Code} {args : List Value} {Γ H : RL} {post : Value → RL → RL → Prop} {N : Nat}
    (hf : P.funcs[f]? = some fn) (hb : fn.body = some c) (hN : fn.ntmps = N) (hle : args.length ≤ N)
    (h : ∀ w, JX P N ⟨none, []⟩ ⟨w, Γ, H⟩ c (endM P fn (SpecPost Γ H post w)) (argEnv 0 args) Γ H) : Spec P f args.toArray Γ H post := by
  intro w hw
  refine callsFW.1 (callsIn_of_wp_marks (F := FW none) (n := 0) hf hb trivial ?_ rfl)
  have hu : ∀ a : Act, (⟨none, []⟩ : Md).up a = a := fun a => by simp [Md.up]
  have h1 := h w { tmps := args.toArray ++ Array.replicate (fn.ntmps - args.toArray.size) undef, defers := [] } w ⟨rfl, by simp [hN]; omega, fun t v ht => by
    have h2 := (argEnv_lk args 0 t v ht).2
    have hlt : t < args.length := by simpa using (List.getElem?_eq_some_iff.1 h2).1
    simp [Array.getElem?_append_left, hlt]
    simpa [hlt] using h2⟩ (St.begin hw)
  rw [hu] at h1
  refine wpIn_mono h1 ?_
  intro e a' w' hq
  cases e with
  | normal => exact hq
  | ret => exact hq
  | _ => exact hq.elim
section
variable {P : Program} {N : Nat} {m : Md} {C : Beg} {Q : Exit → Act → World → Prop} {E : Env} {Γ H : RL}
/-- The end, behind such a loop. -/
theorem JQ.xdn {fn : Func} {post : Value → RL → RL → Prop} {w : World} {Γ0 H0 : RL} {e : Exit} {D : Nat} {G : RL} (hD : Pull (Res.ob D (.deferred (some []))) H G) (Γ' H' : RL) {v : Value} {G2 : RL} (hr : ∀ a w', EnvOk N E a → St ⟨w, Γ0, H0⟩ Γ G w' → (results fn a.tmps).run P w' = .ok v w') (hp : post v Γ' H')
    (he : e = .normal ∨ e = .ret := by first | exact .inl rfl | exact .inr rfl) (hg : Subs Γ' Γ := by (repeat (first | exact Subs.nil _ | apply Subs.cons | exact List.Mem.head _ | refine List.Mem.tail _ ?_)); first | done | fail) (hH : Picks H' G G2 := by (repeat (first | exact Picks.nil _ | apply Picks.cons | exact Pull.here _ _ | apply Pull.there)); first | done | fail) :
    JQ N ⟨w, Γ0, H0⟩ e (QU ⟨none, [{ target := .collected D, args := #[] }]⟩ (endM P fn (SpecPost Γ0 H0 post w))) E Γ H := by
  intro _ a w' hea hst
  have hs1 := hst.perm hD.perm
  have hk := Res.ob_ok.1 (hs1.sat.hok _ (.head _))
  have hs2 := hs1.putOb (o' := .deferred none)
  have hs3 : St ⟨w, Γ0, H0⟩ Γ G (w'.putObj D (.deferred none)) := (hs2.perm (show (Res.ob D (.deferred none) :: G).Perm (G ++ [Res.ob D (.deferred none)]) from (List.perm_append_singleton _ _).symm)).weak fun _ h => h
  have hx : endM P fn (SpecPost Γ0 H0 post w) .ret ((⟨none, [{ target := .collected D, args := #[] }]⟩ : Md).up a) w' := by
    show LeavesInM (FW none) 0 P fn a.tmps _ (a.defers ++ [{ target := .collected D, args := #[] }]) .returning w'
    rw [hea.nd, List.nil_append]
    exact ⟨by simp, .inl ⟨D, _, rfl, run_takeDeferred hk, ⟨v, hr a _ hea hs3, v, Γ', H', rfl, hp, (hs3.perm hH.perm).weak hg.sub⟩⟩⟩
  rcases he with rfl | rfl
  · exact hx
  · exact hx
instance NPL.never : NPL (fun _ _ _ => False) := ⟨fun _ _ _ h => h, fun _ _ h => h⟩
/-! ### The statement -/
/-- The record of a range over a function. -/
abbrev lrec (fn : FuncId) (T : Array Value) (ps : Array Tmp) (assign body : Code) (D : Nat) (s : LoopState) : Obj := .loop { state := s, pending := none, fn, tmps := T, params := ps, assign, body, defers := D }
/-- What begins a round's body. -/
def RdK (P : Program) (body : Code) (Q : Exit → Act → World → Prop) (l : Nat) : Act → World → Prop := fun a w => ∃ w2, (Instr.beginRound l).run P w = .ok () w2 ∧ body.wpIn (FW (some l)) 0 P Q a w2
theorem JQ.rk {body : Code} {l D : Nat} {fn : FuncId} {T : Array Value} {ps : Array Tmp} {as_ bd : Code} {G : RL} {Q' : Exit → Act → World → Prop} (h : JX P N ⟨some l, []⟩ C body Q E Γ (Res.ob l (lrec fn T ps as_ bd D .busy) :: G))
    (hL : Pull (Res.ob l (lrec fn T ps as_ bd D .ready)) H G := by (repeat (first | exact Pull.here _ _ | apply Pull.there)); first | done | fail) : JQ N C .normal (QU ⟨some l, []⟩ (Exit.then (RdK P body Q l) Q')) E Γ H := fun _ a w he hs => by
  have hs1 := hs.perm hL.perm
  have hl := Res.ob_ok.1 (hs1.sat.hok _ (.head _))
  exact ⟨_, run_beginRound hl rfl, h a _ he hs1.putOb⟩
/-- A round ends. -/
theorem JQ.re {l D : Nat} {fn : FuncId} {T : Array Value} {ps : Array Tmp} {as_ bd : Code} {w : World} {Γ0 H0 G G2 : RL} {post : Value → RL → RL → Prop} (H' : RL) (hp : post (.bool true) [] H')
    (hL : Pull (Res.ob l (lrec fn T ps as_ bd D .busy)) H G := by (repeat (first | exact Pull.here _ _ | apply Pull.there)); first | done | fail)
    (hH : ∀ w', St ⟨w, Γ0, H0⟩ Γ (Res.ob l (lrec fn T ps as_ bd D .ready) :: G) w' → St ⟨w, Γ0, H0⟩ [] H' w') : JQ N ⟨w, Γ0, H0⟩ .normal (QU ⟨some l, []⟩ (roundPost P l (SpecPost Γ0 H0 post w))) E Γ H := fun _ a w' he hs => by
  have hs1 := hs.perm hL.perm
  have hl := Res.ob_ok.1 (hs1.sat.hok _ (.head _))
  exact ⟨_, _, run_endRound none hl, _, [], H', rfl, hp, hH _ hs1.putOb⟩
/-- What the caller holds between two rounds, in one. -/
def rfR (fn : FuncId) (T : Array Value) (ps : Array Tmp) (assign body : Code) (l D : Nat) (I : RL) : Res := .sep (Res.ob l (lrec fn T ps assign body D .ready) :: Res.ob D (.deferred (some [])) :: I)
theorem JQ.rend {l D : Nat} {fn : FuncId} {T : Array Value} {ps : Array Tmp} {as_ bd : Code} {w : World} {Γ0 H0 G G1 G2 : RL} {I : RL → Prop} (L' : RL) (hI : I L')
    (hL : Pull (Res.ob l (lrec fn T ps as_ bd D .busy)) H G := by (repeat (first | exact Pull.here _ _ | apply Pull.there)); first | done | fail) (hD : Pull (Res.ob D (.deferred (some []))) G G1 := by (repeat (first | exact Pull.here _ _ | apply Pull.there)); first | done | fail)
    (hH : Picks L' G1 G2 := by (repeat (first | exact Picks.nil _ | apply Picks.cons | exact Pull.here _ _ | apply Pull.there)); first | done | fail) : JQ N ⟨w, Γ0, H0⟩ .normal (QU ⟨some l, []⟩ (roundPost P l (SpecPost Γ0 H0 (fun b Γ' H' => b = .bool true ∧ Γ' = [] ∧ ∃ r', (∃ L', I L' ∧ r' = rfR fn T ps as_ bd l D L') ∧ H' = [r']) w))) E Γ H := fun a he =>
  JQ.re (Γ := Γ) (H := H) (E := E) (G := G) (G2 := []) [rfR fn T ps as_ bd l D L'] ⟨rfl, rfl, _, ⟨L', hI, rfl⟩, rfl⟩ hL (fun w' hs => by
    have h1 : (Res.ob l (lrec fn T ps as_ bd D .ready) :: G).Perm ((Res.ob l (lrec fn T ps as_ bd D .ready) :: Res.ob D (.deferred (some [])) :: L') ++ G2) := List.Perm.cons _ (hD.perm.trans (List.Perm.cons _ hH.perm))
    have h2 : St ⟨w, Γ0, H0⟩ Γ (Res.sep (Res.ob l (lrec fn T ps as_ bd D .ready) :: Res.ob D (.deferred (some [])) :: L') :: G2) w' := St.sep.2 (hs.perm h1)
    have h3 : St ⟨w, Γ0, H0⟩ Γ ([rfR fn T ps as_ bd l D L'] ++ G2) w' := h2
    exact h3.weak (by simp)) a he
theorem lk_zip {tmps : Array Value} {N : Nat} : ∀ (ps : List Tmp) (vs : List Value), tmps.size = N → (∀ p ∈ ps, p < N) → ps.Nodup → ∀ t v, lk (ps.zip vs) t = some v → ((ps.zip vs).foldl (fun t (p, v) => t.setIfInBounds p v) tmps).getD t undef = v
  | [], _, _, _, _, _, _, h => by cases h
  | p :: ps, [], _, _, _, _, _, h => by cases h
  | p :: ps, v :: vs, hN, hlt, hnd, t, u, h => by
    rw [List.nodup_cons] at hnd
    simp only [List.zip_cons_cons, List.foldl_cons]
    simp only [List.zip_cons_cons, lk] at h
    have keep : ∀ (l : List (Tmp × Value)) (T : Array Value), t ∉ l.map (·.1) → (l.foldl (fun t (p, v) => t.setIfInBounds p v) T).getD t undef = T.getD t undef := fun l => by
      induction l with
      | nil => intro T _; rfl
      | cons a l ih =>
        intro T hT
        simp only [List.map_cons, List.mem_cons, not_or] at hT
        rw [List.foldl_cons, ih _ hT.2]
        simp only [Array.getD_eq_getD_getElem?]
        rw [Array.getElem?_setIfInBounds_ne (Ne.symm hT.1)]
    split at h
    · rename_i e
      subst e
      obtain rfl := Option.some.inj h
      rw [keep _ _ (fun hm => by
        obtain ⟨x, hx, rfl⟩ := List.mem_map.1 hm
        exact hnd.1 (List.of_mem_zip hx).1)]
      have : p < tmps.size := by rw [hN]; exact hlt p (.head _)
      simp [this]
    · exact lk_zip ps vs (by simpa using hN) (fun q hq => hlt q (.tail _ hq)) hnd.2 t u h
theorem keep_zip {tmps : Array Value} {t : Nat} : ∀ (l : List (Tmp × Value)) (T : Array Value), t ∉ l.map (·.1) → (l.foldl (fun t (p, v) => t.setIfInBounds p v) T).getD t undef = T.getD t undef := fun l => by
  induction l with
  | nil => intro T _; rfl
  | cons a l ih =>
    intro T hT
    simp only [List.map_cons, List.mem_cons, not_or] at hT
    rw [List.foldl_cons, ih _ hT.2]
    simp only [Array.getD_eq_getD_getElem?]
    rw [Array.getElem?_setIfInBounds_ne (Ne.symm hT.1)]
theorem size_zip : ∀ (l : List (Tmp × Value)) (T : Array Value), (l.foldl (fun t (p, v) => t.setIfInBounds p v) T).size = T.size
  | [], _ => rfl
  | a :: l, T => by rw [List.foldl_cons, size_zip l]; simp
theorem lk_none {l : List (Tmp × Value)} {t : Nat} (h : lk l t = none) : t ∉ l.map (·.1) := by
  induction l with
  | nil => simp
  | cons a l ih =>
    simp only [lk] at h
    split at h
    · cases h
    · rename_i hne
      simp only [List.map_cons, List.mem_cons, not_or]
      exact ⟨fun e => hne e.symm, ih h⟩
/-- yield's arguments, laid in a round's slots. -/
theorem EnvOk.round {a : Act} {ps : Array Tmp} {vs : List Value} (he : EnvOk N E a) (hlt : ∀ p ∈ ps.toList, p < N) (hnd : ps.toList.Nodup) : EnvOk N (ps.toList.zip vs ++ E) { tmps := (ps.zip vs.toArray).foldl (fun t (p, v) => t.setIfInBounds p v) a.tmps, defers := [] } := by
  have e : (ps.zip vs.toArray).foldl (fun t (p, v) => t.setIfInBounds p v) a.tmps = (ps.toList.zip vs).foldl (fun t (p, v) => t.setIfInBounds p v) a.tmps := by
    rw [← Array.foldl_toList, Array.toList_zip]
  refine ⟨rfl, ?_, fun t v ht => ?_⟩
  · rw [e, size_zip]; exact he.sz
  · rw [e]
    rw [lk_append] at ht
    cases h : lk (ps.toList.zip vs) t with
    | some u =>
      rw [h] at ht
      obtain rfl := Option.some.inj ht
      exact lk_zip _ _ he.sz hlt hnd t _ h
    | none =>
      rw [h] at ht
      rw [keep_zip (tmps := a.tmps) _ _ (lk_none h)]
      exact he.val t v ht
end
end Go.Proofs.YthfipbjmpeegbaaGreatDoor

/- Pieces of bytes in the memory: given to all, taken, read off others. No program in sight. -/
namespace Go.Proofs.YthfipbjmpeegbaaGreatDoor
open Go.RowKit
set_option linter.unusedVariables false
set_option linter.unusedSimpArgs false
def rowsP (A : Pcs) (e : TypeId) : RL := A.map fun x => Res.row x.1 x.2.length e 1 (x.2.map u8)
def bytesP (A : Pcs) : List B8 := A.map Prod.snd
theorem St.frzP {C : Beg} {Γ H : RL} {A : Pcs} {e : TypeId} {w : World} (h : St C Γ (Res.sep (rowsP A e) :: H) w) : St C (Res.all (pcRes A) :: Γ) H w := by
  refine (h.conv (s := Res.all (pcRes A)) ?_ ?_).freeze
  · rintro k ⟨r, hr, hk⟩
    obtain ⟨x, hx, rfl⟩ := List.mem_map.1 hr
    exact ⟨_, List.mem_map.2 ⟨x, hx, rfl⟩, Res.row_fp.2 (Res.rd_fp.1 hk).2⟩
  · intro hok r hr
    obtain ⟨x, hx, rfl⟩ := List.mem_map.1 hr
    exact Res.rd_ok.2 (row_rd (by decide) (Res.row_ok.1 (hok.1 _ (List.mem_map.2 ⟨x, hx, rfl⟩))))
theorem JO.frzP {P : Program} {N : Nat} {C : Beg} {ops : Array Oper} {l : List Oper} {Q : Exit → Act → World → Prop} {E : Env} {Γ H G : RL} {A : Pcs} {e : TypeId} (hp : Pull (Res.sep (rowsP A e)) H G) (h : JO P N C ops l Q E (Res.all (pcRes A) :: Γ) G) : JO P N C ops l Q E Γ H :=
  fun hn a w he hs => h hn a w he (St.frzP (hs.perm hp.perm))
theorem JC.frzP {P : Program} {N : Nat} {C : Beg} {c : Code} {Q : Exit → Act → World → Prop} {E : Env} {Γ H G : RL} {A : Pcs} {e : TypeId} (hp : Pull (Res.sep (rowsP A e)) H G) (h : JC P N C c Q E (Res.all (pcRes A) :: Γ) G) : JC P N C c Q E Γ H :=
  fun hn a w he hs => h hn a w he (St.frzP (hs.perm hp.perm))
/-- What a callee reads may be read off what is there. -/
theorem Spec.from {P : Program} {f : FuncId} {args : Array Value} {Γ Γ2 H : RL} {post : Value → RL → RL → Prop} (h : Spec P f args Γ H post) (hf : ∀ r ∈ Γ, ∀ k, r.fp k → ∃ s ∈ Γ2, s.fp k) (ho : ∀ w, (∀ s ∈ Γ2, s.ok w) → ∀ r ∈ Γ, r.ok w) : Spec P f args Γ2 H post := by
  intro w hs
  have h1 : Sat Γ H w := by
    refine ⟨ho w hs.gok, ?_, hs.hok, hs.hlt, hs.hdj, ?_⟩
    · intro r hr k hk
      obtain ⟨s, hs', hk'⟩ := hf r hr k hk
      exact hs.glt s hs' k hk'
    · intro r hr s hs' k hk hk'
      obtain ⟨q, hq, hk2⟩ := hf r hr k hk
      exact hs.ghd q hq s hs' k hk2 hk'
  refine Calls.mono (h w h1) ?_
  rintro e w' ⟨v, Γ', H', rfl, hp, hst⟩
  refine ⟨v, Γ', H', rfl, hp, ⟨hst.sat, hst.stp, hst.hsub, ?_⟩⟩
  intro k hk
  rcases hst.gsub k hk with ⟨r, hr, hk2⟩ | h2
  · obtain ⟨s, hs', hk3⟩ := hf r hr k hk2
    exact .inl ⟨s, hs', hk3⟩
  · exact .inr h2
theorem JR.open {P : Program} {N : Nat} {C : Beg} {ops : Array Oper} {Q : Exit → Act → World → Prop} {E : Env} {Γ H : RL} {T M U : Nat → Bool} {Γ0 H0 : RL} {l : OT} {G : RL} {r : Res} (hm : Res.all G ∈ Γ) (hr : r ∈ G) (k : JR P N C ops T M U Γ0 H0 l Q E (r :: Γ) H) : JR P N C ops T M U Γ0 H0 l Q E Γ H := fun hq a w he hs => k hq a w he (hs.open hm hr)
theorem snoc_row {v w : Value} {A : Pcs} {b : B8} {e : TypeId} : Res.row v (A.length + 1) e 1 (A.map Prod.fst ++ [w]) = Res.row v (A ++ [(w, b)]).length e 1 ((A ++ [(w, b)]).map Prod.fst) := by simp
theorem one_u8s {b : B8} : ∀ a ∈ b.map u8, a.oneCell' = true := fun a ha => by obtain ⟨x, _, rfl⟩ := List.mem_map.1 ha; rfl
theorem take_snocP {l : Pcs} {k : Nat} (h : k < l.length) : bytesP (l.take (k + 1)) = bytesP (l.take k) ++ [(pcAt l k).2] := by
  have : l.take (k + 1) = l.take k ++ [pcAt l k] := by
    rw [List.take_add_one, pcAt, List.getD_eq_getElem?_getD, List.getElem?_eq_getElem h]; rfl
  rw [this, bytesP, List.map_append]; rfl
theorem pcAt_of {a b : Pcs} (h : bytesP a = bytesP b) {k : Nat} : (pcAt a k).2 = (pcAt b k).2 := by
  have := congrArg (fun l : List B8 => l.getD k []) h
  simp only [bytesP, List.getD_eq_getElem?_getD, List.getElem?_map] at this
  simp only [pcAt, List.getD_eq_getElem?_getD]
  cases h1 : a[k]? <;> cases h2 : b[k]? <;> simp_all
theorem bytesP_len (l : Pcs) : (bytesP l).length = l.length := List.length_map ..
theorem pcs_one {A : Pcs} {w : World} (h : (Res.all (pcRes A)).ok w) : ∀ a ∈ A.map Prod.fst, a.oneCell' = true := fun a ha => by
  obtain ⟨x, hx, rfl⟩ := List.mem_map.1 ha
  obtain ⟨B, c, e, _⟩ := Res.rd_ok.1 (h _ (List.mem_map.2 ⟨x, hx, rfl⟩))
  rw [e]; rfl
theorem bytesP_get {l : Pcs} {k : Nat} (h : k < l.length) : (bytesP l).take (k + 1) = (bytesP l).take k ++ [(pcAt l k).2] := by
  have := take_snocP h
  simpa [bytesP, List.map_take] using this
theorem rd_preP {v : Value} {l : Pcs} {n : Nat} (h : n ≤ l.length) : Res.rd v (n - 0) 1 (((l.map Prod.fst).drop (0 * 1)).take ((n - 0) * 1)) = Res.rd v (l.take n).length 1 ((l.take n).map Prod.fst) := by
  rw [Nat.sub_zero, Nat.zero_mul, List.drop_zero, Nat.mul_one, List.length_take, Nat.min_eq_left h, List.map_take]
end Go.Proofs.YthfipbjmpeegbaaGreatDoor

/- Lists of numbers, and pieces of bytes, as_ they come in. -/
namespace Go.Proofs.YthfipbjmpeegbaaGreatDoor
open Go.ChangeShapes Go.WideShapes Go.ChangeAt Go.RowKit
set_option maxRecDepth 100000
variable {H : Type} {enc : TypeId × Value → H} {w : World}
theorem came_ws {v : Value} (h : Came enc Tryz.prog w 22 [v]) : ∃ l : List W64, Rds w [Res.rd v l.length 1 (l.map u64)] := by
  obtain ⟨n, xs, h1, h2⟩ := h.slice (size := 1) Tryz.underlying22 (by kernel_rfl) (by decide)
  obtain ⟨l, rfl, rfl, _⟩ := pieces (f := fun x => [u64 x]) (p := fun _ => True) (s := 1) (by decide) n xs (by obtain ⟨_, _, _, hl, _⟩ := h1; exact hl) (fun i hi => by
    obtain ⟨x, hx⟩ := (h2 i hi).u64 Tryz.underlying30
    exact ⟨x, hx, trivial⟩)
  rw [map_flat] at h1
  exact ⟨l, Rds.one h1⟩
theorem came_pcs {v : Value} (h : Came enc Tryz.prog w 35 [v]) : ∃ l : Pcs, Rds w [Res.rd v l.length 1 (l.map Prod.fst), Res.all (pcRes l)] := by
  obtain ⟨n, xs, h1, h2⟩ := h.slice (size := 1) Tryz.underlying35 (by kernel_rfl) (by decide)
  have hlen : xs.length = n * 1 := by obtain ⟨_, _, _, hl, _⟩ := h1; exact hl
  obtain ⟨l, rfl, rfl, h3⟩ := pieces (f := fun x : Value × B8 => [x.1]) (p := fun x => Rds w [Res.rd x.1 x.2.length 1 (x.2.map u8)]) (s := 1) (by decide) n xs hlen (fun i hi => by
    have hc := h2 i hi
    have hl : ((xs.drop (i * 1)).take 1).length = 1 := by rw [List.length_take, List.length_drop]; omega
    generalize (xs.drop (i * 1)).take 1 = cs at hc hl
    match cs, hl with
    | [c], _ =>
      obtain ⟨b, hb⟩ := hc.bytes Tryz.underlying23 (by kernel_rfl) Tryz.underlying5
      exact ⟨(c, b), rfl, Rds.one hb⟩)
  rw [map_flat] at h1
  refine ⟨l, (Rds.one h1).append (Rds.all fun r hr => ?_)⟩
  obtain ⟨d, hd, rfl⟩ := List.mem_map.1 hr
  exact h3 d hd _ (.head _)
end Go.Proofs.YthfipbjmpeegbaaGreatDoor
