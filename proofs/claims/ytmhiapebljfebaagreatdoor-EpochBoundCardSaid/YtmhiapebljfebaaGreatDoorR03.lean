/- Texts of ours, gathered: K1 K2 K3 K4 K6 K8 G11 CW L2 L3 M1 M2 M3 M4. -/
import Derived.Laws.IdiomStrings
import Derived.MapKept
import Derived.Maps.RangeRun
import Derived.RangeFuncNested
import Derived.RangeFuncLeaves
import Derived.OrdersIn
import Derived.Sort.LoopGhostIn
import Derived.Test.YtmhiapebljfebaaGreatDoorRows
import Derived.Test.YtmhiapebljfebaaGreatDoorR02
set_option linter.unusedVariables false
set_option linter.unusedSimpArgs false
set_option maxRecDepth 100000
/- The calculus in short forms: what a rule needs besides is found by itself. No program in sight. -/
namespace Go.Proofs.YtmhiapebljfebaaGreatDoor
open Go.RowKit
inductive App : RL → RL → RL → Prop
 | nil (l : RL) : App [] l l
 | cons (r : Res) (a l m : RL) : App a l m → App (r :: a) l (r :: m)
theorem App.eq {a l m : RL} (h : App a l m) : a ++ l = m := by
 induction h with
 | nil => rfl
 | cons r a l m _ ih => rw [List.cons_append, ih]
inductive KeepE : List Nat → Env → Env → Prop
 | nil (E : Env) : KeepE [] E []
 | cons {t : Nat} {v : Value} {ts : List Nat} {E E' : Env} : lk E t = some v → KeepE ts E E' → KeepE (t :: ts) E ((t, v) :: E')
 | skip {t : Nat} {ts : List Nat} {E E' : Env} : KeepE ts E E' → KeepE (t :: ts) E E'
theorem KeepE.sub {ks : List Nat} {E E' : Env} (h : KeepE ks E E') : Sub E' E := by
 induction h with
 | nil => trivial
 | cons h1 _ ih => exact ⟨h1, ih⟩
 | skip _ ih => exact ih
theorem lk_append (A B : Env) (t : Nat) : lk (A ++ B) t = (lk A t).or (lk B t) := by
 induction A with
 | nil => rfl
 | cons p A ih =>
  obtain ⟨s, v⟩ := p
  simp only [List.cons_append, lk]
  split
  ·rfl
  ·exact ih
theorem EnvOk.app {N : Nat} {A B : Env} {a : Act} (h1 : EnvOk N A a) (h2 : EnvOk N B a) : EnvOk N (A ++ B) a :=
 ⟨h1.nd, h1.sz, fun t v ht => by
  rw [lk_append] at ht
  cases h : lk A t with
  | none => rw [h] at ht; exact h2.val t v ht
  | some u => rw [h] at ht; exact h1.val t v (h.trans ht)⟩
class NB (b : Bool) (p q : outParam Prop) : Prop where
 t : b = true → p
 f : b = false → q
instance (priority := low) NB.self (b : Bool) : NB b (b = true) (b = false) := ⟨id, id⟩
instance NB.dec (p : Prop) [Decidable p] : NB (decide p) p (¬ p) := ⟨of_decide_eq_true, of_decide_eq_false⟩
instance (priority := high) NB.decNot (p : Prop) [h : Decidable (¬ p)] : NB (@decide (¬ p) h) (¬ p) p :=
 ⟨fun h => of_decide_eq_true h, fun h => Classical.byContradiction fun hn => absurd hn (of_decide_eq_false h)⟩
instance NB.not (b : Bool) (p q : Prop) [h : NB b p q] : NB (!b) q p := ⟨fun e => h.f (by simpa using e), fun e => h.t (by simpa using e)⟩

section
variable {P : Program} {N : Nat} {C : Beg} {Q : Exit → Act → World → Prop} {E : Env} {Γ H : RL} {ty : TypeId} {ops : Array Oper} {rest : List Oper}
theorem JO.w {d : Nat} {pos : String} {aft : Array Edge} {op : Op} {v : Value} (hv : Yv P N C E Γ H op ty v) (h : JO P N C ops rest Q ((d, v) :: E) Γ H) (hd : d < N := by decide) : JO P N C ops (⟨some d, op, ty, pos, aft, none⟩ :: rest) Q E Γ H := .v hv hd h
theorem Yv.asI {op : Op} {a : Int} (b : Int) (h : Yv P N C E Γ H op ty (it a)) (e : a = b := by first | omega | (simp; omega)) : Yv P N C E Γ H op ty (it b) := .as h (congrArg it e)
theorem Yv.asB {op : Op} {a : Bool} (p : Prop) [Decidable p] (h : Yv P N C E Γ H op ty (.bool a)) (e : a = decide p := by exact decide_eq_decide.2 (by omega)) : Yv P N C E Γ H op ty (.bool (decide p)) := .as h (congrArg Value.bool e)
theorem Yv.asF {op : Op} {a : Bool} (h : Yv P N C E Γ H op ty (.bool a)) (e : a = false := by first | rfl | decide | exact decide_eq_false (by first | omega | assumption)) : Yv P N C E Γ H op ty (.bool false) := .as h (congrArg Value.bool e)
def KM (Γ H : RL) (a : Addr) (xs : List Value) (j : Nat) : Prop := ∀ u, xs[j]? = some u → Kn Γ H a u
theorem KM.own {b j : Nat} {cs : List Value} {T : TypeId} (hm : Res.cells b cs T ∈ H) : KM Γ H ⟨b, j, none⟩ cs j := fun _ h => Kn.own hm h
theorem KM.ro {b j : Nat} {cs : List Value} {T : TypeId} (hm : Res.cells b cs T ∈ Γ) : KM Γ H ⟨b, j, none⟩ cs j := fun _ h => Kn.ro hm h
theorem KM.row {v : Value} {n j : Nat} {e : TypeId} {size : Nat} {xs : List Value} (hm : Res.row v n e size xs ∈ H) : KM Γ H ⟨blk v, j, none⟩ xs j := fun _ h => Kn.row hm h
theorem KM.rd {v : Value} {n size j : Nat} {xs : List Value} (hm : Lend (Res.rd v n size xs) (H ++ Γ)) : KM Γ H ⟨blk v, off v + j, none⟩ xs j := fun _ h => Kn.rd hm h
theorem KM.rd2 {v : Value} {n size i j : Nat} {xs : List Value} (hm : Lend (Res.rd v n size xs) (H ++ Γ)) : KM Γ H ⟨blk v, off v + i + j, none⟩ xs (i + j) := fun _ h => Kn.rd2 hm h
theorem KM.var {b j : Nat} {cs : List Value} (hm : Res.var b cs ∈ Γ) : KM Γ H ⟨b, j, none⟩ cs j := fun _ h => Kn.var hm h
theorem Yv.ld {T : TypeId} {x : Operand} {b q j : Nat} {xs : List Value} {v : Value} (h1 : One P T) (hx : ev E x = some (ptr b q)) (hk : KM Γ H ⟨b, q, none⟩ xs j := by first | exact KM.own (by (repeat (first | exact List.Mem.head _ | refine List.Mem.tail _ ?_)); first | done | fail) | exact KM.ro (by (repeat (first | exact List.Mem.head _ | refine List.Mem.tail _ ?_)); first | done | fail) | exact KM.row (by (repeat (first | exact List.Mem.head _ | refine List.Mem.tail _ ?_)); first | done | fail) | exact KM.rd (by (repeat (first | exact Lend.same _ _ | exact Lend.row _ _ _ _ _ _ (by decide) | apply Lend.there)); first | done | fail) | exact KM.rd2 (by (repeat (first | exact Lend.same _ _ | exact Lend.row _ _ _ _ _ _ (by decide) | apply Lend.there)); first | done | fail) | exact KM.var (by (repeat (first | exact List.Mem.head _ | refine List.Mem.tail _ ?_)); first | done | fail)) (hj : xs[j]? = some v := by first | rfl | exact tab_get (by first | omega | (simp; omega)) | exact gm (d := 0) (by first | omega | (simp; omega)) | fail) : Yv P N C E Γ H (.load T x) ty v := .load1 h1 hx (hk v hj)
def AM (Γ H : RL) (b q n : Nat) (cs : List Value) : Prop := cs.length = n ∧ ∀ i v, cs[i]? = some v → Kn Γ H ⟨b, q + i, none⟩ v
theorem AM.own {b n : Nat} {cs : List Value} {T : TypeId} (hm : Res.cells b cs T ∈ H) (hl : cs.length = n) : AM Γ H b 0 n cs := ⟨hl, fun i v hv => by rw [Nat.zero_add]; exact Kn.own hm hv⟩
theorem AM.var {b n : Nat} {cs : List Value} (hm : Res.var b cs ∈ Γ) (hl : cs.length = n) : AM Γ H b 0 n cs := ⟨hl, fun i v hv => by rw [Nat.zero_add]; exact Kn.var hm hv⟩
theorem AM.roW {b n : Nat} {cs : List Value} {T : TypeId} (hm : Res.cells b cs T ∈ Γ) (hl : cs.length = n) : AM Γ H b 0 n cs := ⟨hl, fun i v hv => by rw [Nat.zero_add]; exact Kn.ro hm hv⟩
theorem AM.ownAt {b q n : Nat} {cs : List Value} {T : TypeId} (hm : Res.cells b cs T ∈ H) (hl : q + n ≤ cs.length) : AM Γ H b q n ((cs.drop q).take n) := ⟨by simp; omega, fun _ _ hv => Kn.own hm (getElem?_piece hv)⟩
theorem AM.ro {b q n : Nat} {cs : List Value} {T : TypeId} (hm : Res.cells b cs T ∈ Γ) (hl : q + n ≤ cs.length) : AM Γ H b q n ((cs.drop q).take n) := ⟨by simp; omega, fun _ _ hv => Kn.ro hm (getElem?_piece hv)⟩
theorem AM.row {u : Value} {m q n size : Nat} {e : TypeId} {xs : List Value} (hm : Res.row u m e size xs ∈ H) (hl : q + n ≤ xs.length) : AM Γ H (blk u) q n ((xs.drop q).take n) := ⟨by simp; omega, fun _ _ hv => Kn.row hm (getElem?_piece hv)⟩
theorem AM.rd {u : Value} {m j n size : Nat} {xs : List Value} (hm : Lend (Res.rd u m size xs) (H ++ Γ)) (hl : j + n ≤ xs.length) : AM Γ H (blk u) (off u + j) n ((xs.drop j).take n) := ⟨by simp; omega, fun _ _ hv => by rw [Nat.add_assoc]; exact Kn.rd hm (getElem?_piece hv)⟩
theorem AM.rd2 {u : Value} {m i j n size : Nat} {xs : List Value} (hm : Lend (Res.rd u m size xs) (H ++ Γ)) (hl : i + j + n ≤ xs.length) : AM Γ H (blk u) (off u + i + j) n ((xs.drop (i + j)).take n) := by rw [Nat.add_assoc]; exact AM.rd hm hl
theorem Yv.lda {T n b q : Nat} {x : Operand} {cs : List Value} (hA : Agg P T n) (hx : ev E x = some (ptr b q)) (hm : AM Γ H b q n cs := by first | exact AM.own (by (repeat (first | exact List.Mem.head _ | refine List.Mem.tail _ ?_)); first | done | fail) (by first | rfl | (simp; done) | (simp; omega) | (simp [*]; done) | fail) | exact AM.roW (by (repeat (first | exact List.Mem.head _ | refine List.Mem.tail _ ?_)); first | done | fail) (by first | rfl | (simp; done) | (simp; omega) | (simp [*]; done) | fail) | exact AM.ownAt (by (repeat (first | exact List.Mem.head _ | refine List.Mem.tail _ ?_)); first | done | fail) (by first | (simp; done) | omega | (simp; omega) | (simp [*]; done) | (simp [*]; omega) | fail) | exact AM.row (by (repeat (first | exact List.Mem.head _ | refine List.Mem.tail _ ?_)); first | done | fail) (by first | (simp; done) | omega | (simp; omega) | (simp [*]; done) | (simp [*]; omega) | fail) | exact AM.rd (by (repeat (first | exact Lend.same _ _ | exact Lend.row _ _ _ _ _ _ (by decide) | apply Lend.there)); first | done | fail) (by first | (simp; done) | omega | (simp; omega) | (simp [*]; done) | (simp [*]; omega) | fail) | exact AM.rd2 (by (repeat (first | exact Lend.same _ _ | exact Lend.row _ _ _ _ _ _ (by decide) | apply Lend.there)); first | done | fail) (by first | (simp; done) | omega | (simp; omega) | (simp [*]; done) | (simp [*]; omega) | fail) | exact AM.ro (by (repeat (first | exact List.Mem.head _ | refine List.Mem.tail _ ?_)); first | done | fail) (by first | (simp; done) | omega | (simp; omega) | (simp [*]; done) | (simp [*]; omega) | fail) | exact AM.var (by (repeat (first | exact List.Mem.head _ | refine List.Mem.tail _ ?_)); first | done | fail) (by first | rfl | (simp; done) | (simp; omega) | (simp [*]; done) | fail)) : Yv P N C E Γ H (.load T x) ty (.agg cs.toArray) := .loadA hA hx hm.1 hm.2
def LM (Γ H : RL) (v : Value) (n : Nat) : Prop := ∀ w, Sat Γ H w → ∃ A c, v = .slice A n c
theorem LM.sl {A : Option Addr} {n c : Nat} : LM Γ H (.slice A n c) n := fun _ _ => ⟨_, _, rfl⟩
theorem LM.rd {v : Value} {n size : Nat} {xs : List Value} (hm : Lend (Res.rd v n size xs) (H ++ Γ)) : LM Γ H v n := fun w hs => by
 obtain ⟨A, c, h, _⟩ := hs.rd hm
 exact ⟨A, c, h⟩
theorem Yv.len {x : Operand} {T e : TypeId} {v : Value} {n : Nat} (hT : P.underlying T = some (.slice e)) (hx : ev E x = some v) (hn : LM Γ H v n := by first | exact LM.sl | exact LM.rd (by (repeat (first | exact Lend.same _ _ | exact Lend.row _ _ _ _ _ _ (by decide) | apply Lend.there)); first | done | fail)) : Yv P N C E Γ H (.call { callee := .builtin .len, args := #[x], argTypes := #[T] }) ty (it (n : Int)) := by
 intro dst pos aft gd a w he hs
 obtain ⟨A, c, rfl⟩ := hn w hs.sat
 exact Yv.len_s hT hx dst pos aft gd a w he hs
def XM (P : Program) (Γ H : RL) (e : TypeId) (v : Value) (j q : Nat) : Prop := ∀ (N : Nat) (C : Beg) (E : Env) (ty T : TypeId) (x ix : Operand) (k : IntKind), P.underlying T = some (.slice e) → ev E x = some v → ev E ix = some (.int k (j : Int)) → Yv P N C E Γ H (.indexAddr T x ix) ty (ptr (blk v) q)
theorem XM.row {e : TypeId} {v : Value} {n size j : Nat} {xs : List Value} (hs : (P.info? e).map (·.size) = some size) (hm : Res.row v n e size xs ∈ H) (hj : j < n) : XM P Γ H e v j (j * size) := fun _ _ _ _ _ _ _ _ hT hx hi => .indexRow hT hs hx hi hm hj
theorem XM.row1 {e : TypeId} {v : Value} {n j : Nat} {xs : List Value} (hs : (P.info? e).map (·.size) = some 1) (hm : Res.row v n e 1 xs ∈ H) (hj : j < n) : XM P Γ H e v j j := fun _ _ _ _ _ _ _ _ hT hx hi => .indexRow1 hT hs hx hi hm hj
theorem XM.rd {e : TypeId} {v : Value} {n size j : Nat} {xs : List Value} (hs : (P.info? e).map (·.size) = some size) (hm : Lend (Res.rd v n size xs) (H ++ Γ)) (h0 : 0 < size) (hj : j < n) : XM P Γ H e v j (off v + j * size) := fun _ _ _ _ _ _ _ _ hT hx hi => .indexRd hT hs hx hi hm h0 hj
theorem XM.rd1 {e : TypeId} {v : Value} {n j : Nat} {xs : List Value} (hs : (P.info? e).map (·.size) = some 1) (hm : Lend (Res.rd v n 1 xs) (H ++ Γ)) (hj : j < n) : XM P Γ H e v j (off v + j) := fun _ _ _ _ _ _ _ _ hT hx hi => .indexRd1 hT hs hx hi hm hj
theorem Yv.ix {T e j q size : Nat} {x ix : Operand} {v : Value} {k : IntKind} (hT : P.underlying T = some (.slice e)) (hs : (P.info? e).map (·.size) = some size) (hx : ev E x = some v) (hi : ev E ix = some (.int k (j : Int))) (hm : (P.info? e).map (·.size) = some size → XM P Γ H e v j q := by intro hs; first | exact XM.row hs (by (repeat (first | exact List.Mem.head _ | refine List.Mem.tail _ ?_)); first | done | fail) (by first | exact ltb rfl | (simp; done) | (simp; omega) | omega | (simp [*]; omega) | fail) | exact XM.rd hs (by (repeat (first | exact Lend.same _ _ | exact Lend.row _ _ _ _ _ _ (by decide) | apply Lend.there)); first | done | fail) (by decide) (by first | exact ltb rfl | (simp; done) | (simp; omega) | omega | (simp [*]; omega) | fail)) : Yv P N C E Γ H (.indexAddr T x ix) ty (ptr (blk v) q) := hm hs _ _ _ _ _ _ _ _ hT hx hi
theorem Yv.ix1 {T e j q : Nat} {x ix : Operand} {v : Value} {k : IntKind} (hT : P.underlying T = some (.slice e)) (hs : (P.info? e).map (·.size) = some 1) (hx : ev E x = some v) (hi : ev E ix = some (.int k (j : Int))) (hm : (P.info? e).map (·.size) = some 1 → XM P Γ H e v j q := by intro hs; first | exact XM.row1 hs (by (repeat (first | exact List.Mem.head _ | refine List.Mem.tail _ ?_)); first | done | fail) (by first | exact ltb rfl | (simp; done) | (simp; omega) | omega | (simp [*]; omega) | fail) | exact XM.rd1 hs (by (repeat (first | exact Lend.same _ _ | exact Lend.row _ _ _ _ _ _ (by decide) | apply Lend.there)); first | done | fail) (by first | exact ltb rfl | (simp; done) | (simp; omega) | omega | (simp [*]; omega) | fail)) : Yv P N C E Γ H (.indexAddr T x ix) ty (ptr (blk v) q) := hm hs _ _ _ _ _ _ _ _ hT hx hi
def YM (n b q j q' : Nat) : Prop := j < n ∧ q' = q + j
theorem Yv.ixA {T e n b q j q' : Nat} {x ix : Operand} {k : IntKind} (hT : P.underlying T = some (.array n e)) (hs : (P.info? e).map (·.size) = some 1) (hx : ev E x = some (ptr b q)) (hi : ev E ix = some (.int k (j : Int))) (hm : YM n b q j q' := by first | exact ⟨by first | exact ltb rfl | (simp; done) | (simp; omega) | omega | (simp [*]; omega) | fail, (Nat.zero_add _).symm⟩ | exact ⟨by first | exact ltb rfl | (simp; done) | (simp; omega) | omega | (simp [*]; omega) | fail, rfl⟩) : Yv P N C E Γ H (.indexAddr T x ix) ty (ptr b q') := by
 obtain ⟨h1, rfl⟩ := hm
 exact .indexArr1o hT hs hx hi h1
theorem JO.al {d : Nat} {pos : String} {aft : Array Edge} {T : TypeId} {z : Value} {zs : List Value} (hz : (P.info? T).map (·.zero) = some (some z)) (h : ∀ b, JO P N C ops rest Q ((d, ptr b 0) :: E) Γ (Res.cells b zs T :: H)) (hzs : z.cells.toList = zs := by rfl) (hd : d < N := by decide) : JO P N C ops (⟨some d, .alloc T, ty, pos, aft, none⟩ :: rest) Q E Γ H := .alloc zs hz hzs hd h
theorem JO.bx {d : Nat} {pos : String} {aft : Array Edge} {T : TypeId} {x : Operand} {v : Value} {vs : List Value} (h : ∀ b, JO P N C ops rest Q ((d, ptr b 0) :: E) Γ (Res.cells b vs T :: H)) (hx : ev E x = some v := by rfl) (hvs : v.cells.toList = vs := by rfl) (hd : d < N := by decide) : JO P N C ops (⟨some d, .box T x, ty, pos, aft, none⟩ :: rest) Q E Γ H := .box hx vs hvs hd h
theorem JO.s1 {pos : String} {aft : Array Edge} {T : TypeId} {x y : Operand} {b o : Nat} {v : Value} {cs : List Value} {T' : TypeId} {H' : RL} (hT : (P.info? T).map (·.size) = some 1) (h : JO P N C ops rest Q E Γ H') (hx : ev E x = some (ptr b o) := by rfl) (hy : ev E y = some v := by rfl) (h1 : v.oneCell' = true := by rfl) (hu : Upd H (Res.cells b cs T') (Res.cells b (cs.set o v) T') H' := by (repeat (first | exact Upd.here _ _ _ | apply Upd.there)); first | done | fail) (hl : o < cs.length := by first | exact ltb rfl | (simp; done) | (simp; omega) | omega | (simp [*]; omega) | fail) : JO P N C ops (⟨none, .store T x y, ty, pos, aft, none⟩ :: rest) Q E Γ H := .store1 hT hx hy h1 hu hl h
theorem JO.s1s {pos : String} {aft : Array Edge} {T : TypeId} {x y : Operand} {b o : Nat} {v : Value} {cs : List Value} {T' : TypeId} {H' : RL} {n size : Nat} {xs : List Value} (hT : (P.info? T).map (·.size) = some 1) (h : JO P N C ops rest Q E Γ H') (hx : ev E x = some (ptr b o) := by rfl) (hy : ev E y = some v := by rfl) (hm : Lend (Res.rd v n size xs) (H ++ Γ) := by (repeat (first | exact Lend.same _ _ | exact Lend.row _ _ _ _ _ _ (by decide) | apply Lend.there)); first | done | fail) (hu : Upd H (Res.cells b cs T') (Res.cells b (cs.set o v) T') H' := by (repeat (first | exact Upd.here _ _ _ | apply Upd.there)); first | done | fail) (hl : o < cs.length := by first | exact ltb rfl | (simp; done) | (simp; omega) | omega | (simp [*]; omega) | fail) : JO P N C ops (⟨none, .store T x y, ty, pos, aft, none⟩ :: rest) Q E Γ H := .store1s hT hx hy hm hu hl h
theorem JO.sr1 {pos : String} {aft : Array Edge} {T : TypeId} {x y : Operand} {v u : Value} {o n : Nat} {e : TypeId} {xs : List Value} {H' : RL} (hT : (P.info? T).map (·.size) = some 1) (h : JO P N C ops rest Q E Γ H') (hx : ev E x = some (ptr (blk v) o) := by rfl) (hy : ev E y = some u := by rfl) (h1 : u.oneCell' = true := by rfl) (hp : Upd H (Res.row v n e 1 xs) (Res.row v n e 1 (xs.set o u)) H' := by (repeat (first | exact Upd.here _ _ _ | apply Upd.there)); first | done | fail) (hl : o < n := by first | exact ltb rfl | (simp; done) | (simp; omega) | omega | (simp [*]; omega) | fail) (hlen : xs.length = n := by first | rfl | (simp; done) | omega | (simp; omega)) : JO P N C ops (⟨none, .store T x y, ty, pos, aft, none⟩ :: rest) Q E Γ H := .storeRow1 hT hx hy h1 hp hl hlen h
theorem JO.sa {pos : String} {aft : Array Edge} {T n : Nat} {x y : Operand} {b : Nat} {v : Value} {vs cs : List Value} {T' : TypeId} {H' : RL} (hT : (P.info? T).map (·.size) = some n) (h : JO P N C ops rest Q E Γ H') (hx : ev E x = some (ptr b 0) := by rfl) (hy : ev E y = some v := by rfl) (hv : v.cells = vs.toArray := by rfl) (hm : vs.length = n := by first | rfl | (simp; done) | (simp; omega) | (simp [*]; done) | fail) (h1 : ∀ a ∈ vs, a.oneCell' = true := by first | (simp; done) | exact one_sing rfl | exact one_map (fun _ => rfl) | exact one_piece (one_map (fun _ => rfl)) | exact one_tab (fun _ => rfl) | exact one_tab (fun _ => by split <;> rfl) | fail) (hu : Upd H (Res.cells b cs T') (Res.cells b vs T') H' := by (repeat (first | exact Upd.here _ _ _ | apply Upd.there)); first | done | fail) (hl : cs.length = n := by first | rfl | (simp; done) | (simp; omega) | (simp [*]; done) | fail) : JO P N C ops (⟨none, .store T x y, ty, pos, aft, none⟩ :: rest) Q E Γ H := .storeAll hT hx hy hv hm h1 hu hl h
theorem JO.so {pos : String} {aft : Array Edge} {T n : Nat} {x y : Operand} {b o : Nat} {v : Value} {vs cs : List Value} {T' : TypeId} {H' : RL} (hT : (P.info? T).map (·.size) = some n) (h : JO P N C ops rest Q E Γ H') (hx : ev E x = some (ptr b o) := by rfl) (hy : ev E y = some v := by rfl) (hv : v.cells = vs.toArray := by rfl) (hm : vs.length = n := by first | rfl | (simp; done) | (simp; omega) | (simp [*]; done) | fail) (h1 : ∀ a ∈ vs, a.oneCell' = true := by first | (simp; done) | exact one_sing rfl | exact one_map (fun _ => rfl) | exact one_piece (one_map (fun _ => rfl)) | exact one_tab (fun _ => rfl) | exact one_tab (fun _ => by split <;> rfl) | fail) (hu : Upd H (Res.cells b cs T') (Res.cells b (splice cs o vs) T') H' := by (repeat (first | exact Upd.here _ _ _ | apply Upd.there)); first | done | fail) (hl : o + n ≤ cs.length := by first | (simp; done) | omega | (simp; omega) | fail) : JO P N C ops (⟨none, .store T x y, ty, pos, aft, none⟩ :: rest) Q E Γ H := .store hT hx hy hv hm h1 hu hl h
theorem JO.ap {d : Nat} {pos : String} {aft : Array Edge} {t e : TypeId} {z : Value} {size bytes : Nat} {x y : Operand} {v u : Value} {n m : Nat} {xs news : List Value} {G : RL} (ht : P.underlying t = some (.slice e)) (hinfo : (P.info? e).map (fun i => (i.zero, i.size, i.bytes)) = some (some z, size, bytes)) (h : ∀ v', JO P N C ops rest Q ((d, v') :: E) Γ (Res.row v' (n + m) e size (xs ++ news) :: G)) (hz : z.cells.size = size := by rfl) (h0 : 0 < size := by decide) (hx : ev E x = some v := by rfl) (hy : ev E y = some u := by rfl) (hp : Pull (Res.row v n e size xs) H G := by (repeat (first | exact Pull.here _ _ | apply Pull.there)); first | done | fail) (hsrc : Src Γ H size u m news := by first | exact Src.nil | exact Src.rd (by (repeat (first | exact Lend.same _ _ | exact Lend.row _ _ _ _ _ _ (by decide) | apply Lend.there)); first | done | fail) (by decide) | exact Src.cells (by (repeat (first | exact List.Mem.head _ | refine List.Mem.tail _ ?_)); first | done | fail) (by simp)) (hone : ∀ a ∈ news, a.oneCell' = true := by first | (simp; done) | exact one_sing rfl | exact one_map (fun _ => rfl) | exact one_piece (one_map (fun _ => rfl)) | exact one_tab (fun _ => rfl) | exact one_tab (fun _ => by split <;> rfl) | fail) (hnm : n + m ≤ maxLen := by unfold maxLen; omega) (hb : (n + m) * bytes ≤ 140737488355328 := by omega) (hd : d < N := by decide) : JO P N C ops (⟨some d, .call { callee := .builtin .append, args := #[x, y], argTypes := #[t, t] }, ty, pos, aft, none⟩ :: rest) Q E Γ H := .append ht hinfo hz h0 hx hy hp hsrc hone hnm hb hd h
theorem JO.l1 {d : Nat} {pos : String} {aft : Array Edge} {t e : TypeId} {len : Nat} {parts : List (Nat × Operand)} {vs : List Value} {z : Value} {bytes : Nat} (hu : P.underlying t = some (.slice e)) (hinfo : (P.info? e).map (fun i => (i.zero, i.size, i.bytes)) = some (some z, 1, bytes)) (h : ∀ v, JO P N C ops rest Q ((d, v) :: E) Γ (Res.row v len e 1 vs :: H)) (hidx : parts.map (·.1) = List.range len := by rfl) (hp : evs E (parts.map (·.2)) = some vs := by rfl) (h1 : ∀ v ∈ vs, v.oneCell' = true := by simp) (hsmall : len ≤ 2 ^ 24 := by decide) (hpos : 0 < len := by decide) (hd : d < N := by decide) : JO P N C ops (⟨some d, .buildSlice t len parts.toArray, ty, pos, aft, none⟩ :: rest) Q E Γ H := .lit1 hu hinfo hidx hp h1 hsmall hpos hd h
theorem JO.ls {d : Nat} {pos : String} {aft : Array Edge} {t e : TypeId} {len : Nat} {parts : List (Nat × Operand)} {vs : List Value} {z : Value} {size bytes : Nat} (hu : P.underlying t = some (.slice e)) (hinfo : (P.info? e).map (fun i => (i.zero, i.size, i.bytes)) = some (some z, size, bytes)) (h : ∀ v, JO P N C ops rest Q ((d, v) :: E) Γ (Res.row v len e size (vs.flatMap fun v => v.cells.toList) :: H)) (hidx : parts.map (·.1) = List.range len := by rfl) (hp : evs E (parts.map (·.2)) = some vs := by rfl) (hsz : ∀ v ∈ vs, v.cells.size = size := by simp) (hsmall : len * size ≤ 2 ^ 24 := by decide) (hpos : 0 < len * size := by decide) (hm : len ≤ maxLen := by unfold maxLen; omega) (hd : d < N := by decide) : JO P N C ops (⟨some d, .buildSlice t len parts.toArray, ty, pos, aft, none⟩ :: rest) Q E Γ H := .lit hu hinfo hidx hp hsz hsmall hpos hm hd h
theorem JO.le {d : Nat} {pos : String} {aft : Array Edge} {t e : TypeId} {size : Nat} (hu : P.underlying t = some (.slice e)) (hs : (P.info? e).map (·.size) = some size) (h : ∀ v, JO P N C ops rest Q ((d, v) :: E) Γ (Res.row v 0 e size [] :: H)) (hd : d < N := by decide) : JO P N C ops (⟨some d, .buildSlice t 0 #[], ty, pos, aft, none⟩ :: rest) Q E Γ H := .buildEmpty hu hs hd h
theorem JO.ct {d : Nat} {pos : String} {aft : Array Edge} {T e : TypeId} {x : Operand} {lo hi : Option Operand} {v : Value} {n size : Nat} (l h : Nat) {xs : List Value} (hT : P.underlying T = some (.slice e)) (hsz : (P.info? e).map (·.size) = some size) (hk : ∀ v', JO P N C ops rest Q ((d, v') :: E) (Res.rd v' (h - l) size ((xs.drop (l * size)).take ((h - l) * size)) :: Γ) H) (hx : ev E x = some v := by rfl) (hm : Res.rd v n size xs ∈ Γ := by (repeat (first | exact List.Mem.head _ | refine List.Mem.tail _ ?_)); first | done | fail) (hlo : Bd E lo 0 l := by first | rfl | exact ⟨_, rfl⟩) (hhi : Bd E hi n h := by first | rfl | exact ⟨_, rfl⟩) (hlh : l ≤ h := by first | (simp; done) | omega | (simp; omega) | fail) (hn : h ≤ n := by first | (simp; done) | omega | (simp; omega) | fail) (hd : d < N := by decide) : JO P N C ops (⟨some d, .slice T x lo hi none, ty, pos, aft, none⟩ :: rest) Q E Γ H := .cut l h hT hsz hx hm hlo hhi hlh hn hd hk
theorem JO.cf {d : Nat} {pos : String} {aft : Array Edge} {T e : TypeId} {x : Operand} {lo hi : Option Operand} {v : Value} {n size : Nat} (l h : Nat) {xs : List Value} {G : RL} (hT : P.underlying T = some (.slice e)) (hsz : (P.info? e).map (·.size) = some size) (hk : ∀ v', JO P N C ops rest Q ((d, v') :: E) (Res.rd v' (h - l) size ((xs.drop (l * size)).take ((h - l) * size)) :: Res.rd v n size xs :: Γ) G) (hx : ev E x = some v := by rfl) (hp : Pull (Res.row v n e size xs) H G := by (repeat (first | exact Pull.here _ _ | apply Pull.there)); first | done | fail) (h0 : 0 < size := by decide) (hlo : Bd E lo 0 l := by first | rfl | exact ⟨_, rfl⟩) (hhi : Bd E hi n h := by first | rfl | exact ⟨_, rfl⟩) (hlh : l ≤ h := by first | (simp; done) | omega | (simp; omega) | fail) (hn : h ≤ n := by first | (simp; done) | omega | (simp; omega) | fail) (hd : d < N := by decide) : JO P N C ops (⟨some d, .slice T x lo hi none, ty, pos, aft, none⟩ :: rest) Q E Γ H := .cutFr l h hT hsz hx hp h0 hlo hhi hlh hn hd hk
theorem JO.c {d : Nat} {pos : String} {aft : Array Edge} {f : FuncId} {xs : List Operand} {vs : List Value} {AT : Array TypeId} {Γc Hc G : RL} {v : Value} {H1 H2 : RL} (hc : Spec P f vs.toArray Γc Hc (fun r Γ' H' => r = v ∧ Γ' = [] ∧ H' = H1)) (hb : Body P f) (h : JO P N C ops rest Q ((d, v) :: E) Γ H2) (hx : evs E xs = some vs := by rfl) (hp : Picks Hc H G := by (repeat (first | exact Picks.nil _ | apply Picks.cons | exact Pull.here _ _ | apply Pull.there)); first | done | fail) (hg : Lends Γc (G ++ Γ) := by (repeat (first | exact Lends.nil _ | apply Lends.cons | exact Lend.same _ _ | exact Lend.row _ _ _ _ _ _ (by decide) | apply Lend.there)); first | done | fail) (ha : App H1 G H2 := by (repeat (first | exact App.nil _ | apply App.cons)); first | done | fail) (hd : d < N := by decide) : JO P N C ops (⟨some d, .call { callee := .value (.func f), args := xs.toArray, argTypes := AT }, ty, pos, aft, none⟩ :: rest) Q E Γ H :=
 .callB hc hb hx hp hg (fun _ _ _ h => h.2.1) hd fun v' H' ⟨H1', ⟨e1, _, e3⟩, e2⟩ => by subst e1 e3 e2; rw [ha.eq]; exact h
theorem JO.c0 {pos : String} {aft : Array Edge} {f : FuncId} {xs : List Operand} {vs : List Value} {AT : Array TypeId} {Γc Hc G : RL} {v : Value} {H1 H2 : RL} (hc : Spec P f vs.toArray Γc Hc (fun r Γ' H' => r = v ∧ Γ' = [] ∧ H' = H1)) (hb : Body P f) (h : JO P N C ops rest Q E Γ H2) (hx : evs E xs = some vs := by rfl) (hp : Picks Hc H G := by (repeat (first | exact Picks.nil _ | apply Picks.cons | exact Pull.here _ _ | apply Pull.there)); first | done | fail) (hg : Lends Γc (G ++ Γ) := by (repeat (first | exact Lends.nil _ | apply Lends.cons | exact Lend.same _ _ | exact Lend.row _ _ _ _ _ _ (by decide) | apply Lend.there)); first | done | fail) (ha : App H1 G H2 := by (repeat (first | exact App.nil _ | apply App.cons)); first | done | fail) : JO P N C ops (⟨none, .call { callee := .value (.func f), args := xs.toArray, argTypes := AT }, ty, pos, aft, none⟩ :: rest) Q E Γ H :=
 .callB0 hc hb hx hp hg (fun _ _ _ h => h.2.1) fun v' H' ⟨H1', ⟨e1, _, e3⟩, e2⟩ => by subst e1 e3 e2; rw [ha.eq]; exact h
def AppJ (H1 G : RL) (K : RL → Prop) : Prop := K (H1 ++ G)
theorem AppJ.ap {H1 G H2 : RL} {K : RL → Prop} (h : K H2) (ha : App H1 G H2 := by (repeat (first | exact App.nil _ | apply App.cons)); first | done | fail) : AppJ H1 G K := by unfold AppJ; rw [ha.eq]; exact h
theorem JO.cb {d : Nat} {pos : String} {aft : Array Edge} {f : FuncId} {xs : List Operand} {vs : List Value} {AT : Array TypeId} {Γc Hc G : RL} {post : Value → RL → RL → Prop} (hc : Spec P f vs.toArray Γc Hc post) (hb : Body P f) (h : ∀ v H1, post v [] H1 → AppJ H1 G (JO P N C ops rest Q ((d, v) :: E) Γ)) (hx : evs E xs = some vs := by rfl) (hp : Picks Hc H G := by (repeat (first | exact Picks.nil _ | apply Picks.cons | exact Pull.here _ _ | apply Pull.there)); first | done | fail) (hg : Lends Γc (G ++ Γ) := by (repeat (first | exact Lends.nil _ | apply Lends.cons | exact Lend.same _ _ | exact Lend.row _ _ _ _ _ _ (by decide) | apply Lend.there)); first | done | fail) (h0 : ∀ v Γ1 H1, post v Γ1 H1 → Γ1 = [] := by rintro _ _ _ ⟨_, h, _⟩; exact h) (hd : d < N := by decide) : JO P N C ops (⟨some d, .call { callee := .value (.func f), args := xs.toArray, argTypes := AT }, ty, pos, aft, none⟩ :: rest) Q E Γ H := .callB hc hb hx hp hg h0 hd fun v H' ⟨H1, h1, h2⟩ => by subst h2; exact h v H1 h1
theorem JO.cs {d : Nat} {pos : String} {aft : Array Edge} {f : FuncId} {xs : List Operand} {vs : List Value} {AT : Array TypeId} {Γc Hc G : RL} {post : Value → RL → RL → Prop} (hc : Spec P f vs.toArray Γc Hc post) (hb : Body P f) (h : ∀ v Γ1 H1, post v Γ1 H1 → AppJ Γ1 Γ fun Γ2 => AppJ H1 G fun H2 => JO P N C ops rest Q ((d, v) :: E) Γ2 H2) (hx : evs E xs = some vs := by rfl) (hp : Picks Hc H G := by (repeat (first | exact Picks.nil _ | apply Picks.cons | exact Pull.here _ _ | apply Pull.there)); first | done | fail) (hg : Subs Γc Γ := by (repeat (first | exact Subs.nil _ | apply Subs.cons | exact List.Mem.head _ | refine List.Mem.tail _ ?_)); first | done | fail) (hd : d < N := by decide) : JO P N C ops (⟨some d, .call { callee := .value (.func f), args := xs.toArray, argTypes := AT }, ty, pos, aft, none⟩ :: rest) Q E Γ H := .call hc hb hx hp hg hd fun v Γ' H' ⟨Γ1, H1, h1, h2, h3⟩ => by subst h2 h3; exact h v Γ1 H1 h1
theorem JO.cs0 {pos : String} {aft : Array Edge} {f : FuncId} {xs : List Operand} {vs : List Value} {AT : Array TypeId} {Γc Hc G : RL} {post : Value → RL → RL → Prop} (hc : Spec P f vs.toArray Γc Hc post) (hb : Body P f) (h : ∀ v Γ1 H1, post v Γ1 H1 → AppJ Γ1 Γ fun Γ2 => AppJ H1 G fun H2 => JO P N C ops rest Q E Γ2 H2) (hx : evs E xs = some vs := by rfl) (hp : Picks Hc H G := by (repeat (first | exact Picks.nil _ | apply Picks.cons | exact Pull.here _ _ | apply Pull.there)); first | done | fail) (hg : Subs Γc Γ := by (repeat (first | exact Subs.nil _ | apply Subs.cons | exact List.Mem.head _ | refine List.Mem.tail _ ?_)); first | done | fail) : JO P N C ops (⟨none, .call { callee := .value (.func f), args := xs.toArray, argTypes := AT }, ty, pos, aft, none⟩ :: rest) Q E Γ H := .call0 hc hb hx hp hg fun v Γ' H' ⟨Γ1, H1, h1, h2, h3⟩ => by subst h2 h3; exact h v Γ1 H1 h1
theorem JC.cn {c : Operand} {x y : Code} {t : Bool} {p q : Prop} [hn : NB t p q] (hc : ev E c = some (.bool t)) (ht : p → JC P N C x Q E Γ H) (hf : q → JC P N C y Q E Γ H) : JC P N C (.cond c x y) Q E Γ H := .cond hc (fun h => ht (hn.t h)) (fun h => hf (hn.f h))
theorem JC.ct {c : Operand} {x y : Code} (hc : ev E c = some (.bool true)) (ht : JC P N C x Q E Γ H) : JC P N C (.cond c x y) Q E Γ H := .cond hc (fun _ => ht) (fun h => by cases h)
theorem JC.cf {c : Operand} {x y : Code} (hc : ev E c = some (.bool false)) (hf : JC P N C y Q E Γ H) : JC P N C (.cond c x y) Q E Γ H := .cond hc (fun h => by cases h) (fun _ => hf)
theorem JO.gn {g : Nat} {b : Bool} {l : List Oper} {p q : Prop} [hn : NB b p q] (hg : lk E g = some (.bool b)) (ht : b = true → p → JO P N C ops l Q E Γ H) (hf : b = false → q → JO P N C ops l Q E Γ H) : JO P N C ops l Q E Γ H := .gsplit hg (fun h => ht h (hn.t h)) (fun h => hf h (hn.f h))
theorem JC.lp {ι : Type} {c : Code} (pr : ι → Prop) (IE : Env → ι → Env) (IΓ IH : RL → ι → RL) (μ : ι → Nat) (x0 : ι) (keep : List Nat) {E' : Env} {G : RL} (h0 : pr x0)
  (round : ∀ x, pr x → JC P N C c (Exit.then (Head N C (IE E') (IΓ Γ) (IH G) (fun y => pr y ∧ μ y < μ x)) Q) (IE E' x) (IΓ Γ x) (IH G x))
  (hk : KeepE keep E E' := by (repeat (first | exact KeepE.nil _ | (apply KeepE.cons; rfl) | apply KeepE.skip)); first | done | fail) (hE : Sub (IE [] x0) E := by (repeat (first | exact trivial | (refine ⟨?_, ?_⟩; focus (first | rfl | (simp; done) | fail)))); first | done | fail) (hH : Picks (IH [] x0) H G := by (repeat (first | exact Picks.nil _ | apply Picks.cons | exact Pull.here _ _ | apply Pull.there)); first | done | fail) (hg : Subs (IΓ [] x0) Γ := by (repeat (first | exact Subs.nil _ | apply Subs.cons | exact List.Mem.head _ | refine List.Mem.tail _ ?_)); first | done | fail)
  (e1 : ∀ T x, IE T x = IE [] x ++ T := by exact fun _ _ => rfl) (e2 : ∀ T x, IH T x = IH [] x ++ T := by exact fun _ _ => rfl) (e3 : ∀ T x, IΓ T x = IΓ [] x ++ T := by exact fun _ _ => rfl) : JC P N C (.loop c) Q E Γ H := by
 intro hn a w he hs
 refine wp_loop_ghost (fun n a w => ∃ x, pr x ∧ μ x = n ∧ EnvOk N (IE E' x) a ∧ St C (IΓ Γ x) (IH G x) w) (μ x0) ⟨x0, h0, rfl, ?_, ?_⟩ ?_
 ·rw [e1]; exact (he.sub hE).app (he.sub hk.sub)
 ·rw [e2, e3]
  have h1 : St C Γ (IH [] x0 ++ G) w := hs.perm hH.perm
  exact (h1.perm (show (IH [] x0 ++ G).Perm ((IH [] x0 ++ G) ++ []) by rw [List.append_nil])).weak fun r hr => (List.mem_append.1 hr).elim (hg.sub r) id
 rintro n a w ⟨x, hx, rfl, hea, hst⟩
 refine Code.wp_mono ?_ (round x hx hn.then a w hea hst)
 intro e a' w' h
 cases e with
 | normal =>
  obtain ⟨y, ⟨hy0, hy⟩, hea', hst'⟩ := h
  exact ⟨μ y, hy, y, hy0, rfl, hea', hst'⟩
 | _ => exact h
theorem JC.mt {ι : Type} {x y : Code} (pr : ι → Prop) (IE : Env → ι → Env) (IΓ IH : RL → ι → RL) (keep : List Nat) (take : RL) {E' : Env} {G : RL}
  (hx : JC P N C x (Exit.then (Head N C (IE E') (IΓ Γ) (IH G) pr) Q) E Γ H) (hy : ∀ i, pr i → JC P N C y Q (IE E' i) (IΓ Γ i) (IH G i))
  (hk : KeepE keep E E' := by (repeat (first | exact KeepE.nil _ | (apply KeepE.cons; rfl) | apply KeepE.skip)); first | done | fail) (hH : Picks take H G := by (repeat (first | exact Picks.nil _ | apply Picks.cons | exact Pull.here _ _ | apply Pull.there)); first | done | fail) : JC P N C (.seq x y) Q E Γ H := .cut pr (IE E') (IΓ Γ) (IH G) hx hy
theorem JQ.hd {ι : Type} {IE : ι → Env} {IΓ IH : ι → RL} {ok : ι → Prop} (y : ι) {G : RL} (hy : ok y) (hE : Sub (IE y) E := by (repeat (first | exact trivial | (refine ⟨?_, ?_⟩; focus (first | rfl | (simp; done) | fail)))); first | done | fail) (hg : Subs (IΓ y) Γ := by (repeat (first | exact Subs.nil _ | apply Subs.cons | exact List.Mem.head _ | refine List.Mem.tail _ ?_)); first | done | fail) (hH : Picks (IH y) H G := by (repeat (first | exact Picks.nil _ | apply Picks.cons | exact Pull.here _ _ | apply Pull.there)); first | done | fail) : JQ N C .normal (Exit.then (Head N C IE IΓ IH ok) Q) E Γ H := .head y hE hg.sub hH.perm hy
theorem JQ.dn {fn : Func} {post : Value → RL → RL → Prop} {w : World} {Γ0 H0 : RL} {e : Exit} (Γ' H' : RL) {v : Value} {G : RL} (hr : ∀ a w', EnvOk N E a → St ⟨w, Γ0, H0⟩ Γ H w' → (results fn a.tmps).run P w' = .ok v w') (hp : post v Γ' H')
  (he : e = .normal ∨ e = .ret := by first | exact .inl rfl | exact .inr rfl) (hg : Subs Γ' Γ := by (repeat (first | exact Subs.nil _ | apply Subs.cons | exact List.Mem.head _ | refine List.Mem.tail _ ?_)); first | done | fail) (hH : Picks H' H G := by (repeat (first | exact Picks.nil _ | apply Picks.cons | exact Pull.here _ _ | apply Pull.there)); first | done | fail) : JQ N ⟨w, Γ0, H0⟩ e (bodyPost P fn (SpecPost Γ0 H0 post w)) E Γ H := .done he hr hg.sub hH.perm hp
theorem JQ.tn {y : Code} (h : JC P N C y Q E Γ H) : JQ N C .normal (Exit.then (y.wp P Q) Q) E Γ H := .then_normal h
theorem RV.cl {t T n b : Nat} {cs : List Value} {T' : TypeId} (hA : Agg P T n) (ht : lk E t = some (ptr b 0) := by rfl) (hm : Res.cells b cs T' ∈ H := by (repeat (first | exact List.Mem.head _ | refine List.Mem.tail _ ?_)); first | done | fail) (hn : cs.length = n := by first | rfl | (simp; done) | (simp; omega) | (simp [*]; done) | fail) : RV P N C E Γ H (.cell t T) (.agg cs.toArray) := .cell hA hm ht hn
end
section
variable {P : Program} {N : Nat} {C : Beg} {Q : Exit → Act → World → Prop} {E : Env} {Γ H Γ0 H0 : RL} {ty : TypeId} {ops : Array Oper} {T M U : Nat → Bool} {l : OT}
theorem kp {i : Nat} {J : Prop} (h : J) (hs : (∀ r ∈ Γ0, r ∈ Γ) ∧ (T i = true ∨ ∀ w, St C Γ H w → St C Γ0 H0 w) := by exact ⟨Subs.sub (by (repeat (first | exact Subs.nil _ | apply Subs.cons | exact List.Mem.head _ | refine List.Mem.tail _ ?_)); first | done | fail), by first | exact .inl rfl | exact .inr (St.keep (by (repeat (first | exact Subs.nil _ | apply Subs.cons | exact List.Mem.head _ | refine List.Mem.tail _ ?_)); first | done | fail) (by (repeat (first | exact Picks.nil _ | apply Picks.cons | exact Pull.here _ _ | apply Pull.there)); first | done | fail))⟩) : ((∀ r ∈ Γ0, r ∈ Γ) ∧ (T i = true ∨ ∀ w, St C Γ H w → St C Γ0 H0 w)) ∧ J := ⟨hs, h⟩
theorem JR.w {i d : Nat} {op : Op} {pos : String} {aft : Array Edge} {v : Value} (ho : ops[i]? = some ⟨some d, op, ty, pos, aft, none⟩) (hv : Yv P N C E Γ0 H0 op ty v) (h : JR P N C ops T M U Γ0 H0 l Q ((d, v) :: E) Γ H) (hM : M i = false := by rfl) (hU : U i = false := by rfl) (hd : d < N := by decide) : JR P N C ops T M U Γ0 H0 (.one i l) Q E Γ H := .v ho hM hU hv hd h
theorem JR.uw {i d : Nat} {op : Op} {pos : String} {aft : Array Edge} {v : Value} (ho : ops[i]? = some ⟨some d, op, ty, pos, aft, none⟩) (hv : Yv P N C E Γ0 [] op ty v) (h : JR P N C ops T M U Γ0 H0 l Q ((d, v) :: E) Γ H) (hM : M i = false := by rfl) (hU : U i = true := by rfl) (hd : d < N := by decide) : JR P N C ops T M U Γ0 H0 (.one i l) Q E Γ H := .u ho hM hU hv hd h
theorem JR.mw {i d : Nat} {op : Op} {pos : String} {aft : Array Edge} {post : Value → RL → RL → Prop} (ho : ops[i]? = some ⟨some d, op, ty, pos, aft, none⟩) (hm : Mv P N C E Γ H op ty post) (h : ∀ v Γ' H', post v Γ' H' → ((∀ r ∈ Γ0, r ∈ Γ') ∧ (T i = true ∨ ∀ w, St C Γ' H' w → St C Γ0 H0 w)) ∧ JR P N C ops T M U Γ0 H0 l Q ((d, v) :: E) Γ' H') (hM : M i = true := by rfl) (hd : d < N := by decide) : JR P N C ops T M U Γ0 H0 (.one i l) Q E Γ H := .m ho hM hm hd h
theorem JR.mw0 {i : Nat} {op : Op} {pos : String} {aft : Array Edge} {post : Value → RL → RL → Prop} (ho : ops[i]? = some ⟨none, op, ty, pos, aft, none⟩) (hm : Mv P N C E Γ H op ty post) (h : ∀ v Γ' H', post v Γ' H' → ((∀ r ∈ Γ0, r ∈ Γ') ∧ (T i = true ∨ ∀ w, St C Γ' H' w → St C Γ0 H0 w)) ∧ JR P N C ops T M U Γ0 H0 l Q E Γ' H') (hM : M i = true := by rfl) : JR P N C ops T M U Γ0 H0 (.one i l) Q E Γ H := .m0 ho hM hm h
end
section
variable {P : Program} {N : Nat} {C : Beg} {E : Env} {Γ H : RL} {ty : TypeId}
theorem Mv.s1 {T : TypeId} {x y : Operand} {b o : Nat} {v : Value} {cs : List Value} {T' : TypeId} {H' : RL} (hT : (P.info? T).map (·.size) = some 1) (hx : ev E x = some (ptr b o) := by rfl) (hy : ev E y = some v := by rfl) (h1 : v.oneCell' = true := by rfl) (hu : Upd H (Res.cells b cs T') (Res.cells b (cs.set o v) T') H' := by (repeat (first | exact Upd.here _ _ _ | apply Upd.there)); first | done | fail) (hl : o < cs.length := by first | exact ltb rfl | (simp; done) | (simp; omega) | omega | (simp [*]; omega) | fail) : Mv P N C E Γ H (.store T x y) ty (fun _ Γ1 H1 => Γ1 = Γ ∧ H1 = H') := .store1 hT hx hy h1 hu hl
theorem Mv.s1s {T : TypeId} {x y : Operand} {b o : Nat} {v : Value} {cs : List Value} {T' : TypeId} {H' : RL} {n size : Nat} {xs : List Value} (hT : (P.info? T).map (·.size) = some 1) (hx : ev E x = some (ptr b o) := by rfl) (hy : ev E y = some v := by rfl) (hm : Lend (Res.rd v n size xs) (H ++ Γ) := by (repeat (first | exact Lend.same _ _ | exact Lend.row _ _ _ _ _ _ (by decide) | apply Lend.there)); first | done | fail) (hu : Upd H (Res.cells b cs T') (Res.cells b (cs.set o v) T') H' := by (repeat (first | exact Upd.here _ _ _ | apply Upd.there)); first | done | fail) (hl : o < cs.length := by first | exact ltb rfl | (simp; done) | (simp; omega) | omega | (simp [*]; omega) | fail) : Mv P N C E Γ H (.store T x y) ty (fun _ Γ1 H1 => Γ1 = Γ ∧ H1 = H') := .store1s hT hx hy hm hu hl
theorem Mv.sr1 {T : TypeId} {x y : Operand} {v u : Value} {o n : Nat} {e : TypeId} {xs : List Value} {H' : RL} (hT : (P.info? T).map (·.size) = some 1) (hx : ev E x = some (ptr (blk v) o) := by rfl) (hy : ev E y = some u := by rfl) (h1 : u.oneCell' = true := by rfl) (hp : Upd H (Res.row v n e 1 xs) (Res.row v n e 1 (xs.set o u)) H' := by (repeat (first | exact Upd.here _ _ _ | apply Upd.there)); first | done | fail) (hl : o < n := by first | exact ltb rfl | (simp; done) | (simp; omega) | omega | (simp [*]; omega) | fail) (hlen : xs.length = n := by first | rfl | (simp; done) | omega | (simp; omega)) : Mv P N C E Γ H (.store T x y) ty (fun _ Γ1 H1 => Γ1 = Γ ∧ H1 = H') := .storeRow1 hT hx hy h1 hp hl hlen
theorem Mv.sa {T n : Nat} {x y : Operand} {b : Nat} {v : Value} {vs cs : List Value} {T' : TypeId} {H' : RL} (hT : (P.info? T).map (·.size) = some n) (hx : ev E x = some (ptr b 0) := by rfl) (hy : ev E y = some v := by rfl) (hv : v.cells = vs.toArray := by rfl) (hm : vs.length = n := by first | rfl | (simp; done) | (simp; omega) | (simp [*]; done) | fail) (h1 : ∀ a ∈ vs, a.oneCell' = true := by first | (simp; done) | exact one_sing rfl | exact one_map (fun _ => rfl) | exact one_piece (one_map (fun _ => rfl)) | exact one_tab (fun _ => rfl) | exact one_tab (fun _ => by split <;> rfl) | fail) (hu : Upd H (Res.cells b cs T') (Res.cells b vs T') H' := by (repeat (first | exact Upd.here _ _ _ | apply Upd.there)); first | done | fail) (hl : cs.length = n := by first | rfl | (simp; done) | (simp; omega) | (simp [*]; done) | fail) : Mv P N C E Γ H (.store T x y) ty (fun _ Γ1 H1 => Γ1 = Γ ∧ H1 = H') := .storeAll hT hx hy hv hm h1 hu hl
theorem Mv.so {T n : Nat} {x y : Operand} {b o : Nat} {v : Value} {vs cs : List Value} {T' : TypeId} {H' : RL} (hT : (P.info? T).map (·.size) = some n) (hx : ev E x = some (ptr b o) := by rfl) (hy : ev E y = some v := by rfl) (hv : v.cells = vs.toArray := by rfl) (hm : vs.length = n := by first | rfl | (simp; done) | (simp; omega) | (simp [*]; done) | fail) (h1 : ∀ a ∈ vs, a.oneCell' = true := by first | (simp; done) | exact one_sing rfl | exact one_map (fun _ => rfl) | exact one_piece (one_map (fun _ => rfl)) | exact one_tab (fun _ => rfl) | exact one_tab (fun _ => by split <;> rfl) | fail) (hu : Upd H (Res.cells b cs T') (Res.cells b (splice cs o vs) T') H' := by (repeat (first | exact Upd.here _ _ _ | apply Upd.there)); first | done | fail) (hl : o + n ≤ cs.length := by first | (simp; done) | omega | (simp; omega) | fail) : Mv P N C E Γ H (.store T x y) ty (fun _ Γ1 H1 => Γ1 = Γ ∧ H1 = H') := .store hT hx hy hv hm h1 hu hl
theorem Mv.ap {t e : TypeId} {z : Value} {size bytes : Nat} {x y : Operand} {v u : Value} {n m : Nat} {xs news : List Value} {G : RL} (ht : P.underlying t = some (.slice e)) (hinfo : (P.info? e).map (fun i => (i.zero, i.size, i.bytes)) = some (some z, size, bytes)) (hz : z.cells.size = size := by rfl) (h0 : 0 < size := by decide) (hx : ev E x = some v := by rfl) (hy : ev E y = some u := by rfl) (hp : Pull (Res.row v n e size xs) H G := by (repeat (first | exact Pull.here _ _ | apply Pull.there)); first | done | fail) (hsrc : Src Γ H size u m news := by first | exact Src.nil | exact Src.rd (by (repeat (first | exact Lend.same _ _ | exact Lend.row _ _ _ _ _ _ (by decide) | apply Lend.there)); first | done | fail) (by decide) | exact Src.cells (by (repeat (first | exact List.Mem.head _ | refine List.Mem.tail _ ?_)); first | done | fail) (by simp)) (hone : ∀ a ∈ news, a.oneCell' = true := by first | (simp; done) | exact one_sing rfl | exact one_map (fun _ => rfl) | exact one_piece (one_map (fun _ => rfl)) | exact one_tab (fun _ => rfl) | exact one_tab (fun _ => by split <;> rfl) | fail) (hnm : n + m ≤ maxLen := by unfold maxLen; omega) (hb : (n + m) * bytes ≤ 140737488355328 := by omega) : Mv P N C E Γ H (.call { callee := .builtin .append, args := #[x, y], argTypes := #[t, t] }) ty (fun v' Γ' H' => Γ' = Γ ∧ H' = Res.row v' (n + m) e size (xs ++ news) :: G) := .append ht hinfo hz h0 hx hy hp hsrc hone hnm hb
theorem Mv.cb {f : FuncId} {xs : List Operand} {vs : List Value} {AT : Array TypeId} {Γc Hc G : RL} {post : Value → RL → RL → Prop} (hc : Spec P f vs.toArray Γc Hc post) (hb : Body P f) (hx : evs E xs = some vs := by rfl) (hp : Picks Hc H G := by (repeat (first | exact Picks.nil _ | apply Picks.cons | exact Pull.here _ _ | apply Pull.there)); first | done | fail) (hg : Lends Γc (G ++ Γ) := by (repeat (first | exact Lends.nil _ | apply Lends.cons | exact Lend.same _ _ | exact Lend.row _ _ _ _ _ _ (by decide) | apply Lend.there)); first | done | fail) (h0 : ∀ v Γ1 H1, post v Γ1 H1 → Γ1 = [] := by rintro _ _ _ ⟨_, h, _⟩; exact h) : Mv P N C E Γ H (.call { callee := .value (.func f), args := xs.toArray, argTypes := AT }) ty (fun v Γ' H' => ∃ H1, post v [] H1 ∧ Γ' = Γ ∧ H' = H1 ++ G) := .callB hb hx hc hp hg h0
theorem Mv.c {f : FuncId} {xs : List Operand} {vs : List Value} {AT : Array TypeId} {Γc Hc G : RL} {v : Value} {H1 H2 : RL} (hc : Spec P f vs.toArray Γc Hc (fun r Γ' H' => r = v ∧ Γ' = [] ∧ H' = H1)) (hb : Body P f) (hx : evs E xs = some vs := by rfl) (hp : Picks Hc H G := by (repeat (first | exact Picks.nil _ | apply Picks.cons | exact Pull.here _ _ | apply Pull.there)); first | done | fail) (hg : Lends Γc (G ++ Γ) := by (repeat (first | exact Lends.nil _ | apply Lends.cons | exact Lend.same _ _ | exact Lend.row _ _ _ _ _ _ (by decide) | apply Lend.there)); first | done | fail) (ha : App H1 G H2 := by (repeat (first | exact App.nil _ | apply App.cons)); first | done | fail) : Mv P N C E Γ H (.call { callee := .value (.func f), args := xs.toArray, argTypes := AT }) ty (fun r Γ' H' => r = v ∧ Γ' = Γ ∧ H' = H2) :=
 fun dst pos aft gd a w he hs K Q hK => Mv.callB hb hx hc hp hg (fun _ _ _ h => h.2.1) dst pos aft gd a w he hs K Q fun v' Γ' H' w' ⟨H1', ⟨e1, _, e3⟩, e4, e5⟩ hs' => hK v' Γ' H' w' ⟨e1, e4, by rw [e5, e3, ha.eq]⟩ hs'
end
set_option linter.unusedSectionVars false
def strOf (b : List (BitVec 8)) : ByteArray := ⟨(b.map UInt8.ofBitVec).toArray⟩
section
variable {P : Program} {N : Nat} {C : Beg} {Q : Exit → Act → World → Prop} {E : Env} {Γ H : RL} {ty : TypeId} {ops : Array Oper} {rest : List Oper}
end
structure MM (α β : Type) where
 es : List (α × β × Nat)
 ck : Nat
namespace MM
variable {α β : Type} [DecidableEq α]
def nil : MM α β := ⟨[], 0⟩
def findL : List (α × β × Nat) → α → Option β
 | [], _ => none
 | e :: es, k => if k = e.1 then some e.2.1 else findL es k
def get (m : MM α β) (k : α) : Option β := findL m.es k
def setL : List (α × β × Nat) → α → β → Nat → List (α × β × Nat)
 | [], k, v, c => [(k, v, c)]
 | e :: es, k, v, c => if k = e.1 then (k, v, e.2.2) :: es else e :: setL es k v c
def put (m : MM α β) (k : α) (v : β) : MM α β := ⟨setL m.es k v m.ck, if (m.get k).isSome then m.ck else m.ck + 1⟩
structure Ok (m : MM α β) : Prop where
 nk : (m.es.map (·.1)).Nodup
 nb : (m.es.map (·.2.2)).Nodup
 lt : ∀ e ∈ m.es, e.2.2 < m.ck
theorem ok_nil : (nil : MM α β).Ok := ⟨.nil, .nil, by simp [nil]⟩
@[simp] theorem get_nil (k : α) : (nil : MM α β).get k = none := rfl
theorem findL_setL (es : List (α × β × Nat)) (k : α) (v : β) (c : Nat) (j : α) : findL (setL es k v c) j = if j = k then some v else findL es j := by
 induction es with
 | nil => simp [setL, findL]
 | cons e es ih =>
  unfold setL
  by_cases h : k = e.1
  ·rw [if_pos h]; subst h
   simp only [findL]
   by_cases hj : j = e.1
   ·rw [if_pos hj, if_pos hj]
   ·rw [if_neg hj, if_neg hj, if_neg hj]
  ·rw [if_neg h]
   simp only [findL, ih]
   by_cases hj : j = e.1
   ·subst hj; rw [if_pos rfl, if_neg (Ne.symm h), if_pos rfl]
   ·rw [if_neg hj, if_neg hj]
theorem get_put (m : MM α β) (k : α) (v : β) (j : α) : (m.put k v).get j = if j = k then some v else m.get j := findL_setL _ _ _ _ _
theorem findL_none {es : List (α × β × Nat)} {k : α} (h : findL es k = none) : k ∉ es.map (·.1) := by
 induction es with
 | nil => simp
 | cons e es ih =>
  simp only [findL] at h
  split at h
  ·cases h
  ·rename_i hk
   simp only [List.map_cons, List.mem_cons, not_or]
   exact ⟨hk, ih h⟩
theorem setL_none {es : List (α × β × Nat)} {k : α} {v : β} {c : Nat} (h : findL es k = none) : setL es k v c = es ++ [(k, v, c)] := by
 induction es with
 | nil => rfl
 | cons e es ih =>
  simp only [findL] at h
  split at h
  ·cases h
  ·rename_i hk
   rw [setL, if_neg hk, ih h]; rfl
theorem setL_some {es : List (α × β × Nat)} {k : α} {v u : β} {c : Nat} (h : findL es k = some u) : (setL es k v c).map (·.1) = es.map (·.1) ∧ (setL es k v c).map (·.2.2) = es.map (·.2.2) := by
 induction es with
 | nil => cases h
 | cons e es ih =>
  simp only [findL] at h
  unfold setL
  split at h
  ·rename_i hk; rw [if_pos hk]; subst hk; exact ⟨rfl, rfl⟩
  ·rename_i hk; rw [if_neg hk]; simp [ih h]
theorem ok_put {m : MM α β} (h : m.Ok) (k : α) (v : β) : (m.put k v).Ok := by
 cases hf : findL m.es k with
 | none =>
  have e1 : (m.put k v).es = m.es ++ [(k, v, m.ck)] := setL_none hf
  have e2 : (m.put k v).ck = m.ck + 1 := by simp [put, get, hf]
  refine ⟨?_, ?_, ?_⟩
  ·rw [e1, List.map_append, List.nodup_append]
   exact ⟨h.nk, by simp, fun a ha b hb => by simp at hb; subst hb; exact fun e => findL_none hf (e ▸ ha)⟩
  ·rw [e1, List.map_append, List.nodup_append]
   exact ⟨h.nb, by simp, fun a ha b hb => by
    simp at hb; subst hb
    obtain ⟨e, he, rfl⟩ := List.mem_map.1 ha
    have := h.lt e he; omega⟩
  ·rw [e1, e2]
   intro e he
   rcases List.mem_append.1 he with he | he
   ·have := h.lt e he; omega
   ·simp at he; subst he; exact Nat.lt_succ_self _
 | some u =>
  have e2 : (m.put k v).ck = m.ck := by simp [put, get, hf]
  have e1 := setL_some (v := v) (c := m.ck) hf
  refine ⟨e1.1 ▸ h.nk, e1.2 ▸ h.nb, ?_⟩
  rw [e2]
  intro e he
  have : e.2.2 ∈ (setL m.es k v m.ck).map (·.2.2) := List.mem_map.2 ⟨e, he, rfl⟩
  rw [e1.2] at this
  obtain ⟨e', he', h'⟩ := List.mem_map.1 this
  rw [← h']; exact h.lt e' he'
theorem mem_findL {es : List (α × β × Nat)} (hn : (es.map (·.1)).Nodup) {k : α} {v : β} : findL es k = some v ↔ ∃ c, (k, v, c) ∈ es := by
 induction es with
 | nil => simp [findL]
 | cons e es ih =>
  obtain ⟨a, b, c⟩ := e
  simp only [List.map_cons, List.nodup_cons] at hn
  simp only [findL]
  by_cases hk : k = a
  ·subst hk
   rw [if_pos rfl]
   constructor
   ·intro h; exact ⟨c, by simp [Option.some.inj h]⟩
   ·rintro ⟨c', h⟩
    rcases List.mem_cons.1 h with h | h
    ·cases h; rfl
    ·exact absurd (List.mem_map.2 ⟨_, h, rfl⟩) hn.1
  ·rw [if_neg hk, ih hn.2]
   constructor
   ·rintro ⟨c', h⟩; exact ⟨c', .tail _ h⟩
   ·rintro ⟨c', h⟩
    rcases List.mem_cons.1 h with h | h
    ·cases h; exact absurd rfl hk
    ·exact ⟨c', h⟩
theorem get_iff {m : MM α β} (h : m.Ok) {k : α} {v : β} : m.get k = some v ↔ ∃ c, (k, v, c) ∈ m.es := mem_findL h.nk
structure Walk (m : MM α β) (p : List (α × β × Nat)) : Prop where
 nd : p.Nodup
 sub : ∀ e ∈ p, e ∈ m.es
theorem Walk.nil {m : MM α β} : Walk m [] := ⟨.nil, by simp⟩
end MM
def kfind {α : Type} [DecidableEq α] (k : α) : List α → List MapEntry → Nat → Option (Nat × Value)
 | a :: ks, e :: L, i => if k = a then some (i, e.val) else kfind k ks L (i + 1)
 | _, _, _ => none
structure MKey {α : Type} [DecidableEq α] (P : Program) (K : TypeId) (f : α → Value) : Prop where
 fk : ∀ (k : α) (ks : List α) (L : List MapEntry), L.map (·.key) = ks.map f → ∀ w, (Instr.findKey K (f k) L).run P w = .ok (kfind k ks L 0) w
 chk : ∀ (e : Bool) (n : Nat) (a : α) (w : World), (Instr.checkKey e (n + 2) K (f a)).run P w = .ok () w
 bits : ∀ (n : Nat) (a : α), Instr.sameBits (n + 1) (f a) (f a) = true
section
variable {α : Type} [DecidableEq α] {P : Program} {K : TypeId} {f : α → Value}
theorem findNow_is {kd : TypeDesc} (hk : ∀ a b, Instr.sameNow kd (f a) (f b) = some (decide (a = b))) (k : α) : ∀ (ks : List α) (L : List MapEntry) (i : Nat), L.map (·.key) = ks.map f → Instr.findNow kd (f k) L i = some (kfind k ks L i)
 | [], [], _, _ => rfl
 | [], _ :: _, _, h => by simp at h
 | _ :: _, [], _, h => by simp at h
 | a :: ks, x :: L, i, h => by
  simp only [List.map_cons, List.cons.injEq] at h
  have ih := findNow_is hk k ks L (i + 1) h.2
  simp only [Instr.findNow, kfind, h.1, hk]
  by_cases hka : k = a
  ·simp [hka]
  ·simp [hka, ih]
theorem findAsk_is (he : ∀ a b w, (Op.equal K (f a) (f b)).run P w = .ok (decide (a = b)) w) (k : α) (w : World) : ∀ (ks : List α) (L : List MapEntry) (i : Nat), L.map (·.key) = ks.map f → (Instr.findAsking K (f k) L i).run P w = .ok (kfind k ks L i) w
 | [], [], _, _ => rfl
 | [], _ :: _, _, h => by simp at h
 | _ :: _, [], _, h => by simp at h
 | a :: ks, x :: L, i, h => by
  simp only [List.map_cons, List.cons.injEq] at h
  have ih := findAsk_is he k w ks L (i + 1) h.2
  simp only [Instr.findAsking, kfind, h.1, Sem.run_bind, he, Result.andThen_ok]
  by_cases hka : k = a
  ·simp [hka]
  ·simp [hka, ih]
theorem MKey.now {kd : TypeDesc} (hK : P.underlying K = some kd) (hk : ∀ a b, Instr.sameNow kd (f a) (f b) = some (decide (a = b)))
  (chk : ∀ (e : Bool) (n : Nat) (a : α) (w : World), (Instr.checkKey e (n + 2) K (f a)).run P w = .ok () w) (bits : ∀ (n : Nat) (a : α), Instr.sameBits (n + 1) (f a) (f a) = true) : MKey P K f :=
 ⟨fun k ks L h w => by simp [Instr.findKey, underlying, hK, findNow_is hk k ks L 0 h], chk, bits⟩
theorem MKey.ask {kd : TypeDesc} (hK : P.underlying K = some kd) (hn : ∀ a b, Instr.sameNow kd (f a) (f b) = none) (he : ∀ a b w, (Op.equal K (f a) (f b)).run P w = .ok (decide (a = b)) w)
  (chk : ∀ (e : Bool) (n : Nat) (a : α) (w : World), (Instr.checkKey e (n + 2) K (f a)).run P w = .ok () w) (bits : ∀ (n : Nat) (a : α), Instr.sameBits (n + 1) (f a) (f a) = true) : MKey P K f :=
 ⟨fun k ks L h w => by
  cases L with
  | nil =>
   cases ks with
   | nil => simp [Instr.findKey, underlying, hK, Instr.findNow, kfind]
   | cons a ks => simp at h
  | cons x L =>
   cases ks with
   | nil => simp at h
   | cons a ks =>
    have hx : x.key = f a := by simp at h; exact h.1
    have := findAsk_is he k w (a :: ks) (x :: L) 0 h
    simp [Instr.findKey, underlying, hK, Instr.findNow, hx, hn, this], chk, bits⟩
theorem MKey.int {q k : IntKind} (h : P.underlying K = some (.int q)) : MKey P K (fun a : Int => Value.int k a) :=
 .now h (fun a b => by simp [Instr.sameNow, Bool.beq_eq_decide_eq]) (fun e n a w => by simp [Instr.checkKey, underlying, h]) (fun n a => by simp [Instr.sameBits])
theorem MKey.u64 (h : P.underlying K = some (.int .u64)) : MKey P K (fun a : BitVec 64 => Go.Proofs.YtmhiapebljfebaaGreatDoor.u64 a) :=
 .now h (fun a b => by
  simp only [Instr.sameNow, if_true]
  congr 1
  rw [Bool.eq_iff_iff, beq_iff_eq, decide_eq_true_iff]
  exact ⟨fun h => BitVec.eq_of_toNat_eq (by omega), fun h => by rw [h]⟩) (fun e n a w => by simp [Instr.checkKey, underlying, h]) (fun n a => by simp [Instr.sameBits])
end
abbrev D32 := { l : List (BitVec 8) // l.length = 32 }
abbrev dgV (d : D32) : Value := .agg (d.1.map u8).toArray
abbrev itK : Int → Value := fun a => Value.int .i64 a
abbrev blV : Bool → Value := fun b => .bool b
def D0 : D32 := ⟨List.replicate 32 0, rfl⟩
theorem u8_inj {x y : BitVec 8} (h : (x.toNat : Int) = y.toNat) : x = y := BitVec.eq_of_toNat_eq (by omega)
theorem run_forBody {P : Program} {α : Type} (w : World) {body : α → PUnit → Sem (ForInStep PUnit)} : ∀ (l : List α), (∀ a ∈ l, (body a PUnit.unit).run P w = .ok (.yield PUnit.unit) w) → (forIn l PUnit.unit body).run P w = .ok PUnit.unit w
 | [], _ => rfl
 | a :: l, h => by
  have ih := run_forBody w l fun b hb => h b (.tail _ hb)
  simp only [List.forIn_cons, Sem.run_bind, h a (.head _), Result.andThen_ok]
  exact ih
@[simp] theorem D32_len (d : D32) : d.1.length = 32 := d.2
abbrev k2V (p : Int × Int) : Value := .agg #[it p.1, it p.2]
theorem MKey.two {P : Program} {K : TypeId} {f1 f2 : Field} {q1 q2 : IntKind} (hK : P.underlying K = some (.struct #[f1, f2])) (h1 : P.underlying f1.type = some (.int q1)) (h2 : P.underlying f2.type = some (.int q2)) (o1 : f1.offset = 0) (o2 : f2.offset = 1)
  (n1 : f1.name ≠ "_") (n2 : f2.name ≠ "_") (hs : P.stoodInHeld K = false) : MKey P K k2V :=
 .ask hK (fun a b => rfl) (fun a b w => by
  have : (Op.equal K (k2V a) (k2V b)).run P w = .ok (decide (a.1 = b.1 ∧ a.2 = b.2)) w := run_eqTwo hK h1 h2 o1 o2 n1 n2 hs a.1 b.1 a.2 b.2 9998 w
  rw [this]
  congr 1
  exact decide_eq_decide.2 ⟨fun h => Prod.ext h.1 h.2, fun h => by rw [h]; exact ⟨rfl, rfl⟩⟩)
 (fun em n a w => by
  have p1 : (part f1.type #[it a.1, it a.2] f1.offset).run P w = .ok (it a.1) w := run_parts h1 rfl (by rw [o1]; rfl)
  have p2 : (part f2.type #[it a.1, it a.2] f2.offset).run P w = .ok (it a.2) w := run_parts h2 rfl (by rw [o2]; rfl)
  rw [Instr.checkKey]
  simp only [underlying, Sem.run_bind, run_program, Result.andThen_ok, hK, Sem.run_pure]
  have c1 : ∀ v : Int, (Instr.checkKey em (n + 1) f1.type (it v)).run P w = .ok () w := fun v => by simp [Instr.checkKey, underlying, h1]
  have c2 : ∀ v : Int, (Instr.checkKey em (n + 1) f2.type (it v)).run P w = .ok () w := fun v => by simp [Instr.checkKey, underlying, h2]
  simp [p1, p2, c1, c2, n1, n2])
 (fun n a => by simp [Instr.sameBits])
def Res.mp (b : Nat) (L : List MapEntry) (ck : Nat) : Res where
 fp k := k = b
 ok w := w.heap[b]? = some (.map L.toArray ck)
 loc _ _ h ho := (h b rfl).trans ho
def Res.mi (r b ck : Nat) (seen : List Nat) : Res where
 fp k := k = r
 ok w := w.heap[r]? = some (.mapIter (some b) ck seen.toArray ck)
 loc _ _ h ho := (h r rfl).trans ho
theorem Res.mp_ok {b ck : Nat} {L : List MapEntry} {w : World} : (Res.mp b L ck).ok w ↔ w.heap[b]? = some (.map L.toArray ck) := Iff.rfl
theorem Res.mp_fp {b ck k : Nat} {L : List MapEntry} : (Res.mp b L ck).fp k ↔ k = b := Iff.rfl
theorem Res.mi_ok {r b ck : Nat} {s : List Nat} {w : World} : (Res.mi r b ck s).ok w ↔ w.heap[r]? = some (.mapIter (some b) ck s.toArray ck) := Iff.rfl
theorem Res.mi_fp {r b ck k : Nat} {s : List Nat} : (Res.mi r b ck s).fp k ↔ k = r := Iff.rfl
attribute [irreducible] Res.mp Res.mi
def ents {α β : Type} (f : α → Value) (g : β → Value) (es : List (α × β × Nat)) : List MapEntry := es.map fun e => ⟨f e.1, g e.2.1, e.2.2⟩
abbrev mpR {α β : Type} (b : Nat) (f : α → Value) (g : β → Value) (m : MM α β) : Res := Res.mp b (ents f g m.es) m.ck
abbrev miR {α β : Type} (r b : Nat) (m : MM α β) (p : List (α × β × Nat)) : Res := Res.mi r b m.ck (p.map fun e => e.2.2)
theorem St.obj {C : Beg} {Γ H : RL} {r r' : Res} {b : Nat} {w w' : World} (hs : St C Γ (r :: H) w) (hf : ∀ k, r.fp k ↔ k = b) (hf' : ∀ k, r'.fp k ↔ k = b) (hos : w'.os = w.os) (htape : w'.tape = w.tape) (hout : w'.output = w.output) (hsz : w'.heap.size = w.heap.size)
  (hb : r'.ok w') (ho : ∀ k, k ≠ b → w'.heap[k]? = w.heap[k]?) : St C Γ (r' :: H) w' := by
 have hlt : b < w.heap.size := hs.sat.hlt _ (.head _) b ((hf b).2 rfl)
 have h0 : St ⟨w, [], [r]⟩ [] [r'] w' := by
  refine ⟨⟨by simp, by simp, ?_, ?_, by simp, by simp⟩, ⟨hos, htape, hout, Nat.le_of_eq hsz.symm, ?_⟩, ?_, fun k ⟨_, h, _⟩ => by simp at h⟩
  ·intro x hx
   obtain rfl := List.mem_singleton.1 hx
   exact hb
  ·intro x hx k hk
   obtain rfl := List.mem_singleton.1 hx
   have := (hf' k).1 hk
   subst this
   rw [hsz]; exact hlt
  ·intro k _ hn
   exact ho k fun e => hn ⟨_, .head _, (hf k).2 e⟩
  ·rintro k ⟨x, hx, hk⟩
   obtain rfl := List.mem_singleton.1 hx
   exact .inl ⟨_, .head _, (hf k).2 ((hf' k).1 hk)⟩
 have h3 := St.frame (G := H) (Hc := [_]) (Γc := []) (by simpa using hs) (by simp) h0
 simpa using h3
theorem St.newObj {C : Beg} {Γ H : RL} {w : World} (h : St C Γ H w) (o : Obj) (r : Res) (hf : ∀ k, r.fp k ↔ k = w.heap.size) (hok : r.ok (w.alloc o)) : St C Γ (r :: H) (w.alloc o) := by
 have h0 : St ⟨w, [], []⟩ [] [r] (w.alloc o) := by
  refine ⟨⟨by simp, by simp, ?_, ?_, by simp, by simp⟩, ⟨rfl, rfl, rfl, by simp, ?_⟩, ?_, fun k ⟨_, h, _⟩ => by simp at h⟩
  ·intro x hx
   obtain rfl := List.mem_singleton.1 hx
   exact hok
  ·intro x hx k hk
   obtain rfl := List.mem_singleton.1 hx
   have := (hf k).1 hk
   subst this
   simp
  ·intro k hk _
   exact Below.heap_alloc w _ k hk
  ·rintro k ⟨x, hx, hk⟩
   obtain rfl := List.mem_singleton.1 hx
   have := (hf k).1 hk
   exact .inr (by rw [this]; exact Nat.le_refl _)
 simpa using St.frame (Hc := []) (Γc := []) (by simpa using h) (by simp) h0
section
variable {P : Program} {N : Nat} {C : Beg} {Q : Exit → Act → World → Prop} {E : Env} {Γ H : RL} {ty : TypeId} {ops : Array Oper} {rest : List Oper} {α β : Type} [DecidableEq α] {f : α → Value} {g : β → Value}
theorem kfind_get (k : α) : ∀ (es : List (α × β × Nat)) (i : Nat), (kfind k (es.map (·.1)) (ents f g es) i).map (·.2) = (MM.findL es k).map g
 | [], _ => rfl
 | e :: es, i => by
  have ih := kfind_get k es (i + 1)
  simp only [ents, List.map_cons, kfind, MM.findL]
  split
  ·rfl
  ·exact ih
theorem ents_keys (es : List (α × β × Nat)) : (ents f g es).map (·.key) = (es.map (·.1)).map f := by simp [ents]
def MP (Γ H : RL) (r : Res) : Prop := r ∈ H ∨ r ∈ Γ
theorem MP.ok {r : Res} {w : World} (h : MP Γ H r) (hs : Sat Γ H w) : r.ok w := h.elim (hs.hok r) (hs.gok r)
theorem Yv.lk {T K e : TypeId} {x i : Operand} {b : Nat} {m : MM α β} {z : Value} (k : α) (hT : P.underlying T = some (.map K e)) (hK : MKey P K f) (hz : (P.info? e).bind (·.zero) = some z) (hx : ev E x = some (.map (some b)) := by rfl) (hi : ev E i = some (f k) := by rfl)
  (hm : MP Γ H (mpR b f g m) := by first | exact .inl (by (repeat (first | exact List.Mem.head _ | refine List.Mem.tail _ ?_)); first | done | fail) | exact .inr (by (repeat (first | exact List.Mem.head _ | refine List.Mem.tail _ ?_)); first | done | fail)) : Yv P N C E Γ H (.lookup T x i false) ty (((m.get k).map g).getD z) := by
 intro dst pos aft gd a w hE hS
 have h1 := Res.mp_ok.1 (hm.ok hS.sat)
 obtain ⟨inf, hi1, hi2⟩ := Option.bind_eq_some_iff.1 hz
 have hf := hK.fk k (m.es.map (·.1)) (ents f g m.es) (ents_keys _) w
 have hc := hK.chk (ents f g m.es).isEmpty 9998 k w
 have hg := kfind_get (f := f) (g := g) k m.es 0
 rw [MM.get, ← hg]
 cases hk : kfind k (m.es.map (·.1)) (ents f g m.es) 0 with
 | none =>
  rw [hk] at hf
  simp [execOp, hE.ev hx, hE.ev hi, Instr.lookup, underlying, hT, getObj, Sem.run, h1, hc, hf, zeroValue, typeInfo, hi1, hi2]
 | some p =>
  rw [hk] at hf
  simp [execOp, hE.ev hx, hE.ev hi, Instr.lookup, underlying, hT, getObj, Sem.run, h1, hc, hf]
theorem Yv.lk2 {T K e : TypeId} {x i : Operand} {b : Nat} {m : MM α β} {z : Value} (k : α) (hT : P.underlying T = some (.map K e)) (hK : MKey P K f) (hz : (P.info? e).bind (·.zero) = some z) (hx : ev E x = some (.map (some b)) := by rfl) (hi : ev E i = some (f k) := by rfl)
  (hm : MP Γ H (mpR b f g m) := by first | exact .inl (by (repeat (first | exact List.Mem.head _ | refine List.Mem.tail _ ?_)); first | done | fail) | exact .inr (by (repeat (first | exact List.Mem.head _ | refine List.Mem.tail _ ?_)); first | done | fail)) : Yv P N C E Γ H (.lookup T x i true) ty (.tuple #[((m.get k).map g).getD z, .bool (m.get k).isSome]) := by
 intro dst pos aft gd a w hE hS
 have h1 := Res.mp_ok.1 (hm.ok hS.sat)
 obtain ⟨inf, hi1, hi2⟩ := Option.bind_eq_some_iff.1 hz
 have hf := hK.fk k (m.es.map (·.1)) (ents f g m.es) (ents_keys _) w
 have hc := hK.chk (ents f g m.es).isEmpty 9998 k w
 have hg := kfind_get (f := f) (g := g) k m.es 0
 have hs : (m.get k).isSome = ((kfind k (m.es.map (·.1)) (ents f g m.es) 0).map (·.2)).isSome := by rw [hg, MM.get]; simp
 rw [hs, MM.get, ← hg]
 cases hk : kfind k (m.es.map (·.1)) (ents f g m.es) 0 with
 | none =>
  rw [hk] at hf
  simp [execOp, hE.ev hx, hE.ev hi, Instr.lookup, underlying, hT, getObj, Sem.run, h1, hc, hf, zeroValue, typeInfo, hi1, hi2]
 | some p =>
  rw [hk] at hf
  simp [execOp, hE.ev hx, hE.ev hi, Instr.lookup, underlying, hT, getObj, Sem.run, h1, hc, hf]
theorem kfind_some {k : α} : ∀ {es : List (α × β × Nat)} {i j : Nat} {u : Value} (v : β) (c : Nat), kfind k (es.map (·.1)) (ents f g es) i = some (j, u) → i ≤ j ∧ (MM.findL es k).isSome ∧ ((ents f g es)[j - i]?.map (·.key)) = some (f k) ∧ (ents f g es).modify (j - i) (fun e => { e with key := f k, val := g v }) = ents f g (MM.setL es k v c)
 | [], _, _, _, _, _, h => by simp [kfind] at h
 | e :: es, i, j, u, v, c, h => by
  by_cases hk : k = e.1
  ·simp only [ents, List.map_cons, kfind, if_pos hk, Option.some.injEq, Prod.mk.injEq] at h
   obtain ⟨rfl, rfl⟩ := h
   refine ⟨Nat.le_refl _, by simp [MM.findL, hk], by simp [ents, hk], ?_⟩
   simp [ents, MM.setL, if_pos hk]
  ·simp only [ents, List.map_cons, kfind, if_neg hk] at h
   obtain ⟨h1, h2, h3, h4⟩ := kfind_some v c h
   refine ⟨by omega, by simpa [MM.findL, hk] using h2, ?_, ?_⟩
   ·rw [show j - i = (j - (i + 1)) + 1 by omega]
    simpa [ents] using h3
   ·rw [show j - i = (j - (i + 1)) + 1 by omega]
    simp only [MM.setL, if_neg hk]
    have : ents f g (e :: es) = ⟨f e.1, g e.2.1, e.2.2⟩ :: ents f g es := rfl
    rw [this, List.modify_succ_cons, h4]
    rfl
theorem kfind_none {k : α} : ∀ {es : List (α × β × Nat)} {i : Nat}, kfind k (es.map (·.1)) (ents f g es) i = none → MM.findL es k = none := by
 intro es i h
 have := kfind_get (f := f) (g := g) k es i
 rw [h] at this
 cases hf : MM.findL es k with
 | none => rfl
 | some v => rw [hf] at this; cases this
theorem Mv.mu {T K e : TypeId} {x y z : Operand} {b : Nat} {m : MM α β} {H' : RL} (k : α) (v : β) (hT : P.underlying T = some (.map K e)) (hK : MKey P K f) (hx : ev E x = some (.map (some b)) := by rfl) (hy : ev E y = some (f k) := by rfl) 
  (hp : Upd H (mpR b f g m) (mpR b f g (m.put k v)) H' := by (repeat (first | exact Upd.here _ _ _ | apply Upd.there)); first | done | fail) (hz : ev E z = some (g v) := by rfl) : Mv P N C E Γ H (.mapUpdate T x y z) ty (fun _ Γ1 H1 => Γ1 = Γ ∧ H1 = H') := by
 intro dst pos aft gd a w he hs KK Q hKK
 obtain ⟨G, hp1, hp2⟩ := hp.ex
 have hst := hs.perm hp1
 have h1 := Res.mp_ok.1 (hst.sat.hok _ (.head _))
 have hf := hK.fk k (m.es.map (·.1)) (ents f g m.es) (ents_keys _) w
 have hc := hK.chk false 9998 k w
 have hlt : b < w.heap.size := (Array.getElem?_eq_some_iff.1 h1).1
 have fin : ∀ o : Obj, o = .map (ents f g (m.put k v).es).toArray (m.put k v).ck → (execOp a.eval ⟨dst, .mapUpdate T x y z, ty, pos, aft, gd⟩).run P w = .ok .skip { w with heap := w.heap.setIfInBounds b o } → Oper.wp P ⟨dst, .mapUpdate T x y z, ty, pos, aft, gd⟩ a w KK Q := by
  intro o ho hr
  subst ho
  simp only [Oper.wp, hr, Oper.upon]
  have h5 : St C Γ (mpR b f g (m.put k v) :: G) { w with heap := w.heap.setIfInBounds b (.map (ents f g (m.put k v).es).toArray (m.put k v).ck) } :=
   St.obj (b := b) hst (fun k => Res.mp_fp) (fun k => Res.mp_fp) rfl rfl rfl (by simp) (Res.mp_ok.2 (by simp [hlt])) fun k hk => Array.getElem?_setIfInBounds_ne (Ne.symm hk)
  exact hKK _ _ _ _ ⟨rfl, rfl⟩ (h5.perm hp2.symm)
 cases hk : kfind k (m.es.map (·.1)) (ents f g m.es) 0 with
 | none =>
  rw [hk] at hf
  have hn := kfind_none hk
  refine fin (.map ((ents f g m.es).toArray.push { key := f k, val := g v, born := m.ck }) (m.ck + 1)) ?_ ?_
  ·have e1 : (m.put k v).es = m.es ++ [(k, v, m.ck)] := MM.setL_none hn
   have e2 : (m.put k v).ck = m.ck + 1 := by simp [MM.put, MM.get, hn]
   rw [e1, e2]
   simp [ents]
  ·simp [execOp, he.ev hx, he.ev hy, he.ev hz, Instr.mapUpdate, underlying, hT, getObj, setObj, Sem.run, h1, hc, hf]
 | some p =>
  obtain ⟨j, u⟩ := p
  rw [hk] at hf
  obtain ⟨_, hsm, hkey, hmod⟩ := kfind_some v m.ck hk
  rw [Nat.sub_zero] at hkey hmod
  refine fin (.map ((ents f g m.es).toArray.modify j fun e => { e with key := f k, val := g v }) m.ck) ?_ ?_
  ·have e2 : (m.put k v).ck = m.ck := by simp [MM.put, MM.get, hsm]
   rw [e2]
   congr 1
   rw [List.modify_toArray, hmod]
   rfl
  ·have hb := hK.bits 9999 k
   have hg : (((ents f g m.es).toArray[j]?).map (·.key)).getD (f k) = f k := by rw [List.getElem?_toArray, hkey]; rfl
   simp [execOp, he.ev hx, he.ev hy, he.ev hz, Instr.mapUpdate, underlying, hT, getObj, setObj, Sem.run, h1, hc, hf, Instr.keyThatStays, hkey, hb]
theorem JO.mu {pos : String} {aft : Array Edge} {T K e : TypeId} {x y z : Operand} {b : Nat} {m : MM α β} {H' : RL} (k : α) (v : β) (hT : P.underlying T = some (.map K e)) (hK : MKey P K f) (h : JO P N C ops rest Q E Γ H') (hx : ev E x = some (.map (some b)) := by rfl) (hy : ev E y = some (f k) := by rfl) 
  (hp : Upd H (mpR b f g m) (mpR b f g (m.put k v)) H' := by (repeat (first | exact Upd.here _ _ _ | apply Upd.there)); first | done | fail) (hz : ev E z = some (g v) := by rfl) : JO P N C ops (⟨none, .mapUpdate T x y z, ty, pos, aft, none⟩ :: rest) Q E Γ H :=
 .m0 (Mv.mu k v hT hK hx hy hp hz) fun _ Γ' H' ⟨h1, h2⟩ => by subst h1 h2; exact h
theorem Mv.mm {T : TypeId} (f : α → Value) (g : β → Value) : Mv P N C E Γ H (.makeMap T none) ty (fun v Γ' H' => ∃ b, v = .map (some b) ∧ Γ' = Γ ∧ H' = mpR b f g MM.nil :: H) := by
 intro dst pos aft gd a w he hs K Q hK
 have hr : (execOp a.eval ⟨dst, .makeMap T none, ty, pos, aft, gd⟩).run P w = .ok (.value (.map (some w.heap.size))) (w.alloc (.map #[] 0)) := by
  simp [execOp, Instr.makeMap, newObj, Sem.run]
 simp only [Oper.wp, hr, Oper.upon]
 refine hK _ _ _ _ ⟨_, rfl, rfl, rfl⟩ (hs.newObj _ _ (fun k => Res.mp_fp) (Res.mp_ok.2 ?_))
 simpa [ents, MM.nil] using heap_alloc_new w _
theorem JO.mm {d : Nat} {pos : String} {aft : Array Edge} {T : TypeId} (f : α → Value) (g : β → Value) (h : ∀ b, JO P N C ops rest Q ((d, .map (some b)) :: E) Γ (mpR b f g MM.nil :: H)) (hd : d < N := by decide) : JO P N C ops (⟨some d, .makeMap T none, ty, pos, aft, none⟩ :: rest) Q E Γ H :=
 .m (Mv.mm f g) hd fun v Γ' H' ⟨b, h1, h2, h3⟩ => by subst h1 h2 h3; exact h b
theorem Mv.rg {T K e : TypeId} {x : Operand} {b : Nat} {m : MM α β} (hT : P.underlying T = some (.map K e)) (hx : ev E x = some (.map (some b))) (hm : MP Γ H (mpR b f g m)) : Mv P N C E Γ H (.range T x) ty (fun v Γ' H' => ∃ r, v = ptr r 0 ∧ Γ' = Γ ∧ H' = miR r b m [] :: H) := by
 intro dst pos aft gd a w he hs KK Q hK
 have h1 := Res.mp_ok.1 (hm.ok hs.sat)
 have hr : (execOp a.eval ⟨dst, .range T x, ty, pos, aft, gd⟩).run P w = .ok (.value (ptr w.heap.size 0)) (w.alloc (.mapIter (some b) m.ck #[] m.ck)) := by
  simp [execOp, he.ev hx, Instr.range, underlying, hT, getObj, newObj, Sem.run, h1]
 simp only [Oper.wp, hr, Oper.upon]
 refine hK _ _ _ _ ⟨_, rfl, rfl, rfl⟩ (hs.newObj _ _ (fun k => Res.mi_fp) (Res.mi_ok.2 ?_))
 simpa using heap_alloc_new w _
theorem JO.rg {d : Nat} {pos : String} {aft : Array Edge} {T K e : TypeId} {x : Operand} {b : Nat} {m : MM α β} (hT : P.underlying T = some (.map K e)) (h : ∀ r, JO P N C ops rest Q ((d, ptr r 0) :: E) Γ (miR r b m [] :: H)) (hx : ev E x = some (.map (some b)) := by rfl)
  (hm : MP Γ H (mpR b f g m) := by first | exact .inl (by (repeat (first | exact List.Mem.head _ | refine List.Mem.tail _ ?_)); first | done | fail) | exact .inr (by (repeat (first | exact List.Mem.head _ | refine List.Mem.tail _ ?_)); first | done | fail)) (hd : d < N := by decide) : JO P N C ops (⟨some d, .range T x, ty, pos, aft, none⟩ :: rest) Q E Γ H :=
 .m (Mv.rg hT hx hm) hd fun v Γ' H' ⟨r, h1, h2, h3⟩ => by subst h1 h2 h3; exact h r
theorem walk_all {m : MM α β} (hok : m.Ok) {p : List (α × β × Nat)} (hw : m.Walk p) (h : ∀ e ∈ m.es, e.2.2 ∈ p.map (·.2.2)) : p.Perm m.es := by
 have hn : m.es.Nodup := List.Pairwise.of_map (fun e : α × β × Nat => e.2.2) (fun a b h e => h (by rw [e])) hok.nb
 refine (List.perm_ext_iff_of_nodup hw.nd hn).2 fun e => ⟨hw.sub e, fun he => ?_⟩
 obtain ⟨e', he', hb⟩ := List.mem_map.1 (h e he)
 have : e' = e := by
  have h1 := hw.sub e' he'
  have hinj : ∀ l : List (α × β × Nat), (l.map (·.2.2)).Nodup → ∀ x ∈ l, ∀ y ∈ l, x.2.2 = y.2.2 → x = y := by
   intro l
   induction l with
   | nil => simp
   | cons a l ih =>
    intro hnd x hx y hy hxy
    simp only [List.map_cons, List.nodup_cons] at hnd
    rcases List.mem_cons.1 hx with hx1 | hx1 <;> rcases List.mem_cons.1 hy with hy1 | hy1
    ·rw [hx1, hy1]
    ·exact absurd (List.mem_map.2 ⟨y, hy1, by rw [← hxy, hx1]⟩) hnd.1
    ·exact absurd (List.mem_map.2 ⟨x, hx1, by rw [hxy, hy1]⟩) hnd.1
    ·exact ih hnd.2 x hx1 y hy1 hxy
  exact hinj m.es hok.nb e' h1 e he hb
 exact this ▸ he'
theorem JO.nx {d : Nat} {pos : String} {aft : Array Edge} {x : Operand} {r b : Nat} {m : MM α β} {p : List (α × β × Nat)} {G : RL} (hok : m.Ok) (hw : m.Walk p)
  (h1 : p.Perm m.es → JO P N C ops rest Q ((d, .tuple #[.bool false]) :: E) Γ (miR r b m p :: G))
  (h2 : ∀ e, e ∈ m.es → e ∉ p → m.Walk (p ++ [e]) → JO P N C ops rest Q ((d, .tuple #[.bool true, f e.1, g e.2.1]) :: E) Γ (miR r b m (p ++ [e]) :: G))
  (hx : ev E x = some (ptr r 0) := by rfl) (hp : Pull (miR r b m p) H G := by (repeat (first | exact Pull.here _ _ | apply Pull.there)); first | done | fail)
  (hm : MP Γ G (mpR b f g m) := by first | exact .inl (by (repeat (first | exact List.Mem.head _ | refine List.Mem.tail _ ?_)); first | done | fail) | exact .inr (by (repeat (first | exact List.Mem.head _ | refine List.Mem.tail _ ?_)); first | done | fail)) (hd : d < N := by decide) :
  JO P N C ops (⟨some d, .next x false, ty, pos, aft, none⟩ :: rest) Q E Γ H := by
 intro hn a w he hs
 have hst := hs.perm hp.perm
 have hit := Res.mi_ok.1 (hst.sat.hok _ (.head _))
 have hmp : w.heap[b]? = some (.map (ents f g m.es).toArray m.ck) := Res.mp_ok.1 (hm.elim (fun h => hst.sat.hok _ (.tail _ h)) (fun h => hst.sat.gok _ h))
 have hlt : r < w.heap.size := (Array.getElem?_eq_some_iff.1 hit).1
 refine wpList_plain rfl fun K hK => ?_
 have hold : ∀ y ∈ (ents f g m.es).toArray.toList, y.born < m.ck := by
  intro y hy
  obtain ⟨e, he, rfl⟩ := List.mem_map.1 (show y ∈ ents f g m.es from hy)
  exact hok.lt e he
 rcases run_next_at (P := P) w ty r b m.ck m.ck (p.map fun e => e.2.2).toArray (ents f g m.es).toArray m.ck hit hmp hold (Nat.le_refl _) with ⟨h0, hr⟩ | ⟨y, hy, w1, hw1, hr⟩
 ·have hr' : (execOp a.eval ⟨some d, .next x false, ty, pos, aft, none⟩).run P w = .ok (.value (.tuple #[.bool false])) w := by simp [execOp, he.ev hx, hr]
  simp only [Oper.wp, hr', Oper.upon]
  refine hK _ _ (h1 (walk_all hok hw fun e hem => ?_) hn _ _ (he.put d hd _) hst)
  have : leftOf (ents f g m.es).toArray (p.map fun e => e.2.2).toArray = #[] := Array.eq_empty_of_size_eq_zero h0
  unfold leftOf at this
  rw [Array.filter_eq_empty_iff] at this
  have := this ⟨f e.1, g e.2.1, e.2.2⟩ (by simp [ents]; exact ⟨_, _, _, hem, rfl, rfl, rfl⟩)
  simpa using this
 ·have h3 := mem_left hy
  obtain ⟨e, hem, rfl⟩ := List.mem_map.1 (show y ∈ ents f g m.es from h3.1)
  have hnp : e ∉ p := fun h => by
   have := h3.2
   simp at this
   exact this _ _ h
  have hr' : (execOp a.eval ⟨some d, .next x false, ty, pos, aft, none⟩).run P w = .ok (.value (.tuple #[.bool true, f e.1, g e.2.1])) (ChangeMaps.setBlock w1 r (.mapIter (some b) m.ck ((p.map fun e => e.2.2).toArray.push e.2.2) m.ck)) := by simp [execOp, he.ev hx, hr]
  simp only [Oper.wp, hr', Oper.upon]
  refine hK _ _ (h2 e hem hnp ⟨by rw [List.nodup_append]; exact ⟨hw.nd, by simp, fun a ha b hb => by simp at hb; subst hb; exact fun h => hnp (h ▸ ha)⟩, fun z hz => by
   rcases List.mem_append.1 hz with hz | hz
   ·exact hw.sub z hz
   ·simp at hz; subst hz; exact hem⟩ hn _ _ (he.put d hd _) ?_)
  have hst1 : St C Γ (miR r b m p :: G) w1 := by
   rcases hw1 with rfl | rfl
   ·exact hst
   ·exact hst.drew
  have hsz : w1.heap.size = w.heap.size := by rcases hw1 with rfl | rfl <;> rfl
  refine St.obj (b := r) hst1 (fun k => Res.mi_fp) (fun k => Res.mi_fp) rfl rfl rfl (by simp [ChangeMaps.setBlock]) (Res.mi_ok.2 ?_) ?_
  ·simp [ChangeMaps.setBlock, hsz, hlt]
  ·intro k hk
   simp only [ChangeMaps.setBlock]
   exact Array.getElem?_setIfInBounds_ne (Ne.symm hk)
theorem Yv.en {x : Operand} {r b : Nat} {m : MM α β} {p : List (α × β × Nat)} {e : α × β × Nat} (hok : m.Ok) (he : e ∈ m.es) (hx : ev E x = some (ptr r 0) := by rfl)
  (hi : miR r b m (p ++ [e]) ∈ H := by (repeat (first | exact List.Mem.head _ | refine List.Mem.tail _ ?_)); first | done | fail)
  (hm : MP Γ H (mpR b f g m) := by first | exact .inl (by (repeat (first | exact List.Mem.head _ | refine List.Mem.tail _ ?_)); first | done | fail) | exact .inr (by (repeat (first | exact List.Mem.head _ | refine List.Mem.tail _ ?_)); first | done | fail)) : Yv P N C E Γ H (.entry x) ty (.tuple #[f e.1, g e.2.1]) := by
 intro dst pos aft gd a w hE hS
 have hmp := Res.mp_ok.1 (hm.ok hS.sat)
 have hit := Res.mi_ok.1 (hS.sat.hok _ hi)
 have hit' : w.heap[r]? = some (.mapIter (some b) m.ck ((p.map fun e => e.2.2).toArray.push (MapEntry.mk (f e.1) (g e.2.1) e.2.2).born) m.ck) := by rw [hit]; simp
 have := run_entry_at (P := P) w r b m.ck (p.map fun e => e.2.2).toArray (ents f g m.es).toArray m.ck ⟨f e.1, g e.2.1, e.2.2⟩ hit' hmp (by simp [ents]; exact ⟨_, _, _, he, rfl, rfl, rfl⟩) (by
  have h2 : ((ents f g m.es).toArray.toList.map (·.born)) = m.es.map (·.2.2) := by simp [ents]
  rw [h2]; exact hok.nb)
 simp [execOp, hE.ev hx, this]
theorem Yv.len_m {x : Operand} {T K e : TypeId} {b : Nat} {m : MM α β} (hT : P.underlying T = some (.map K e)) (hx : ev E x = some (.map (some b)))
  (hm : MP Γ H (mpR b f g m) := by first | exact .inl (by (repeat (first | exact List.Mem.head _ | refine List.Mem.tail _ ?_)); first | done | fail) | exact .inr (by (repeat (first | exact List.Mem.head _ | refine List.Mem.tail _ ?_)); first | done | fail)) : Yv P N C E Γ H (.call { callee := .builtin .len, args := #[x], argTypes := #[T] }) ty (it (m.es.length : Int)) := by
 intro dst pos aft gd a w he hS
 have h1 := Res.mp_ok.1 (hm.ok hS.sat)
 simp [execOp, he.ev hx, resolve, invoke, builtin, Builtin.len_, goInt, underlying, hT, getObj, Sem.run, h1, ents]
end
def Res.sep (L : RL) : Res where
 fp k := FP L k
 ok w := (∀ r ∈ L, r.ok w) ∧ L.Pairwise (fun (r s : Res) => ∀ k : Nat, r.fp k → ¬ s.fp k)
 loc w w' h ho := ⟨fun r hr => r.loc w w' (fun k hk => h k ⟨r, hr, hk⟩) (ho.1 r hr), ho.2⟩
theorem Sat.sep {Γ L H : RL} {w : World} : Sat Γ (Res.sep L :: H) w ↔ Sat Γ (L ++ H) w := by
 constructor
 ·intro h
  have hp := List.pairwise_cons.1 h.hdj
  have h0 := h.hok _ (.head _)
  refine ⟨h.gok, h.glt, ?_, ?_, ?_, ?_⟩
  ·intro r hr
   rcases List.mem_append.1 hr with hr | hr
   ·exact h0.1 r hr
   ·exact h.hok r (.tail _ hr)
  ·intro r hr k hk
   rcases List.mem_append.1 hr with hr | hr
   ·exact h.hlt _ (.head _) k ⟨r, hr, hk⟩
   ·exact h.hlt r (.tail _ hr) k hk
  ·refine List.pairwise_append.2 ⟨h0.2, hp.2, fun r hr s hs k hk => hp.1 s hs k ⟨r, hr, hk⟩⟩
  ·intro r hr s hs k hk
   rcases List.mem_append.1 hs with hs | hs
   ·exact fun hk' => h.ghd r hr _ (.head _) k hk ⟨s, hs, hk'⟩
   ·exact h.ghd r hr s (.tail _ hs) k hk
 ·intro h
  have hp := List.pairwise_append.1 h.hdj
  refine ⟨h.gok, h.glt, ?_, ?_, ?_, ?_⟩
  ·intro r hr
   rcases List.mem_cons.1 hr with rfl | hr
   ·exact ⟨fun r hr => h.hok r (List.mem_append.2 (.inl hr)), hp.1⟩
   ·exact h.hok r (List.mem_append.2 (.inr hr))
  ·intro r hr k hk
   rcases List.mem_cons.1 hr with rfl | hr
   ·obtain ⟨s, hs, hk⟩ := hk
    exact h.hlt s (List.mem_append.2 (.inl hs)) k hk
   ·exact h.hlt r (List.mem_append.2 (.inr hr)) k hk
  ·refine List.pairwise_cons.2 ⟨fun s hs k ⟨r, hr, hk⟩ => hp.2.2 r hr s hs k hk, hp.2.1⟩
  ·intro r hr s hs k hk hk'
   rcases List.mem_cons.1 hs with rfl | hs
   ·obtain ⟨t, ht, hk'⟩ := hk'
    exact h.ghd r hr t (List.mem_append.2 (.inl ht)) k hk hk'
   ·exact h.ghd r hr s (List.mem_append.2 (.inr hs)) k hk hk'
theorem FP_sep {L H : RL} {k : Nat} : FP (Res.sep L :: H) k ↔ FP (L ++ H) k := by
 rw [FP_append]
 constructor
 ·rintro ⟨r, hr, hk⟩
  rcases List.mem_cons.1 hr with rfl | hr
  ·exact .inl hk
  ·exact .inr ⟨r, hr, hk⟩
 ·rintro (h | ⟨r, hr, hk⟩)
  ·exact ⟨_, .head _, h⟩
  ·exact ⟨r, .tail _ hr, hk⟩
theorem St.sep {C : Beg} {Γ L H : RL} {w : World} : St C Γ (Res.sep L :: H) w ↔ St C Γ (L ++ H) w :=
 ⟨fun h => ⟨Sat.sep.1 h.sat, h.stp, fun k hk => h.hsub k (FP_sep.2 hk), h.gsub⟩, fun h => ⟨Sat.sep.2 h.sat, h.stp, fun k hk => h.hsub k (FP_sep.1 hk), h.gsub⟩⟩
theorem St.unsep {C : Beg} {Γ L A B H G H' : RL} {w : World} (h : St C Γ H w) (hp : Pull (Res.sep L) H G) (hl : L.Perm (A ++ B)) (ha : App A (Res.sep B :: G) H') : St C Γ H' w := by
 have h1 := St.sep.1 (h.perm hp.perm)
 have h2 : St C Γ (Res.sep B :: (A ++ G)) w := St.sep.2 (h1.perm (by rw [← List.append_assoc]; exact (hl.trans List.perm_append_comm).append_right G))
 rw [← ha.eq]
 exact h2.perm List.perm_middle.symm
theorem St.resep {C : Beg} {Γ L A B H G : RL} {w : World} (h : St C Γ H w) (hp : Picks (Res.sep B :: A) H G) (hl : L.Perm (A ++ B)) : St C Γ (Res.sep L :: G) w := by
 have h1 : St C Γ (Res.sep B :: (A ++ G)) w := h.perm hp.perm
 exact St.sep.2 ((St.sep.1 h1).perm (by rw [← List.append_assoc]; exact ((hl.trans List.perm_append_comm).append_right G).symm))
section
variable {P : Program} {N : Nat} {C : Beg} {Q : Exit → Act → World → Prop} {E : Env} {Γ H : RL} {ty : TypeId} {ops : Array Oper} {rest : List Oper}
theorem JO.us {l : List Oper} {L A B G H' : RL} (hl : L.Perm (A ++ B)) (k : JO P N C ops l Q E Γ H') (hp : Pull (Res.sep L) H G := by (repeat (first | exact Pull.here _ _ | apply Pull.there)); first | done | fail)
  (ha : App A (Res.sep B :: G) H' := by (repeat (first | exact App.nil _ | apply App.cons)); first | done | fail) : JO P N C ops l Q E Γ H := fun hn a w he hs => k hn a w he (hs.unsep hp hl ha)
theorem JO.rs {l : List Oper} {L A B G : RL} (hl : L.Perm (A ++ B)) (k : JO P N C ops l Q E Γ (Res.sep L :: G)) (hp : Picks (Res.sep B :: A) H G := by (repeat (first | exact Picks.nil _ | apply Picks.cons | exact Pull.here _ _ | apply Pull.there)); first | done | fail) : JO P N C ops l Q E Γ H := fun hn a w he hs => k hn a w he (hs.resep hp hl)
theorem JC.us {c : Code} {L A B G H' : RL} (hl : L.Perm (A ++ B)) (k : JC P N C c Q E Γ H') (hp : Pull (Res.sep L) H G := by (repeat (first | exact Pull.here _ _ | apply Pull.there)); first | done | fail)
  (ha : App A (Res.sep B :: G) H' := by (repeat (first | exact App.nil _ | apply App.cons)); first | done | fail) : JC P N C c Q E Γ H := fun hn a w he hs => k hn a w he (hs.unsep hp hl ha)
theorem JC.rs {c : Code} {L A B G : RL} (hl : L.Perm (A ++ B)) (k : JC P N C c Q E Γ (Res.sep L :: G)) (hp : Picks (Res.sep B :: A) H G := by (repeat (first | exact Picks.nil _ | apply Picks.cons | exact Pull.here _ _ | apply Pull.there)); first | done | fail) : JC P N C c Q E Γ H := fun hn a w he hs => k hn a w he (hs.resep hp hl)
theorem JQ.rs {e : Exit} {L A B G : RL} (hl : L.Perm (A ++ B)) (k : JQ N C e Q E Γ (Res.sep L :: G)) (hp : Picks (Res.sep B :: A) H G := by (repeat (first | exact Picks.nil _ | apply Picks.cons | exact Pull.here _ _ | apply Pull.there)); first | done | fail) : JQ N C e Q E Γ H := fun hn a w he hs => k hn a w he (hs.resep hp hl)
theorem JQ.sp0 {e : Exit} (k : JQ N C e Q E Γ (Res.sep [] :: H)) : JQ N C e Q E Γ H := fun hn a w he hs => k hn a w he (St.sep.2 hs)
theorem JO.sp0 {l : List Oper} (k : JO P N C ops l Q E Γ (Res.sep [] :: H)) : JO P N C ops l Q E Γ H := fun hn a w he hs => k hn a w he (St.sep.2 hs)
theorem JR.us {T M U : Nat → Bool} {Γ0 H0 : RL} {l : OT} {L A B G H' : RL} (hl : L.Perm (A ++ B)) (k : JR P N C ops T M U Γ0 H0 l Q E Γ H') (hp : Pull (Res.sep L) H G := by (repeat (first | exact Pull.here _ _ | apply Pull.there)); first | done | fail)
  (ha : App A (Res.sep B :: G) H' := by (repeat (first | exact App.nil _ | apply App.cons)); first | done | fail) : JR P N C ops T M U Γ0 H0 l Q E Γ H := fun hn a w he hs => k hn a w he (hs.unsep hp hl ha)
theorem JR.rs {T M U : Nat → Bool} {Γ0 H0 : RL} {l : OT} {L A B G : RL} (hl : L.Perm (A ++ B)) (k : JR P N C ops T M U Γ0 H0 l Q E Γ (Res.sep L :: G)) (hp : Picks (Res.sep B :: A) H G := by (repeat (first | exact Picks.nil _ | apply Picks.cons | exact Pull.here _ _ | apply Pull.there)); first | done | fail) : JR P N C ops T M U Γ0 H0 l Q E Γ H := fun hn a w he hs => k hn a w he (hs.resep hp hl)
theorem JO.cv {l : List Oper} {r s : Res} {H' : RL} (hu : Upd H r s H') (hf : ∀ k, s.fp k ↔ r.fp k) (ho : ∀ w, r.ok w → s.ok w) (k : JO P N C ops l Q E Γ H') : JO P N C ops l Q E Γ H := fun hn a w he hs => by
 obtain ⟨G, h1, h2⟩ := hu.ex
 exact k hn a w he (((hs.perm h1).conv (fun k => (hf k).1) (ho w)).perm h2.symm)
theorem JC.k1 {c : Operand} {x y : Code} {e : Bool} (hc : ev E c = some (.bool e)) (he : e = true) (ht : JC P N C x Q E Γ H) : JC P N C (.cond c x y) Q E Γ H := by subst he; exact .ct hc ht
theorem JC.k0 {c : Operand} {x y : Code} {e : Bool} (hc : ev E c = some (.bool e)) (he : e = false) (hf : JC P N C y Q E Γ H) : JC P N C (.cond c x y) Q E Γ H := by subst he; exact .cf hc hf
end
theorem foldl_splice : ∀ (c zs : List Value) (o k : Nat), o + k + c.length ≤ zs.length → (c.zipIdx k).foldl (fun (cs : Array Value) (p : Value × Nat) => cs.setIfInBounds (o + p.2) p.1) zs.toArray = (splice zs (o + k) c).toArray
 | [], zs, o, k, _ => by simp [splice]
 | x :: c, zs, o, k, h => by
  simp only [List.length_cons] at h
  have ih := foldl_splice c (zs.set (o + k) x) o (k + 1) (by simp; omega)
  simp only [List.zipIdx_cons, List.foldl_cons]
  have e1 : (zs.toArray.setIfInBounds (o + k) x) = (zs.set (o + k) x).toArray := by simp
  rw [e1, ih]
  congr 1
  unfold splice
  have h1 : (zs.set (o + k) x).take (o + (k + 1)) = zs.take (o + k) ++ [x] := by
   rw [show o + (k + 1) = o + k + 1 by omega, List.take_add_one, List.take_set_of_le (Nat.le_refl _), List.getElem?_set_self (by omega)]
   rfl
  have h2 : (zs.set (o + k) x).drop (o + (k + 1) + c.length) = zs.drop (o + k + (x :: c).length) := by
   rw [List.drop_set_of_lt (by omega), List.length_cons]
   congr 1
   omega
  rw [h1, h2]
  simp
inductive FillL (place : Nat → Option (Nat × Nat)) : List Value → List (Nat × Value) → List Value → Prop
 | nil (zs : List Value) : FillL place zs [] zs
 | cons {zs cs c : List Value} {i off size : Nat} {v : Value} {rest : List (Nat × Value)} : place i = some (off, size) → v.cells = c.toArray → c.length = size → off + size ≤ zs.length → FillL place (splice zs off c) rest cs → FillL place zs ((i, v) :: rest) cs
theorem FillL.fill {place : Nat → Option (Nat × Nat)} {zs cs : List Value} {vs : List (Nat × Value)} (h : FillL place zs vs cs) : Instr.fill place zs.toArray vs = some cs.toArray := by
 induction h with
 | nil zs => rfl
 | @cons zs cs c i off size v rest hp hv hc hl _ ih =>
  have h1 : v.cells.size = size := by rw [hv]; simpa using hc
  unfold Instr.fill
  simp only [hp]
  rw [if_neg (by rw [h1]; simp; omega)]
  have h2 := foldl_splice c zs off 0 (by omega)
  rw [Nat.add_zero] at h2
  rw [hv]
  have h3 : (c.toArray.zipIdx.foldl (fun (cs : Array Value) (x : Value × Nat) => match x with | (c, j) => cs.setIfInBounds (off + j) c) zs.toArray) = (splice zs off c).toArray := by
   rw [← h2]
   simp
  rw [h3]
  exact ih
section
variable {P : Program} {N : Nat} {C : Beg} {E : Env} {Γ H : RL} {ty : TypeId}
end
def EqF (P : Program) (d : Nat) (w : World) (f : Field) (xs ys : Array Value) (b : Bool) : Prop :=
 f.name ≠ "_" ∧ ∃ u v, (part f.type xs f.offset).run P w = .ok u w ∧ (part f.type ys f.offset).run P w = .ok v w ∧ (Op.equalIn d f.type u v).run P w = .ok b w
inductive EqFs (P : Program) (d : Nat) (w : World) (xs ys : Array Value) : List Field → List Bool → Prop
 | nil : EqFs P d w xs ys [] []
 | cons {f : Field} {fs : List Field} {b : Bool} {bs : List Bool} : EqF P d w f xs ys b → EqFs P d w xs ys fs bs → EqFs P d w xs ys (f :: fs) (b :: bs)
theorem EqF.int {P : Program} {d : Nat} {w : World} {f : Field} {xs ys : Array Value} {q k : IntKind} {m n : Int} (ht : P.underlying f.type = some (.int q)) (hn : f.name ≠ "_") (hx : xs[f.offset]? = some (.int k m)) (hy : ys[f.offset]? = some (.int k n)) : EqF P (d + 1) w f xs ys (decide (m = n)) :=
 ⟨hn, _, _, run_parts ht rfl hx, run_parts ht rfl hy, by
  rw [Op.equalIn]
  simp [underlying, ht, Bool.beq_eq_decide_eq]⟩
theorem EqF.bool {P : Program} {d : Nat} {w : World} {f : Field} {xs ys : Array Value} {m n : Bool} (ht : P.underlying f.type = some .bool) (hn : f.name ≠ "_") (hx : xs[f.offset]? = some (.bool m)) (hy : ys[f.offset]? = some (.bool n)) : EqF P (d + 1) w f xs ys (decide (m = n)) :=
 ⟨hn, _, _, run_parts ht rfl hx, run_parts ht rfl hy, by
  rw [Op.equalIn]
  simp [underlying, ht]
  cases m <;> cases n <;> rfl⟩
abbrev FW (r : Option Nat) : Fence := { Fence.wide with round := r }
theorem callsFW {r : Option Nat} {n : Nat} {P : Program} {f : FuncId} {args : Array Value} {w : World} {R : Ending → World → Prop} : CallsIn (FW r) n P f args w R ↔ Calls P f args w R :=
 Iff.trans (Iff.of_eq rfl) (callsIn_wide (n := n))
theorem rowsFW {r : Option Nat} {n : Nat} {P : Program} {f : String} {args : Array Value} {w : World} {R : Value → World → Prop} (h : Rows P f args w R) : RowsIn (FW r) n P f args w R := fun c cs _ => by
 obtain ⟨v, w', hR, hs⟩ := h c cs
 exact ⟨v, w', hR, stepsIn_wide.2 hs⟩
structure Md where
 rd : Option Nat
 ds : List Deferred
def Md.up (m : Md) (a : Act) : Act := { a with defers := a.defers ++ m.ds }
@[simp] theorem Md.up_tmps (m : Md) (a : Act) : (m.up a).tmps = a.tmps := rfl
theorem Md.up_put (m : Md) (a : Act) (d : Option Tmp) (v : Value) : m.up (a.put d v) = (m.up a).put d v := by cases d <;> rfl
theorem Md.up_eval (m : Md) (a : Act) : (m.up a).eval = a.eval := rfl
def QU (m : Md) (Q : Exit → Act → World → Prop) : Exit → Act → World → Prop := fun e a w => Q e (m.up a) w
theorem NP.QU {m : Md} {Q : Exit → Act → World → Prop} (h : NP Q) : NP (QU m Q) := fun c a w => h c _ w
def noDefer (o : Oper) : Bool := match o.op with
 | .defer _ => false
 | _ => true
theorem noDefer_spec {o : Oper} (h : noDefer o = true) : ∀ c, o.op ≠ .defer c := fun c e => by unfold noDefer at h; rw [e] at h; cases h
section
variable {P : Program} {m : Md} {n : Nat} {Q Q1 : Exit → Act → World → Prop} {ops : Array Oper}
def NL (Q : Exit → Act → World → Prop) : Prop := ∀ a w, ¬ Q .outgrown a w
theorem uponIn_of {o : Oper} {a : Act} {K K' : Act → World → Prop} {r : Result Next} (hL : NL Q1) (hp : ∀ c a w, Q1 (.panic c) a w → Q (.panic c) (m.up a) w) (hK : ∀ a w, K a w → K' (m.up a) w) (h : o.upon P a K Q1 r) : o.uponIn (FW m.rd) n P (m.up a) K' Q r := by
 have hp' : ∀ (d : Option Tmp) (v : Value) (w : World), K (a.put d v) w → K' ((m.up a).put d v) w := fun d v w h => by rw [← m.up_put]; exact hK _ _ h
 have nl : ¬ LetsOut Q1 := fun ⟨a, w, h⟩ => hL _ w h
 cases r with
 | ok x w' =>
  cases x with
  | value v => exact hp' _ _ _ h
  | skip => exact hp' _ _ _ h
  | defer d =>
   have h1 := hK _ _ h
   rw [m.up_put] at h1
   exact h1
  | enter f args =>
   refine ⟨fun h => (by cases h), callsFW.2 (Calls.mono h fun e w'' he => ?_)⟩
   cases e with
   | returned v => exact hp' _ _ _ he
   | panicked c => exact hp _ _ _ he
   | outgrown => exact absurd he nl
  | row s args => exact ⟨fun h => (by cases h), rowsFW (Rows.mono h fun v w'' he => hp' _ _ _ he)⟩
  | _ => exact h.elim
 | halt x w' =>
  cases x with
  | panic v => exact hp _ _ _ h
  | _ => exact h.elim
theorem wpIn_of {o : Oper} {a : Act} {w : World} {K K' : Act → World → Prop} (hL : NL Q1) (hp : ∀ c a w, Q1 (.panic c) a w → Q (.panic c) (m.up a) w) (hd : noDefer o = true) (hK : ∀ a w, K a w → K' (m.up a) w) (h : o.wp P a w K Q1) : o.wpIn (FW m.rd) n P (m.up a) w K' Q := by
 refine ⟨fun _ _ => trivial, ?_⟩
 rw [Oper.semAt_eq _ _ _ (noDefer_spec hd)]
 exact uponIn_of hL hp hK h
theorem wpListIn_of {K : Act → World → Prop} (hL : NL Q) {l2 : List Oper} (hK : ∀ a w, K a w → wpListIn (FW m.rd) n P ops Q l2 (m.up a) w) : ∀ (l : List Oper), l.all noDefer = true → ∀ (a : Act) (w : World),
  wpList P ops (Exit.then K (QU m Q)) l a w → wpListIn (FW m.rd) n P ops Q (l ++ l2) (m.up a) w
 | [], _, a, w, h => hK _ _ h
 | o :: l, hd, a, w, h => by
  have nl : NL (Exit.then K (QU m Q)) := fun a w h => hL _ w h
  rw [List.all_cons, Bool.and_eq_true] at hd
  have ih := wpListIn_of hL hK l hd.2
  simp only [List.cons_append]
  unfold wpList at h
  unfold wpListIn
  by_cases hw : Region.wanted o (yielded ops (m.up a).tmps) = true
  ·have hw' : Region.wanted o (yielded ops a.tmps) = true := hw
   rw [if_pos hw'] at h
   rw [if_pos hw]
   rcases h with h | h
   ·exact wpIn_of nl (fun c a w h => h) hd.1 (K := wpList P ops (Exit.then K (QU m Q)) l) (fun a w h => ih a w h) h
   ·exact absurd h.2 (fun ⟨a, w, h⟩ => nl a w h)
  ·have hw' : ¬ Region.wanted o (yielded ops a.tmps) = true := hw
   rw [if_neg hw'] at h
   rw [if_neg hw]
   exact ⟨fun _ _ => trivial, by rw [← m.up_put]; exact ih _ _ h⟩
theorem wpOpIn_of {K K' : Act → World → Prop} {i : Nat} {a : Act} {w : World} (hL : NL Q) (hd : ops.toList.all noDefer = true) (hK : ∀ a w, K a w → K' (m.up a) w) (h : wpOp P ops (QU m Q) i K a w) : wpOpIn (FW m.rd) n P ops Q i K' (m.up a) w := by
 have nl : NL (QU m Q) := fun a w h => hL _ w h
 unfold wpOp at h
 unfold wpOpIn
 split
 ·rename_i h0
  simp only [h0] at h
  exact hK _ _ h
 ·rename_i o ho
  simp only [ho] at h
  have hdo : noDefer o = true := List.all_eq_true.1 hd o (by rw [Array.getElem?_toList.symm] at ho; exact List.mem_of_getElem? ho)
  by_cases hw : Region.wanted o (yielded ops (m.up a).tmps) = true
  ·have hw' : Region.wanted o (yielded ops a.tmps) = true := hw
   rw [if_pos hw'] at h
   rw [if_pos hw]
   rcases h with h | h
   ·exact wpIn_of nl (fun c a w h => h) hdo hK h
   ·exact absurd h.2 (fun ⟨a, w, h⟩ => nl a w h)
  ·have hw' : ¬ Region.wanted o (yielded ops a.tmps) = true := hw
   rw [if_neg hw'] at h
   rw [if_neg hw]
   exact ⟨fun _ _ => trivial, by rw [← m.up_put]; exact hK _ _ h⟩
theorem wpAnyIn_of {md : Region.Mode} (hL : NL Q) (hd : ops.toList.all noDefer = true) : ∀ (fuel : Nat) (listed : Array Bool) (a : Act) (w : World), wpAny P md ops (QU m Q) fuel listed a w → wpAnyIn (FW m.rd) n P md ops Q fuel listed (m.up a) w
 | 0, _, _, _, h => h
 | fuel + 1, listed, a, w, h => ⟨h.1, fun i hi => wpOpIn_of hL hd (fun a w h => wpAnyIn_of hL hd fuel _ a w h) (h.2 i hi)⟩
end
class NPL (Q : Exit → Act → World → Prop) : Prop where
 np : NP Q
 nl : NL Q
instance NPL.then {K : Act → World → Prop} {Q : Exit → Act → World → Prop} [h : NPL Q] : NPL (Exit.then K Q) := ⟨h.np.then, fun a w hq => h.nl a w hq⟩
instance NPL.inBlock {id : Nat} {Q : Exit → Act → World → Prop} [h : NPL Q] : NPL (Exit.inBlock id Q) := ⟨h.np.inBlock, fun a w hq => h.nl a w hq⟩
instance NPL.round {P : Program} {l : Nat} {R : Ending → World → Prop} : NPL (roundPost P l R) := ⟨fun _ _ _ h => h, fun _ _ h => h⟩
def JX (P : Program) (N : Nat) (m : Md) (C : Beg) (c : Code) (Q : Exit → Act → World → Prop) (E : Env) (Γ H : RL) : Prop :=
 ∀ a w, EnvOk N E a → St C Γ H w → c.wpIn (FW m.rd) 0 P Q (m.up a) w
def JXO (P : Program) (N : Nat) (m : Md) (C : Beg) (ops : Array Oper) (l : List Oper) (Q : Exit → Act → World → Prop) (E : Env) (Γ H : RL) : Prop :=
 ∀ a w, EnvOk N E a → St C Γ H w → wpListIn (FW m.rd) 0 P ops Q l (m.up a) w
section
variable {P : Program} {N : Nat} {m : Md} {C : Beg} {Q : Exit → Act → World → Prop} {E : Env} {Γ H : RL}
theorem JX.seq {x y : Code} (h : JX P N m C x (Exit.then (y.wpIn (FW m.rd) 0 P Q) Q) E Γ H) : JX P N m C (.seq x y) Q E Γ H := fun a w he hs => wpIn_seq (h a w he hs)
theorem JX.skip [hn : NPL Q] (h : JQ N C .normal (QU m Q) E Γ H) : JX P N m C .skip Q E Γ H := fun a w he hs => wpIn_skip (h hn.np.QU a w he hs)
theorem JX.exit [hn : NPL Q] {id : Nat} (h : JQ N C (.exit id) (QU m Q) E Γ H) : JX P N m C (.exit id) Q E Γ H := fun a w he hs => wpIn_exit (h hn.np.QU a w he hs)
theorem JX.ret [hn : NPL Q] (h : JQ N C .ret (QU m Q) E Γ H) : JX P N m C .ret Q E Γ H := fun a w he hs => wpIn_ret (h hn.np.QU a w he hs)
theorem JX.block {id : Nat} {c : Code} (h : JX P N m C c (Exit.inBlock id Q) E Γ H) : JX P N m C (.block id c) Q E Γ H := fun a w he hs => wpIn_block (h a w he hs)
theorem JX.cond {c : Operand} {x y : Code} {t : Bool} (hc : ev E c = some (.bool t)) (ht : t = true → JX P N m C x Q E Γ H) (hf : t = false → JX P N m C y Q E Γ H) : JX P N m C (.cond c x y) Q E Γ H :=
 fun a w he hs => wpIn_cond_split (by rw [m.up_eval]; exact he.ev hc) (fun e => ht e a w he hs) (fun e => hf e a w he hs)
theorem JX.cn {c : Operand} {x y : Code} {b : Bool} {p q : Prop} [hb : NB b p q] (hc : ev E c = some (.bool b)) (ht : p → JX P N m C x Q E Γ H) (hf : q → JX P N m C y Q E Γ H) : JX P N m C (.cond c x y) Q E Γ H :=
 .cond hc (fun e => ht (hb.t e)) (fun e => hf (hb.f e))
theorem JX.ct {c : Operand} {x y : Code} (hc : ev E c = some (.bool true)) (ht : JX P N m C x Q E Γ H) : JX P N m C (.cond c x y) Q E Γ H := .cond hc (fun _ => ht) (fun e => by cases e)
theorem JX.cf {c : Operand} {x y : Code} (hc : ev E c = some (.bool false)) (hf : JX P N m C y Q E Γ H) : JX P N m C (.cond c x y) Q E Γ H := .cond hc (fun e => by cases e) (fun _ => hf)
theorem JX.k1 {c : Operand} {x y : Code} {e : Bool} (hc : ev E c = some (.bool e)) (he : e = true) (ht : JX P N m C x Q E Γ H) : JX P N m C (.cond c x y) Q E Γ H := by subst he; exact .ct hc ht
theorem JX.k0 {c : Operand} {x y : Code} {e : Bool} (hc : ev E c = some (.bool e)) (he : e = false) (hf : JX P N m C y Q E Γ H) : JX P N m C (.cond c x y) Q E Γ H := by subst he; exact .cf hc hf
theorem JX.know {c : Code} {φ : Prop} (hφ : ∀ w, Sat Γ H w → φ) (h : φ → JX P N m C c Q E Γ H) : JX P N m C c Q E Γ H := fun a w he hs => h (hφ w hs.sat) a w he hs
theorem JX.region [hn : NPL Q] {id : Nat} {l : List Oper} (h : JO P N C l.toArray l (QU m Q) E Γ H) (hd : l.all noDefer = true := by rfl) : JX P N m C (.region id l.toArray false) Q E Γ H := fun a w he hs => by
 refine wpIn_region_lit ?_
 have h1 := h hn.np.QU a w he hs
 have h2 : wpList P l.toArray (Exit.then (fun a w => QU m Q .normal a w) (QU m Q)) l a w := by
  have : Exit.then (fun a w => QU m Q .normal a w) (QU m Q) = QU m Q := by funext e a w; cases e <;> rfl
  rw [this]; exact h1
 have h3 := wpListIn_of (n := 0) (ops := l.toArray) (l2 := []) hn.nl (fun a w h => wpListIn_nil h) l hd a w h2
 rwa [List.append_nil] at h3
theorem JX.draw [hn : NPL Q] {id : Nat} {ops : Array Oper} (l : OT) (T M U : Nat → Bool) (hm : P.follows .mixedOrders = true) (hs : Region.noSelect ops = true) (hl : l.len ≤ ops.size)
  (hc : chkOrd .any ops T M U true l (Array.replicate ops.size false) = true) (h : JR P N C ops T M U Γ H l (QU m Q) E Γ H) (hd : ops.toList.all noDefer = true := by rfl) : JX P N m C (.region id ops true) Q E Γ H :=
 fun a w he hst => by
  refine wpIn_region_any hm ?_
  have h1 := wpAny_of_T _ _ _ _ ((wpAnyT_of_ord hs hn.np.QU l).1 _ _ _ _ hl hc (St.keep0 hst.drew) (.inl hst.drew) (h hn.np.QU a _ he hst.drew))
  exact wpAnyIn_of hn.nl hd _ _ _ _ h1
theorem JXO.pre [hn : NPL Q] {ops : Array Oper} (k : Nat) {l : List Oper} (h : JO P N C ops (l.take k) (Exit.then (fun a w => wpListIn (FW m.rd) 0 P ops Q (l.drop k) (m.up a) w) (QU m Q)) E Γ H) (hd : (l.take k).all noDefer = true := by rfl) : JXO P N m C ops l Q E Γ H := fun a w he hs => by
 have h1 := wpListIn_of (n := 0) (ops := ops) (l2 := l.drop k) hn.nl (fun a w h => h) (l.take k) hd a w (h hn.np.QU.then a w he hs)
 rwa [List.take_append_drop] at h1
theorem JXO.nil [hn : NPL Q] {ops : Array Oper} (h : JQ N C .normal (QU m Q) E Γ H) : JXO P N m C ops [] Q E Γ H := fun a w he hs => wpListIn_nil (h hn.np.QU a w he hs)
end
section
variable {P : Program} {N : Nat} {m : Md} {C : Beg} {Q : Exit → Act → World → Prop} {E : Env} {Γ H : RL}
theorem JX.lp {ι : Type} {c : Code} (pr : ι → Prop) (IE : Env → ι → Env) (IΓ IH : RL → ι → RL) (μ : ι → Nat) (x0 : ι) (keep : List Nat) {E' : Env} {G : RL} (h0 : pr x0)
  (round : ∀ x, pr x → JX P N m C c (Exit.then (fun a w => ∃ a0, a = m.up a0 ∧ Head N C (IE E') (IΓ Γ) (IH G) (fun y => pr y ∧ μ y < μ x) a0 w) Q) (IE E' x) (IΓ Γ x) (IH G x))
  (hk : KeepE keep E E' := by (repeat (first | exact KeepE.nil _ | (apply KeepE.cons; rfl) | apply KeepE.skip)); first | done | fail) (hE : Sub (IE [] x0) E := by (repeat (first | exact trivial | (refine ⟨?_, ?_⟩; focus (first | rfl | (simp; done) | fail)))); first | done | fail) (hH : Picks (IH [] x0) H G := by (repeat (first | exact Picks.nil _ | apply Picks.cons | exact Pull.here _ _ | apply Pull.there)); first | done | fail) (hg : Subs (IΓ [] x0) Γ := by (repeat (first | exact Subs.nil _ | apply Subs.cons | exact List.Mem.head _ | refine List.Mem.tail _ ?_)); first | done | fail)
  (e1 : ∀ T x, IE T x = IE [] x ++ T := by exact fun _ _ => rfl) (e2 : ∀ T x, IH T x = IH [] x ++ T := by exact fun _ _ => rfl) (e3 : ∀ T x, IΓ T x = IΓ [] x ++ T := by exact fun _ _ => rfl) : JX P N m C (.loop c) Q E Γ H := by
 intro a w he hs
 refine wpIn_loop_ghost (fun n a w => ∃ x a0, a = m.up a0 ∧ pr x ∧ μ x = n ∧ EnvOk N (IE E' x) a0 ∧ St C (IΓ Γ x) (IH G x) w) (μ x0) ⟨x0, a, rfl, h0, rfl, ?_, ?_⟩ ?_
 ·rw [e1]; exact (he.sub hE).app (he.sub hk.sub)
 ·rw [e2, e3]
  have h1 : St C Γ (IH [] x0 ++ G) w := hs.perm hH.perm
  exact (h1.perm (show (IH [] x0 ++ G).Perm ((IH [] x0 ++ G) ++ []) by rw [List.append_nil])).weak fun r hr => (List.mem_append.1 hr).elim (hg.sub r) id
 rintro n a w ⟨x, a0, rfl, hx, rfl, hea, hst⟩
 refine wpIn_mono (round x hx a0 w hea hst) ?_
 intro e a' w' h
 cases e with
 | normal =>
  obtain ⟨b0, rfl, y, ⟨hy0, hy⟩, hea', hst'⟩ := h
  exact ⟨μ y, hy, y, b0, rfl, hy0, rfl, hea', hst'⟩
 | _ => exact h
theorem JQ.x0 {r : Option Nat} {e : Exit} (h : JQ N C e Q E Γ H) : JQ N C e (QU ⟨r, []⟩ Q) E Γ H := fun hn a w he hs => by
 have hu : ∀ a : Act, (⟨r, []⟩ : Md).up a = a := fun a => by simp [Md.up]
 have h1 := h (fun c a w hq => hn c a w (by unfold QU; rw [hu]; exact hq)) a w he hs
 unfold QU
 rw [hu]
 exact h1
end
def Res.ob (b : Nat) (o : Obj) : Res where
 fp k := k = b
 ok w := w.heap[b]? = some o
 loc _ _ h ho := (h b rfl).trans ho
attribute [irreducible] Res.ob
def YSpec (P : Program) (l : Nat) (args : Array Value) (Γ H : RL) (post : Value → RL → RL → Prop) : Prop := ∀ w, Sat Γ H w → YieldAt (FW none) 0 P l args w (SpecPost Γ H post w)
section
variable {P : Program} {N : Nat} {m : Md} {C : Beg} {Q : Exit → Act → World → Prop} {E : Env} {Γ H : RL} {ops : Array Oper} {rest : List Oper} {ty : TypeId}
theorem JXO.yield {d l : Nat} {pos : String} {aft : Array Edge} {x : Operand} {xs : List Operand} {vs : List Value} {AT : Array TypeId} {Γc Hc G : RL} {post : Value → RL → RL → Prop} (hY : YSpec P l vs.toArray Γc Hc post)
  (h : ∀ v H1, post v [] H1 → AppJ H1 G (JXO P N m C ops rest Q ((d, v) :: E) Γ)) (hx : ev E x = some (.func (.yield l) #[] #[]) := by rfl) (hxs : evs E xs = some vs := by rfl)
  (hp : Picks Hc H G := by (repeat (first | exact Picks.nil _ | apply Picks.cons | exact Pull.here _ _ | apply Pull.there)); first | done | fail) (hg : Lends Γc (G ++ Γ) := by (repeat (first | exact Lends.nil _ | apply Lends.cons | exact Lend.same _ _ | exact Lend.row _ _ _ _ _ _ (by decide) | apply Lend.there)); first | done | fail)
  (h0 : ∀ v Γ1 H1, post v Γ1 H1 → Γ1 = [] := by rintro _ _ _ ⟨_, h, _⟩; exact h) (hd : d < N := by decide) :
  JXO P N m C ops (⟨some d, .call { callee := .value x, args := xs.toArray, argTypes := AT }, ty, pos, aft, none⟩ :: rest) Q E Γ H := by
 intro a w he hs
 have hst := hs.perm hp.perm
 obtain ⟨fn, tmps, assign, body, hy, hR⟩ := hY w (hst.sat.lend hg)
 unfold wpListIn
 rw [if_pos (by simp [Region.wanted])]
 refine ⟨fun _ _ => trivial, ?_⟩
 rw [Oper.semAt_eq _ _ _ (fun c e => by cases e)]
 have hr : (execOp (m.up a).eval ⟨some d, .call { callee := .value x, args := xs.toArray, argTypes := AT }, ty, pos, aft, none⟩).run P w = .ok (.round l fn tmps assign body) w := by
  rw [m.up_eval]
  have h2 : xs.toArray.map a.eval = vs.toArray := by rw [← he.evs hxs]; simp
  simp only [execOp, resolve, Deferred.ofValue, he.ev hx, h2, Sem.run_bind, Sem.run_pure, Result.andThen_ok, invoke]
  have := hy
  simpa using this
 rw [hr]
 refine ⟨fun h => (by cases h), RoundIn.mono hR ?_⟩
 rintro e w' ⟨v, Γ', H', rfl, hpost, hst'⟩
 have e0 := h0 _ _ _ hpost
 subst e0
 have hst2 : St ⟨w, [], Hc⟩ [] H' w' := by
  refine ⟨⟨by simp, by simp, hst'.sat.hok, hst'.sat.hlt, hst'.sat.hdj, by simp⟩, hst'.stp, hst'.hsub, ?_⟩
  rintro k ⟨r, hr, _⟩
  cases hr
 have h3 := hst.frame (Γc := []) (by simp) hst2
 have h4 := (show JXO P N m C ops rest Q ((d, v) :: E) Γ (H' ++ G) from by have := h v H' hpost; unfold AppJ at this; exact this) (a.put (some d) v) w' (he.put d hd v) (by simpa using h3)
 rw [m.up_put] at h4
 exact h4
theorem JXO.tail [hn : NPL Q] {l : List Oper} (h : JO P N C ops l (QU m Q) E Γ H) (hd : l.all noDefer = true := by rfl) : JXO P N m C ops l Q E Γ H := fun a w he hs => by
 have h1 := h hn.np.QU a w he hs
 have h2 : wpList P ops (Exit.then (fun a w => QU m Q .normal a w) (QU m Q)) l a w := by
  have : Exit.then (fun a w => QU m Q .normal a w) (QU m Q) = QU m Q := by funext e a w; cases e <;> rfl
  rw [this]; exact h1
 have h3 := wpListIn_of (n := 0) (ops := ops) (l2 := []) hn.nl (fun a w h => wpListIn_nil h) l hd a w h2
 rwa [List.append_nil] at h3
end
instance NPL.body {P : Program} {fn : Func} {Γ H : RL} {post : Value → RL → RL → Prop} {w : World} : NPL (bodyPost P fn (SpecPost Γ H post w)) :=
 ⟨fun c a w' h => (by obtain ⟨_, v, _, _, he, _⟩ := h; cases he), fun a w' h => (by obtain ⟨v, _, _, he, _⟩ := h; cases he)⟩
def endM (P : Program) (fn : Func) (R : Ending → World → Prop) : Exit → Act → World → Prop
 | .normal, a, w | .ret, a, w => LeavesInM (FW none) 0 P fn a.tmps R a.defers .returning w
 | _, _, _ => False
instance NPL.endM {P : Program} {fn : Func} {R : Ending → World → Prop} : NPL (endM P fn R) := ⟨fun _ _ _ h => h, fun _ _ h => h⟩
section
variable {P : Program} {N : Nat} {m : Md} {C : Beg} {Q : Exit → Act → World → Prop} {E : Env} {Γ H : RL}
instance NPL.never : NPL (fun _ _ _ => False) := ⟨fun _ _ _ h => h, fun _ _ h => h⟩
theorem lk_zip {tmps : Array Value} {N : Nat} : ∀ (ps : List Tmp) (vs : List Value), tmps.size = N → (∀ p ∈ ps, p < N) → ps.Nodup → ∀ t v, lk (ps.zip vs) t = some v → ((ps.zip vs).foldl (fun t (p, v) => t.setIfInBounds p v) tmps).getD t undef = v
 | [], _, _, _, _, _, _, h => by cases h
 | p :: ps, [], _, _, _, _, _, h => by cases h
 | p :: ps, v :: vs, hN, hlt, hnd, t, u, h => by
  rw [List.nodup_cons] at hnd
  simp only [List.zip_cons_cons, List.foldl_cons]
  simp only [List.zip_cons_cons, lk] at h
  have keep : ∀ (l : List (Tmp × Value)) (T : Array Value), t ∉ l.map (·.1) → (l.foldl (fun t (p, v) => t.setIfInBounds p v) T).getD t undef = T.getD t undef := fun l => by
   induction l with
   | nil => intro T _; rfl
   | cons a l ih =>
    intro T hT
    simp only [List.map_cons, List.mem_cons, not_or] at hT
    rw [List.foldl_cons, ih _ hT.2]
    simp only [Array.getD_eq_getD_getElem?]
    rw [Array.getElem?_setIfInBounds_ne (Ne.symm hT.1)]
  split at h
  ·rename_i e
   subst e
   obtain rfl := Option.some.inj h
   rw [keep _ _ (fun hm => by
    obtain ⟨x, hx, rfl⟩ := List.mem_map.1 hm
    exact hnd.1 (List.of_mem_zip hx).1)]
   have : p < tmps.size := by rw [hN]; exact hlt p (.head _)
   simp [this]
  ·exact lk_zip ps vs (by simpa using hN) (fun q hq => hlt q (.tail _ hq)) hnd.2 t u h
theorem keep_zip {tmps : Array Value} {t : Nat} : ∀ (l : List (Tmp × Value)) (T : Array Value), t ∉ l.map (·.1) → (l.foldl (fun t (p, v) => t.setIfInBounds p v) T).getD t undef = T.getD t undef := fun l => by
 induction l with
 | nil => intro T _; rfl
 | cons a l ih =>
  intro T hT
  simp only [List.map_cons, List.mem_cons, not_or] at hT
  rw [List.foldl_cons, ih _ hT.2]
  simp only [Array.getD_eq_getD_getElem?]
  rw [Array.getElem?_setIfInBounds_ne (Ne.symm hT.1)]
theorem size_zip : ∀ (l : List (Tmp × Value)) (T : Array Value), (l.foldl (fun t (p, v) => t.setIfInBounds p v) T).size = T.size
 | [], _ => rfl
 | a :: l, T => by rw [List.foldl_cons, size_zip l]; simp
theorem lk_none {l : List (Tmp × Value)} {t : Nat} (h : lk l t = none) : t ∉ l.map (·.1) := by
 induction l with
 | nil => simp
 | cons a l ih =>
  simp only [lk] at h
  split at h
  ·cases h
  ·rename_i hne
   simp only [List.map_cons, List.mem_cons, not_or]
   exact ⟨fun e => hne e.symm, ih h⟩
theorem EnvOk.round {a : Act} {ps : Array Tmp} {vs : List Value} (he : EnvOk N E a) (hlt : ∀ p ∈ ps.toList, p < N) (hnd : ps.toList.Nodup) : EnvOk N (ps.toList.zip vs ++ E) { tmps := (ps.zip vs.toArray).foldl (fun t (p, v) => t.setIfInBounds p v) a.tmps, defers := [] } := by
 have e : (ps.zip vs.toArray).foldl (fun t (p, v) => t.setIfInBounds p v) a.tmps = (ps.toList.zip vs).foldl (fun t (p, v) => t.setIfInBounds p v) a.tmps := by
  rw [← Array.foldl_toList, Array.toList_zip]
 refine ⟨rfl, ?_, fun t v ht => ?_⟩
 ·rw [e, size_zip]; exact he.sz
 ·rw [e]
  rw [lk_append] at ht
  cases h : lk (ps.toList.zip vs) t with
  | some u =>
   rw [h] at ht
   obtain rfl := Option.some.inj ht
   exact lk_zip _ _ he.sz hlt hnd t _ h
  | none =>
   rw [h] at ht
   rw [keep_zip (tmps := a.tmps) _ _ (lk_none h)]
   exact he.val t v ht
end
def bytesP (A : Pcs) : List B8 := A.map Prod.snd
theorem Spec.from {P : Program} {f : FuncId} {args : Array Value} {Γ Γ2 H : RL} {post : Value → RL → RL → Prop} (h : Spec P f args Γ H post) (hf : ∀ r ∈ Γ, ∀ k, r.fp k → ∃ s ∈ Γ2, s.fp k) (ho : ∀ w, (∀ s ∈ Γ2, s.ok w) → ∀ r ∈ Γ, r.ok w) : Spec P f args Γ2 H post := by
 intro w hs
 have h1 : Sat Γ H w := by
  refine ⟨ho w hs.gok, ?_, hs.hok, hs.hlt, hs.hdj, ?_⟩
  ·intro r hr k hk
   obtain ⟨s, hs', hk'⟩ := hf r hr k hk
   exact hs.glt s hs' k hk'
  ·intro r hr s hs' k hk hk'
   obtain ⟨q, hq, hk2⟩ := hf r hr k hk
   exact hs.ghd q hq s hs' k hk2 hk'
 refine Calls.mono (h w h1) ?_
 rintro e w' ⟨v, Γ', H', rfl, hp, hst⟩
 refine ⟨v, Γ', H', rfl, hp, ⟨hst.sat, hst.stp, hst.hsub, ?_⟩⟩
 intro k hk
 rcases hst.gsub k hk with ⟨r, hr, hk2⟩ | h2
 ·obtain ⟨s, hs', hk3⟩ := hf r hr k hk2
  exact .inl ⟨s, hs', hk3⟩
 ·exact .inr h2
theorem JR.open {P : Program} {N : Nat} {C : Beg} {ops : Array Oper} {Q : Exit → Act → World → Prop} {E : Env} {Γ H : RL} {T M U : Nat → Bool} {Γ0 H0 : RL} {l : OT} {G : RL} {r : Res} (hm : Res.all G ∈ Γ) (hr : r ∈ G) (k : JR P N C ops T M U Γ0 H0 l Q E (r :: Γ) H) : JR P N C ops T M U Γ0 H0 l Q E Γ H := fun hq a w he hs => k hq a w he (hs.open hm hr)
theorem one_u8s {b : B8} : ∀ a ∈ b.map u8, a.oneCell' = true := fun a ha => by obtain ⟨x, _, rfl⟩ := List.mem_map.1 ha; rfl
theorem take_snocP {l : Pcs} {k : Nat} (h : k < l.length) : bytesP (l.take (k + 1)) = bytesP (l.take k) ++ [(pcAt l k).2] := by
 have : l.take (k + 1) = l.take k ++ [pcAt l k] := by
  rw [List.take_add_one, pcAt, List.getD_eq_getElem?_getD, List.getElem?_eq_getElem h]; rfl
 rw [this, bytesP, List.map_append]; rfl
theorem bytesP_len (l : Pcs) : (bytesP l).length = l.length := List.length_map ..
theorem bytesP_get {l : Pcs} {k : Nat} (h : k < l.length) : (bytesP l).take (k + 1) = (bytesP l).take k ++ [(pcAt l k).2] := by
 have := take_snocP h
 simpa [bytesP, List.map_take] using this
end Go.Proofs.YtmhiapebljfebaaGreatDoor

/- Lists of numbers, and pieces of bytes, as_ they come in. -/
namespace Go.Proofs.YtmhiapebljfebaaGreatDoor
open Go.ChangeShapes Go.WideShapes Go.ChangeAt Go.RowKit
set_option maxRecDepth 100000
variable {H : Type} {enc : TypeId × Value → H} {w : World}
theorem came_ws {v : Value} (h : Came enc Tryz.prog w 25 [v]) : ∃ l : List W64, Rds w [Res.rd v l.length 1 (l.map u64)] := by
 obtain ⟨n, xs, h1, h2⟩ := h.slice (size := 1) Tryz.underlying25 (by kernel_rfl) (by decide)
 obtain ⟨l, rfl, rfl, _⟩ := pieces (f := fun x => [u64 x]) (p := fun _ => True) (s := 1) (by decide) n xs (by obtain ⟨_, _, _, hl, _⟩ := h1; exact hl) (fun i hi => by
  obtain ⟨x, hx⟩ := (h2 i hi).u64 Tryz.underlying22
  exact ⟨x, hx, trivial⟩)
 rw [map_flat] at h1
 exact ⟨l, Rds.one h1⟩
def brF (r m t : Nat) : Nat := if m ≤ 2 * r + t then 2 * r + t - m else 2 * r + t
def brG (r m t : Nat) : Nat := if m ≤ 2 * r + t then 1 else 0

theorem wd_len' {n : Nat} : (wd n).length = 4 := rfl
def wordN (a : Nat) (i : Int) : W64 := if 0 ≤ i ∧ i < 4 then wat a i.toNat else 0
theorem shift_w (a : Nat) {x : Nat} (h : x < 4) : (wordN a x <<< 1) ||| (wordN a ((x : Int) - 1) >>> 1 >>> 62) = wat (2 * a) x := by
 rw [wordN, if_pos (by omega), Int.toNat_natCast]
 by_cases h0 : x = 0
 ·subst h0
  rw [wordN, if_neg (by omega)]
  exact shift_word0 a
 ·rw [wordN, if_pos (by omega), show ((x : Int) - 1).toNat = x - 1 by omega]
  exact shift_word a h (by omega)
theorem shr_1_6 {P : Program} {T : TypeId} {x y : Operand} : BinR P .shr T x y (it 1) (.int .u64 6) (it 0) := .ints2 (k := .i64) (k' := .u64) (m := 1) (n := 6) (v := it 0) fun _ => rfl
theorem and_1_63 {P : Program} {T : TypeId} {x y : Operand} : BinR P .and T x y (it 1) (.int .i64 63) (it 1) := .ints (k := .i64) (m := 1) (n := 63) (v := it 1) fun _ => rfl
theorem dbl_or' (r : Nat) {t : Nat} (ht : t < 2) : ((wd (2 * r)).map u64).set 0 (u64 (wat (2 * r) 0 ||| BitVec.ofNat 64 t)) = (wd (2 * r + t)).map u64 := by
 have h := dbl_or (a := r) (bit := BitVec.ofNat 64 t) (by rw [BitVec.toNat_ofNat]; omega)
 rw [BitVec.toNat_ofNat, Nat.mod_eq_of_lt (by omega)] at h
 rw [← h, List.map_set]
theorem over_t {r m t : Nat} (hr : r < m) (hm : m < 115792089237316195423570985008687907853269984665640564039457584007913129639936) (h : bitN r 255 = 1#64) : m ≤ 2 * r + t := by
 have h := congrArg BitVec.toNat h
 simp only [bitN, BitVec.toNat_ofNat] at h
 have : (2 : Nat) ^ 255 = 57896044618658097711785492504343953926634992332820282019728792003956564819968 := rfl
 rw [this] at h
 omega
theorem over_f {r t : Nat} (hr : r < 115792089237316195423570985008687907853269984665640564039457584007913129639936) (ht : t < 2) (h : ¬ bitN r 255 = 1#64) : 2 * r + t < 115792089237316195423570985008687907853269984665640564039457584007913129639936 := by
 have h : ¬ (bitN r 255).toNat = 1 := fun e => h (BitVec.eq_of_toNat_eq e)
 simp only [bitN, BitVec.toNat_ofNat] at h
 have : (2 : Nat) ^ 255 = 57896044618658097711785492504343953926634992332820282019728792003956564819968 := rfl
 rw [this] at h
 omega
theorem cmp_ge (a b : Nat) : cmpN a b ≥ 0 ↔ b ≤ a := by unfold cmpN; split <;> (try split) <;> omega
theorem sub_br {x m : Nat} (h : m ≤ x) (_hx : x < 2 * 115792089237316195423570985008687907853269984665640564039457584007913129639936) (hm : m < 115792089237316195423570985008687907853269984665640564039457584007913129639936) : wd (115792089237316195423570985008687907853269984665640564039457584007913129639936 + x % 115792089237316195423570985008687907853269984665640564039457584007913129639936 - m) = wd (x - m) := by
 rw [← wd_mod (115792089237316195423570985008687907853269984665640564039457584007913129639936 + x % 115792089237316195423570985008687907853269984665640564039457584007913129639936 - m), ← wd_mod (x - m)]
 congr 1
 omega
def remF (a m : Nat) : Nat := if m = 0 then 0 else a % m
theorem rest_step' {a m k : Nat} (hm : 0 < m) : restK a m k = brF (restK a m (k + 1)) m (a / 2 ^ k % 2) := rest_step hm
theorem quo_setv {a m k : Nat} (hm : 0 < m) (hk : k < 256) : ((wd (quoK a m (k + 1))).map u64).set (k / 64) (u64 (wat (quoK a m (k + 1)) (k / 64) ||| (BitVec.ofNat 64 (brG (restK a m (k + 1)) m (a / 2 ^ k % 2)) <<< (k % 64)))) = (wd (quoK a m k)).map u64 := by
 have hg : brG (restK a m (k + 1)) m (a / 2 ^ k % 2) < 2 := by unfold brG; split <;> omega
 rw [← List.map_set, quo_set hk hg (quo_dvd a m (k + 1))]
 exact congrArg (fun n => (wd n).map u64) (quo_step hm).symm
theorem prod_lt (x y : W64) : x.toNat * y.toNat < 115792089237316195423570985008687907853269984665640564039457584007913129639936 := by
 have h1 := Nat.mul_lt_mul'' x.isLt y.isLt
 have : (2 : Nat) ^ 64 * 2 ^ 64 < 115792089237316195423570985008687907853269984665640564039457584007913129639936 := by decide
 omega
def totN (l : List W64) : Nat := (l.map BitVec.toNat).sum % 115792089237316195423570985008687907853269984665640564039457584007913129639936
theorem tot_lt (l : List W64) : totN l < 115792089237316195423570985008687907853269984665640564039457584007913129639936 := Nat.mod_lt _ (by decide)
theorem w_lt (x : W64) : x.toNat < 115792089237316195423570985008687907853269984665640564039457584007913129639936 := by have := x.isLt; omega
theorem tot_succ {l : List W64} {x : Nat} (h : x < l.length) : wd (totN (l.take x) + (l.getD x 0).toNat) = wd (totN (l.take (x + 1))) := by
 rw [← wd_mod]
 congr 1
 unfold totN
 rw [List.take_add_one, List.getElem?_eq_getElem h, List.getD_eq_getElem?_getD, List.getElem?_eq_getElem h]
 simp only [Option.toList_some, Option.getD_some, List.map_append, List.map_cons, List.map_nil, List.sum_append_nat, List.sum_cons, List.sum_nil]
 omega
theorem tot_0 (l : List W64) : totN (l.take 0) = 0 := by simp [totN]
attribute [irreducible] brF brG totN
def val : List W64 → Nat
 | [] => 0
 | x :: l => x.toNat + 18446744073709551616 * val l
theorem val_set : ∀ (ws : List W64) (k : Nat) (x : W64), k < ws.length → val (ws.set k x) + (ws.getD k 0).toNat * 18446744073709551616 ^ k = val ws + x.toNat * 18446744073709551616 ^ k
 | [], k, x, h => by simp at h
 | w :: ws, 0, x, _ => by simp [val]; omega
 | w :: ws, k + 1, x, h => by
  have ih := val_set ws k x (by simpa using h)
  simp only [List.set_cons_succ, val, List.getD_cons_succ, Nat.pow_succ]
  have h1 : ∀ a b c d : Nat, a + c * b = d → ∀ B, B * a + c * (b * B) = B * d := fun a b c d e B => by rw [← e, Nat.mul_add]; congr 1; rw [← Nat.mul_assoc, Nat.mul_comm]
  have e1 := h1 _ _ _ _ ih 18446744073709551616
  rw [Nat.mul_add] at e1
  have e2 : 18446744073709551616 * (x.toNat * 18446744073709551616 ^ k) = x.toNat * (18446744073709551616 ^ k * 18446744073709551616) := by rw [Nat.mul_left_comm, Nat.mul_comm 18446744073709551616]
  omega
def wd8 (n : Nat) : List W64 := (List.range 8).map fun j => BitVec.ofNat 64 (n / 18446744073709551616 ^ j)
@[simp] theorem wd8_len (n : Nat) : (wd8 n).length = 8 := rfl
theorem val_get : ∀ (ws : List W64) (k : Nat), k < ws.length → BitVec.ofNat 64 (val ws / 18446744073709551616 ^ k) = ws.getD k 0
 | [], k, h => by simp at h
 | w :: ws, 0, _ => by
  apply BitVec.eq_of_toNat_eq
  simp only [val, Nat.pow_zero, Nat.div_one, BitVec.toNat_ofNat, List.getD_cons_zero]
  have := w.isLt
  omega
 | w :: ws, k + 1, h => by
  have ih := val_get ws k (by simpa using h)
  rw [List.getD_cons_succ, ← ih, Nat.pow_succ, Nat.mul_comm, ← Nat.div_div_eq_div_mul]
  congr 2
  simp only [val]
  have := w.isLt
  omega
theorem val_wd8 {ws : List W64} (h : ws.length = 8) : ws = wd8 (val ws) := by
 apply List.ext_getElem (by rw [h, wd8_len])
 intro i h1 h2
 have := val_get ws i h1
 simp only [List.getD_eq_getElem?_getD, List.getElem?_eq_getElem h1, Option.getD_some] at this
 rw [← this]
 simp [wd8]
theorem wd8_take (n : Nat) : (wd8 n).take 4 = wd n := by
 simp [wd8, wd, List.range_succ]
def mlo (x y w c : W64) : W64 := BitVec.ofNat 64 (x.toNat * y.toNat + w.toNat + c.toNat)
def mhi (x y w c : W64) : W64 := BitVec.ofNat 64 ((x.toNat * y.toNat + w.toNat + c.toNat) / 18446744073709551616)
theorem mlo_eq (x y w c : W64) : x * y + w + 0#64 + c + 0#64 = mlo x y w c := by
 apply BitVec.eq_of_toNat_eq
 simp only [mlo, BitVec.toNat_add, BitVec.toNat_mul, BitVec.toNat_ofNat]
 generalize x.toNat * y.toNat = m
 omega
theorem mul_bd (x y : W64) : x.toNat * y.toNat ≤ 340282366920938463426481119284349108225 := Nat.mul_le_mul (show x.toNat ≤ 18446744073709551615 by omega) (show y.toNat ≤ 18446744073709551615 by omega)
theorem mhi_eq (x y w c : W64) : BitVec.ofNat 64 (x.toNat * y.toNat / 18446744073709551616) + BitVec.ofNat 64 (((x * y).toNat + w.toNat + (0#64).toNat) / 18446744073709551616) + BitVec.ofNat 64 (((x * y + w + 0#64).toNat + c.toNat + (0#64).toNat) / 18446744073709551616) = mhi x y w c := by
 apply BitVec.eq_of_toNat_eq
 have hb := mul_bd x y
 simp only [mhi, BitVec.toNat_add, BitVec.toNat_mul, BitVec.toNat_ofNat]
 generalize x.toNat * y.toNat = m at *
 omega
theorem m_split (x y w c : W64) : (mlo x y w c).toNat + (mhi x y w c).toNat * 18446744073709551616 = x.toNat * y.toNat + w.toNat + c.toNat := by
 have hb := mul_bd x y
 simp only [mlo, mhi, BitVec.toNat_ofNat]
 generalize x.toNat * y.toNat = m at *
 omega
theorem pw_eq (i : Nat) : pw i = 18446744073709551616 ^ i := by rw [pw, show (18446744073709551616 : Nat) = 2 ^ 64 from rfl, ← Nat.pow_mul]
theorem mod_pw_succ (a : Nat) {i : Nat} (h : i < 4) : a % pw (i + 1) = a % pw i + (wat a i).toNat * pw i := by
 rw [wat_nat a i h, show (2 : Nat) ^ (64 * i) = pw i from rfl, pw_succ, Nat.mod_mul]
 rw [Nat.mul_comm (pw i)]
def MulI (a b i j : Nat) (c : W64) (ws : List W64) : Prop :=
 ws.length = 8 ∧ val ws + c.toNat * pw (i + j) = (a % pw i) * b + (wat a i).toNat * (b % pw j) * pw i ∧ ∀ k, i + 4 ≤ k → k < 8 → ws.getD k 0 = 0
theorem MulI.step {a b i j : Nat} {c : W64} {ws : List W64} (h : MulI a b i j c ws) (hi : i < 4) (hj : j < 4) :
  MulI a b i (j + 1) (mhi (wat a i) (wat b j) (ws.getD (i + j) 0) c) (ws.set (i + j) (mlo (wat a i) (wat b j) (ws.getD (i + j) 0) c)) := by
 obtain ⟨h1, h2, h3⟩ := h
 refine ⟨by simp [h1], ?_, fun k hk hk8 => ?_⟩
 ·have hs := val_set ws (i + j) (mlo (wat a i) (wat b j) (ws.getD (i + j) 0) c) (by omega)
  have hm := m_split (wat a i) (wat b j) (ws.getD (i + j) 0) c
  have e1 : pw (i + (j + 1)) = pw (i + j) * 18446744073709551616 := by rw [← Nat.add_assoc, pw_succ]
  have e2 : pw (i + j) = pw i * pw j := by rw [pw_eq, pw_eq, pw_eq, Nat.pow_add]
  rw [← pw_eq] at hs
  rw [mod_pw_succ b hj, e1]
  generalize mlo (wat a i) (wat b j) (ws.getD (i + j) 0) c = lo at *
  generalize mhi (wat a i) (wat b j) (ws.getD (i + j) 0) c = hi' at *
  generalize (wat a i).toNat = x at *
  generalize (wat b j).toNat = y at *
  generalize (ws.getD (i + j) 0).toNat = w at *
  generalize c.toNat = cc at *
  have e3 : (lo.toNat + hi'.toNat * 18446744073709551616) * pw (i + j) = (x * y + w + cc) * pw (i + j) := by rw [hm]
  simp only [Nat.add_mul, Nat.mul_add] at e3 ⊢
  have e4 : hi'.toNat * (pw (i + j) * 18446744073709551616) = hi'.toNat * 18446744073709551616 * pw (i + j) := by rw [Nat.mul_assoc, Nat.mul_comm 18446744073709551616]
  have e5 : x * (y * pw j) * pw i = x * y * pw (i + j) := by rw [e2, ← Nat.mul_assoc x y, Nat.mul_assoc, Nat.mul_comm (pw j)]
  rw [e4, e5]
  omega
 ·rw [List.getD_eq_getElem?_getD, List.getElem?_set_ne (by omega), ← List.getD_eq_getElem?_getD]
  exact h3 k hk hk8
theorem MulI.start (a b : Nat) {i : Nat} {ws : List W64} (h1 : ws.length = 8) (h2 : val ws = (a % pw i) * b) (h3 : ∀ k, i + 4 ≤ k → k < 8 → ws.getD k 0 = 0) : MulI a b i 0 0 ws :=
 ⟨h1, by simp [h2, pw_0, Nat.mod_one], h3⟩
theorem MulI.row {a b i : Nat} {c : W64} {ws : List W64} (h : MulI a b i 4 c ws) (hb : b < 115792089237316195423570985008687907853269984665640564039457584007913129639936) (hi : i < 4) : (ws.set (i + 4) c).length = 8 ∧ val (ws.set (i + 4) c) = (a % pw (i + 1)) * b ∧ ∀ k, i + 1 + 4 ≤ k → k < 8 → (ws.set (i + 4) c).getD k 0 = 0 := by
 obtain ⟨h1, h2, h3⟩ := h
 refine ⟨by simp [h1], ?_, fun k hk hk8 => ?_⟩
 ·have hs := val_set ws (i + 4) c (by omega)
  rw [h3 (i + 4) (Nat.le_refl _) (by omega), ← pw_eq] at hs
  rw [pw_4, Nat.mod_eq_of_lt hb] at h2
  rw [mod_pw_succ a hi, Nat.add_mul]
  have e : (wat a i).toNat * pw i * b = (wat a i).toNat * b * pw i := by rw [Nat.mul_assoc, Nat.mul_assoc, Nat.mul_comm b]
  rw [e]
  simp at hs
  omega
 ·rw [List.getD_eq_getElem?_getD, List.getElem?_set_ne (by omega), ← List.getD_eq_getElem?_getD]
  exact h3 k (by omega) hk8
section
variable {P : Program} {N : Nat} {C : Beg} {E : Env} {Γ H : RL} {ty : TypeId}
theorem Yv.s2a {T e m b o n c : Nat} {x : Operand} (hT : P.underlying T = some (.array m e)) (hx : ev E x = some (.slice (some ⟨b, o, none⟩) n c)) (h : m ≤ n) : Yv P N C E Γ H (.sliceToArrayPointer T x) ty (ptr b o) := by
 intro dst pos aft gd a w he _
 have : ¬ n < m := by omega
 simp [execOp, he.ev hx, Instr.arrayAt, underlying, hT, this]
end

/-! ### Halves: what makes 1 with 2^256 -/
def hlf (m x : Nat) : Nat := if x % 2 = 0 then x / 2 else (x + m) / 2
theorem hlf_mul {m : Nat} (hm : m % 2 = 1) (x : Nat) : ∃ k, hlf m x * 2 = x + k * m := by
  unfold hlf
  split
  · exact ⟨0, by omega⟩
  · exact ⟨1, by omega⟩
def hlfN (m : Nat) : Nat → Nat → Nat
  | 0, x => x
  | k + 1, x => hlfN m k (hlf m x)
theorem hlfN_mul {m : Nat} (hm : m % 2 = 1) : ∀ (k x : Nat), ∃ c, hlfN m k x * 2 ^ k = x + c * m
  | 0, x => ⟨0, by simp [hlfN]⟩
  | k + 1, x => by
    obtain ⟨c, hc⟩ := hlfN_mul hm k (hlf m x)
    obtain ⟨d, hd⟩ := hlf_mul hm x
    refine ⟨2 * c + d, ?_⟩
    rw [hlfN, Nat.pow_succ, ← Nat.mul_assoc, hc, Nat.add_mul, hd, Nat.add_mul, Nat.mul_right_comm, Nat.mul_comm c 2]
    omega
def rInv (m : Nat) : Nat := hlfN m 256 1
theorem rInv_mul {m : Nat} (hm : m % 2 = 1) (x : Nat) : (x * rInv m * 2 ^ 256) % m = x % m := by
  obtain ⟨c, hc⟩ := hlfN_mul hm 256 1
  rw [Nat.mul_assoc, show rInv m * 2 ^ 256 = 1 + c * m from hc, Nat.mul_add, Nat.mul_one, ← Nat.mul_assoc, Nat.add_mul_mod_self_right]
theorem r_cancel {m x y : Nat} (hm : m % 2 = 1) (h : (x * 2 ^ 256) % m = (y * 2 ^ 256) % m) : x % m = y % m := by
  have h1 : (x * 2 ^ 256 * rInv m) % m = (y * 2 ^ 256 * rInv m) % m := by rw [Nat.mul_mod, h, ← Nat.mul_mod]
  rw [Nat.mul_right_comm, rInv_mul hm, Nat.mul_right_comm, rInv_mul hm] at h1
  exact h1
/-- The product of images. -/
def mulM (m a b : Nat) : Nat := a * b * rInv m % m
theorem mulM_mod (m a b : Nat) : mulM m (a % m) (b % m) = mulM m a b := by
  unfold mulM
  rw [Nat.mul_mod (a % m * (b % m)), ← Nat.mul_mod a b m, ← Nat.mul_mod]
/-- What comes out of words, brought below m. -/
theorem mont_out {m a b Z K : Nat} (hm : m % 2 = 1) (h : Z * 2 ^ 256 = a * b + K * m) : Z % m = mulM m a b := by
  unfold mulM
  refine r_cancel hm ?_
  rw [rInv_mul hm, h, Nat.add_mul_mod_self_right]
def sqM (m : Nat) : Nat := 2 ^ 256 % m * (2 ^ 256 % m) % m
theorem sqM_eq (m : Nat) : sqM m = 2 ^ 256 * 2 ^ 256 % m := by unfold sqM; rw [← Nat.mul_mod]
def toM (m a : Nat) : Nat := a * 2 ^ 256 % m
theorem toM_eq {m : Nat} (hm : m % 2 = 1) (a : Nat) : mulM m a (sqM m) = toM m a := by
  unfold toM mulM
  refine r_cancel hm ?_
  rw [rInv_mul hm, sqM_eq, Nat.mul_mod_mod_self, Nat.mul_assoc]
where
  Nat.mul_mod_mod_self : a * (2 ^ 256 * 2 ^ 256 % m) % m = a * (2 ^ 256 * 2 ^ 256) % m := by rw [Nat.mul_mod, Nat.mod_mod, ← Nat.mul_mod]
theorem fromM_eq {m : Nat} (hm : m % 2 = 1) (a : Nat) : mulM m (toM m a) 1 = a % m := by
  unfold toM mulM
  refine r_cancel hm ?_
  rw [rInv_mul hm, Nat.mul_one, Nat.mod_mod]
theorem timesM_eq {m : Nat} (hm : m % 2 = 1) (a b : Nat) : mulM m (toM m a) b = a * b % m := by
  unfold toM mulM
  refine r_cancel hm ?_
  rw [rInv_mul hm, Nat.mul_mod, Nat.mod_mod, ← Nat.mul_mod, Nat.mul_right_comm]
theorem toM_mul {m : Nat} (hm : m % 2 = 1) (a b : Nat) : mulM m (toM m a) (toM m b) = toM m (a * b) := by
  rw [timesM_eq hm]
  unfold toM
  rw [Nat.mul_mod, Nat.mod_mod, ← Nat.mul_mod, Nat.mul_assoc]
theorem toM_lt {m : Nat} (hm : 1 < m) (a : Nat) : toM m a < m := Nat.mod_lt _ (by omega)

/-! ### Powers -/
theorem pow_bit (a n i : Nat) : a ^ (n % 2 ^ (i + 1)) = a ^ (n % 2 ^ i) * (if n / 2 ^ i % 2 = 1 then a ^ 2 ^ i else 1) := by
  rw [show n % 2 ^ (i + 1) = n % 2 ^ i + 2 ^ i * (n / 2 ^ i % 2) by rw [Nat.pow_succ, Nat.mod_mul], Nat.pow_add]
  congr 1
  rcases Nat.mod_two_eq_zero_or_one (n / 2 ^ i) with h | h
  · rw [h]; simp
  · rw [h]; simp
theorem pow_sq (a i : Nat) : a ^ 2 ^ i * a ^ 2 ^ i = a ^ 2 ^ (i + 1) := by rw [← Nat.pow_add, Nat.pow_succ]; congr 1; omega
/-- A power, reckoned fast. -/
def pwm (m a : Nat) : Nat → Nat → Nat
  | 0, _ => 1 % m
  | f + 1, n => if n = 0 then 1 % m else let h := pwm m (a * a % m) f (n / 2); if n % 2 = 1 then h * a % m else h
theorem pwm_eq (m : Nat) : ∀ (f a n : Nat), n < 2 ^ f → pwm m a f n = a ^ n % m
  | 0, a, n, h => by obtain rfl : n = 0 := by simpa using h
                     simp [pwm]
  | f + 1, a, n, h => by
    rw [pwm]
    split
    · subst_vars; simp
    · have ih := pwm_eq m f (a * a % m) (n / 2) (by rw [Nat.pow_succ] at h; omega)
      have e1 : (a * a % m) ^ (n / 2) % m = a ^ (2 * (n / 2)) % m := by rw [← Nat.pow_mod, Nat.pow_mul, Nat.pow_two]
      simp only [ih, e1]
      split
      · rw [Nat.mul_mod, Nat.mod_mod, ← Nat.mul_mod, ← Nat.pow_succ]; congr 2; omega
      · congr 2; omega

/-! ### Newton: what makes -1 with a word -/
def nwt (m : W64) : Nat → W64
  | 0 => 1
  | k + 1 => nwt m k * (2 - m * nwt m k)
def nwi (M : Int) : Nat → Int
  | 0 => 1
  | k + 1 => nwi M k * (2 - M * nwi M k)
theorem nwt_int (m : W64) : ∀ k, nwt m k = BitVec.ofInt 64 (nwi m.toNat k)
  | 0 => rfl
  | k + 1 => by
    have hm : m = BitVec.ofInt 64 (m.toNat : Int) := by rw [BitVec.ofInt_natCast, BitVec.ofNat_toNat, BitVec.setWidth_eq]
    rw [nwt, nwi, nwt_int m k, BitVec.ofInt_mul, Int.sub_eq_add_neg, BitVec.ofInt_add, BitVec.ofInt_neg, BitVec.ofInt_mul, ← hm, ← BitVec.sub_eq_add_neg]
    rfl
theorem nwi_err (M : Int) : ∀ k, 1 - M * nwi M k = (1 - M) ^ 2 ^ k
  | 0 => by rw [nwi, Int.mul_one, Nat.pow_zero, Int.pow_succ, Int.pow_zero, Int.one_mul]
  | k + 1 => by
    have h : ∀ x : Int, 1 - M * (x * (2 - M * x)) = (1 - M * x) * (1 - M * x) := fun x => by
      simp only [Int.mul_sub, Int.sub_mul, Int.mul_one, Int.one_mul]
      have e1 : M * (x * 2) = M * x + M * x := by rw [← Int.mul_assoc]; omega
      have e2 : M * (x * (M * x)) = M * x * (M * x) := by rw [Int.mul_assoc]
      omega
    rw [nwi, h, nwi_err M k, ← Int.pow_add, show (2 : Nat) ^ (k + 1) = 2 ^ k + 2 ^ k by rw [Nat.pow_succ]; omega]
theorem nwt_one {m : W64} (hm : m.toNat % 2 = 1) : m * nwt m 6 = 1 := by
  have h := nwi_err m.toNat 6
  obtain ⟨c, hc⟩ : ∃ c : Int, (1 : Int) - m.toNat = 2 * c := ⟨-((m.toNat : Int) / 2), by omega⟩
  have hm' : m = BitVec.ofInt 64 (m.toNat : Int) := by rw [BitVec.ofInt_natCast, BitVec.ofNat_toNat, BitVec.setWidth_eq]
  have e1 : (m.toNat : Int) * nwi m.toNat 6 = 1 + (-(c ^ 64)) * 2 ^ 64 := by
    rw [hc, Int.mul_pow] at h
    have : (2 : Int) ^ 2 ^ 6 = 2 ^ 64 := by decide
    have h64 : c ^ 2 ^ 6 = c ^ 64 := rfl
    rw [this, h64] at h
    generalize c ^ 64 = y at *
    generalize (m.toNat : Int) * nwi m.toNat 6 = z at *
    omega
  have e2 : m * nwt m 6 = BitVec.ofInt 64 ((m.toNat : Int) * nwi m.toNat 6) := by rw [BitVec.ofInt_mul, ← hm', nwt_int]
  rw [e2, e1]
  apply BitVec.eq_of_toInt_eq
  rw [BitVec.toInt_ofInt]
  rw [Int.bmod_def]
  have : (1 + -(c ^ 64) * 2 ^ 64 : Int) % ((2 ^ 64 : Nat) : Int) = 1 := by
    generalize c ^ 64 = y
    have : ((2 ^ 64 : Nat) : Int) = 2 ^ 64 := by decide
    rw [this]; omega
  rw [this]; decide
/-- What makes a word 0 with the number. -/
theorem minus_word {m t : W64} (hm : m.toNat % 2 = 1) : t + t * (-(nwt m 6)) * m = 0 := by
  have h := nwt_one hm
  rw [BitVec.mul_assoc, BitVec.mul_comm (-(nwt m 6)) m, BitVec.mul_neg, h, BitVec.mul_neg, show t * 1 = t from BitVec.mul_one t, BitVec.add_right_neg]; rfl
def RowI (ts : List W64) (w : W64) (b j : Nat) (c : W64) (us : List W64) : Prop :=
 us.length = 6 ∧ val us + c.toNat * pw j = val ts + w.toNat * (b % pw j)
theorem RowI.start {ts : List W64} (w : W64) (b : Nat) (h : ts.length = 6) : RowI ts w b 0 0 ts := ⟨h, by simp [pw_0, Nat.mod_one]⟩
theorem RowI.step {ts us : List W64} {w c : W64} {b j : Nat} (h : RowI ts w b j c us) (hj : j < 4) :
  RowI ts w b (j + 1) (mhi w (wat b j) (us.getD j 0) c) (us.set j (mlo w (wat b j) (us.getD j 0) c)) := by
 obtain ⟨h1, h2⟩ := h
 refine ⟨by simp [h1], ?_⟩
 have hs := val_set us j (mlo w (wat b j) (us.getD j 0) c) (by omega)
 have hm := m_split w (wat b j) (us.getD j 0) c
 rw [← pw_eq] at hs
 rw [mod_pw_succ b hj, pw_succ]
 generalize mlo w (wat b j) (us.getD j 0) c = lo at *
 generalize mhi w (wat b j) (us.getD j 0) c = hi' at *
 generalize (wat b j).toNat = y at *
 generalize (us.getD j 0).toNat = x at *
 generalize w.toNat = v at *
 generalize c.toNat = cc at *
 have e3 : (lo.toNat + hi'.toNat * 18446744073709551616) * pw j = (v * y + x + cc) * pw j := by rw [hm]
 simp only [Nat.add_mul, Nat.mul_add] at e3 ⊢
 have e4 : hi'.toNat * (pw j * 18446744073709551616) = hi'.toNat * 18446744073709551616 * pw j := by rw [Nat.mul_assoc, Nat.mul_comm 18446744073709551616]
 have e5 : v * (y * pw j) = v * y * pw j := by rw [Nat.mul_assoc]
 rw [e4, e5]
 omega
def rowE (us : List W64) (c : W64) : List W64 := (us.set 4 (us.getD 4 0 + c + 0#64)).set 5 (us.getD 5 0 + BitVec.ofNat 64 (((us.getD 4 0).toNat + c.toNat + (0#64).toNat) / 18446744073709551616))
theorem rowE_map (us : List W64) (c : W64) : ((us.map u64).set 4 (u64 (us.getD 4 0 + c + 0#64))).set 5 (u64 (us.getD 5 0 + BitVec.ofNat 64 (((us.getD 4 0).toNat + c.toNat + (0#64).toNat) / 18446744073709551616))) = (rowE us c).map u64 := by rw [rowE, List.map_set, List.map_set]
theorem six {us : List W64} (h : us.length = 6) : ∃ a0 a1 a2 a3 a4 a5, us = [a0, a1, a2, a3, a4, a5] := by
 match us, h with
 | [a0, a1, a2, a3, a4, a5], _ => exact ⟨a0, a1, a2, a3, a4, a5, rfl⟩
theorem RowI.last {ts us : List W64} {w c : W64} {b : Nat} (h : RowI ts w b 4 c us) (hb : b < 115792089237316195423570985008687907853269984665640564039457584007913129639936) (hlt : val ts + w.toNat * b < 39402006196394479212279040100143613805079739270465446667948293404245721771497210611414266254884915640806627990306816) :
  (rowE us c).length = 6 ∧ val (rowE us c) = val ts + w.toNat * b := by
 obtain ⟨h1, h2⟩ := h
 rw [pw_4, Nat.mod_eq_of_lt hb] at h2
 obtain ⟨a0, a1, a2, a3, a4, a5, rfl⟩ := six h1
 refine ⟨rfl, ?_⟩
 rw [← h2] at hlt ⊢
 simp only [rowE, val, List.set_cons_succ, List.set_cons_zero, List.getD_cons_succ, List.getD_cons_zero, BitVec.toNat_add, BitVec.toNat_ofNat] at hlt ⊢
 omega
def MontI (m a b i : Nat) (ts : List W64) : Prop := ts.length = 6 ∧ val ts < 2 * m ∧ ∃ K, val ts * pw i = (a % pw i) * b + K * m
theorem MontI.start {m : Nat} (hm : 0 < m) (a b : Nat) : MontI m a b 0 [0, 0, 0, 0, 0, 0] := ⟨rfl, by simp [val]; omega, 0, by simp [val, pw_0, Nat.mod_one]⟩
theorem val_low {us : List W64} (h : us.length = 6) : (us.getD 0 0).toNat = val us % 18446744073709551616 := by
 obtain ⟨a0, a1, a2, a3, a4, a5, rfl⟩ := six h
 simp only [val, List.getD_cons_zero]
 omega
theorem val_shift {us : List W64} (h : us.length = 6) : (us.drop 1 ++ [0#64]).length = 6 ∧ val (us.drop 1 ++ [0#64]) = val us / 18446744073709551616 := by
 obtain ⟨a0, a1, a2, a3, a4, a5, rfl⟩ := six h
 refine ⟨rfl, ?_⟩
 simp only [val, List.drop_succ_cons, List.drop_zero, List.cons_append, List.nil_append]
 have : (0#64).toNat = 0 := rfl
 omega
def mnsM (m : Nat) : W64 := -(nwt (wat m 0) 6)
theorem wat0_nat (m : Nat) : (wat m 0).toNat = m % 18446744073709551616 := by rw [wat_0, BitVec.toNat_ofNat]
theorem low_zero {m V : Nat} {t : W64} (hm : m % 2 = 1) (ht : t.toNat = V % 18446744073709551616) : (V + (t * mnsM m).toNat * m) % 18446744073709551616 = 0 := by
 have h := minus_word (m := wat m 0) (t := t) (by rw [wat0_nat]; omega)
 have h2 := congrArg BitVec.toNat h
 rw [BitVec.toNat_add, BitVec.toNat_mul, wat0_nat] at h2
 rw [show mnsM m = -(nwt (wat m 0) 6) from rfl]
 generalize (t * -(nwt (wat m 0) 6)).toNat = u at *
 rw [ht] at h2
 have h3 : u * m % 18446744073709551616 = u * (m % 18446744073709551616) % 18446744073709551616 := (Nat.mul_mod_mod _ _ _).symm
 have h4 : (V % 18446744073709551616 + u * (m % 18446744073709551616) % 18446744073709551616) % 18446744073709551616 = 0 := h2
 generalize u * (m % 18446744073709551616) = z at *
 omega
theorem MontI.big {m a b i : Nat} {ts : List W64} (h : MontI m a b i ts) (hm : m < 115792089237316195423570985008687907853269984665640564039457584007913129639936) (hb : b < m) (w u : W64) : val ts + w.toNat * b + u.toNat * m < 2 * (18446744073709551616 * m) ∧ 2 * (18446744073709551616 * m) ≤ 2 * (18446744073709551616 * 115792089237316195423570985008687907853269984665640564039457584007913129639936) := by
 obtain ⟨_, h2, _⟩ := h
 have hw : w.toNat * b ≤ 18446744073709551615 * b := Nat.mul_le_mul_right _ (by omega)
 have hu : u.toNat * m ≤ 18446744073709551615 * m := Nat.mul_le_mul_right _ (by omega)
 constructor <;> omega
theorem MontI.step {m a b i : Nat} {ts us vs : List W64} (h : MontI m a b i ts) (hi : i < 4) (hm : m < 115792089237316195423570985008687907853269984665640564039457584007913129639936) (ho : m % 2 = 1) (hb : b < m)
  (hu1 : us.length = 6) (hu : val us = val ts + (wat a i).toNat * b) (hv1 : vs.length = 6) (hv : val vs = val us + (us.getD 0 0 * mnsM m).toNat * m) : MontI m a b (i + 1) (vs.drop 1 ++ [0#64]) := by
 have hbig := h.big hm hb (wat a i) (us.getD 0 0 * mnsM m)
 obtain ⟨h1, h2, K, hK⟩ := h
 obtain ⟨hs1, hs2⟩ := val_shift hv1
 have hz : val vs % 18446744073709551616 = 0 := by rw [hv]; exact low_zero ho (val_low hu1)
 refine ⟨hs1, ?_, K + (us.getD 0 0 * mnsM m).toNat * pw i, ?_⟩
 ·rw [hs2]
  generalize (us.getD 0 0 * mnsM m).toNat = u at *
  rw [hu] at hv
  omega
 ·rw [hs2, mod_pw_succ a hi, pw_succ, Nat.mul_comm (pw i), ← Nat.mul_assoc, Nat.div_mul_cancel (Nat.dvd_of_mod_eq_zero hz), hv, hu]
  generalize (us.getD 0 0 * mnsM m).toNat = u at *
  generalize (wat a i).toNat = w at *
  simp only [Nat.add_mul]
  rw [hK]
  have e1 : w * b * pw i = w * pw i * b := Nat.mul_right_comm _ _ _
  have e2 : u * m * pw i = u * pw i * m := Nat.mul_right_comm _ _ _
  rw [e1, e2]
  omega
theorem MontI.done {m a b : Nat} {ts : List W64} (h : MontI m a b 4 ts) (ha : a < 115792089237316195423570985008687907853269984665640564039457584007913129639936) (ho : m % 2 = 1) : val ts % m = mulM m a b := by
 obtain ⟨_, _, K, hK⟩ := h
 rw [pw_4, Nat.mod_eq_of_lt ha] at hK
 exact mont_out ho (K := K) hK
theorem val_four {ts : List W64} (h : ts.length = 6) (h2 : val ts < 2 * 115792089237316195423570985008687907853269984665640564039457584007913129639936) : ts.take 4 = wd (val ts) ∧ ts.getD 4 0 = BitVec.ofNat 64 (val ts / 115792089237316195423570985008687907853269984665640564039457584007913129639936) := by
 obtain ⟨a0, a1, a2, a3, a4, a5, rfl⟩ := six h
 constructor
 ·simp only [List.take_succ_cons, List.take_zero, wd, val]
  congr 1
  ·apply BitVec.eq_of_toNat_eq; rw [BitVec.toNat_ofNat]; omega
  congr 1
  ·apply BitVec.eq_of_toNat_eq; rw [BitVec.toNat_ofNat]; omega
  congr 1
  ·apply BitVec.eq_of_toNat_eq; rw [BitVec.toNat_ofNat]; omega
  congr 1
  apply BitVec.eq_of_toNat_eq; rw [BitVec.toNat_ofNat]; omega
 ·simp only [List.getD_cons_succ, List.getD_cons_zero, val] at h2 ⊢
  apply BitVec.eq_of_toNat_eq; rw [BitVec.toNat_ofNat]; omega
theorem less_1 {Z m : Nat} (h : Z < m) : Z % m = Z := Nat.mod_eq_of_lt h
theorem less_2 {Z m : Nat} (h1 : m ≤ Z) (h2 : Z < 2 * m) (hm : m < 115792089237316195423570985008687907853269984665640564039457584007913129639936) : wd (115792089237316195423570985008687907853269984665640564039457584007913129639936 + Z % 115792089237316195423570985008687907853269984665640564039457584007913129639936 - m) = wd (Z % m) := by
 have e : Z % m = Z - m := by rw [Nat.mod_eq_sub_mod h1, Nat.mod_eq_of_lt (by omega)]
 rw [e]
 exact sub_br h1 (by omega) hm
def wat8 (n j : Nat) : W64 := BitVec.ofNat 64 (n / 2 ^ (64 * j))
theorem wd8_eq (n : Nat) : wd8 n = (List.range 8).map (wat8 n) := by
 unfold wd8 wat8
 refine List.map_congr_left fun j _ => ?_
 rw [show (18446744073709551616 : Nat) = 2 ^ 64 from rfl, ← Nat.pow_mul]
theorem wd8_at (n : Nat) {j : Nat} (h : j < 8) : ((wd8 n).map u64)[j]? = some (u64 (wat8 n j)) := by rw [wd8_eq]; simp [h]
theorem bit8w (W : Nat) {k : Nat} (_h : k < 512) : (wat8 W (k / 64) >>> (k % 64)) &&& 1#64 = BitVec.ofNat 64 (W / 2 ^ k % 2) := by
 apply BitVec.eq_of_toNat_eq
 rw [BitVec.toNat_and, BitVec.toNat_ushiftRight, wat8, BitVec.toNat_ofNat, show (1#64).toNat = 1 from rfl, Nat.and_one_is_mod, Nat.shiftRight_eq_div_pow, BitVec.toNat_ofNat]
 have e1 : W / 2 ^ k = W / 2 ^ (64 * (k / 64)) / 2 ^ (k % 64) := by rw [Nat.div_div_eq_div_mul, ← Nat.pow_add]; congr 2; omega
 rw [e1]
 generalize W / 2 ^ (64 * (k / 64)) = x
 have hk : k % 64 < 64 := Nat.mod_lt _ (by decide)
 have e2 : x % 2 ^ 64 / 2 ^ (k % 64) % 2 = x / 2 ^ (k % 64) % 2 := by
  rw [show (2 : Nat) ^ 64 = 2 ^ (k % 64) * 2 ^ (64 - k % 64) by rw [← Nat.pow_add]; congr 1; omega, Nat.mod_mul_right_div_self]
  exact Nat.mod_mod_of_dvd _ (by rw [show (2 : Nat) = 2 ^ 1 from rfl, ← Nat.pow_mul]; exact Nat.pow_dvd_pow 2 (by omega))
 rw [e2]
 exact (Nat.mod_eq_of_lt (Nat.lt_of_lt_of_le (Nat.mod_lt _ (by decide)) (by decide))).symm
theorem rest_topG {W m k l : Nat} (hW : W < 2 ^ k * 2 ^ l) : restK W m (k + l) = 0 := by unfold restK; rw [Nat.pow_add, Nat.div_eq_of_lt hW, Nat.zero_mod]
theorem rest_top8 {W m : Nat} (hW : W < 115792089237316195423570985008687907853269984665640564039457584007913129639936 * 115792089237316195423570985008687907853269984665640564039457584007913129639936) : restK W m 512 = 0 := rest_topG (k := 256) (l := 256) hW
theorem one_wide : wd8 (2 ^ 256) = [0, 0, 0, 0, 1, 0, 0, 0] := by decide +kernel
theorem prod_512 {a b : Nat} (ha : a < 115792089237316195423570985008687907853269984665640564039457584007913129639936) (hb : b < 115792089237316195423570985008687907853269984665640564039457584007913129639936) : a * b < 115792089237316195423570985008687907853269984665640564039457584007913129639936 * 115792089237316195423570985008687907853269984665640564039457584007913129639936 :=
 Nat.lt_of_le_of_lt (Nat.mul_le_mul_left _ (Nat.le_of_lt hb)) (Nat.mul_lt_mul_of_pos_right ha (by decide))
theorem one_512 : 2 ^ 256 < 115792089237316195423570985008687907853269984665640564039457584007913129639936 * 115792089237316195423570985008687907853269984665640564039457584007913129639936 := by decide +kernel
abbrev N256 := { n : Nat // n < 115792089237316195423570985008687907853269984665640564039457584007913129639936 }
abbrev ntV (a : N256) : Value := .agg ((wd a.1).map u64).toArray
theorem u64_inj {x y : BitVec 64} (h : (x.toNat : Int) = y.toNat) : x = y := BitVec.eq_of_toNat_eq (by omega)
theorem mkeyNat {P : Program} {K e : TypeId} (hK : P.underlying K = some (.array 4 e)) (he : P.underlying e = some (.int .u64)) (hs : (P.info? e).map (·.size) = some 1) : MKey P K ntV :=
 .ask hK (fun a b => rfl) (fun a b w => by
  have := run_eqArr (P := P) (f := u64) (g := fun x => (x.toNat : Int)) hK he hs (fun _ => rfl) (fun _ _ h => u64_inj h) (wd a.1) (wd b.1) rfl rfl 9998 w
  rw [show decide (a = b) = decide (wd a.1 = wd b.1) from decide_eq_decide.2 (by rw [wd_eq a.2 b.2, Subtype.ext_iff])]
  exact this)
 (fun em n a w => by
  obtain ⟨i, hi1, hi2⟩ := Option.map_eq_some_iff.1 hs
  rw [Instr.checkKey]
  simp only [underlying, Sem.run_bind, run_program, Result.andThen_ok, hK, Sem.run_pure, Std.Legacy.Range.forIn_eq_forIn_range', Std.Legacy.Range.size, Nat.sub_zero, Nat.add_sub_cancel, Nat.div_one]
  rw [run_forBody w _ fun j hj => ?_]
  ·rfl
  ·have hj' : j < (wd a.1).length := by rw [wd_len']; simpa using hj
   have p1 := run_parts (P := P) (w := w) he rfl (show ((wd a.1).map u64).toArray[j]? = some (u64 (wd a.1)[j]) by rw [List.getElem?_toArray, List.getElem?_map, List.getElem?_eq_getElem hj']; rfl)
   simp only [sizeOf, typeInfo, Sem.run_bind, run_program, Result.andThen_ok, hi1, hi2, Sem.run_pure, Nat.mul_one, p1]
   simp [Instr.checkKey, underlying, he])
 (fun n a => by
  simp only [Instr.sameBits, beq_self_eq_true, Bool.true_and]
  rw [List.all_eq_true]
  rintro ⟨x, y⟩ h
  have hz : ∀ (l : List Value) (x y : Value), (x, y) ∈ l.zip l → x = y ∧ x ∈ l := by
   intro l
   induction l with
   | nil => simp
   | cons v l ih =>
    intro x y h
    rcases List.mem_cons.1 h with h | h
    ·cases h; exact ⟨rfl, .head _⟩
    ·exact ⟨(ih x y h).1, .tail _ (ih x y h).2⟩
  obtain ⟨rfl, hx⟩ := hz _ _ _ h
  simp only [List.mem_map] at hx
  obtain ⟨b, _, rfl⟩ := hx
  cases n <;> simp [Instr.sameBits])
end Go.Proofs.YtmhiapebljfebaaGreatDoor
