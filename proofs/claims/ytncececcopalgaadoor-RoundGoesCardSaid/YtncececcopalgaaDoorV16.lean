/- One who agrees, round by round: the state, and what is done with it. No program in sight. -/
import Derived.Test.YtncececcopalgaaDoorV15
import Derived.Test.YtncececcopalgaaDoorK3
namespace Go.Proofs.YtncececcopalgaaDoor
open Go.RowKit
set_option linter.unusedVariables false
set_option linter.unusedSimpArgs false
structure Held where
  v : D32
  r : Int
deriving DecidableEq
structure Prp where
  v : D32
  valid : Int
  good : Bool
deriving DecidableEq
structure Act where
  kind : Int
  round : Int
  value : D32
  valid : Int
deriving DecidableEq
structure Msg where
  kind : Int
  round : Int
  from_ : Int
  value : D32
  valid : Int
deriving DecidableEq
abbrev dgC (d : D32) : List Value := d.1.map u8
def Held.cells (h : Held) : List Value := dgC h.v ++ [it h.r]
def Prp.cells (p : Prp) : List Value := dgC p.v ++ [it p.valid, .bool p.good]
abbrev prV (p : Prp) : Value := .agg p.cells.toArray
def Act.cells (a : Act) : List Value := [it a.kind, it a.round] ++ dgC a.value ++ [it a.valid]
def Msg.cells (m : Msg) : List Value := [it m.kind, it m.round, it m.from_] ++ dgC m.value ++ [it m.valid]
abbrev hdV (h : Held) : Value := .agg h.cells.toArray
abbrev acV (a : Act) : Value := .agg a.cells.toArray
abbrev msV (m : Msg) : Value := .agg m.cells.toArray
def acC (l : List Act) : List Value := l.flatMap Act.cells
@[simp] theorem dgC_len (d : D32) : (dgC d).length = 32 := by simp
@[simp] theorem Held.len (h : Held) : h.cells.length = 33 := by simp [Held.cells]
@[simp] theorem Prp.len (h : Prp) : h.cells.length = 34 := by simp [Prp.cells]
@[simp] theorem Act.len (h : Act) : h.cells.length = 35 := by simp [Act.cells]
@[simp] theorem Msg.len (h : Msg) : h.cells.length = 36 := by simp [Msg.cells]
theorem acV_size (a : Act) : (acV a).cells.size = 35 := by
  show a.cells.toArray.size = 35
  simp
def Prp0 : Prp := ⟨D0, 0, false⟩
instance (S : List W64) (g : Int → Option D32) (v : D32) : Decidable (Quo S g v) := by unfold Quo; infer_instance
/-! ### What is thought of -/
structure AR where
  S : List W64
  me : Int
  sh : Int
  own : D32
  rd : Int
  st : Int
  lk : Held
  vd : Held
  dc : Held
  pr : Int → Option Prp
  ta : Int × Int → Int → Option D32
  dn : Int × Int → Bool
namespace AR
def right (r : Int) : Bool := decide (0 ≤ r ∧ r ≤ 60)
def proposer (a : AR) (r : Int) : Int := if 0 ≤ r ∧ r ≤ 60 then (a.sh % a.S.length + r) % a.S.length else -1
def quorum (a : AR) (k r : Int) (v : D32) : Bool := decide (Quo a.S (a.ta (k, r)) v)
def anyQ (a : AR) (k r : Int) : Bool := decide (2 * sumS a.S < 3 * anyA a.S (a.ta (k, r)))
def heard (a : AR) (r : Int) : Nat := byN a.S fun i => (a.ta (2, r) i).isSome || (a.ta (3, r) i).isSome || ((a.pr r).isSome && decide ((i : Int) = a.proposer r))
def set (a : AR) (step : Int) : List Act := [⟨3 + step, a.rd, D0, 0⟩]
def begin (a : AR) (r : Int) : AR × List Act :=
  let b := { a with rd := r, st := 1 }
  if b.proposer r ≠ b.me then (b, b.set 1) else if 0 ≤ b.vd.r then (b, [⟨1, r, b.vd.v, b.vd.r⟩]) else (b, [⟨1, r, b.own, -1⟩])
def vote (a : AR) (k : Int) (v : D32) : AR × List Act := ({ a with st := k }, [⟨k, a.rd, v, 0⟩])
def done (a : AR) (k : Int) : AR := { a with dn := fun x => if x = (k, a.rd) then true else a.dn x }
abbrev Ruled := AR × List Act × Bool
def no (a : AR) : Ruled := (a, [], false)
def decideP (a : AR) (r : Int) : Bool := match a.pr r with
  | some p => a.quorum 3 r p.v
  | none => false
def decideR (a : AR) : Ruled := match (List.range 61).find? fun (r : Nat) => a.decideP (r : Int) with
  | some (r : Nat) => ({ a with dc := ⟨((a.pr (r : Int)).getD Prp0).v, (r : Int)⟩ }, [⟨7, (r : Int), ((a.pr (r : Int)).getD Prp0).v, 0⟩], true)
  | none => a.no
def skipP (a : AR) (r : Int) : Bool := decide (a.rd < r ∧ sumS a.S < 3 * a.heard r)
def skip (a : AR) : Ruled := match (List.range 61).find? fun (k : Nat) => a.skipP (60 - (k : Int)) with
  | some (k : Nat) => ((a.begin (60 - (k : Int))).1, (a.begin (60 - (k : Int))).2, true)
  | none => a.no
def prevote (a : AR) : Ruled :=
  if a.st ≠ 1 then a.no else match a.pr a.rd with
  | none => a.no
  | some p => if 0 ≤ p.valid ∧ a.quorum 2 p.valid p.v = false then a.no else
    let w := a.vote 2 (if p.good = true ∧ (a.lk.r ≤ p.valid ∨ a.lk.v = p.v) then p.v else D0)
    (w.1, w.2, true)
def wait (a : AR) : Ruled := if a.st ≠ 2 ∨ a.anyQ 2 a.rd = false ∨ a.dn (5, a.rd) = true then a.no else (a.done 5, a.set 2, true)
def lock (a : AR) : Ruled :=
  if a.st < 2 then a.no else match a.pr a.rd with
  | none => a.no
  | some p => if p.good = false ∨ a.quorum 2 a.rd p.v = false ∨ a.dn (6, a.rd) = true then a.no else
    let b := { a.done 6 with vd := ⟨p.v, a.rd⟩ }
    if a.st ≠ 2 then (b, [], true) else
    let w := { b with lk := b.vd }.vote 3 p.v
    (w.1, w.2, true)
def pass (a : AR) : Ruled := if a.st ≠ 2 ∨ a.quorum 2 a.rd D0 = false then a.no else let w := a.vote 3 D0; (w.1, w.2, true)
def end_ (a : AR) : Ruled := if a.anyQ 3 a.rd = false ∨ a.dn (8, a.rd) = true then a.no else (a.done 8, a.set 3, true)
def rule (a : AR) (i : Nat) : Ruled := match i with
  | 0 => a.decideR
  | 1 => a.skip
  | 2 => a.prevote
  | 3 => a.wait
  | 4 => a.lock
  | 5 => a.pass
  | _ => a.end_
def step (a : AR) : Option (AR × List Act) := ((List.range 7).find? fun i => (a.rule i).2.2).map fun i => ((a.rule i).1, (a.rule i).2.1)
def up (a : AR) : Bool := decide (0 < a.st ∧ a.dc.r < 0)
/-- What is left to be followed. -/
def mu (a : AR) : Nat := if a.dc.r < 0 then 1 + (60 - a.rd).toNat * 10 + (3 - a.st).toNat + (if a.dn (5, a.rd) then 0 else 1) + (if a.dn (6, a.rd) then 0 else 1) + (if a.dn (8, a.rd) then 0 else 1) else 0
def followN : Nat → AR → AR × List Act
  | 0, a => (a, [])
  | n + 1, a => if a.up then match a.step with
    | none => (a, [])
    | some (b, l) => ((followN n b).1, l ++ (followN n b).2)
    else (a, [])
def follow (a : AR) : AR × List Act := followN (a.mu + 1) a
/-- Where rounds and steps are. -/
structure Fine (a : AR) : Prop where
  rd0 : 0 ≤ a.rd
  rd1 : a.rd ≤ 60
  st0 : 0 ≤ a.st
  st1 : a.st ≤ 3
def hearE (a : AR) (m : Msg) : Int :=
  if m.valid < -1 ∨ m.round ≤ m.valid ∨ m.from_ ≠ a.proposer m.round ∨ m.value = D0 then 1 else match a.pr m.round with
  | some p => if p.v = m.value ∧ p.valid = m.valid then 13 else 52
  | none => 0
def setPr (a : AR) (r : Int) (p : Prp) : AR := { a with pr := fun x => if x = r then some p else a.pr x }
def setTa (a : AR) (k : Int × Int) (who : Int) (v : D32) : AR := { a with ta := fun x => if x = k then (fun i => if i = who then some v else a.ta k i) else a.ta x }
def badMsg (a : AR) (m : Msg) : Prop := m.kind < 1 ∨ 3 < m.kind ∨ right m.round = false ∨ m.from_ < 0 ∨ (a.S.length : Int) ≤ m.from_
instance (a : AR) (m : Msg) : Decidable (a.badMsg m) := by unfold badMsg; infer_instance
def hear1 (a : AR) (m : Msg) (good : Bool) : AR × Int :=
  if a.badMsg m then (a, 1)
  else if m.kind = 1 then (if a.hearE m = 0 then a.setPr m.round ⟨m.value, m.valid, good⟩ else a, a.hearE m)
  else (if voteE a.S (a.ta (m.kind, m.round)) m.from_ m.value = 0 then a.setTa (m.kind, m.round) m.from_ m.value else a, voteE a.S (a.ta (m.kind, m.round)) m.from_ m.value)
def hear (a : AR) (m : Msg) (good : Bool) : AR × List Act × Int :=
  if (a.hear1 m good).2 = 0 then (((a.hear1 m good).1.follow).1, ((a.hear1 m good).1.follow).2, 0) else ((a.hear1 m good).1, [], (a.hear1 m good).2)
def start (a : AR) : AR × List Act := if 0 < a.st then (a, []) else (((a.begin 0).1.follow).1, (a.begin 0).2 ++ ((a.begin 0).1.follow).2)
def timeout1 (a : AR) (kind : Int) : AR × List Act :=
  if kind = 4 ∧ a.st = 1 then a.vote 2 D0 else if kind = 5 ∧ a.st = 2 then a.vote 3 D0 else if kind = 6 ∧ a.rd < 60 then a.begin (a.rd + 1) else (a, [])
def timeout (a : AR) (kind round : Int) : AR × List Act :=
  if a.st = 0 ∨ 0 ≤ a.dc.r ∨ round ≠ a.rd then (a, []) else (((a.timeout1 kind).1.follow).1, (a.timeout1 kind).2 ++ ((a.timeout1 kind).1.follow).2)
/-! ### What rules come to -/
theorem decide_yes {a : AR} {k : Nat} {p : Prp} (hk : k < 61) (h : ∀ j : Nat, j < k → a.decideP (j : Int) = false) (hp : a.pr (k : Int) = some p) (hq : a.quorum 3 k p.v = true) : a.decideR = ({ a with dc := ⟨p.v, (k : Int)⟩ }, [⟨7, (k : Int), p.v, 0⟩], true) := by
  have h1 : (List.range 61).find? (fun (r : Nat) => a.decideP (r : Int)) = some k := by
    rw [List.find?_range_eq_some]
    exact ⟨by simp only [decideP, hp, hq], List.mem_range.2 hk, fun j hj => by rw [h j hj]; rfl⟩
  unfold decideR
  rw [h1]
  simp only [hp, Option.getD_some]
theorem decide_no {a : AR} (h : ∀ j : Nat, j < 61 → a.decideP (j : Int) = false) : a.decideR = a.no := by
  have h1 : (List.range 61).find? (fun (r : Nat) => a.decideP (r : Int)) = none := by
    rw [List.find?_range_eq_none]
    exact fun j hj => by rw [h j hj]; rfl
  unfold decideR
  rw [h1]
theorem skip_yes {a : AR} {k : Nat} (hk : k < 61) (h : ∀ j : Nat, j < k → a.skipP (60 - (j : Int)) = false) (hp : a.skipP (60 - (k : Int)) = true) : a.skip = ((a.begin (60 - (k : Int))).1, (a.begin (60 - (k : Int))).2, true) := by
  have h1 : (List.range 61).find? (fun (k : Nat) => a.skipP (60 - (k : Int))) = some k := by
    rw [List.find?_range_eq_some]
    exact ⟨hp, List.mem_range.2 hk, fun j hj => by rw [h j hj]; rfl⟩
  unfold skip
  rw [h1]
theorem skip_no {a : AR} (h : ∀ j : Nat, j < 61 → a.skipP (60 - (j : Int)) = false) : a.skip = a.no := by
  have h1 : (List.range 61).find? (fun (k : Nat) => a.skipP (60 - (k : Int))) = none := by
    rw [List.find?_range_eq_none]
    exact fun j hj => by rw [h j hj]; rfl
  unfold skip
  rw [h1]
theorem decideR_no {a : AR} (h : a.decideR.2.2 = false) : a.decideR = a.no := by
  unfold decideR at h ⊢
  split at h <;> simp_all
theorem skip_no' {a : AR} (h : a.skip.2.2 = false) : a.skip = a.no := by
  unfold skip at h ⊢
  split at h <;> simp_all
def wOf (a : AR) (p : Prp) : D32 := if p.good = true ∧ (a.lk.r ≤ p.valid ∨ a.lk.v = p.v) then p.v else D0
theorem prevote_no1 {a : AR} (h : a.st ≠ 1) : a.prevote = a.no := if_pos h
theorem prevote_no2 {a : AR} (h : a.st = 1) (hp : a.pr a.rd = none) : a.prevote = a.no := by
  unfold prevote
  rw [if_neg (fun hn => hn h), hp]
theorem prevote_no3 {a : AR} (h : a.st = 1) {p : Prp} (hp : a.pr a.rd = some p) (hv : 0 ≤ p.valid) (hq : a.quorum 2 p.valid p.v = false) : a.prevote = a.no := by
  unfold prevote
  rw [if_neg (fun hn => hn h), hp]
  exact if_pos ⟨hv, hq⟩
theorem prevote_yes {a : AR} (h : a.st = 1) {p : Prp} (hp : a.pr a.rd = some p) (hq : ¬ (0 ≤ p.valid ∧ a.quorum 2 p.valid p.v = false)) : a.prevote = ((a.vote 2 (a.wOf p)).1, (a.vote 2 (a.wOf p)).2, true) := by
  unfold prevote
  rw [if_neg (fun hn => hn h), hp]
  exact if_neg hq
theorem wait_yes {a : AR} (h : a.st = 2) (hq : a.anyQ 2 a.rd = true) (hd : a.dn (5, a.rd) = false) : a.wait = (a.done 5, a.set 2, true) := if_neg (by rw [hq, hd]; simp [h])
theorem pass_yes {a : AR} (h : a.st = 2) (hq : a.quorum 2 a.rd D0 = true) : a.pass = ((a.vote 3 D0).1, (a.vote 3 D0).2, true) := if_neg (by rw [hq]; simp [h])
theorem end_yes {a : AR} (hq : a.anyQ 3 a.rd = true) (hd : a.dn (8, a.rd) = false) : a.end_ = (a.done 8, a.set 3, true) := if_neg (by rw [hq, hd]; simp)
theorem lock_no1 {a : AR} (h : a.st < 2) : a.lock = a.no := if_pos h
theorem lock_no2 {a : AR} (h : ¬ a.st < 2) (hp : a.pr a.rd = none) : a.lock = a.no := by
  unfold lock
  rw [if_neg h, hp]
theorem lock_no3 {a : AR} (h : ¬ a.st < 2) {p : Prp} (hp : a.pr a.rd = some p) (hn : p.good = false ∨ a.quorum 2 a.rd p.v = false ∨ a.dn (6, a.rd) = true) : a.lock = a.no := by
  unfold lock
  rw [if_neg h, hp]
  exact if_pos hn
theorem lock_yes1 {a : AR} (h : ¬ a.st < 2) {p : Prp} (hp : a.pr a.rd = some p) (hg : p.good = true) (hq : a.quorum 2 a.rd p.v = true) (hd : a.dn (6, a.rd) = false) (hs : a.st ≠ 2) : a.lock = ({ a.done 6 with vd := ⟨p.v, a.rd⟩ }, [], true) := by
  unfold lock
  rw [if_neg h, hp]
  simp only [hg, hq, hd]
  rw [if_neg (by simp), if_pos hs]
theorem lock_yes2 {a : AR} {p : Prp} (hp : a.pr a.rd = some p) (hg : p.good = true) (hq : a.quorum 2 a.rd p.v = true) (hd : a.dn (6, a.rd) = false) (hs : a.st = 2) : a.lock = (({ a.done 6 with vd := ⟨p.v, a.rd⟩, lk := ⟨p.v, a.rd⟩ } : AR).vote 3 p.v |>.1, (a.vote 3 p.v).2, true) := by
  unfold lock
  rw [if_neg (by omega), hp]
  simp only [hg, hq, hd]
  rw [if_neg (by simp), if_neg (fun hn => hn hs)]
  rfl
theorem hear_bad {a : AR} {m : Msg} {g : Bool} (h : a.badMsg m) : a.hear m g = (a, [], 1) := by
  have h1 : a.hear1 m g = (a, 1) := if_pos h
  unfold hear
  rw [h1]
  rfl
theorem hearE_13 {a : AR} {m : Msg} (hb : ¬ (m.valid < -1 ∨ m.round ≤ m.valid ∨ m.from_ ≠ a.proposer m.round ∨ m.value = D0)) {p : Prp} (hp : a.pr m.round = some p) (h : p.v = m.value ∧ p.valid = m.valid) : a.hearE m = 13 := by
  unfold hearE
  rw [if_neg hb, hp]
  exact if_pos h
theorem hearE_52 {a : AR} {m : Msg} (hb : ¬ (m.valid < -1 ∨ m.round ≤ m.valid ∨ m.from_ ≠ a.proposer m.round ∨ m.value = D0)) {p : Prp} (hp : a.pr m.round = some p) (h : ¬ (p.v = m.value ∧ p.valid = m.valid)) : a.hearE m = 52 := by
  unfold hearE
  rw [if_neg hb, hp]
  exact if_neg h
theorem hearE_0 {a : AR} {m : Msg} (hb : ¬ (m.valid < -1 ∨ m.round ≤ m.valid ∨ m.from_ ≠ a.proposer m.round ∨ m.value = D0)) (hp : a.pr m.round = none) : a.hearE m = 0 := by
  unfold hearE
  rw [if_neg hb, hp]
theorem hear_p1 {a : AR} {m : Msg} {g : Bool} (hb : ¬ a.badMsg m) (hk : m.kind = 1) (he : a.hearE m ≠ 0) : a.hear m g = (a, [], a.hearE m) := by
  have h1 : a.hear1 m g = (a, a.hearE m) := by unfold hear1; rw [if_neg hb, if_pos hk, if_neg he]
  unfold hear
  rw [h1]
  exact if_neg he
theorem hear_p0 {a : AR} {m : Msg} {g : Bool} (hb : ¬ a.badMsg m) (hk : m.kind = 1) (he : a.hearE m = 0) : a.hear m g = ((a.setPr m.round ⟨m.value, m.valid, g⟩).follow.1, (a.setPr m.round ⟨m.value, m.valid, g⟩).follow.2, 0) := by
  have h1 : a.hear1 m g = (a.setPr m.round ⟨m.value, m.valid, g⟩, 0) := by unfold hear1; rw [if_neg hb, if_pos hk, if_pos he, he]
  unfold hear
  rw [h1]
  rfl
theorem hear_v1 {a : AR} {m : Msg} {g : Bool} (hb : ¬ a.badMsg m) (hk : ¬ m.kind = 1) (he : voteE a.S (a.ta (m.kind, m.round)) m.from_ m.value ≠ 0) : a.hear m g = (a, [], voteE a.S (a.ta (m.kind, m.round)) m.from_ m.value) := by
  have h1 : a.hear1 m g = (a, voteE a.S (a.ta (m.kind, m.round)) m.from_ m.value) := by unfold hear1; rw [if_neg hb, if_neg hk, if_neg he]
  unfold hear
  rw [h1]
  exact if_neg he
theorem hear_v0 {a : AR} {m : Msg} {g : Bool} (hb : ¬ a.badMsg m) (hk : ¬ m.kind = 1) (he : voteE a.S (a.ta (m.kind, m.round)) m.from_ m.value = 0) : a.hear m g = ((a.setTa (m.kind, m.round) m.from_ m.value).follow.1, (a.setTa (m.kind, m.round) m.from_ m.value).follow.2, 0) := by
  have h1 : a.hear1 m g = (a.setTa (m.kind, m.round) m.from_ m.value, 0) := by unfold hear1; rw [if_neg hb, if_neg hk, if_pos he, he]
  unfold hear
  rw [h1]
  rfl
/-- Who was heard, by the first k. -/
def hq (a : AR) (r : Int) (i : Nat) : Bool := (a.ta (2, r) i).isSome || (a.ta (3, r) i).isSome || ((a.pr r).isSome && decide ((i : Int) = a.proposer r))
def heardK (a : AR) (r : Int) (k : Nat) : Nat := ((List.range k).map fun i => if a.hq r i then (a.S.getD i 0).toNat else 0).sum
theorem heardK_0 (a : AR) (r : Int) : a.heardK r 0 = 0 := rfl
theorem heardK_succ (a : AR) (r : Int) (k : Nat) : a.heardK r (k + 1) = a.heardK r k + if a.hq r k then (a.S.getD k 0).toNat else 0 := by
  unfold heardK
  rw [List.range_succ, List.map_append, List.sum_append]
  simp
theorem heardK_all (a : AR) (r : Int) : a.heardK r a.S.length = a.heard r := rfl
theorem decideP_none {a : AR} {r : Int} (h : a.pr r = none) : a.decideP r = false := by unfold decideP; rw [h]
theorem decideP_some {a : AR} {r : Int} {p : Prp} (h : a.pr r = some p) : a.decideP r = a.quorum 3 r p.v := by unfold decideP; rw [h]
theorem heardK_le (a : AR) (r : Int) : ∀ k, a.heardK r k ≤ sumS a.S
  | k => by
    by_cases hk : k ≤ a.S.length
    · obtain ⟨d, hd⟩ : ∃ d, a.S.length = k + d := ⟨_, (Nat.add_sub_cancel' hk).symm⟩
      refine Nat.le_trans ?_ (byN_le (S := a.S) (fun i => a.hq r i))
      show a.heardK r k ≤ a.heardK r a.S.length
      rw [hd]
      clear hk hd
      induction d with
      | zero => exact Nat.le_refl _
      | succ d ih => rw [show k + (d + 1) = k + d + 1 from rfl, heardK_succ]; omega
    · obtain ⟨d, hd⟩ : ∃ d, k = a.S.length + d := ⟨k - a.S.length, by omega⟩
      refine Nat.le_trans ?_ (byN_le (S := a.S) (fun i => a.hq r i))
      show a.heardK r k ≤ a.heardK r a.S.length
      rw [hd]
      clear hk hd
      induction d with
      | zero => exact Nat.le_refl _
      | succ d ih =>
        rw [show a.S.length + (d + 1) = a.S.length + d + 1 from rfl, heardK_succ]
        have : a.S.getD (a.S.length + d) 0 = 0 := by simp [List.getD_eq_getElem?_getD]
        rw [this]
        split <;> simp <;> exact ih
theorem heard_le (a : AR) (r : Int) : a.heard r ≤ sumS a.S := byN_le _
theorem rule_no {a : AR} {i : Nat} (h : (a.rule i).2.2 = false) : a.rule i = a.no := by
  match i, h with
  | 0, h => exact decideR_no h
  | 1, h => exact skip_no' h
  | 2, h =>
    show a.prevote = a.no
    have h : a.prevote.2.2 = false := h
    unfold prevote at h ⊢
    dsimp only at h ⊢
    repeat (first | rfl | cases h | split at h <;> simp_all)
  | 3, h =>
    show a.wait = a.no
    have h : a.wait.2.2 = false := h
    unfold wait at h ⊢
    split at h <;> simp_all
  | 4, h =>
    show a.lock = a.no
    have h : a.lock.2.2 = false := h
    unfold lock at h ⊢
    dsimp only at h ⊢
    split
    · rfl
    · rename_i hs
      rw [if_neg hs] at h
      split
      · rfl
      · rename_i p hp
        rw [hp] at h
        dsimp only at h
        split
        · rfl
        · rename_i hq
          rw [if_neg hq] at h
          split at h <;> cases h
  | 5, h =>
    show a.pass = a.no
    have h : a.pass.2.2 = false := h
    unfold pass at h ⊢
    dsimp only at h ⊢
    split at h <;> simp_all
  | i + 6, h =>
    show a.end_ = a.no
    have h : a.end_.2.2 = false := h
    unfold end_ at h ⊢
    split at h <;> simp_all
theorem rule_len (a : AR) (i : Nat) : (a.rule i).2.1.length ≤ 1 := by
  match i with
  | 0 => show a.decideR.2.1.length ≤ 1; unfold decideR; split <;> simp [no]
  | 1 =>
    show a.skip.2.1.length ≤ 1
    unfold skip
    split
    · show (a.begin _).2.length ≤ 1
      unfold begin
      dsimp only
      split
      · simp [set]
      · split <;> simp
    · simp [no]
  | 2 => show a.prevote.2.1.length ≤ 1; unfold prevote; dsimp only; repeat (first | split | simp [no, vote])
  | 3 => show a.wait.2.1.length ≤ 1; unfold wait; split <;> simp [no, set]
  | 4 => show a.lock.2.1.length ≤ 1; unfold lock; dsimp only; repeat (first | split | simp [no, vote])
  | 5 => show a.pass.2.1.length ≤ 1; unfold pass; dsimp only; split <;> simp [no, vote]
  | i + 6 => show a.end_.2.1.length ≤ 1; unfold end_; split <;> simp [no, set]
theorem step_yes {a : AR} {i : Nat} (hi : i < 7) (h : ∀ j : Nat, j < i → (a.rule j).2.2 = false) (h1 : (a.rule i).2.2 = true) : a.step = some ((a.rule i).1, (a.rule i).2.1) := by
  have : (List.range 7).find? (fun i => (a.rule i).2.2) = some i := by
    rw [List.find?_range_eq_some]
    exact ⟨h1, List.mem_range.2 hi, fun j hj => by rw [h j hj]; rfl⟩
  unfold step
  rw [this]
  rfl
theorem step_none {a : AR} (h : ∀ j : Nat, j < 7 → (a.rule j).2.2 = false) : a.step = none := by
  have : (List.range 7).find? (fun i => (a.rule i).2.2) = none := by
    rw [List.find?_range_eq_none]
    exact fun j hj => by rw [h j hj]; rfl
  unfold step
  rw [this]
  rfl
/-! ### Following comes to its end -/
theorem find_mem {n : Nat} {p : Nat → Bool} {i : Nat} (h : (List.range n).find? p = some i) : i < n ∧ p i = true :=
  ⟨List.mem_range.1 (List.mem_of_find?_eq_some h), List.find?_some h⟩
theorem begin_fine {a : AR} {r : Int} (h0 : 0 ≤ r) (h1 : r ≤ 60) : (a.begin r).1.Fine ∧ (a.begin r).1.rd = r ∧ (a.begin r).1.st = 1 ∧ (a.begin r).1.dc = a.dc ∧ (a.begin r).1.dn = a.dn ∧ (a.begin r).2.length = 1 := by
  unfold begin
  dsimp only
  split
  · exact ⟨⟨h0, h1, by show (0 : Int) ≤ 1; decide, by show (1 : Int) ≤ 3; decide⟩, rfl, rfl, rfl, rfl, rfl⟩
  · split <;> exact ⟨⟨h0, h1, by show (0 : Int) ≤ 1; decide, by show (1 : Int) ≤ 3; decide⟩, rfl, rfl, rfl, rfl, rfl⟩
theorem mu_pos {a : AR} (h : a.dc.r < 0) : 0 < a.mu := by unfold mu; rw [if_pos h]; omega
theorem mu_le (a : AR) (h : a.Fine) : a.mu ≤ 607 := by
  obtain ⟨h1, h2, h3, h4⟩ := h
  unfold mu
  repeat (first | split | omega)
theorem rule_mu {a : AR} (hf : a.Fine) (hu : a.up = true) {i : Nat} (hi : (a.rule i).2.2 = true) : (a.rule i).1.mu < a.mu ∧ (a.rule i).1.Fine ∧ (a.rule i).2.1.length ≤ 1 := by
  obtain ⟨h1, h2⟩ : 0 < a.st ∧ a.dc.r < 0 := of_decide_eq_true hu
  obtain ⟨f1, f2, f3, f4⟩ := hf
  have hmu : a.mu = 1 + (60 - a.rd).toNat * 10 + (3 - a.st).toNat + (if a.dn (5, a.rd) then 0 else 1) + (if a.dn (6, a.rd) then 0 else 1) + (if a.dn (8, a.rd) then 0 else 1) := if_pos h2
  have vote_mu : ∀ (b : AR) (k : Int) (v : D32), b.rd = a.rd → b.dc = a.dc → (∀ x, a.dn x = true → b.dn x = true) → a.st < k → k ≤ 3 → (b.vote k v).1.mu < a.mu ∧ (b.vote k v).1.Fine := by
    intro b k v e1 e2 e3 hk hk3
    refine ⟨?_, ⟨by show 0 ≤ b.rd; omega, by show b.rd ≤ 60; omega, by show 0 ≤ k; omega, hk3⟩⟩
    have : (b.vote k v).1.mu = 1 + (60 - a.rd).toNat * 10 + (3 - k).toNat + (if b.dn (5, a.rd) then 0 else 1) + (if b.dn (6, a.rd) then 0 else 1) + (if b.dn (8, a.rd) then 0 else 1) := by
      unfold mu vote
      dsimp only
      rw [e2, if_pos h2, e1]
    rw [this, hmu]
    have l : ∀ x, (if b.dn x = true then 0 else 1) ≤ (if a.dn x = true then 0 else 1 : Nat) := fun x => by
      by_cases hx : a.dn x = true
      · rw [if_pos hx, if_pos (e3 x hx)]; exact Nat.le_refl _
      · rw [if_neg hx]; split <;> omega
    have l5 := l (5, a.rd); have l6 := l (6, a.rd); have l8 := l (8, a.rd)
    omega
  have done_mu : ∀ k, (k = 5 ∨ k = 6 ∨ k = 8) → a.dn (k, a.rd) = false → (a.done k).mu < a.mu := by
    intro k hk hd
    have : (a.done k).mu = 1 + (60 - a.rd).toNat * 10 + (3 - a.st).toNat + (if (a.done k).dn (5, a.rd) then 0 else 1) + (if (a.done k).dn (6, a.rd) then 0 else 1) + (if (a.done k).dn (8, a.rd) then 0 else 1) := if_pos h2
    rw [this, hmu]
    unfold done
    dsimp only
    rcases hk with rfl | rfl | rfl <;> simp [hd] <;> (repeat (first | split | omega))
  have hfine : ∀ k, (a.done k).Fine := fun k => ⟨f1, f2, f3, f4⟩
  match i, hi with
  | 0, hi =>
    have hi : (a.decideR).2.2 = true := hi
    show (a.decideR).1.mu < a.mu ∧ (a.decideR).1.Fine ∧ (a.decideR).2.1.length ≤ 1
    unfold decideR at hi ⊢
    try dsimp only at hi ⊢
    split at hi
    · rename_i r hr
      refine ⟨?_, ⟨f1, f2, f3, f4⟩, by simp⟩
      rw [hmu]
      unfold mu
      dsimp only
      rw [if_neg (by omega)]
      omega
    · cases hi
  | 1, hi =>
    have hi : (a.skip).2.2 = true := hi
    show (a.skip).1.mu < a.mu ∧ (a.skip).1.Fine ∧ (a.skip).2.1.length ≤ 1
    unfold skip at hi ⊢
    try dsimp only at hi ⊢
    split at hi
    · rename_i k hk
      obtain ⟨k1, k2⟩ := find_mem hk
      have k3 : a.rd < 60 - (k : Int) := (of_decide_eq_true k2).1
      obtain ⟨b1, b2, b3, b4, b5, b6⟩ := begin_fine (a := a) (r := 60 - (k : Int)) (by omega) (by omega)
      refine ⟨?_, b1, by rw [b6]; exact Nat.le_refl _⟩
      have : (a.begin (60 - (k : Int))).1.mu ≤ 1 + (60 - (60 - (k : Int))).toNat * 10 + 2 + 1 + 1 + 1 := by
        unfold mu
        rw [b2, b3, b4, if_pos h2]
        repeat (first | split | omega)
      show (a.begin (60 - (k : Int))).1.mu < a.mu
      rw [hmu]
      repeat (first | split | omega)
    · cases hi
  | 2, hi =>
    have hi : (a.prevote).2.2 = true := hi
    show (a.prevote).1.mu < a.mu ∧ (a.prevote).1.Fine ∧ (a.prevote).2.1.length ≤ 1
    unfold prevote at hi ⊢
    try dsimp only at hi ⊢
    split at hi
    · cases hi
    · rename_i hs
      rw [if_neg hs]
      split at hi
      · cases hi
      · rename_i p hp
        split at hi
        · cases hi
        · rename_i hq
          simp only [hp, if_neg hq]
          exact ⟨(vote_mu a 2 _ rfl rfl (fun _ h => h) (by omega) (by decide)).1, (vote_mu a 2 _ rfl rfl (fun _ h => h) (by omega) (by decide)).2, by simp [vote]⟩
  | 3, hi =>
    have hi : (a.wait).2.2 = true := hi
    show (a.wait).1.mu < a.mu ∧ (a.wait).1.Fine ∧ (a.wait).2.1.length ≤ 1
    unfold wait at hi ⊢
    try dsimp only at hi ⊢
    split at hi
    · cases hi
    · rename_i hs
      simp only [not_or] at hs
      rw [if_neg (by simp only [not_or]; exact hs)]
      exact ⟨done_mu 5 (.inl rfl) (by simpa using hs.2.2), hfine 5, by simp [set]⟩
  | 4, hi =>
    have hi : (a.lock).2.2 = true := hi
    show (a.lock).1.mu < a.mu ∧ (a.lock).1.Fine ∧ (a.lock).2.1.length ≤ 1
    unfold lock at hi ⊢
    try dsimp only at hi ⊢
    split at hi
    · cases hi
    · rename_i hs
      rw [if_neg hs]
      split at hi
      · cases hi
      · rename_i p hp
        split at hi
        · cases hi
        · rename_i hq
          simp only [hp, if_neg hq]
          simp only [not_or] at hq
          have hd6 : a.dn (6, a.rd) = false := by simpa using hq.2.2
          split
          · refine ⟨?_, ⟨f1, f2, f3, f4⟩, by simp⟩
            exact done_mu 6 (.inr (.inl rfl)) hd6
          · rename_i h22
            have h22 : a.st = 2 := Classical.byContradiction h22
            have := vote_mu { a.done 6 with vd := ⟨p.v, a.rd⟩, lk := ⟨p.v, a.rd⟩ } 3 p.v rfl rfl (fun x hx => by simp [done, hx]) (by omega) (by decide)
            exact ⟨this.1, this.2, by simp [vote]⟩
  | 5, hi =>
    have hi : (a.pass).2.2 = true := hi
    show (a.pass).1.mu < a.mu ∧ (a.pass).1.Fine ∧ (a.pass).2.1.length ≤ 1
    unfold pass at hi ⊢
    try dsimp only at hi ⊢
    split at hi
    · cases hi
    · rename_i hs
      simp only [not_or, Classical.not_not] at hs
      rw [if_neg (by simp only [not_or, Classical.not_not]; exact hs)]
      exact ⟨(vote_mu a 3 D0 rfl rfl (fun _ h => h) (by omega) (by decide)).1, (vote_mu a 3 D0 rfl rfl (fun _ h => h) (by omega) (by decide)).2, by simp [vote]⟩
  | i + 6, hi =>
    have hi : (a.end_).2.2 = true := hi
    show (a.end_).1.mu < a.mu ∧ (a.end_).1.Fine ∧ (a.end_).2.1.length ≤ 1
    unfold end_ at hi ⊢
    try dsimp only at hi ⊢
    split at hi
    · cases hi
    · rename_i hs
      simp only [not_or] at hs
      rw [if_neg (by simp only [not_or]; exact hs)]
      exact ⟨done_mu 8 (.inr (.inr rfl)) (by simpa using hs.2), hfine 8, by simp [set]⟩
theorem step_mu {a : AR} (hf : a.Fine) (hu : a.up = true) {b : AR} {l : List Act} (h : a.step = some (b, l)) : b.mu < a.mu ∧ b.Fine ∧ l.length ≤ 1 := by
  unfold step at h
  obtain ⟨i, hi, he⟩ := Option.map_eq_some_iff.1 h
  simp only [Prod.mk.injEq] at he
  obtain ⟨rfl, rfl⟩ := he
  exact rule_mu hf hu (find_mem hi).2
theorem followN_more : ∀ (n m : Nat) (a : AR), a.Fine → a.mu < n → n ≤ m → followN m a = followN n a
  | 0, _, _, _, h, _ => absurd h (Nat.not_lt_zero _)
  | n + 1, 0, _, _, _, h => absurd h (by omega)
  | n + 1, m + 1, a, hf, h, hm => by
    unfold followN
    by_cases hu : a.up = true
    · rw [if_pos hu, if_pos hu]
      cases hs : a.step with
      | none => rfl
      | some p =>
        obtain ⟨b, l⟩ := p
        have h1 := step_mu hf hu hs
        have ih := followN_more n m b h1.2.1 (by omega) (by omega)
        simp only [ih]
    · rw [if_neg hu, if_neg hu]
theorem follow_step {a b : AR} {l : List Act} (hf : a.Fine) (hu : a.up = true) (hs : a.step = some (b, l)) : a.follow = (b.follow.1, l ++ b.follow.2) := by
  have h1 := step_mu hf hu hs
  have h2 := followN_more (b.mu + 1) a.mu b h1.2.1 (by omega) (by omega)
  unfold follow
  rw [show a.mu + 1 = (a.mu) + 1 from rfl, followN, if_pos hu, hs]
  simp only [h2]
theorem follow_stop {a : AR} (h : a.up = false ∨ a.step = none) : a.follow = (a, []) := by
  unfold follow
  rw [followN]
  rcases h with h | h
  · rw [if_neg (by rw [h]; decide)]
  · split
    · rw [h]
    · rfl
theorem follow_all {P : AR → List Act → AR → Prop} (h0 : ∀ a, P a [] a) (h1 : ∀ a b l l' c, a.Fine → a.up = true → a.step = some (b, l) → P b l' c → P a (l ++ l') c) : ∀ (n : Nat) (a : AR), a.mu < n → a.Fine → P a a.follow.2 a.follow.1
  | 0, _, h, _ => absurd h (Nat.not_lt_zero _)
  | n + 1, a, h, hf => by
    by_cases hu : a.up = true
    · cases hs : a.step with
      | none => rw [follow_stop (.inr hs)]; exact h0 a
      | some p =>
        obtain ⟨b, l⟩ := p
        have hm := step_mu hf hu hs
        rw [follow_step hf hu hs]
        exact h1 a b l _ _ hf hu hs (follow_all h0 h1 n b (by omega) hm.2.1)
    · rw [follow_stop (.inl (by simpa using hu))]; exact h0 a
/-- One who begins. -/
def new (S : List W64) (me sh : Int) (own : D32) : AR := ⟨S, me, sh, own, 0, 0, ⟨D0, -1⟩, ⟨D0, -1⟩, ⟨D0, -1⟩, fun _ => none, fun _ _ => none, fun _ => false⟩
end AR
end Go.Proofs.YtncececcopalgaaDoor
