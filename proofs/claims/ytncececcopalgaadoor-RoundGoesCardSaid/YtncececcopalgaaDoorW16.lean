/- One who agrees: how the state lies in memory. No program in sight. -/
import Derived.Test.YtncececcopalgaaDoorV16
import Derived.Test.YtncececcopalgaaDoorK4
namespace Go.Proofs.YtncececcopalgaaDoor
open Go.RowKit
set_option linter.unusedVariables false
set_option linter.unusedSimpArgs false
/-! ### Values built -/
def actZ : List Value := [it 0, it 0] ++ List.replicate 32 (u8 0) ++ [it 0]
theorem act4 (k r : Int) (v : D32) (x : Int) : splice (splice (splice (splice actZ 0 [it k]) 1 [it r]) 2 (dgC v)) 34 [it x] = (Act.mk k r v x).cells := by
  simp [splice, actZ, Act.cells, List.replicate, List.drop_append, List.take_append, List.drop_eq_nil_of_le, List.take_of_length_le]
theorem act3 (k r : Int) (v : D32) : splice (splice (splice actZ 0 [it k]) 1 [it r]) 2 (dgC v) = (Act.mk k r v 0).cells := by
  simp [splice, actZ, Act.cells, List.replicate]
theorem act02 (k : Int) (v : D32) : splice (splice actZ 0 [it k]) 2 (dgC v) = (Act.mk k 0 v 0).cells := by
  simp [splice, actZ, Act.cells, List.replicate]
theorem act2 (k r : Int) : splice (splice actZ 0 [it k]) 1 [it r] = (Act.mk k r D0 0).cells := rfl
theorem act0 (k : Int) : splice actZ 0 [it k] = (Act.mk k 0 D0 0).cells := rfl
def hdZ : List Value := List.replicate 32 (u8 0) ++ [it 0]
theorem hd2 (v : D32) (r : Int) : splice (splice hdZ 0 (dgC v)) 32 [it r] = (Held.mk v r).cells := by
  simp [splice, hdZ, Held.cells, List.replicate, List.take_of_length_le]
theorem hd1 (r : Int) : splice hdZ 32 [it r] = (Held.mk D0 r).cells := rfl
def prZ : List Value := List.replicate 32 (u8 0) ++ [it 0, .bool false]
theorem pr3 (v : D32) (x : Int) (g : Bool) : splice (splice (splice prZ 0 (dgC v)) 32 [it x]) 33 [.bool g] = (Prp.mk v x g).cells := by
  simp [splice, prZ, Prp.cells, List.replicate, List.drop_append, List.take_append, List.drop_eq_nil_of_le, List.take_of_length_le]
theorem Held.one (h : Held) : ∀ a ∈ h.cells, a.oneCell' = true := by
  intro a ha
  simp [Held.cells] at ha
  rcases ha with ⟨x, _, rfl⟩ | rfl <;> rfl
theorem Prp.one (h : Prp) : ∀ a ∈ h.cells, a.oneCell' = true := by
  intro a ha
  simp [Prp.cells] at ha
  rcases ha with ⟨x, _, rfl⟩ | rfl | rfl <;> rfl
theorem dg_one (h : D32) : ∀ a ∈ dgC h, a.oneCell' = true := one_map fun _ => rfl
theorem Msg.one (h : Msg) : ∀ a ∈ h.cells, a.oneCell' = true := by
  intro a ha
  simp [Msg.cells] at ha
  rcases ha with rfl | rfl | rfl | ⟨x, _, rfl⟩ | rfl <;> rfl
theorem acC_one (l : List Act) : ∀ a ∈ acC l, a.oneCell' = true := by
  intro a ha
  obtain ⟨x, _, hx⟩ := List.mem_flatMap.1 ha
  simp [Act.cells] at hx
  rcases hx with rfl | rfl | ⟨x, _, rfl⟩ | rfl <;> rfl
@[simp] theorem acC_len (l : List Act) : (acC l).length = l.length * 35 := by
  unfold acC
  induction l with
  | nil => rfl
  | cons a l ih => rw [List.flatMap_cons, List.length_append, ih, Act.len, List.length_cons]; omega
theorem ls1 (a : Act) : [acV a].flatMap (fun v => v.cells.toList) = acC [a] := rfl
theorem acC_app (l k : List Act) : acC (l ++ k) = acC l ++ acC k := List.flatMap_append
/-- A tally, and where it lies. -/
structure TP where
  p : Nat
  a : Nat
  b : Nat
  sv : Value
  m : MM Int D32
  tw : MM Int Bool
abbrev tpV (t : TP) : Value := ptr t.p 0
abbrev talH (S : List W64) (t : TP) : RL := [Res.cells t.p [t.sv, u64 (BitVec.ofNat 64 (sumS S)), .map (some t.a), .map (some t.b)] 94, Res.row t.sv S.length 48 1 (S.map u64), mpR t.a itK dgV t.m, mpR t.b itK blV t.tw]
abbrev KT := Int × Int
def tals (S : List W64) (es : List (KT × TP × Nat)) : RL := es.flatMap fun e => talH S e.2.1
structure RA where
  sv : Value
  bp : Nat
  bt : Nat
  bd : Nat
  S : List W64
  me : Int
  sh : Int
  own : D32
  rd : Int
  st : Int
  lk : Held
  vd : Held
  dc : Held
  pr : MM Int Prp
  ta : MM KT TP
  dn : MM KT Bool
namespace RA
def cells (s : RA) : List Value := [s.sv, it s.me, it s.sh] ++ dgC s.own ++ [it s.rd, it s.st] ++ s.lk.cells ++ s.vd.cells ++ s.dc.cells ++ [.map (some s.bp), .map (some s.bt), .map (some s.bd)]
abbrev H (p : Nat) (s : RA) : RL := [Res.cells p s.cells 77, Res.row s.sv s.S.length 48 1 (s.S.map u64), mpR s.bp itK prV s.pr, mpR s.bt k2V tpV s.ta, mpR s.bd k2V blV s.dn, Res.sep (tals s.S s.ta.es)]
def abs (s : RA) : AR := ⟨s.S, s.me, s.sh, s.own, s.rd, s.st, s.lk, s.vd, s.dc, s.pr.get, fun k => match s.ta.get k with
  | some t => t.m.get
  | none => fun _ => none, fun k => (s.dn.get k).getD false⟩
structure Ok (s : RA) : Prop where
  l1 : 1 ≤ s.S.length
  l2 : s.S.length ≤ 40
  sum : sumS s.S < 9223372036854775808
  me0 : 0 ≤ s.me
  me1 : s.me < s.S.length
  sh0 : 0 ≤ s.sh
  sh1 : s.sh ≤ 9223372036854775807
  pr : s.pr.Ok
  ta : s.ta.Ok
  dn : s.dn.Ok
  tal : ∀ e ∈ s.ta.es, TOk s.S e.2.1.m ∧ e.2.1.tw.Ok
  fine : s.abs.Fine
@[simp] theorem cells_len (s : RA) : s.cells.length = 139 := by simp [cells, Held.cells]
theorem get_sv (s : RA) : s.cells[0]? = some s.sv := rfl
theorem get_me (s : RA) : s.cells[1]? = some (it s.me) := rfl
theorem get_sh (s : RA) : s.cells[2]? = some (it s.sh) := rfl
theorem get_rd (s : RA) : s.cells[35]? = some (it s.rd) := by simp [cells, List.getElem?_append, Held.cells]
theorem get_st (s : RA) : s.cells[36]? = some (it s.st) := by simp [cells, List.getElem?_append, Held.cells]
theorem get_lkr (s : RA) : s.cells[69]? = some (it s.lk.r) := by simp [cells, List.getElem?_append, Held.cells]
theorem get_vdr (s : RA) : s.cells[102]? = some (it s.vd.r) := by simp [cells, List.getElem?_append, Held.cells]
theorem get_dcr (s : RA) : s.cells[135]? = some (it s.dc.r) := by simp [cells, List.getElem?_append, Held.cells]
theorem get_bp (s : RA) : s.cells[136]? = some (.map (some s.bp)) := by simp [cells, List.getElem?_append, Held.cells]
theorem get_bt (s : RA) : s.cells[137]? = some (.map (some s.bt)) := by simp [cells, List.getElem?_append, Held.cells]
theorem get_bd (s : RA) : s.cells[138]? = some (.map (some s.bd)) := by simp [cells, List.getElem?_append, Held.cells]
theorem drop_own (s : RA) : (s.cells.drop 3).take 32 = dgC s.own := by simp [cells, List.drop_append, List.take_append, Held.cells, List.drop_eq_nil_of_le, List.take_of_length_le]
theorem drop_lk (s : RA) : (s.cells.drop 37).take 32 = dgC s.lk.v := by simp [cells, List.drop_append, List.take_append, Held.cells, List.drop_eq_nil_of_le, List.take_of_length_le]
theorem drop_vd (s : RA) : (s.cells.drop 70).take 32 = dgC s.vd.v := by simp [cells, List.drop_append, List.take_append, Held.cells, List.drop_eq_nil_of_le, List.take_of_length_le]
theorem drop_vdh (s : RA) : (s.cells.drop 70).take 33 = s.vd.cells := by simp [cells, List.drop_append, List.take_append, Held.cells, List.drop_eq_nil_of_le, List.take_of_length_le]
theorem drop_dc (s : RA) : (s.cells.drop 103).take 32 = dgC s.dc.v := by simp [cells, List.drop_append, List.take_append, Held.cells, List.drop_eq_nil_of_le, List.take_of_length_le]
def setRd (s : RA) (r : Int) : RA := { s with rd := r }
def setSt (s : RA) (r : Int) : RA := { s with st := r }
def setLk (s : RA) (h : Held) : RA := { s with lk := h }
def setVd (s : RA) (h : Held) : RA := { s with vd := h }
def setDc (s : RA) (h : Held) : RA := { s with dc := h }
theorem set_rd (s : RA) (r : Int) : s.cells.set 35 (it r) = (s.setRd r).cells := by simp [cells, setRd, List.set_append]
theorem set_st (s : RA) (r : Int) : s.cells.set 36 (it r) = (s.setSt r).cells := by simp [cells, setSt, List.set_append]
theorem set_lk (s : RA) (h : Held) : splice s.cells 37 h.cells = (s.setLk h).cells := by simp [cells, setLk, splice, List.drop_append, List.take_append, List.drop_eq_nil_of_le, List.take_of_length_le]
theorem set_vd (s : RA) (h : Held) : splice s.cells 70 h.cells = (s.setVd h).cells := by simp [cells, setVd, splice, List.drop_append, List.take_append, List.drop_eq_nil_of_le, List.take_of_length_le]
theorem set_dc (s : RA) (h : Held) : splice s.cells 103 h.cells = (s.setDc h).cells := by simp [cells, setDc, splice, List.drop_append, List.take_append, List.drop_eq_nil_of_le, List.take_of_length_le]
theorem tals_split {S : List W64} : ∀ {es : List (KT × TP × Nat)} {k : KT} {t : TP}, MM.findL es k = some t → ∃ B, (tals S es).Perm (talH S t ++ B) ∧ ∀ t' c, (tals S (MM.setL es k t' c)).Perm (talH S t' ++ B)
  | [], _, _, h => by cases h
  | e :: es, k, t, h => by
    simp only [MM.findL] at h
    by_cases hk : k = e.1
    · rw [if_pos hk] at h
      obtain rfl := Option.some.inj h
      refine ⟨tals S es, .refl _, fun t' c => ?_⟩
      simp only [MM.setL, if_pos hk]
      exact .refl _
    · rw [if_neg hk] at h
      obtain ⟨B, h1, h2⟩ := tals_split (S := S) h
      refine ⟨talH S e.2.1 ++ B, ?_, fun t' c => ?_⟩
      · have : (tals S (e :: es)) = talH S e.2.1 ++ tals S es := rfl
        rw [this]
        refine (h1.append_left _).trans ?_
        rw [← List.append_assoc, ← List.append_assoc]
        exact List.perm_append_comm.append_right _
      · simp only [MM.setL, if_neg hk]
        have : (tals S (e :: MM.setL es k t' c)) = talH S e.2.1 ++ tals S (MM.setL es k t' c) := rfl
        rw [this]
        refine ((h2 t' c).append_left _).trans ?_
        rw [← List.append_assoc, ← List.append_assoc]
        exact List.perm_append_comm.append_right _
theorem ents_same {es : List (KT × TP × Nat)} {k : KT} {t t' : TP} (hp : t'.p = t.p) (c : Nat) (h : MM.findL es k = some t) : ents k2V tpV (MM.setL es k t' c) = ents k2V tpV es := by
  induction es with
  | nil => cases h
  | cons e es ih =>
    simp only [MM.findL] at h
    by_cases hk : k = e.1
    · rw [if_pos hk] at h
      obtain rfl := Option.some.inj h
      simp only [MM.setL, if_pos hk, ents, List.map_cons, tpV, hp]
      rw [hk]
    · rw [if_neg hk] at h
      have := ih h
      simp only [ents] at this
      simp only [MM.setL, if_neg hk, ents, List.map_cons, this]
/-- A tally's votes are others. -/
def setT (s : RA) (k : KT) (t : TP) : RA := { s with ta := s.ta.put k t }
theorem setT_mp {s : RA} {k : KT} {t t' : TP} (hp : t'.p = t.p) (h : s.ta.get k = some t) : mpR s.bt k2V tpV s.ta = mpR s.bt k2V tpV (s.setT k t').ta := by
  have h2 : (s.ta.put k t').ck = s.ta.ck := by simp [MM.put, h]
  show Res.mp s.bt (ents k2V tpV s.ta.es) s.ta.ck = Res.mp s.bt (ents k2V tpV (s.ta.put k t').es) (s.ta.put k t').ck
  rw [h2]
  congr 1
  exact (ents_same hp _ h).symm
theorem setT_cells (s : RA) (k : KT) (t : TP) : (s.setT k t).cells = s.cells := rfl
theorem abs_setT {s : RA} {k : KT} {t t' : TP} (h : s.ta.get k = some t) (hm : t'.m = t.m) : (s.setT k t').abs = s.abs := by
  unfold abs setT
  dsimp only
  congr 1
  funext x
  rw [MM.get_put]
  by_cases hx : x = k
  · subst hx; rw [if_pos rfl, h]; simp only [hm]
  · rw [if_neg hx]
theorem abs_vote {s : RA} {k : KT} {t t' : TP} (h : s.ta.get k = some t) {who : Int} {v : D32} (hm : t'.m = t.m.put who v) : (s.setT k t').abs = s.abs.setTa k who v := by
  unfold abs setT AR.setTa
  dsimp only
  congr 1
  funext x
  rw [MM.get_put]
  by_cases hx : x = k
  · subst hx
    rw [if_pos rfl, if_pos rfl, h]
    dsimp only
    rw [hm]
    funext i
    rw [MM.get_put]
  · rw [if_neg hx, if_neg hx]
theorem ok_setT {s : RA} (h : s.Ok) {k : KT} {t' : TP} (h1 : TOk s.S t'.m) (h2 : t'.tw.Ok) : (s.setT k t').Ok := by
  have hta := MM.ok_put h.ta k t'
  refine ⟨h.l1, h.l2, h.sum, h.me0, h.me1, h.sh0, h.sh1, h.pr, hta, h.dn, ?_, ⟨h.fine.rd0, h.fine.rd1, h.fine.st0, h.fine.st1⟩⟩
  intro e he
  have := (MM.get_iff hta).2 ⟨e.2.2, he⟩
  rw [MM.get_put] at this
  split at this
  · obtain rfl := Option.some.inj this
    exact ⟨h1, h2⟩
  · obtain ⟨c, hc⟩ := (MM.get_iff h.ta).1 this
    have h3 := h.tal _ hc
    exact h3
theorem tal_ok {s : RA} (h : s.Ok) {k : KT} {t : TP} (hk : s.ta.get k = some t) : TOk s.S t.m ∧ t.tw.Ok := by
  obtain ⟨c, hc⟩ := (MM.get_iff h.ta).1 hk
  exact h.tal _ hc
theorem abs_ta {s : RA} {k : KT} {t : TP} (hk : s.ta.get k = some t) : s.abs.ta k = t.m.get := by
  show (match s.ta.get k with | some t => t.m.get | none => fun _ => none) = _
  rw [hk]
/-- A new tally, without votes. -/
theorem abs_newT {s : RA} {k : KT} {t : TP} (h : s.ta.get k = none) (hm : t.m = MM.nil) : (s.setT k t).abs = s.abs := by
  unfold abs setT
  dsimp only
  congr 1
  funext x
  rw [MM.get_put]
  by_cases hx : x = k
  · subst hx; rw [if_pos rfl, h]; simp only [hm]; rfl
  · rw [if_neg hx]
theorem tals_new {s : RA} {k : KT} {t : TP} (h : s.ta.get k = none) : (tals s.S (s.setT k t).ta.es).Perm (talH s.S t ++ tals s.S s.ta.es) := by
  have : (s.setT k t).ta.es = s.ta.es ++ [(k, t, s.ta.ck)] := MM.setL_none h
  rw [this]
  unfold tals
  rw [List.flatMap_append]
  have : [(k, t, s.ta.ck)].flatMap (fun e : KT × TP × Nat => talH s.S e.2.1) = talH s.S t := List.append_nil _
  rw [this]
  exact List.perm_append_comm
theorem Ok.begin {s : RA} (h : s.Ok) (r : Int) (h0 : 0 ≤ r) (h1 : r ≤ 60) : ((s.setRd r).setSt 1).Ok :=
  ⟨h.l1, h.l2, h.sum, h.me0, h.me1, h.sh0, h.sh1, h.pr, h.ta, h.dn, h.tal, ⟨h0, h1, by show (0 : Int) ≤ 1; decide, by show (1 : Int) ≤ 3; decide⟩⟩
theorem held_r (h : Held) : h.cells[32]? = some (it h.r) := by simp [Held.cells, List.getElem?_append]
theorem held_v (h : Held) : (h.cells.drop 0).take 32 = dgC h.v := by simp [Held.cells, List.take_append]
theorem begin_set {a : AR} {r : Int} (h : ¬ ({ a with rd := r, st := 1 } : AR).proposer r = a.me) : (a.begin r).2 = ({ a with rd := r, st := 1 } : AR).set 1 := by
  unfold AR.begin
  dsimp only
  rw [if_pos h]
theorem begin_valid {a : AR} {r : Int} (h : ({ a with rd := r, st := 1 } : AR).proposer r = a.me) (hv : 0 ≤ a.vd.r) : (a.begin r).2 = [⟨1, r, a.vd.v, a.vd.r⟩] := by
  unfold AR.begin
  dsimp only
  rw [if_neg (fun hn => hn h), if_pos hv]
theorem begin_own {a : AR} {r : Int} (h : ({ a with rd := r, st := 1 } : AR).proposer r = a.me) (hv : ¬ 0 ≤ a.vd.r) : (a.begin r).2 = [⟨1, r, a.own, -1⟩] := by
  unfold AR.begin
  dsimp only
  rw [if_neg (fun hn => hn h), if_neg hv]
/-- The same, thought of; elsewhere in memory, perhaps. -/
structure Like (s s' : RA) : Prop where
  ok : s'.Ok
  abs : s'.abs = s.abs
  sv : s'.sv = s.sv
theorem Like.refl {s : RA} (h : s.Ok) : s.Like s := ⟨h, rfl, rfl⟩
theorem Like.trans {a b c : RA} (h : a.Like b) (k : b.Like c) : a.Like c := ⟨k.ok, k.abs.trans h.abs, k.sv.trans h.sv⟩
theorem Like.S {a b : RA} (h : a.Like b) : b.S = a.S := congrArg AR.S h.abs
theorem Like.rd {a b : RA} (h : a.Like b) : b.rd = a.rd := congrArg AR.rd h.abs
theorem Like.st {a b : RA} (h : a.Like b) : b.st = a.st := congrArg AR.st h.abs
theorem Like.lk {a b : RA} (h : a.Like b) : b.lk = a.lk := congrArg AR.lk h.abs
theorem Like.vd {a b : RA} (h : a.Like b) : b.vd = a.vd := congrArg AR.vd h.abs
theorem Like.dc {a b : RA} (h : a.Like b) : b.dc = a.dc := congrArg AR.dc h.abs
theorem Like.pr {a b : RA} (h : a.Like b) : b.pr.get = a.pr.get := congrArg AR.pr h.abs
theorem anyQ_is {s s1 : RA} (hl : s.Like s1) {k r : Int} {t : TP} (hk : s1.ta.get (k, r) = some t) : decide (2 * sumS s1.S < 3 * anyA s1.S t.m.get) = s.abs.anyQ k r := by
  rw [← hl.abs, ← abs_ta hk]; rfl
theorem dn_is {s s1 : RA} (hl : s.Like s1) {k : Int} : (s1.dn.get (k, s1.rd)).getD false = s.abs.dn (k, s.rd) := by
  rw [hl.rd]
  show s1.abs.dn (k, s.rd) = _
  rw [hl.abs]
/-- A rule is marked. -/
def mark (s : RA) (k : Int) : RA := { s with dn := s.dn.put (k, s.rd) true }
theorem mark_ok {s : RA} (h : s.Ok) (k : Int) : (s.mark k).Ok := ⟨h.l1, h.l2, h.sum, h.me0, h.me1, h.sh0, h.sh1, h.pr, h.ta, MM.ok_put h.dn _ _, h.tal, ⟨h.fine.rd0, h.fine.rd1, h.fine.st0, h.fine.st1⟩⟩
theorem mark_abs (s : RA) (k : Int) : (s.mark k).abs = s.abs.done k := by
  unfold abs mark AR.done
  dsimp only
  congr 1
  funext x
  rw [MM.get_put]
  split <;> rfl
theorem done_same {a : AR} {k : Int} (h : a.dn (k, a.rd) = true) : a.done k = a := by
  unfold AR.done
  have : (fun x => if x = (k, a.rd) then true else a.dn x) = a.dn := by
    funext x
    split
    · rename_i e; rw [e, h]
    · rfl
  rw [this]
theorem st_ok {s : RA} (h : s.Ok) {k : Int} (h0 : 0 ≤ k) (h3 : k ≤ 3) : (s.setSt k).Ok := ⟨h.l1, h.l2, h.sum, h.me0, h.me1, h.sh0, h.sh1, h.pr, h.ta, h.dn, h.tal, ⟨h.fine.rd0, h.fine.rd1, h0, h3⟩⟩
theorem dc_ok {s : RA} (h : s.Ok) (x : Held) : (s.setDc x).Ok := ⟨h.l1, h.l2, h.sum, h.me0, h.me1, h.sh0, h.sh1, h.pr, h.ta, h.dn, h.tal, ⟨h.fine.rd0, h.fine.rd1, h.fine.st0, h.fine.st1⟩⟩
theorem vd_ok {s : RA} (h : s.Ok) (x : Held) : (s.setVd x).Ok := ⟨h.l1, h.l2, h.sum, h.me0, h.me1, h.sh0, h.sh1, h.pr, h.ta, h.dn, h.tal, ⟨h.fine.rd0, h.fine.rd1, h.fine.st0, h.fine.st1⟩⟩
theorem lk_ok {s : RA} (h : s.Ok) (x : Held) : (s.setLk x).Ok := ⟨h.l1, h.l2, h.sum, h.me0, h.me1, h.sh0, h.sh1, h.pr, h.ta, h.dn, h.tal, ⟨h.fine.rd0, h.fine.rd1, h.fine.st0, h.fine.st1⟩⟩
theorem pr_valid (h : Prp) : h.cells[32]? = some (it h.valid) := by simp [Prp.cells, List.getElem?_append]
theorem pr_good (h : Prp) : h.cells[33]? = some (.bool h.good) := by simp [Prp.cells, List.getElem?_append]
theorem pr_v (h : Prp) : (h.cells.drop 0).take 32 = dgC h.v := by simp [Prp.cells, List.take_append]
theorem lock_abs {s s2 : RA} (hl : s.Like s2) (k : Int) (v : D32) : ((s2.mark k).setVd ⟨v, s2.rd⟩).abs = { s.abs.done k with vd := ⟨v, s.abs.rd⟩ } := by
  show { (s2.mark k).abs with vd := ⟨v, s2.rd⟩ } = _
  rw [mark_abs, hl.abs, hl.rd]
  rfl
theorem lock_abs2 {s s2 : RA} (hl : s.Like s2) (k : Int) (v : D32) : (((s2.mark k).setVd ⟨v, s2.rd⟩).setLk ⟨v, s2.rd⟩).abs = { s.abs.done k with vd := ⟨v, s.abs.rd⟩, lk := ⟨v, s.abs.rd⟩ } := by
  show { ((s2.mark k).setVd ⟨v, s2.rd⟩).abs with lk := ⟨v, s2.rd⟩ } = _
  rw [lock_abs hl, hl.rd]
  rfl
theorem quo_dec {S : List W64} {g : Int → Option D32} {o : Option D32} (h : QuoR S g o) (v : D32) : decide (o = some v) = decide (Quo S g v) := by
  refine decide_eq_decide.2 ⟨fun e => by subst e; exact h, fun hv => ?_⟩
  cases o with
  | none => exact absurd hv (h v)
  | some u => rw [Quo.uniq h hv]
theorem begin_abs {s : RA} {a : AR} (h : s.abs = a) (r : Int) : ((s.setRd r).setSt 1).abs = (a.begin r).1 := by
  subst h
  unfold AR.begin
  dsimp only
  split
  · rfl
  · split <;> rfl
theorem begin_len (a : AR) (r : Int) : (a.begin r).2.length = 1 := by
  unfold AR.begin
  dsimp only
  split
  · rfl
  · split <;> rfl
theorem msg_valid (m : Msg) : m.cells[35]? = some (it m.valid) := by simp [Msg.cells, List.getElem?_append]
theorem msg_v (m : Msg) : (m.cells.drop 3).take 32 = dgC m.value := by simp [Msg.cells, List.take_append]
def putPr (s : RA) (r : Int) (x : Prp) : RA := { s with pr := s.pr.put r x }
theorem putPr_ok {s : RA} (h : s.Ok) (r : Int) (x : Prp) : (s.putPr r x).Ok := ⟨h.l1, h.l2, h.sum, h.me0, h.me1, h.sh0, h.sh1, MM.ok_put h.pr _ _, h.ta, h.dn, h.tal, ⟨h.fine.rd0, h.fine.rd1, h.fine.st0, h.fine.st1⟩⟩
theorem putPr_abs (s : RA) (r : Int) (x : Prp) : (s.putPr r x).abs = s.abs.setPr r x := by
  unfold abs putPr AR.setPr
  dsimp only
  congr 1
  funext y
  rw [MM.get_put]
/-- One who begins, in memory. -/
def newA (sv : Value) (bp bt bd : Nat) (S : List W64) (me sh : Int) (own : D32) : RA := ⟨sv, bp, bt, bd, S, me, sh, own, 0, 0, ⟨D0, -1⟩, ⟨D0, -1⟩, ⟨D0, -1⟩, MM.nil, MM.nil, MM.nil⟩
theorem newA_abs (sv : Value) (bp bt bd : Nat) (S : List W64) (me sh : Int) (own : D32) : (newA sv bp bt bd S me sh own).abs = AR.new S me sh own := rfl
def raZ : List Value := [.slice none 0 0, it 0, it 0] ++ List.replicate 32 (u8 0) ++ [it 0, it 0] ++ hdZ ++ hdZ ++ hdZ ++ [.map none, .map none, .map none]
theorem new_cells (sv : Value) (bp bt bd : Nat) (S : List W64) (me sh : Int) (own : D32) : splice (splice (splice (splice (splice (splice (splice (splice (splice (splice raZ 0 [sv]) 1 [it me]) 2 [it sh]) 3 (dgC own)) 37 (Held.mk D0 (-1)).cells) 70 (Held.mk D0 (-1)).cells) 103 (Held.mk D0 (-1)).cells) 136 [.map (some bp)]) 137 [.map (some bt)]) 138 [.map (some bd)] = (newA sv bp bt bd S me sh own).cells := by
  simp [splice, raZ, hdZ, cells, newA, List.replicate, List.drop_append, List.take_append, List.drop_eq_nil_of_le, List.take_of_length_le]
theorem raZ_len : raZ.length = 139 := by simp [raZ, hdZ]
theorem spl_len {xs ys : List Value} {o : Nat} (h : o + ys.length ≤ xs.length) : (splice xs o ys).length = xs.length := by
  unfold splice
  simp
  omega
theorem new_fill {place : Nat → Option (Nat × Nat)} (sv : Value) (bp bt bd : Nat) (S : List W64) (me sh : Int) (own : D32) (hsv : sv.cells = #[sv]) (h0 : place 0 = some (0, 1)) (h1 : place 1 = some (1, 1)) (h2 : place 2 = some (2, 1)) (h3 : place 3 = some (3, 32)) (h6 : place 6 = some (37, 33)) (h7 : place 7 = some (70, 33)) (h8 : place 8 = some (103, 33)) (h9 : place 9 = some (136, 1)) (h10 : place 10 = some (137, 1)) (h11 : place 11 = some (138, 1)) :
    FillL place raZ [(0, sv), (1, it me), (2, it sh), (3, dgV own), (6, hdV ⟨D0, -1⟩), (7, hdV ⟨D0, -1⟩), (8, hdV ⟨D0, -1⟩), (9, .map (some bp)), (10, .map (some bt)), (11, .map (some bd))] (newA sv bp bt bd S me sh own).cells := by
  rw [← new_cells]
  have l0 := raZ_len
  refine .cons h0 (c := [sv]) hsv rfl (by omega) ?_
  have l1 := spl_len (xs := raZ) (ys := [sv]) (o := 0) (by simp; omega)
  refine .cons h1 (c := [it me]) rfl rfl (by omega) ?_
  have l2 := spl_len (xs := splice raZ 0 [sv]) (ys := [it me]) (o := 1) (by simp; omega)
  refine .cons h2 (c := [it sh]) rfl rfl (by omega) ?_
  have l3 := spl_len (xs := splice (splice raZ 0 [sv]) 1 [it me]) (ys := [it sh]) (o := 2) (by simp; omega)
  refine .cons h3 (c := dgC own) rfl (dgC_len _) (by omega) ?_
  have l4 := spl_len (xs := splice (splice (splice raZ 0 [sv]) 1 [it me]) 2 [it sh]) (ys := dgC own) (o := 3) (by simp; omega)
  refine .cons h6 (c := (Held.mk D0 (-1)).cells) rfl (Held.len _) (by omega) ?_
  have l5 := spl_len (xs := splice (splice (splice (splice raZ 0 [sv]) 1 [it me]) 2 [it sh]) 3 (dgC own)) (ys := (Held.mk D0 (-1)).cells) (o := 37) (by simp; omega)
  refine .cons h7 (c := (Held.mk D0 (-1)).cells) rfl (Held.len _) (by omega) ?_
  have l6 := spl_len (xs := splice (splice (splice (splice (splice raZ 0 [sv]) 1 [it me]) 2 [it sh]) 3 (dgC own)) 37 (Held.mk D0 (-1)).cells) (ys := (Held.mk D0 (-1)).cells) (o := 70) (by simp; omega)
  refine .cons h8 (c := (Held.mk D0 (-1)).cells) rfl (Held.len _) (by omega) ?_
  have l7 := spl_len (xs := splice (splice (splice (splice (splice (splice raZ 0 [sv]) 1 [it me]) 2 [it sh]) 3 (dgC own)) 37 (Held.mk D0 (-1)).cells) 70 (Held.mk D0 (-1)).cells) (ys := (Held.mk D0 (-1)).cells) (o := 103) (by simp; omega)
  refine .cons h9 (c := [.map (some bp)]) rfl rfl (by omega) ?_
  have l8 := spl_len (xs := splice (splice (splice (splice (splice (splice (splice raZ 0 [sv]) 1 [it me]) 2 [it sh]) 3 (dgC own)) 37 (Held.mk D0 (-1)).cells) 70 (Held.mk D0 (-1)).cells) 103 (Held.mk D0 (-1)).cells) (ys := [.map (some bp)]) (o := 136) (by simp; omega)
  refine .cons h10 (c := [.map (some bt)]) rfl rfl (by omega) ?_
  have l9 := spl_len (xs := splice (splice (splice (splice (splice (splice (splice (splice raZ 0 [sv]) 1 [it me]) 2 [it sh]) 3 (dgC own)) 37 (Held.mk D0 (-1)).cells) 70 (Held.mk D0 (-1)).cells) 103 (Held.mk D0 (-1)).cells) 136 [.map (some bp)]) (ys := [.map (some bt)]) (o := 137) (by simp; omega)
  refine .cons h11 (c := [.map (some bd)]) rfl rfl (by omega) ?_
  exact .nil _
theorem newA_ok {sv : Value} {bp bt bd : Nat} {S : List W64} {me sh : Int} {own : D32} (l1 : 1 ≤ S.length) (l2 : S.length ≤ 40) (hs : sumS S < 9223372036854775808) (m0 : 0 ≤ me) (m1 : me < S.length) (h0 : 0 ≤ sh) (h1 : sh ≤ 9223372036854775807) : (newA sv bp bt bd S me sh own).Ok :=
  ⟨l1, l2, hs, m0, m1, h0, h1, MM.ok_nil, MM.ok_nil, MM.ok_nil, (fun _ h => nomatch h), ⟨by show (0 : Int) ≤ 0; decide, by show (0 : Int) ≤ 60; decide, by show (0 : Int) ≤ 0; decide, by show (0 : Int) ≤ 3; decide⟩⟩
end RA
/-! ### The rules, as functions -/
def ridF : Nat → Nat
  | 0 => 42
  | 1 => 43
  | 2 => 44
  | 3 => 45
  | 4 => 46
  | 5 => 47
  | _ => 48
abbrev fnV (i : Nat) : Value := .func (.func (ridF i)) #[] #[]
def ridV : List Value := (List.range 7).map fnV
theorem rid_get {i : Nat} (h : i < 7) : ridV[i]? = some (fnV i) := by simp [ridV, h]
end Go.Proofs.YtncececcopalgaaDoor
