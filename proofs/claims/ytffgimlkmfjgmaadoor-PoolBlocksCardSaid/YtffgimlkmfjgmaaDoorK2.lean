/- Maps of one's own: what they hold, by typed keys and values; ranges over them; bytes as a string. No program in sight. -/
import Derived.Test.YtffgimlkmfjgmaaDoorK1
import Derived.Laws.IdiomStrings
import Derived.MapKept
import Derived.Maps.RangeRun
namespace Go.Proofs.YtffgimlkmfjgmaaDoor
open Go.RowKit
set_option linter.unusedVariables false
set_option linter.unusedSectionVars false
set_option linter.unusedSimpArgs false
/-! ### Strings of bytes -/
def strOf (b : List (BitVec 8)) : ByteArray := ⟨(b.map UInt8.ofBitVec).toArray⟩
theorem strOf_inj {a b : List (BitVec 8)} (h : strOf a = strOf b) : a = b := by
  have h1 := congrArg (fun s : ByteArray => s.data.toList) h
  simp only [strOf] at h1
  refine List.map_inj_right (f := UInt8.ofBitVec) (fun x y e => ?_) |>.1 (by simpa using h1)
  exact congrArg UInt8.toBitVec e
theorem strOf_beq (a b : List (BitVec 8)) : (strOf a == strOf b) = decide (a = b) := by
  rw [Bool.eq_iff_iff, Go.MapKept.bytes_beq, decide_eq_true_eq]
  exact ⟨strOf_inj, fun h => by rw [h]⟩
section
variable {P : Program} {N : Nat} {C : Beg} {Q : Exit → Act → World → Prop} {E : Env} {Γ H : RL} {ty : TypeId} {ops : Array Oper} {rest : List Oper}
theorem Yv.conv_str {S D e n : TypeId} {x : Operand} {v : Value} {b : List (BitVec 8)} (hs : P.underlying S = some (.slice e)) (he : P.underlying e = some (.int .u8)) (hd : P.underlying D = some .string) (hx : ev E x = some v)
    (hn : n = b.length) (hm : Lend (Res.rd v n 1 (b.map u8)) (H ++ Γ)) : Yv P N C E Γ H (.convert S D x) ty (.string (strOf b)) := by
  intro dst pos aft gd a w hE hS
  subst hn
  obtain ⟨A, c, rfl, h0, h1, h2, h3⟩ := hS.sat.rd hm
  cases A with
  | none =>
    have hb : b = [] := by
      cases b with
      | nil => rfl
      | cons x b =>
        obtain ⟨_, _, h, _⟩ := h3 0 (u8 x) rfl
        cases h
    subst hb
    have : (convert S D (.slice none 0 c)).run P w = .ok (.string (strOf [])) w := by
      rw [run_convert_bytes_string w S D e none _ c hs he hd]
      rfl
    simp only [List.length_nil] at hx
    simp [execOp, hE.ev hx, this]
  | some ad =>
    have := run_convert_bytes_back (P := P) w S D e ad c (b.map UInt8.ofBitVec) hs he hd (fun j hj => by
      have hj' : j < b.length := by simpa using hj
      obtain ⟨ab, ao, hA, hc⟩ := h3 j (u8 b[j]) (by simp [hj'])
      obtain rfl := Option.some.inj hA
      rw [add_none, hc]
      simp [u8, UInt8.toNat])
    rw [List.length_map] at this
    simp [execOp, hE.ev hx, this, strOf]
theorem BinR.eql_str {x y : Operand} {T : TypeId} (a b : List (BitVec 8)) : BinR P .eql T x y (.string (strOf a)) (.string (strOf b)) (.bool (decide (a = b))) := fun w => by
  have hg : (eqGuard .eql T x y (.string (strOf a)) (.string (strOf b))).run P w = .ok () w := by
    unfold eqGuard
    split <;> rfl
  simp only [Sem.run_bind, hg, Result.andThen_ok, binOp]
  have h : ((strOf a).toList == (strOf b).toList) = decide (a = b) := by
    rw [Bool.eq_iff_iff, beq_iff_eq, decide_eq_true_eq, ByteArray.toList_eq, ByteArray.toList_eq]
    exact ⟨fun h => strOf_inj (by rcases h1 : strOf a with ⟨⟨l⟩⟩; rcases h2 : strOf b with ⟨⟨l'⟩⟩; rw [h1, h2] at h; simp at h; rw [h]), fun h => by rw [h]⟩
  simp [Op.stringOp, h]
end
/-! ### What a map holds -/
structure MM (α β : Type) where
  es : List (α × β × Nat)
  ck : Nat
namespace MM
variable {α β : Type} [DecidableEq α]
def nil : MM α β := ⟨[], 0⟩
def findL : List (α × β × Nat) → α → Option β
  | [], _ => none
  | e :: es, k => if k = e.1 then some e.2.1 else findL es k
def get (m : MM α β) (k : α) : Option β := findL m.es k
def setL : List (α × β × Nat) → α → β → Nat → List (α × β × Nat)
  | [], k, v, c => [(k, v, c)]
  | e :: es, k, v, c => if k = e.1 then (k, v, e.2.2) :: es else e :: setL es k v c
def put (m : MM α β) (k : α) (v : β) : MM α β := ⟨setL m.es k v m.ck, if (m.get k).isSome then m.ck else m.ck + 1⟩
def delL : List (α × β × Nat) → α → List (α × β × Nat)
  | [], _ => []
  | e :: es, k => if k = e.1 then es else e :: delL es k
def del (m : MM α β) (k : α) : MM α β := ⟨delL m.es k, m.ck⟩
structure Ok (m : MM α β) : Prop where
  nk : (m.es.map (·.1)).Nodup
  nb : (m.es.map (·.2.2)).Nodup
  lt : ∀ e ∈ m.es, e.2.2 < m.ck
theorem ok_nil : (nil : MM α β).Ok := ⟨.nil, .nil, by simp [nil]⟩
@[simp] theorem get_nil (k : α) : (nil : MM α β).get k = none := rfl
theorem findL_setL (es : List (α × β × Nat)) (k : α) (v : β) (c : Nat) (j : α) : findL (setL es k v c) j = if j = k then some v else findL es j := by
  induction es with
  | nil => simp [setL, findL]
  | cons e es ih =>
    unfold setL
    by_cases h : k = e.1
    · rw [if_pos h]; subst h
      simp only [findL]
      by_cases hj : j = e.1
      · rw [if_pos hj, if_pos hj]
      · rw [if_neg hj, if_neg hj, if_neg hj]
    · rw [if_neg h]
      simp only [findL, ih]
      by_cases hj : j = e.1
      · subst hj; rw [if_pos rfl, if_neg (Ne.symm h), if_pos rfl]
      · rw [if_neg hj, if_neg hj]
theorem get_put (m : MM α β) (k : α) (v : β) (j : α) : (m.put k v).get j = if j = k then some v else m.get j := findL_setL _ _ _ _ _
theorem findL_none {es : List (α × β × Nat)} {k : α} (h : findL es k = none) : k ∉ es.map (·.1) := by
  induction es with
  | nil => simp
  | cons e es ih =>
    simp only [findL] at h
    split at h
    · cases h
    · rename_i hk
      simp only [List.map_cons, List.mem_cons, not_or]
      exact ⟨hk, ih h⟩
theorem setL_none {es : List (α × β × Nat)} {k : α} {v : β} {c : Nat} (h : findL es k = none) : setL es k v c = es ++ [(k, v, c)] := by
  induction es with
  | nil => rfl
  | cons e es ih =>
    simp only [findL] at h
    split at h
    · cases h
    · rename_i hk
      rw [setL, if_neg hk, ih h]; rfl
theorem setL_some {es : List (α × β × Nat)} {k : α} {v u : β} {c : Nat} (h : findL es k = some u) : (setL es k v c).map (·.1) = es.map (·.1) ∧ (setL es k v c).map (·.2.2) = es.map (·.2.2) := by
  induction es with
  | nil => cases h
  | cons e es ih =>
    simp only [findL] at h
    unfold setL
    split at h
    · rename_i hk; rw [if_pos hk]; subst hk; exact ⟨rfl, rfl⟩
    · rename_i hk; rw [if_neg hk]; simp [ih h]
theorem ok_put {m : MM α β} (h : m.Ok) (k : α) (v : β) : (m.put k v).Ok := by
  cases hf : findL m.es k with
  | none =>
    have e1 : (m.put k v).es = m.es ++ [(k, v, m.ck)] := setL_none hf
    have e2 : (m.put k v).ck = m.ck + 1 := by simp [put, get, hf]
    refine ⟨?_, ?_, ?_⟩
    · rw [e1, List.map_append, List.nodup_append]
      exact ⟨h.nk, by simp, fun a ha b hb => by simp at hb; subst hb; exact fun e => findL_none hf (e ▸ ha)⟩
    · rw [e1, List.map_append, List.nodup_append]
      exact ⟨h.nb, by simp, fun a ha b hb => by
        simp at hb; subst hb
        obtain ⟨e, he, rfl⟩ := List.mem_map.1 ha
        have := h.lt e he; omega⟩
    · rw [e1, e2]
      intro e he
      rcases List.mem_append.1 he with he | he
      · have := h.lt e he; omega
      · simp at he; subst he; exact Nat.lt_succ_self _
  | some u =>
    have e2 : (m.put k v).ck = m.ck := by simp [put, get, hf]
    have e1 := setL_some (v := v) (c := m.ck) hf
    refine ⟨e1.1 ▸ h.nk, e1.2 ▸ h.nb, ?_⟩
    rw [e2]
    intro e he
    have : e.2.2 ∈ (setL m.es k v m.ck).map (·.2.2) := List.mem_map.2 ⟨e, he, rfl⟩
    rw [e1.2] at this
    obtain ⟨e', he', h'⟩ := List.mem_map.1 this
    rw [← h']; exact h.lt e' he'
theorem mem_findL {es : List (α × β × Nat)} (hn : (es.map (·.1)).Nodup) {k : α} {v : β} : findL es k = some v ↔ ∃ c, (k, v, c) ∈ es := by
  induction es with
  | nil => simp [findL]
  | cons e es ih =>
    obtain ⟨a, b, c⟩ := e
    simp only [List.map_cons, List.nodup_cons] at hn
    simp only [findL]
    by_cases hk : k = a
    · subst hk
      rw [if_pos rfl]
      constructor
      · intro h; exact ⟨c, by simp [Option.some.inj h]⟩
      · rintro ⟨c', h⟩
        rcases List.mem_cons.1 h with h | h
        · cases h; rfl
        · exact absurd (List.mem_map.2 ⟨_, h, rfl⟩) hn.1
    · rw [if_neg hk, ih hn.2]
      constructor
      · rintro ⟨c', h⟩; exact ⟨c', .tail _ h⟩
      · rintro ⟨c', h⟩
        rcases List.mem_cons.1 h with h | h
        · cases h; exact absurd rfl hk
        · exact ⟨c', h⟩
theorem get_iff {m : MM α β} (h : m.Ok) {k : α} {v : β} : m.get k = some v ↔ ∃ c, (k, v, c) ∈ m.es := mem_findL h.nk
theorem delL_sub (es : List (α × β × Nat)) (k : α) : (delL es k).Sublist es := by
  induction es with
  | nil => exact .refl _
  | cons e es ih =>
    unfold delL
    split
    · exact List.sublist_cons_self _ _
    · exact ih.cons_cons _
theorem findL_delL {es : List (α × β × Nat)} (hn : (es.map (·.1)).Nodup) (k j : α) : findL (delL es k) j = if j = k then none else findL es j := by
  induction es with
  | nil => simp [delL, findL]
  | cons e es ih =>
    simp only [List.map_cons, List.nodup_cons] at hn
    unfold delL
    by_cases hk : k = e.1
    · subst hk
      rw [if_pos rfl]
      by_cases hj : j = e.1
      · subst hj
        rw [if_pos rfl]
        cases hf : findL es e.1 with
        | none => rfl
        | some v =>
          obtain ⟨c, hc⟩ := (mem_findL hn.2).1 hf
          exact absurd (List.mem_map.2 ⟨_, hc, rfl⟩) hn.1
      · rw [if_neg hj]; simp only [findL]; rw [if_neg hj]
    · rw [if_neg hk]
      simp only [findL, ih hn.2]
      by_cases hj : j = e.1
      · subst hj; rw [if_pos rfl, if_pos rfl, if_neg (Ne.symm hk)]
      · rw [if_neg hj, if_neg hj]
theorem get_del {m : MM α β} (h : m.Ok) (k j : α) : (m.del k).get j = if j = k then none else m.get j := findL_delL h.nk k j
theorem ok_del {m : MM α β} (h : m.Ok) (k : α) : (m.del k).Ok :=
  ⟨((delL_sub m.es k).map _).nodup h.nk, ((delL_sub m.es k).map _).nodup h.nb, fun e he => h.lt e ((delL_sub m.es k).mem he)⟩
/-- What a range has handed out. -/
structure Walk (m : MM α β) (p : List (α × β × Nat)) : Prop where
  nd : p.Nodup
  sub : ∀ e ∈ p, e ∈ m.es
theorem Walk.nil {m : MM α β} : Walk m [] := ⟨.nil, by simp⟩
end MM
/-! ### Keys -/
def kfind {α : Type} [DecidableEq α] (k : α) : List α → List MapEntry → Nat → Option (Nat × Value)
  | a :: ks, e :: L, i => if k = a then some (i, e.val) else kfind k ks L (i + 1)
  | _, _, _ => none
/-- A type of keys: two are held against each other, found, kept. -/
structure MKey {α : Type} [DecidableEq α] (P : Program) (K : TypeId) (f : α → Value) : Prop where
  fk : ∀ (k : α) (ks : List α) (L : List MapEntry), L.map (·.key) = ks.map f → ∀ w, (Instr.findKey K (f k) L).run P w = .ok (kfind k ks L 0) w
  chk : ∀ (e : Bool) (n : Nat) (a : α) (w : World), (Instr.checkKey e (n + 2) K (f a)).run P w = .ok () w
  bits : ∀ (n : Nat) (a : α), Instr.sameBits (n + 1) (f a) (f a) = true
section
variable {α : Type} [DecidableEq α] {P : Program} {K : TypeId} {f : α → Value}
theorem findNow_is {kd : TypeDesc} (hk : ∀ a b, Instr.sameNow kd (f a) (f b) = some (decide (a = b))) (k : α) : ∀ (ks : List α) (L : List MapEntry) (i : Nat), L.map (·.key) = ks.map f → Instr.findNow kd (f k) L i = some (kfind k ks L i)
  | [], [], _, _ => rfl
  | [], _ :: _, _, h => by simp at h
  | _ :: _, [], _, h => by simp at h
  | a :: ks, x :: L, i, h => by
    simp only [List.map_cons, List.cons.injEq] at h
    have ih := findNow_is hk k ks L (i + 1) h.2
    simp only [Instr.findNow, kfind, h.1, hk]
    by_cases hka : k = a
    · simp [hka]
    · simp [hka, ih]
theorem findAsk_is (he : ∀ a b w, (Op.equal K (f a) (f b)).run P w = .ok (decide (a = b)) w) (k : α) (w : World) : ∀ (ks : List α) (L : List MapEntry) (i : Nat), L.map (·.key) = ks.map f → (Instr.findAsking K (f k) L i).run P w = .ok (kfind k ks L i) w
  | [], [], _, _ => rfl
  | [], _ :: _, _, h => by simp at h
  | _ :: _, [], _, h => by simp at h
  | a :: ks, x :: L, i, h => by
    simp only [List.map_cons, List.cons.injEq] at h
    have ih := findAsk_is he k w ks L (i + 1) h.2
    simp only [Instr.findAsking, kfind, h.1, Sem.run_bind, he, Result.andThen_ok]
    by_cases hka : k = a
    · simp [hka]
    · simp [hka, ih]
theorem MKey.now {kd : TypeDesc} (hK : P.underlying K = some kd) (hk : ∀ a b, Instr.sameNow kd (f a) (f b) = some (decide (a = b)))
    (chk : ∀ (e : Bool) (n : Nat) (a : α) (w : World), (Instr.checkKey e (n + 2) K (f a)).run P w = .ok () w) (bits : ∀ (n : Nat) (a : α), Instr.sameBits (n + 1) (f a) (f a) = true) : MKey P K f :=
  ⟨fun k ks L h w => by simp [Instr.findKey, underlying, hK, findNow_is hk k ks L 0 h], chk, bits⟩
theorem MKey.ask {kd : TypeDesc} (hK : P.underlying K = some kd) (hn : ∀ a b, Instr.sameNow kd (f a) (f b) = none) (he : ∀ a b w, (Op.equal K (f a) (f b)).run P w = .ok (decide (a = b)) w)
    (chk : ∀ (e : Bool) (n : Nat) (a : α) (w : World), (Instr.checkKey e (n + 2) K (f a)).run P w = .ok () w) (bits : ∀ (n : Nat) (a : α), Instr.sameBits (n + 1) (f a) (f a) = true) : MKey P K f :=
  ⟨fun k ks L h w => by
    cases L with
    | nil =>
      cases ks with
      | nil => simp [Instr.findKey, underlying, hK, Instr.findNow, kfind]
      | cons a ks => simp at h
    | cons x L =>
      cases ks with
      | nil => simp at h
      | cons a ks =>
        have hx : x.key = f a := by simp at h; exact h.1
        have := findAsk_is he k w (a :: ks) (x :: L) 0 h
        simp [Instr.findKey, underlying, hK, Instr.findNow, hx, hn, this], chk, bits⟩
theorem MKey.int {q k : IntKind} (h : P.underlying K = some (.int q)) : MKey P K (fun a : Int => Value.int k a) :=
  .now h (fun a b => by simp [Instr.sameNow, Bool.beq_eq_decide_eq]) (fun e n a w => by simp [Instr.checkKey, underlying, h]) (fun n a => by simp [Instr.sameBits])
theorem MKey.u64 (h : P.underlying K = some (.int .u64)) : MKey P K (fun a : BitVec 64 => Go.Proofs.YtffgimlkmfjgmaaDoor.u64 a) :=
  .now h (fun a b => by
    simp only [Instr.sameNow, if_true]
    congr 1
    rw [Bool.eq_iff_iff, beq_iff_eq, decide_eq_true_iff]
    exact ⟨fun h => BitVec.eq_of_toNat_eq (by omega), fun h => by rw [h]⟩) (fun e n a w => by simp [Instr.checkKey, underlying, h]) (fun n a => by simp [Instr.sameBits])
theorem MKey.str (h : P.underlying K = some .string) : MKey P K (fun a : List (BitVec 8) => Value.string (strOf a)) :=
  .now h (fun a b => by simp [Instr.sameNow, strOf_beq]) (fun e n a w => by simp [Instr.checkKey, underlying, h]) (fun n a => (Go.MapKept.bytes_beq _ _).2 rfl)
end
abbrev D32 := { l : List (BitVec 8) // l.length = 32 }
abbrev dgV (d : D32) : Value := .agg (d.1.map u8).toArray
abbrev itK : Int → Value := fun a => Value.int .i64 a
abbrev blV : Bool → Value := fun b => .bool b
def D0 : D32 := ⟨List.replicate 32 0, rfl⟩
theorem u8_inj {x y : BitVec 8} (h : (x.toNat : Int) = y.toNat) : x = y := BitVec.eq_of_toNat_eq (by omega)
theorem run_forBody {P : Program} {α : Type} (w : World) {body : α → PUnit → Sem (ForInStep PUnit)} : ∀ (l : List α), (∀ a ∈ l, (body a PUnit.unit).run P w = .ok (.yield PUnit.unit) w) → (forIn l PUnit.unit body).run P w = .ok PUnit.unit w
  | [], _ => rfl
  | a :: l, h => by
    have ih := run_forBody w l fun b hb => h b (.tail _ hb)
    simp only [List.forIn_cons, Sem.run_bind, h a (.head _), Result.andThen_ok]
    exact ih
theorem MKey.dig {P : Program} {K e : TypeId} (hK : P.underlying K = some (.array 32 e)) (he : P.underlying e = some (.int .u8)) (hs : (P.info? e).map (·.size) = some 1) : MKey P K dgV :=
  .ask hK (fun a b => rfl) (fun a b w => by
    have := run_eqArr (P := P) (f := u8) (g := fun x => (x.toNat : Int)) hK he hs (fun _ => rfl) (fun _ _ h => u8_inj h) a.1 b.1 a.2 b.2 9998 w
    rw [show decide (a = b) = decide (a.1 = b.1) from decide_eq_decide.2 Subtype.ext_iff]
    exact this)
  (fun em n a w => by
    obtain ⟨i, hi1, hi2⟩ := Option.map_eq_some_iff.1 hs
    rw [Instr.checkKey]
    simp only [underlying, Sem.run_bind, run_program, Result.andThen_ok, hK, Sem.run_pure, Std.Legacy.Range.forIn_eq_forIn_range', Std.Legacy.Range.size, Nat.sub_zero, Nat.add_sub_cancel, Nat.div_one]
    rw [run_forBody w _ fun j hj => ?_]
    · rfl
    · have hj' : j < a.1.length := by rw [a.2]; simpa using hj
      have p1 := run_parts (P := P) (w := w) he rfl (show (a.1.map u8).toArray[j]? = some (u8 a.1[j]) by simp [hj'])
      simp only [sizeOf, typeInfo, Sem.run_bind, run_program, Result.andThen_ok, hi1, hi2, Sem.run_pure, Nat.mul_one, p1]
      simp [Instr.checkKey, underlying, he])
  (fun n a => by
    simp only [Instr.sameBits, beq_self_eq_true, Bool.true_and]
    rw [List.all_eq_true]
    rintro ⟨x, y⟩ h
    have hz : ∀ (l : List Value) (x y : Value), (x, y) ∈ l.zip l → x = y ∧ x ∈ l := by
      intro l
      induction l with
      | nil => simp
      | cons v l ih =>
        intro x y h
        rcases List.mem_cons.1 h with h | h
        · cases h; exact ⟨rfl, .head _⟩
        · exact ⟨(ih x y h).1, .tail _ (ih x y h).2⟩
    obtain ⟨rfl, hx⟩ := hz _ _ _ h
    simp only [List.mem_map] at hx
    obtain ⟨b, _, rfl⟩ := hx
    cases n <;> simp [Instr.sameBits])
@[simp] theorem D32_len (d : D32) : d.1.length = 32 := d.2
/-- Keys of two numbers. -/
abbrev k2V (p : Int × Int) : Value := .agg #[it p.1, it p.2]
theorem MKey.two {P : Program} {K : TypeId} {f1 f2 : Field} {q1 q2 : IntKind} (hK : P.underlying K = some (.struct #[f1, f2])) (h1 : P.underlying f1.type = some (.int q1)) (h2 : P.underlying f2.type = some (.int q2)) (o1 : f1.offset = 0) (o2 : f2.offset = 1)
    (n1 : f1.name ≠ "_") (n2 : f2.name ≠ "_") (hs : P.stoodInHeld K = false) : MKey P K k2V :=
  .ask hK (fun a b => rfl) (fun a b w => by
    have : (Op.equal K (k2V a) (k2V b)).run P w = .ok (decide (a.1 = b.1 ∧ a.2 = b.2)) w := run_eqTwo hK h1 h2 o1 o2 n1 n2 hs a.1 b.1 a.2 b.2 9998 w
    rw [this]
    congr 1
    exact decide_eq_decide.2 ⟨fun h => Prod.ext h.1 h.2, fun h => by rw [h]; exact ⟨rfl, rfl⟩⟩)
  (fun em n a w => by
    have p1 : (part f1.type #[it a.1, it a.2] f1.offset).run P w = .ok (it a.1) w := run_parts h1 rfl (by rw [o1]; rfl)
    have p2 : (part f2.type #[it a.1, it a.2] f2.offset).run P w = .ok (it a.2) w := run_parts h2 rfl (by rw [o2]; rfl)
    rw [Instr.checkKey]
    simp only [underlying, Sem.run_bind, run_program, Result.andThen_ok, hK, Sem.run_pure]
    have c1 : ∀ v : Int, (Instr.checkKey em (n + 1) f1.type (it v)).run P w = .ok () w := fun v => by simp [Instr.checkKey, underlying, h1]
    have c2 : ∀ v : Int, (Instr.checkKey em (n + 1) f2.type (it v)).run P w = .ok () w := fun v => by simp [Instr.checkKey, underlying, h2]
    simp [p1, p2, c1, c2, n1, n2])
  (fun n a => by simp [Instr.sameBits])
/-! ### Maps as resources -/
def Res.mp (b : Nat) (L : List MapEntry) (ck : Nat) : Res where
  fp k := k = b
  ok w := w.heap[b]? = some (.map L.toArray ck)
  loc _ _ h ho := (h b rfl).trans ho
def Res.mi (r b ck : Nat) (seen : List Nat) : Res where
  fp k := k = r
  ok w := w.heap[r]? = some (.mapIter (some b) ck seen.toArray ck)
  loc _ _ h ho := (h r rfl).trans ho
theorem Res.mp_ok {b ck : Nat} {L : List MapEntry} {w : World} : (Res.mp b L ck).ok w ↔ w.heap[b]? = some (.map L.toArray ck) := Iff.rfl
theorem Res.mp_fp {b ck k : Nat} {L : List MapEntry} : (Res.mp b L ck).fp k ↔ k = b := Iff.rfl
theorem Res.mi_ok {r b ck : Nat} {s : List Nat} {w : World} : (Res.mi r b ck s).ok w ↔ w.heap[r]? = some (.mapIter (some b) ck s.toArray ck) := Iff.rfl
theorem Res.mi_fp {r b ck k : Nat} {s : List Nat} : (Res.mi r b ck s).fp k ↔ k = r := Iff.rfl
attribute [irreducible] Res.mp Res.mi
def ents {α β : Type} (f : α → Value) (g : β → Value) (es : List (α × β × Nat)) : List MapEntry := es.map fun e => ⟨f e.1, g e.2.1, e.2.2⟩
abbrev mpR {α β : Type} (b : Nat) (f : α → Value) (g : β → Value) (m : MM α β) : Res := Res.mp b (ents f g m.es) m.ck
abbrev miR {α β : Type} (r b : Nat) (m : MM α β) (p : List (α × β × Nat)) : Res := Res.mi r b m.ck (p.map fun e => e.2.2)
theorem St.obj {C : Beg} {Γ H : RL} {r r' : Res} {b : Nat} {w w' : World} (hs : St C Γ (r :: H) w) (hf : ∀ k, r.fp k ↔ k = b) (hf' : ∀ k, r'.fp k ↔ k = b) (hos : w'.os = w.os) (htape : w'.tape = w.tape) (hout : w'.output = w.output) (hsz : w'.heap.size = w.heap.size)
    (hb : r'.ok w') (ho : ∀ k, k ≠ b → w'.heap[k]? = w.heap[k]?) : St C Γ (r' :: H) w' := by
  have hlt : b < w.heap.size := hs.sat.hlt _ (.head _) b ((hf b).2 rfl)
  have h0 : St ⟨w, [], [r]⟩ [] [r'] w' := by
    refine ⟨⟨by simp, by simp, ?_, ?_, by simp, by simp⟩, ⟨hos, htape, hout, Nat.le_of_eq hsz.symm, ?_⟩, ?_, fun k ⟨_, h, _⟩ => by simp at h⟩
    · intro x hx
      obtain rfl := List.mem_singleton.1 hx
      exact hb
    · intro x hx k hk
      obtain rfl := List.mem_singleton.1 hx
      have := (hf' k).1 hk
      subst this
      rw [hsz]; exact hlt
    · intro k _ hn
      exact ho k fun e => hn ⟨_, .head _, (hf k).2 e⟩
    · rintro k ⟨x, hx, hk⟩
      obtain rfl := List.mem_singleton.1 hx
      exact .inl ⟨_, .head _, (hf k).2 ((hf' k).1 hk)⟩
  have h3 := St.frame (G := H) (Hc := [_]) (Γc := []) (by simpa using hs) (by simp) h0
  simpa using h3
theorem St.newObj {C : Beg} {Γ H : RL} {w : World} (h : St C Γ H w) (o : Obj) (r : Res) (hf : ∀ k, r.fp k ↔ k = w.heap.size) (hok : r.ok (w.alloc o)) : St C Γ (r :: H) (w.alloc o) := by
  have h0 : St ⟨w, [], []⟩ [] [r] (w.alloc o) := by
    refine ⟨⟨by simp, by simp, ?_, ?_, by simp, by simp⟩, ⟨rfl, rfl, rfl, by simp, ?_⟩, ?_, fun k ⟨_, h, _⟩ => by simp at h⟩
    · intro x hx
      obtain rfl := List.mem_singleton.1 hx
      exact hok
    · intro x hx k hk
      obtain rfl := List.mem_singleton.1 hx
      have := (hf k).1 hk
      subst this
      simp
    · intro k hk _
      exact Below.heap_alloc w _ k hk
    · rintro k ⟨x, hx, hk⟩
      obtain rfl := List.mem_singleton.1 hx
      have := (hf k).1 hk
      exact .inr (by rw [this]; exact Nat.le_refl _)
  simpa using St.frame (Hc := []) (Γc := []) (by simpa using h) (by simp) h0
section
variable {P : Program} {N : Nat} {C : Beg} {Q : Exit → Act → World → Prop} {E : Env} {Γ H : RL} {ty : TypeId} {ops : Array Oper} {rest : List Oper} {α β : Type} [DecidableEq α] {f : α → Value} {g : β → Value}
theorem kfind_get (k : α) : ∀ (es : List (α × β × Nat)) (i : Nat), (kfind k (es.map (·.1)) (ents f g es) i).map (·.2) = (MM.findL es k).map g
  | [], _ => rfl
  | e :: es, i => by
    have ih := kfind_get k es (i + 1)
    simp only [ents, List.map_cons, kfind, MM.findL]
    split
    · rfl
    · exact ih
theorem ents_keys (es : List (α × β × Nat)) : (ents f g es).map (·.key) = (es.map (·.1)).map f := by simp [ents]
def MP (Γ H : RL) (r : Res) : Prop := r ∈ H ∨ r ∈ Γ
theorem MP.ok {r : Res} {w : World} (h : MP Γ H r) (hs : Sat Γ H w) : r.ok w := h.elim (hs.hok r) (hs.gok r)
theorem Yv.lk {T K e : TypeId} {x i : Operand} {b : Nat} {m : MM α β} {z : Value} (k : α) (hT : P.underlying T = some (.map K e)) (hK : MKey P K f) (hz : (P.info? e).bind (·.zero) = some z) (hx : ev E x = some (.map (some b)) := by rfl) (hi : ev E i = some (f k) := by rfl)
    (hm : MP Γ H (mpR b f g m) := by first | exact .inl (by (repeat (first | exact List.Mem.head _ | refine List.Mem.tail _ ?_)); first | done | fail) | exact .inr (by (repeat (first | exact List.Mem.head _ | refine List.Mem.tail _ ?_)); first | done | fail)) : Yv P N C E Γ H (.lookup T x i false) ty (((m.get k).map g).getD z) := by
  intro dst pos aft gd a w hE hS
  have h1 := Res.mp_ok.1 (hm.ok hS.sat)
  obtain ⟨inf, hi1, hi2⟩ := Option.bind_eq_some_iff.1 hz
  have hf := hK.fk k (m.es.map (·.1)) (ents f g m.es) (ents_keys _) w
  have hc := hK.chk (ents f g m.es).isEmpty 9998 k w
  have hg := kfind_get (f := f) (g := g) k m.es 0
  rw [MM.get, ← hg]
  cases hk : kfind k (m.es.map (·.1)) (ents f g m.es) 0 with
  | none =>
    rw [hk] at hf
    simp [execOp, hE.ev hx, hE.ev hi, Instr.lookup, underlying, hT, getObj, Sem.run, h1, hc, hf, zeroValue, typeInfo, hi1, hi2]
  | some p =>
    rw [hk] at hf
    simp [execOp, hE.ev hx, hE.ev hi, Instr.lookup, underlying, hT, getObj, Sem.run, h1, hc, hf]
theorem Yv.lk2 {T K e : TypeId} {x i : Operand} {b : Nat} {m : MM α β} {z : Value} (k : α) (hT : P.underlying T = some (.map K e)) (hK : MKey P K f) (hz : (P.info? e).bind (·.zero) = some z) (hx : ev E x = some (.map (some b)) := by rfl) (hi : ev E i = some (f k) := by rfl)
    (hm : MP Γ H (mpR b f g m) := by first | exact .inl (by (repeat (first | exact List.Mem.head _ | refine List.Mem.tail _ ?_)); first | done | fail) | exact .inr (by (repeat (first | exact List.Mem.head _ | refine List.Mem.tail _ ?_)); first | done | fail)) : Yv P N C E Γ H (.lookup T x i true) ty (.tuple #[((m.get k).map g).getD z, .bool (m.get k).isSome]) := by
  intro dst pos aft gd a w hE hS
  have h1 := Res.mp_ok.1 (hm.ok hS.sat)
  obtain ⟨inf, hi1, hi2⟩ := Option.bind_eq_some_iff.1 hz
  have hf := hK.fk k (m.es.map (·.1)) (ents f g m.es) (ents_keys _) w
  have hc := hK.chk (ents f g m.es).isEmpty 9998 k w
  have hg := kfind_get (f := f) (g := g) k m.es 0
  have hs : (m.get k).isSome = ((kfind k (m.es.map (·.1)) (ents f g m.es) 0).map (·.2)).isSome := by rw [hg, MM.get]; simp
  rw [hs, MM.get, ← hg]
  cases hk : kfind k (m.es.map (·.1)) (ents f g m.es) 0 with
  | none =>
    rw [hk] at hf
    simp [execOp, hE.ev hx, hE.ev hi, Instr.lookup, underlying, hT, getObj, Sem.run, h1, hc, hf, zeroValue, typeInfo, hi1, hi2]
  | some p =>
    rw [hk] at hf
    simp [execOp, hE.ev hx, hE.ev hi, Instr.lookup, underlying, hT, getObj, Sem.run, h1, hc, hf]
theorem Yv.lkNil {T K e : TypeId} {x i : Operand} {z : Value} (k : α) (hT : P.underlying T = some (.map K e)) (hK : MKey P K f) (hz : (P.info? e).bind (·.zero) = some z) (hx : ev E x = some (.map none) := by rfl) (hi : ev E i = some (f k) := by rfl) : Yv P N C E Γ H (.lookup T x i false) ty z := by
  intro dst pos aft gd a w hE _
  obtain ⟨inf, hi1, hi2⟩ := Option.bind_eq_some_iff.1 hz
  have hf := hK.fk k [] [] rfl w
  have hc := hK.chk true 9998 k w
  simp [execOp, hE.ev hx, hE.ev hi, Instr.lookup, underlying, hT, hc, hf, kfind, zeroValue, typeInfo, hi1, hi2]
theorem kfind_some {k : α} : ∀ {es : List (α × β × Nat)} {i j : Nat} {u : Value} (v : β) (c : Nat), kfind k (es.map (·.1)) (ents f g es) i = some (j, u) → i ≤ j ∧ (MM.findL es k).isSome ∧ ((ents f g es)[j - i]?.map (·.key)) = some (f k) ∧ (ents f g es).modify (j - i) (fun e => { e with key := f k, val := g v }) = ents f g (MM.setL es k v c)
  | [], _, _, _, _, _, h => by simp [kfind] at h
  | e :: es, i, j, u, v, c, h => by
    by_cases hk : k = e.1
    · simp only [ents, List.map_cons, kfind, if_pos hk, Option.some.injEq, Prod.mk.injEq] at h
      obtain ⟨rfl, rfl⟩ := h
      refine ⟨Nat.le_refl _, by simp [MM.findL, hk], by simp [ents, hk], ?_⟩
      simp [ents, MM.setL, if_pos hk]
    · simp only [ents, List.map_cons, kfind, if_neg hk] at h
      obtain ⟨h1, h2, h3, h4⟩ := kfind_some v c h
      refine ⟨by omega, by simpa [MM.findL, hk] using h2, ?_, ?_⟩
      · rw [show j - i = (j - (i + 1)) + 1 by omega]
        simpa [ents] using h3
      · rw [show j - i = (j - (i + 1)) + 1 by omega]
        simp only [MM.setL, if_neg hk]
        have : ents f g (e :: es) = ⟨f e.1, g e.2.1, e.2.2⟩ :: ents f g es := rfl
        rw [this, List.modify_succ_cons, h4]
        rfl
theorem kfind_none {k : α} : ∀ {es : List (α × β × Nat)} {i : Nat}, kfind k (es.map (·.1)) (ents f g es) i = none → MM.findL es k = none := by
  intro es i h
  have := kfind_get (f := f) (g := g) k es i
  rw [h] at this
  cases hf : MM.findL es k with
  | none => rfl
  | some v => rw [hf] at this; cases this
/-- A key's value is laid down. -/
theorem Mv.mu {T K e : TypeId} {x y z : Operand} {b : Nat} {m : MM α β} {H' : RL} (k : α) (v : β) (hT : P.underlying T = some (.map K e)) (hK : MKey P K f) (hx : ev E x = some (.map (some b)) := by rfl) (hy : ev E y = some (f k) := by rfl) 
    (hp : Upd H (mpR b f g m) (mpR b f g (m.put k v)) H' := by (repeat (first | exact Upd.here _ _ _ | apply Upd.there)); first | done | fail) (hz : ev E z = some (g v) := by rfl) : Mv P N C E Γ H (.mapUpdate T x y z) ty (fun _ Γ1 H1 => Γ1 = Γ ∧ H1 = H') := by
  intro dst pos aft gd a w he hs KK Q hKK
  obtain ⟨G, hp1, hp2⟩ := hp.ex
  have hst := hs.perm hp1
  have h1 := Res.mp_ok.1 (hst.sat.hok _ (.head _))
  have hf := hK.fk k (m.es.map (·.1)) (ents f g m.es) (ents_keys _) w
  have hc := hK.chk false 9998 k w
  have hlt : b < w.heap.size := (Array.getElem?_eq_some_iff.1 h1).1
  have fin : ∀ o : Obj, o = .map (ents f g (m.put k v).es).toArray (m.put k v).ck → (execOp a.eval ⟨dst, .mapUpdate T x y z, ty, pos, aft, gd⟩).run P w = .ok .skip { w with heap := w.heap.setIfInBounds b o } → Oper.wp P ⟨dst, .mapUpdate T x y z, ty, pos, aft, gd⟩ a w KK Q := by
    intro o ho hr
    subst ho
    simp only [Oper.wp, hr, Oper.upon]
    have h5 : St C Γ (mpR b f g (m.put k v) :: G) { w with heap := w.heap.setIfInBounds b (.map (ents f g (m.put k v).es).toArray (m.put k v).ck) } :=
      St.obj (b := b) hst (fun k => Res.mp_fp) (fun k => Res.mp_fp) rfl rfl rfl (by simp) (Res.mp_ok.2 (by simp [hlt])) fun k hk => Array.getElem?_setIfInBounds_ne (Ne.symm hk)
    exact hKK _ _ _ _ ⟨rfl, rfl⟩ (h5.perm hp2.symm)
  cases hk : kfind k (m.es.map (·.1)) (ents f g m.es) 0 with
  | none =>
    rw [hk] at hf
    have hn := kfind_none hk
    refine fin (.map ((ents f g m.es).toArray.push { key := f k, val := g v, born := m.ck }) (m.ck + 1)) ?_ ?_
    · have e1 : (m.put k v).es = m.es ++ [(k, v, m.ck)] := MM.setL_none hn
      have e2 : (m.put k v).ck = m.ck + 1 := by simp [MM.put, MM.get, hn]
      rw [e1, e2]
      simp [ents]
    · simp [execOp, he.ev hx, he.ev hy, he.ev hz, Instr.mapUpdate, underlying, hT, getObj, setObj, Sem.run, h1, hc, hf]
  | some p =>
    obtain ⟨j, u⟩ := p
    rw [hk] at hf
    obtain ⟨_, hsm, hkey, hmod⟩ := kfind_some v m.ck hk
    rw [Nat.sub_zero] at hkey hmod
    refine fin (.map ((ents f g m.es).toArray.modify j fun e => { e with key := f k, val := g v }) m.ck) ?_ ?_
    · have e2 : (m.put k v).ck = m.ck := by simp [MM.put, MM.get, hsm]
      rw [e2]
      congr 1
      rw [List.modify_toArray, hmod]
      rfl
    · have hb := hK.bits 9999 k
      have hg : (((ents f g m.es).toArray[j]?).map (·.key)).getD (f k) = f k := by rw [List.getElem?_toArray, hkey]; rfl
      simp [execOp, he.ev hx, he.ev hy, he.ev hz, Instr.mapUpdate, underlying, hT, getObj, setObj, Sem.run, h1, hc, hf, Instr.keyThatStays, hkey, hb]
theorem JO.mu {pos : String} {aft : Array Edge} {T K e : TypeId} {x y z : Operand} {b : Nat} {m : MM α β} {H' : RL} (k : α) (v : β) (hT : P.underlying T = some (.map K e)) (hK : MKey P K f) (h : JO P N C ops rest Q E Γ H') (hx : ev E x = some (.map (some b)) := by rfl) (hy : ev E y = some (f k) := by rfl) 
    (hp : Upd H (mpR b f g m) (mpR b f g (m.put k v)) H' := by (repeat (first | exact Upd.here _ _ _ | apply Upd.there)); first | done | fail) (hz : ev E z = some (g v) := by rfl) : JO P N C ops (⟨none, .mapUpdate T x y z, ty, pos, aft, none⟩ :: rest) Q E Γ H :=
  .m0 (Mv.mu k v hT hK hx hy hp hz) fun _ Γ' H' ⟨h1, h2⟩ => by subst h1 h2; exact h
theorem Mv.mm {T : TypeId} (f : α → Value) (g : β → Value) : Mv P N C E Γ H (.makeMap T none) ty (fun v Γ' H' => ∃ b, v = .map (some b) ∧ Γ' = Γ ∧ H' = mpR b f g MM.nil :: H) := by
  intro dst pos aft gd a w he hs K Q hK
  have hr : (execOp a.eval ⟨dst, .makeMap T none, ty, pos, aft, gd⟩).run P w = .ok (.value (.map (some w.heap.size))) (w.alloc (.map #[] 0)) := by
    simp [execOp, Instr.makeMap, newObj, Sem.run]
  simp only [Oper.wp, hr, Oper.upon]
  refine hK _ _ _ _ ⟨_, rfl, rfl, rfl⟩ (hs.newObj _ _ (fun k => Res.mp_fp) (Res.mp_ok.2 ?_))
  simpa [ents, MM.nil] using heap_alloc_new w _
theorem JO.mm {d : Nat} {pos : String} {aft : Array Edge} {T : TypeId} (f : α → Value) (g : β → Value) (h : ∀ b, JO P N C ops rest Q ((d, .map (some b)) :: E) Γ (mpR b f g MM.nil :: H)) (hd : d < N := by decide) : JO P N C ops (⟨some d, .makeMap T none, ty, pos, aft, none⟩ :: rest) Q E Γ H :=
  .m (Mv.mm f g) hd fun v Γ' H' ⟨b, h1, h2, h3⟩ => by subst h1 h2 h3; exact h b
/-- A range begins. -/
theorem Mv.rg {T K e : TypeId} {x : Operand} {b : Nat} {m : MM α β} (hT : P.underlying T = some (.map K e)) (hx : ev E x = some (.map (some b))) (hm : MP Γ H (mpR b f g m)) : Mv P N C E Γ H (.range T x) ty (fun v Γ' H' => ∃ r, v = ptr r 0 ∧ Γ' = Γ ∧ H' = miR r b m [] :: H) := by
  intro dst pos aft gd a w he hs KK Q hK
  have h1 := Res.mp_ok.1 (hm.ok hs.sat)
  have hr : (execOp a.eval ⟨dst, .range T x, ty, pos, aft, gd⟩).run P w = .ok (.value (ptr w.heap.size 0)) (w.alloc (.mapIter (some b) m.ck #[] m.ck)) := by
    simp [execOp, he.ev hx, Instr.range, underlying, hT, getObj, newObj, Sem.run, h1]
  simp only [Oper.wp, hr, Oper.upon]
  refine hK _ _ _ _ ⟨_, rfl, rfl, rfl⟩ (hs.newObj _ _ (fun k => Res.mi_fp) (Res.mi_ok.2 ?_))
  simpa using heap_alloc_new w _
theorem JO.rg {d : Nat} {pos : String} {aft : Array Edge} {T K e : TypeId} {x : Operand} {b : Nat} {m : MM α β} (hT : P.underlying T = some (.map K e)) (h : ∀ r, JO P N C ops rest Q ((d, ptr r 0) :: E) Γ (miR r b m [] :: H)) (hx : ev E x = some (.map (some b)) := by rfl)
    (hm : MP Γ H (mpR b f g m) := by first | exact .inl (by (repeat (first | exact List.Mem.head _ | refine List.Mem.tail _ ?_)); first | done | fail) | exact .inr (by (repeat (first | exact List.Mem.head _ | refine List.Mem.tail _ ?_)); first | done | fail)) (hd : d < N := by decide) : JO P N C ops (⟨some d, .range T x, ty, pos, aft, none⟩ :: rest) Q E Γ H :=
  .m (Mv.rg hT hx hm) hd fun v Γ' H' ⟨r, h1, h2, h3⟩ => by subst h1 h2 h3; exact h r
theorem walk_all {m : MM α β} (hok : m.Ok) {p : List (α × β × Nat)} (hw : m.Walk p) (h : ∀ e ∈ m.es, e.2.2 ∈ p.map (·.2.2)) : p.Perm m.es := by
  have hn : m.es.Nodup := List.Pairwise.of_map (fun e : α × β × Nat => e.2.2) (fun a b h e => h (by rw [e])) hok.nb
  refine (List.perm_ext_iff_of_nodup hw.nd hn).2 fun e => ⟨hw.sub e, fun he => ?_⟩
  obtain ⟨e', he', hb⟩ := List.mem_map.1 (h e he)
  have : e' = e := by
    have h1 := hw.sub e' he'
    have hinj : ∀ l : List (α × β × Nat), (l.map (·.2.2)).Nodup → ∀ x ∈ l, ∀ y ∈ l, x.2.2 = y.2.2 → x = y := by
      intro l
      induction l with
      | nil => simp
      | cons a l ih =>
        intro hnd x hx y hy hxy
        simp only [List.map_cons, List.nodup_cons] at hnd
        rcases List.mem_cons.1 hx with hx1 | hx1 <;> rcases List.mem_cons.1 hy with hy1 | hy1
        · rw [hx1, hy1]
        · exact absurd (List.mem_map.2 ⟨y, hy1, by rw [← hxy, hx1]⟩) hnd.1
        · exact absurd (List.mem_map.2 ⟨x, hx1, by rw [hxy, hy1]⟩) hnd.1
        · exact ih hnd.2 x hx1 y hy1 hxy
    exact hinj m.es hok.nb e' h1 e he hb
  exact this ▸ he'
/-- A step of a range: all has come, or one more comes. -/
theorem JO.nx {d : Nat} {pos : String} {aft : Array Edge} {x : Operand} {r b : Nat} {m : MM α β} {p : List (α × β × Nat)} {G : RL} (hok : m.Ok) (hw : m.Walk p)
    (h1 : p.Perm m.es → JO P N C ops rest Q ((d, .tuple #[.bool false]) :: E) Γ (miR r b m p :: G))
    (h2 : ∀ e, e ∈ m.es → e ∉ p → m.Walk (p ++ [e]) → JO P N C ops rest Q ((d, .tuple #[.bool true, f e.1, g e.2.1]) :: E) Γ (miR r b m (p ++ [e]) :: G))
    (hx : ev E x = some (ptr r 0) := by rfl) (hp : Pull (miR r b m p) H G := by (repeat (first | exact Pull.here _ _ | apply Pull.there)); first | done | fail)
    (hm : MP Γ G (mpR b f g m) := by first | exact .inl (by (repeat (first | exact List.Mem.head _ | refine List.Mem.tail _ ?_)); first | done | fail) | exact .inr (by (repeat (first | exact List.Mem.head _ | refine List.Mem.tail _ ?_)); first | done | fail)) (hd : d < N := by decide) :
    JO P N C ops (⟨some d, .next x false, ty, pos, aft, none⟩ :: rest) Q E Γ H := by
  intro hn a w he hs
  have hst := hs.perm hp.perm
  have hit := Res.mi_ok.1 (hst.sat.hok _ (.head _))
  have hmp : w.heap[b]? = some (.map (ents f g m.es).toArray m.ck) := Res.mp_ok.1 (hm.elim (fun h => hst.sat.hok _ (.tail _ h)) (fun h => hst.sat.gok _ h))
  have hlt : r < w.heap.size := (Array.getElem?_eq_some_iff.1 hit).1
  refine wpList_plain rfl fun K hK => ?_
  have hold : ∀ y ∈ (ents f g m.es).toArray.toList, y.born < m.ck := by
    intro y hy
    obtain ⟨e, he, rfl⟩ := List.mem_map.1 (show y ∈ ents f g m.es from hy)
    exact hok.lt e he
  rcases run_next_at (P := P) w ty r b m.ck m.ck (p.map fun e => e.2.2).toArray (ents f g m.es).toArray m.ck hit hmp hold (Nat.le_refl _) with ⟨h0, hr⟩ | ⟨y, hy, w1, hw1, hr⟩
  · have hr' : (execOp a.eval ⟨some d, .next x false, ty, pos, aft, none⟩).run P w = .ok (.value (.tuple #[.bool false])) w := by simp [execOp, he.ev hx, hr]
    simp only [Oper.wp, hr', Oper.upon]
    refine hK _ _ (h1 (walk_all hok hw fun e hem => ?_) hn _ _ (he.put d hd _) hst)
    have : leftOf (ents f g m.es).toArray (p.map fun e => e.2.2).toArray = #[] := Array.eq_empty_of_size_eq_zero h0
    unfold leftOf at this
    rw [Array.filter_eq_empty_iff] at this
    have := this ⟨f e.1, g e.2.1, e.2.2⟩ (by simp [ents]; exact ⟨_, _, _, hem, rfl, rfl, rfl⟩)
    simpa using this
  · have h3 := mem_left hy
    obtain ⟨e, hem, rfl⟩ := List.mem_map.1 (show y ∈ ents f g m.es from h3.1)
    have hnp : e ∉ p := fun h => by
      have := h3.2
      simp at this
      exact this _ _ h
    have hr' : (execOp a.eval ⟨some d, .next x false, ty, pos, aft, none⟩).run P w = .ok (.value (.tuple #[.bool true, f e.1, g e.2.1])) (ChangeMaps.setBlock w1 r (.mapIter (some b) m.ck ((p.map fun e => e.2.2).toArray.push e.2.2) m.ck)) := by simp [execOp, he.ev hx, hr]
    simp only [Oper.wp, hr', Oper.upon]
    refine hK _ _ (h2 e hem hnp ⟨by rw [List.nodup_append]; exact ⟨hw.nd, by simp, fun a ha b hb => by simp at hb; subst hb; exact fun h => hnp (h ▸ ha)⟩, fun z hz => by
      rcases List.mem_append.1 hz with hz | hz
      · exact hw.sub z hz
      · simp at hz; subst hz; exact hem⟩ hn _ _ (he.put d hd _) ?_)
    have hst1 : St C Γ (miR r b m p :: G) w1 := by
      rcases hw1 with rfl | rfl
      · exact hst
      · exact hst.drew
    have hsz : w1.heap.size = w.heap.size := by rcases hw1 with rfl | rfl <;> rfl
    refine St.obj (b := r) hst1 (fun k => Res.mi_fp) (fun k => Res.mi_fp) rfl rfl rfl (by simp [ChangeMaps.setBlock]) (Res.mi_ok.2 ?_) ?_
    · simp [ChangeMaps.setBlock, hsz, hlt]
    · intro k hk
      simp only [ChangeMaps.setBlock]
      exact Array.getElem?_setIfInBounds_ne (Ne.symm hk)
/-- The entry that came last. -/
theorem Yv.en {x : Operand} {r b : Nat} {m : MM α β} {p : List (α × β × Nat)} {e : α × β × Nat} (hok : m.Ok) (he : e ∈ m.es) (hx : ev E x = some (ptr r 0) := by rfl)
    (hi : miR r b m (p ++ [e]) ∈ H := by (repeat (first | exact List.Mem.head _ | refine List.Mem.tail _ ?_)); first | done | fail)
    (hm : MP Γ H (mpR b f g m) := by first | exact .inl (by (repeat (first | exact List.Mem.head _ | refine List.Mem.tail _ ?_)); first | done | fail) | exact .inr (by (repeat (first | exact List.Mem.head _ | refine List.Mem.tail _ ?_)); first | done | fail)) : Yv P N C E Γ H (.entry x) ty (.tuple #[f e.1, g e.2.1]) := by
  intro dst pos aft gd a w hE hS
  have hmp := Res.mp_ok.1 (hm.ok hS.sat)
  have hit := Res.mi_ok.1 (hS.sat.hok _ hi)
  have hit' : w.heap[r]? = some (.mapIter (some b) m.ck ((p.map fun e => e.2.2).toArray.push (MapEntry.mk (f e.1) (g e.2.1) e.2.2).born) m.ck) := by rw [hit]; simp
  have := run_entry_at (P := P) w r b m.ck (p.map fun e => e.2.2).toArray (ents f g m.es).toArray m.ck ⟨f e.1, g e.2.1, e.2.2⟩ hit' hmp (by simp [ents]; exact ⟨_, _, _, he, rfl, rfl, rfl⟩) (by
    have h2 : ((ents f g m.es).toArray.toList.map (·.born)) = m.es.map (·.2.2) := by simp [ents]
    rw [h2]; exact hok.nb)
  simp [execOp, hE.ev hx, this]
theorem Yv.len_m {x : Operand} {T K e : TypeId} {b : Nat} {m : MM α β} (hT : P.underlying T = some (.map K e)) (hx : ev E x = some (.map (some b)))
    (hm : MP Γ H (mpR b f g m) := by first | exact .inl (by (repeat (first | exact List.Mem.head _ | refine List.Mem.tail _ ?_)); first | done | fail) | exact .inr (by (repeat (first | exact List.Mem.head _ | refine List.Mem.tail _ ?_)); first | done | fail)) : Yv P N C E Γ H (.call { callee := .builtin .len, args := #[x], argTypes := #[T] }) ty (it (m.es.length : Int)) := by
  intro dst pos aft gd a w he hS
  have h1 := Res.mp_ok.1 (hm.ok hS.sat)
  simp [execOp, he.ev hx, resolve, invoke, builtin, Builtin.len_, goInt, underlying, hT, getObj, Sem.run, h1, ents]
theorem Mv.dl {T K e : TypeId} {x y : Operand} {AT : Array TypeId} {b : Nat} {m : MM α β} {H' : RL} (k : α) (hT : P.underlying T = some (.map K e)) (hK : MKey P K f) (hx : ev E x = some (.map (some b)) := by rfl) (hy : ev E y = some (f k) := by rfl) (hA : AT[0]? = some T := by rfl)
    (hp : Upd H (mpR b f g m) (mpR b f g (m.del k)) H' := by (repeat (first | exact Upd.here _ _ _ | apply Upd.there)); first | done | fail) : Mv P N C E Γ H (.call { callee := .builtin .delete, args := #[x, y], argTypes := AT }) ty (fun _ Γ1 H1 => Γ1 = Γ ∧ H1 = H') := by
  intro dst pos aft gd a w he hs KK Q hKK
  obtain ⟨G, hp1, hp2⟩ := hp.ex
  have hst := hs.perm hp1
  have h1 := Res.mp_ok.1 (hst.sat.hok _ (.head _))
  have hf := hK.fk k (m.es.map (·.1)) (ents f g m.es) (ents_keys _) w
  have hc := hK.chk (ents f g m.es).isEmpty 9998 k w
  have hlt : b < w.heap.size := (Array.getElem?_eq_some_iff.1 h1).1
  have fin : ∀ o : Obj, o = .map (ents f g (m.del k).es).toArray (m.del k).ck → (execOp a.eval ⟨dst, .call { callee := .builtin .delete, args := #[x, y], argTypes := AT }, ty, pos, aft, gd⟩).run P w = .ok (.value (.tuple #[])) { w with heap := w.heap.setIfInBounds b o } → Oper.wp P ⟨dst, .call { callee := .builtin .delete, args := #[x, y], argTypes := AT }, ty, pos, aft, gd⟩ a w KK Q := by
    intro o ho hr
    subst ho
    simp only [Oper.wp, hr, Oper.upon]
    have h5 : St C Γ (mpR b f g (m.del k) :: G) { w with heap := w.heap.setIfInBounds b (.map (ents f g (m.del k).es).toArray (m.del k).ck) } :=
      St.obj (b := b) hst (fun k => Res.mp_fp) (fun k => Res.mp_fp) rfl rfl rfl (by simp) (Res.mp_ok.2 (by simp [hlt])) fun k hk => Array.getElem?_setIfInBounds_ne (Ne.symm hk)
    exact hKK _ _ _ _ ⟨rfl, rfl⟩ (h5.perm hp2.symm)
  have hdel : ∀ (es : List (α × β × Nat)) (i : Nat), (kfind k (es.map (·.1)) (ents f g es) i = none → MM.delL es k = es) ∧ ∀ j u, kfind k (es.map (·.1)) (ents f g es) i = some (j, u) → i ≤ j ∧ (ents f g es).eraseIdx (j - i) = ents f g (MM.delL es k) := by
    intro es
    induction es with
    | nil => intro i; exact ⟨fun _ => rfl, fun j u h => by simp [kfind] at h⟩
    | cons e es ih =>
      intro i
      have h0 : ents f g (e :: es) = ⟨f e.1, g e.2.1, e.2.2⟩ :: ents f g es := rfl
      by_cases hk : k = e.1
      · refine ⟨fun h => by simp [h0, kfind, hk] at h, fun j u h => ?_⟩
        simp only [h0, List.map_cons, kfind, if_pos hk, Option.some.injEq, Prod.mk.injEq] at h
        obtain ⟨rfl, rfl⟩ := h
        refine ⟨Nat.le_refl _, ?_⟩
        simp [h0, MM.delL, if_pos hk]
      · refine ⟨fun h => ?_, fun j u h => ?_⟩
        · simp only [h0, List.map_cons, kfind, if_neg hk] at h
          rw [MM.delL, if_neg hk, (ih (i + 1)).1 h]
        · simp only [h0, List.map_cons, kfind, if_neg hk] at h
          obtain ⟨h1, h2⟩ := (ih (i + 1)).2 j u h
          refine ⟨by omega, ?_⟩
          rw [show j - i = (j - (i + 1)) + 1 by omega, h0, List.eraseIdx_cons_succ, h2, MM.delL, if_neg hk]
          rfl
  cases hk : kfind k (m.es.map (·.1)) (ents f g m.es) 0 with
  | none =>
    rw [hk] at hf
    refine fin (.map (ents f g m.es).toArray m.ck) ?_ ?_
    · simp only [MM.del, (hdel m.es 0).1 hk]
    · simp [execOp, he.ev hx, he.ev hy, resolve, invoke, builtin, Builtin.delete_, hA, underlying, hT, getObj, setObj, Sem.run, h1, hc, hf]
  | some p =>
    obtain ⟨j, u⟩ := p
    rw [hk] at hf
    have h2 := ((hdel m.es 0).2 j u hk).2
    rw [Nat.sub_zero] at h2
    refine fin (.map ((ents f g m.es).toArray.eraseIdxIfInBounds j) m.ck) ?_ ?_
    · simp only [MM.del, ← h2]
      simp
    · simp [execOp, he.ev hx, he.ev hy, resolve, invoke, builtin, Builtin.delete_, hA, underlying, hT, getObj, setObj, Sem.run, h1, hc, hf]
theorem JO.dl {pos : String} {aft : Array Edge} {T K e : TypeId} {x y : Operand} {AT : Array TypeId} {b : Nat} {m : MM α β} {H' : RL} (k : α) (hT : P.underlying T = some (.map K e)) (hK : MKey P K f) (h : JO P N C ops rest Q E Γ H') (hx : ev E x = some (.map (some b)) := by rfl) (hy : ev E y = some (f k) := by rfl) (hA : AT[0]? = some T := by rfl)
    (hp : Upd H (mpR b f g m) (mpR b f g (m.del k)) H' := by (repeat (first | exact Upd.here _ _ _ | apply Upd.there)); first | done | fail) : JO P N C ops (⟨none, .call { callee := .builtin .delete, args := #[x, y], argTypes := AT }, ty, pos, aft, none⟩ :: rest) Q E Γ H :=
  .m0 (Mv.dl k hT hK hx hy hA hp) fun _ Γ' H' ⟨h1, h2⟩ => by subst h1 h2; exact h
end
end Go.Proofs.YtffgimlkmfjgmaaDoor
