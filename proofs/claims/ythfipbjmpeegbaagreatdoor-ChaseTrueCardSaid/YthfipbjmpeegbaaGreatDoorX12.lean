/- Texts of ours, gathered: N19 AW C2 T15 T19 U19 V19 LR. -/
import Derived.Test.YthfipbjmpeegbaaGreatDoorX11
/- The chapter's example of a chase, by what it says; names of small blocks. No program in sight. -/
namespace Go.Proofs.YthfipbjmpeegbaaGreatDoor
open Go.RowKit
set_option linter.unusedVariables false
set_option linter.unusedSimpArgs false
theorem nm_ne {a b : B8} (h : (nm a).1.getD 0 0 ≠ (nm b).1.getD 0 0) : nm a ≠ nm b := fun e => h (by rw [e])
abbrev bk0 : B8 := blockB 0 []
abbrev bk1 : B8 := blockB 0 [1#8]
theorem nm_01 : nm bk0 ≠ nm bk1 := nm_ne (by decide +kernel)
theorem blk_ok (h : BitVec 64) (b : B8) (hb : b.length ≤ 1000) : unE (blockB h b) = 0 ∧ unH (blockB h b) = h ∧ (blockB h b).length ≤ 20000 := by
  have hp : packE (blkL b) = 0 := by
    rw [packE_0]
    unfold blkL
    split
    · simp
    · rename_i hn
      refine ⟨by simp, fun c hc => ?_, by simp⟩
      obtain rfl := List.mem_singleton.1 hc
      omega
  have h1 := un_pack (h := h) hp
  have h2 : blockB h b = packB h (blkL b) := by unfold blockB packO; rw [if_pos hp]
  rw [h2]
  refine ⟨h1.1, h1.2.1, ?_⟩
  have := packO_len h (blkL b)
  rw [show packO h (blkL b) = packB h (blkL b) by unfold packO; rw [if_pos hp]] at this
  exact this
abbrev S4 : List W64 := [1#64, 1#64, 1#64, 1#64]
def X1 : AH := addAH AH0 0 bk0
def X2 : AH := addAH X1 1 bk0
def A1 : AC := putAC (fun _ => none) 0 X1
def A2 : AC := putAC A1 0 X2
theorem sum4 : sumS S4 = 4 := by decide
theorem abM_nil : abM (MM.nil : MM (BitVec 64) HC) = fun _ => none := rfl
theorem aw1 {M1 : MM (BitVec 64) HC} {e : Int} (h : HearP S4 MM.nil 0 0 bk0 M1 e) : e = 0 ∧ abM M1 = A1 ∧ M1.es.length = 1 := by
  have hk := blk_ok 0 [] (by decide)
  have hE : hearE S4 (abM MM.nil) (MM.nil : MM (BitVec 64) HC).es.length 0 0 bk0 = 0 := by
    rw [hearE, if_neg (fun x => x ⟨hk.1, hk.2.1⟩), if_neg (by rintro ⟨_, x⟩; simp [MM.nil] at x)]
    simp [voteE, acAt, abM_nil, AH0, stk]
  refine ⟨h.e.trans hE, ?_, ?_⟩
  · rw [h.ab, hearA, hE, if_pos rfl]; rfl
  · rw [h.n, hearN, hE, if_pos ⟨rfl, by simp [abM_nil]⟩]; rfl
theorem aw2 {M1 M2 : MM (BitVec 64) HC} {e : Int} (hM : abM M1 = A1) (hn : M1.es.length = 1) (h : HearP S4 M1 0 1 bk0 M2 e) : e = 0 ∧ abM M2 = A2 ∧ M2.es.length = 1 := by
  have hk := blk_ok 0 [] (by decide)
  have hA : A1 0 = some X1 := rfl
  have hE : hearE S4 (abM M1) M1.es.length 0 1 bk0 = 0 := by
    rw [hearE, if_neg (fun x => x ⟨hk.1, hk.2.1⟩), if_neg (by rintro ⟨x, _⟩; rw [hM, hA] at x; simp at x), hM, show acAt A1 0 = X1 from rfl]
    simp [voteE, X1, addAH, AH0, stk]
  refine ⟨h.e.trans hE, ?_, ?_⟩
  · rw [h.ab, hearA, hE, if_pos rfl, hM]; rfl
  · rw [h.n, hearN, hE, if_neg (by rintro ⟨_, x⟩; rw [hM, hA] at x; simp at x)]; exact hn
theorem aw3 {M2 M3 : MM (BitVec 64) HC} {e : Int} (hM : abM M2 = A2) (hn : M2.es.length = 1) (h : HearP S4 M2 0 0 bk1 M3 e) : e = 52 ∧ abM M3 = A2 ∧ M3.es.length = 1 := by
  have hk := blk_ok 0 [1#8] (by decide)
  have hA : A2 0 = some X2 := rfl
  have hE : hearE S4 (abM M2) M2.es.length 0 0 bk1 = 52 := by
    rw [hearE, if_neg (fun x => x ⟨hk.1, hk.2.1⟩), if_neg (by rintro ⟨x, _⟩; rw [hM, hA] at x; simp at x), hM, show acAt A2 0 = X2 from rfl]
    simp [voteE, X2, X1, addAH, AH0, stk, nm_01]
  refine ⟨h.e.trans hE, ?_, ?_⟩
  · rw [h.ab, hearA, hE, if_neg (by decide), hM]
  · rw [h.n, hearN, hE, if_neg (by rintro ⟨x, _⟩; exact absurd x (by decide))]; exact hn
theorem third1 (d : D32) : ¬ third S4 X1 d := by
  unfold third
  rw [sum4]
  have : forA S4 X1.g d ≤ 1 := by
    unfold forA byN
    simp [List.range_succ, X1, addAH, AH0]
    split <;> omega
  omega
theorem third2 (d : D32) : third S4 X2 d ↔ d = nm bk0 := by
  unfold third
  rw [sum4]
  unfold forA byN
  simp only [List.length_cons, List.length_nil, List.range_succ, List.range_zero, List.nil_append, List.cons_append, List.map_cons, List.map_nil, X2, X1, addAH, AH0]
  by_cases h : d = nm bk0
  · subst h; simp
  · have h2 : ¬ nm bk0 = d := fun e => h e.symm
    simp [h, h2]
theorem bel1 {o : Option B8} (h : BelR S4 (A1 0) o) : o = none := by
  cases o with
  | none => rfl
  | some b =>
    obtain ⟨x, d, hx, ht, _⟩ := h
    obtain rfl := Option.some.inj hx
    exact absurd ht (third1 d)
theorem bel2 {o : Option B8} (h : BelR S4 (A2 0) o) : o = some bk0 := by
  refine BelR.uniq h ⟨X2, nm bk0, rfl, (third2 _).2 rfl, fun d hd => ?_, ?_⟩
  · rw [(third2 d).1 hd, lexB_self]; decide
  · simp [X2, X1, addAH, AH0]
theorem run2 {l : List B8} (h : RunR S4 A2 0 l) : l = [bk0] := by
  refine RunR.uniq h ⟨fun i b hb => ?_, ?_⟩
  · cases i with
    | zero =>
      obtain rfl : bk0 = b := Option.some.inj hb
      refine ⟨X2, nm bk0, rfl, (third2 _).2 rfl, fun d hd => ?_, by simp [X2, X1, addAH, AH0]⟩
      rw [(third2 d).1 hd, lexB_self]; decide
    | succ i => simp at hb
  · intro x hx
    have : A2 (0 + BitVec.ofNat 64 [bk0].length) = none := by simp [A2, A1, putAC]
    rw [this] at hx; cases hx
theorem get_none_nil {α β : Type} [DecidableEq α] {m : MM α β} (h : ∀ k, m.get k = none) : m.es = [] := by
  cases hm : m.es with
  | nil => rfl
  | cons e l =>
    have := h e.1
    unfold MM.get at this
    rw [hm] at this
    simp [MM.findL] at this
theorem cut2 {M : MM (BitVec 64) HC} (hM : M.Ok) (ha : abM M = A2) : (cutM M 1).es = [] := by
  apply get_none_nil
  intro k
  rw [cut_get hM]
  split
  · rfl
  · rename_i hk
    have h1 : ¬ k = 0#64 := fun e => hk (by rw [e]; decide)
    have h2 : abM M k = none := by rw [ha]; simp [A2, A1, putAC, h1]
    unfold abM at h2
    cases hg : M.get k with
    | none => rfl
    | some x => rw [hg] at h2; cases h2
end Go.Proofs.YthfipbjmpeegbaaGreatDoor

/- Walk: the example. -/
namespace Go.Proofs.YthfipbjmpeegbaaGreatDoor
open Go.RowKit
set_option maxRecDepth 100000
set_option linter.unusedVariables false
set_option linter.unusedSimpArgs false
theorem f7_spec  :
    Spec Tryz.prog 7 #[] [Res.var 3 (sqr.map u32), Res.var 2 (cub.map u32), Res.var 0 [u64 9223372036854775808, u64 0, u64 0, u64 0]] []
      (fun r Γ' H' => r = (.bool true) ∧ Γ' = [] ∧ H' = []) := by
  refine Spec.of_args Tryz.func7 rfl Tryz.ntmps7 (by simp) fun w => ?_
  refine .seq (.region ?_)
  refine .w (.assign rfl) ?_
  refine .nil (.tn (.seq (.region ?_)))
  refine .l1 Tryz.underlying22 info_30 (fun v15 => ?_)
  refine .cb (f8ok_spec v15 S4 (by decide) (by decide) (by decide)) body_8 ?_ (h0 := by rintro _ _ _ ⟨_, _, _, _, h, _⟩; exact h)
  rintro _ _ ⟨c, am, sv, rfl, _, rfl⟩
  refine .ap ?_
  refine .sp0 ?_
  refine .w (.move rfl) ?_
  refine .w (.extract rfl rfl) ?_
  refine .w (.extract rfl rfl) ?_
  refine .w (.assign rfl) ?_
  refine .w (.assign rfl) ?_
  refine .nil (.tn (.seq (.seq (.region ?_))))
  refine .w (.move rfl) ?_
  refine .w (.bin rfl rfl (BinR.eql_p Tryz.underlying25)) ?_
  refine .w (.move rfl) ?_
  refine .gt (g := 21) rfl rfl rfl ?_
  refine .w (.move rfl) ?_
  refine .gt (g := 21) rfl rfl rfl ?_
  refine .w (.asF (.bin rfl rfl BinR.neq_i)) ?_
  refine .w (.pick0 rfl rfl rfl) ?_
  refine .nil (.tn ?_)
  refine .cf rfl ?_
  refine .skip (.tn (.seq (.region ?_)))
  refine JO.nilRd 1 ?_
  refine .cb (f9_spec 0 (.slice none 0 0) [] rfl) body_9 ?_ (h0 := by rintro _ _ _ ⟨_, h, _⟩; exact h)
  rintro v25 _ ⟨_, _, rfl⟩
  refine .ap ?_
  refine JO.know (φ := ∃ A n c, v25 = .slice A n c) (fun w hs => (by obtain ⟨A, c, rfl, _⟩ := row_rd (by decide) (Res.row_ok.1 (hs.hok _ (.head _))); exact ⟨_, _, _, rfl⟩)) fun ⟨A9, n9, c9, h_v25⟩ => ?_
  subst h_v25
  refine .w (.assign rfl) ?_
  refine .nil (.tn (.seq (.region ?_)))
  refine .w (.move rfl) ?_
  refine .w (.move rfl) ?_
  refine .w (.build (cs := [u64 0, it 0, .slice A9 n9 c9]) bld_33 rfl (by kernel_rfl)) ?_
  refine .cb (f10_spec c am sv S4 MM.nil (cok_nil _) (by decide) (by decide) (by decide) 0 0 (.slice A9 n9 c9) bk0 (Nat.le_trans (blk_ok 0 [] (by decide)).2.2 (by decide))) body_10 ?_ (h0 := by rintro _ _ _ ⟨_, _, _, _, h, _⟩; exact h)
  rintro _ _ ⟨M1, e1, hh1, rfl, _, rfl⟩
  refine .ap ?_
  obtain ⟨rfl, ha1, hn1⟩ := aw1 hh1
  refine .w (.assign rfl) ?_
  refine .nil (.tn (.seq (.region ?_)))
  refine .w (.move rfl) ?_
  refine .cb (f12_spec c am sv S4 M1 hh1.ok (by decide) (by decide) 0) body_12 ?_ (h0 := by rintro _ _ _ ⟨_, _, _, _, h, _⟩; exact h)
  rintro _ _ ⟨o1, rfl, hb1, _, _, rfl⟩
  refine .ap ?_
  rw [ha1] at hb1
  obtain rfl : o1 = none := by have := bel1 hb1; cases o1 <;> simp_all
  refine .w (.move rfl) ?_
  refine .w (.extract rfl rfl) ?_
  refine .w (.extract rfl rfl) ?_
  refine .w (.as (v' := .slice none 0 0) (.assign rfl) rfl) ?_
  refine .w (.as (v' := .bool false) (.assign rfl) rfl) ?_
  refine .nil (.tn (.seq (.region ?_)))
  refine .w (.move rfl) ?_
  refine .w (.move rfl) ?_
  refine .w (.build (cs := [u64 0, it 1, .slice A9 n9 c9]) bld_33 rfl (by kernel_rfl)) ?_
  refine .cb (f10_spec c am sv S4 M1 hh1.ok (by decide) (by decide) (by decide) 0 1 (.slice A9 n9 c9) bk0 (Nat.le_trans (blk_ok 0 [] (by decide)).2.2 (by decide))) body_10 ?_ (h0 := by rintro _ _ _ ⟨_, _, _, _, h, _⟩; exact h)
  rintro _ _ ⟨M2, e2, hh2, rfl, _, rfl⟩
  refine .ap ?_
  obtain ⟨rfl, ha2, hn2⟩ := aw2 ha1 hn1 hh2
  refine .w (.assign rfl) ?_
  refine .nil (.tn (.seq (.region ?_)))
  refine .w (.move rfl) ?_
  refine .cb (f12_spec c am sv S4 M2 hh2.ok (by decide) (by decide) 0) body_12 ?_ (h0 := by rintro _ _ _ ⟨_, _, _, _, h, _⟩; exact h)
  rintro _ _ ⟨o2, rfl, hb2, _, _, rfl⟩
  refine .ap ?_
  rw [ha2] at hb2
  obtain ⟨vb, rfl⟩ : ∃ vb, o2 = some (vb, bk0) := by have := bel2 hb2; cases o2 with | none => cases this | some x => exact ⟨x.1, by rw [show x = (x.1, x.2) from rfl, show x.2 = bk0 from Option.some.inj this]⟩
  refine .us (A := [Res.row vb bk0.length 5 1 (bk0.map u8)]) (B := []) (L := oR (some (vb, bk0))) (List.Perm.refl _) ?_
  refine .w (.move rfl) ?_
  refine .w (.extract rfl rfl) ?_
  refine .w (.extract rfl rfl) ?_
  refine .w (.as (v' := vb) (.assign rfl) rfl) ?_
  refine .w (.as (v' := .bool true) (.assign rfl) rfl) ?_
  refine .nil (.tn (.seq (.region ?_)))
  refine .w (.move rfl) ?_
  refine .l1 Tryz.underlying23 info_5 (fun v45 => ?_)
  refine JO.know (φ := v45.oneCell' = true) (fun w hs => (by obtain ⟨A, c, rfl, _⟩ := row_rd (by decide) (Res.row_ok.1 (hs.hok _ (.head _))); rfl)) fun hv45 => ?_
  refine .cb (f9_spec 0 v45 [1#8] hv45) body_9 ?_ (h0 := by rintro _ _ _ ⟨_, h, _⟩; exact h)
  rintro v46 _ ⟨_, _, rfl⟩
  refine .ap ?_
  refine JO.know (φ := ∃ A n c, v46 = .slice A n c) (fun w hs => (by obtain ⟨A, c, rfl, _⟩ := row_rd (by decide) (Res.row_ok.1 (hs.hok _ (.head _))); exact ⟨_, _, _, rfl⟩)) fun ⟨A8, n8, c8, h_v46⟩ => ?_
  subst h_v46
  refine .w (.build (cs := [u64 0, it 0, .slice A8 n8 c8]) bld_33 rfl (by kernel_rfl)) ?_
  refine .cb (f10_spec c am sv S4 M2 hh2.ok (by decide) (by decide) (by decide) 0 0 (.slice A8 n8 c8) bk1 (Nat.le_trans (blk_ok 0 [1#8] (by decide)).2.2 (by decide))) body_10 ?_ (h0 := by rintro _ _ _ ⟨_, _, _, _, h, _⟩; exact h)
  rintro _ _ ⟨M3, e3, hh3, rfl, _, rfl⟩
  refine .ap ?_
  obtain ⟨rfl, ha3, hn3⟩ := aw3 ha2 hn2 hh3
  refine .w (.assign rfl) ?_
  refine .nil (.tn (.seq (.region ?_)))
  refine .w (.move rfl) ?_
  refine .cb (f11_spec c am sv S4 M3 hh3.ok (by decide) (by decide) 0) body_11 ?_ (h0 := by rintro _ _ _ ⟨_, _, _, _, h, _⟩; exact h)
  rintro v50 _ ⟨Z, hrun, _, _, _, rfl⟩
  refine .ap ?_
  rw [ha3] at hrun
  have hZ := run2 hrun
  refine .w (.assign rfl) ?_
  refine .nil (.tn (.seq (.region ?_)))
  refine .w (.move rfl) ?_
  refine .cb (f16_spec c am sv S4 M3 hh3.ok 1) body_16 ?_
  rintro _ _ ⟨rfl, _, rfl⟩
  refine .ap ?_
  have hcut := cut2 hh3.ok.ok ha3
  refine .w (.as (v' := it 1) (.assign rfl) (congrArg it (by rw [hn3, hcut]; rfl))) ?_
  refine .nil (.tn (.seq (.region ?_)))
  refine .w (.move rfl) ?_
  refine .cb (f15_spec c am sv S4 (cutM M3 1) (cok_cut hh3.ok)) body_15 ?_ (h0 := by rintro _ _ _ ⟨_, _, h, _⟩; exact h)
  rintro v54 _ ⟨es, hes, _, rfl⟩
  refine .ap ?_
  rw [hcut] at hes
  obtain rfl : es = [] := by simpa using hes
  refine .w (.assign rfl) ?_
  refine .nil (.tn (.seq (.region ?_)))
  refine .w (.move rfl) ?_
  refine .w (.asT (.bin rfl rfl BinR.eql_i)) ?_
  refine .w (.move rfl) ?_
  refine .gt (g := 57) rfl rfl rfl ?_
  refine .w (.move rfl) ?_
  refine .gt (g := 57) rfl rfl rfl ?_
  refine .w (.as (v' := .bool true) (.not rfl) rfl) ?_
  refine .w (.pick1 rfl rfl rfl) ?_
  refine .w (.move rfl) ?_
  refine .gt (g := 61) rfl rfl rfl ?_
  refine .w (.move rfl) ?_
  refine .gt (g := 61) rfl rfl rfl ?_
  refine .w (.asT (.bin rfl rfl BinR.eql_i)) ?_
  refine .w (.pick1 rfl rfl rfl) ?_
  refine .w (.move rfl) ?_
  refine .gt (g := 65) rfl rfl rfl ?_
  refine .w (.move rfl) ?_
  refine .w (.pick1 rfl rfl rfl) ?_
  refine .w (.move rfl) ?_
  refine .gt (g := 68) rfl rfl rfl ?_
  refine .w (.move rfl) ?_
  refine .gt (g := 68) rfl rfl rfl ?_
  refine .w (.move rfl) ?_
  refine .gt (g := 68) rfl rfl rfl ?_
  refine .c (f14_spec _ _ bk0 bk0) body_14 ?_
  rw [show decide (bk0 = bk0) = true from decide_eq_true rfl]
  refine .w (.pick1 rfl rfl rfl) ?_
  refine .w (.move rfl) ?_
  refine .gt (g := 73) rfl rfl rfl ?_
  refine .w (.move rfl) ?_
  refine .gt (g := 73) rfl rfl rfl ?_
  refine .w (.asT (.bin rfl rfl BinR.eql_i)) ?_
  refine .w (.pick1 rfl rfl rfl) ?_
  refine .w (.move rfl) ?_
  refine .gt (g := 77) rfl rfl rfl ?_
  refine .w (.move rfl) ?_
  refine .gt (g := 77) rfl rfl rfl ?_
  refine .w (.move rfl) ?_
  refine .gt (g := 77) rfl rfl rfl ?_
  refine .l1 Tryz.underlying35 info_23 (fun v80 => ?_)
  refine .gt (g := 77) rfl rfl rfl ?_
  refine JO.frzP (by repeat (first | exact Pull.here _ _ | apply Pull.there)) ?_
  refine JO.freeze (v := (.slice A9 n9 c9)) (by repeat (first | exact Pull.here _ _ | apply Pull.there)) (by decide) ?_
  refine JO.bundle (pcRes [((.slice A9 n9 c9), bk0)]) (Subs.sub zqe) ?_
  refine .c (f13_spec v50 v80 Z [((.slice A9 n9 c9), bk0)]) body_13 ?_
  rw [show decide (bytesP Z = bytesP [(Value.slice A9 n9 c9, bk0)]) = true from decide_eq_true hZ]
  refine .w (.pick1 rfl rfl rfl) ?_
  refine .w (.move rfl) ?_
  refine .gt (g := 83) rfl rfl rfl ?_
  refine .w (.move rfl) ?_
  refine .gt (g := 83) rfl rfl rfl ?_
  refine .w (.asT (.bin rfl rfl BinR.eql_i)) ?_
  refine .w (.pick1 rfl rfl rfl) ?_
  refine .w (.move rfl) ?_
  refine .gt (g := 87) rfl rfl rfl ?_
  refine .w (.move rfl) ?_
  refine .gt (g := 87) rfl rfl rfl ?_
  refine .w (.as (v' := it 0) (.len Tryz.underlying22 rfl) rfl) ?_
  refine .gt (g := 87) rfl rfl rfl ?_
  refine .w (.asT (.bin rfl rfl BinR.eql_i)) ?_
  refine .w (.pick1 rfl rfl rfl) ?_
  refine .w (.assign rfl) ?_
  refine .nil (.tn (.ret ?_))
  exact .dn [] [] (res1 rfl (.tmp rfl)) ⟨rfl, rfl, rfl⟩
end Go.Proofs.YthfipbjmpeegbaaGreatDoor

/- Walk: Answer. -/
namespace Go.Proofs.YthfipbjmpeegbaaGreatDoor
open Go.RowKit
set_option maxRecDepth 100000
set_option linter.unusedVariables false
set_option linter.unusedSimpArgs false
theorem f17_spec (lv : Value) (L : Pcs) (wh : Int) (fr : BitVec 64) (hL : L.length ≤ 100000) (hS : ∀ b ∈ bytesP L, b.length ≤ 1000000000) :
    Spec Tryz.prog 17 #[lv, (it wh), (u64 fr)] [Res.rd lv L.length 1 (L.map Prod.fst), Res.all (pcRes L)] []
      (fun r Γ' H' => ∃ Z : List CLM, clOf Z = ans (bytesP L) wh fr ∧ Γ' = [] ∧ H' = [Res.row r Z.length 33 3 (bks clC Z), Res.sep (rowsP (clP Z) 5)]) := by
  refine Spec.of_args Tryz.func17 rfl Tryz.ntmps17 (by simp) fun w => ?_
  refine .seq (.region ?_)
  refine .w (.assign rfl) ?_
  refine .nil (.tn (.seq (.region ?_)))
  refine .w (.assign rfl) ?_
  refine .nil (.tn (.seq (.seq (.region ?_))))
  refine JO.nilRow 33 3 ?_
  refine JO.sp0 ?_
  refine .w (.move rfl) ?_
  refine .w (.assign rfl) ?_
  refine .nil (.tn (.block ?_))
  refine .lp (ι := Nat × BitVec 64 × Value × List CLM) (fun x => x.1 ≤ min 4 (L.length - fr.toNat) ∧ x.2.1.toNat = fr.toNat + x.1 ∧ clOf x.2.2.2 = ansK (bytesP L) wh fr.toNat x.1) (fun T x => (8, u64 x.2.1) :: (7, x.2.2.1) :: T) (fun T _ => T) (fun T x => Res.row x.2.2.1 x.2.2.2.length 33 3 (bks clC x.2.2.2) :: Res.sep (rowsP (clP x.2.2.2) 5) :: T) (fun x => 4 - x.1) (0, fr, .slice none 0 0, []) [0, 1, 6, 33] ?_ (fun x hx => ?_)
  · exact ⟨Nat.zero_le _, rfl, rfl⟩
  obtain ⟨k, cc, vo, Z⟩ := x
  obtain ⟨hk, e1, hZ⟩ := hx
  dsimp only at hk e1 hZ ⊢
  have hZl : Z.length = k := by have := congrArg List.length hZ; rwa [clOf_len, ansK_len] at this
  have hcc : BitVec.ofNat 64 (fr.toNat + k) = cc := by rw [← e1]; simp
  have hgb : (bytesP L).getD (fr.toNat + k) [] = (pcAt L cc.toNat).2 := by rw [← e1]; simp only [bytesP, pcAt, List.getD_eq_getElem?_getD, List.getElem?_map]; cases L[cc.toNat]? <;> rfl
  have e2 : (BitVec.ofInt 64 (L.length : Int)).toNat = L.length := by rw [BitVec.ofInt_natCast, BitVec.toNat_ofNat]; omega
  refine .seq (.seq (.region ?_))
  refine .w (.move rfl) ?_
  refine .w (.move rfl) ?_
  refine .w (.len Tryz.underlying35 rfl) ?_
  refine .w (.conv_i_u64 Tryz.underlying3 Tryz.underlying30 rfl) ?_
  refine .w (.bin rfl rfl (BinR.lss_u64)) ?_
  refine .w (.move rfl) ?_
  refine .gn (g := 14) rfl (fun hg11 hg11' => ?_) (fun hg11 hg11' => ?_)
  · refine .gt (g := 15) rfl rfl hg11 ?_
    refine .w (.move rfl) ?_
    refine .gt (g := 15) rfl rfl hg11 ?_
    refine .w (.len Tryz.underlying29 rfl) ?_
    refine .gt (g := 15) rfl rfl hg11 ?_
    refine .w (.bin rfl rfl BinR.lss_i) ?_
    refine .w (.pick1 rfl hg11 rfl) ?_
    refine .nil (.tn ?_)
    refine .cn rfl (fun hc1 => ?_) (fun hc1 => ?_)
    · refine .skip (.tn (.seq (.block (.region ?_))))
      refine .w (.move rfl) ?_
      refine .w (.move rfl) ?_
      refine .w (.move rfl) ?_
      refine .w (.move rfl) ?_
      refine .w (.move rfl) ?_
      refine JO.open (r := Res.rd (pcAt L cc.toNat).1 (pcAt L cc.toNat).2.length 1 ((pcAt L cc.toNat).2.map u8)) zqa (pc_res (by omega)) ?_
      refine .w (.ix1 Tryz.underlying35 sz_23 rfl rfl) ?_
      refine .w (.ld one_23 rfl (hj := by first | exact pc_get (by omega) | rfl | exact tab_get zqg | exact gm (d := 0) zqg)) ?_
      refine .cb (f27_spec (pcAt L cc.toNat).1 (pcAt L cc.toNat).2.length ((pcAt L cc.toNat).2.map u8) (by have := hS _ (List.mem_map.2 ⟨_, pc_mem (l := L) (k := cc.toNat) (by omega), rfl⟩); omega) one_u8s) body_27 ?_
      rintro v29 _ ⟨_, _, rfl⟩
      refine .ap ?_
      refine JO.know (φ := ∃ A n c, v29 = .slice A n c) (fun w hs => (by obtain ⟨A, c, rfl, _⟩ := row_rd (by decide) (Res.row_ok.1 (hs.hok _ (.head _))); exact ⟨_, _, _, rfl⟩)) fun ⟨A9, n9, c9, h29⟩ => ?_
      subst h29
      have hsn : ∀ v e, Res.row v (Z.length + 1) e 3 (bks clC Z ++ List.flatMap (fun v => v.cells.toList) [Value.agg #[u64 cc, it wh, .slice A9 n9 c9]]) = Res.row v (Z ++ [CLM.mk cc wh A9 n9 c9 (pcAt L cc.toNat).2]).length e 3 (bks clC (Z ++ [CLM.mk cc wh A9 n9 c9 (pcAt L cc.toNat).2])) := fun v e => snocCl (x := CLM.mk cc wh A9 n9 c9 (pcAt L cc.toNat).2)
      refine .w (.build (cs := [u64 cc, it wh, .slice A9 n9 c9]) bld_33 rfl (by kernel_rfl)) ?_
      refine .ls Tryz.underlying29 info_33 (fun v31 => ?_) (hsz := (by intro v hv; obtain rfl := List.mem_singleton.1 hv; rfl))
      refine .ap Tryz.underlying29 info_33 (fun v32 => ?_) (hone := (by intro a ha; simp [Value.cells] at ha; rcases ha with rfl | rfl | rfl <;> rfl))
      rw [hsn]
      refine .w (.assign rfl) ?_
      refine .nil (.block_normal (.tn (.region ?_)))
      refine .w (.move rfl) ?_
      refine .w (.bin rfl rfl (BinR.add_u64 (b := 1#64))) ?_
      refine .w (.assign rfl) ?_
      refine .nil ?_
      refine .rs (A := [Res.row (.slice A9 n9 c9) (pcAt L cc.toNat).2.length 5 1 ((pcAt L cc.toNat).2.map u8)]) (B := rowsP (clP Z) 5) (L := rowsP (clP (Z ++ [CLM.mk cc wh A9 n9 c9 (pcAt L cc.toNat).2])) 5) (by simp [rowsP, clP, CLM.v]) ?_
      refine .hd (k + 1, cc + 1, v32, Z ++ [CLM.mk cc wh A9 n9 c9 (pcAt L cc.toNat).2]) ?_
      exact ⟨⟨by dsimp only; omega, by dsimp only; rw [BitVec.toNat_add, show (1 : BitVec 64).toNat = 1 from rfl]; omega, by dsimp only; rw [clOf_snoc, hZ, ansK_succ, hcc, hgb]⟩, by dsimp only; omega⟩
    · refine .exit (.then_exit (.then_exit (.block_exit (.tn (.seq (.region ?_))))))
      refine .w (.move rfl) ?_
      refine .w (.assign rfl) ?_
      refine .nil (.tn (.ret ?_))
      exact .dn [] [Res.row vo Z.length 33 3 (bks clC Z), Res.sep (rowsP (clP Z) 5)] (res1 rfl (.tmp rfl)) ⟨Z, by rw [hZ]; unfold ans; rw [bytesP_len]; congr 1; simp_all; omega, rfl, rfl⟩
  · refine .gf (g := 15) rfl rfl hg11 (by decide) ?_
    refine .gf (g := 15) rfl rfl hg11 (by decide) ?_
    refine .gf (g := 15) rfl rfl hg11 (by decide) ?_
    refine .w (.pick0 rfl hg11 rfl) ?_
    refine .nil (.tn ?_)
    refine .k0 rfl rfl ?_
    refine .exit (.then_exit (.then_exit (.block_exit (.tn (.seq (.region ?_))))))
    refine .w (.move rfl) ?_
    refine .w (.assign rfl) ?_
    refine .nil (.tn (.ret ?_))
    exact .dn [] [Res.row vo Z.length 33 3 (bks clC Z), Res.sep (rowsP (clP Z) 5)] (res1 rfl (.tmp rfl)) ⟨Z, by rw [hZ]; unfold ans; rw [bytesP_len]; congr 1; simp_all; omega, rfl, rfl⟩
end Go.Proofs.YthfipbjmpeegbaaGreatDoor

/- Votes: what a list of votes holds; how a tally grows. No program in sight. -/
namespace Go.Proofs.YthfipbjmpeegbaaGreatDoor
open Go.RowKit
set_option linter.unusedVariables false
set_option linter.unusedSimpArgs false
abbrev VtE := Int × D32
abbrev vtC (e : VtE) : List Value := it e.1 :: dgC e.2
instance : FS vtC 33 := ⟨fun e => by simp [e.2.2], fun e v hv => by
  rcases List.mem_cons.1 hv with rfl | hv
  · rfl
  · exact FS.one (f := dgC) e.2 v hv⟩
@[simp] theorem vts_len (l : List VtE) : (bks vtC l).length = l.length * 33 := bks_len l
/-! ### How a tally grows -/
def Grow (g g' : Int → Option D32) : Prop := ∀ k u, g k = some u → g' k = some u
theorem Grow.refl (g : Int → Option D32) : Grow g g := fun _ _ h => h
theorem Grow.trans {a b c : Int → Option D32} (h : Grow a b) (k : Grow b c) : Grow a c := fun x u hx => k x u (h x u hx)
theorem Grow.forA {S : List W64} {g g' : Int → Option D32} (h : Grow g g') (v : D32) : forA S g v ≤ forA S g' v :=
  byN_mono fun i _ hp => decide_eq_true (h _ _ (of_decide_eq_true hp))
theorem Grow.quo {S : List W64} {g g' : Int → Option D32} (h : Grow g g') {q : D32} (hq : Quo S g q) : Quo S g' q := by
  have := h.forA (S := S) q
  unfold Quo at *
  omega
theorem newE_ok {S : List W64} (h : newE S = 0) : 1 ≤ S.length ∧ S.length ≤ 40 ∧ sumS S < 9223372036854775808 := by
  unfold newE at h
  split at h
  · cases h
  · split at h
    · cases h
    · rename_i h1 h2
      refine ⟨by omega, by omega, ?_⟩
      have hl : S.length ≤ 40 := by omega
      have hb : ∀ l : List W64, sumS l ≤ l.length * 18446744073709551616 := fun l => by
        induction l with
        | nil => exact Nat.le_refl _
        | cons a l ih =>
          have := a.isLt
          have e : sumS (a :: l) = a.toNat + sumS l := rfl
          rw [e, List.length_cons, Nat.succ_mul]
          omega
      have := hb S
      have : S.length * 18446744073709551616 ≤ 40 * 18446744073709551616 := Nat.mul_le_mul_right _ hl
      rw [totN_sum (by omega)] at h2
      omega
/-! ### Who voted twice -/
structure TW (S : List W64) (tw : MM Int Bool) (n : Nat) : Prop where
  ok : tw.Ok
  rng : ∀ e ∈ tw.es, 0 ≤ e.1 ∧ e.1 < S.length
  len : tw.es.length ≤ n
theorem setL_len {α β : Type} [DecidableEq α] (k : α) (v : β) (c : Nat) : ∀ es : List (α × β × Nat), (MM.setL es k v c).length ≤ es.length + 1
  | [] => Nat.le_refl _
  | e :: es => by
    have := setL_len k v c es
    unfold MM.setL
    split
    · simp
    · simp only [List.length_cons]; omega
theorem TW.nil (S : List W64) : TW S MM.nil 0 := ⟨MM.ok_nil, by simp [MM.nil], Nat.le_refl _⟩
theorem TW.put {S : List W64} {tw : MM Int Bool} {n : Nat} (h : TW S tw n) {k : Int} (h0 : 0 ≤ k) (h1 : k < S.length) : TW S (tw.put k true) (n + 1) := by
  refine ⟨MM.ok_put h.ok k true, fun e he => ?_, Nat.le_trans (setL_len _ _ _ _) (by have := h.len; omega)⟩
  have hk := MM.ok_put h.ok k true
  have : (tw.put k true).get e.1 = some e.2.1 := (MM.get_iff hk).2 ⟨e.2.2, he⟩
  rw [MM.get_put] at this
  split at this
  · rename_i e1; rw [e1]; exact ⟨h0, h1⟩
  · obtain ⟨c, hc⟩ := (MM.get_iff h.ok).1 this
    have h2 := h.rng _ hc
    exact h2
theorem voteE_52 {S : List W64} {g : Int → Option D32} {who : Int} {v : D32} (h : voteE S g who v = 52) : 0 ≤ who ∧ who < S.length := by
  unfold voteE at h
  split at h
  · cases h
  · omega
theorem TW.vote {S : List W64} {g : Int → Option D32} {tw tw' : MM Int Bool} {n : Nat} {who : Int} {v : D32} (h : TW S tw n) (e : tw' = if voteE S g who v = 52 then tw.put who true else tw) : TW S tw' (n + 1) := by
  subst e
  split
  · rename_i h52
    exact h.put (voteE_52 h52).1 (voteE_52 h52).2
  · exact ⟨h.ok, h.rng, Nat.le_succ_of_le h.len⟩
theorem TW.wf {S : List W64} {tw : MM Int Bool} {n : Nat} (h : TW S tw n) (hS : S.length ≤ 1000000) : ∀ e ∈ tw.es, (Lit.int .i64 e.1).wf = true := fun e he => by
  have := h.rng e he
  have a1 : IntKind.min .i64 = -9223372036854775808 := by decide
  have a2 : IntKind.max .i64 = 9223372036854775807 := by decide
  simp only [Lit.wf, a1, a2, Bool.and_eq_true, decide_eq_true_eq]
  omega
/-! ### Two quorums -/
/-! ### Whatever the order -/
/-! ### The chapter's examples -/
end Go.Proofs.YthfipbjmpeegbaaGreatDoor

/- In which order claims come does not matter: the plain side. No program in sight. -/
namespace Go.Proofs.YthfipbjmpeegbaaGreatDoor
open Go.RowKit
set_option linter.unusedVariables false
set_option linter.unusedSimpArgs false
def obB : Option (Value × B8) → B8
  | none => []
  | some x => x.2
abbrev CLT := BitVec 64 × Int × B8
def valid (S : List W64) (i : Int) : Prop := 0 ≤ i ∧ i < S.length ∧ stk S i ≠ 0
/-- What a state is, of the claims that were heard. -/
structure QC (S : List W64) (l : List CLT) (a : AC) : Prop where
  no : ∀ h, a h = none → ∀ i b, (h, i, b) ∈ l → ¬ valid S i
  sm : ∀ h x, a h = some x → (∃ i b, (h, i, b) ∈ l ∧ valid S i) ∧ (∀ i v, x.g i = some v ↔ ∃ b, (h, i, b) ∈ l ∧ valid S i ∧ nm b = v) ∧ ∀ d b, x.bl d = some b ↔ ∃ i, (h, i, b) ∈ l ∧ valid S i ∧ nm b = d
theorem opt_ext {α : Type} {x y : Option α} (h : ∀ v, x = some v ↔ y = some v) : x = y := by
  cases x with
  | none => cases y with
    | none => rfl
    | some v => exact absurd ((h v).2 rfl) (by simp)
  | some v => exact ((h v).1 rfl).symm
theorem QC.uniq {S : List W64} {l l' : List CLT} {a a' : AC} (h : QC S l a) (h' : QC S l' a') (hl : ∀ c, c ∈ l ↔ c ∈ l') : a = a' := by
  funext k
  cases ha : a k with
  | none =>
    cases ha' : a' k with
    | none => rfl
    | some x =>
      obtain ⟨⟨i, b, h1, h2⟩, _⟩ := h'.sm k x ha'
      exact absurd h2 (h.no k ha i b ((hl _).2 h1))
  | some x =>
    cases ha' : a' k with
    | none =>
      obtain ⟨⟨i, b, h1, h2⟩, _⟩ := h.sm k x ha
      exact absurd h2 (h'.no k ha' i b ((hl _).1 h1))
    | some x' =>
      obtain ⟨_, h1, h2⟩ := h.sm k x ha
      obtain ⟨_, h3, h4⟩ := h'.sm k x' ha'
      congr 1
      obtain ⟨g, bl⟩ := x
      obtain ⟨g', bl'⟩ := x'
      have e1 : g = g' := by
        funext i
        refine opt_ext fun v => ?_
        rw [show g i = some v ↔ _ from h1 i v, show g' i = some v ↔ _ from h3 i v]
        simp only [hl]
      have e2 : bl = bl' := by
        funext d
        refine opt_ext fun v => ?_
        rw [show bl d = some v ↔ _ from h2 d v, show bl' d = some v ↔ _ from h4 d v]
        simp only [hl]
      rw [e1, e2]
theorem QC.nil (S : List W64) : QC S [] (fun _ => none) := ⟨fun _ _ _ _ h => (by cases h), fun _ _ h => (by cases h)⟩
theorem vote_0 {S : List W64} {g : Int → Option D32} {i : Int} {v : D32} (h : g i = none) : voteE S g i v = 0 ↔ valid S i := by
  unfold voteE valid
  rw [h]
  simp only [reduceCtorEq, if_false, Option.isSome_none, Bool.false_eq_true]
  constructor
  · intro hv
    split at hv
    · cases hv
    · split at hv
      · cases hv
      · exact ⟨by omega, by omega, by assumption⟩
  · rintro ⟨h1, h2, h3⟩
    rw [if_neg (by omega), if_neg h3]
theorem QC.step {S : List W64} {l : List CLT} {a : AC} (h : QC S l a) {n : Nat} {k : BitVec 64} {i : Int} {b : B8} (hu : unE b = 0 ∧ unH b = k) (hd : ∀ b', (k, i, b') ∉ l) (hn : ∀ j b', (k, j, b') ∈ l → nm b' = nm b → b' = b) (hf : n < 20) :
    QC S (l ++ [(k, i, b)]) (hearA S a n k i b) := by
  have hE : hearE S a n k i b = voteE S (acAt a k).g i (nm b) := by rw [hearE, if_neg (fun x => x hu), if_neg (fun x => absurd x.2 (by omega))]
  have hg : (acAt a k).g i = none := by
    unfold acAt
    cases ha : a k with
    | none => rfl
    | some x =>
      cases hx : x.g i with
      | none => exact hx
      | some v =>
        obtain ⟨b', hb', _⟩ := ((h.sm k x ha).2.1 i v).1 hx
        exact absurd hb' (hd b')
  by_cases hv : valid S i
  · have h0 : hearE S a n k i b = 0 := hE.trans ((vote_0 hg).2 hv)
    rw [hearA, if_pos h0]
    have hmem : ∀ (q : BitVec 64) (j : Int) (c : B8), (q, j, c) ∈ l ++ [(k, i, b)] ↔ (q, j, c) ∈ l ∨ (q = k ∧ j = i ∧ c = b) := fun q j c => by simp
    refine ⟨fun q hq j c hc => ?_, fun q x hx => ?_⟩
    · unfold putAC at hq
      split at hq
      · cases hq
      · rename_i hne
        rcases (hmem q j c).1 hc with hc | hc
        · exact h.no q hq j c hc
        · exact absurd hc.1 hne
    · unfold putAC at hx
      split at hx
      · rename_i e
        subst e
        obtain rfl := Option.some.inj hx
        refine ⟨⟨i, b, (hmem _ _ _).2 (.inr ⟨rfl, rfl, rfl⟩), hv⟩, fun j v => ?_, fun d c => ?_⟩
        · simp only [addAH]
          by_cases hj : j = i
          · subst hj
            simp only [if_true, Option.some.injEq]
            constructor
            · rintro rfl; exact ⟨b, (hmem _ _ _).2 (.inr ⟨rfl, rfl, rfl⟩), hv, rfl⟩
            · rintro ⟨c, h0, _, h2⟩
              rcases (hmem _ _ _).1 h0 with h1 | ⟨_, _, rfl⟩
              · exact absurd h1 (hd c)
              · exact h2
          · rw [if_neg hj]
            constructor
            · intro hgj
              unfold acAt at hgj
              cases ha : a q with
              | none => rw [ha] at hgj; cases hgj
              | some x =>
                rw [ha] at hgj
                obtain ⟨c, h1, h2, h3⟩ := ((h.sm q x ha).2.1 j v).1 hgj
                exact ⟨c, (hmem _ _ _).2 (.inl h1), h2, h3⟩
            · rintro ⟨c, h0, h2, h3⟩
              rcases (hmem _ _ _).1 h0 with h1 | ⟨_, h4, _⟩
              · unfold acAt
                cases ha : a q with
                | none => exact absurd h2 (h.no q ha j c h1)
                | some x => exact ((h.sm q x ha).2.1 j v).2 ⟨c, h1, h2, h3⟩
              · exact absurd h4 hj
        · simp only [addAH]
          have old : (acAt a q).bl d = some c ↔ ∃ j, (q, j, c) ∈ l ∧ valid S j ∧ nm c = d := by
            unfold acAt
            cases ha : a q with
            | none =>
              constructor
              · intro h1; cases h1
              · rintro ⟨j, h1, h2, _⟩; exact absurd h2 (h.no q ha j c h1)
            | some x => exact (h.sm q x ha).2.2 d c
          by_cases hdn : d = nm b
          · subst hdn
            rw [if_pos rfl]
            have hcb : (((acAt a q).bl (nm b)).getD b) = b := by
              cases hc : (acAt a q).bl (nm b) with
              | none => rfl
              | some c' =>
                have : ∃ j, (q, j, c') ∈ l ∧ valid S j ∧ nm c' = nm b := by
                  unfold acAt at hc
                  cases ha : a q with
                  | none => rw [ha] at hc; cases hc
                  | some x => rw [ha] at hc; exact ((h.sm q x ha).2.2 _ _).1 hc
                obtain ⟨j, h1, _, h3⟩ := this
                exact hn j c' h1 h3
            rw [hcb]
            constructor
            · intro e
              obtain rfl := Option.some.inj e
              exact ⟨i, (hmem _ _ _).2 (.inr ⟨rfl, rfl, rfl⟩), hv, rfl⟩
            · rintro ⟨j, h0, _, h3⟩
              rcases (hmem _ _ _).1 h0 with h1 | ⟨_, _, rfl⟩
              · rw [hn j c h1 h3]
              · rfl
          · rw [if_neg hdn, old]
            constructor
            · rintro ⟨j, h1, h2, h3⟩; exact ⟨j, (hmem _ _ _).2 (.inl h1), h2, h3⟩
            · rintro ⟨j, h0, h2, h3⟩
              rcases (hmem _ _ _).1 h0 with h1 | ⟨_, _, rfl⟩
              · exact ⟨j, h1, h2, h3⟩
              · exact absurd h3.symm hdn
      · rename_i hne
        obtain ⟨h1, h2, h3⟩ := h.sm q x hx
        have e : ∀ j c, (q, j, c) ∈ l ++ [(k, i, b)] ↔ (q, j, c) ∈ l := fun j c => by
          rw [hmem]
          constructor
          · rintro (h | ⟨h, _⟩)
            · exact h
            · exact absurd h hne
          · exact .inl
        refine ⟨?_, fun j v => ?_, fun d c => ?_⟩
        · obtain ⟨j, c, h4, h5⟩ := h1; exact ⟨j, c, (e j c).2 h4, h5⟩
        · rw [h2 j v]; simp only [e]
        · rw [h3 d c]; simp only [e]
  · have h0 : hearE S a n k i b ≠ 0 := by rw [hE]; exact fun e => hv ((vote_0 hg).1 e)
    rw [hearA, if_neg h0]
    have e : ∀ q j c, valid S j → ((q, j, c) ∈ l ++ [(k, i, b)] ↔ (q, j, c) ∈ l) := fun q j c hj => by
      simp only [List.mem_append, List.mem_singleton, Prod.mk.injEq]
      constructor
      · rintro (h | ⟨_, h, _⟩)
        · exact h
        · exact absurd (h ▸ hj) hv
      · exact .inl
    refine ⟨fun q hq j c hc hj => h.no q hq j c ((e q j c hj).1 hc) hj, fun q x hx => ?_⟩
    obtain ⟨⟨j, c, h4, h5⟩, h2, h3⟩ := h.sm q x hx
    refine ⟨⟨j, c, (e q j c h5).2 h4, h5⟩, fun j v => ?_, fun d c => ?_⟩
    · rw [h2 j v]
      exact ⟨fun ⟨c, h1, h2, h3⟩ => ⟨c, (e q j c h2).2 h1, h2, h3⟩, fun ⟨c, h1, h2, h3⟩ => ⟨c, (e q j c h2).1 h1, h2, h3⟩⟩
    · rw [h3 d c]
      exact ⟨fun ⟨j, h1, h2, h3⟩ => ⟨j, (e q j c h2).2 h1, h2, h3⟩, fun ⟨j, h1, h2, h3⟩ => ⟨j, (e q j c h2).1 h1, h2, h3⟩⟩
/-! ### The claims of this law -/
/-! ### What was believed, to be read -/
section
variable {P : Program} {N : Nat} {C : Beg} {Q : Exit → Act → World → Prop} {E : Env} {Γ H : RL} {ops : Array Oper}
theorem St.oRd {o : Option (Value × B8)} {G : RL} {w : World} (h : St C Γ H w) (hp : Pull (Res.sep (oR o)) H G) : St C (Res.rd (bv o) (obB o).length 1 ((obB o).map u8) :: Γ) G w := by
  have h1 := St.sep.1 (h.perm hp.perm)
  cases o with
  | none => exact h1.nilRd 1
  | some x => exact St.freezeRow (H := Res.row x.1 x.2.length 5 1 (x.2.map u8) :: G) h1 (.here _ _) (by decide)
theorem JO.oRd {o : Option (Value × B8)} {G : RL} {l : List Oper} (k : JO P N C ops l Q E (Res.rd (bv o) (obB o).length 1 ((obB o).map u8) :: Γ) G) (hp : Pull (Res.sep (oR o)) H G := by (repeat (first | exact Pull.here _ _ | apply Pull.there)); first | done | fail) : JO P N C ops l Q E Γ H := fun hn a w he hs => k hn a w he (hs.oRd hp)
end
theorem cl_at {Z : List CLM} {k : Nat} (h : k < Z.length) : (clOf Z)[k]? = some ((clAt Z k).h, (clAt Z k).w, (clAt Z k).b) ∧ pcAt (clP Z) k = ((clAt Z k).v, (clAt Z k).b) := by
  unfold clOf clP clAt pcAt
  simp only [List.getElem?_map, List.getD_eq_getElem?_getD, List.getElem?_eq_getElem h, Option.map_some, Option.getD_some, and_self]
theorem clP_len (Z : List CLM) : (clP Z).length = Z.length := by simp [clP]
end Go.Proofs.YthfipbjmpeegbaaGreatDoor

/- Claims' fields; what was believed, as_ a row; what forgetting leaves. No program in sight. -/
namespace Go.Proofs.YthfipbjmpeegbaaGreatDoor
open Go.RowKit
set_option linter.unusedVariables false
section
variable {P : Program} {N : Nat} {C : Beg} {Q : Exit → Act → World → Prop} {E : Env} {Γ H : RL} {ops : Array Oper}
end
/-- What was believed of heights. -/
def WasR (S : List W64) (a : AC) (es : List W64) (Z : Pcs) : Prop := ∀ j, j < Z.length → ∃ o : Option (Value × B8), BelR S (a (es.getD j 0)) (o.map (·.2)) ∧ (pcAt Z j).2 = obB o
theorem WasR.snoc {S : List W64} {a : AC} {es : List W64} {Z : Pcs} (h : WasR S a es Z) {o : Option (Value × B8)} (ho : BelR S (a (es.getD Z.length 0)) (o.map (·.2))) : WasR S a es (Z ++ [(bv o, obB o)]) := by
  intro j hj
  rw [List.length_append, List.length_singleton] at hj
  by_cases hl : j < Z.length
  · obtain ⟨o', h1, h2⟩ := h j hl
    refine ⟨o', h1, ?_⟩
    rw [← h2]
    unfold pcAt
    rw [List.getD_eq_getElem?_getD, List.getD_eq_getElem?_getD, List.getElem?_append_left hl]
  · obtain rfl : j = Z.length := by omega
    refine ⟨o, ho, ?_⟩
    unfold pcAt
    simp [List.getD_eq_getElem?_getD]
end Go.Proofs.YthfipbjmpeegbaaGreatDoor

/- Nothing is believed but what somebody claims who does not lie: the plain side. No program in sight. -/
namespace Go.Proofs.YthfipbjmpeegbaaGreatDoor
open Go.RowKit
set_option linter.unusedVariables false
def logK (T : List B8) (k : Nat) : List B8 := (List.range k).map fun i => blockB (BitVec.ofNat 64 i) (T.getD i [])
theorem logK_succ (T : List B8) (k : Nat) : logK T (k + 1) = logK T k ++ [blockB (BitVec.ofNat 64 k) (T.getD k [])] := by rw [logK, List.range_succ, List.map_append]; rfl
theorem logK_len (T : List B8) (k : Nat) : (logK T k).length = k := by simp [logK]
theorem logK_le {T : List B8} (hT : ∀ b ∈ T, b.length ≤ 200) (k : Nat) : ∀ b ∈ logK T k, b.length ≤ 20000 := by
  intro b hb
  obtain ⟨i, _, rfl⟩ := List.mem_map.1 hb
  refine (blk_ok _ _ ?_).2.2
  by_cases h : i < T.length
  · have := hT _ (List.getElem_mem h)
    rw [List.getD_eq_getElem?_getD, List.getElem?_eq_getElem h]
    show T[i].length ≤ 1000
    omega
  · rw [List.getD_eq_getElem?_getD, List.getElem?_eq_none (by omega)]
    exact Nat.zero_le _
structure TrueI (lies : List Bool) (L : List B8) (a : AC) : Prop where
  i : ∀ h x, a h = some x → ∀ w v, x.g w = some v → lies.getD w.toNat false = false → h.toNat < L.length ∧ v = nm (L.getD h.toNat [])
theorem TrueI.nil (lies : List Bool) (L : List B8) : TrueI lies L (fun _ => none) := ⟨fun _ _ h => by cases h⟩
theorem TrueI.step {S : List W64} {lies : List Bool} {L : List B8} {a : AC} (h : TrueI lies L a) {n : Nat} {k : BitVec 64} {w : Int} {b : B8} (hc : lies.getD w.toNat false = true ∨ (k.toNat < L.length ∧ b = L.getD k.toNat [])) : TrueI lies L (hearA S a n k w b) := by
  unfold hearA
  split
  · refine ⟨fun q x hx j v hv hl => ?_⟩
    unfold putAC at hx
    split at hx
    · rename_i e
      subst e
      obtain rfl := Option.some.inj hx
      simp only [addAH] at hv
      split at hv
      · rename_i e2
        subst e2
        obtain rfl := Option.some.inj hv
        rcases hc with hc | ⟨h1, h2⟩
        · rw [hl] at hc; cases hc
        · exact ⟨h1, by rw [h2]⟩
      · unfold acAt at hv
        cases ha : a q with
        | none => rw [ha] at hv; cases hv
        | some y => rw [ha] at hv; exact h.i q y ha j v hv hl
    · exact h.i q x hx j v hv hl
  · exact h
theorem true_fin {S : List W64} {lies : List Bool} {L : List B8} {M : MM (BitVec 64) HC} (hM : COk S M) (hT : TrueI lies L (abM M)) (hbad : 3 * byN S (fun i => lies.getD i false) < sumS S) {h : BitVec 64} {b : B8} (hb : BelR S (abM M h) (some b)) : h.toNat < L.length ∧ nm b = nm (L.getD h.toNat []) := by
  obtain ⟨x, d, hx, ht, _, hbl⟩ := hb
  have hnm : nm b = d := by
    unfold abM at hx
    cases hg : M.get h with
    | none => rw [hg] at hx; cases hx
    | some hc =>
      rw [hg] at hx
      obtain rfl := Option.some.inj hx
      have hbl' : (hc.bl.get d).map (·.2) = some b := hbl
      cases hq : hc.bl.get d with
      | none => rw [hq] at hbl'; cases hbl'
      | some y =>
        rw [hq] at hbl'
        obtain rfl := Option.some.inj hbl'
        exact ((hM.each _ _ hg).1.nms d y.1 y.2 hq).1
  have hex : ∃ i : Nat, i < S.length ∧ x.g (i : Int) = some d ∧ lies.getD i false = false := by
    refine Classical.byContradiction fun hno => ?_
    have hle : forA S x.g d ≤ byN S (fun i => lies.getD i false) := by
      unfold forA
      refine byN_mono fun i hi hd => ?_
      have hd' : x.g (i : Int) = some d := of_decide_eq_true hd
      cases hl : lies.getD i false with
      | true => rfl
      | false => exact absurd ⟨i, hi, hd', hl⟩ hno
    have : sumS S < 3 * forA S x.g d := ht
    omega
  obtain ⟨i, _, hi, hl⟩ := hex
  have := hT.i h x hx (i : Int) d hi (by simpa using hl)
  rw [hnm]
  exact this
theorem ans_mem {L : List B8} {w : Int} {fr : BitVec 64} (hL : L.length ≤ 1000) {c : CLT} (hc : c ∈ ans L w fr) : c.2.1 = w ∧ c.1.toNat < L.length ∧ c.2.2 = L.getD c.1.toNat [] := by
  unfold ans ansK at hc
  obtain ⟨j, hj, rfl⟩ := List.mem_map.1 hc
  rw [List.mem_range] at hj
  have h1 : fr.toNat + j < L.length := by omega
  have h2 : (BitVec.ofNat 64 (fr.toNat + j)).toNat = fr.toNat + j := by rw [BitVec.toNat_ofNat, Nat.mod_eq_of_lt (by omega)]
  refine ⟨rfl, ?_, ?_⟩
  · show (BitVec.ofNat 64 (fr.toNat + j)).toNat < _
    rw [h2]; exact h1
  · show L.getD _ [] = L.getD (BitVec.ofNat 64 (fr.toNat + j)).toNat []
    rw [h2]
/-- What those who lie have, of the first k. -/
def badK (S : List W64) (lies : List Bool) (k : Nat) : Nat := ((List.range k).map fun i => if lies.getD i false then (S.getD i 0).toNat else 0).sum
theorem badK_succ (S : List W64) (lies : List Bool) (k : Nat) : badK S lies (k + 1) = badK S lies k + if lies.getD k false then (S.getD k 0).toNat else 0 := by
  unfold badK
  rw [List.range_succ, List.map_append, List.sum_append]
  simp
theorem badK_all (S : List W64) (lies : List Bool) : badK S lies S.length = byN S (fun i => lies.getD i false) := rfl
theorem badK_le {S : List W64} {lies : List Bool} (hS : ∀ i, i < S.length → (S.getD i 0).toNat < 72057594037927936) : ∀ k, k ≤ S.length → badK S lies k ≤ k * 72057594037927936
  | 0, _ => by simp [badK]
  | k + 1, hk => by
    have h1 := badK_le (lies := lies) hS k (by omega)
    have h2 := hS k (by omega)
    rw [badK_succ, Nat.succ_mul]
    have h3 : (if lies.getD k false then (S.getD k 0).toNat else 0) ≤ 72057594037927936 := by
      split
      · exact Nat.le_of_lt h2
      · exact Nat.zero_le _
    exact Nat.add_le_add h1 h3
theorem bytesP_at (T : Pcs) (i : Nat) : (bytesP T).getD i [] = (pcAt T i).2 := by
  simp only [bytesP, pcAt, List.getD_eq_getElem?_getD, List.getElem?_map]
  cases T[i]? <;> rfl
theorem sumS_le {B : Nat} : ∀ {S : List W64}, (∀ x ∈ S, x.toNat ≤ B) → sumS S ≤ S.length * B
  | [], _ => Nat.zero_le _
  | x :: S, h => by
    have h1 := sumS_le (S := S) fun y hy => h y (.tail _ hy)
    have h2 := h x (.head _)
    simp only [sumS, List.map_cons, List.sum_cons, List.length_cons, Nat.succ_mul] at h1 ⊢
    omega
theorem sum_bv : ∀ {S : List W64}, sumS S < 18446744073709551616 → S.sum.toNat = sumS S
  | [], _ => rfl
  | x :: S, h => by
    simp only [sumS, List.map_cons, List.sum_cons] at h
    have h1 := sum_bv (S := S) (by simp only [sumS]; omega)
    simp only [sumS] at h1
    rw [List.sum_cons, BitVec.toNat_add, h1, Nat.mod_eq_of_lt (by omega)]
    simp [sumS]
theorem true_cmp {S : List W64} {lies : List Bool} (hl : S.length ≤ 10) (hS : ∀ i, i < S.length → (S.getD i 0).toNat < 72057594037927936) : S.sum.toNat ≤ (3#64 * BitVec.ofNat 64 (badK S lies S.length)).toNat ↔ sumS S ≤ 3 * badK S lies S.length := by
  have h1 := badK_le (lies := lies) hS S.length (Nat.le_refl _)
  have h2 : sumS S ≤ S.length * 72057594037927936 := sumS_le fun x hx => by
    obtain ⟨i, hi, rfl⟩ := List.getElem_of_mem hx
    have := hS i hi
    rw [List.getD_eq_getElem?_getD, List.getElem?_eq_getElem hi] at this
    exact Nat.le_of_lt this
  have h3 : S.length * 72057594037927936 ≤ 10 * 72057594037927936 := Nat.mul_le_mul_right _ hl
  have e : (BitVec.ofNat 64 (badK S lies S.length)).toNat = badK S lies S.length := by rw [BitVec.toNat_ofNat, Nat.mod_eq_of_lt (by omega)]
  rw [sum_bv (by omega), BitVec.toNat_mul, e, show (3#64).toNat = 3 from rfl, Nat.mod_eq_of_lt (by omega)]
theorem badK_bv {S : List W64} {lies : List Bool} {k : Nat} (h : lies.getD k false = true) : BitVec.ofNat 64 (badK S lies k) + S.getD k 0 = BitVec.ofNat 64 (badK S lies (k + 1)) := by
  rw [badK_succ, if_pos h, BitVec.ofNat_add, BitVec.ofNat_toNat]
  simp
end Go.Proofs.YthfipbjmpeegbaaGreatDoor

/- Walk of the law: nothing is believed but what one claims who does not lie. -/
namespace Go.Proofs.YthfipbjmpeegbaaGreatDoor
open Go.RowKit
set_option maxRecDepth 100000
set_option linter.unusedVariables false
set_option linter.unusedSimpArgs false
theorem name_digR (v : Value) (b : B8) (hb : b.length ≤ 100000) : Spec Tryz.prog 20 #[v] [Res.rd v b.length 1 (b.map u8)] [] (fun r Γ' H' => r = dgV (nm b) ∧ Γ' = [] ∧ H' = []) := f20_spec v b hb

set_option maxHeartbeats 4000000 in
theorem f6A_spec (u vl vt vc : Value) (S : List W64) (lies : List Bool) (T : Pcs) (l : List CLM) (hg : newE S = 0) :
    Spec Tryz.prog 6 #[u, vl, vt, vc] [Res.var 3 (sqr.map u32), Res.var 2 (cub.map u32), Res.var 0 [u64 9223372036854775808, u64 0, u64 0, u64 0], Res.rd u S.length 1 (S.map u64), Res.rd vl lies.length 1 (lies.map Value.bool), Res.rd vt T.length 1 (T.map Prod.fst), Res.all (pcRes T), Res.rd vc l.length 3 (bks clC l), Res.all (pcRes (clP l))] []
      (fun r Γ' H' => r = .bool true ∧ Γ' = [] ∧ H' = []) := by
  refine Spec.of_args Tryz.func6 rfl Tryz.ntmps6 (by simp) fun w => ?_
  refine JC.know (φ := S.length ≤ 9223372036854775807) (fun w hs => by obtain ⟨_, _, _, _, _, _, h⟩ := hs.rdForm (.tail _ (.tail _ (.tail _ (.head _)))); unfold maxLen at h; omega) fun _ => ?_
  refine JC.know (φ := lies.length ≤ 9223372036854775807) (fun w hs => by obtain ⟨_, _, _, _, _, _, h⟩ := hs.rdForm (.tail _ (.tail _ (.tail _ (.tail _ (.head _))))); unfold maxLen at h; omega) fun _ => ?_
  refine JC.know (φ := T.length ≤ 9223372036854775807) (fun w hs => by obtain ⟨_, _, _, _, _, _, h⟩ := hs.rdForm (.tail _ (.tail _ (.tail _ (.tail _ (.tail _ (.head _)))))); unfold maxLen at h; omega) fun _ => ?_
  refine JC.know (φ := l.length ≤ 9223372036854775807) (fun w hs => by obtain ⟨_, _, _, _, _, _, h⟩ := hs.rdForm (.tail _ (.tail _ (.tail _ (.tail _ (.tail _ (.tail _ (.tail _ (.head _)))))))); unfold maxLen at h; omega) fun _ => ?_
  obtain ⟨h1, h2, h3⟩ := newE_ok hg
  refine .seq (.region ?_)
  refine .w (.assign rfl) ?_
  refine .nil (.tn (.seq (.region ?_)))
  refine .c (f7_spec) body_7 ?_
  refine .w (.assign rfl) ?_
  refine .nil (.tn (.seq (.seq (.region ?_))))
  refine .w (.move rfl) ?_
  refine .w (.len Tryz.underlying22 rfl) ?_
  refine .w (.bin rfl rfl BinR.gtr_i) ?_
  refine .join 17 44 (.bool (decide (S.length > 10 ∨ lies.length ≠ S.length ∨ T.length > 8 ∨ l.length > 50))) ?_ ?_
  · refine .w (.move rfl) ?_
    refine .gn (g := 27) rfl (fun hg8 hg8' => ?_) (fun hg8 hg8' => ?_)
    · refine .gf (g := 28) rfl rfl hg8 (by decide) ?_
      refine .gf (g := 28) rfl rfl hg8 (by decide) ?_
      refine .gf (g := 28) rfl rfl hg8 (by decide) ?_
      refine .gf (g := 28) rfl rfl hg8 (by decide) ?_
      refine .gf (g := 28) rfl rfl hg8 (by decide) ?_
      refine .w (.pick1 rfl hg8 rfl) ?_
      refine .w (.move rfl) ?_
      refine .gf (g := 35) rfl rfl rfl (by decide) ?_
      refine .gf (g := 35) rfl rfl rfl (by decide) ?_
      refine .gf (g := 35) rfl rfl rfl (by decide) ?_
      refine .w (.pick1 rfl rfl rfl) ?_
      refine .w (.move rfl) ?_
      refine .gf (g := 40) rfl rfl rfl (by decide) ?_
      refine .gf (g := 40) rfl rfl rfl (by decide) ?_
      refine .gf (g := 40) rfl rfl rfl (by decide) ?_
      refine .w (.pick1 rfl rfl rfl) ?_
      refine .nil ?_
      refine .head () (by first | (refine ⟨by first | rfl | exact congrArg (fun b => some (Value.bool b)) (by first | exact (decide_eq_true (by omega)).symm | exact (decide_eq_false (by omega)).symm | exact decide_eq_decide.2 (by omega)) | (simp [*]; done) | (show some _ = some _; simp [*]; done), ?_⟩; repeat (first | exact trivial | refine ⟨rfl, ?_⟩))) (fun _ h => h) (Picks.perm zqd) ?_
      trivial
    · refine .gt (g := 28) rfl rfl hg8 ?_
      refine .w (.move rfl) ?_
      refine .gt (g := 28) rfl rfl hg8 ?_
      refine .w (.len Tryz.underlying50 rfl) ?_
      refine .gt (g := 28) rfl rfl hg8 ?_
      refine .w (.move rfl) ?_
      refine .gt (g := 28) rfl rfl hg8 ?_
      refine .w (.len Tryz.underlying22 rfl) ?_
      refine .gt (g := 28) rfl rfl hg8 ?_
      refine .w (.bin rfl rfl BinR.neq_i) ?_
      refine .w (.pick0 rfl hg8 rfl) ?_
      refine .w (.move rfl) ?_
      refine .gn (g := 34) rfl (fun hg15 hg15' => ?_) (fun hg15 hg15' => ?_)
      · refine .gf (g := 35) rfl rfl hg15 (by decide) ?_
        refine .gf (g := 35) rfl rfl hg15 (by decide) ?_
        refine .gf (g := 35) rfl rfl hg15 (by decide) ?_
        refine .w (.pick1 rfl hg15 rfl) ?_
        refine .w (.move rfl) ?_
        refine .gf (g := 40) rfl rfl rfl (by decide) ?_
        refine .gf (g := 40) rfl rfl rfl (by decide) ?_
        refine .gf (g := 40) rfl rfl rfl (by decide) ?_
        refine .w (.pick1 rfl rfl rfl) ?_
        refine .nil ?_
        refine .head () (by first | (refine ⟨by first | rfl | exact congrArg (fun b => some (Value.bool b)) (by first | exact (decide_eq_true (by omega)).symm | exact (decide_eq_false (by omega)).symm | exact decide_eq_decide.2 (by omega)) | (simp [*]; done) | (show some _ = some _; simp [*]; done), ?_⟩; repeat (first | exact trivial | refine ⟨rfl, ?_⟩))) (fun _ h => h) (Picks.perm zqd) ?_
        trivial
      · refine .gt (g := 35) rfl rfl hg15 ?_
        refine .w (.move rfl) ?_
        refine .gt (g := 35) rfl rfl hg15 ?_
        refine .w (.len Tryz.underlying35 rfl) ?_
        refine .gt (g := 35) rfl rfl hg15 ?_
        refine .w (.bin rfl rfl BinR.gtr_i) ?_
        refine .w (.pick0 rfl hg15 rfl) ?_
        refine .w (.move rfl) ?_
        refine .gn (g := 39) rfl (fun hg20 hg20' => ?_) (fun hg20 hg20' => ?_)
        · refine .gf (g := 40) rfl rfl hg20 (by decide) ?_
          refine .gf (g := 40) rfl rfl hg20 (by decide) ?_
          refine .gf (g := 40) rfl rfl hg20 (by decide) ?_
          refine .w (.pick1 rfl hg20 rfl) ?_
          refine .nil ?_
          refine .head () (by first | (refine ⟨by first | rfl | exact congrArg (fun b => some (Value.bool b)) (by first | exact (decide_eq_true (by omega)).symm | exact (decide_eq_false (by omega)).symm | exact decide_eq_decide.2 (by omega)) | (simp [*]; done) | (show some _ = some _; simp [*]; done), ?_⟩; repeat (first | exact trivial | refine ⟨rfl, ?_⟩))) (fun _ h => h) (Picks.perm zqd) ?_
          trivial
        · refine .gt (g := 40) rfl rfl hg20 ?_
          refine .w (.move rfl) ?_
          refine .gt (g := 40) rfl rfl hg20 ?_
          refine .w (.len Tryz.underlying29 rfl) ?_
          refine .gt (g := 40) rfl rfl hg20 ?_
          refine .w (.bin rfl rfl BinR.gtr_i) ?_
          refine .w (.pick0 rfl hg20 rfl) ?_
          refine .nil ?_
          refine .head () (by first | (refine ⟨by first | rfl | exact congrArg (fun b => some (Value.bool b)) (by first | exact (decide_eq_true (by omega)).symm | exact (decide_eq_false (by omega)).symm | exact decide_eq_decide.2 (by omega)) | (simp [*]; done) | (show some _ = some _; simp [*]; done), ?_⟩; repeat (first | exact trivial | refine ⟨rfl, ?_⟩))) (fun _ h => h) (Picks.perm zqd) ?_
          trivial
  · refine .nil (.tn ?_)
    refine .cn rfl (fun hc1 => ?_) (fun hc1 => ?_)
    · skip
      refine .seq (.region ?_)
      refine .w (.move rfl) ?_
      refine .w (.assign rfl) ?_
      refine .nil (.tn (.ret (.then_ret ?_)))
      exact .dn [] [] (res1 rfl (.tmp rfl)) ⟨rfl, rfl, rfl⟩
    · have hs10 : S.length ≤ 10 ∧ lies.length = S.length ∧ T.length ≤ 8 ∧ l.length ≤ 50 := by omega
      obtain ⟨hs1, hs2, hs3, hs4⟩ := hs10
      refine .skip (.tn (.seq (.region ?_)))
      refine .w (.assign rfl) ?_
      refine .nil (.tn (.seq (.seq (.region ?_))))
      refine .w (.assign rfl) ?_
      refine .nil (.tn (.block ?_))
      refine .lp (ι := Nat) (fun x => x ≤ S.length ∧ ∀ j, j < x → (S.getD j 0).toNat < 72057594037927936) (fun T x => (11, it (x : Int)) :: (10, u64 (BitVec.ofNat 64 (badK S lies x))) :: T) (fun T _ => T) (fun T _ => T) (fun x => S.length - x) 0 [0, 1, 2, 3, 9, 12, 14, 15, 16, 17, 18, 19, 20, 21, 22, 23, 68, 69, 70, 71, 72, 73, 74, 75, 76, 77, 78, 79, 80, 81, 82, 83, 84, 85, 86, 87, 88, 89, 90, 91, 92, 93, 94, 95, 96, 97, 98, 99, 100, 101, 102, 103, 104, 105, 106, 107, 108, 109, 110, 111, 112, 113, 114, 115, 116, 117, 118, 119, 120, 121, 122, 123, 124, 125, 126, 127, 128, 129, 130, 131, 132, 133, 134, 135, 136, 137, 138, 139, 140, 141, 142, 143, 144, 145, 146, 147, 149, 150, 151, 152, 153, 154, 155, 156, 157, 158, 159, 160, 161, 162, 163, 164, 165, 167, 168, 169, 170, 171, 172, 173, 174, 175, 176, 177, 178, 179, 180, 181, 182, 183, 184, 185, 186, 187, 188, 189, 190, 191, 192, 193, 194, 195, 196, 197, 198, 199, 200, 201, 202, 203, 204, 205, 206, 207, 208] ?_ (fun x hx => ?_)
      · exact ⟨Nat.zero_le _, fun j hj => absurd hj (Nat.not_lt_zero _)⟩
      obtain ⟨i, hi⟩ : ∃ i, i = x := ⟨_, rfl⟩
      subst hi
      obtain ⟨hi, hS56⟩ := hx
      refine .seq (.seq (.region ?_))
      refine .w (.move rfl) ?_
      refine .w (.move rfl) ?_
      refine .w (.len Tryz.underlying22 rfl) ?_
      refine .w (.bin rfl rfl BinR.lss_i) ?_
      refine .nil (.tn ?_)
      refine .cn rfl (fun hc2 => ?_) (fun hc2 => ?_)
      · skip
        refine .skip (.tn (.seq (.block (.seq (.seq (.region ?_))))))
        refine .w (.move rfl) ?_
        refine .w (.move rfl) ?_
        refine .w (.ix1 Tryz.underlying22 sz_30 rfl rfl) ?_
        refine .w (.ld one_30 rfl (hj := by exact gm (d := 0) (by omega))) ?_
        refine .w (.bin rfl rfl (BinR.geq_u64 (b := 72057594037927936#64))) ?_
        refine .nil (.tn ?_)
        refine .cn rfl (fun hc3 => ?_) (fun hc3 => ?_)
        · try simp only [BitVec.reduceToNat] at hc3
          skip
          refine .seq (.region ?_)
          refine .w (.move rfl) ?_
          refine .w (.assign rfl) ?_
          refine .nil (.tn (.ret (.then_ret (.block_ret (.then_ret (.then_ret (.block_ret (.then_ret ?_))))))))
          exact .dn [] [] (res1 rfl (.tmp rfl)) ⟨rfl, rfl, rfl⟩
        · try simp only [BitVec.reduceToNat] at hc3
          have h56 : (S.getD i 0).toNat < 72057594037927936 := by omega
          refine .skip (.tn (.seq (.region ?_)))
          refine .w (.move rfl) ?_
          refine .w (.move rfl) ?_
          refine .w (.ix1 Tryz.underlying50 sz_4 rfl rfl) ?_
          refine .w (.ld one_4 rfl (hj := by exact gm (d := false) (by omega))) ?_
          refine .nil (.tn ?_)
          refine .cn rfl (fun hc4 => ?_) (fun hc4 => ?_)
          · have hbk := badK_bv (S := S) hc4
            refine .region ?_
            refine .w (.move rfl) ?_
            refine .w (.move rfl) ?_
            refine .w (.move rfl) ?_
            refine .w (.ix1 Tryz.underlying22 sz_30 rfl rfl) ?_
            refine .w (.ld one_30 rfl (hj := by exact gm (d := 0) (by omega))) ?_
            refine .w (.as (v' := u64 (BitVec.ofNat 64 (badK S lies (i + 1)))) (.bin rfl rfl (BinR.add_u64)) (congrArg u64 hbk)) ?_
            refine .w (.assign rfl) ?_
            refine .nil (.block_normal (.tn (.region ?_)))
            refine .w (.move rfl) ?_
            refine .w (.asI ((i + 1 : Nat) : Int) (.bin rfl rfl (BinR.add_i zqf))) ?_
            refine .w (.assign rfl) ?_
            refine .nil ?_
            refine .hd (i + 1) ?_
            exact ⟨⟨by omega, fun j hj => by rcases Nat.lt_succ_iff_lt_or_eq.1 hj with h | rfl; exact hS56 j h; exact h56⟩, by omega⟩
          · have hbk : badK S lies i = badK S lies (i + 1) := by rw [badK_succ, if_neg (by rw [hc4]; decide)]; rfl
            rw [hbk]
            refine .skip (.block_normal (.tn (.region ?_)))
            refine .w (.move rfl) ?_
            refine .w (.asI ((i + 1 : Nat) : Int) (.bin rfl rfl (BinR.add_i zqf))) ?_
            refine .w (.assign rfl) ?_
            refine .nil ?_
            refine .hd (i + 1) ?_
            exact ⟨⟨by omega, fun j hj => by rcases Nat.lt_succ_iff_lt_or_eq.1 hj with h | rfl; exact hS56 j h; exact h56⟩, by omega⟩
      · obtain rfl : i = S.length := by omega
        refine .exit (.then_exit (.then_exit (.block_exit (.tn (.seq (.region ?_))))))
        refine .w (.move rfl) ?_
        refine .cb (f8ok_spec u S h1 h2 h3) body_8 ?_ (h0 := by rintro _ _ _ ⟨_, _, _, _, h, _⟩; exact h)
        rintro _ _ ⟨c, am, sv, rfl, _, rfl⟩
        refine .ap ?_
        refine .sp0 ?_
        refine .w (.move rfl) ?_
        refine .w (.extract rfl rfl) ?_
        refine .w (.extract rfl rfl) ?_
        refine .w (.assign rfl) ?_
        refine .w (.assign rfl) ?_
        refine .nil (.tn (.seq (.seq (.region ?_))))
        refine .w (.move rfl) ?_
        refine .w (.as (v' := .bool false) (.bin rfl rfl (BinR.eql_p Tryz.underlying25)) rfl) ?_
        refine .w (.move rfl) ?_
        refine .gt (g := 75) rfl rfl rfl ?_
        refine .w (.move rfl) ?_
        refine .gt (g := 75) rfl rfl rfl ?_
        refine .w (.bin rfl rfl (BinR.mul_u64 (a := 3#64))) ?_
        refine .gt (g := 75) rfl rfl rfl ?_
        refine .w (.move rfl) ?_
        refine .gt (g := 75) rfl rfl rfl ?_
        refine .c (f19_spec u S) body_19 ?_
        refine .gt (g := 75) rfl rfl rfl ?_
        refine .w (.as (v' := .bool (decide (sumS S ≤ 3 * badK S lies S.length))) (.bin rfl rfl (BinR.geq_u64)) (congrArg Value.bool (decide_eq_decide.2 (true_cmp hs1 hS56)))) ?_
        refine .w (.pick0 rfl rfl rfl) ?_
        refine .nil (.tn ?_)
        refine .cn rfl (fun hc5 => ?_) (fun hc5 => ?_)
        · skip
          refine .seq (.region ?_)
          refine .w (.move rfl) ?_
          refine .w (.assign rfl) ?_
          refine .nil (.tn (.ret (.then_ret ?_)))
          exact .dn [] [] (res1 rfl (.tmp rfl)) ⟨rfl, rfl, rfl⟩
        · have hbad : 3 * byN S (fun i => lies.getD i false) < sumS S := by rw [← badK_all]; omega
          refine .skip (.tn (.seq (.region ?_)))
          refine JO.nilRow 23 1 ?_
          refine JO.sp0 ?_
          refine .w (.assign rfl) ?_
          refine .nil (.tn (.seq (.seq (.region ?_))))
          refine .w (.assign rfl) ?_
          refine .nil (.tn (.block ?_))
          refine .lp (ι := Nat × Value × Pcs) (fun x => x.1 ≤ T.length ∧ bytesP x.2.2 = logK (bytesP T) x.1 ∧ ∀ j, j < x.1 → (pcAt T j).2.length ≤ 200) (fun T x => (15, it (x.1 : Int)) :: (14, x.2.1) :: T) (fun T _ => T) (fun T x => Res.row x.2.1 x.2.2.length 23 1 (x.2.2.map Prod.fst) :: Res.sep (rowsP x.2.2 5) :: T) (fun x => T.length - x.1) (0, .slice none 0 0, []) [1, 2, 3, 9, 12, 16, 17, 18, 19, 20, 21, 22, 23, 106, 107, 108, 109, 110, 111, 112, 113, 114, 115, 116, 117, 118, 119, 120, 121, 122, 123, 124, 125, 126, 127, 128, 129, 130, 131, 132, 133, 134, 135, 136, 137, 138, 139, 140, 141, 142, 143, 144, 145, 146, 147, 149, 150, 151, 152, 153, 154, 155, 156, 157, 158, 159, 160, 161, 162, 163, 164, 165, 167, 168, 169, 170, 171, 172, 173, 174, 175, 176, 177, 178, 179, 180, 181, 182, 183, 184, 185, 186, 187, 188, 189, 190, 191, 192, 193, 194, 195, 196, 197, 198, 199, 200, 201, 202, 203, 204, 205, 206, 207, 208] ?_ (fun x hx => ?_)
          · exact ⟨Nat.zero_le _, rfl, fun j hj => absurd hj (Nat.not_lt_zero _)⟩
          obtain ⟨i, vo, Z⟩ := x
          obtain ⟨hi, hZ, hT2⟩ := hx
          dsimp only at hi hZ hT2 ⊢
          have hZl : Z.length = i := by have := congrArg List.length hZ; rwa [bytesP_len, logK_len] at this
          refine .seq (.seq (.region ?_))
          refine .w (.move rfl) ?_
          refine .w (.move rfl) ?_
          refine .w (.len Tryz.underlying35 rfl) ?_
          refine .w (.bin rfl rfl BinR.lss_i) ?_
          refine .nil (.tn ?_)
          refine .cn rfl (fun hc6 => ?_) (fun hc6 => ?_)
          · skip
            refine .skip (.tn (.seq (.block (.seq (.seq (.region ?_))))))
            refine .w (.move rfl) ?_
            refine JO.open (r := Res.rd (pcAt T i).1 (pcAt T i).2.length 1 ((pcAt T i).2.map u8)) zqa (pc_res (by omega)) ?_
            refine JO.know (φ := (pcAt T i).1.oneCell' = true) (fun w hs => (by obtain ⟨A, c, h, _⟩ := Res.rd_ok.1 (hs.gok _ (.head _)); rw [h]; rfl)) fun hq => ?_
            refine .w (.move rfl) ?_
            refine .w (.ix1 Tryz.underlying35 sz_23 rfl rfl) ?_
            refine .w (.ld one_23 rfl (hj := by exact pc_get (by omega))) ?_
            refine .w (.len Tryz.underlying23 rfl (hn := LM.rd (by (repeat (first | exact Lend.same _ _ | exact Lend.row _ _ _ _ _ _ (by decide) | apply Lend.there))))) ?_
            refine .w (.bin rfl rfl BinR.gtr_i) ?_
            refine .nil (.tn ?_)
            refine .cn rfl (fun hc7 => ?_) (fun hc7 => ?_)
            · skip
              refine .seq (.region ?_)
              refine .w (.move rfl) ?_
              refine .w (.assign rfl) ?_
              refine .nil (.tn (.ret (.then_ret (.block_ret (.then_ret (.then_ret (.block_ret (.then_ret ?_))))))))
              exact .dn [] [] (res1 rfl (.tmp rfl)) ⟨rfl, rfl, rfl⟩
            · skip
              refine .skip (.tn (.region ?_))
              refine .w (.move rfl) ?_
              refine .w (.move rfl) ?_
              refine .w (.as (v' := u64 (BitVec.ofNat 64 i)) (.conv_i_u64 Tryz.underlying3 Tryz.underlying30 rfl) (congrArg u64 (BitVec.ofInt_natCast _ _))) ?_
              refine .w (.move rfl) ?_
              refine .w (.move rfl) ?_
              refine .w (.ix1 Tryz.underlying35 sz_23 rfl rfl) ?_
              refine .w (.ld one_23 rfl (hj := by exact pc_get (by omega))) ?_
              refine .cb (f9_spec (BitVec.ofNat 64 i) (pcAt T i).1 (pcAt T i).2 hq) body_9 ?_ (h0 := by rintro _ _ _ ⟨_, h, _⟩; exact h)
              rintro v103 _ ⟨_, _, rfl⟩
              refine .ap ?_
              refine JO.know (φ := v103.oneCell' = true) (fun w hs => (by obtain ⟨A, c, rfl, _⟩ := row_rd (by decide) (Res.row_ok.1 (hs.hok _ (.head _))); rfl)) fun hv103 => ?_
              refine .l1 Tryz.underlying35 info_23 (fun v104 => ?_) (h1 := (one_sing hv103))
              refine .ap Tryz.underlying35 info_23 (fun v105 => ?_) (hone := (one_sing hv103))
              rw [snoc_row (b := (blockB (BitVec.ofNat 64 i) (pcAt T i).2))]
              refine .w (.assign rfl) ?_
              refine .nil (.block_normal (.tn (.region ?_)))
              refine .w (.move rfl) ?_
              refine .w (.asI ((i + 1 : Nat) : Int) (.bin rfl rfl (BinR.add_i zqf))) ?_
              refine .w (.assign rfl) ?_
              refine .nil ?_
              refine .rs (A := [Res.row v103 (blockB (BitVec.ofNat 64 i) (pcAt T i).2).length 5 1 ((blockB (BitVec.ofNat 64 i) (pcAt T i).2).map u8)]) (B := rowsP Z 5) (L := rowsP (Z ++ [(v103, (blockB (BitVec.ofNat 64 i) (pcAt T i).2))]) 5) (by simp [rowsP]) ?_
              refine .hd (i + 1, v105, Z ++ [(v103, (blockB (BitVec.ofNat 64 i) (pcAt T i).2))]) ?_
              exact ⟨⟨by dsimp only; omega, by dsimp only; rw [logK_succ, ← hZ, bytesP_at]; simp [bytesP], fun j hj => by rcases Nat.lt_succ_iff_lt_or_eq.1 hj with h | rfl; exact hT2 j h; omega⟩, by dsimp only; omega⟩
          · obtain rfl : i = T.length := by omega
            refine .exit (.then_exit (.then_exit (.block_exit (.tn (.seq (.seq (.region ?_)))))))
            have hlog := logK_le (T := bytesP T) (fun b hb => by obtain ⟨x, hx, rfl⟩ := List.mem_map.1 hb; obtain ⟨j, hj, rfl⟩ := List.getElem_of_mem hx; rw [pc_eq hj]; exact hT2 j hj) T.length
            rw [← hZ] at hlog
            have hzl2 : (bytesP Z).length ≤ 8 := by rw [bytesP_len, hZl]; omega
            refine JO.freeze (v := vo) (by repeat (first | exact Pull.here _ _ | apply Pull.there)) (by decide) ?_
            refine JO.frzP (A := Z) (by repeat (first | exact Pull.here _ _ | apply Pull.there)) ?_
            refine .w (.assign rfl) ?_
            refine .nil (.tn (.block ?_))
            refine .lp (ι := Nat × MM (BitVec 64) HC) (fun x => x.1 ≤ l.length ∧ COk S x.2 ∧ TrueI lies (bytesP Z) (abM x.2)) (fun T x => (16, it (x.1 : Int)) :: T) (fun T _ => T) (fun T x => mpR am uK hcV x.2 :: Res.sep (hsL S x.2) :: T) (fun x => l.length - x.1) (0, MM.nil) [1, 3, 8, 9, 12, 14, 20, 21, 22, 23, 167, 168, 169, 170, 171, 172, 173, 174, 175, 176, 177, 178, 179, 180, 181, 182, 183, 184, 185, 186, 187, 188, 189, 190, 191, 192, 193, 194, 195, 196, 197, 198, 199, 200, 201, 202, 203, 204, 205, 206, 207, 208] ?_ (fun x hx => ?_)
            · exact ⟨Nat.zero_le _, cok_nil S, TrueI.nil _ _⟩
            obtain ⟨i, M⟩ := x
            obtain ⟨hi, hM, hI⟩ := hx
            dsimp only at hi hM hI ⊢
            refine .seq (.seq (.region ?_))
            refine .w (.move rfl) ?_
            refine .w (.move rfl) ?_
            refine .w (.len Tryz.underlying29 rfl) ?_
            refine .w (.bin rfl rfl BinR.lss_i) ?_
            refine .nil (.tn ?_)
            refine .cn rfl (fun hc8 => ?_) (fun hc8 => ?_)
            · skip
              refine .skip (.tn ?_)
              refine .mt (ι := MM (BitVec 64) HC) (fun x => COk S x ∧ TrueI lies (bytesP Z) (abM x)) (fun T _ => T) (fun T _ => T) (fun T x => mpR am uK hcV x :: Res.sep (hsL S x) :: T) [1, 3, 8, 9, 12, 14, 16, 20, 21, 22, 23, 106, 107, 108, 109, 110, 111, 167, 168, 169, 170, 171, 172, 173, 174, 175, 176, 177, 178, 179, 180, 181, 182, 183, 184, 185, 186, 187, 188, 189, 190, 191, 192, 193, 194, 195, 196, 197, 198, 199, 200, 201, 202, 203, 204, 205, 206, 207, 208] [mpR am uK hcV M, Res.sep (hsL S M)] ?_ (fun x hx => ?_)
              · refine .block (.seq (.region ?_))
                refine .w (.move rfl) ?_
                refine .w (.move rfl) ?_
                refine .w (.ix Tryz.underlying29 sz_33 rfl rfl) ?_
                refine .w (.as (v' := (.agg #[u64 (clAt l i).h, it (clAt l i).w, (clAt l i).v])) (.lda agg_33 rfl (hm := by first | exact AM.own (by (repeat (first | exact List.Mem.head _ | refine List.Mem.tail _ ?_)); first | done | fail) (by rw [bks_len]; omega) | exact AM.ro (by (repeat (first | exact List.Mem.head _ | refine List.Mem.tail _ ?_)); first | done | fail) (by rw [bks_len]; omega) | exact AM.ownAt (by (repeat (first | exact List.Mem.head _ | refine List.Mem.tail _ ?_)); first | done | fail) (by rw [bks_len]; omega) | exact AM.rd zqc (by rw [bks_len]; omega) | exact AM.row zqa (by rw [bks_len]; omega))) (congrArg (fun l : List Value => Value.agg l.toArray) (bks_piece (f := clC) clD (by omega)))) ?_
                refine .al zero_33 fun b17 => ?_
                first | refine .sa sz_33 ?_ (h1 := (by intro a ha; simp only [List.mem_cons, List.not_mem_nil, or_false] at ha; rcases ha with rfl | rfl | rfl <;> rfl)) | refine .so sz_33 ?_ (h1 := (by intro a ha; simp only [List.mem_cons, List.not_mem_nil, or_false] at ha; rcases ha with rfl | rfl | rfl <;> rfl)) | refine .sr sz_33 ?_ (h1 := (by intro a ha; simp only [List.mem_cons, List.not_mem_nil, or_false] at ha; rcases ha with rfl | rfl | rfl <;> rfl))
                refine JO.frz (r := Res.cells b17 _ _) (by repeat (first | exact Pull.here _ _ | apply Pull.there)) ?_
                refine .nil (.tn (.seq (.seq (.region ?_))))
                refine JO.open (r := Res.rd (pcAt (clP l) i).1 (pcAt (clP l) i).2.length 1 ((pcAt (clP l) i).2.map u8)) zqa (pc_res (by rw [clP_len]; omega)) ?_
                rw [(cl_at (Z := l) (k := i) (by omega)).2]
                refine .w (.fieldAddr fa_33_1 rfl) ?_
                refine .w (.ld one_3 rfl) ?_
                refine .w (.bin rfl rfl BinR.lss_i) ?_
                refine .join 13 131 (.bool (decide ((clAt l i).w < 0 ∨ (lies.length : Int) ≤ (clAt l i).w ∨ (clAt l i).b.length > 200))) ?_ ?_
                · refine .w (.move rfl) ?_
                  refine .gn (g := 118) rfl (fun hg114 hg114' => ?_) (fun hg114 hg114' => ?_)
                  · refine .gf (g := 119) rfl rfl hg114 (by decide) ?_
                    refine .gf (g := 119) rfl rfl hg114 (by decide) ?_
                    refine .gf (g := 119) rfl rfl hg114 (by decide) ?_
                    refine .gf (g := 119) rfl rfl hg114 (by decide) ?_
                    refine .gf (g := 119) rfl rfl hg114 (by decide) ?_
                    refine .w (.pick1 rfl hg114 rfl) ?_
                    refine .w (.move rfl) ?_
                    refine .gf (g := 126) rfl rfl rfl (by decide) ?_
                    refine .gf (g := 126) rfl rfl rfl (by decide) ?_
                    refine .gf (g := 126) rfl rfl rfl (by decide) ?_
                    refine .gf (g := 126) rfl rfl rfl (by decide) ?_
                    refine .w (.pick1 rfl rfl rfl) ?_
                    refine .nil ?_
                    refine .head () (by first | (refine ⟨by first | rfl | exact congrArg (fun b => some (Value.bool b)) (by (try dsimp only); first | exact decide_eq_decide.2 (by omega) | exact (decide_eq_true (by omega)).symm | exact (decide_eq_false (by omega)).symm), ?_⟩; repeat (first | exact trivial | refine ⟨rfl, ?_⟩))) (fun _ h => h) (Picks.perm zqd) ?_
                    trivial
                  · refine .gt (g := 119) rfl rfl hg114 ?_
                    refine .w (.fieldAddr fa_33_1 rfl) ?_
                    refine .gt (g := 119) rfl rfl hg114 ?_
                    refine .w (.ld one_3 rfl) ?_
                    refine .gt (g := 119) rfl rfl hg114 ?_
                    refine .w (.move rfl) ?_
                    refine .gt (g := 119) rfl rfl hg114 ?_
                    refine .w (.len Tryz.underlying50 rfl) ?_
                    refine .gt (g := 119) rfl rfl hg114 ?_
                    refine .w (.bin rfl rfl BinR.geq_i) ?_
                    refine .w (.pick0 rfl hg114 rfl) ?_
                    refine .w (.move rfl) ?_
                    refine .gn (g := 125) rfl (fun hg121 hg121' => ?_) (fun hg121 hg121' => ?_)
                    · refine .gf (g := 126) rfl rfl hg121 (by decide) ?_
                      refine .gf (g := 126) rfl rfl hg121 (by decide) ?_
                      refine .gf (g := 126) rfl rfl hg121 (by decide) ?_
                      refine .gf (g := 126) rfl rfl hg121 (by decide) ?_
                      refine .w (.pick1 rfl hg121 rfl) ?_
                      refine .nil ?_
                      refine .head () (by first | (refine ⟨by first | rfl | exact congrArg (fun b => some (Value.bool b)) (by (try dsimp only); first | exact decide_eq_decide.2 (by omega) | exact (decide_eq_true (by omega)).symm | exact (decide_eq_false (by omega)).symm), ?_⟩; repeat (first | exact trivial | refine ⟨rfl, ?_⟩))) (fun _ h => h) (Picks.perm zqd) ?_
                      trivial
                    · refine .gt (g := 126) rfl rfl hg121 ?_
                      refine .w (.fieldAddr fa_33_2 rfl) ?_
                      refine .gt (g := 126) rfl rfl hg121 ?_
                      refine .w (.ld one_23 rfl) ?_
                      refine .gt (g := 126) rfl rfl hg121 ?_
                      refine .w (.len Tryz.underlying23 rfl (hn := LM.rd (by (repeat (first | exact Lend.same _ _ | exact Lend.row _ _ _ _ _ _ (by decide) | apply Lend.there))))) ?_
                      refine .gt (g := 126) rfl rfl hg121 ?_
                      refine .w (.bin rfl rfl BinR.gtr_i) ?_
                      refine .w (.pick0 rfl hg121 rfl) ?_
                      refine .nil ?_
                      refine .head () (by first | (refine ⟨by first | rfl | exact congrArg (fun b => some (Value.bool b)) (by (try dsimp only); first | exact decide_eq_decide.2 (by omega) | exact (decide_eq_true (by omega)).symm | exact (decide_eq_false (by omega)).symm), ?_⟩; repeat (first | exact trivial | refine ⟨rfl, ?_⟩))) (fun _ h => h) (Picks.perm zqd) ?_
                      trivial
                · refine .nil (.tn ?_)
                  refine .cn rfl (fun hc9 => ?_) (fun hc9 => ?_)
                  · skip
                    refine .exit (.then_exit (.block_exit ?_))
                    refine .hd M ?_
                    first | exact ⟨hM, hI⟩ | exact ⟨hh.ok, hh.ab ▸ hI.step (.inl (by rw [hwt]; exact hc10))⟩ | exact ⟨hM5, hI5⟩
                  · obtain ⟨wn, hwn⟩ : ∃ n : Nat, (clAt l i).w = n := ⟨(clAt l i).w.toNat, by omega⟩
                    have hwl : wn < lies.length := by omega
                    have hwt : (clAt l i).w.toNat = wn := by omega
                    refine .skip (.tn (.seq (.seq (.region ?_))))
                    refine .w (.move rfl) ?_
                    refine .w (.fieldAddr fa_33_1 rfl) ?_
                    refine .w (.as (v' := it (wn : Int)) (.ld one_3 rfl) (congrArg it hwn)) ?_
                    refine .w (.ix1 Tryz.underlying50 sz_4 rfl rfl) ?_
                    refine .w (.ld one_4 rfl (hj := by exact gm (d := false) (by omega))) ?_
                    refine .nil (.tn ?_)
                    refine .cn rfl (fun hc10 => ?_) (fun hc10 => ?_)
                    · skip
                      refine .seq ?_
                      refine JC.draw (.one 0 (.one 1 (.one 2 (.one 3 (.one 4 (.one 5 (.one 6 (.one 7 (.one 8 (.one 9 (.one 10 (.one 11 .nil)))))))))))) (fun i => ([9, 11] : List Nat).contains i) (fun i => ([9, 11] : List Nat).contains i) (fun i => ([0, 1, 2, 3, 4, 5, 6, 7, 8, 10] : List Nat).contains i) mixed (by kernel_rfl) (by decide) (by kernel_rfl) ?_
                      refine .uw rfl (.move rfl) ?_
                      refine .uw rfl (.fieldAddr fa_33_0 rfl) ?_
                      refine .uw rfl (.ld one_30 rfl) ?_
                      refine .uw rfl (.fieldAddr fa_33_1 rfl) ?_
                      refine .uw rfl (.ld one_3 rfl) ?_
                      refine .uw rfl (.fieldAddr fa_33_0 rfl) ?_
                      refine .uw rfl (.ld one_30 rfl) ?_
                      refine .uw rfl (.fieldAddr fa_33_2 rfl) ?_
                      refine .uw rfl (.ld one_23 rfl) ?_
                      refine .mw rfl (.cb (f9_spec (clAt l i).h (clAt l i).v (clAt l i).b rfl) body_9 (h0 := by rintro _ _ _ ⟨_, h, _⟩; exact h)) ?_
                      rintro v146 _ _ ⟨_, ⟨_, _, rfl⟩, hΓ, hH⟩
                      simp only [List.cons_append, List.nil_append] at hH; subst hΓ hH
                      refine kp ?_
                      refine JR.know (φ := ∃ A n c, v146 = .slice A n c) (fun w hs => (by obtain ⟨A, c, rfl, _⟩ := row_rd (by decide) (Res.row_ok.1 (hs.hok _ (.head _))); exact ⟨_, _, _, rfl⟩)) fun ⟨A9, n9, c9, h_v146⟩ => ?_
                      subst h_v146
                      refine .uw rfl (.build (cs := [u64 (clAt l i).h, it (clAt l i).w, .slice A9 n9 c9]) bld_33 rfl (by kernel_rfl)) ?_
                      refine .mw rfl (.cb (f10_spec c am sv S M hM h1 h2 h3 (clAt l i).h (clAt l i).w (.slice A9 n9 c9) (blockB (clAt l i).h (clAt l i).b) (by have := (blk_ok (clAt l i).h (clAt l i).b (by omega)).2.2; omega)) body_10 (h0 := by rintro _ _ _ ⟨_, _, _, _, h, _⟩; exact h)) ?_
                      rintro _ _ _ ⟨_, ⟨M2, e2, hh, rfl, _, rfl⟩, hΓ, hH⟩
                      simp only [List.cons_append, List.nil_append] at hH; subst hΓ hH
                      refine kp ?_
                      refine .nil (.tn (.exit (.then_exit (.block_exit ?_))))
                      refine .hd M2 ?_
                      first | exact ⟨hM, hI⟩ | exact ⟨hh.ok, hh.ab ▸ hI.step (.inl (by rw [hwt]; exact hc10))⟩ | exact ⟨hM5, hI5⟩
                    · skip
                      refine .skip (.tn (.seq (.region ?_)))
                      refine .w (.move rfl) ?_
                      refine .w (.fieldAddr fa_33_1 rfl) ?_
                      refine .w (.ld one_3 rfl) ?_
                      refine .w (.fieldAddr fa_33_0 rfl) ?_
                      refine .w (.ld one_30 rfl) ?_
                      refine .cb (f17_spec vo Z (clAt l i).w (clAt l i).h (by omega) (fun b hb => Nat.le_trans (hlog b hb) (by decide))) body_17 ?_ (h0 := by rintro _ _ _ ⟨_, _, h, _⟩; exact h)
                      rintro v154 _ ⟨Za, hZa, _, rfl⟩
                      refine .ap ?_
                      have hZal : Za.length ≤ 4 := by have := congrArg List.length hZa; rw [clOf_len] at this; rw [this]; unfold ans; rw [ansK_len]; omega
                      refine JO.freeze (v := v154) (by repeat (first | exact Pull.here _ _ | apply Pull.there)) (by decide) ?_
                      refine JO.frzP (A := clP Za) (by repeat (first | exact Pull.here _ _ | apply Pull.there)) ?_
                      refine .w (.assign rfl) ?_
                      refine .nil (.tn (.seq (.region ?_)))
                      refine .w (.assign rfl) ?_
                      refine .nil (.tn (.block ?_))
                      refine .lp (ι := Nat × MM (BitVec 64) HC) (fun x => x.1 ≤ Za.length ∧ COk S x.2 ∧ TrueI lies (bytesP Z) (abM x.2)) (fun T x => (19, it (x.1 : Int)) :: T) (fun T _ => T) (fun T x => mpR am uK hcV x.2 :: Res.sep (hsL S x.2) :: T) (fun x => Za.length - x.1) (0, M) [1, 3, 8, 9, 12, 14, 16, 17, 18, 20, 21, 22, 23, 106, 107, 108, 109, 110, 111, 112, 113, 114, 115, 116, 117, 118, 119, 120, 121, 122, 123, 124, 125, 126, 127, 128, 129, 130, 131, 132, 133, 134, 135, 136, 137, 138, 139, 140, 141, 142, 143, 144, 145, 146, 147, 149, 150, 151, 152, 153, 154, 167, 168, 169, 170, 171, 172, 173, 174, 175, 176, 177, 178, 179, 180, 181, 182, 183, 184, 185, 186, 187, 188, 189, 190, 191, 192, 193, 194, 195, 196, 197, 198, 199, 200, 201, 202, 203, 204, 205, 206, 207, 208] ?_ (fun x hx => ?_)
                      · exact ⟨Nat.zero_le _, hM, hI⟩
                      obtain ⟨q, M5⟩ := x
                      obtain ⟨hq5, hM5, hI5⟩ := hx
                      dsimp only at hq5 hM5 hI5 ⊢
                      refine .seq (.seq (.region ?_))
                      refine .w (.move rfl) ?_
                      refine .w (.move rfl) ?_
                      refine .w (.len Tryz.underlying29 rfl) ?_
                      refine .w (.bin rfl rfl BinR.lss_i) ?_
                      refine .nil (.tn ?_)
                      refine .cn rfl (fun hc11 => ?_) (fun hc11 => ?_)
                      · have hcl := ans_mem (by omega) (hZa ▸ List.mem_of_getElem? (cl_at (Z := Za) (k := q) (by omega)).1)
                        have hbq : (clAt Za q).b.length ≤ 100000 := by
                          rw [show (clAt Za q).b = (bytesP Z).getD (clAt Za q).h.toNat [] from hcl.2.2, List.getD_eq_getElem?_getD, List.getElem?_eq_getElem hcl.2.1]
                          exact Nat.le_trans (hlog _ (List.getElem_mem _)) (by decide)
                        refine .skip (.tn (.seq (.block (.region ?_))))
                        refine .w (.move rfl) ?_
                        refine .w (.move rfl) ?_
                        refine .w (.move rfl) ?_
                        refine .w (.ix Tryz.underlying29 sz_33 rfl rfl) ?_
                        refine .w (.as (v' := (.agg #[u64 (clAt Za q).h, it (clAt Za q).w, (clAt Za q).v])) (.lda agg_33 rfl (hm := by first | exact AM.own (by (repeat (first | exact List.Mem.head _ | refine List.Mem.tail _ ?_)); first | done | fail) (by rw [bks_len]; omega) | exact AM.ro (by (repeat (first | exact List.Mem.head _ | refine List.Mem.tail _ ?_)); first | done | fail) (by rw [bks_len]; omega) | exact AM.ownAt (by (repeat (first | exact List.Mem.head _ | refine List.Mem.tail _ ?_)); first | done | fail) (by rw [bks_len]; omega) | exact AM.rd zqc (by rw [bks_len]; omega) | exact AM.row zqa (by rw [bks_len]; omega))) (congrArg (fun l : List Value => Value.agg l.toArray) (bks_piece (f := clC) clD (by omega)))) ?_
                        refine JO.open (r := Res.rd (pcAt (clP Za) q).1 (pcAt (clP Za) q).2.length 1 ((pcAt (clP Za) q).2.map u8)) zqa (pc_res (by rw [clP_len]; omega)) ?_
                        rw [(cl_at (Z := Za) (k := q) (by omega)).2]
                        refine .cb (f10_spec c am sv S M5 hM5 h1 h2 h3 (clAt Za q).h (clAt Za q).w (clAt Za q).v (clAt Za q).b hbq) body_10 ?_ (h0 := by rintro _ _ _ ⟨_, _, _, _, h, _⟩; exact h)
                        rintro _ _ ⟨M6, e6, hh, rfl, _, rfl⟩
                        refine .ap ?_
                        refine .nil (.block_normal (.tn (.region ?_)))
                        refine .w (.move rfl) ?_
                        refine .w (.asI ((q + 1 : Nat) : Int) (.bin rfl rfl (BinR.add_i zqf))) ?_
                        refine .w (.assign rfl) ?_
                        refine .nil ?_
                        refine .hd (q + 1, M6) ?_
                        exact ⟨⟨by dsimp only; omega, hh.ok, hh.ab ▸ hI5.step (.inr hcl.2)⟩, by dsimp only; omega⟩
                      · skip
                        refine .exit (.then_exit (.then_exit (.block_exit (.block_normal ?_))))
                        refine .hd M5 ?_
                        first | exact ⟨hM, hI⟩ | exact ⟨hh.ok, hh.ab ▸ hI.step (.inl (by rw [hwt]; exact hc10))⟩ | exact ⟨hM5, hI5⟩
              · obtain ⟨M9, hM9e⟩ : ∃ m, m = x := ⟨_, rfl⟩
                subst hM9e
                obtain ⟨hM9, hI9⟩ := hx
                refine .region ?_
                refine .w (.move rfl) ?_
                refine .w (.asI ((i + 1 : Nat) : Int) (.bin rfl rfl (BinR.add_i zqf))) ?_
                refine .w (.assign rfl) ?_
                refine .nil ?_
                refine .hd (i + 1, M9) ?_
                exact ⟨⟨by dsimp only; omega, hM9, hI9⟩, by dsimp only; omega⟩
            · skip
              refine .exit (.then_exit (.then_exit (.block_exit (.tn (.seq (.region ?_))))))
              refine .w (.move rfl) ?_
              refine .cb (f15_spec c am sv S M hM) body_15 ?_ (h0 := by rintro _ _ _ ⟨_, _, h, _⟩; exact h)
              rintro v168 _ ⟨es, hes, _, rfl⟩
              refine .ap ?_
              have hel : es.length = M.es.length := by rw [hes.length_eq, List.length_map]
              have hml := hM.le
              refine JO.freeze (v := v168) (by repeat (first | exact Pull.here _ _ | apply Pull.there)) (by decide) ?_
              refine .w (.assign rfl) ?_
              refine .nil (.tn (.seq (.seq (.region ?_))))
              refine .w (.assign rfl) ?_
              refine .nil (.tn (.block ?_))
              refine .lp (ι := Nat) (fun x => x ≤ es.length) (fun T x => (21, it (x : Int)) :: T) (fun T _ => T) (fun T _ => T) (fun x => es.length - x) 0 [9, 12, 14, 20, 208] ?_ (fun x hx => ?_)
              · exact Nat.zero_le _
              obtain ⟨k, hk⟩ : ∃ k, k = x := ⟨_, rfl⟩
              subst hk
              refine .seq (.seq (.region ?_))
              refine .w (.move rfl) ?_
              refine .w (.move rfl) ?_
              refine .w (.len Tryz.underlying22 rfl) ?_
              refine .w (.bin rfl rfl BinR.lss_i) ?_
              refine .nil (.tn ?_)
              refine .cn rfl (fun hc12 => ?_) (fun hc12 => ?_)
              · skip
                refine .skip (.tn (.seq (.block (.seq (.region ?_)))))
                refine .w (.move rfl) ?_
                refine .w (.move rfl) ?_
                refine .w (.move rfl) ?_
                refine .w (.ix1 Tryz.underlying22 sz_30 rfl rfl) ?_
                refine .w (.ld one_30 rfl (hj := by exact gm (d := 0) (by omega))) ?_
                refine .cb (f12_spec c am sv S M hM h2 h3 (es.getD k 0)) body_12 ?_ (h0 := by rintro _ _ _ ⟨_, _, _, _, h, _⟩; exact h)
                rintro _ _ ⟨o, rfl, hbel, hlo, _, rfl⟩
                refine .ap ?_
                refine .oRd (o := o) ?_
                refine .w (.move rfl) ?_
                refine .w (.as (v' := bv o) (.extract rfl rfl) rfl) ?_
                refine .w (.as (v' := .bool o.isSome) (.extract rfl rfl) rfl) ?_
                refine .w (.assign rfl) ?_
                refine .w (.assign rfl) ?_
                refine .nil (.tn (.seq ?_))
                refine JC.draw (.one 0 (.one 1 (.one 2 (.one 3 (.one 4 (.one 5 (.one 6 (.one 7 (.one 8 (.one 9 (.one 10 (.one 11 (.one 13 (.one 14 (.one 15 (.one 16 (.one 17 (.one 18 (.one 19 (.one 12 (.one 20 (.one 21 (.one 22 (.one 23 .nil)))))))))))))))))))))))) (fun i => ([12, 20] : List Nat).contains i) (fun i => ([12, 20] : List Nat).contains i) (fun i => ([0, 1, 2, 3, 4, 5, 6, 7, 8, 9, 10, 11, 13, 14, 15, 16, 17, 18, 19, 21, 22, 23] : List Nat).contains i) mixed (by kernel_rfl) (by decide) (by kernel_rfl) ?_
                refine .uw rfl (.move rfl) ?_
                refine .uw rfl (.move rfl) ?_
                refine JR.gsplit (g := 23) rfl (fun hg188 => ?_) (fun hg188 => ?_)
                · have hg188' := hg188
                  try simp only [decide_eq_true_eq, decide_eq_false_iff_not, Bool.not_eq_true', Bool.not_eq_false', ne_eq, Decidable.not_not, Bool.not_eq_true, Bool.and_eq_true, Bool.or_eq_true, BitVec.reduceToNat] at hg188'
                  obtain ⟨⟨vb, bb⟩, rfl⟩ : ∃ x, o = some x := Option.isSome_iff_exists.1 hg188
                  have hf := true_fin hM hI hbad hbel
                  have hf1 := hf.1
                  rw [bytesP_len] at hf1
                  have hf2 : nm (obB (some (vb, bb))) = nm (pcAt Z (es.getD k 0).toNat).2 := by rw [← bytesP_at]; exact hf.2
                  have hlb := hlo _ rfl
                  have hlz : (pcAt Z (es.getD k 0).toNat).2.length ≤ 100000 := Nat.le_trans (hlog _ (by rw [← bytesP_at, List.getD_eq_getElem?_getD, List.getElem?_eq_getElem hf.1]; exact List.getElem_mem _)) (by decide)
                  refine JR.ugt (g := 185) rfl rfl rfl rfl rfl hg188 (.move rfl) (by decide) ?_
                  refine JR.ugt (g := 185) rfl rfl rfl rfl rfl hg188 (.move rfl) (by decide) ?_
                  refine JR.ugt (g := 185) rfl rfl rfl rfl rfl hg188 (.ix1 Tryz.underlying22 sz_30 rfl rfl) (by decide) ?_
                  refine JR.ugt (g := 185) rfl rfl rfl rfl rfl hg188 (.ld one_30 rfl (hj := by exact gm (d := 0) (by omega))) (by decide) ?_
                  refine JR.ugt (g := 185) rfl rfl rfl rfl rfl hg188 (.move rfl) (by decide) ?_
                  refine JR.ugt (g := 185) rfl rfl rfl rfl rfl hg188 (.len Tryz.underlying35 rfl) (by decide) ?_
                  refine JR.ugt (g := 185) rfl rfl rfl rfl rfl hg188 (.as (v' := u64 (BitVec.ofNat 64 Z.length)) (.conv_i_u64 Tryz.underlying3 Tryz.underlying30 rfl) (congrArg u64 (BitVec.ofInt_natCast _ _))) (by decide) ?_
                  refine JR.ugt (g := 185) rfl rfl rfl rfl rfl hg188 (.as (v' := .bool false) (.bin rfl rfl (BinR.geq_u64)) (congrArg Value.bool (decide_eq_false (by rw [BitVec.toNat_ofNat, Nat.mod_eq_of_lt (by omega)]; omega)))) (by decide) ?_
                  refine JR.ugt (g := 185) rfl rfl rfl rfl rfl hg188 (.move rfl) (by decide) ?_
                  refine JR.open (r := Res.rd (pcAt Z (es.getD k 0).toNat).1 (pcAt Z (es.getD k 0).toNat).2.length 1 ((pcAt Z (es.getD k 0).toNat).2.map u8)) zqa (pc_res (by omega)) ?_
                  refine JR.ugt (g := 194) rfl rfl rfl rfl rfl rfl (.move rfl) (by decide) ?_
                  refine JR.ugt (g := 194) rfl rfl rfl rfl rfl rfl (.move rfl) (by decide) ?_
                  refine JR.ugt (g := 194) rfl rfl rfl rfl rfl rfl (.move rfl) (by decide) ?_
                  refine JR.ugt (g := 194) rfl rfl rfl rfl rfl rfl (.move rfl) (by decide) ?_
                  refine JR.ugt (g := 194) rfl rfl rfl rfl rfl rfl (.ix1 Tryz.underlying22 sz_30 rfl rfl) (by decide) ?_
                  refine JR.ugt (g := 194) rfl rfl rfl rfl rfl rfl (.ld one_30 rfl (hj := by exact gm (d := 0) (by omega))) (by decide) ?_
                  refine JR.ugt (g := 194) rfl rfl rfl rfl rfl rfl (.ix1 Tryz.underlying35 sz_23 rfl rfl) (by decide) ?_
                  refine JR.ugt (g := 194) rfl rfl rfl rfl rfl rfl (.ld one_23 rfl (hj := by exact pc_get (by omega))) (by decide) ?_
                  refine JR.mgt (g := 194) rfl rfl rfl rfl rfl (.c (name_digR (bv (some (vb, bb))) (obB (some (vb, bb))) hlb) body_20) (by decide) ?_
                  rintro _ _ _ ⟨rfl, rfl, rfl⟩
                  refine kp ?_
                  refine JR.mgt (g := 194) rfl rfl rfl rfl rfl (.c (name_digR (pcAt Z (es.getD k 0).toNat).1 (pcAt Z (es.getD k 0).toNat).2 hlz) body_20) (by decide) ?_
                  rintro _ _ _ ⟨rfl, rfl, rfl⟩
                  refine kp ?_
                  refine JR.ugt (g := 194) rfl rfl rfl rfl rfl rfl (.as (v' := .bool false) (.bin rfl rfl (neq_dig)) (congrArg Value.bool (by rw [hf2]; simp))) (by decide) ?_
                  refine JR.ugt (g := 185) rfl rfl rfl rfl rfl hg188 (Yv.pick0 rfl rfl rfl) (by decide) ?_
                  refine JR.u rfl rfl rfl (Yv.pick1 rfl hg188 rfl) (by decide) ?_
                  refine .nil (.tn ?_)
                  refine .cf rfl ?_
                  refine .skip (.block_normal (.tn (.region ?_)))
                  refine .w (.move rfl) ?_
                  refine .w (.asI ((k + 1 : Nat) : Int) (.bin rfl rfl (BinR.add_i zqf))) ?_
                  refine .w (.assign rfl) ?_
                  refine .nil ?_
                  refine .hd (k + 1) ?_
                  exact ⟨by omega, by omega⟩
                · have hg188' := hg188
                  try simp only [decide_eq_true_eq, decide_eq_false_iff_not, Bool.not_eq_true', Bool.not_eq_false', ne_eq, Decidable.not_not, Bool.not_eq_true, Bool.and_eq_true, Bool.or_eq_true, BitVec.reduceToNat] at hg188'
                  refine JR.gf (g := 185) rfl rfl rfl rfl hg188 (by decide) ?_
                  refine JR.gf (g := 185) rfl rfl rfl rfl hg188 (by decide) ?_
                  refine JR.gf (g := 185) rfl rfl rfl rfl hg188 (by decide) ?_
                  refine JR.gf (g := 185) rfl rfl rfl rfl hg188 (by decide) ?_
                  refine JR.gf (g := 185) rfl rfl rfl rfl hg188 (by decide) ?_
                  refine JR.gf (g := 185) rfl rfl rfl rfl hg188 (by decide) ?_
                  refine JR.gf (g := 185) rfl rfl rfl rfl hg188 (by decide) ?_
                  refine JR.gf (g := 185) rfl rfl rfl rfl hg188 (by decide) ?_
                  refine JR.gf (g := 185) rfl rfl rfl rfl hg188 (by decide) ?_
                  refine JR.gu (g := 194) rfl rfl rfl rfl (by decide) ?_
                  refine JR.gu (g := 194) rfl rfl rfl rfl (by decide) ?_
                  refine JR.gu (g := 194) rfl rfl rfl rfl (by decide) ?_
                  refine JR.gu (g := 194) rfl rfl rfl rfl (by decide) ?_
                  refine JR.gu (g := 194) rfl rfl rfl rfl (by decide) ?_
                  refine JR.gu (g := 194) rfl rfl rfl rfl (by decide) ?_
                  refine JR.gu (g := 194) rfl rfl rfl rfl (by decide) ?_
                  refine JR.gu (g := 194) rfl rfl rfl rfl (by decide) ?_
                  refine JR.gum (g := 194) rfl rfl rfl rfl (by decide) ?_ ?_
                  · exact ⟨Subs.sub zqe, .inl rfl⟩
                  refine JR.gum (g := 194) rfl rfl rfl rfl (by decide) ?_ ?_
                  · exact ⟨Subs.sub zqe, .inl rfl⟩
                  refine JR.gu (g := 194) rfl rfl rfl rfl (by decide) ?_
                  refine JR.gf (g := 185) rfl rfl rfl rfl hg188 (by decide) ?_
                  refine JR.u rfl rfl rfl (Yv.pick0 rfl hg188 rfl) (by decide) ?_
                  refine .nil (.tn ?_)
                  refine .cf rfl ?_
                  refine .skip (.block_normal (.tn (.region ?_)))
                  refine .w (.move rfl) ?_
                  refine .w (.asI ((k + 1 : Nat) : Int) (.bin rfl rfl (BinR.add_i zqf))) ?_
                  refine .w (.assign rfl) ?_
                  refine .nil ?_
                  refine .hd (k + 1) ?_
                  exact ⟨by omega, by omega⟩
              · skip
                refine .exit (.then_exit (.then_exit (.block_exit (.tn (.seq (.region ?_))))))
                refine .w (.move rfl) ?_
                refine .w (.assign rfl) ?_
                refine .nil (.tn (.ret ?_))
                exact .dn [] [] (res1 rfl (.tmp rfl)) ⟨rfl, rfl, rfl⟩

set_option maxHeartbeats 4000000 in
theorem f6B_spec (u vl vt vc : Value) (S : List W64) (lies : List Bool) (T : Pcs) (l : List CLM) (hg : newE S ≠ 0) :
    Spec Tryz.prog 6 #[u, vl, vt, vc] [Res.var 3 (sqr.map u32), Res.var 2 (cub.map u32), Res.var 0 [u64 9223372036854775808, u64 0, u64 0, u64 0], Res.rd u S.length 1 (S.map u64), Res.rd vl lies.length 1 (lies.map Value.bool), Res.rd vt T.length 1 (T.map Prod.fst), Res.all (pcRes T), Res.rd vc l.length 3 (bks clC l), Res.all (pcRes (clP l))] []
      (fun r Γ' H' => r = .bool true ∧ Γ' = [] ∧ H' = []) := by
  refine Spec.of_args Tryz.func6 rfl Tryz.ntmps6 (by simp) fun w => ?_
  refine JC.know (φ := S.length ≤ 9223372036854775807) (fun w hs => by obtain ⟨_, _, _, _, _, _, h⟩ := hs.rdForm (.tail _ (.tail _ (.tail _ (.head _)))); unfold maxLen at h; omega) fun _ => ?_
  refine JC.know (φ := lies.length ≤ 9223372036854775807) (fun w hs => by obtain ⟨_, _, _, _, _, _, h⟩ := hs.rdForm (.tail _ (.tail _ (.tail _ (.tail _ (.head _))))); unfold maxLen at h; omega) fun _ => ?_
  refine JC.know (φ := T.length ≤ 9223372036854775807) (fun w hs => by obtain ⟨_, _, _, _, _, _, h⟩ := hs.rdForm (.tail _ (.tail _ (.tail _ (.tail _ (.tail _ (.head _)))))); unfold maxLen at h; omega) fun _ => ?_
  refine JC.know (φ := l.length ≤ 9223372036854775807) (fun w hs => by obtain ⟨_, _, _, _, _, _, h⟩ := hs.rdForm (.tail _ (.tail _ (.tail _ (.tail _ (.tail _ (.tail _ (.tail _ (.head _)))))))); unfold maxLen at h; omega) fun _ => ?_
  skip
  refine .seq (.region ?_)
  refine .w (.assign rfl) ?_
  refine .nil (.tn (.seq (.region ?_)))
  refine .c (f7_spec) body_7 ?_
  refine .w (.assign rfl) ?_
  refine .nil (.tn (.seq (.seq (.region ?_))))
  refine .w (.move rfl) ?_
  refine .w (.len Tryz.underlying22 rfl) ?_
  refine .w (.bin rfl rfl BinR.gtr_i) ?_
  refine .join 17 44 (.bool (decide (S.length > 10 ∨ lies.length ≠ S.length ∨ T.length > 8 ∨ l.length > 50))) ?_ ?_
  · refine .w (.move rfl) ?_
    refine .gn (g := 27) rfl (fun hg8 hg8' => ?_) (fun hg8 hg8' => ?_)
    · refine .gf (g := 28) rfl rfl hg8 (by decide) ?_
      refine .gf (g := 28) rfl rfl hg8 (by decide) ?_
      refine .gf (g := 28) rfl rfl hg8 (by decide) ?_
      refine .gf (g := 28) rfl rfl hg8 (by decide) ?_
      refine .gf (g := 28) rfl rfl hg8 (by decide) ?_
      refine .w (.pick1 rfl hg8 rfl) ?_
      refine .w (.move rfl) ?_
      refine .gf (g := 35) rfl rfl rfl (by decide) ?_
      refine .gf (g := 35) rfl rfl rfl (by decide) ?_
      refine .gf (g := 35) rfl rfl rfl (by decide) ?_
      refine .w (.pick1 rfl rfl rfl) ?_
      refine .w (.move rfl) ?_
      refine .gf (g := 40) rfl rfl rfl (by decide) ?_
      refine .gf (g := 40) rfl rfl rfl (by decide) ?_
      refine .gf (g := 40) rfl rfl rfl (by decide) ?_
      refine .w (.pick1 rfl rfl rfl) ?_
      refine .nil ?_
      refine .head () (by first | (refine ⟨by first | rfl | exact congrArg (fun b => some (Value.bool b)) (by first | exact (decide_eq_true (by omega)).symm | exact (decide_eq_false (by omega)).symm | exact decide_eq_decide.2 (by omega)) | (simp [*]; done) | (show some _ = some _; simp [*]; done), ?_⟩; repeat (first | exact trivial | refine ⟨rfl, ?_⟩))) (fun _ h => h) (Picks.perm zqd) ?_
      trivial
    · refine .gt (g := 28) rfl rfl hg8 ?_
      refine .w (.move rfl) ?_
      refine .gt (g := 28) rfl rfl hg8 ?_
      refine .w (.len Tryz.underlying50 rfl) ?_
      refine .gt (g := 28) rfl rfl hg8 ?_
      refine .w (.move rfl) ?_
      refine .gt (g := 28) rfl rfl hg8 ?_
      refine .w (.len Tryz.underlying22 rfl) ?_
      refine .gt (g := 28) rfl rfl hg8 ?_
      refine .w (.bin rfl rfl BinR.neq_i) ?_
      refine .w (.pick0 rfl hg8 rfl) ?_
      refine .w (.move rfl) ?_
      refine .gn (g := 34) rfl (fun hg15 hg15' => ?_) (fun hg15 hg15' => ?_)
      · refine .gf (g := 35) rfl rfl hg15 (by decide) ?_
        refine .gf (g := 35) rfl rfl hg15 (by decide) ?_
        refine .gf (g := 35) rfl rfl hg15 (by decide) ?_
        refine .w (.pick1 rfl hg15 rfl) ?_
        refine .w (.move rfl) ?_
        refine .gf (g := 40) rfl rfl rfl (by decide) ?_
        refine .gf (g := 40) rfl rfl rfl (by decide) ?_
        refine .gf (g := 40) rfl rfl rfl (by decide) ?_
        refine .w (.pick1 rfl rfl rfl) ?_
        refine .nil ?_
        refine .head () (by first | (refine ⟨by first | rfl | exact congrArg (fun b => some (Value.bool b)) (by first | exact (decide_eq_true (by omega)).symm | exact (decide_eq_false (by omega)).symm | exact decide_eq_decide.2 (by omega)) | (simp [*]; done) | (show some _ = some _; simp [*]; done), ?_⟩; repeat (first | exact trivial | refine ⟨rfl, ?_⟩))) (fun _ h => h) (Picks.perm zqd) ?_
        trivial
      · refine .gt (g := 35) rfl rfl hg15 ?_
        refine .w (.move rfl) ?_
        refine .gt (g := 35) rfl rfl hg15 ?_
        refine .w (.len Tryz.underlying35 rfl) ?_
        refine .gt (g := 35) rfl rfl hg15 ?_
        refine .w (.bin rfl rfl BinR.gtr_i) ?_
        refine .w (.pick0 rfl hg15 rfl) ?_
        refine .w (.move rfl) ?_
        refine .gn (g := 39) rfl (fun hg20 hg20' => ?_) (fun hg20 hg20' => ?_)
        · refine .gf (g := 40) rfl rfl hg20 (by decide) ?_
          refine .gf (g := 40) rfl rfl hg20 (by decide) ?_
          refine .gf (g := 40) rfl rfl hg20 (by decide) ?_
          refine .w (.pick1 rfl hg20 rfl) ?_
          refine .nil ?_
          refine .head () (by first | (refine ⟨by first | rfl | exact congrArg (fun b => some (Value.bool b)) (by first | exact (decide_eq_true (by omega)).symm | exact (decide_eq_false (by omega)).symm | exact decide_eq_decide.2 (by omega)) | (simp [*]; done) | (show some _ = some _; simp [*]; done), ?_⟩; repeat (first | exact trivial | refine ⟨rfl, ?_⟩))) (fun _ h => h) (Picks.perm zqd) ?_
          trivial
        · refine .gt (g := 40) rfl rfl hg20 ?_
          refine .w (.move rfl) ?_
          refine .gt (g := 40) rfl rfl hg20 ?_
          refine .w (.len Tryz.underlying29 rfl) ?_
          refine .gt (g := 40) rfl rfl hg20 ?_
          refine .w (.bin rfl rfl BinR.gtr_i) ?_
          refine .w (.pick0 rfl hg20 rfl) ?_
          refine .nil ?_
          refine .head () (by first | (refine ⟨by first | rfl | exact congrArg (fun b => some (Value.bool b)) (by first | exact (decide_eq_true (by omega)).symm | exact (decide_eq_false (by omega)).symm | exact decide_eq_decide.2 (by omega)) | (simp [*]; done) | (show some _ = some _; simp [*]; done), ?_⟩; repeat (first | exact trivial | refine ⟨rfl, ?_⟩))) (fun _ h => h) (Picks.perm zqd) ?_
          trivial
  · refine .nil (.tn ?_)
    refine .cn rfl (fun hc1 => ?_) (fun hc1 => ?_)
    · skip
      refine .seq (.region ?_)
      refine .w (.move rfl) ?_
      refine .w (.assign rfl) ?_
      refine .nil (.tn (.ret (.then_ret ?_)))
      exact .dn [] [] (res1 rfl (.tmp rfl)) ⟨rfl, rfl, rfl⟩
    · have hs10 : S.length ≤ 10 ∧ lies.length = S.length ∧ T.length ≤ 8 ∧ l.length ≤ 50 := by omega
      obtain ⟨hs1, hs2, hs3, hs4⟩ := hs10
      refine .skip (.tn (.seq (.region ?_)))
      refine .w (.assign rfl) ?_
      refine .nil (.tn (.seq (.seq (.region ?_))))
      refine .w (.assign rfl) ?_
      refine .nil (.tn (.block ?_))
      refine .lp (ι := Nat) (fun x => x ≤ S.length ∧ ∀ j, j < x → (S.getD j 0).toNat < 72057594037927936) (fun T x => (11, it (x : Int)) :: (10, u64 (BitVec.ofNat 64 (badK S lies x))) :: T) (fun T _ => T) (fun T _ => T) (fun x => S.length - x) 0 [0, 1, 2, 3, 9, 12, 14, 15, 16, 17, 18, 19, 20, 21, 22, 23, 68, 69, 70, 71, 72, 73, 74, 75, 76, 77, 78, 79, 80, 81, 82, 83, 84, 85, 86, 87, 88, 89, 90, 91, 92, 93, 94, 95, 96, 97, 98, 99, 100, 101, 102, 103, 104, 105, 106, 107, 108, 109, 110, 111, 112, 113, 114, 115, 116, 117, 118, 119, 120, 121, 122, 123, 124, 125, 126, 127, 128, 129, 130, 131, 132, 133, 134, 135, 136, 137, 138, 139, 140, 141, 142, 143, 144, 145, 146, 147, 149, 150, 151, 152, 153, 154, 155, 156, 157, 158, 159, 160, 161, 162, 163, 164, 165, 167, 168, 169, 170, 171, 172, 173, 174, 175, 176, 177, 178, 179, 180, 181, 182, 183, 184, 185, 186, 187, 188, 189, 190, 191, 192, 193, 194, 195, 196, 197, 198, 199, 200, 201, 202, 203, 204, 205, 206, 207, 208] ?_ (fun x hx => ?_)
      · exact ⟨Nat.zero_le _, fun j hj => absurd hj (Nat.not_lt_zero _)⟩
      obtain ⟨i, hi⟩ : ∃ i, i = x := ⟨_, rfl⟩
      subst hi
      obtain ⟨hi, hS56⟩ := hx
      refine .seq (.seq (.region ?_))
      refine .w (.move rfl) ?_
      refine .w (.move rfl) ?_
      refine .w (.len Tryz.underlying22 rfl) ?_
      refine .w (.bin rfl rfl BinR.lss_i) ?_
      refine .nil (.tn ?_)
      refine .cn rfl (fun hc2 => ?_) (fun hc2 => ?_)
      · skip
        refine .skip (.tn (.seq (.block (.seq (.seq (.region ?_))))))
        refine .w (.move rfl) ?_
        refine .w (.move rfl) ?_
        refine .w (.ix1 Tryz.underlying22 sz_30 rfl rfl) ?_
        refine .w (.ld one_30 rfl (hj := by exact gm (d := 0) (by omega))) ?_
        refine .w (.bin rfl rfl (BinR.geq_u64 (b := 72057594037927936#64))) ?_
        refine .nil (.tn ?_)
        refine .cn rfl (fun hc3 => ?_) (fun hc3 => ?_)
        · try simp only [BitVec.reduceToNat] at hc3
          skip
          refine .seq (.region ?_)
          refine .w (.move rfl) ?_
          refine .w (.assign rfl) ?_
          refine .nil (.tn (.ret (.then_ret (.block_ret (.then_ret (.then_ret (.block_ret (.then_ret ?_))))))))
          exact .dn [] [] (res1 rfl (.tmp rfl)) ⟨rfl, rfl, rfl⟩
        · try simp only [BitVec.reduceToNat] at hc3
          have h56 : (S.getD i 0).toNat < 72057594037927936 := by omega
          refine .skip (.tn (.seq (.region ?_)))
          refine .w (.move rfl) ?_
          refine .w (.move rfl) ?_
          refine .w (.ix1 Tryz.underlying50 sz_4 rfl rfl) ?_
          refine .w (.ld one_4 rfl (hj := by exact gm (d := false) (by omega))) ?_
          refine .nil (.tn ?_)
          refine .cn rfl (fun hc4 => ?_) (fun hc4 => ?_)
          · have hbk := badK_bv (S := S) hc4
            refine .region ?_
            refine .w (.move rfl) ?_
            refine .w (.move rfl) ?_
            refine .w (.move rfl) ?_
            refine .w (.ix1 Tryz.underlying22 sz_30 rfl rfl) ?_
            refine .w (.ld one_30 rfl (hj := by exact gm (d := 0) (by omega))) ?_
            refine .w (.as (v' := u64 (BitVec.ofNat 64 (badK S lies (i + 1)))) (.bin rfl rfl (BinR.add_u64)) (congrArg u64 hbk)) ?_
            refine .w (.assign rfl) ?_
            refine .nil (.block_normal (.tn (.region ?_)))
            refine .w (.move rfl) ?_
            refine .w (.asI ((i + 1 : Nat) : Int) (.bin rfl rfl (BinR.add_i zqf))) ?_
            refine .w (.assign rfl) ?_
            refine .nil ?_
            refine .hd (i + 1) ?_
            exact ⟨⟨by omega, fun j hj => by rcases Nat.lt_succ_iff_lt_or_eq.1 hj with h | rfl; exact hS56 j h; exact h56⟩, by omega⟩
          · have hbk : badK S lies i = badK S lies (i + 1) := by rw [badK_succ, if_neg (by rw [hc4]; decide)]; rfl
            rw [hbk]
            refine .skip (.block_normal (.tn (.region ?_)))
            refine .w (.move rfl) ?_
            refine .w (.asI ((i + 1 : Nat) : Int) (.bin rfl rfl (BinR.add_i zqf))) ?_
            refine .w (.assign rfl) ?_
            refine .nil ?_
            refine .hd (i + 1) ?_
            exact ⟨⟨by omega, fun j hj => by rcases Nat.lt_succ_iff_lt_or_eq.1 hj with h | rfl; exact hS56 j h; exact h56⟩, by omega⟩
      · obtain rfl : i = S.length := by omega
        refine .exit (.then_exit (.then_exit (.block_exit (.tn (.seq (.region ?_))))))
        refine .w (.move rfl) ?_
        refine .c (f8no_spec u S hg) body_8 ?_
        refine .w (.move rfl) ?_
        refine .w (.extract rfl rfl) ?_
        refine .w (.extract rfl rfl) ?_
        refine .w (.assign rfl) ?_
        refine .w (.assign rfl) ?_
        refine .nil (.tn (.seq (.seq (.region ?_))))
        refine .w (.move rfl) ?_
        refine .w (.as (v' := .bool true) (.bin rfl rfl (BinR.eql_p Tryz.underlying25)) rfl) ?_
        refine .w (.move rfl) ?_
        refine .gf (g := 75) rfl rfl rfl (by decide) ?_
        refine .gf (g := 75) rfl rfl rfl (by decide) ?_
        refine .gf (g := 75) rfl rfl rfl (by decide) ?_
        refine .gf (g := 75) rfl rfl rfl (by decide) ?_
        refine .gf (g := 75) rfl rfl rfl (by decide) ?_
        refine .w (.pick1 rfl rfl rfl) ?_
        refine .nil (.tn ?_)
        refine .ct rfl ?_
        refine .seq (.region ?_)
        refine .w (.move rfl) ?_
        refine .w (.assign rfl) ?_
        refine .nil (.tn (.ret (.then_ret ?_)))
        exact .dn [] [] (res1 rfl (.tmp rfl)) ⟨rfl, rfl, rfl⟩

theorem f6_spec (u vl vt vc : Value) (S : List W64) (lies : List Bool) (T : Pcs) (l : List CLM) : Spec Tryz.prog 6 #[u, vl, vt, vc] [Res.var 3 (sqr.map u32), Res.var 2 (cub.map u32), Res.var 0 [u64 9223372036854775808, u64 0, u64 0, u64 0], Res.rd u S.length 1 (S.map u64), Res.rd vl lies.length 1 (lies.map Value.bool), Res.rd vt T.length 1 (T.map Prod.fst), Res.all (pcRes T), Res.rd vc l.length 3 (bks clC l), Res.all (pcRes (clP l))] []
      (fun r Γ' H' => r = .bool true ∧ Γ' = [] ∧ H' = []) := by
  by_cases hg : newE S = 0
  · exact f6A_spec u vl vt vc S lies T l hg
  · exact f6B_spec u vl vt vc S lies T l hg
end Go.Proofs.YthfipbjmpeegbaaGreatDoor
