/- Walk: PoolBack. -/
import Derived.Test.YtffgimlkmfjgmaaP10
namespace Go.Proofs.Ytffgimlkmfjgmaa
open Go.RowKit
set_option maxRecDepth 100000
set_option linter.unusedVariables false
set_option linter.unusedSimpArgs false
set_option maxHeartbeats 1000000 in
theorem f3_spec (lv bv : Value) (h : BitVec 64) (L : Pcs) (left : Int) (b : B8) :
    Spec Try.prog 3 #[(u64 h), lv, (it left), bv] [Res.rd lv L.length 1 (L.map Prod.fst), Res.all (pcRes L), Res.rd bv b.length 1 (b.map u8)] []
      (fun r Γ' H' => r = .bool true ∧ Γ' = [] ∧ H' = []) := by
  refine Spec.of_args Try.func3 rfl Try.ntmps3 (by simp) fun w => ?_
  refine JC.know (φ := b.length ≤ 9223372036854775807) (fun w hs => by obtain ⟨_, _, _, _, _, _, h⟩ := hs.rdForm (.tail _ (.tail _ (.head _))); unfold maxLen at h; omega) fun hlb => ?_
  refine .seq (.region ?_)
  refine .w (.assign rfl) ?_
  refine .nil (.tn (.seq (.region ?_)))
  refine .c f6_spec body_6 ?_
  refine .w (.assign rfl) ?_
  refine .nil (.tn (.seq (.region ?_)))
  refine .w (.move rfl) ?_
  refine .c (f7_spec lv L) body_7 ?_
  refine .w (.assign rfl) ?_
  refine .nil (.tn (.seq (.seq (.region ?_))))
  refine .w (.move rfl) ?_
  refine .w (.not rfl) ?_
  refine .join 5 36 (.bool (decide (¬ shB (bytesP L) ∨ b.length > 3000))) ?_ ?_
  · refine .w (.move rfl) ?_
    refine .gn (g := 31) rfl (fun hg10 hg10' => ?_) (fun hg10 hg10' => ?_)
    · refine .gf (g := 32) rfl rfl hg10 (by decide) ?_
      refine .gf (g := 32) rfl rfl hg10 (by decide) ?_
      refine .gf (g := 32) rfl rfl hg10 (by decide) ?_
      refine .w (.pick1 rfl hg10 rfl) ?_
      refine .nil ?_
      refine .head () (by first | (refine ⟨by first | rfl | exact congrArg (fun b => some (Value.bool b)) (decide_eq_true (.inl (by simpa using hg10))).symm | exact congrArg (fun b => some (Value.bool b)) (decide_eq_decide.2 ⟨fun h => .inr (by omega), fun h => h.elim (fun h1 => absurd (by simpa using hg10) h1) (fun h1 => by omega)⟩), ?_⟩; repeat (first | exact trivial | refine ⟨rfl, ?_⟩))) (fun _ h => h) (Picks.perm (by repeat (first | exact Picks.nil _ | apply Picks.cons | exact Pull.here _ _ | apply Pull.there))) ?_
      trivial
    · refine .gt (g := 32) rfl rfl hg10 ?_
      refine .w (.move rfl) ?_
      refine .gt (g := 32) rfl rfl hg10 ?_
      refine .w (.len Try.underlying24 rfl) ?_
      refine .gt (g := 32) rfl rfl hg10 ?_
      refine .w (.bin rfl rfl BinR.gtr_i) ?_
      refine .w (.pick0 rfl hg10 rfl) ?_
      refine .nil ?_
      refine .head () (by first | (refine ⟨by first | rfl | exact congrArg (fun b => some (Value.bool b)) (decide_eq_true (.inl (by simpa using hg10))).symm | exact congrArg (fun b => some (Value.bool b)) (decide_eq_decide.2 ⟨fun h => .inr (by omega), fun h => h.elim (fun h1 => absurd (by simpa using hg10) h1) (fun h1 => by omega)⟩), ?_⟩; repeat (first | exact trivial | refine ⟨rfl, ?_⟩))) (fun _ h => h) (Picks.perm (by repeat (first | exact Picks.nil _ | apply Picks.cons | exact Pull.here _ _ | apply Pull.there))) ?_
      trivial
  · refine .nil (.tn ?_)
    refine .cn rfl (fun hc1 => ?_) (fun hc1 => ?_)
    · refine .seq (.region ?_)
      refine .w (.move rfl) ?_
      refine .w (.assign rfl) ?_
      refine .nil (.tn (.ret (.then_ret ?_)))
      exact .dn [] [] (res1 rfl (.tmp rfl)) ⟨rfl, rfl, rfl⟩
    · have hb3 : b.length ≤ 3000 := by have := fun h1 => hc1 (.inr h1); omega
      refine .skip (.tn (.seq (.region ?_)))
      refine .w (.move rfl) ?_
      refine .w (.move rfl) ?_
      refine .cb (f8_spec h lv L) body_8 ?_ (h0 := by rintro _ _ _ ⟨_, _, h, _⟩; exact h)
      rintro _ _ ⟨x1, rfl, _, rfl⟩
      refine .ap ?_
      have hpl := packO_len h (bytesP L)
      refine JO.freeze (v := x1) (by repeat (first | exact Pull.here _ _ | apply Pull.there)) (by decide) ?_
      refine .w (.move rfl) ?_
      refine .w (.extract rfl rfl) ?_
      refine .w (.extract rfl rfl) ?_
      refine .w (.assign rfl) ?_
      refine .w (.assign rfl) ?_
      refine .nil (.tn ?_)
      refine .mt (ι := Unit) (fun x => True) (fun T _ => T) (fun T _ => T) (fun T _ => T) [3, 9, 22, 23, 24, 25, 26, 97, 98, 99, 100, 101, 102, 103, 104, 105, 106, 107, 108, 109, 110, 111, 112, 113, 114, 115, 116, 117, 118, 119, 120, 121, 122, 123, 124, 125, 126, 127, 128, 129, 130] [] ?_ (fun x hx => ?_)
      · refine .seq (.region ?_)
        refine .w (.move rfl) ?_
        refine .w (.bin rfl rfl BinR.eql_i) ?_
        refine .nil (.tn ?_)
        refine .cn rfl (fun hc2 => ?_) (fun hc2 => ?_)
        · have hp : packE (bytesP L) = 0 := hc2
          rw [show packO h (bytesP L) = (packB h (bytesP L)) from if_pos hp] at hpl ⊢
          refine .seq (.region ?_)
          refine .w (.move rfl) ?_
          refine .cs (f9_spec x1 (packB h (bytesP L)) (by omega)) body_9 ?_
          rintro _ _ _ ⟨x2, N2, hN2, rfl, rfl, rfl⟩
          refine .ap ?_
          refine .ap ?_
          rw [(un_pack hp).2.2] at hN2
          rw [(un_pack hp).1, (un_pack hp).2.1]
          refine .w (.move rfl) ?_
          refine .w (.extract rfl rfl) ?_
          refine .w (.extract rfl rfl) ?_
          refine .w (.extract rfl rfl) ?_
          refine .w (.assign rfl) ?_
          refine .w (.assign rfl) ?_
          refine .w (.assign rfl) ?_
          refine .nil (.tn (.seq (.region ?_)))
          refine .le Try.underlying24 sz_5 fun v53 => ?_
          refine .w (.move rfl) ?_
          refine .ap Try.underlying24 info_5 (fun v55 => ?_) (hone := one_u8s)
          rw [List.nil_append, Nat.zero_add (packB h (bytesP L)).length]
          refine .l1 Try.underlying24 info_5 (fun v56 => ?_)
          refine .ap Try.underlying24 info_5 (fun v57 => ?_) (hone := (by intro a ha; rw [List.mem_singleton] at ha; subst ha; rfl))
          rw [show [Value.int .u8 0] = [0#8].map u8 from rfl, map_cat, show (packB h (bytesP L)).length + 1 = ((packB h (bytesP L)) ++ [0#8]).length from by rw [List.length_append]; rfl]
          refine JO.freeze (v := v57) (by repeat (first | exact Pull.here _ _ | apply Pull.there)) (by decide) ?_
          refine .cs (f9_spec v57 ((packB h (bytesP L)) ++ [0#8]) (by rw [List.length_append, List.length_singleton]; omega)) body_9 ?_
          rintro _ _ _ ⟨x3, N3, hN3, rfl, rfl, rfl⟩
          refine .ap ?_
          refine .ap ?_
          rw [un_tail hp]
          refine .w (.move rfl) ?_
          refine .w (.extract rfl rfl) ?_
          refine .w (.extract rfl rfl) ?_
          refine .w (.extract rfl rfl) ?_
          refine .w (.assign rfl) ?_
          refine .w (.assign rfl) ?_
          refine .w (.assign rfl) ?_
          refine .nil (.tn (.seq (.seq (.region ?_))))
          refine .w (.move rfl) ?_
          refine .w (.as (v' := .bool false) (.bin rfl rfl BinR.neq_i) rfl) ?_
          refine .w (.move rfl) ?_
          refine .gt (g := 64) rfl rfl rfl ?_
          refine .w (.move rfl) ?_
          refine .gt (g := 64) rfl rfl rfl ?_
          refine .w (.move rfl) ?_
          refine .gt (g := 64) rfl rfl rfl ?_
          refine .w (.as (v' := .bool false) (.bin rfl rfl (BinR.neq_u64)) (congrArg Value.bool (by simp))) ?_
          refine .w (.pick0 rfl rfl rfl) ?_
          refine .w (.move rfl) ?_
          refine .gt (g := 69) rfl rfl rfl ?_
          refine .w (.move rfl) ?_
          refine .gt (g := 69) rfl rfl rfl ?_
          refine .w (.move rfl) ?_
          refine .gt (g := 69) rfl rfl rfl ?_
          refine .c (f10_spec x2 lv N2 L) body_10 ?_
          rw [decide_eq_true hN2]
          refine .gt (g := 69) rfl rfl rfl ?_
          refine .w (.as (v' := .bool false) (.not rfl) rfl) ?_
          refine .w (.pick0 rfl rfl rfl) ?_
          refine .w (.move rfl) ?_
          refine .gt (g := 75) rfl rfl rfl ?_
          refine .w (.move rfl) ?_
          refine .gt (g := 75) rfl rfl rfl ?_
          refine .w (.as (v' := .bool false) (.bin rfl rfl BinR.neq_i) rfl) ?_
          refine .w (.pick0 rfl rfl rfl) ?_
          refine .nil (.tn ?_)
          refine .cf rfl ?_
          refine .skip (.tn (.seq (.region ?_)))
          refine .w (.move rfl) ?_
          refine .w (.bin rfl rfl BinR.geq_i) ?_
          refine .join 6 86 (.bool (decide (0 ≤ left ∧ left < ((packB h (bytesP L)).length : Int)))) ?_ ?_
          · refine .w (.move rfl) ?_
            refine .gn (g := 80) rfl (fun hg69 hg69' => ?_) (fun hg69 hg69' => ?_)
            · refine .gt (g := 81) rfl rfl hg69 ?_
              refine .w (.move rfl) ?_
              refine .gt (g := 81) rfl rfl hg69 ?_
              refine .w (.move rfl) ?_
              refine .gt (g := 81) rfl rfl hg69 ?_
              refine .w (.len Try.underlying24 rfl) ?_
              refine .gt (g := 81) rfl rfl hg69 ?_
              refine .w (.bin rfl rfl BinR.lss_i) ?_
              refine .w (.pick1 rfl hg69 rfl) ?_
              refine .nil ?_
              refine .head () (by first | (refine ⟨by first | rfl | exact congrArg (fun b => some (Value.bool b)) (by first | exact (decide_eq_true (by omega)).symm | exact (decide_eq_false (by omega)).symm | exact decide_eq_decide.2 (by omega)) | (simp [*]; done) | (show some _ = some _; simp [*]; done), ?_⟩; repeat (first | exact trivial | refine ⟨rfl, ?_⟩))) (fun _ h => h) (Picks.perm (by repeat (first | exact Picks.nil _ | apply Picks.cons | exact Pull.here _ _ | apply Pull.there))) ?_
              trivial
            · refine .gf (g := 81) rfl rfl hg69 (by decide) ?_
              refine .gf (g := 81) rfl rfl hg69 (by decide) ?_
              refine .gf (g := 81) rfl rfl hg69 (by decide) ?_
              refine .gf (g := 81) rfl rfl hg69 (by decide) ?_
              refine .w (.pick0 rfl hg69 rfl) ?_
              refine .nil ?_
              refine .head () (by first | (refine ⟨by first | rfl | exact congrArg (fun b => some (Value.bool b)) (by first | exact (decide_eq_true (by omega)).symm | exact (decide_eq_false (by omega)).symm | exact decide_eq_decide.2 (by omega)) | (simp [*]; done) | (show some _ = some _; simp [*]; done), ?_⟩; repeat (first | exact trivial | refine ⟨rfl, ?_⟩))) (fun _ h => h) (Picks.perm (by repeat (first | exact Picks.nil _ | apply Picks.cons | exact Pull.here _ _ | apply Pull.there))) ?_
              trivial
          · refine .nil (.tn ?_)
            refine .cn rfl (fun hc4 => ?_) (fun hc4 => ?_)
            · obtain ⟨m, rfl⟩ : ∃ m : Nat, left = m := ⟨left.toNat, by omega⟩
              have hml : m < (packB h (bytesP L)).length := by omega
              refine .seq (.region ?_)
              refine .w (.move rfl) ?_
              refine .w (.move rfl) ?_
              refine .ct 0 m Try.underlying24 sz_5 (fun v90 => ?_)
              rw [rd_pre m (by omega)]
              refine .cs (f9_spec v90 ((packB h (bytesP L)).take m) (by rw [List.length_take]; omega)) body_9 ?_
              rintro _ _ _ ⟨x4, N4, hN4, rfl, rfl, rfl⟩
              refine .ap ?_
              refine .ap ?_
              rw [un_cut hp hml]
              refine .w (.move rfl) ?_
              refine .w (.extract rfl rfl) ?_
              refine .w (.extract rfl rfl) ?_
              refine .w (.extract rfl rfl) ?_
              refine .w (.assign rfl) ?_
              refine .w (.assign rfl) ?_
              refine .w (.assign rfl) ?_
              refine .nil (.tn (.seq (.region ?_)))
              refine .w (.move rfl) ?_
              refine .w (.as (v' := .bool false) (.bin rfl rfl BinR.neq_i) rfl) ?_
              refine .nil (.tn ?_)
              refine .cf rfl ?_
              refine .skip ?_
              refine .hd () ?_
              trivial
            · refine .skip ?_
              refine .hd () ?_
              trivial
        · refine .skip ?_
          refine .hd () ?_
          trivial
      · obtain ⟨⟩ := x
        refine .seq (.region ?_)
        refine .w (.move rfl) ?_
        refine .cs (f9_spec bv b (by omega)) body_9 ?_
        rintro _ _ _ ⟨x5, N5, hN5, rfl, rfl, rfl⟩
        refine .ap ?_
        refine .ap ?_
        refine .w (.move rfl) ?_
        refine .w (.extract rfl rfl) ?_
        refine .w (.extract rfl rfl) ?_
        refine .w (.extract rfl rfl) ?_
        refine .w (.assign rfl) ?_
        refine .w (.assign rfl) ?_
        refine .w (.assign rfl) ?_
        refine .nil (.tn (.seq (.seq (.region ?_))))
        refine .w (.move rfl) ?_
        refine .w (.bin rfl rfl BinR.neq_i) ?_
        refine .nil (.tn ?_)
        refine .cn rfl (fun hc6 => ?_) (fun hc6 => ?_)
        · refine .seq (.region ?_)
          refine .w (.move rfl) ?_
          refine .w (.move rfl) ?_
          refine .gt (g := 106) rfl rfl rfl ?_
          refine .w (.move rfl) ?_
          refine .gt (g := 106) rfl rfl rfl ?_
          refine .w (.as (v' := .bool true) (.bin rfl rfl (BinR.eql_u64 (b := 0#64))) (congrArg Value.bool (decide_eq_true (by rw [unH, if_neg hc6]; rfl)))) ?_
          refine .w (.pick1 rfl rfl rfl) ?_
          refine .w (.move rfl) ?_
          refine .gt (g := 110) rfl rfl rfl ?_
          refine .w (.move rfl) ?_
          refine .gt (g := 110) rfl rfl rfl ?_
          refine .w (.len Try.underlying23 rfl) ?_
          refine .gt (g := 110) rfl rfl rfl ?_
          refine .w (.as (v' := .bool true) (.bin rfl rfl BinR.eql_i) (congrArg Value.bool (decide_eq_true (by rw [← bytesP_len, hN5, unL, if_neg hc6]; rfl)))) ?_
          refine .w (.pick1 rfl rfl rfl) ?_
          refine .w (.assign rfl) ?_
          refine .nil (.tn (.ret (.then_ret ?_)))
          exact .dn [] [] (res1 rfl (.tmp rfl)) ⟨rfl, rfl, rfl⟩
        · refine .skip (.tn (.seq (.region ?_)))
          refine .w (.move rfl) ?_
          refine .w (.move rfl) ?_
          refine .cb (f8_spec (unH b) x5 N5) body_8 ?_ (h0 := by rintro _ _ _ ⟨_, _, h, _⟩; exact h)
          rintro _ _ ⟨x6, rfl, _, rfl⟩
          refine .ap ?_
          rw [hN5, (un_back hc6).1, show packO (unH b) (unL b) = b from (if_pos (un_back hc6).1).trans (un_back hc6).2]
          refine .w (.move rfl) ?_
          refine .w (.extract rfl rfl) ?_
          refine .w (.extract rfl rfl) ?_
          refine .w (.assign rfl) ?_
          refine .w (.assign rfl) ?_
          refine .nil (.tn (.seq (.region ?_)))
          refine .w (.move rfl) ?_
          refine .w (.move rfl) ?_
          refine .gt (g := 122) rfl rfl rfl ?_
          refine .w (.move rfl) ?_
          refine .gt (g := 122) rfl rfl rfl ?_
          refine .w (.as (v' := .bool true) (.bin rfl rfl BinR.eql_i) rfl) ?_
          refine .w (.pick1 rfl rfl rfl) ?_
          refine .w (.move rfl) ?_
          refine .gt (g := 126) rfl rfl rfl ?_
          refine .w (.move rfl) ?_
          refine .gt (g := 126) rfl rfl rfl ?_
          refine .w (.move rfl) ?_
          refine .gt (g := 126) rfl rfl rfl ?_
          refine .c (f11_spec x6 bv b b) body_11 ?_
          rw [decide_eq_true rfl]
          refine .w (.pick1 rfl rfl rfl) ?_
          refine .w (.assign rfl) ?_
          refine .nil (.tn (.ret ?_))
          exact .dn [] [] (res1 rfl (.tmp rfl)) ⟨rfl, rfl, rfl⟩
end Go.Proofs.Ytffgimlkmfjgmaa
