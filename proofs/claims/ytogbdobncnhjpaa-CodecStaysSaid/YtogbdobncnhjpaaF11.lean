/- Walk: CodecStays. -/
import Derived.Test.YtogbdobncnhjpaaF9
namespace Go.Proofs.Ytogbdobncnhjpaa
open Go.RowKit
set_option maxRecDepth 100000
set_option linter.unusedVariables false
set_option linter.unusedSimpArgs false

theorem f5_spec (u v : Value) (b : B8) (l : List Ask) :
    Spec Try.prog 5 #[u, v] [Res.rd u b.length 1 (b.map u8), Res.rd v l.length 3 (askCells l)] []
      (fun r Γ' H' => r = .bool true ∧ Γ' = [] ∧ H' = []) := by
  refine Spec.of_args Try.func5 rfl Try.ntmps5 (by simp) fun w => ?_
  refine JC.seq ?_
  refine JC.region ?_
  refine JO.v (Yv.assign rfl) (by decide) ?_
  refine JO.nil ?_
  refine JQ.then_normal ?_
  refine JC.seq ?_
  refine JC.region ?_
  refine JO.callB f8_spec body_8 rfl (by repeat (first | exact Picks.nil _ | apply Picks.cons | exact Pull.here _ _ | apply Pull.there)) (by repeat (first | exact Lends.nil _ | apply Lends.cons | exact Lend.same _ _ | exact Lend.row _ _ _ _ _ _ (by decide) | apply Lend.there)) (by rintro _ _ _ ⟨_, h, _⟩; exact h) (by decide) ?_
  rintro _ _ ⟨_, ⟨rfl, _, rfl⟩, hH⟩
  simp only [List.cons_append, List.nil_append] at hH; subst hH
  refine JO.v (Yv.assign rfl) (by decide) ?_
  refine JO.nil ?_
  refine JQ.then_normal ?_
  refine JC.seq ?_
  refine JC.region ?_
  refine JO.v (Yv.move rfl) (by decide) ?_
  refine JO.callB (f14_spec u b) body_14 rfl (by repeat (first | exact Picks.nil _ | apply Picks.cons | exact Pull.here _ _ | apply Pull.there)) (by repeat (first | exact Lends.nil _ | apply Lends.cons | exact Lend.same _ _ | exact Lend.row _ _ _ _ _ _ (by decide) | apply Lend.there)) (by rintro _ _ _ ⟨_, _, h, _⟩; exact h) (by decide) ?_
  rintro _ _ ⟨_, ⟨p, rfl, _, rfl⟩, hH⟩
  simp only [List.cons_append, List.nil_append] at hH; subst hH
  refine JO.v (Yv.assign rfl) (by decide) ?_
  refine JO.nil ?_
  refine JQ.then_normal ?_
  refine JC.seq ?_
  refine JC.seq ?_
  refine JC.region ?_
  refine JO.v (Yv.move rfl) (by decide) ?_
  refine JO.v (Yv.as (v' := .bool false) (Yv.bin rfl rfl (BinR.eql_p Try.underlying37)) rfl) (by decide) ?_
  refine JO.v (Yv.move rfl) (by decide) ?_
  refine JO.gt (g := 16) rfl rfl rfl ?_
  refine JO.v (Yv.move rfl) (by decide) ?_
  refine JO.gt (g := 16) rfl rfl rfl ?_
  first | refine JO.v (Yv.len_s Try.underlying25 rfl) (by decide) ?_ | refine JO.v (Yv.lenRd Try.underlying25 rfl (by repeat (first | exact Lend.same _ _ | exact Lend.row _ _ _ _ _ _ (by decide) | apply Lend.there))) (by decide) ?_
  refine JO.gt (g := 16) rfl rfl rfl ?_
  refine JO.v (Yv.bin rfl rfl BinR.gtr_i) (by decide) ?_
  refine JO.v (Yv.pick0 rfl rfl rfl) (by decide) ?_
  refine JO.v (Yv.move rfl) (by decide) ?_
  refine JO.join 4 25 (.bool (decide ((b.length : Int) > 2000 ∨ (l.length : Int) > 20))) ?_ ?_
  · skip
    refine JO.gsplit (g := 20) rfl (fun hg15 => ?_) (fun hg15 => ?_)
    · have hg15' := hg15
      try simp only [decide_eq_true_eq, decide_eq_false_iff_not, Bool.not_eq_true', Bool.not_eq_false', ne_eq, Decidable.not_not, Bool.not_eq_true, Bool.and_eq_true, Bool.or_eq_true, BitVec.reduceToNat] at hg15'
      refine JO.gf (g := 21) rfl rfl hg15 (by decide) ?_
      refine JO.gf (g := 21) rfl rfl hg15 (by decide) ?_
      refine JO.gf (g := 21) rfl rfl hg15 (by decide) ?_
      refine JO.v (Yv.pick1 rfl hg15 rfl) (by decide) ?_
      refine JO.nil ?_
      refine JQ.head () (by first | (refine ⟨by first | rfl | (simp [*]; done) | (show some _ = some _; simp [*]; done), ?_⟩; repeat (first | exact trivial | refine ⟨rfl, ?_⟩))) (Subs.sub (by repeat (first | exact Subs.nil _ | apply Subs.cons | exact List.Mem.head _ | refine List.Mem.tail _ ?_))) (Picks.perm (by repeat (first | exact Picks.nil _ | apply Picks.cons | exact Pull.here _ _ | apply Pull.there))) ?_
      trivial
    · have hg15' := hg15
      try simp only [decide_eq_true_eq, decide_eq_false_iff_not, Bool.not_eq_true', Bool.not_eq_false', ne_eq, Decidable.not_not, Bool.not_eq_true, Bool.and_eq_true, Bool.or_eq_true, BitVec.reduceToNat] at hg15'
      refine JO.gt (g := 21) rfl rfl hg15 ?_
      refine JO.v (Yv.move rfl) (by decide) ?_
      refine JO.gt (g := 21) rfl rfl hg15 ?_
      first | refine JO.v (Yv.len_s Try.underlying36 rfl) (by decide) ?_ | refine JO.v (Yv.lenRd Try.underlying36 rfl (by repeat (first | exact Lend.same _ _ | exact Lend.row _ _ _ _ _ _ (by decide) | apply Lend.there))) (by decide) ?_
      refine JO.gt (g := 21) rfl rfl hg15 ?_
      refine JO.v (Yv.bin rfl rfl BinR.gtr_i) (by decide) ?_
      refine JO.v (Yv.pick0 rfl hg15 rfl) (by decide) ?_
      refine JO.nil ?_
      refine JQ.head () (by first | (refine ⟨by first | rfl | (simp [*]; done) | (show some _ = some _; simp [*]; done), ?_⟩; repeat (first | exact trivial | refine ⟨rfl, ?_⟩))) (Subs.sub (by repeat (first | exact Subs.nil _ | apply Subs.cons | exact List.Mem.head _ | refine List.Mem.tail _ ?_))) (Picks.perm (by repeat (first | exact Picks.nil _ | apply Picks.cons | exact Pull.here _ _ | apply Pull.there))) ?_
      trivial
  · skip
    refine JO.nil ?_
    refine JQ.then_normal ?_
    refine JC.cond rfl (fun hc1 => ?_) (fun hc1 => ?_)
    · try simp only [decide_eq_true_eq, decide_eq_false_iff_not, Bool.not_eq_true', Bool.not_eq_false', ne_eq, Decidable.not_not, Bool.not_eq_true, Bool.and_eq_true, Bool.or_eq_true, BitVec.reduceToNat] at hc1
      refine JC.seq ?_
      refine JC.region ?_
      refine JO.v (Yv.move rfl) (by decide) ?_
      refine JO.v (Yv.move rfl) (by decide) ?_
      refine JO.gt (g := 27) rfl rfl rfl ?_
      refine JO.v (Yv.move rfl) (by decide) ?_
      refine JO.gt (g := 27) rfl rfl rfl ?_
      refine JO.v (Yv.as (v' := .bool true) (Yv.bin rfl rfl (BinR.neq_p Try.underlying37)) rfl) (by decide) ?_
      refine JO.v (Yv.pick1 rfl rfl rfl) (by decide) ?_
      refine JO.v (Yv.assign rfl) (by decide) ?_
      refine JO.nil ?_
      refine JQ.then_normal ?_
      refine JC.ret ?_
      refine JQ.then_ret ?_
      exact JQ.done (.inr rfl) (Γ' := []) (H' := []) (res1 rfl (RV.tmp rfl)) (Subs.sub (by repeat (first | exact Subs.nil _ | apply Subs.cons | exact List.Mem.head _ | refine List.Mem.tail _ ?_))) (Picks.perm (by repeat (first | exact Picks.nil _ | apply Picks.cons | exact Pull.here _ _ | apply Pull.there))) ⟨rfl, rfl, rfl⟩
    · try simp only [decide_eq_true_eq, decide_eq_false_iff_not, Bool.not_eq_true', Bool.not_eq_false', ne_eq, Decidable.not_not, Bool.not_eq_true, Bool.and_eq_true, Bool.or_eq_true, BitVec.reduceToNat] at hc1
      have hb2 : b.length ≤ 2000 ∧ l.length ≤ 20 := by omega
      refine JC.skip ?_
      refine JQ.then_normal ?_
      refine JC.seq ?_
      refine JC.region ?_
      refine JO.v (Yv.assign rfl) (by decide) ?_
      refine JO.nil ?_
      refine JQ.then_normal ?_
      refine JC.seq ?_
      refine JC.seq ?_
      refine JC.region ?_
      refine JO.v (Yv.assign rfl) (by decide) ?_
      refine JO.nil ?_
      refine JQ.then_normal ?_
      refine JC.block ?_
      refine JC.loop (ι := (Nat × Rdr) × Int × Value) (fun x => x.1.1 ≤ l.length ∧ x.1.2.b.length ≤ 2000 ∧ (x.2.1 ≠ 0 → x.1.2.e = x.2.1)) (fun x => [(1, v), (5, .bool true), (6, ptr p 0), (7, it x.2.1), (8, it (x.1.1 : Int))]) (fun x => [Res.rd v l.length 3 (askCells l), Res.rd x.2.2 x.1.2.b.length 1 (x.1.2.b.map u8)]) (fun x => [Res.cells p [x.2.2, it x.1.2.e] 64]) (fun x => l.length - x.1.1) ((0, ⟨b, 0⟩), 0, u) (by repeat (first | exact trivial | refine ⟨by first | rfl | (simp; done), ?_⟩)) (Subs.sub (by repeat (first | exact Subs.nil _ | apply Subs.cons | exact List.Mem.head _ | refine List.Mem.tail _ ?_))) (Picks.perm (by repeat (first | exact Picks.nil _ | apply Picks.cons | exact Pull.here _ _ | apply Pull.there))) ?_ (fun x hx => ?_)
      · exact ⟨Nat.zero_le _, hb2.1, fun h => absurd rfl h⟩
      obtain ⟨⟨k, r⟩, bad, v'⟩ := x
      obtain ⟨hk, hrb, hinv⟩ := hx
      dsimp only at hk hrb hinv ⊢
      refine JC.seq ?_
      refine JC.seq ?_
      refine JC.region ?_
      refine JO.v (Yv.move rfl) (by decide) ?_
      refine JO.v (Yv.move rfl) (by decide) ?_
      first | refine JO.v (Yv.len_s Try.underlying36 rfl) (by decide) ?_ | refine JO.v (Yv.lenRd Try.underlying36 rfl (by repeat (first | exact Lend.same _ _ | exact Lend.row _ _ _ _ _ _ (by decide) | apply Lend.there))) (by decide) ?_
      refine JO.v (Yv.bin rfl rfl BinR.lss_i) (by decide) ?_
      refine JO.nil ?_
      refine JQ.then_normal ?_
      refine JC.cond rfl (fun hc2 => ?_) (fun hc2 => ?_)
      · try simp only [decide_eq_true_eq, decide_eq_false_iff_not, Bool.not_eq_true', Bool.not_eq_false', ne_eq, Decidable.not_not, Bool.not_eq_true, Bool.and_eq_true, Bool.or_eq_true, BitVec.reduceToNat] at hc2
        refine JC.skip ?_
        refine JQ.then_normal ?_
        refine JC.seq ?_
        refine JC.block ?_
        refine JC.seq ?_
        refine JC.region ?_
        refine JO.v (Yv.assign rfl) (by decide) ?_
        refine JO.nil ?_
        refine JQ.then_normal ?_
        refine JC.cut (ι := Value) (fun x => True) (fun x => [(1, v), (5, .bool true), (6, ptr p 0), (7, it bad), (8, it (k : Int)), (9, .bool (noneB r (askAt l k)))]) (fun x => [Res.rd v l.length 3 (askCells l), Res.rd x (stepR r (askAt l k)).b.length 1 ((stepR r (askAt l k)).b.map u8)]) (fun x => [Res.cells p [x, it (stepR r (askAt l k)).e] 64]) ?_ (fun x hx => ?_)
        · skip
          refine JC.seq ?_
          refine JC.region ?_
          refine JO.v (Yv.move rfl) (by decide) ?_
          refine JO.v (Yv.move rfl) (by decide) ?_
          first | refine JO.v (Yv.indexRow Try.underlying36 sz_41 rfl rfl (by repeat (first | exact List.Mem.head _ | refine List.Mem.tail _ ?_)) (by first | exact ltb rfl | (simp; done) | (simp; omega) | omega | (simp [*]; omega))) (by decide) ?_ | refine JO.v (Yv.indexRd Try.underlying36 sz_41 rfl rfl (by repeat (first | exact Lend.same _ _ | exact Lend.row _ _ _ _ _ _ (by decide) | apply Lend.there)) (by decide) (by first | exact ltb rfl | (simp; done) | (simp; omega) | omega | (simp [*]; omega))) (by decide) ?_
          refine JO.v (Yv.fieldAddr fa_41_0 rfl) (by decide) ?_
          refine JO.v (Yv.load1 one_3 rfl (by first | exact Kn.own (by repeat (first | exact List.Mem.head _ | refine List.Mem.tail _ ?_)) (by first | first | exact ask_0 (by omega) | exact ask_1 (by omega) | exact ask_2 (by omega) | rfl | exact tab_get (by first | omega | (simp; omega)) | exact gm (d := 0) (by first | omega | (simp; omega))) | exact Kn.ro (by repeat (first | exact List.Mem.head _ | refine List.Mem.tail _ ?_)) (by first | first | exact ask_0 (by omega) | exact ask_1 (by omega) | exact ask_2 (by omega) | rfl | exact tab_get (by first | omega | (simp; omega)) | exact gm (d := 0) (by first | omega | (simp; omega))) | exact Kn.row (by repeat (first | exact List.Mem.head _ | refine List.Mem.tail _ ?_)) (by first | first | exact ask_0 (by omega) | exact ask_1 (by omega) | exact ask_2 (by omega) | rfl | exact tab_get (by first | omega | (simp; omega)) | exact gm (d := 0) (by first | omega | (simp; omega))) | exact Kn.rd (by repeat (first | exact Lend.same _ _ | exact Lend.row _ _ _ _ _ _ (by decide) | apply Lend.there)) (by first | first | exact ask_0 (by omega) | exact ask_1 (by omega) | exact ask_2 (by omega) | rfl | exact tab_get (by first | omega | (simp; omega)) | exact gm (d := 0) (by first | omega | (simp; omega))) | exact Kn.rd2 (by repeat (first | exact Lend.same _ _ | exact Lend.row _ _ _ _ _ _ (by decide) | apply Lend.there)) (by first | first | exact ask_0 (by omega) | exact ask_1 (by omega) | exact ask_2 (by omega) | rfl | exact tab_get (by first | omega | (simp; omega)) | exact gm (d := 0) (by first | omega | (simp; omega))))) (by decide) ?_
          refine JO.nil ?_
          refine JQ.then_normal ?_
          refine JC.block ?_
          refine JC.seq ?_
          refine JC.region ?_
          refine JO.v (Yv.bin rfl rfl BinR.eql_i) (by decide) ?_
          refine JO.v (Yv.assign rfl) (by decide) ?_
          refine JO.nil ?_
          refine JQ.then_normal ?_
          refine JC.cond rfl (fun hc3 => ?_) (fun hc3 => ?_)
          · try simp only [decide_eq_true_eq, decide_eq_false_iff_not, Bool.not_eq_true', Bool.not_eq_false', ne_eq, Decidable.not_not, Bool.not_eq_true, Bool.and_eq_true, Bool.or_eq_true, BitVec.reduceToNat] at hc3
            have hS : stepR r (askAt l k) = r.smA (askAt l k).lim := by rw [stepR, if_pos hc3]
            have hN : noneB r (askAt l k) = decide (r.sm (askAt l k).lim = 0#64) := by rw [noneB, if_pos hc3]
            refine JC.region ?_
            refine JO.v (Yv.move rfl) (by decide) ?_
            refine JO.v (Yv.move rfl) (by decide) ?_
            refine JO.v (Yv.move rfl) (by decide) ?_
            first | refine JO.v (Yv.indexRow Try.underlying36 sz_41 rfl rfl (by repeat (first | exact List.Mem.head _ | refine List.Mem.tail _ ?_)) (by first | exact ltb rfl | (simp; done) | (simp; omega) | omega | (simp [*]; omega))) (by decide) ?_ | refine JO.v (Yv.indexRd Try.underlying36 sz_41 rfl rfl (by repeat (first | exact Lend.same _ _ | exact Lend.row _ _ _ _ _ _ (by decide) | apply Lend.there)) (by decide) (by first | exact ltb rfl | (simp; done) | (simp; omega) | omega | (simp [*]; omega))) (by decide) ?_
            refine JO.v (Yv.fieldAddr fa_41_2 rfl) (by decide) ?_
            refine JO.v (Yv.load1 one_22 rfl (by first | exact Kn.own (by repeat (first | exact List.Mem.head _ | refine List.Mem.tail _ ?_)) (by first | first | exact ask_0 (by omega) | exact ask_1 (by omega) | exact ask_2 (by omega) | rfl | exact tab_get (by first | omega | (simp; omega)) | exact gm (d := 0) (by first | omega | (simp; omega))) | exact Kn.ro (by repeat (first | exact List.Mem.head _ | refine List.Mem.tail _ ?_)) (by first | first | exact ask_0 (by omega) | exact ask_1 (by omega) | exact ask_2 (by omega) | rfl | exact tab_get (by first | omega | (simp; omega)) | exact gm (d := 0) (by first | omega | (simp; omega))) | exact Kn.row (by repeat (first | exact List.Mem.head _ | refine List.Mem.tail _ ?_)) (by first | first | exact ask_0 (by omega) | exact ask_1 (by omega) | exact ask_2 (by omega) | rfl | exact tab_get (by first | omega | (simp; omega)) | exact gm (d := 0) (by first | omega | (simp; omega))) | exact Kn.rd (by repeat (first | exact Lend.same _ _ | exact Lend.row _ _ _ _ _ _ (by decide) | apply Lend.there)) (by first | first | exact ask_0 (by omega) | exact ask_1 (by omega) | exact ask_2 (by omega) | rfl | exact tab_get (by first | omega | (simp; omega)) | exact gm (d := 0) (by first | omega | (simp; omega))) | exact Kn.rd2 (by repeat (first | exact Lend.same _ _ | exact Lend.row _ _ _ _ _ _ (by decide) | apply Lend.there)) (by first | first | exact ask_0 (by omega) | exact ask_1 (by omega) | exact ask_2 (by omega) | rfl | exact tab_get (by first | omega | (simp; omega)) | exact gm (d := 0) (by first | omega | (simp; omega))))) (by decide) ?_
            refine JO.call (f15_spec p v' r (askAt l k).lim) body_15 rfl (by repeat (first | exact Picks.nil _ | apply Picks.cons | exact Pull.here _ _ | apply Pull.there)) (by repeat (first | exact Subs.nil _ | apply Subs.cons | exact List.Mem.head _ | refine List.Mem.tail _ ?_)) (by decide) ?_
            rintro _ _ _ ⟨_, _, ⟨v2, rfl, rfl, rfl⟩, hΓ, hH⟩
            simp only [List.cons_append, List.nil_append] at hΓ hH; subst hΓ hH
            refine JO.v (Yv.bin rfl rfl (BinR.eql_u64 (b := 0#64))) (by decide) ?_
            refine JO.v (Yv.assign rfl) (by decide) ?_
            refine JO.nil ?_
            refine JQ.block_normal ?_
            rw [hS, hN]
            refine JQ.head _ (by repeat (first | exact trivial | refine ⟨by first | rfl | (simp; done), ?_⟩)) (Subs.sub (by repeat (first | exact Subs.nil _ | apply Subs.cons | exact List.Mem.head _ | refine List.Mem.tail _ ?_))) (Picks.perm (by repeat (first | exact Picks.nil _ | apply Picks.cons | exact Pull.here _ _ | apply Pull.there))) ?_
            trivial
          · try simp only [decide_eq_true_eq, decide_eq_false_iff_not, Bool.not_eq_true', Bool.not_eq_false', ne_eq, Decidable.not_not, Bool.not_eq_true, Bool.and_eq_true, Bool.or_eq_true, BitVec.reduceToNat] at hc3
            refine JC.seq ?_
            refine JC.region ?_
            refine JO.v (Yv.bin rfl rfl BinR.eql_i) (by decide) ?_
            refine JO.v (Yv.assign rfl) (by decide) ?_
            refine JO.nil ?_
            refine JQ.then_normal ?_
            refine JC.cond rfl (fun hc4 => ?_) (fun hc4 => ?_)
            · try simp only [decide_eq_true_eq, decide_eq_false_iff_not, Bool.not_eq_true', Bool.not_eq_false', ne_eq, Decidable.not_not, Bool.not_eq_true, Bool.and_eq_true, Bool.or_eq_true, BitVec.reduceToNat] at hc4
              have hS : stepR r (askAt l k) = r.aft 32 := by rw [stepR, if_neg hc3, if_pos hc4]
              have hN : noneB r (askAt l k) = decide (ofBytes (r.out 32) = [0, 0, 0, 0]) := by rw [noneB, if_neg hc3, if_pos hc4]
              refine JC.region ?_
              refine JO.v (Yv.move rfl) (by decide) ?_
              refine JO.call (f16_spec p v' r) body_16 rfl (by repeat (first | exact Picks.nil _ | apply Picks.cons | exact Pull.here _ _ | apply Pull.there)) (by repeat (first | exact Subs.nil _ | apply Subs.cons | exact List.Mem.head _ | refine List.Mem.tail _ ?_)) (by decide) ?_
              rintro _ _ _ ⟨_, _, ⟨v2, rfl, rfl, rfl⟩, hΓ, hH⟩
              simp only [List.cons_append, List.nil_append] at hΓ hH; subst hΓ hH
              refine JO.v (Yv.as (v' := natV [0, 0, 0, 0]) (Yv.build bld_44 rfl rfl) rfl) (by decide) ?_
              refine JO.v (Yv.bin rfl rfl (eql44 (ofBytes_length _) rfl)) (by decide) ?_
              refine JO.v (Yv.assign rfl) (by decide) ?_
              refine JO.nil ?_
              refine JQ.block_normal ?_
              rw [hS, hN]
              refine JQ.head _ (by repeat (first | exact trivial | refine ⟨by first | rfl | (simp; done), ?_⟩)) (Subs.sub (by repeat (first | exact Subs.nil _ | apply Subs.cons | exact List.Mem.head _ | refine List.Mem.tail _ ?_))) (Picks.perm (by repeat (first | exact Picks.nil _ | apply Picks.cons | exact Pull.here _ _ | apply Pull.there))) ?_
              trivial
            · try simp only [decide_eq_true_eq, decide_eq_false_iff_not, Bool.not_eq_true', Bool.not_eq_false', ne_eq, Decidable.not_not, Bool.not_eq_true, Bool.and_eq_true, Bool.or_eq_true, BitVec.reduceToNat] at hc4
              refine JC.seq ?_
              refine JC.region ?_
              refine JO.v (Yv.bin rfl rfl BinR.eql_i) (by decide) ?_
              refine JO.v (Yv.assign rfl) (by decide) ?_
              refine JO.nil ?_
              refine JQ.then_normal ?_
              refine JC.cond rfl (fun hc5 => ?_) (fun hc5 => ?_)
              · try simp only [decide_eq_true_eq, decide_eq_false_iff_not, Bool.not_eq_true', Bool.not_eq_false', ne_eq, Decidable.not_not, Bool.not_eq_true, Bool.and_eq_true, Bool.or_eq_true, BitVec.reduceToNat] at hc5
                have hS : stepR r (askAt l k) = r.byA (askAt l k).most := by rw [stepR, if_neg hc3, if_neg hc4, if_pos hc5]
                have hN : noneB r (askAt l k) = decide (((r.byO (askAt l k).most).length : Int) = 0) := by rw [noneB, if_neg hc3, if_neg hc4, if_pos hc5]
                refine JC.region ?_
                refine JO.v (Yv.move rfl) (by decide) ?_
                refine JO.v (Yv.move rfl) (by decide) ?_
                refine JO.v (Yv.move rfl) (by decide) ?_
                first | refine JO.v (Yv.indexRow Try.underlying36 sz_41 rfl rfl (by repeat (first | exact List.Mem.head _ | refine List.Mem.tail _ ?_)) (by first | exact ltb rfl | (simp; done) | (simp; omega) | omega | (simp [*]; omega))) (by decide) ?_ | refine JO.v (Yv.indexRd Try.underlying36 sz_41 rfl rfl (by repeat (first | exact Lend.same _ _ | exact Lend.row _ _ _ _ _ _ (by decide) | apply Lend.there)) (by decide) (by first | exact ltb rfl | (simp; done) | (simp; omega) | omega | (simp [*]; omega))) (by decide) ?_
                refine JO.v (Yv.fieldAddr fa_41_1 rfl) (by decide) ?_
                refine JO.v (Yv.load1 one_3 rfl (by first | exact Kn.own (by repeat (first | exact List.Mem.head _ | refine List.Mem.tail _ ?_)) (by first | first | exact ask_0 (by omega) | exact ask_1 (by omega) | exact ask_2 (by omega) | rfl | exact tab_get (by first | omega | (simp; omega)) | exact gm (d := 0) (by first | omega | (simp; omega))) | exact Kn.ro (by repeat (first | exact List.Mem.head _ | refine List.Mem.tail _ ?_)) (by first | first | exact ask_0 (by omega) | exact ask_1 (by omega) | exact ask_2 (by omega) | rfl | exact tab_get (by first | omega | (simp; omega)) | exact gm (d := 0) (by first | omega | (simp; omega))) | exact Kn.row (by repeat (first | exact List.Mem.head _ | refine List.Mem.tail _ ?_)) (by first | first | exact ask_0 (by omega) | exact ask_1 (by omega) | exact ask_2 (by omega) | rfl | exact tab_get (by first | omega | (simp; omega)) | exact gm (d := 0) (by first | omega | (simp; omega))) | exact Kn.rd (by repeat (first | exact Lend.same _ _ | exact Lend.row _ _ _ _ _ _ (by decide) | apply Lend.there)) (by first | first | exact ask_0 (by omega) | exact ask_1 (by omega) | exact ask_2 (by omega) | rfl | exact tab_get (by first | omega | (simp; omega)) | exact gm (d := 0) (by first | omega | (simp; omega))) | exact Kn.rd2 (by repeat (first | exact Lend.same _ _ | exact Lend.row _ _ _ _ _ _ (by decide) | apply Lend.there)) (by first | first | exact ask_0 (by omega) | exact ask_1 (by omega) | exact ask_2 (by omega) | rfl | exact tab_get (by first | omega | (simp; omega)) | exact gm (d := 0) (by first | omega | (simp; omega))))) (by decide) ?_
                refine JO.call (f17_spec p v' r (askAt l k).most (by omega)) body_17 rfl (by repeat (first | exact Picks.nil _ | apply Picks.cons | exact Pull.here _ _ | apply Pull.there)) (by repeat (first | exact Subs.nil _ | apply Subs.cons | exact List.Mem.head _ | refine List.Mem.tail _ ?_)) (by decide) ?_
                rintro v66 _ _ ⟨_, _, ⟨v2, _, rfl, rfl⟩, hΓ, hH⟩
                simp only [List.cons_append, List.nil_append] at hΓ hH; subst hΓ hH
                first | refine JO.v (Yv.len_s Try.underlying25 rfl) (by decide) ?_ | refine JO.v (Yv.lenRd Try.underlying25 rfl (by repeat (first | exact Lend.same _ _ | exact Lend.row _ _ _ _ _ _ (by decide) | apply Lend.there))) (by decide) ?_
                refine JO.v (Yv.bin rfl rfl BinR.eql_i) (by decide) ?_
                refine JO.v (Yv.assign rfl) (by decide) ?_
                refine JO.nil ?_
                refine JQ.block_normal ?_
                rw [hS, hN]
                refine JQ.head _ (by repeat (first | exact trivial | refine ⟨by first | rfl | (simp; done), ?_⟩)) (Subs.sub (by repeat (first | exact Subs.nil _ | apply Subs.cons | exact List.Mem.head _ | refine List.Mem.tail _ ?_))) (Picks.perm (by repeat (first | exact Picks.nil _ | apply Picks.cons | exact Pull.here _ _ | apply Pull.there))) ?_
                trivial
              · try simp only [decide_eq_true_eq, decide_eq_false_iff_not, Bool.not_eq_true', Bool.not_eq_false', ne_eq, Decidable.not_not, Bool.not_eq_true, Bool.and_eq_true, Bool.or_eq_true, BitVec.reduceToNat] at hc5
                refine JC.seq ?_
                refine JC.region ?_
                refine JO.v (Yv.bin rfl rfl BinR.eql_i) (by decide) ?_
                refine JO.v (Yv.assign rfl) (by decide) ?_
                refine JO.nil ?_
                refine JQ.then_normal ?_
                refine JC.cond rfl (fun hc6 => ?_) (fun hc6 => ?_)
                · try simp only [decide_eq_true_eq, decide_eq_false_iff_not, Bool.not_eq_true', Bool.not_eq_false', ne_eq, Decidable.not_not, Bool.not_eq_true, Bool.and_eq_true, Bool.or_eq_true, BitVec.reduceToNat] at hc6
                  have hS : stepR r (askAt l k) = r.naA (askAt l k).most := by rw [stepR, if_neg hc3, if_neg hc4, if_neg hc5, if_pos hc6]
                  have hN : noneB r (askAt l k) = decide (((r.naO (askAt l k).most).length : Int) = 0) := by rw [noneB, if_neg hc3, if_neg hc4, if_neg hc5, if_pos hc6]
                  refine JC.region ?_
                  refine JO.v (Yv.move rfl) (by decide) ?_
                  refine JO.v (Yv.move rfl) (by decide) ?_
                  refine JO.v (Yv.move rfl) (by decide) ?_
                  first | refine JO.v (Yv.indexRow Try.underlying36 sz_41 rfl rfl (by repeat (first | exact List.Mem.head _ | refine List.Mem.tail _ ?_)) (by first | exact ltb rfl | (simp; done) | (simp; omega) | omega | (simp [*]; omega))) (by decide) ?_ | refine JO.v (Yv.indexRd Try.underlying36 sz_41 rfl rfl (by repeat (first | exact Lend.same _ _ | exact Lend.row _ _ _ _ _ _ (by decide) | apply Lend.there)) (by decide) (by first | exact ltb rfl | (simp; done) | (simp; omega) | omega | (simp [*]; omega))) (by decide) ?_
                  refine JO.v (Yv.fieldAddr fa_41_1 rfl) (by decide) ?_
                  refine JO.v (Yv.load1 one_3 rfl (by first | exact Kn.own (by repeat (first | exact List.Mem.head _ | refine List.Mem.tail _ ?_)) (by first | first | exact ask_0 (by omega) | exact ask_1 (by omega) | exact ask_2 (by omega) | rfl | exact tab_get (by first | omega | (simp; omega)) | exact gm (d := 0) (by first | omega | (simp; omega))) | exact Kn.ro (by repeat (first | exact List.Mem.head _ | refine List.Mem.tail _ ?_)) (by first | first | exact ask_0 (by omega) | exact ask_1 (by omega) | exact ask_2 (by omega) | rfl | exact tab_get (by first | omega | (simp; omega)) | exact gm (d := 0) (by first | omega | (simp; omega))) | exact Kn.row (by repeat (first | exact List.Mem.head _ | refine List.Mem.tail _ ?_)) (by first | first | exact ask_0 (by omega) | exact ask_1 (by omega) | exact ask_2 (by omega) | rfl | exact tab_get (by first | omega | (simp; omega)) | exact gm (d := 0) (by first | omega | (simp; omega))) | exact Kn.rd (by repeat (first | exact Lend.same _ _ | exact Lend.row _ _ _ _ _ _ (by decide) | apply Lend.there)) (by first | first | exact ask_0 (by omega) | exact ask_1 (by omega) | exact ask_2 (by omega) | rfl | exact tab_get (by first | omega | (simp; omega)) | exact gm (d := 0) (by first | omega | (simp; omega))) | exact Kn.rd2 (by repeat (first | exact Lend.same _ _ | exact Lend.row _ _ _ _ _ _ (by decide) | apply Lend.there)) (by first | first | exact ask_0 (by omega) | exact ask_1 (by omega) | exact ask_2 (by omega) | rfl | exact tab_get (by first | omega | (simp; omega)) | exact gm (d := 0) (by first | omega | (simp; omega))))) (by decide) ?_
                  refine JO.call (f18_spec p v' r (askAt l k).most (by omega)) body_18 rfl (by repeat (first | exact Picks.nil _ | apply Picks.cons | exact Pull.here _ _ | apply Pull.there)) (by repeat (first | exact Subs.nil _ | apply Subs.cons | exact List.Mem.head _ | refine List.Mem.tail _ ?_)) (by decide) ?_
                  rintro v77 _ _ ⟨_, _, ⟨v2, _, rfl, rfl⟩, hΓ, hH⟩
                  simp only [List.cons_append, List.nil_append] at hΓ hH; subst hΓ hH
                  first | refine JO.v (Yv.len_s Try.underlying47 rfl) (by decide) ?_ | refine JO.v (Yv.lenRd Try.underlying47 rfl (by repeat (first | exact Lend.same _ _ | exact Lend.row _ _ _ _ _ _ (by decide) | apply Lend.there))) (by decide) ?_
                  refine JO.v (Yv.bin rfl rfl BinR.eql_i) (by decide) ?_
                  refine JO.v (Yv.assign rfl) (by decide) ?_
                  refine JO.nil ?_
                  refine JQ.block_normal ?_
                  rw [hS, hN]
                  refine JQ.head _ (by repeat (first | exact trivial | refine ⟨by first | rfl | (simp; done), ?_⟩)) (Subs.sub (by repeat (first | exact Subs.nil _ | apply Subs.cons | exact List.Mem.head _ | refine List.Mem.tail _ ?_))) (Picks.perm (by repeat (first | exact Picks.nil _ | apply Picks.cons | exact Pull.here _ _ | apply Pull.there))) ?_
                  trivial
                · try simp only [decide_eq_true_eq, decide_eq_false_iff_not, Bool.not_eq_true', Bool.not_eq_false', ne_eq, Decidable.not_not, Bool.not_eq_true, Bool.and_eq_true, Bool.or_eq_true, BitVec.reduceToNat] at hc6
                  have hS : stepR r (askAt l k) = r := by rw [stepR, if_neg hc3, if_neg hc4, if_neg hc5, if_neg hc6]
                  have hN : noneB r (askAt l k) = true := by rw [noneB, if_neg hc3, if_neg hc4, if_neg hc5, if_neg hc6]
                  refine JC.skip ?_
                  refine JQ.block_normal ?_
                  rw [hS, hN]
                  refine JQ.head _ (by repeat (first | exact trivial | refine ⟨by first | rfl | (simp; done), ?_⟩)) (Subs.sub (by repeat (first | exact Subs.nil _ | apply Subs.cons | exact List.Mem.head _ | refine List.Mem.tail _ ?_))) (Picks.perm (by repeat (first | exact Picks.nil _ | apply Picks.cons | exact Pull.here _ _ | apply Pull.there))) ?_
                  trivial
        · skip
          refine JC.seq ?_
          refine JC.region ?_
          refine JO.v (Yv.move rfl) (by decide) ?_
          refine JO.call (f19_spec p x (stepR r (askAt l k))) body_19 rfl (by repeat (first | exact Picks.nil _ | apply Picks.cons | exact Pull.here _ _ | apply Pull.there)) (by repeat (first | exact Subs.nil _ | apply Subs.cons | exact List.Mem.head _ | refine List.Mem.tail _ ?_)) (by decide) ?_
          rintro _ _ _ ⟨_, _, ⟨rfl, rfl, rfl⟩, hΓ, hH⟩
          simp only [List.cons_append, List.nil_append] at hΓ hH; subst hΓ hH
          refine JO.v (Yv.assign rfl) (by decide) ?_
          refine JO.nil ?_
          refine JQ.then_normal ?_
          refine JC.seq ?_
          refine JC.seq ?_
          refine JC.region ?_
          refine JO.v (Yv.move rfl) (by decide) ?_
          refine JO.v (Yv.bin rfl rfl BinR.neq_i) (by decide) ?_
          refine JO.v (Yv.move rfl) (by decide) ?_
          refine JO.join 8 92 (.bool false) ?_ ?_
          · skip
            refine JO.gsplit (g := 83) rfl (fun hg85 => ?_) (fun hg85 => ?_)
            · have hg85' := hg85
              try simp only [decide_eq_true_eq, decide_eq_false_iff_not, Bool.not_eq_true', Bool.not_eq_false', ne_eq, Decidable.not_not, Bool.not_eq_true, Bool.and_eq_true, Bool.or_eq_true, BitVec.reduceToNat] at hg85'
              obtain ⟨hfb, hnb, _⟩ := stays hinv hg85' (askAt l k)
              refine JO.gt (g := 84) rfl rfl hg85 ?_
              refine JO.v (Yv.move rfl) (by decide) ?_
              refine JO.gt (g := 84) rfl rfl hg85 ?_
              refine JO.v (Yv.move rfl) (by decide) ?_
              refine JO.gt (g := 84) rfl rfl hg85 ?_
              refine JO.v (Yv.as (v' := .bool false) (Yv.bin rfl rfl BinR.neq_i) (congrArg Value.bool (by simp [hfb]))) (by decide) ?_
              refine JO.gt (g := 84) rfl rfl hg85 ?_
              refine JO.v (Yv.move rfl) (by decide) ?_
              refine JO.gt (g := 88) rfl rfl rfl ?_
              refine JO.v (Yv.move rfl) (by decide) ?_
              refine JO.gt (g := 88) rfl rfl rfl ?_
              refine JO.v (Yv.as (v' := .bool false) (Yv.not rfl) (congrArg Value.bool (by simp [hnb]))) (by decide) ?_
              refine JO.gt (g := 84) rfl rfl hg85 ?_
              refine JO.v (Yv.pick0 rfl rfl rfl) (by decide) ?_
              refine JO.v (Yv.pick1 rfl hg85 rfl) (by decide) ?_
              refine JO.nil ?_
              refine JQ.head () (by first | (refine ⟨by first | rfl | (simp [*]; done) | (show some _ = some _; simp [*]; done), ?_⟩; repeat (first | exact trivial | refine ⟨rfl, ?_⟩))) (Subs.sub (by repeat (first | exact Subs.nil _ | apply Subs.cons | exact List.Mem.head _ | refine List.Mem.tail _ ?_))) (Picks.perm (by repeat (first | exact Picks.nil _ | apply Picks.cons | exact Pull.here _ _ | apply Pull.there))) ?_
              trivial
            · have hg85' := hg85
              try simp only [decide_eq_true_eq, decide_eq_false_iff_not, Bool.not_eq_true', Bool.not_eq_false', ne_eq, Decidable.not_not, Bool.not_eq_true, Bool.and_eq_true, Bool.or_eq_true, BitVec.reduceToNat] at hg85'
              refine JO.gf (g := 84) rfl rfl hg85 (by decide) ?_
              refine JO.gf (g := 84) rfl rfl hg85 (by decide) ?_
              refine JO.gf (g := 84) rfl rfl hg85 (by decide) ?_
              refine JO.gf (g := 84) rfl rfl hg85 (by decide) ?_
              refine JO.gu (g := 88) rfl rfl (by decide) ?_
              refine JO.gu (g := 88) rfl rfl (by decide) ?_
              refine JO.gf (g := 84) rfl rfl hg85 (by decide) ?_
              refine JO.v (Yv.pick0 rfl hg85 rfl) (by decide) ?_
              refine JO.nil ?_
              refine JQ.head () (by first | (refine ⟨by first | rfl | (simp [*]; done) | (show some _ = some _; simp [*]; done), ?_⟩; repeat (first | exact trivial | refine ⟨rfl, ?_⟩))) (Subs.sub (by repeat (first | exact Subs.nil _ | apply Subs.cons | exact List.Mem.head _ | refine List.Mem.tail _ ?_))) (Picks.perm (by repeat (first | exact Picks.nil _ | apply Picks.cons | exact Pull.here _ _ | apply Pull.there))) ?_
              trivial
          · skip
            refine JO.nil ?_
            refine JQ.then_normal ?_
            refine JC.cond rfl (fun hc7 => ?_) (fun hc7 => ?_)
            · try simp only [decide_eq_true_eq, decide_eq_false_iff_not, Bool.not_eq_true', Bool.not_eq_false', ne_eq, Decidable.not_not, Bool.not_eq_true, Bool.and_eq_true, Bool.or_eq_true, BitVec.reduceToNat] at hc7
              exact absurd hc7 (by decide)
            · try simp only [decide_eq_true_eq, decide_eq_false_iff_not, Bool.not_eq_true', Bool.not_eq_false', ne_eq, Decidable.not_not, Bool.not_eq_true, Bool.and_eq_true, Bool.or_eq_true, BitVec.reduceToNat] at hc7
              refine JC.skip ?_
              refine JQ.then_normal ?_
              refine JC.seq ?_
              refine JC.region ?_
              refine JO.v (Yv.move rfl) (by decide) ?_
              refine JO.v (Yv.bin rfl rfl BinR.neq_i) (by decide) ?_
              refine JO.nil ?_
              refine JQ.then_normal ?_
              refine JC.cond rfl (fun hc8 => ?_) (fun hc8 => ?_)
              · try simp only [decide_eq_true_eq, decide_eq_false_iff_not, Bool.not_eq_true', Bool.not_eq_false', ne_eq, Decidable.not_not, Bool.not_eq_true, Bool.and_eq_true, Bool.or_eq_true, BitVec.reduceToNat] at hc8
                refine JC.region ?_
                refine JO.v (Yv.move rfl) (by decide) ?_
                refine JO.v (Yv.assign rfl) (by decide) ?_
                refine JO.nil ?_
                refine JQ.block_normal ?_
                refine JQ.then_normal ?_
                refine JC.region ?_
                refine JO.v (Yv.move rfl) (by decide) ?_
                refine JO.v (Yv.bin rfl rfl (BinR.add_i (by first | (constructor <;> omega) | (constructor <;> simp <;> omega)))) (by decide) ?_
                refine JO.v (Yv.assign rfl) (by decide) ?_
                refine JO.nil ?_
                refine JQ.head ((k + 1, stepR r (askAt l k)), _, _) (by repeat (first | exact trivial | refine ⟨by first | rfl | (simp; done), ?_⟩)) (Subs.sub (by repeat (first | exact Subs.nil _ | apply Subs.cons | exact List.Mem.head _ | refine List.Mem.tail _ ?_))) (Picks.perm (by repeat (first | exact Picks.nil _ | apply Picks.cons | exact Pull.here _ _ | apply Pull.there))) ?_
                refine ⟨⟨by dsimp only; omega, by dsimp only; have := stepR_b r (askAt l k); omega, ?_⟩, by dsimp only; omega⟩
                first | exact fun _ => Rdr.fin_ne hc8 | exact fun h => (stays hinv h (askAt l k)).2.2
              · try simp only [decide_eq_true_eq, decide_eq_false_iff_not, Bool.not_eq_true', Bool.not_eq_false', ne_eq, Decidable.not_not, Bool.not_eq_true, Bool.and_eq_true, Bool.or_eq_true, BitVec.reduceToNat] at hc8
                refine JC.skip ?_
                refine JQ.block_normal ?_
                refine JQ.then_normal ?_
                refine JC.region ?_
                refine JO.v (Yv.move rfl) (by decide) ?_
                refine JO.v (Yv.bin rfl rfl (BinR.add_i (by first | (constructor <;> omega) | (constructor <;> simp <;> omega)))) (by decide) ?_
                refine JO.v (Yv.assign rfl) (by decide) ?_
                refine JO.nil ?_
                refine JQ.head ((k + 1, stepR r (askAt l k)), _, _) (by repeat (first | exact trivial | refine ⟨by first | rfl | (simp; done), ?_⟩)) (Subs.sub (by repeat (first | exact Subs.nil _ | apply Subs.cons | exact List.Mem.head _ | refine List.Mem.tail _ ?_))) (Picks.perm (by repeat (first | exact Picks.nil _ | apply Picks.cons | exact Pull.here _ _ | apply Pull.there))) ?_
                refine ⟨⟨by dsimp only; omega, by dsimp only; have := stepR_b r (askAt l k); omega, ?_⟩, by dsimp only; omega⟩
                first | exact fun _ => Rdr.fin_ne hc8 | exact fun h => (stays hinv h (askAt l k)).2.2
      · try simp only [decide_eq_true_eq, decide_eq_false_iff_not, Bool.not_eq_true', Bool.not_eq_false', ne_eq, Decidable.not_not, Bool.not_eq_true, Bool.and_eq_true, Bool.or_eq_true, BitVec.reduceToNat] at hc2
        refine JC.exit ?_
        refine JQ.then_exit ?_
        refine JQ.then_exit ?_
        refine JQ.block_exit ?_
        refine JQ.then_normal ?_
        refine JC.seq ?_
        refine JC.region ?_
        refine JO.v (Yv.move rfl) (by decide) ?_
        refine JO.v (Yv.assign rfl) (by decide) ?_
        refine JO.nil ?_
        refine JQ.then_normal ?_
        refine JC.ret ?_
        exact JQ.done (.inr rfl) (Γ' := []) (H' := []) (res1 rfl (RV.tmp rfl)) (Subs.sub (by repeat (first | exact Subs.nil _ | apply Subs.cons | exact List.Mem.head _ | refine List.Mem.tail _ ?_))) (Picks.perm (by repeat (first | exact Picks.nil _ | apply Picks.cons | exact Pull.here _ _ | apply Pull.there))) ⟨rfl, rfl, rfl⟩
end Go.Proofs.Ytogbdobncnhjpaa
