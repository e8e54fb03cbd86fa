/- Walk: CodecAgain. -/
import Derived.Test.YtogbdobncnhjpaaF9
import Derived.Test.YtogbdobncnhjpaaD8
namespace Go.Proofs.Ytogbdobncnhjpaa
open Go.RowKit
set_option maxRecDepth 100000
set_option linter.unusedVariables false
set_option linter.unusedSimpArgs false

theorem f7_spec (u v : Value) (b : B8) (l : List Ask) :
    Spec Try.prog 7 #[u, v] [Res.rd u b.length 1 (b.map u8), Res.rd v l.length 3 (askCells l)] []
      (fun r Γ' H' => r = .bool true ∧ Γ' = [] ∧ H' = []) := by
  refine Spec.of_args Try.func7 rfl Try.ntmps7 (by simp) fun w => ?_
  refine JC.seq ?_
  refine JC.region ?_
  refine JO.v (Yv.assign rfl) (by decide) ?_
  refine JO.nil ?_
  refine JQ.then_normal ?_
  refine JC.seq ?_
  refine JC.region ?_
  refine JO.callB f8_spec body_8 rfl (by repeat (first | exact Picks.nil _ | apply Picks.cons | exact Pull.here _ _ | apply Pull.there)) (by repeat (first | exact Lends.nil _ | apply Lends.cons | exact Lend.same _ _ | exact Lend.row _ _ _ _ _ _ (by decide) | apply Lend.there)) (by rintro _ _ _ ⟨_, h, _⟩; exact h) (by decide) ?_
  rintro _ _ ⟨_, ⟨rfl, _, rfl⟩, hH⟩
  simp only [List.cons_append, List.nil_append] at hH; subst hH
  refine JO.v (Yv.assign rfl) (by decide) ?_
  refine JO.nil ?_
  refine JQ.then_normal ?_
  refine JC.seq ?_
  refine JC.seq ?_
  refine JC.region ?_
  refine JO.v (Yv.move rfl) (by decide) ?_
  first | refine JO.v (Yv.len_s Try.underlying25 rfl) (by decide) ?_ | refine JO.v (Yv.lenRd Try.underlying25 rfl (by repeat (first | exact Lend.same _ _ | exact Lend.row _ _ _ _ _ _ (by decide) | apply Lend.there))) (by decide) ?_
  refine JO.v (Yv.bin rfl rfl BinR.gtr_i) (by decide) ?_
  refine JO.v (Yv.move rfl) (by decide) ?_
  refine JO.join 4 19 (.bool (decide ((b.length : Int) > 2000 ∨ (l.length : Int) > 20))) ?_ ?_
  · skip
    refine JO.gsplit (g := 14) rfl (fun hg8 => ?_) (fun hg8 => ?_)
    · have hg8' := hg8
      try simp only [decide_eq_true_eq, decide_eq_false_iff_not, Bool.not_eq_true', Bool.not_eq_false', ne_eq, Decidable.not_not, Bool.not_eq_true, Bool.and_eq_true, Bool.or_eq_true, BitVec.reduceToNat] at hg8'
      refine JO.gf (g := 15) rfl rfl hg8 (by decide) ?_
      refine JO.gf (g := 15) rfl rfl hg8 (by decide) ?_
      refine JO.gf (g := 15) rfl rfl hg8 (by decide) ?_
      refine JO.v (Yv.pick1 rfl hg8 rfl) (by decide) ?_
      refine JO.nil ?_
      refine JQ.head () (by first | (refine ⟨by first | rfl | (simp [*]; done) | (show some _ = some _; simp [*]; done), ?_⟩; repeat (first | exact trivial | refine ⟨rfl, ?_⟩))) (Subs.sub (by repeat (first | exact Subs.nil _ | apply Subs.cons | exact List.Mem.head _ | refine List.Mem.tail _ ?_))) (Picks.perm (by repeat (first | exact Picks.nil _ | apply Picks.cons | exact Pull.here _ _ | apply Pull.there))) ?_
      trivial
    · have hg8' := hg8
      try simp only [decide_eq_true_eq, decide_eq_false_iff_not, Bool.not_eq_true', Bool.not_eq_false', ne_eq, Decidable.not_not, Bool.not_eq_true, Bool.and_eq_true, Bool.or_eq_true, BitVec.reduceToNat] at hg8'
      refine JO.gt (g := 15) rfl rfl hg8 ?_
      refine JO.v (Yv.move rfl) (by decide) ?_
      refine JO.gt (g := 15) rfl rfl hg8 ?_
      first | refine JO.v (Yv.len_s Try.underlying36 rfl) (by decide) ?_ | refine JO.v (Yv.lenRd Try.underlying36 rfl (by repeat (first | exact Lend.same _ _ | exact Lend.row _ _ _ _ _ _ (by decide) | apply Lend.there))) (by decide) ?_
      refine JO.gt (g := 15) rfl rfl hg8 ?_
      refine JO.v (Yv.bin rfl rfl BinR.gtr_i) (by decide) ?_
      refine JO.v (Yv.pick0 rfl hg8 rfl) (by decide) ?_
      refine JO.nil ?_
      refine JQ.head () (by first | (refine ⟨by first | rfl | (simp [*]; done) | (show some _ = some _; simp [*]; done), ?_⟩; repeat (first | exact trivial | refine ⟨rfl, ?_⟩))) (Subs.sub (by repeat (first | exact Subs.nil _ | apply Subs.cons | exact List.Mem.head _ | refine List.Mem.tail _ ?_))) (Picks.perm (by repeat (first | exact Picks.nil _ | apply Picks.cons | exact Pull.here _ _ | apply Pull.there))) ?_
      trivial
  · skip
    refine JO.nil ?_
    refine JQ.then_normal ?_
    refine JC.cond rfl (fun hc1 => ?_) (fun hc1 => ?_)
    · try simp only [decide_eq_true_eq, decide_eq_false_iff_not, Bool.not_eq_true', Bool.not_eq_false', ne_eq, Decidable.not_not, Bool.not_eq_true, Bool.and_eq_true, Bool.or_eq_true, BitVec.reduceToNat] at hc1
      refine JC.seq ?_
      refine JC.region ?_
      refine JO.v (Yv.move rfl) (by decide) ?_
      refine JO.v (Yv.assign rfl) (by decide) ?_
      refine JO.nil ?_
      refine JQ.then_normal ?_
      refine JC.ret ?_
      refine JQ.then_ret ?_
      exact JQ.done (.inr rfl) (Γ' := []) (H' := []) (res1 rfl (RV.tmp rfl)) (Subs.sub (by repeat (first | exact Subs.nil _ | apply Subs.cons | exact List.Mem.head _ | refine List.Mem.tail _ ?_))) (Picks.perm (by repeat (first | exact Picks.nil _ | apply Picks.cons | exact Pull.here _ _ | apply Pull.there))) ⟨rfl, rfl, rfl⟩
    · try simp only [decide_eq_true_eq, decide_eq_false_iff_not, Bool.not_eq_true', Bool.not_eq_false', ne_eq, Decidable.not_not, Bool.not_eq_true, Bool.and_eq_true, Bool.or_eq_true, BitVec.reduceToNat] at hc1
      have hb2 : b.length ≤ 2000 ∧ l.length ≤ 20 := by omega
      refine JC.skip ?_
      refine JQ.then_normal ?_
      refine JC.seq ?_
      refine JC.region ?_
      refine JO.v (Yv.move rfl) (by decide) ?_
      refine JO.callB (f14_spec u b) body_14 rfl (by repeat (first | exact Picks.nil _ | apply Picks.cons | exact Pull.here _ _ | apply Pull.there)) (by repeat (first | exact Lends.nil _ | apply Lends.cons | exact Lend.same _ _ | exact Lend.row _ _ _ _ _ _ (by decide) | apply Lend.there)) (by rintro _ _ _ ⟨_, _, h, _⟩; exact h) (by decide) ?_
      rintro _ _ ⟨_, ⟨p, rfl, _, rfl⟩, hH⟩
      simp only [List.cons_append, List.nil_append] at hH; subst hH
      refine JO.v (Yv.assign rfl) (by decide) ?_
      refine JO.nil ?_
      refine JQ.then_normal ?_
      refine JC.seq ?_
      refine JC.region ?_
      refine JO.v (Yv.build bld_27 rfl rfl) (by decide) ?_
      refine JO.box rfl _ rfl (by decide) fun q => ?_
      refine JO.nilRow 5 1 ?_
      refine JO.v (Yv.assign rfl) (by decide) ?_
      refine JO.nil ?_
      refine JQ.then_normal ?_
      refine JC.seq ?_
      refine JC.seq ?_
      refine JC.region ?_
      refine JO.v (Yv.move rfl) (by decide) ?_
      refine JO.v (Yv.as (v' := .bool false) (Yv.bin rfl rfl (BinR.eql_p Try.underlying37)) rfl) (by decide) ?_
      refine JO.nil ?_
      refine JQ.then_normal ?_
      refine JC.cond rfl (fun hc2 => ?_) (fun hc2 => ?_)
      · try simp only [decide_eq_true_eq, decide_eq_false_iff_not, Bool.not_eq_true', Bool.not_eq_false', ne_eq, Decidable.not_not, Bool.not_eq_true, Bool.and_eq_true, Bool.or_eq_true, BitVec.reduceToNat] at hc2
        exact absurd hc2 (by decide)
      · try simp only [decide_eq_true_eq, decide_eq_false_iff_not, Bool.not_eq_true', Bool.not_eq_false', ne_eq, Decidable.not_not, Bool.not_eq_true, Bool.and_eq_true, Bool.or_eq_true, BitVec.reduceToNat] at hc2
        refine JC.skip ?_
        refine JQ.then_normal ?_
        refine JC.seq ?_
        refine JC.seq ?_
        refine JC.region ?_
        refine JO.v (Yv.assign rfl) (by decide) ?_
        refine JO.nil ?_
        refine JQ.then_normal ?_
        refine JC.block ?_
        refine JC.loop (ι := (Nat × Rdr) × B8 × Value × Value) (fun x => x.1.1 ≤ l.length ∧ x.1.2.b.length ≤ 2000 ∧ x.2.1.length ≤ 2050 * x.1.1 ∧ (x.1.2.e = 0 → b = x.2.1 ++ x.1.2.b)) (fun x => [(0, u), (1, v), (5, .bool true), (6, ptr p 0), (7, ptr q 0), (8, it (x.1.1 : Int))]) (fun x => [Res.rd v l.length 3 (askCells l), Res.rd x.2.2.1 x.1.2.b.length 1 (x.1.2.b.map u8), Res.rd u b.length 1 (b.map u8)]) (fun x => [Res.cells p [x.2.2.1, it x.1.2.e] 64, Res.cells q [x.2.2.2] 27, Res.row x.2.2.2 x.2.1.length 5 1 (x.2.1.map u8)]) (fun x => l.length - x.1.1) ((0, ⟨b, 0⟩), [], u, .slice none 0 0) (by repeat (first | exact trivial | refine ⟨by first | rfl | (simp; done), ?_⟩)) (Subs.sub (by repeat (first | exact Subs.nil _ | apply Subs.cons | exact List.Mem.head _ | refine List.Mem.tail _ ?_))) (Picks.perm (by repeat (first | exact Picks.nil _ | apply Picks.cons | exact Pull.here _ _ | apply Pull.there))) ?_ (fun x hx => ?_)
        · exact ⟨Nat.zero_le _, hb2.1, Nat.le_refl _, fun _ => rfl⟩
        obtain ⟨⟨k, r⟩, xs, v', vw⟩ := x
        obtain ⟨hk, hrb, hxl, hinv⟩ := hx
        dsimp only at hk hrb hxl hinv ⊢
        refine JC.seq ?_
        refine JC.seq ?_
        refine JC.region ?_
        refine JO.v (Yv.move rfl) (by decide) ?_
        refine JO.v (Yv.move rfl) (by decide) ?_
        first | refine JO.v (Yv.len_s Try.underlying36 rfl) (by decide) ?_ | refine JO.v (Yv.lenRd Try.underlying36 rfl (by repeat (first | exact Lend.same _ _ | exact Lend.row _ _ _ _ _ _ (by decide) | apply Lend.there))) (by decide) ?_
        refine JO.v (Yv.bin rfl rfl BinR.lss_i) (by decide) ?_
        refine JO.nil ?_
        refine JQ.then_normal ?_
        refine JC.cond rfl (fun hc3 => ?_) (fun hc3 => ?_)
        · try simp only [decide_eq_true_eq, decide_eq_false_iff_not, Bool.not_eq_true', Bool.not_eq_false', ne_eq, Decidable.not_not, Bool.not_eq_true, Bool.and_eq_true, Bool.or_eq_true, BitVec.reduceToNat] at hc3
          refine JC.skip ?_
          refine JQ.then_normal ?_
          refine JC.cut (ι := Value × Value) (fun x => True) (fun x => [(0, u), (1, v), (5, .bool true), (6, ptr p 0), (7, ptr q 0), (8, it (k : Int))]) (fun x => [Res.rd v l.length 3 (askCells l), Res.rd x.1 (stepR r (askAt l k)).b.length 1 ((stepR r (askAt l k)).b.map u8), Res.rd u b.length 1 (b.map u8)]) (fun x => [Res.cells p [x.1, it (stepR r (askAt l k)).e] 64, Res.cells q [x.2] 27, Res.row x.2 (xs ++ wrB r (askAt l k)).length 5 1 ((xs ++ wrB r (askAt l k)).map u8)]) ?_ (fun x hx => ?_)
          · skip
            refine JC.block ?_
            refine JC.seq ?_
            refine JC.region ?_
            refine JO.v (Yv.move rfl) (by decide) ?_
            refine JO.v (Yv.move rfl) (by decide) ?_
            first | refine JO.v (Yv.indexRow Try.underlying36 sz_41 rfl rfl (by repeat (first | exact List.Mem.head _ | refine List.Mem.tail _ ?_)) (by first | exact ltb rfl | (simp; done) | (simp; omega) | omega | (simp [*]; omega))) (by decide) ?_ | refine JO.v (Yv.indexRd Try.underlying36 sz_41 rfl rfl (by repeat (first | exact Lend.same _ _ | exact Lend.row _ _ _ _ _ _ (by decide) | apply Lend.there)) (by decide) (by first | exact ltb rfl | (simp; done) | (simp; omega) | omega | (simp [*]; omega))) (by decide) ?_
            refine JO.v (Yv.fieldAddr fa_41_0 rfl) (by decide) ?_
            refine JO.v (Yv.load1 one_3 rfl (by first | exact Kn.own (by repeat (first | exact List.Mem.head _ | refine List.Mem.tail _ ?_)) (by first | first | exact ask_0 (by omega) | exact ask_1 (by omega) | exact ask_2 (by omega) | rfl | exact tab_get (by first | omega | (simp; omega)) | exact gm (d := 0) (by first | omega | (simp; omega))) | exact Kn.ro (by repeat (first | exact List.Mem.head _ | refine List.Mem.tail _ ?_)) (by first | first | exact ask_0 (by omega) | exact ask_1 (by omega) | exact ask_2 (by omega) | rfl | exact tab_get (by first | omega | (simp; omega)) | exact gm (d := 0) (by first | omega | (simp; omega))) | exact Kn.row (by repeat (first | exact List.Mem.head _ | refine List.Mem.tail _ ?_)) (by first | first | exact ask_0 (by omega) | exact ask_1 (by omega) | exact ask_2 (by omega) | rfl | exact tab_get (by first | omega | (simp; omega)) | exact gm (d := 0) (by first | omega | (simp; omega))) | exact Kn.rd (by repeat (first | exact Lend.same _ _ | exact Lend.row _ _ _ _ _ _ (by decide) | apply Lend.there)) (by first | first | exact ask_0 (by omega) | exact ask_1 (by omega) | exact ask_2 (by omega) | rfl | exact tab_get (by first | omega | (simp; omega)) | exact gm (d := 0) (by first | omega | (simp; omega))) | exact Kn.rd2 (by repeat (first | exact Lend.same _ _ | exact Lend.row _ _ _ _ _ _ (by decide) | apply Lend.there)) (by first | first | exact ask_0 (by omega) | exact ask_1 (by omega) | exact ask_2 (by omega) | rfl | exact tab_get (by first | omega | (simp; omega)) | exact gm (d := 0) (by first | omega | (simp; omega))))) (by decide) ?_
            refine JO.nil ?_
            refine JQ.then_normal ?_
            refine JC.block ?_
            refine JC.seq ?_
            refine JC.region ?_
            refine JO.v (Yv.bin rfl rfl BinR.eql_i) (by decide) ?_
            refine JO.v (Yv.assign rfl) (by decide) ?_
            refine JO.nil ?_
            refine JQ.then_normal ?_
            refine JC.cond rfl (fun hc4 => ?_) (fun hc4 => ?_)
            · try simp only [decide_eq_true_eq, decide_eq_false_iff_not, Bool.not_eq_true', Bool.not_eq_false', ne_eq, Decidable.not_not, Bool.not_eq_true, Bool.and_eq_true, Bool.or_eq_true, BitVec.reduceToNat] at hc4
              have hS : stepR r (askAt l k) = r.smA (askAt l k).lim := by rw [stepR, if_pos hc4]
              have hN : wrB r (askAt l k) = smallB (r.sm (askAt l k).lim) := by rw [wrB, if_pos hc4]
              refine JC.region ?_
              refine JO.v (Yv.move rfl) (by decide) ?_
              refine JO.v (Yv.move rfl) (by decide) ?_
              refine JO.v (Yv.move rfl) (by decide) ?_
              refine JO.v (Yv.move rfl) (by decide) ?_
              first | refine JO.v (Yv.indexRow Try.underlying36 sz_41 rfl rfl (by repeat (first | exact List.Mem.head _ | refine List.Mem.tail _ ?_)) (by first | exact ltb rfl | (simp; done) | (simp; omega) | omega | (simp [*]; omega))) (by decide) ?_ | refine JO.v (Yv.indexRd Try.underlying36 sz_41 rfl rfl (by repeat (first | exact Lend.same _ _ | exact Lend.row _ _ _ _ _ _ (by decide) | apply Lend.there)) (by decide) (by first | exact ltb rfl | (simp; done) | (simp; omega) | omega | (simp [*]; omega))) (by decide) ?_
              refine JO.v (Yv.fieldAddr fa_41_2 rfl) (by decide) ?_
              refine JO.v (Yv.load1 one_22 rfl (by first | exact Kn.own (by repeat (first | exact List.Mem.head _ | refine List.Mem.tail _ ?_)) (by first | first | exact ask_0 (by omega) | exact ask_1 (by omega) | exact ask_2 (by omega) | rfl | exact tab_get (by first | omega | (simp; omega)) | exact gm (d := 0) (by first | omega | (simp; omega))) | exact Kn.ro (by repeat (first | exact List.Mem.head _ | refine List.Mem.tail _ ?_)) (by first | first | exact ask_0 (by omega) | exact ask_1 (by omega) | exact ask_2 (by omega) | rfl | exact tab_get (by first | omega | (simp; omega)) | exact gm (d := 0) (by first | omega | (simp; omega))) | exact Kn.row (by repeat (first | exact List.Mem.head _ | refine List.Mem.tail _ ?_)) (by first | first | exact ask_0 (by omega) | exact ask_1 (by omega) | exact ask_2 (by omega) | rfl | exact tab_get (by first | omega | (simp; omega)) | exact gm (d := 0) (by first | omega | (simp; omega))) | exact Kn.rd (by repeat (first | exact Lend.same _ _ | exact Lend.row _ _ _ _ _ _ (by decide) | apply Lend.there)) (by first | first | exact ask_0 (by omega) | exact ask_1 (by omega) | exact ask_2 (by omega) | rfl | exact tab_get (by first | omega | (simp; omega)) | exact gm (d := 0) (by first | omega | (simp; omega))) | exact Kn.rd2 (by repeat (first | exact Lend.same _ _ | exact Lend.row _ _ _ _ _ _ (by decide) | apply Lend.there)) (by first | first | exact ask_0 (by omega) | exact ask_1 (by omega) | exact ask_2 (by omega) | rfl | exact tab_get (by first | omega | (simp; omega)) | exact gm (d := 0) (by first | omega | (simp; omega))))) (by decide) ?_
              refine JO.call (f15_spec p v' r (askAt l k).lim) body_15 rfl (by repeat (first | exact Picks.nil _ | apply Picks.cons | exact Pull.here _ _ | apply Pull.there)) (by repeat (first | exact Subs.nil _ | apply Subs.cons | exact List.Mem.head _ | refine List.Mem.tail _ ?_)) (by decide) ?_
              rintro _ _ _ ⟨_, _, ⟨v2, rfl, rfl, rfl⟩, hΓ, hH⟩
              simp only [List.cons_append, List.nil_append] at hΓ hH; subst hΓ hH
              refine JO.callB (f9_spec q vw xs (by omega) (r.sm (askAt l k).lim)) body_9 rfl (by repeat (first | exact Picks.nil _ | apply Picks.cons | exact Pull.here _ _ | apply Pull.there)) (by repeat (first | exact Lends.nil _ | apply Lends.cons | exact Lend.same _ _ | exact Lend.row _ _ _ _ _ _ (by decide) | apply Lend.there)) (by rintro _ _ _ ⟨_, _, h, _⟩; exact h) (by decide) ?_
              rintro _ _ ⟨_, ⟨w2, rfl, _, rfl⟩, hH⟩
              simp only [List.cons_append, List.nil_append] at hH; subst hH
              refine JO.nil ?_
              refine JQ.block_normal ?_
              refine JQ.block_normal ?_
              rw [hS, hN]
              try rw [List.append_nil]
              refine JQ.head (_, _) (by repeat (first | exact trivial | refine ⟨by first | rfl | (simp; done), ?_⟩)) (Subs.sub (by repeat (first | exact Subs.nil _ | apply Subs.cons | exact List.Mem.head _ | refine List.Mem.tail _ ?_))) (Picks.perm (by repeat (first | exact Picks.nil _ | apply Picks.cons | exact Pull.here _ _ | apply Pull.there))) ?_
              trivial
            · try simp only [decide_eq_true_eq, decide_eq_false_iff_not, Bool.not_eq_true', Bool.not_eq_false', ne_eq, Decidable.not_not, Bool.not_eq_true, Bool.and_eq_true, Bool.or_eq_true, BitVec.reduceToNat] at hc4
              refine JC.seq ?_
              refine JC.region ?_
              refine JO.v (Yv.bin rfl rfl BinR.eql_i) (by decide) ?_
              refine JO.v (Yv.assign rfl) (by decide) ?_
              refine JO.nil ?_
              refine JQ.then_normal ?_
              refine JC.cond rfl (fun hc5 => ?_) (fun hc5 => ?_)
              · try simp only [decide_eq_true_eq, decide_eq_false_iff_not, Bool.not_eq_true', Bool.not_eq_false', ne_eq, Decidable.not_not, Bool.not_eq_true, Bool.and_eq_true, Bool.or_eq_true, BitVec.reduceToNat] at hc5
                have hS : stepR r (askAt l k) = r.aft 32 := by rw [stepR, if_neg hc4, if_pos hc5]
                have hN : wrB r (askAt l k) = natBytes (ofBytes (r.out 32)) := by rw [wrB, if_neg hc4, if_pos hc5]
                refine JC.region ?_
                refine JO.v (Yv.move rfl) (by decide) ?_
                refine JO.v (Yv.move rfl) (by decide) ?_
                refine JO.call (f16_spec p v' r) body_16 rfl (by repeat (first | exact Picks.nil _ | apply Picks.cons | exact Pull.here _ _ | apply Pull.there)) (by repeat (first | exact Subs.nil _ | apply Subs.cons | exact List.Mem.head _ | refine List.Mem.tail _ ?_)) (by decide) ?_
                rintro _ _ _ ⟨_, _, ⟨v2, rfl, rfl, rfl⟩, hΓ, hH⟩
                simp only [List.cons_append, List.nil_append] at hΓ hH; subst hΓ hH
                refine JO.callB (f21_spec q vw xs (by omega) (ofBytes (r.out 32)) (ofBytes_length _)) body_21 rfl (by repeat (first | exact Picks.nil _ | apply Picks.cons | exact Pull.here _ _ | apply Pull.there)) (by repeat (first | exact Lends.nil _ | apply Lends.cons | exact Lend.same _ _ | exact Lend.row _ _ _ _ _ _ (by decide) | apply Lend.there)) (by rintro _ _ _ ⟨_, _, h, _⟩; exact h) (by decide) ?_
                rintro _ _ ⟨_, ⟨w2, rfl, _, rfl⟩, hH⟩
                simp only [List.cons_append, List.nil_append] at hH; subst hH
                refine JO.nil ?_
                refine JQ.block_normal ?_
                refine JQ.block_normal ?_
                rw [hS, hN]
                try rw [List.append_nil]
                refine JQ.head (_, _) (by repeat (first | exact trivial | refine ⟨by first | rfl | (simp; done), ?_⟩)) (Subs.sub (by repeat (first | exact Subs.nil _ | apply Subs.cons | exact List.Mem.head _ | refine List.Mem.tail _ ?_))) (Picks.perm (by repeat (first | exact Picks.nil _ | apply Picks.cons | exact Pull.here _ _ | apply Pull.there))) ?_
                trivial
              · try simp only [decide_eq_true_eq, decide_eq_false_iff_not, Bool.not_eq_true', Bool.not_eq_false', ne_eq, Decidable.not_not, Bool.not_eq_true, Bool.and_eq_true, Bool.or_eq_true, BitVec.reduceToNat] at hc5
                refine JC.seq ?_
                refine JC.region ?_
                refine JO.v (Yv.bin rfl rfl BinR.eql_i) (by decide) ?_
                refine JO.v (Yv.assign rfl) (by decide) ?_
                refine JO.nil ?_
                refine JQ.then_normal ?_
                refine JC.cond rfl (fun hc6 => ?_) (fun hc6 => ?_)
                · try simp only [decide_eq_true_eq, decide_eq_false_iff_not, Bool.not_eq_true', Bool.not_eq_false', ne_eq, Decidable.not_not, Bool.not_eq_true, Bool.and_eq_true, Bool.or_eq_true, BitVec.reduceToNat] at hc6
                  have hS : stepR r (askAt l k) = r.byA (askAt l k).most := by rw [stepR, if_neg hc4, if_neg hc5, if_pos hc6]
                  have hN : wrB r (askAt l k) = bytesB (r.byO (askAt l k).most) := by rw [wrB, if_neg hc4, if_neg hc5, if_pos hc6]
                  refine JC.region ?_
                  refine JO.v (Yv.move rfl) (by decide) ?_
                  refine JO.v (Yv.move rfl) (by decide) ?_
                  refine JO.v (Yv.move rfl) (by decide) ?_
                  refine JO.v (Yv.move rfl) (by decide) ?_
                  first | refine JO.v (Yv.indexRow Try.underlying36 sz_41 rfl rfl (by repeat (first | exact List.Mem.head _ | refine List.Mem.tail _ ?_)) (by first | exact ltb rfl | (simp; done) | (simp; omega) | omega | (simp [*]; omega))) (by decide) ?_ | refine JO.v (Yv.indexRd Try.underlying36 sz_41 rfl rfl (by repeat (first | exact Lend.same _ _ | exact Lend.row _ _ _ _ _ _ (by decide) | apply Lend.there)) (by decide) (by first | exact ltb rfl | (simp; done) | (simp; omega) | omega | (simp [*]; omega))) (by decide) ?_
                  refine JO.v (Yv.fieldAddr fa_41_1 rfl) (by decide) ?_
                  refine JO.v (Yv.load1 one_3 rfl (by first | exact Kn.own (by repeat (first | exact List.Mem.head _ | refine List.Mem.tail _ ?_)) (by first | first | exact ask_0 (by omega) | exact ask_1 (by omega) | exact ask_2 (by omega) | rfl | exact tab_get (by first | omega | (simp; omega)) | exact gm (d := 0) (by first | omega | (simp; omega))) | exact Kn.ro (by repeat (first | exact List.Mem.head _ | refine List.Mem.tail _ ?_)) (by first | first | exact ask_0 (by omega) | exact ask_1 (by omega) | exact ask_2 (by omega) | rfl | exact tab_get (by first | omega | (simp; omega)) | exact gm (d := 0) (by first | omega | (simp; omega))) | exact Kn.row (by repeat (first | exact List.Mem.head _ | refine List.Mem.tail _ ?_)) (by first | first | exact ask_0 (by omega) | exact ask_1 (by omega) | exact ask_2 (by omega) | rfl | exact tab_get (by first | omega | (simp; omega)) | exact gm (d := 0) (by first | omega | (simp; omega))) | exact Kn.rd (by repeat (first | exact Lend.same _ _ | exact Lend.row _ _ _ _ _ _ (by decide) | apply Lend.there)) (by first | first | exact ask_0 (by omega) | exact ask_1 (by omega) | exact ask_2 (by omega) | rfl | exact tab_get (by first | omega | (simp; omega)) | exact gm (d := 0) (by first | omega | (simp; omega))) | exact Kn.rd2 (by repeat (first | exact Lend.same _ _ | exact Lend.row _ _ _ _ _ _ (by decide) | apply Lend.there)) (by first | first | exact ask_0 (by omega) | exact ask_1 (by omega) | exact ask_2 (by omega) | rfl | exact tab_get (by first | omega | (simp; omega)) | exact gm (d := 0) (by first | omega | (simp; omega))))) (by decide) ?_
                  refine JO.call (f17_spec p v' r (askAt l k).most (by omega)) body_17 rfl (by repeat (first | exact Picks.nil _ | apply Picks.cons | exact Pull.here _ _ | apply Pull.there)) (by repeat (first | exact Subs.nil _ | apply Subs.cons | exact List.Mem.head _ | refine List.Mem.tail _ ?_)) (by decide) ?_
                  rintro v66 _ _ ⟨_, _, ⟨v2, _, rfl, rfl⟩, hΓ, hH⟩
                  simp only [List.cons_append, List.nil_append] at hΓ hH; subst hΓ hH
                  have hbo := Rdr.byO_b r (askAt l k).most
                  refine JO.callB (f22_spec q vw xs (by omega) v66 (r.byO (askAt l k).most) (by omega)) body_22 rfl (by repeat (first | exact Picks.nil _ | apply Picks.cons | exact Pull.here _ _ | apply Pull.there)) (by repeat (first | exact Lends.nil _ | apply Lends.cons | exact Lend.same _ _ | exact Lend.row _ _ _ _ _ _ (by decide) | apply Lend.there)) (by rintro _ _ _ ⟨_, _, h, _⟩; exact h) (by decide) ?_
                  rintro _ _ ⟨_, ⟨w2, rfl, _, rfl⟩, hH⟩
                  simp only [List.cons_append, List.nil_append] at hH; subst hH
                  refine JO.nil ?_
                  refine JQ.block_normal ?_
                  refine JQ.block_normal ?_
                  rw [hS, hN]
                  try rw [List.append_nil]
                  refine JQ.head (_, _) (by repeat (first | exact trivial | refine ⟨by first | rfl | (simp; done), ?_⟩)) (Subs.sub (by repeat (first | exact Subs.nil _ | apply Subs.cons | exact List.Mem.head _ | refine List.Mem.tail _ ?_))) (Picks.perm (by repeat (first | exact Picks.nil _ | apply Picks.cons | exact Pull.here _ _ | apply Pull.there))) ?_
                  trivial
                · try simp only [decide_eq_true_eq, decide_eq_false_iff_not, Bool.not_eq_true', Bool.not_eq_false', ne_eq, Decidable.not_not, Bool.not_eq_true, Bool.and_eq_true, Bool.or_eq_true, BitVec.reduceToNat] at hc6
                  refine JC.seq ?_
                  refine JC.region ?_
                  refine JO.v (Yv.bin rfl rfl BinR.eql_i) (by decide) ?_
                  refine JO.v (Yv.assign rfl) (by decide) ?_
                  refine JO.nil ?_
                  refine JQ.then_normal ?_
                  refine JC.cond rfl (fun hc7 => ?_) (fun hc7 => ?_)
                  · try simp only [decide_eq_true_eq, decide_eq_false_iff_not, Bool.not_eq_true', Bool.not_eq_false', ne_eq, Decidable.not_not, Bool.not_eq_true, Bool.and_eq_true, Bool.or_eq_true, BitVec.reduceToNat] at hc7
                    have hS : stepR r (askAt l k) = r.naA (askAt l k).most := by rw [stepR, if_neg hc4, if_neg hc5, if_neg hc6, if_pos hc7]
                    have hN : wrB r (askAt l k) = natsB (r.naO (askAt l k).most) := by rw [wrB, if_neg hc4, if_neg hc5, if_neg hc6, if_pos hc7]
                    refine JC.region ?_
                    refine JO.v (Yv.move rfl) (by decide) ?_
                    refine JO.v (Yv.move rfl) (by decide) ?_
                    refine JO.v (Yv.move rfl) (by decide) ?_
                    refine JO.v (Yv.move rfl) (by decide) ?_
                    first | refine JO.v (Yv.indexRow Try.underlying36 sz_41 rfl rfl (by repeat (first | exact List.Mem.head _ | refine List.Mem.tail _ ?_)) (by first | exact ltb rfl | (simp; done) | (simp; omega) | omega | (simp [*]; omega))) (by decide) ?_ | refine JO.v (Yv.indexRd Try.underlying36 sz_41 rfl rfl (by repeat (first | exact Lend.same _ _ | exact Lend.row _ _ _ _ _ _ (by decide) | apply Lend.there)) (by decide) (by first | exact ltb rfl | (simp; done) | (simp; omega) | omega | (simp [*]; omega))) (by decide) ?_
                    refine JO.v (Yv.fieldAddr fa_41_1 rfl) (by decide) ?_
                    refine JO.v (Yv.load1 one_3 rfl (by first | exact Kn.own (by repeat (first | exact List.Mem.head _ | refine List.Mem.tail _ ?_)) (by first | first | exact ask_0 (by omega) | exact ask_1 (by omega) | exact ask_2 (by omega) | rfl | exact tab_get (by first | omega | (simp; omega)) | exact gm (d := 0) (by first | omega | (simp; omega))) | exact Kn.ro (by repeat (first | exact List.Mem.head _ | refine List.Mem.tail _ ?_)) (by first | first | exact ask_0 (by omega) | exact ask_1 (by omega) | exact ask_2 (by omega) | rfl | exact tab_get (by first | omega | (simp; omega)) | exact gm (d := 0) (by first | omega | (simp; omega))) | exact Kn.row (by repeat (first | exact List.Mem.head _ | refine List.Mem.tail _ ?_)) (by first | first | exact ask_0 (by omega) | exact ask_1 (by omega) | exact ask_2 (by omega) | rfl | exact tab_get (by first | omega | (simp; omega)) | exact gm (d := 0) (by first | omega | (simp; omega))) | exact Kn.rd (by repeat (first | exact Lend.same _ _ | exact Lend.row _ _ _ _ _ _ (by decide) | apply Lend.there)) (by first | first | exact ask_0 (by omega) | exact ask_1 (by omega) | exact ask_2 (by omega) | rfl | exact tab_get (by first | omega | (simp; omega)) | exact gm (d := 0) (by first | omega | (simp; omega))) | exact Kn.rd2 (by repeat (first | exact Lend.same _ _ | exact Lend.row _ _ _ _ _ _ (by decide) | apply Lend.there)) (by first | first | exact ask_0 (by omega) | exact ask_1 (by omega) | exact ask_2 (by omega) | rfl | exact tab_get (by first | omega | (simp; omega)) | exact gm (d := 0) (by first | omega | (simp; omega))))) (by decide) ?_
                    refine JO.call (f18_spec p v' r (askAt l k).most (by omega)) body_18 rfl (by repeat (first | exact Picks.nil _ | apply Picks.cons | exact Pull.here _ _ | apply Pull.there)) (by repeat (first | exact Subs.nil _ | apply Subs.cons | exact List.Mem.head _ | refine List.Mem.tail _ ?_)) (by decide) ?_
                    rintro v77 _ _ ⟨_, _, ⟨v2, _, rfl, rfl⟩, hΓ, hH⟩
                    simp only [List.cons_append, List.nil_append] at hΓ hH; subst hΓ hH
                    have hno := Rdr.naO_b r (askAt l k).most
                    refine JO.callB (f23_spec q vw xs (by omega) v77 (r.naO (askAt l k).most) (Rdr.naO_4 r _) (by omega)) body_23 rfl (by repeat (first | exact Picks.nil _ | apply Picks.cons | exact Pull.here _ _ | apply Pull.there)) (by repeat (first | exact Lends.nil _ | apply Lends.cons | exact Lend.same _ _ | exact Lend.row _ _ _ _ _ _ (by decide) | apply Lend.there)) (by rintro _ _ _ ⟨_, _, h, _⟩; exact h) (by decide) ?_
                    rintro _ _ ⟨_, ⟨w2, rfl, _, rfl⟩, hH⟩
                    simp only [List.cons_append, List.nil_append] at hH; subst hH
                    refine JO.nil ?_
                    refine JQ.block_normal ?_
                    refine JQ.block_normal ?_
                    rw [hS, hN]
                    try rw [List.append_nil]
                    refine JQ.head (_, _) (by repeat (first | exact trivial | refine ⟨by first | rfl | (simp; done), ?_⟩)) (Subs.sub (by repeat (first | exact Subs.nil _ | apply Subs.cons | exact List.Mem.head _ | refine List.Mem.tail _ ?_))) (Picks.perm (by repeat (first | exact Picks.nil _ | apply Picks.cons | exact Pull.here _ _ | apply Pull.there))) ?_
                    trivial
                  · try simp only [decide_eq_true_eq, decide_eq_false_iff_not, Bool.not_eq_true', Bool.not_eq_false', ne_eq, Decidable.not_not, Bool.not_eq_true, Bool.and_eq_true, Bool.or_eq_true, BitVec.reduceToNat] at hc7
                    have hS : stepR r (askAt l k) = r := by rw [stepR, if_neg hc4, if_neg hc5, if_neg hc6, if_neg hc7]
                    have hN : wrB r (askAt l k) = [] := by rw [wrB, if_neg hc4, if_neg hc5, if_neg hc6, if_neg hc7]
                    refine JC.skip ?_
                    refine JQ.block_normal ?_
                    refine JQ.block_normal ?_
                    rw [hS, hN]
                    try rw [List.append_nil]
                    refine JQ.head (_, _) (by repeat (first | exact trivial | refine ⟨by first | rfl | (simp; done), ?_⟩)) (Subs.sub (by repeat (first | exact Subs.nil _ | apply Subs.cons | exact List.Mem.head _ | refine List.Mem.tail _ ?_))) (Picks.perm (by repeat (first | exact Picks.nil _ | apply Picks.cons | exact Pull.here _ _ | apply Pull.there))) ?_
                    trivial
          · skip
            refine JC.region ?_
            refine JO.v (Yv.move rfl) (by decide) ?_
            refine JO.v (Yv.bin rfl rfl (BinR.add_i (by first | (constructor <;> omega) | (constructor <;> simp <;> omega)))) (by decide) ?_
            refine JO.v (Yv.assign rfl) (by decide) ?_
            refine JO.nil ?_
            refine JQ.head ((k + 1, stepR r (askAt l k)), xs ++ wrB r (askAt l k), _, _) (by repeat (first | exact trivial | refine ⟨by first | rfl | (simp; done), ?_⟩)) (Subs.sub (by repeat (first | exact Subs.nil _ | apply Subs.cons | exact List.Mem.head _ | refine List.Mem.tail _ ?_))) (Picks.perm (by repeat (first | exact Picks.nil _ | apply Picks.cons | exact Pull.here _ _ | apply Pull.there))) ?_
            refine ⟨⟨by dsimp only; omega, by dsimp only; have := stepR_b r (askAt l k); omega, by dsimp only; have := wrB_len r (askAt l k); simp only [List.length_append]; omega, fun h => ?_⟩, by dsimp only; omega⟩
            obtain ⟨h1, h2⟩ := again_step (r := r) (a := askAt l k) h
            rw [hinv h1, h2]
            exact (List.append_assoc _ _ _).symm
        · try simp only [decide_eq_true_eq, decide_eq_false_iff_not, Bool.not_eq_true', Bool.not_eq_false', ne_eq, Decidable.not_not, Bool.not_eq_true, Bool.and_eq_true, Bool.or_eq_true, BitVec.reduceToNat] at hc3
          obtain rfl : k = l.length := by omega
          refine JC.exit ?_
          refine JQ.then_exit ?_
          refine JQ.then_exit ?_
          refine JQ.block_exit ?_
          refine JQ.then_normal ?_
          refine JC.seq ?_
          refine JC.region ?_
          refine JO.v (Yv.move rfl) (by decide) ?_
          refine JO.call (f19_spec p v' r) body_19 rfl (by repeat (first | exact Picks.nil _ | apply Picks.cons | exact Pull.here _ _ | apply Pull.there)) (by repeat (first | exact Subs.nil _ | apply Subs.cons | exact List.Mem.head _ | refine List.Mem.tail _ ?_)) (by decide) ?_
          rintro _ _ _ ⟨_, _, ⟨rfl, rfl, rfl⟩, hΓ, hH⟩
          simp only [List.cons_append, List.nil_append] at hΓ hH; subst hΓ hH
          refine JO.v (Yv.assign rfl) (by decide) ?_
          refine JO.nil ?_
          refine JQ.then_normal ?_
          refine JC.seq ?_
          refine JC.region ?_
          refine JO.v (Yv.move rfl) (by decide) ?_
          refine JO.callB (f10_spec q vw xs (by omega)) body_10 rfl (by repeat (first | exact Picks.nil _ | apply Picks.cons | exact Pull.here _ _ | apply Pull.there)) (by repeat (first | exact Lends.nil _ | apply Lends.cons | exact Lend.same _ _ | exact Lend.row _ _ _ _ _ _ (by decide) | apply Lend.there)) (by rintro _ _ _ ⟨_, h, _⟩; exact h) (by decide) ?_
          rintro v79 _ ⟨_, ⟨_, _, rfl⟩, hH⟩
          simp only [List.cons_append, List.nil_append] at hH; subst hH
          refine JO.v (Yv.assign rfl) (by decide) ?_
          refine JO.nil ?_
          refine JQ.then_normal ?_
          refine JC.seq ?_
          refine JC.region ?_
          refine JO.v (Yv.move rfl) (by decide) ?_
          refine JO.v (Yv.move rfl) (by decide) ?_
          refine JO.join 8 90 (.bool true) ?_ ?_
          · skip
            refine JO.gt (g := 82) rfl rfl rfl ?_
            refine JO.v (Yv.move rfl) (by decide) ?_
            refine JO.gt (g := 82) rfl rfl rfl ?_
            refine JO.v (Yv.bin rfl rfl BinR.neq_i) (by decide) ?_
            refine JO.gt (g := 82) rfl rfl rfl ?_
            refine JO.v (Yv.move rfl) (by decide) ?_
            refine JO.gsplit (g := 84) rfl (fun hg86 => ?_) (fun hg86 => ?_)
            · have hg86' := hg86
              try simp only [decide_eq_true_eq, decide_eq_false_iff_not, Bool.not_eq_true', Bool.not_eq_false', ne_eq, Decidable.not_not, Bool.not_eq_true, Bool.and_eq_true, Bool.or_eq_true, BitVec.reduceToNat] at hg86'
              refine JO.gf (g := 85) rfl rfl hg86 (by decide) ?_
              refine JO.gf (g := 85) rfl rfl hg86 (by decide) ?_
              refine JO.gf (g := 85) rfl rfl hg86 (by decide) ?_
              refine JO.gt (g := 82) rfl rfl rfl ?_
              refine JO.v (Yv.pick1 rfl hg86 rfl) (by decide) ?_
              refine JO.v (Yv.pick1 rfl rfl rfl) (by decide) ?_
              refine JO.nil ?_
              refine JQ.head () (by first | (refine ⟨by first | rfl | (simp [*]; done) | (show some _ = some _; simp [*]; done), ?_⟩; repeat (first | exact trivial | refine ⟨rfl, ?_⟩))) (Subs.sub (by repeat (first | exact Subs.nil _ | apply Subs.cons | exact List.Mem.head _ | refine List.Mem.tail _ ?_))) (Picks.perm (by repeat (first | exact Picks.nil _ | apply Picks.cons | exact Pull.here _ _ | apply Pull.there))) ?_
              trivial
            · have hg86' := hg86
              try simp only [decide_eq_true_eq, decide_eq_false_iff_not, Bool.not_eq_true', Bool.not_eq_false', ne_eq, Decidable.not_not, Bool.not_eq_true, Bool.and_eq_true, Bool.or_eq_true, BitVec.reduceToNat] at hg86'
              have heq : b = xs := by obtain ⟨h1, h2⟩ := fin_0 hg86'; have := hinv h1; rw [h2, List.append_nil] at this; exact this
              refine JO.gt (g := 85) rfl rfl hg86 ?_
              refine JO.v (Yv.move rfl) (by decide) ?_
              refine JO.gt (g := 85) rfl rfl hg86 ?_
              refine JO.v (Yv.move rfl) (by decide) ?_
              refine JO.gt (g := 85) rfl rfl hg86 ?_
              refine JO.callB (f11_spec u v79 b xs) body_11 rfl (by repeat (first | exact Picks.nil _ | apply Picks.cons | exact Pull.here _ _ | apply Pull.there)) (by repeat (first | exact Lends.nil _ | apply Lends.cons | exact Lend.same _ _ | exact Lend.row _ _ _ _ _ _ (by decide) | apply Lend.there)) (by rintro _ _ _ ⟨_, h, _⟩; exact h) (by decide) ?_
              rintro _ _ ⟨_, ⟨rfl, _, rfl⟩, hH⟩
              simp only [List.cons_append, List.nil_append] at hH; subst hH
              refine JO.gt (g := 82) rfl rfl rfl ?_
              refine JO.v (Yv.pick0 rfl hg86 rfl) (by decide) ?_
              refine JO.v (Yv.pick1 rfl rfl rfl) (by decide) ?_
              refine JO.nil ?_
              refine JQ.head () (by first | (refine ⟨by first | rfl | (simp [*]; done) | (show some _ = some _; simp [*]; done), ?_⟩; repeat (first | exact trivial | refine ⟨rfl, ?_⟩))) (Subs.sub (by repeat (first | exact Subs.nil _ | apply Subs.cons | exact List.Mem.head _ | refine List.Mem.tail _ ?_))) (Picks.perm (by repeat (first | exact Picks.nil _ | apply Picks.cons | exact Pull.here _ _ | apply Pull.there))) ?_
              trivial
          · skip
            refine JO.v (Yv.assign rfl) (by decide) ?_
            refine JO.nil ?_
            refine JQ.then_normal ?_
            refine JC.ret ?_
            exact JQ.done (.inr rfl) (Γ' := []) (H' := []) (res1 rfl (RV.tmp rfl)) (Subs.sub (by repeat (first | exact Subs.nil _ | apply Subs.cons | exact List.Mem.head _ | refine List.Mem.tail _ ?_))) (Picks.perm (by repeat (first | exact Picks.nil _ | apply Picks.cons | exact Pull.here _ _ | apply Pull.there))) ⟨rfl, rfl, rfl⟩
end Go.Proofs.Ytogbdobncnhjpaa
