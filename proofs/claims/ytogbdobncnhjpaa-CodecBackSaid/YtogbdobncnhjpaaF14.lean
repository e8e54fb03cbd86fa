/- Walk: CodecBack. -/
import Derived.Test.YtogbdobncnhjpaaF13
import Derived.Test.YtogbdobncnhjpaaE8
namespace Go.Proofs.Ytogbdobncnhjpaa
open Go.RowKit
set_option maxRecDepth 100000
set_option linter.unusedVariables false
set_option linter.unusedSimpArgs false

theorem f6_spec (v : Value) (l : List Put) (hok : ∀ d ∈ l, d.ok) (left : Int) :
    Spec Try.prog 6 #[v, it left] [Res.rd v l.length 8 (putCells l), Res.all (putRes l)] []
      (fun r Γ' H' => r = .bool true ∧ Γ' = [] ∧ H' = []) := by
  refine Spec.of_args Try.func6 rfl Try.ntmps6 (by simp) fun w => ?_
  refine JC.seq ?_
  refine JC.region ?_
  refine JO.v (Yv.assign rfl) (by decide) ?_
  refine JO.nil ?_
  refine JQ.then_normal ?_
  refine JC.seq ?_
  refine JC.region ?_
  refine JO.callB f8_spec body_8 rfl (by repeat (first | exact Picks.nil _ | apply Picks.cons | exact Pull.here _ _ | apply Pull.there)) (by repeat (first | exact Lends.nil _ | apply Lends.cons | exact Lend.same _ _ | exact Lend.row _ _ _ _ _ _ (by decide) | apply Lend.there)) (by rintro _ _ _ ⟨_, h, _⟩; exact h) (by decide) ?_
  rintro _ _ ⟨_, ⟨rfl, _, rfl⟩, hH⟩
  simp only [List.cons_append, List.nil_append] at hH; subst hH
  refine JO.v (Yv.assign rfl) (by decide) ?_
  refine JO.nil ?_
  refine JQ.then_normal ?_
  refine JC.seq ?_
  refine JC.region ?_
  refine JO.v (Yv.move rfl) (by decide) ?_
  refine JO.callB (f12_spec v l hok) body_12 rfl (by repeat (first | exact Picks.nil _ | apply Picks.cons | exact Pull.here _ _ | apply Pull.there)) (by repeat (first | exact Lends.nil _ | apply Lends.cons | exact Lend.same _ _ | exact Lend.row _ _ _ _ _ _ (by decide) | apply Lend.there)) (by rintro _ _ _ ⟨_, h, _⟩; exact h) (by decide) ?_
  rintro _ _ ⟨_, ⟨rfl, _, rfl⟩, hH⟩
  simp only [List.cons_append, List.nil_append] at hH; subst hH
  refine JO.v (Yv.assign rfl) (by decide) ?_
  refine JO.nil ?_
  refine JQ.then_normal ?_
  refine JC.seq ?_
  refine JC.seq ?_
  refine JC.region ?_
  refine JO.v (Yv.move rfl) (by decide) ?_
  refine JO.v (Yv.not rfl) (by decide) ?_
  refine JO.nil ?_
  refine JQ.then_normal ?_
  refine JC.cond rfl (fun hc1 => ?_) (fun hc1 => ?_)
  · try simp only [decide_eq_true_eq, decide_eq_false_iff_not, Bool.not_eq_true', Bool.not_eq_false', ne_eq, Decidable.not_not, Bool.not_eq_true, Bool.and_eq_true, Bool.or_eq_true, BitVec.reduceToNat] at hc1
    refine JC.seq ?_
    refine JC.region ?_
    refine JO.v (Yv.move rfl) (by decide) ?_
    refine JO.v (Yv.assign rfl) (by decide) ?_
    refine JO.nil ?_
    refine JQ.then_normal ?_
    refine JC.ret ?_
    refine JQ.then_ret ?_
    exact JQ.done (.inr rfl) (Γ' := []) (H' := []) (res1 rfl (RV.tmp rfl)) (Subs.sub (by repeat (first | exact Subs.nil _ | apply Subs.cons | exact List.Mem.head _ | refine List.Mem.tail _ ?_))) (Picks.perm (by repeat (first | exact Picks.nil _ | apply Picks.cons | exact Pull.here _ _ | apply Pull.there))) ⟨rfl, rfl, rfl⟩
  · try simp only [decide_eq_true_eq, decide_eq_false_iff_not, Bool.not_eq_true', Bool.not_eq_false', ne_eq, Decidable.not_not, Bool.not_eq_true, Bool.and_eq_true, Bool.or_eq_true, BitVec.reduceToNat] at hc1
    refine JC.skip ?_
    refine JQ.then_normal ?_
    refine JC.seq ?_
    refine JC.region ?_
    refine JO.v (Yv.move rfl) (by decide) ?_
    refine JO.callB (f13_spec v l hok (by simpa using hc1)) body_13 rfl (by repeat (first | exact Picks.nil _ | apply Picks.cons | exact Pull.here _ _ | apply Pull.there)) (by repeat (first | exact Lends.nil _ | apply Lends.cons | exact Lend.same _ _ | exact Lend.row _ _ _ _ _ _ (by decide) | apply Lend.there)) (by rintro _ _ _ ⟨_, _, _, h, _⟩; exact h) (by decide) ?_
    rintro _ _ ⟨_, ⟨v1, v2, rfl, _, rfl⟩, hH⟩
    simp only [List.cons_append, List.nil_append] at hH; subst hH
    have hsh : short l = true := by simpa using hc1
    obtain ⟨h20, hfew⟩ := short_few hsh
    have hpl := putOut_len hsh l.length (Nat.le_refl _)
    rw [List.take_length] at hpl
    have hcl := putCells_len hok
    refine JO.freeze (Pull.here _ _) (by decide) ?_
    refine JO.v (Yv.move rfl) (by decide) ?_
    refine JO.v (Yv.extract rfl rfl) (by decide) ?_
    refine JO.v (Yv.extract rfl rfl) (by decide) ?_
    refine JO.v (Yv.assign rfl) (by decide) ?_
    refine JO.v (Yv.assign rfl) (by decide) ?_
    refine JO.nil ?_
    refine JQ.then_normal ?_
    refine JC.seq ?_
    refine JC.region ?_
    refine JO.v (Yv.assign rfl) (by decide) ?_
    refine JO.nil ?_
    refine JQ.then_normal ?_
    refine JC.seq ?_
    refine JC.seq ?_
    refine JC.region ?_
    refine JO.v (Yv.assign rfl) (by decide) ?_
    refine JO.nil ?_
    refine JQ.then_normal ?_
    refine JC.block ?_
    refine JC.loop (ι := Nat × Value) (fun x => x.1 ≤ 2 ∧ (x.1 ≤ 1 → x.2 = v1)) (fun x => [(0, v), (1, it left), (5, .bool true), (7, x.2), (9, .bool true), (10, it (x.1 : Int))]) (fun x => [Res.rd v1 (putOut l).length 1 ((putOut l).map u8), Res.rd v l.length 8 (putCells l), Res.all (putRes l)]) (fun x => []) (fun x => 2 - x.1) (0, v1) (by repeat (first | exact trivial | refine ⟨by first | rfl | (simp; done), ?_⟩)) (Subs.sub (by repeat (first | exact Subs.nil _ | apply Subs.cons | exact List.Mem.head _ | refine List.Mem.tail _ ?_))) (Picks.perm (by repeat (first | exact Picks.nil _ | apply Picks.cons | exact Pull.here _ _ | apply Pull.there))) ?_ (fun x hx => ?_)
    · exact ⟨Nat.zero_le _, fun _ => rfl⟩
    obtain ⟨n, v7⟩ := x
    obtain ⟨hn2, hv7⟩ := hx
    dsimp only at hn2 hv7 ⊢
    refine JC.seq ?_
    refine JC.seq ?_
    refine JC.region ?_
    refine JO.v (Yv.move rfl) (by decide) ?_
    refine JO.v (Yv.bin rfl rfl BinR.lss_i) (by decide) ?_
    refine JO.nil ?_
    refine JQ.then_normal ?_
    refine JC.cond rfl (fun hc2 => ?_) (fun hc2 => ?_)
    · try simp only [decide_eq_true_eq, decide_eq_false_iff_not, Bool.not_eq_true', Bool.not_eq_false', ne_eq, Decidable.not_not, Bool.not_eq_true, Bool.and_eq_true, Bool.or_eq_true, BitVec.reduceToNat] at hc2
      refine JC.skip ?_
      refine JQ.then_normal ?_
      refine JC.seq ?_
      refine JC.block ?_
      refine JC.cut (ι := Value × B8) (fun x => Inv l n 0 ⟨x.2, 0⟩ ∧ x.2.length ≤ 30000 ∧ (n = 0 → x.1 = v1)) (fun x => [(0, v), (1, it left), (5, .bool true), (7, x.1), (9, .bool true), (10, it (n : Int))]) (fun x => [Res.rd x.1 x.2.length 1 (x.2.map u8), Res.rd v1 (putOut l).length 1 ((putOut l).map u8), Res.rd v l.length 8 (putCells l), Res.all (putRes l)]) (fun x => []) ?_ (fun x hx => ?_)
      · skip
        refine JC.seq ?_
        refine JC.region ?_
        refine JO.v (Yv.move rfl) (by decide) ?_
        refine JO.v (Yv.bin rfl rfl BinR.eql_i) (by decide) ?_
        refine JO.nil ?_
        refine JQ.then_normal ?_
        refine JC.cond rfl (fun hc3 => ?_) (fun hc3 => ?_)
        · try simp only [decide_eq_true_eq, decide_eq_false_iff_not, Bool.not_eq_true', Bool.not_eq_false', ne_eq, Decidable.not_not, Bool.not_eq_true, Bool.and_eq_true, Bool.or_eq_true, BitVec.reduceToNat] at hc3
          have hn1 : n = 1 := by omega
          obtain rfl := hv7 (by omega)
          refine JC.seq ?_
          refine JC.seq ?_
          refine JC.region ?_
          refine JO.v (Yv.move rfl) (by decide) ?_
          refine JO.v (Yv.bin rfl rfl BinR.lss_i) (by decide) ?_
          refine JO.v (Yv.move rfl) (by decide) ?_
          refine JO.join 5 39 (.bool (decide (left < 0 ∨ left ≥ ((putOut l).length : Int)))) ?_ ?_
          · skip
            refine JO.gsplit (g := 33) rfl (fun hg27 => ?_) (fun hg27 => ?_)
            · have hg27' := hg27
              try simp only [decide_eq_true_eq, decide_eq_false_iff_not, Bool.not_eq_true', Bool.not_eq_false', ne_eq, Decidable.not_not, Bool.not_eq_true, Bool.and_eq_true, Bool.or_eq_true, BitVec.reduceToNat] at hg27'
              refine JO.gf (g := 34) rfl rfl hg27 (by decide) ?_
              refine JO.gf (g := 34) rfl rfl hg27 (by decide) ?_
              refine JO.gf (g := 34) rfl rfl hg27 (by decide) ?_
              refine JO.gf (g := 34) rfl rfl hg27 (by decide) ?_
              refine JO.v (Yv.pick1 rfl hg27 rfl) (by decide) ?_
              refine JO.nil ?_
              refine JQ.head () (by first | (refine ⟨by first | rfl | (simp [*]; done) | (show some _ = some _; simp [*]; done), ?_⟩; repeat (first | exact trivial | refine ⟨rfl, ?_⟩))) (Subs.sub (by repeat (first | exact Subs.nil _ | apply Subs.cons | exact List.Mem.head _ | refine List.Mem.tail _ ?_))) (Picks.perm (by repeat (first | exact Picks.nil _ | apply Picks.cons | exact Pull.here _ _ | apply Pull.there))) ?_
              trivial
            · have hg27' := hg27
              try simp only [decide_eq_true_eq, decide_eq_false_iff_not, Bool.not_eq_true', Bool.not_eq_false', ne_eq, Decidable.not_not, Bool.not_eq_true, Bool.and_eq_true, Bool.or_eq_true, BitVec.reduceToNat] at hg27'
              refine JO.gt (g := 34) rfl rfl hg27 ?_
              refine JO.v (Yv.move rfl) (by decide) ?_
              refine JO.gt (g := 34) rfl rfl hg27 ?_
              refine JO.v (Yv.move rfl) (by decide) ?_
              refine JO.gt (g := 34) rfl rfl hg27 ?_
              first | refine JO.v (Yv.len_s Try.underlying25 rfl) (by decide) ?_ | refine JO.v (Yv.lenRd Try.underlying25 rfl (by repeat (first | exact Lend.same _ _ | exact Lend.row _ _ _ _ _ _ (by decide) | apply Lend.there))) (by decide) ?_
              refine JO.gt (g := 34) rfl rfl hg27 ?_
              refine JO.v (Yv.bin rfl rfl BinR.geq_i) (by decide) ?_
              refine JO.v (Yv.pick0 rfl hg27 rfl) (by decide) ?_
              refine JO.nil ?_
              refine JQ.head () (by first | (refine ⟨by first | rfl | (simp [*]; done) | (show some _ = some _; simp [*]; done), ?_⟩; repeat (first | exact trivial | refine ⟨rfl, ?_⟩))) (Subs.sub (by repeat (first | exact Subs.nil _ | apply Subs.cons | exact List.Mem.head _ | refine List.Mem.tail _ ?_))) (Picks.perm (by repeat (first | exact Picks.nil _ | apply Picks.cons | exact Pull.here _ _ | apply Pull.there))) ?_
              trivial
          · skip
            refine JO.nil ?_
            refine JQ.then_normal ?_
            refine JC.cond rfl (fun hc4 => ?_) (fun hc4 => ?_)
            · try simp only [decide_eq_true_eq, decide_eq_false_iff_not, Bool.not_eq_true', Bool.not_eq_false', ne_eq, Decidable.not_not, Bool.not_eq_true, Bool.and_eq_true, Bool.or_eq_true, BitVec.reduceToNat] at hc4
              refine JC.seq ?_
              refine JC.region ?_
              refine JO.v (Yv.move rfl) (by decide) ?_
              refine JO.v (Yv.move rfl) (by decide) ?_
              refine JO.gt (g := 41) rfl rfl rfl ?_
              refine JO.v (Yv.move rfl) (by decide) ?_
              refine JO.v (Yv.pick1 rfl rfl rfl) (by decide) ?_
              refine JO.v (Yv.assign rfl) (by decide) ?_
              refine JO.nil ?_
              refine JQ.then_normal ?_
              refine JC.ret ?_
              refine JQ.then_ret ?_
              refine JQ.then_ret ?_
              refine JQ.block_ret ?_
              refine JQ.then_ret ?_
              refine JQ.then_ret ?_
              refine JQ.block_ret ?_
              refine JQ.then_ret ?_
              exact JQ.done (.inr rfl) (Γ' := []) (H' := []) (res1 rfl (RV.tmp rfl)) (Subs.sub (by repeat (first | exact Subs.nil _ | apply Subs.cons | exact List.Mem.head _ | refine List.Mem.tail _ ?_))) (Picks.perm (by repeat (first | exact Picks.nil _ | apply Picks.cons | exact Pull.here _ _ | apply Pull.there))) ⟨rfl, rfl, rfl⟩
            · try simp only [decide_eq_true_eq, decide_eq_false_iff_not, Bool.not_eq_true', Bool.not_eq_false', ne_eq, Decidable.not_not, Bool.not_eq_true, Bool.and_eq_true, Bool.or_eq_true, BitVec.reduceToNat] at hc4
              have hlt : left.toNat < (putOut l).length := by omega
              refine JC.skip ?_
              refine JQ.then_normal ?_
              refine JC.region ?_
              refine JO.v (Yv.move rfl) (by decide) ?_
              refine JO.v (Yv.as (v' := it ((left.toNat : Nat) : Int)) (Yv.move rfl) (congrArg it (by omega))) (by decide) ?_
              refine JO.cut (0) (left.toNat) Try.underlying25 sz_5 rfl (by repeat (first | exact List.Mem.head _ | refine List.Mem.tail _ ?_)) rfl ⟨_, rfl⟩ (by first | (simp; done) | omega | (simp; omega)) (by first | (simp; done) | omega | (simp; omega)) (by decide) fun v46 => ?_
              rw [rd_take (by omega)]
              refine JO.v (Yv.assign rfl) (by decide) ?_
              refine JO.nil ?_
              first | refine JQ.head (v46, (putOut l).take left.toNat) (by (repeat (first | exact trivial | refine ⟨by first | rfl | (simp; done), ?_⟩)); done) (Subs.sub (by repeat (first | exact Subs.nil _ | apply Subs.cons | exact List.Mem.head _ | refine List.Mem.tail _ ?_))) (Picks.perm (by repeat (first | exact Picks.nil _ | apply Picks.cons | exact Pull.here _ _ | apply Pull.there))) ?_ | refine JQ.head (v7, putOut l) (by (repeat (first | exact trivial | refine ⟨by first | rfl | (simp; done), ?_⟩)); done) (Subs.sub (by repeat (first | exact Subs.nil _ | apply Subs.cons | exact List.Mem.head _ | refine List.Mem.tail _ ?_))) (Picks.perm (by repeat (first | exact Picks.nil _ | apply Picks.cons | exact Pull.here _ _ | apply Pull.there))) ?_
              first | exact ⟨.inl ⟨hn0, rfl⟩, by dsimp only; omega, fun _ => rfl⟩ | exact ⟨.inr ⟨hn1, .inr ⟨left.toNat, hlt, rfl⟩⟩, by dsimp only; rw [List.length_take]; omega, fun h => by omega⟩
        · try simp only [decide_eq_true_eq, decide_eq_false_iff_not, Bool.not_eq_true', Bool.not_eq_false', ne_eq, Decidable.not_not, Bool.not_eq_true, Bool.and_eq_true, Bool.or_eq_true, BitVec.reduceToNat] at hc3
          have hn0 : n = 0 := by omega
          obtain rfl := hv7 (by omega)
          refine JC.skip ?_
          first | refine JQ.head (v46, (putOut l).take left.toNat) (by (repeat (first | exact trivial | refine ⟨by first | rfl | (simp; done), ?_⟩)); done) (Subs.sub (by repeat (first | exact Subs.nil _ | apply Subs.cons | exact List.Mem.head _ | refine List.Mem.tail _ ?_))) (Picks.perm (by repeat (first | exact Picks.nil _ | apply Picks.cons | exact Pull.here _ _ | apply Pull.there))) ?_ | refine JQ.head (v7, putOut l) (by (repeat (first | exact trivial | refine ⟨by first | rfl | (simp; done), ?_⟩)); done) (Subs.sub (by repeat (first | exact Subs.nil _ | apply Subs.cons | exact List.Mem.head _ | refine List.Mem.tail _ ?_))) (Picks.perm (by repeat (first | exact Picks.nil _ | apply Picks.cons | exact Pull.here _ _ | apply Pull.there))) ?_
          first | exact ⟨.inl ⟨hn0, rfl⟩, by dsimp only; omega, fun _ => rfl⟩ | exact ⟨.inr ⟨hn1, .inr ⟨left.toNat, hlt, rfl⟩⟩, by dsimp only; rw [List.length_take]; omega, fun h => by omega⟩
      · skip
        obtain ⟨v7', bb⟩ := x
        obtain ⟨hstart, hbb, hv7'⟩ := hx
        dsimp only at hstart hbb hv7' ⊢
        refine JC.seq ?_
        refine JC.region ?_
        refine JO.v (Yv.move rfl) (by decide) ?_
        refine JO.callB (f14_spec v7' bb) body_14 rfl (by repeat (first | exact Picks.nil _ | apply Picks.cons | exact Pull.here _ _ | apply Pull.there)) (by repeat (first | exact Lends.nil _ | apply Lends.cons | exact Lend.same _ _ | exact Lend.row _ _ _ _ _ _ (by decide) | apply Lend.there)) (by rintro _ _ _ ⟨_, _, h, _⟩; exact h) (by decide) ?_
        rintro _ _ ⟨_, ⟨p, rfl, _, rfl⟩, hH⟩
        simp only [List.cons_append, List.nil_append] at hH; subst hH
        refine JO.v (Yv.assign rfl) (by decide) ?_
        refine JO.nil ?_
        refine JQ.then_normal ?_
        refine JC.seq ?_
        refine JC.seq ?_
        refine JC.region ?_
        refine JO.v (Yv.move rfl) (by decide) ?_
        refine JO.v (Yv.as (v' := .bool false) (Yv.bin rfl rfl (BinR.eql_p Try.underlying37)) rfl) (by decide) ?_
        refine JO.nil ?_
        refine JQ.then_normal ?_
        refine JC.cond rfl (fun hc5 => ?_) (fun hc5 => ?_)
        · try simp only [decide_eq_true_eq, decide_eq_false_iff_not, Bool.not_eq_true', Bool.not_eq_false', ne_eq, Decidable.not_not, Bool.not_eq_true, Bool.and_eq_true, Bool.or_eq_true, BitVec.reduceToNat] at hc5
          exact absurd hc5 (by decide)
        · try simp only [decide_eq_true_eq, decide_eq_false_iff_not, Bool.not_eq_true', Bool.not_eq_false', ne_eq, Decidable.not_not, Bool.not_eq_true, Bool.and_eq_true, Bool.or_eq_true, BitVec.reduceToNat] at hc5
          refine JC.skip ?_
          refine JQ.then_normal ?_
          refine JC.seq ?_
          refine JC.seq ?_
          refine JC.region ?_
          refine JO.v (Yv.assign rfl) (by decide) ?_
          refine JO.nil ?_
          refine JQ.then_normal ?_
          refine JC.block ?_
          refine JC.loop (ι := Nat × Rdr × Value) (fun x => x.1 ≤ l.length ∧ Inv l n x.1 x.2.1 ∧ x.2.1.b.length ≤ 30000) (fun x => [(0, v), (1, it left), (5, .bool true), (7, v7'), (9, .bool true), (10, it (n : Int)), (11, ptr p 0), (12, it (x.1 : Int))]) (fun x => [Res.rd x.2.2 x.2.1.b.length 1 (x.2.1.b.map u8), Res.rd v1 (putOut l).length 1 ((putOut l).map u8), Res.rd v l.length 8 (putCells l), Res.all (putRes l)]) (fun x => [Res.cells p [x.2.2, it x.2.1.e] 64]) (fun x => l.length - x.1) (0, ⟨bb, 0⟩, v7') (by repeat (first | exact trivial | refine ⟨by first | rfl | (simp; done), ?_⟩)) (Subs.sub (by repeat (first | exact Subs.nil _ | apply Subs.cons | exact List.Mem.head _ | refine List.Mem.tail _ ?_))) (Picks.perm (by repeat (first | exact Picks.nil _ | apply Picks.cons | exact Pull.here _ _ | apply Pull.there))) ?_ (fun x hx => ?_)
          · exact ⟨Nat.zero_le _, hstart, hbb⟩
          obtain ⟨k, r, v'⟩ := x
          obtain ⟨hk, hinv, hrb⟩ := hx
          dsimp only at hk hinv hrb ⊢
          refine JC.seq ?_
          refine JC.seq ?_
          refine JC.region ?_
          refine JO.v (Yv.move rfl) (by decide) ?_
          refine JO.v (Yv.move rfl) (by decide) ?_
          first | refine JO.v (Yv.len_s Try.underlying32 rfl) (by decide) ?_ | refine JO.v (Yv.lenRd Try.underlying32 rfl (by repeat (first | exact Lend.same _ _ | exact Lend.row _ _ _ _ _ _ (by decide) | apply Lend.there))) (by decide) ?_
          refine JO.v (Yv.bin rfl rfl BinR.lss_i) (by decide) ?_
          refine JO.nil ?_
          refine JQ.then_normal ?_
          refine JC.cond rfl (fun hc6 => ?_) (fun hc6 => ?_)
          · try simp only [decide_eq_true_eq, decide_eq_false_iff_not, Bool.not_eq_true', Bool.not_eq_false', ne_eq, Decidable.not_not, Bool.not_eq_true, Bool.and_eq_true, Bool.or_eq_true, BitVec.reduceToNat] at hc6
            obtain ⟨hf1, hf2⟩ := hfew k (by omega)
            obtain ⟨hinv2, hfine⟩ := Inv.step hok hsh (by omega) hinv
            refine JC.skip ?_
            refine JQ.then_normal ?_
            refine JC.seq ?_
            refine JC.block ?_
            refine JC.seq ?_
            refine JC.region ?_
            refine JO.v (Yv.assign rfl) (by decide) ?_
            refine JO.nil ?_
            refine JQ.then_normal ?_
            refine JC.cut (ι := Value) (fun x => True) (fun x => [(0, v), (1, it left), (5, .bool true), (7, v7'), (9, .bool true), (10, it (n : Int)), (11, ptr p 0), (12, it (k : Int)), (13, .bool (fineB r (putAt l k)))]) (fun x => [Res.rd x (stepP r (putAt l k)).b.length 1 ((stepP r (putAt l k)).b.map u8), Res.rd v1 (putOut l).length 1 ((putOut l).map u8), Res.rd v l.length 8 (putCells l), Res.all (putRes l)]) (fun x => [Res.cells p [x, it (stepP r (putAt l k)).e] 64]) ?_ (fun x hx => ?_)
            · skip
              refine JC.seq ?_
              refine JC.region ?_
              refine JO.v (Yv.move rfl) (by decide) ?_
              refine JO.v (Yv.move rfl) (by decide) ?_
              first | refine JO.v (Yv.indexRow Try.underlying32 sz_52 rfl rfl (by repeat (first | exact List.Mem.head _ | refine List.Mem.tail _ ?_)) (by first | exact ltb rfl | (simp; done) | (simp; omega) | omega | (simp [*]; omega))) (by decide) ?_ | refine JO.v (Yv.indexRd Try.underlying32 sz_52 rfl rfl (by repeat (first | exact Lend.same _ _ | exact Lend.row _ _ _ _ _ _ (by decide) | apply Lend.there)) (by decide) (by first | exact ltb rfl | (simp; done) | (simp; omega) | omega | (simp [*]; omega))) (by decide) ?_
              refine JO.v (Yv.fieldAddr fa_52_0 rfl) (by decide) ?_
              refine JO.v (Yv.load1 one_3 rfl (by first | exact Kn.own (by repeat (first | exact List.Mem.head _ | refine List.Mem.tail _ ?_)) (by first | first | exact put_0 hok (by omega) | exact put_1 hok (by omega) | exact put_6 hok (by omega) | exact put_7 hok (by omega) | rfl | exact tab_get (by first | omega | (simp; omega)) | exact gm (d := 0) (by first | omega | (simp; omega))) | exact Kn.ro (by repeat (first | exact List.Mem.head _ | refine List.Mem.tail _ ?_)) (by first | first | exact put_0 hok (by omega) | exact put_1 hok (by omega) | exact put_6 hok (by omega) | exact put_7 hok (by omega) | rfl | exact tab_get (by first | omega | (simp; omega)) | exact gm (d := 0) (by first | omega | (simp; omega))) | exact Kn.row (by repeat (first | exact List.Mem.head _ | refine List.Mem.tail _ ?_)) (by first | first | exact put_0 hok (by omega) | exact put_1 hok (by omega) | exact put_6 hok (by omega) | exact put_7 hok (by omega) | rfl | exact tab_get (by first | omega | (simp; omega)) | exact gm (d := 0) (by first | omega | (simp; omega))) | exact Kn.rd (by repeat (first | exact Lend.same _ _ | exact Lend.row _ _ _ _ _ _ (by decide) | apply Lend.there)) (by first | first | exact put_0 hok (by omega) | exact put_1 hok (by omega) | exact put_6 hok (by omega) | exact put_7 hok (by omega) | rfl | exact tab_get (by first | omega | (simp; omega)) | exact gm (d := 0) (by first | omega | (simp; omega))) | exact Kn.rd2 (by repeat (first | exact Lend.same _ _ | exact Lend.row _ _ _ _ _ _ (by decide) | apply Lend.there)) (by first | first | exact put_0 hok (by omega) | exact put_1 hok (by omega) | exact put_6 hok (by omega) | exact put_7 hok (by omega) | rfl | exact tab_get (by first | omega | (simp; omega)) | exact gm (d := 0) (by first | omega | (simp; omega))))) (by decide) ?_
              refine JO.nil ?_
              refine JQ.then_normal ?_
              refine JC.block ?_
              refine JC.seq ?_
              refine JC.region ?_
              refine JO.v (Yv.bin rfl rfl BinR.eql_i) (by decide) ?_
              refine JO.v (Yv.assign rfl) (by decide) ?_
              refine JO.nil ?_
              refine JQ.then_normal ?_
              refine JC.cond rfl (fun hc7 => ?_) (fun hc7 => ?_)
              · try simp only [decide_eq_true_eq, decide_eq_false_iff_not, Bool.not_eq_true', Bool.not_eq_false', ne_eq, Decidable.not_not, Bool.not_eq_true, Bool.and_eq_true, Bool.or_eq_true, BitVec.reduceToNat] at hc7
                have hS : stepP r (putAt l k) = r.smA 18446744073709551615#64 := by rw [stepP, if_pos hc7]
                have hF : fineB r (putAt l k) = decide (r.sm 18446744073709551615#64 = (putAt l k).n) := by rw [fineB, if_pos hc7]
                refine JC.draw [0, 2, 3, 4, 5, 6, 1, 7, 8] (fun i => ([1] : List Nat).contains i) (fun i => ([1] : List Nat).contains i) (fun i => ([0, 2, 3, 4, 5, 6, 7, 8] : List Nat).contains i) mixed (by kernel_rfl) (by decide) (by kernel_rfl) ?_
                refine JR.u rfl rfl rfl (Yv.move rfl) (by decide) ?_
                refine JR.u rfl rfl rfl (Yv.move rfl) (by decide) ?_
                refine JR.u rfl rfl rfl (Yv.move rfl) (by decide) ?_
                first | refine JR.u rfl rfl rfl (Yv.indexRow Try.underlying32 sz_52 rfl rfl (by repeat (first | exact List.Mem.head _ | refine List.Mem.tail _ ?_)) (by first | exact ltb rfl | (simp; done) | (simp; omega) | omega | (simp [*]; omega))) (by decide) ?_ | refine JR.u rfl rfl rfl (Yv.indexRd Try.underlying32 sz_52 rfl rfl (by repeat (first | exact Lend.same _ _ | exact Lend.row _ _ _ _ _ _ (by decide) | apply Lend.there)) (by decide) (by first | exact ltb rfl | (simp; done) | (simp; omega) | omega | (simp [*]; omega))) (by decide) ?_
                refine JR.u rfl rfl rfl (Yv.fieldAddr fa_52_1 rfl) (by decide) ?_
                refine JR.u rfl rfl rfl (Yv.load1 one_22 rfl (by first | exact Kn.own (by repeat (first | exact List.Mem.head _ | refine List.Mem.tail _ ?_)) (by first | first | exact put_0 hok (by omega) | exact put_1 hok (by omega) | exact put_6 hok (by omega) | exact put_7 hok (by omega) | rfl | exact tab_get (by first | omega | (simp; omega)) | exact gm (d := 0) (by first | omega | (simp; omega))) | exact Kn.ro (by repeat (first | exact List.Mem.head _ | refine List.Mem.tail _ ?_)) (by first | first | exact put_0 hok (by omega) | exact put_1 hok (by omega) | exact put_6 hok (by omega) | exact put_7 hok (by omega) | rfl | exact tab_get (by first | omega | (simp; omega)) | exact gm (d := 0) (by first | omega | (simp; omega))) | exact Kn.row (by repeat (first | exact List.Mem.head _ | refine List.Mem.tail _ ?_)) (by first | first | exact put_0 hok (by omega) | exact put_1 hok (by omega) | exact put_6 hok (by omega) | exact put_7 hok (by omega) | rfl | exact tab_get (by first | omega | (simp; omega)) | exact gm (d := 0) (by first | omega | (simp; omega))) | exact Kn.rd (by repeat (first | exact Lend.same _ _ | exact Lend.row _ _ _ _ _ _ (by decide) | apply Lend.there)) (by first | first | exact put_0 hok (by omega) | exact put_1 hok (by omega) | exact put_6 hok (by omega) | exact put_7 hok (by omega) | rfl | exact tab_get (by first | omega | (simp; omega)) | exact gm (d := 0) (by first | omega | (simp; omega))) | exact Kn.rd2 (by repeat (first | exact Lend.same _ _ | exact Lend.row _ _ _ _ _ _ (by decide) | apply Lend.there)) (by first | first | exact put_0 hok (by omega) | exact put_1 hok (by omega) | exact put_6 hok (by omega) | exact put_7 hok (by omega) | rfl | exact tab_get (by first | omega | (simp; omega)) | exact gm (d := 0) (by first | omega | (simp; omega))))) (by decide) ?_
                refine JR.m rfl rfl (Mv.call body_15 rfl (f15_spec p v' r 18446744073709551615#64) (by repeat (first | exact Picks.nil _ | apply Picks.cons | exact Pull.here _ _ | apply Pull.there)) (by repeat (first | exact Subs.nil _ | apply Subs.cons | exact List.Mem.head _ | refine List.Mem.tail _ ?_))) (by decide) ?_
                rintro _ _ _ ⟨_, _, ⟨w2, rfl, rfl, rfl⟩, hΓ, hH⟩
                simp only [List.cons_append, List.nil_append] at hΓ hH; subst hΓ hH
                refine ⟨⟨Subs.sub (by repeat (first | exact Subs.nil _ | apply Subs.cons | exact List.Mem.head _ | refine List.Mem.tail _ ?_)), .inl rfl⟩, ?_⟩
                refine JR.u rfl rfl rfl (Yv.bin rfl rfl (BinR.eql_u64)) (by decide) ?_
                refine JR.u rfl rfl rfl (Yv.assign rfl) (by decide) ?_
                refine JR.nil ?_
                refine JQ.block_normal ?_
                rw [hS, hF]
                refine JQ.head _ (by repeat (first | exact trivial | refine ⟨by first | rfl | (simp; done), ?_⟩)) (Subs.sub (by repeat (first | exact Subs.nil _ | apply Subs.cons | exact List.Mem.head _ | refine List.Mem.tail _ ?_))) (Picks.perm (by repeat (first | exact Picks.nil _ | apply Picks.cons | exact Pull.here _ _ | apply Pull.there))) ?_
                trivial
              · try simp only [decide_eq_true_eq, decide_eq_false_iff_not, Bool.not_eq_true', Bool.not_eq_false', ne_eq, Decidable.not_not, Bool.not_eq_true, Bool.and_eq_true, Bool.or_eq_true, BitVec.reduceToNat] at hc7
                refine JC.seq ?_
                refine JC.region ?_
                refine JO.v (Yv.bin rfl rfl BinR.eql_i) (by decide) ?_
                refine JO.v (Yv.assign rfl) (by decide) ?_
                refine JO.nil ?_
                refine JQ.then_normal ?_
                refine JC.cond rfl (fun hc8 => ?_) (fun hc8 => ?_)
                · try simp only [decide_eq_true_eq, decide_eq_false_iff_not, Bool.not_eq_true', Bool.not_eq_false', ne_eq, Decidable.not_not, Bool.not_eq_true, Bool.and_eq_true, Bool.or_eq_true, BitVec.reduceToNat] at hc8
                  have hS : stepP r (putAt l k) = r.aft 32 := by rw [stepP, if_neg hc7, if_pos hc8]
                  have hF : fineB r (putAt l k) = decide (ofBytes (r.out 32) = (putAt l k).a) := by rw [fineB, if_neg hc7, if_pos hc8]
                  refine JC.draw [0, 2, 3, 4, 5, 6, 1, 7, 8] (fun i => ([1] : List Nat).contains i) (fun i => ([1] : List Nat).contains i) (fun i => ([0, 2, 3, 4, 5, 6, 7, 8] : List Nat).contains i) mixed (by kernel_rfl) (by decide) (by kernel_rfl) ?_
                  refine JR.u rfl rfl rfl (Yv.move rfl) (by decide) ?_
                  refine JR.u rfl rfl rfl (Yv.move rfl) (by decide) ?_
                  refine JR.u rfl rfl rfl (Yv.move rfl) (by decide) ?_
                  first | refine JR.u rfl rfl rfl (Yv.indexRow Try.underlying32 sz_52 rfl rfl (by repeat (first | exact List.Mem.head _ | refine List.Mem.tail _ ?_)) (by first | exact ltb rfl | (simp; done) | (simp; omega) | omega | (simp [*]; omega))) (by decide) ?_ | refine JR.u rfl rfl rfl (Yv.indexRd Try.underlying32 sz_52 rfl rfl (by repeat (first | exact Lend.same _ _ | exact Lend.row _ _ _ _ _ _ (by decide) | apply Lend.there)) (by decide) (by first | exact ltb rfl | (simp; done) | (simp; omega) | omega | (simp [*]; omega))) (by decide) ?_
                  refine JR.u rfl rfl rfl (Yv.fieldAddr fa_52_2 rfl) (by decide) ?_
                  first | refine JR.u rfl rfl rfl (Yv.as (v' := natV (putAt l k).a) (Yv.loadOwn agg_44 (by repeat (first | exact List.Mem.head _ | refine List.Mem.tail _ ?_)) rfl (by rw [hcl]; omega)) (congrArg (fun l : List Value => Value.agg l.toArray) (put_2 hok (by omega)))) (by decide) ?_ | refine JR.u rfl rfl rfl (Yv.as (v' := natV (putAt l k).a) (Yv.loadOwnAt agg_44 (by repeat (first | exact List.Mem.head _ | refine List.Mem.tail _ ?_)) rfl (by rw [hcl]; omega)) (congrArg (fun l : List Value => Value.agg l.toArray) (put_2 hok (by omega)))) (by decide) ?_ | refine JR.u rfl rfl rfl (Yv.as (v' := natV (putAt l k).a) (Yv.loadRow agg_44 (by repeat (first | exact List.Mem.head _ | refine List.Mem.tail _ ?_)) rfl (by rw [hcl]; omega)) (congrArg (fun l : List Value => Value.agg l.toArray) (put_2 hok (by omega)))) (by decide) ?_ | refine JR.u rfl rfl rfl (Yv.as (v' := natV (putAt l k).a) (Yv.loadRd agg_44 (by repeat (first | exact Lend.same _ _ | exact Lend.row _ _ _ _ _ _ (by decide) | apply Lend.there)) rfl (by rw [hcl]; omega)) (congrArg (fun l : List Value => Value.agg l.toArray) (put_2 hok (by omega)))) (by decide) ?_ | refine JR.u rfl rfl rfl (Yv.as (v' := natV (putAt l k).a) (Yv.loadRo agg_44 (by repeat (first | exact List.Mem.head _ | refine List.Mem.tail _ ?_)) rfl (by rw [hcl]; omega)) (congrArg (fun l : List Value => Value.agg l.toArray) (put_2 hok (by omega)))) (by decide) ?_
                  refine JR.m rfl rfl (Mv.call body_16 rfl (f16_spec p v' r) (by repeat (first | exact Picks.nil _ | apply Picks.cons | exact Pull.here _ _ | apply Pull.there)) (by repeat (first | exact Subs.nil _ | apply Subs.cons | exact List.Mem.head _ | refine List.Mem.tail _ ?_))) (by decide) ?_
                  rintro _ _ _ ⟨_, _, ⟨w2, rfl, rfl, rfl⟩, hΓ, hH⟩
                  simp only [List.cons_append, List.nil_append] at hΓ hH; subst hΓ hH
                  refine ⟨⟨Subs.sub (by repeat (first | exact Subs.nil _ | apply Subs.cons | exact List.Mem.head _ | refine List.Mem.tail _ ?_)), .inl rfl⟩, ?_⟩
                  refine JR.u rfl rfl rfl (Yv.bin rfl rfl (eql44 (ofBytes_length _) (hok _ (putAt_mem (by omega))).1)) (by decide) ?_
                  refine JR.u rfl rfl rfl (Yv.assign rfl) (by decide) ?_
                  refine JR.nil ?_
                  refine JQ.block_normal ?_
                  rw [hS, hF]
                  refine JQ.head _ (by repeat (first | exact trivial | refine ⟨by first | rfl | (simp; done), ?_⟩)) (Subs.sub (by repeat (first | exact Subs.nil _ | apply Subs.cons | exact List.Mem.head _ | refine List.Mem.tail _ ?_))) (Picks.perm (by repeat (first | exact Picks.nil _ | apply Picks.cons | exact Pull.here _ _ | apply Pull.there))) ?_
                  trivial
                · try simp only [decide_eq_true_eq, decide_eq_false_iff_not, Bool.not_eq_true', Bool.not_eq_false', ne_eq, Decidable.not_not, Bool.not_eq_true, Bool.and_eq_true, Bool.or_eq_true, BitVec.reduceToNat] at hc8
                  refine JC.seq ?_
                  refine JC.region ?_
                  refine JO.v (Yv.bin rfl rfl BinR.eql_i) (by decide) ?_
                  refine JO.v (Yv.assign rfl) (by decide) ?_
                  refine JO.nil ?_
                  refine JQ.then_normal ?_
                  refine JC.cond rfl (fun hc9 => ?_) (fun hc9 => ?_)
                  · try simp only [decide_eq_true_eq, decide_eq_false_iff_not, Bool.not_eq_true', Bool.not_eq_false', ne_eq, Decidable.not_not, Bool.not_eq_true, Bool.and_eq_true, Bool.or_eq_true, BitVec.reduceToNat] at hc9
                    have hS : stepP r (putAt l k) = r.byA 1000 := by rw [stepP, if_neg hc7, if_neg hc8, if_pos hc9]
                    have hF : fineB r (putAt l k) = decide (r.byO 1000 = (putAt l k).b) := by rw [fineB, if_neg hc7, if_neg hc8, if_pos hc9]
                    refine JC.open (r := Res.rd (putAt l k).bv (putAt l k).b.length 1 ((putAt l k).b.map u8)) (by repeat (first | exact List.Mem.head _ | refine List.Mem.tail _ ?_)) (put_rb (by omega)) ?_
                    refine JC.draw [0, 2, 3, 4, 5, 6, 1, 7, 8] (fun i => ([1, 7] : List Nat).contains i) (fun i => ([1, 7] : List Nat).contains i) (fun i => ([0, 2, 3, 4, 5, 6, 8] : List Nat).contains i) mixed (by kernel_rfl) (by decide) (by kernel_rfl) ?_
                    refine JR.u rfl rfl rfl (Yv.move rfl) (by decide) ?_
                    refine JR.u rfl rfl rfl (Yv.move rfl) (by decide) ?_
                    refine JR.u rfl rfl rfl (Yv.move rfl) (by decide) ?_
                    first | refine JR.u rfl rfl rfl (Yv.indexRow Try.underlying32 sz_52 rfl rfl (by repeat (first | exact List.Mem.head _ | refine List.Mem.tail _ ?_)) (by first | exact ltb rfl | (simp; done) | (simp; omega) | omega | (simp [*]; omega))) (by decide) ?_ | refine JR.u rfl rfl rfl (Yv.indexRd Try.underlying32 sz_52 rfl rfl (by repeat (first | exact Lend.same _ _ | exact Lend.row _ _ _ _ _ _ (by decide) | apply Lend.there)) (by decide) (by first | exact ltb rfl | (simp; done) | (simp; omega) | omega | (simp [*]; omega))) (by decide) ?_
                    refine JR.u rfl rfl rfl (Yv.fieldAddr fa_52_3 rfl) (by decide) ?_
                    refine JR.u rfl rfl rfl (Yv.load1 one_25 rfl (by first | exact Kn.own (by repeat (first | exact List.Mem.head _ | refine List.Mem.tail _ ?_)) (by first | first | exact put_0 hok (by omega) | exact put_1 hok (by omega) | exact put_6 hok (by omega) | exact put_7 hok (by omega) | rfl | exact tab_get (by first | omega | (simp; omega)) | exact gm (d := 0) (by first | omega | (simp; omega))) | exact Kn.ro (by repeat (first | exact List.Mem.head _ | refine List.Mem.tail _ ?_)) (by first | first | exact put_0 hok (by omega) | exact put_1 hok (by omega) | exact put_6 hok (by omega) | exact put_7 hok (by omega) | rfl | exact tab_get (by first | omega | (simp; omega)) | exact gm (d := 0) (by first | omega | (simp; omega))) | exact Kn.row (by repeat (first | exact List.Mem.head _ | refine List.Mem.tail _ ?_)) (by first | first | exact put_0 hok (by omega) | exact put_1 hok (by omega) | exact put_6 hok (by omega) | exact put_7 hok (by omega) | rfl | exact tab_get (by first | omega | (simp; omega)) | exact gm (d := 0) (by first | omega | (simp; omega))) | exact Kn.rd (by repeat (first | exact Lend.same _ _ | exact Lend.row _ _ _ _ _ _ (by decide) | apply Lend.there)) (by first | first | exact put_0 hok (by omega) | exact put_1 hok (by omega) | exact put_6 hok (by omega) | exact put_7 hok (by omega) | rfl | exact tab_get (by first | omega | (simp; omega)) | exact gm (d := 0) (by first | omega | (simp; omega))) | exact Kn.rd2 (by repeat (first | exact Lend.same _ _ | exact Lend.row _ _ _ _ _ _ (by decide) | apply Lend.there)) (by first | first | exact put_0 hok (by omega) | exact put_1 hok (by omega) | exact put_6 hok (by omega) | exact put_7 hok (by omega) | rfl | exact tab_get (by first | omega | (simp; omega)) | exact gm (d := 0) (by first | omega | (simp; omega))))) (by decide) ?_
                    refine JR.m rfl rfl (Mv.call body_17 rfl (f17_spec p v' r 1000 (by omega)) (by repeat (first | exact Picks.nil _ | apply Picks.cons | exact Pull.here _ _ | apply Pull.there)) (by repeat (first | exact Subs.nil _ | apply Subs.cons | exact List.Mem.head _ | refine List.Mem.tail _ ?_))) (by decide) ?_
                    rintro v85 _ _ ⟨_, _, ⟨w2, _, rfl, rfl⟩, hΓ, hH⟩
                    simp only [List.cons_append, List.nil_append] at hΓ hH; subst hΓ hH
                    refine ⟨⟨Subs.sub (by repeat (first | exact Subs.nil _ | apply Subs.cons | exact List.Mem.head _ | refine List.Mem.tail _ ?_)), .inl rfl⟩, ?_⟩
                    refine JR.m rfl rfl (Mv.callB body_11 rfl (f11_spec v85 (putAt l k).bv (r.byO 1000) (putAt l k).b) (by repeat (first | exact Picks.nil _ | apply Picks.cons | exact Pull.here _ _ | apply Pull.there)) (by repeat (first | exact Lends.nil _ | apply Lends.cons | exact Lend.same _ _ | exact Lend.row _ _ _ _ _ _ (by decide) | apply Lend.there)) (by rintro _ _ _ ⟨_, h, _⟩; exact h)) (by decide) ?_
                    rintro _ _ _ ⟨_, ⟨rfl, _, rfl⟩, hΓ, hH⟩
                    simp only [List.cons_append, List.nil_append] at hH; subst hΓ hH
                    refine ⟨⟨Subs.sub (by repeat (first | exact Subs.nil _ | apply Subs.cons | exact List.Mem.head _ | refine List.Mem.tail _ ?_)), .inl rfl⟩, ?_⟩
                    refine JR.u rfl rfl rfl (Yv.assign rfl) (by decide) ?_
                    refine JR.nil ?_
                    refine JQ.block_normal ?_
                    rw [hS, hF]
                    refine JQ.head _ (by repeat (first | exact trivial | refine ⟨by first | rfl | (simp; done), ?_⟩)) (Subs.sub (by repeat (first | exact Subs.nil _ | apply Subs.cons | exact List.Mem.head _ | refine List.Mem.tail _ ?_))) (Picks.perm (by repeat (first | exact Picks.nil _ | apply Picks.cons | exact Pull.here _ _ | apply Pull.there))) ?_
                    trivial
                  · try simp only [decide_eq_true_eq, decide_eq_false_iff_not, Bool.not_eq_true', Bool.not_eq_false', ne_eq, Decidable.not_not, Bool.not_eq_true, Bool.and_eq_true, Bool.or_eq_true, BitVec.reduceToNat] at hc9
                    refine JC.seq ?_
                    refine JC.region ?_
                    refine JO.v (Yv.bin rfl rfl BinR.eql_i) (by decide) ?_
                    refine JO.v (Yv.assign rfl) (by decide) ?_
                    refine JO.nil ?_
                    refine JQ.then_normal ?_
                    refine JC.cond rfl (fun hc10 => ?_) (fun hc10 => ?_)
                    · try simp only [decide_eq_true_eq, decide_eq_false_iff_not, Bool.not_eq_true', Bool.not_eq_false', ne_eq, Decidable.not_not, Bool.not_eq_true, Bool.and_eq_true, Bool.or_eq_true, BitVec.reduceToNat] at hc10
                      have hS : stepP r (putAt l k) = r.naA 40 := by rw [stepP, if_neg hc7, if_neg hc8, if_neg hc9, if_pos hc10]
                      have hF : fineB r (putAt l k) = decide (r.naO 40 = (putAt l k).l) := by rw [fineB, if_neg hc7, if_neg hc8, if_neg hc9, if_pos hc10]
                      refine JC.open (r := Res.rd (putAt l k).lv (putAt l k).l.length 4 (natCells (putAt l k).l)) (by repeat (first | exact List.Mem.head _ | refine List.Mem.tail _ ?_)) (put_rl (by omega)) ?_
                      refine JC.draw [0, 2, 3, 4, 5, 6, 1, 7, 8] (fun i => ([1, 7] : List Nat).contains i) (fun i => ([1, 7] : List Nat).contains i) (fun i => ([0, 2, 3, 4, 5, 6, 8] : List Nat).contains i) mixed (by kernel_rfl) (by decide) (by kernel_rfl) ?_
                      refine JR.u rfl rfl rfl (Yv.move rfl) (by decide) ?_
                      refine JR.u rfl rfl rfl (Yv.move rfl) (by decide) ?_
                      refine JR.u rfl rfl rfl (Yv.move rfl) (by decide) ?_
                      first | refine JR.u rfl rfl rfl (Yv.indexRow Try.underlying32 sz_52 rfl rfl (by repeat (first | exact List.Mem.head _ | refine List.Mem.tail _ ?_)) (by first | exact ltb rfl | (simp; done) | (simp; omega) | omega | (simp [*]; omega))) (by decide) ?_ | refine JR.u rfl rfl rfl (Yv.indexRd Try.underlying32 sz_52 rfl rfl (by repeat (first | exact Lend.same _ _ | exact Lend.row _ _ _ _ _ _ (by decide) | apply Lend.there)) (by decide) (by first | exact ltb rfl | (simp; done) | (simp; omega) | omega | (simp [*]; omega))) (by decide) ?_
                      refine JR.u rfl rfl rfl (Yv.fieldAddr fa_52_4 rfl) (by decide) ?_
                      refine JR.u rfl rfl rfl (Yv.load1 one_47 rfl (by first | exact Kn.own (by repeat (first | exact List.Mem.head _ | refine List.Mem.tail _ ?_)) (by first | first | exact put_0 hok (by omega) | exact put_1 hok (by omega) | exact put_6 hok (by omega) | exact put_7 hok (by omega) | rfl | exact tab_get (by first | omega | (simp; omega)) | exact gm (d := 0) (by first | omega | (simp; omega))) | exact Kn.ro (by repeat (first | exact List.Mem.head _ | refine List.Mem.tail _ ?_)) (by first | first | exact put_0 hok (by omega) | exact put_1 hok (by omega) | exact put_6 hok (by omega) | exact put_7 hok (by omega) | rfl | exact tab_get (by first | omega | (simp; omega)) | exact gm (d := 0) (by first | omega | (simp; omega))) | exact Kn.row (by repeat (first | exact List.Mem.head _ | refine List.Mem.tail _ ?_)) (by first | first | exact put_0 hok (by omega) | exact put_1 hok (by omega) | exact put_6 hok (by omega) | exact put_7 hok (by omega) | rfl | exact tab_get (by first | omega | (simp; omega)) | exact gm (d := 0) (by first | omega | (simp; omega))) | exact Kn.rd (by repeat (first | exact Lend.same _ _ | exact Lend.row _ _ _ _ _ _ (by decide) | apply Lend.there)) (by first | first | exact put_0 hok (by omega) | exact put_1 hok (by omega) | exact put_6 hok (by omega) | exact put_7 hok (by omega) | rfl | exact tab_get (by first | omega | (simp; omega)) | exact gm (d := 0) (by first | omega | (simp; omega))) | exact Kn.rd2 (by repeat (first | exact Lend.same _ _ | exact Lend.row _ _ _ _ _ _ (by decide) | apply Lend.there)) (by first | first | exact put_0 hok (by omega) | exact put_1 hok (by omega) | exact put_6 hok (by omega) | exact put_7 hok (by omega) | rfl | exact tab_get (by first | omega | (simp; omega)) | exact gm (d := 0) (by first | omega | (simp; omega))))) (by decide) ?_
                      refine JR.m rfl rfl (Mv.call body_18 rfl (f18_spec p v' r 40 (by omega)) (by repeat (first | exact Picks.nil _ | apply Picks.cons | exact Pull.here _ _ | apply Pull.there)) (by repeat (first | exact Subs.nil _ | apply Subs.cons | exact List.Mem.head _ | refine List.Mem.tail _ ?_))) (by decide) ?_
                      rintro v95 _ _ ⟨_, _, ⟨w2, _, rfl, rfl⟩, hΓ, hH⟩
                      simp only [List.cons_append, List.nil_append] at hΓ hH; subst hΓ hH
                      refine ⟨⟨Subs.sub (by repeat (first | exact Subs.nil _ | apply Subs.cons | exact List.Mem.head _ | refine List.Mem.tail _ ?_)), .inl rfl⟩, ?_⟩
                      refine JR.m rfl rfl (Mv.callB body_20 rfl (f20_spec v95 (putAt l k).lv (r.naO 40) (putAt l k).l (Rdr.naO_4 r _) (hok _ (putAt_mem (by omega))).2) (by repeat (first | exact Picks.nil _ | apply Picks.cons | exact Pull.here _ _ | apply Pull.there)) (by repeat (first | exact Lends.nil _ | apply Lends.cons | exact Lend.same _ _ | exact Lend.row _ _ _ _ _ _ (by decide) | apply Lend.there)) (by rintro _ _ _ ⟨_, h, _⟩; exact h)) (by decide) ?_
                      rintro _ _ _ ⟨_, ⟨rfl, _, rfl⟩, hΓ, hH⟩
                      simp only [List.cons_append, List.nil_append] at hH; subst hΓ hH
                      refine ⟨⟨Subs.sub (by repeat (first | exact Subs.nil _ | apply Subs.cons | exact List.Mem.head _ | refine List.Mem.tail _ ?_)), .inl rfl⟩, ?_⟩
                      refine JR.u rfl rfl rfl (Yv.assign rfl) (by decide) ?_
                      refine JR.nil ?_
                      refine JQ.block_normal ?_
                      rw [hS, hF]
                      refine JQ.head _ (by repeat (first | exact trivial | refine ⟨by first | rfl | (simp; done), ?_⟩)) (Subs.sub (by repeat (first | exact Subs.nil _ | apply Subs.cons | exact List.Mem.head _ | refine List.Mem.tail _ ?_))) (Picks.perm (by repeat (first | exact Picks.nil _ | apply Picks.cons | exact Pull.here _ _ | apply Pull.there))) ?_
                      trivial
                    · try simp only [decide_eq_true_eq, decide_eq_false_iff_not, Bool.not_eq_true', Bool.not_eq_false', ne_eq, Decidable.not_not, Bool.not_eq_true, Bool.and_eq_true, Bool.or_eq_true, BitVec.reduceToNat] at hc10
                      have hS : stepP r (putAt l k) = r := by rw [stepP, if_neg hc7, if_neg hc8, if_neg hc9, if_neg hc10]
                      have hF : fineB r (putAt l k) = true := by rw [fineB, if_neg hc7, if_neg hc8, if_neg hc9, if_neg hc10]
                      refine JC.skip ?_
                      refine JQ.block_normal ?_
                      rw [hS, hF]
                      refine JQ.head _ (by repeat (first | exact trivial | refine ⟨by first | rfl | (simp; done), ?_⟩)) (Subs.sub (by repeat (first | exact Subs.nil _ | apply Subs.cons | exact List.Mem.head _ | refine List.Mem.tail _ ?_))) (Picks.perm (by repeat (first | exact Picks.nil _ | apply Picks.cons | exact Pull.here _ _ | apply Pull.there))) ?_
                      trivial
            · skip
              refine JC.region ?_
              refine JO.v (Yv.move rfl) (by decide) ?_
              refine JO.v (Yv.move rfl) (by decide) ?_
              refine JO.join 6 109 (.bool true) ?_ ?_
              · skip
                refine JO.gt (g := 103) rfl rfl rfl ?_
                refine JO.v (Yv.move rfl) (by decide) ?_
                refine JO.gt (g := 103) rfl rfl rfl ?_
                refine JO.v (Yv.move rfl) (by decide) ?_
                refine JO.gsplit (g := 13) rfl (fun hg106 => ?_) (fun hg106 => ?_)
                · have hg106' := hg106
                  try simp only [decide_eq_true_eq, decide_eq_false_iff_not, Bool.not_eq_true', Bool.not_eq_false', ne_eq, Decidable.not_not, Bool.not_eq_true, Bool.and_eq_true, Bool.or_eq_true, BitVec.reduceToNat] at hg106'
                  refine JO.gf (g := 105) rfl rfl hg106 (by decide) ?_
                  refine JO.gf (g := 105) rfl rfl hg106 (by decide) ?_
                  refine JO.gt (g := 103) rfl rfl rfl ?_
                  refine JO.v (Yv.pick1 rfl hg106 rfl) (by decide) ?_
                  refine JO.v (Yv.pick1 rfl rfl rfl) (by decide) ?_
                  refine JO.nil ?_
                  refine JQ.head () (by first | (refine ⟨by first | rfl | (simp [*]; done) | (show some _ = some _; simp [*]; done), ?_⟩; repeat (first | exact trivial | refine ⟨rfl, ?_⟩))) (Subs.sub (by repeat (first | exact Subs.nil _ | apply Subs.cons | exact List.Mem.head _ | refine List.Mem.tail _ ?_))) (Picks.perm (by repeat (first | exact Picks.nil _ | apply Picks.cons | exact Pull.here _ _ | apply Pull.there))) ?_
                  trivial
                · have hg106' := hg106
                  try simp only [decide_eq_true_eq, decide_eq_false_iff_not, Bool.not_eq_true', Bool.not_eq_false', ne_eq, Decidable.not_not, Bool.not_eq_true, Bool.and_eq_true, Bool.or_eq_true, BitVec.reduceToNat] at hg106'
                  have hn1 : n = 1 := by
                    rcases hinv with ⟨h0, _⟩ | ⟨h0, _⟩
                    · exact absurd (hfine h0) (by rw [hg106]; decide)
                    · exact h0
                  refine JO.gt (g := 105) rfl rfl hg106 ?_
                  refine JO.v (Yv.move rfl) (by decide) ?_
                  refine JO.gt (g := 105) rfl rfl hg106 ?_
                  refine JO.v (Yv.as (v' := .bool true) (Yv.bin rfl rfl BinR.eql_i) (congrArg Value.bool (by rw [hn1]; rfl))) (by decide) ?_
                  refine JO.gt (g := 103) rfl rfl rfl ?_
                  refine JO.v (Yv.pick0 rfl hg106 rfl) (by decide) ?_
                  refine JO.v (Yv.pick1 rfl rfl rfl) (by decide) ?_
                  refine JO.nil ?_
                  refine JQ.head () (by first | (refine ⟨by first | rfl | (simp [*]; done) | (show some _ = some _; simp [*]; done), ?_⟩; repeat (first | exact trivial | refine ⟨rfl, ?_⟩))) (Subs.sub (by repeat (first | exact Subs.nil _ | apply Subs.cons | exact List.Mem.head _ | refine List.Mem.tail _ ?_))) (Picks.perm (by repeat (first | exact Picks.nil _ | apply Picks.cons | exact Pull.here _ _ | apply Pull.there))) ?_
                  trivial
              · skip
                refine JO.v (Yv.assign rfl) (by decide) ?_
                refine JO.nil ?_
                refine JQ.block_normal ?_
                refine JQ.then_normal ?_
                refine JC.region ?_
                refine JO.v (Yv.move rfl) (by decide) ?_
                refine JO.v (Yv.bin rfl rfl (BinR.add_i (by first | (constructor <;> omega) | (constructor <;> simp <;> omega)))) (by decide) ?_
                refine JO.v (Yv.assign rfl) (by decide) ?_
                refine JO.nil ?_
                refine JQ.head (k + 1, stepP r (putAt l k), _) (by repeat (first | exact trivial | refine ⟨by first | rfl | (simp; done), ?_⟩)) (Subs.sub (by repeat (first | exact Subs.nil _ | apply Subs.cons | exact List.Mem.head _ | refine List.Mem.tail _ ?_))) (Picks.perm (by repeat (first | exact Picks.nil _ | apply Picks.cons | exact Pull.here _ _ | apply Pull.there))) ?_
                exact ⟨⟨by dsimp only; omega, hinv2, Nat.le_trans (stepP_b r (putAt l k)) hrb⟩, by dsimp only; omega⟩
          · try simp only [decide_eq_true_eq, decide_eq_false_iff_not, Bool.not_eq_true', Bool.not_eq_false', ne_eq, Decidable.not_not, Bool.not_eq_true, Bool.and_eq_true, Bool.or_eq_true, BitVec.reduceToNat] at hc6
            obtain rfl : k = l.length := by omega
            refine JC.exit ?_
            refine JQ.then_exit ?_
            refine JQ.then_exit ?_
            refine JQ.block_exit ?_
            refine JQ.then_normal ?_
            refine JC.seq ?_
            refine JC.region ?_
            refine JO.v (Yv.move rfl) (by decide) ?_
            refine JO.call (f19_spec p v' r) body_19 rfl (by repeat (first | exact Picks.nil _ | apply Picks.cons | exact Pull.here _ _ | apply Pull.there)) (by repeat (first | exact Subs.nil _ | apply Subs.cons | exact List.Mem.head _ | refine List.Mem.tail _ ?_)) (by decide) ?_
            rintro _ _ _ ⟨_, _, ⟨rfl, rfl, rfl⟩, hΓ, hH⟩
            simp only [List.cons_append, List.nil_append] at hΓ hH; subst hΓ hH
            have hfin := Inv.fin hinv
            refine JO.v (Yv.assign rfl) (by decide) ?_
            refine JO.nil ?_
            refine JQ.then_normal ?_
            refine JC.seq ?_
            refine JC.region ?_
            refine JO.v (Yv.move rfl) (by decide) ?_
            refine JO.v (Yv.bin rfl rfl BinR.eql_i) (by decide) ?_
            refine JO.v (Yv.move rfl) (by decide) ?_
            refine JO.join 11 125 (.bool false) ?_ ?_
            · skip
              refine JO.gsplit (g := 113) rfl (fun hg120 => ?_) (fun hg120 => ?_)
              · have hg120' := hg120
                try simp only [decide_eq_true_eq, decide_eq_false_iff_not, Bool.not_eq_true', Bool.not_eq_false', ne_eq, Decidable.not_not, Bool.not_eq_true, Bool.and_eq_true, Bool.or_eq_true, BitVec.reduceToNat] at hg120'
                have hf0 : r.fin = 0 := by omega
                refine JO.gt (g := 114) rfl rfl hg120 ?_
                refine JO.v (Yv.move rfl) (by decide) ?_
                refine JO.gt (g := 114) rfl rfl hg120 ?_
                refine JO.v (Yv.as (v' := .bool false) (Yv.bin rfl rfl BinR.neq_i) (congrArg Value.bool (by simp [hf0]))) (by decide) ?_
                refine JO.v (Yv.pick1 rfl hg120 rfl) (by decide) ?_
                refine JO.v (Yv.move rfl) (by decide) ?_
                refine JO.gt (g := 118) rfl rfl rfl ?_
                refine JO.v (Yv.move rfl) (by decide) ?_
                refine JO.gt (g := 118) rfl rfl rfl ?_
                refine JO.v (Yv.bin rfl rfl BinR.eql_i) (by decide) ?_
                refine JO.gt (g := 118) rfl rfl rfl ?_
                refine JO.v (Yv.move rfl) (by decide) ?_
                refine JO.gsplit (g := 120) rfl (fun hg127 => ?_) (fun hg127 => ?_)
                · have hg127' := hg127
                  try simp only [decide_eq_true_eq, decide_eq_false_iff_not, Bool.not_eq_true', Bool.not_eq_false', ne_eq, Decidable.not_not, Bool.not_eq_true, Bool.and_eq_true, Bool.or_eq_true, BitVec.reduceToNat] at hg127'
                  have hf3 : r.fin = 3 := by omega
                  refine JO.gt (g := 121) rfl rfl hg127 ?_
                  refine JO.v (Yv.move rfl) (by decide) ?_
                  refine JO.gt (g := 121) rfl rfl hg127 ?_
                  refine JO.v (Yv.as (v' := .bool false) (Yv.bin rfl rfl BinR.neq_i) (congrArg Value.bool (by simp [hf3]))) (by decide) ?_
                  refine JO.gt (g := 118) rfl rfl rfl ?_
                  refine JO.v (Yv.pick1 rfl hg127 rfl) (by decide) ?_
                  refine JO.v (Yv.pick0 rfl rfl rfl) (by decide) ?_
                  refine JO.nil ?_
                  refine JQ.head () (by first | (refine ⟨by first | rfl | (simp [*]; done) | (show some _ = some _; simp [*]; done), ?_⟩; repeat (first | exact trivial | refine ⟨rfl, ?_⟩))) (Subs.sub (by repeat (first | exact Subs.nil _ | apply Subs.cons | exact List.Mem.head _ | refine List.Mem.tail _ ?_))) (Picks.perm (by repeat (first | exact Picks.nil _ | apply Picks.cons | exact Pull.here _ _ | apply Pull.there))) ?_
                  trivial
                · have hg127' := hg127
                  try simp only [decide_eq_true_eq, decide_eq_false_iff_not, Bool.not_eq_true', Bool.not_eq_false', ne_eq, Decidable.not_not, Bool.not_eq_true, Bool.and_eq_true, Bool.or_eq_true, BitVec.reduceToNat] at hg127'
                  refine JO.gf (g := 121) rfl rfl hg127 (by decide) ?_
                  refine JO.gf (g := 121) rfl rfl hg127 (by decide) ?_
                  refine JO.gt (g := 118) rfl rfl rfl ?_
                  refine JO.v (Yv.pick0 rfl hg127 rfl) (by decide) ?_
                  refine JO.v (Yv.pick0 rfl rfl rfl) (by decide) ?_
                  refine JO.nil ?_
                  refine JQ.head () (by first | (refine ⟨by first | rfl | (simp [*]; done) | (show some _ = some _; simp [*]; done), ?_⟩; repeat (first | exact trivial | refine ⟨rfl, ?_⟩))) (Subs.sub (by repeat (first | exact Subs.nil _ | apply Subs.cons | exact List.Mem.head _ | refine List.Mem.tail _ ?_))) (Picks.perm (by repeat (first | exact Picks.nil _ | apply Picks.cons | exact Pull.here _ _ | apply Pull.there))) ?_
                  trivial
              · have hg120' := hg120
                try simp only [decide_eq_true_eq, decide_eq_false_iff_not, Bool.not_eq_true', Bool.not_eq_false', ne_eq, Decidable.not_not, Bool.not_eq_true, Bool.and_eq_true, Bool.or_eq_true, BitVec.reduceToNat] at hg120'
                refine JO.gf (g := 114) rfl rfl hg120 (by decide) ?_
                refine JO.gf (g := 114) rfl rfl hg120 (by decide) ?_
                refine JO.v (Yv.pick0 rfl hg120 rfl) (by decide) ?_
                refine JO.v (Yv.move rfl) (by decide) ?_
                refine JO.gt (g := 118) rfl rfl rfl ?_
                refine JO.v (Yv.move rfl) (by decide) ?_
                refine JO.gt (g := 118) rfl rfl rfl ?_
                refine JO.v (Yv.bin rfl rfl BinR.eql_i) (by decide) ?_
                refine JO.gt (g := 118) rfl rfl rfl ?_
                refine JO.v (Yv.move rfl) (by decide) ?_
                refine JO.gsplit (g := 120) rfl (fun hg127 => ?_) (fun hg127 => ?_)
                · have hg127' := hg127
                  try simp only [decide_eq_true_eq, decide_eq_false_iff_not, Bool.not_eq_true', Bool.not_eq_false', ne_eq, Decidable.not_not, Bool.not_eq_true, Bool.and_eq_true, Bool.or_eq_true, BitVec.reduceToNat] at hg127'
                  have hf3 : r.fin = 3 := by omega
                  refine JO.gt (g := 121) rfl rfl hg127 ?_
                  refine JO.v (Yv.move rfl) (by decide) ?_
                  refine JO.gt (g := 121) rfl rfl hg127 ?_
                  refine JO.v (Yv.as (v' := .bool false) (Yv.bin rfl rfl BinR.neq_i) (congrArg Value.bool (by simp [hf3]))) (by decide) ?_
                  refine JO.gt (g := 118) rfl rfl rfl ?_
                  refine JO.v (Yv.pick1 rfl hg127 rfl) (by decide) ?_
                  refine JO.v (Yv.pick0 rfl rfl rfl) (by decide) ?_
                  refine JO.nil ?_
                  refine JQ.head () (by first | (refine ⟨by first | rfl | (simp [*]; done) | (show some _ = some _; simp [*]; done), ?_⟩; repeat (first | exact trivial | refine ⟨rfl, ?_⟩))) (Subs.sub (by repeat (first | exact Subs.nil _ | apply Subs.cons | exact List.Mem.head _ | refine List.Mem.tail _ ?_))) (Picks.perm (by repeat (first | exact Picks.nil _ | apply Picks.cons | exact Pull.here _ _ | apply Pull.there))) ?_
                  trivial
                · have hg127' := hg127
                  try simp only [decide_eq_true_eq, decide_eq_false_iff_not, Bool.not_eq_true', Bool.not_eq_false', ne_eq, Decidable.not_not, Bool.not_eq_true, Bool.and_eq_true, Bool.or_eq_true, BitVec.reduceToNat] at hg127'
                  refine JO.gf (g := 121) rfl rfl hg127 (by decide) ?_
                  refine JO.gf (g := 121) rfl rfl hg127 (by decide) ?_
                  refine JO.gt (g := 118) rfl rfl rfl ?_
                  refine JO.v (Yv.pick0 rfl hg127 rfl) (by decide) ?_
                  refine JO.v (Yv.pick0 rfl rfl rfl) (by decide) ?_
                  refine JO.nil ?_
                  refine JQ.head () (by first | (refine ⟨by first | rfl | (simp [*]; done) | (show some _ = some _; simp [*]; done), ?_⟩; repeat (first | exact trivial | refine ⟨rfl, ?_⟩))) (Subs.sub (by repeat (first | exact Subs.nil _ | apply Subs.cons | exact List.Mem.head _ | refine List.Mem.tail _ ?_))) (Picks.perm (by repeat (first | exact Picks.nil _ | apply Picks.cons | exact Pull.here _ _ | apply Pull.there))) ?_
                  trivial
            · skip
              refine JO.nil ?_
              refine JQ.then_normal ?_
              refine JC.cond rfl (fun hc11 => ?_) (fun hc11 => ?_)
              · try simp only [decide_eq_true_eq, decide_eq_false_iff_not, Bool.not_eq_true', Bool.not_eq_false', ne_eq, Decidable.not_not, Bool.not_eq_true, Bool.and_eq_true, Bool.or_eq_true, BitVec.reduceToNat] at hc11
                exact absurd hc11 (by decide)
              · try simp only [decide_eq_true_eq, decide_eq_false_iff_not, Bool.not_eq_true', Bool.not_eq_false', ne_eq, Decidable.not_not, Bool.not_eq_true, Bool.and_eq_true, Bool.or_eq_true, BitVec.reduceToNat] at hc11
                refine JC.skip ?_
                refine JQ.block_normal ?_
                refine JQ.then_normal ?_
                refine JC.region ?_
                refine JO.v (Yv.move rfl) (by decide) ?_
                refine JO.v (Yv.bin rfl rfl (BinR.add_i (by first | (constructor <;> omega) | (constructor <;> simp <;> omega)))) (by decide) ?_
                refine JO.v (Yv.assign rfl) (by decide) ?_
                refine JO.nil ?_
                refine JQ.head (n + 1, _) (by repeat (first | exact trivial | refine ⟨by first | rfl | (simp; done), ?_⟩)) (Subs.sub (by repeat (first | exact Subs.nil _ | apply Subs.cons | exact List.Mem.head _ | refine List.Mem.tail _ ?_))) (Picks.perm (by repeat (first | exact Picks.nil _ | apply Picks.cons | exact Pull.here _ _ | apply Pull.there))) ?_
                exact ⟨⟨by dsimp only; omega, fun h => hv7' (by dsimp only at h; omega)⟩, by dsimp only; omega⟩
    · try simp only [decide_eq_true_eq, decide_eq_false_iff_not, Bool.not_eq_true', Bool.not_eq_false', ne_eq, Decidable.not_not, Bool.not_eq_true, Bool.and_eq_true, Bool.or_eq_true, BitVec.reduceToNat] at hc2
      refine JC.exit ?_
      refine JQ.then_exit ?_
      refine JQ.then_exit ?_
      refine JQ.block_exit ?_
      refine JQ.then_normal ?_
      refine JC.seq ?_
      refine JC.region ?_
      refine JO.v (Yv.move rfl) (by decide) ?_
      refine JO.v (Yv.move rfl) (by decide) ?_
      refine JO.gt (g := 127) rfl rfl rfl ?_
      refine JO.v (Yv.move rfl) (by decide) ?_
      refine JO.v (Yv.pick1 rfl rfl rfl) (by decide) ?_
      refine JO.v (Yv.assign rfl) (by decide) ?_
      refine JO.nil ?_
      refine JQ.then_normal ?_
      refine JC.ret ?_
      exact JQ.done (.inr rfl) (Γ' := []) (H' := []) (res1 rfl (RV.tmp rfl)) (Subs.sub (by repeat (first | exact Subs.nil _ | apply Subs.cons | exact List.Mem.head _ | refine List.Mem.tail _ ?_))) (Picks.perm (by repeat (first | exact Picks.nil _ | apply Picks.cons | exact Pull.here _ _ | apply Pull.there))) ⟨rfl, rfl, rfl⟩
end Go.Proofs.Ytogbdobncnhjpaa
