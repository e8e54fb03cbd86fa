/- Walks: the reader: small numbers. -/
import Derived.Test.YtffgimlkmfjgmaaF5
namespace Go.Proofs.Ytffgimlkmfjgmaa
open Go.RowKit
set_option maxRecDepth 100000
set_option linter.unusedVariables false
set_option linter.unusedSimpArgs false

theorem f31_spec (p : Nat) (v : Value) (r : Rdr) (lim : BitVec 64) :
    Spec Try.prog 31 #[(ptr p 0), u64 lim] [Res.rd v r.b.length 1 (r.b.map u8)] [Res.cells p [v, it r.e] 77]
      (fun o Γ' H' => ∃ v', o = u64 (r.sm lim) ∧ Γ' = [Res.rd v' (r.smA lim).b.length 1 ((r.smA lim).b.map u8)] ∧ H' = [Res.cells p [v', it (r.smA lim).e] 77]) := by
  refine Spec.of_args Try.func31 rfl Try.ntmps31 (by simp) fun w => ?_
  refine JC.seq ?_
  refine JC.region ?_
  refine JO.v (Yv.assign rfl) (by decide) ?_
  refine JO.nil ?_
  refine JQ.then_normal ?_
  refine JC.seq ?_
  refine JC.region ?_
  refine JO.v (Yv.move rfl) (by decide) ?_
  refine JO.call (f41_spec p v r 1#64) body_41 rfl (by repeat (first | exact Picks.nil _ | apply Picks.cons | exact Pull.here _ _ | apply Pull.there)) (by repeat (first | exact Subs.nil _ | apply Subs.cons | exact List.Mem.head _ | refine List.Mem.tail _ ?_)) (by decide) ?_
  rintro v10 _ _ ⟨_, _, ⟨v1, _, rfl, rfl⟩, hΓ, hH⟩
  simp only [List.cons_append, List.nil_append] at hΓ hH; subst hΓ hH
  rw [show (1#64 : BitVec 64).toNat = 1 from rfl]
  have hle := Rdr.out_le r 1
  refine JO.v (Yv.assign rfl) (by decide) ?_
  refine JO.nil ?_
  refine JQ.then_normal ?_
  refine JC.seq ?_
  refine JC.seq ?_
  refine JC.region ?_
  refine JO.v (Yv.move rfl) (by decide) ?_
  first | refine JO.v (Yv.len_s Try.underlying24 rfl) (by decide) ?_ | refine JO.v (Yv.lenRd Try.underlying24 rfl (by repeat (first | exact Lend.same _ _ | exact Lend.row _ _ _ _ _ _ (by decide) | apply Lend.there))) (by decide) ?_
  refine JO.v (Yv.bin rfl rfl BinR.eql_i) (by decide) ?_
  refine JO.nil ?_
  refine JQ.then_normal ?_
  refine JC.cond rfl (fun hc1 => ?_) (fun hc1 => ?_)
  · try simp only [decide_eq_true_eq, decide_eq_false_iff_not, Bool.not_eq_true', Bool.not_eq_false', ne_eq, Decidable.not_not, Bool.not_eq_true, Bool.and_eq_true, Bool.or_eq_true, BitVec.reduceToNat] at hc1
    have h0 : (r.out 1).length = 0 := by omega
    refine JC.seq ?_
    refine JC.region ?_
    refine JO.v (Yv.assign rfl) (by decide) ?_
    refine JO.nil ?_
    refine JQ.then_normal ?_
    refine JC.ret ?_
    refine JQ.then_ret ?_
    have hA : r.smA lim = r.aft 1 := if_pos h0
    exact JQ.done (.inr rfl) (Γ' := [Res.rd _ (r.aft 1).b.length 1 ((r.aft 1).b.map u8)]) (H' := [Res.cells p [_, it (r.aft 1).e] 77]) (res1 rfl (RV.tmp rfl)) (Subs.sub (by repeat (first | exact Subs.nil _ | apply Subs.cons | exact List.Mem.head _ | refine List.Mem.tail _ ?_))) (Picks.perm (by repeat (first | exact Picks.nil _ | apply Picks.cons | exact Pull.here _ _ | apply Pull.there))) ⟨_, by rw [show r.sm lim = 0 from if_pos h0] <;> rfl, by rw [hA], by rw [hA]⟩
  · try simp only [decide_eq_true_eq, decide_eq_false_iff_not, Bool.not_eq_true', Bool.not_eq_false', ne_eq, Decidable.not_not, Bool.not_eq_true, Bool.and_eq_true, Bool.or_eq_true, BitVec.reduceToNat] at hc1
    have h1 : (r.out 1).length = 1 := by omega
    refine JC.skip ?_
    refine JQ.then_normal ?_
    refine JC.seq ?_
    refine JC.region ?_
    refine JO.v (Yv.assign rfl) (by decide) ?_
    refine JO.nil ?_
    refine JQ.then_normal ?_
    refine JC.cut (ι := Value × Value) (fun x => True) (fun x => [(0, ptr p 0), (1, u64 lim), (5, v10), (6, x.1)]) (fun x => [Res.rd x.1 r.smO.length 1 (r.smO.map u8), Res.rd x.2 r.smR.b.length 1 (r.smR.b.map u8), Res.rd v10 (r.out 1).length 1 ((r.out 1).map u8)]) (fun x => [Res.cells p [x.2, it r.smR.e] 77]) ?_ (fun x hx => ?_)
    · skip
      refine JC.seq ?_
      refine JC.region ?_
      refine JO.v (Yv.move rfl) (by decide) ?_
      first | refine JO.v (Yv.indexRow1 (j := 0) Try.underlying24 sz_5 rfl rfl (by repeat (first | exact List.Mem.head _ | refine List.Mem.tail _ ?_)) (by first | exact ltb rfl | (simp; done) | (simp; omega) | omega | (simp [*]; omega))) (by decide) ?_ | refine JO.v (Yv.indexRd1 (j := 0) Try.underlying24 sz_5 rfl rfl (by repeat (first | exact Lend.same _ _ | exact Lend.row _ _ _ _ _ _ (by decide) | apply Lend.there)) (by first | exact ltb rfl | (simp; done) | (simp; omega) | omega | (simp [*]; omega))) (by decide) ?_
      refine JO.v (Yv.as (v' := u8 r.k8) (Yv.load1 one_5 rfl (by first | exact Kn.own (by repeat (first | exact List.Mem.head _ | refine List.Mem.tail _ ?_)) (by first | exact gm (d := 0) (by rw [ofBytes_length]; decide) | rfl | exact tab_get (by first | omega | (simp; omega)) | exact gm (d := 0) (by first | omega | (simp; omega))) | exact Kn.ro (by repeat (first | exact List.Mem.head _ | refine List.Mem.tail _ ?_)) (by first | exact gm (d := 0) (by rw [ofBytes_length]; decide) | rfl | exact tab_get (by first | omega | (simp; omega)) | exact gm (d := 0) (by first | omega | (simp; omega))) | exact Kn.row (by repeat (first | exact List.Mem.head _ | refine List.Mem.tail _ ?_)) (by first | exact gm (d := 0) (by rw [ofBytes_length]; decide) | rfl | exact tab_get (by first | omega | (simp; omega)) | exact gm (d := 0) (by first | omega | (simp; omega))) | exact Kn.rd (by repeat (first | exact Lend.same _ _ | exact Lend.row _ _ _ _ _ _ (by decide) | apply Lend.there)) (by first | exact gm (d := 0) (by rw [ofBytes_length]; decide) | rfl | exact tab_get (by first | omega | (simp; omega)) | exact gm (d := 0) (by first | omega | (simp; omega))) | exact Kn.rd2 (by repeat (first | exact Lend.same _ _ | exact Lend.row _ _ _ _ _ _ (by decide) | apply Lend.there)) (by first | exact gm (d := 0) (by rw [ofBytes_length]; decide) | rfl | exact tab_get (by first | omega | (simp; omega)) | exact gm (d := 0) (by first | omega | (simp; omega))))) rfl) (by decide) ?_
      refine JO.v (Yv.bin rfl rfl (BinR.leq_u8 (b := 8#8))) (by decide) ?_
      refine JO.nil ?_
      refine JQ.then_normal ?_
      refine JC.cond rfl (fun hc2 => ?_) (fun hc2 => ?_)
      · try simp only [decide_eq_true_eq, decide_eq_false_iff_not, Bool.not_eq_true', Bool.not_eq_false', ne_eq, Decidable.not_not, Bool.not_eq_true, Bool.and_eq_true, Bool.or_eq_true, BitVec.reduceToNat] at hc2
        have hsO : r.smO = (r.aft 1).out r.k8.toNat := if_pos hc2
        have hsR : r.smR = (r.aft 1).aft r.k8.toNat := if_pos hc2
        refine JC.region ?_
        refine JO.v (Yv.move rfl) (by decide) ?_
        refine JO.v (Yv.move rfl) (by decide) ?_
        first | refine JO.v (Yv.indexRow1 (j := 0) Try.underlying24 sz_5 rfl rfl (by repeat (first | exact List.Mem.head _ | refine List.Mem.tail _ ?_)) (by first | exact ltb rfl | (simp; done) | (simp; omega) | omega | (simp [*]; omega))) (by decide) ?_ | refine JO.v (Yv.indexRd1 (j := 0) Try.underlying24 sz_5 rfl rfl (by repeat (first | exact Lend.same _ _ | exact Lend.row _ _ _ _ _ _ (by decide) | apply Lend.there)) (by first | exact ltb rfl | (simp; done) | (simp; omega) | omega | (simp [*]; omega))) (by decide) ?_
        refine JO.v (Yv.as (v' := u8 r.k8) (Yv.load1 one_5 rfl (by first | exact Kn.own (by repeat (first | exact List.Mem.head _ | refine List.Mem.tail _ ?_)) (by first | exact gm (d := 0) (by rw [ofBytes_length]; decide) | rfl | exact tab_get (by first | omega | (simp; omega)) | exact gm (d := 0) (by first | omega | (simp; omega))) | exact Kn.ro (by repeat (first | exact List.Mem.head _ | refine List.Mem.tail _ ?_)) (by first | exact gm (d := 0) (by rw [ofBytes_length]; decide) | rfl | exact tab_get (by first | omega | (simp; omega)) | exact gm (d := 0) (by first | omega | (simp; omega))) | exact Kn.row (by repeat (first | exact List.Mem.head _ | refine List.Mem.tail _ ?_)) (by first | exact gm (d := 0) (by rw [ofBytes_length]; decide) | rfl | exact tab_get (by first | omega | (simp; omega)) | exact gm (d := 0) (by first | omega | (simp; omega))) | exact Kn.rd (by repeat (first | exact Lend.same _ _ | exact Lend.row _ _ _ _ _ _ (by decide) | apply Lend.there)) (by first | exact gm (d := 0) (by rw [ofBytes_length]; decide) | rfl | exact tab_get (by first | omega | (simp; omega)) | exact gm (d := 0) (by first | omega | (simp; omega))) | exact Kn.rd2 (by repeat (first | exact Lend.same _ _ | exact Lend.row _ _ _ _ _ _ (by decide) | apply Lend.there)) (by first | exact gm (d := 0) (by rw [ofBytes_length]; decide) | rfl | exact tab_get (by first | omega | (simp; omega)) | exact gm (d := 0) (by first | omega | (simp; omega))))) rfl) (by decide) ?_
        refine JO.v (Yv.conv_u8_u64 Try.underlying5 Try.underlying22 rfl) (by decide) ?_
        refine JO.call (f41_spec p v1 (r.aft 1) (r.k8.setWidth 64)) body_41 rfl (by repeat (first | exact Picks.nil _ | apply Picks.cons | exact Pull.here _ _ | apply Pull.there)) (by repeat (first | exact Subs.nil _ | apply Subs.cons | exact List.Mem.head _ | refine List.Mem.tail _ ?_)) (by decide) ?_
        rintro v23 _ _ ⟨_, _, ⟨v2, _, rfl, rfl⟩, hΓ, hH⟩
        simp only [List.cons_append, List.nil_append] at hΓ hH; subst hΓ hH
        rw [show (r.k8.setWidth 64).toNat = r.k8.toNat from by rw [BitVec.toNat_setWidth]; have := r.k8.isLt; omega, ← hsO, ← hsR]
        refine JO.v (Yv.assign rfl) (by decide) ?_
        refine JO.nil ?_
        refine JQ.head (_, _) (by repeat (first | exact trivial | refine ⟨by first | rfl | (simp; done), ?_⟩)) (by rw [hsO]; exact Subs.sub (by repeat (first | exact Subs.nil _ | apply Subs.cons | exact List.Mem.head _ | refine List.Mem.tail _ ?_))) (Picks.perm (by repeat (first | exact Picks.nil _ | apply Picks.cons | exact Pull.here _ _ | apply Pull.there))) ?_
        trivial
      · try simp only [decide_eq_true_eq, decide_eq_false_iff_not, Bool.not_eq_true', Bool.not_eq_false', ne_eq, Decidable.not_not, Bool.not_eq_true, Bool.and_eq_true, Bool.or_eq_true, BitVec.reduceToNat] at hc2
        have hsO : r.smO = [] := if_neg hc2
        have hsR : r.smR = r.aft 1 := if_neg hc2
        refine JC.nilRd 1 ?_
        rw [← hsR]
        refine JC.skip ?_
        refine JQ.head (_, _) (by repeat (first | exact trivial | refine ⟨by first | rfl | (simp; done), ?_⟩)) (by rw [hsO]; exact Subs.sub (by repeat (first | exact Subs.nil _ | apply Subs.cons | exact List.Mem.head _ | refine List.Mem.tail _ ?_))) (Picks.perm (by repeat (first | exact Picks.nil _ | apply Picks.cons | exact Pull.here _ _ | apply Pull.there))) ?_
        trivial
    · skip
      refine JC.seq ?_
      refine JC.region ?_
      refine JO.v (Yv.move rfl) (by decide) ?_
      refine JO.callB (f42_spec x.1 r.smO (by have := Rdr.smO_le r; omega)) body_42 rfl (by repeat (first | exact Picks.nil _ | apply Picks.cons | exact Pull.here _ _ | apply Pull.there)) (by repeat (first | exact Lends.nil _ | apply Lends.cons | exact Lend.same _ _ | exact Lend.row _ _ _ _ _ _ (by decide) | apply Lend.there)) (by rintro _ _ _ ⟨_, h, _⟩; exact h) (by decide) ?_
      rintro _ _ ⟨_, ⟨rfl, _, rfl⟩, hH⟩
      simp only [List.cons_append, List.nil_append] at hH; subst hH
      refine JO.v (Yv.move rfl) (by decide) ?_
      refine JO.v (Yv.extract rfl rfl) (by decide) ?_
      refine JO.v (Yv.extract rfl rfl) (by decide) ?_
      refine JO.alloc _ zero_75 rfl (by decide) fun b7 => ?_
      first | refine JO.storeAll sz_75 rfl rfl rfl (by first | rfl | (simp; done) | (simp; omega)) (by first | (simp; done) | exact one_map (fun _ => rfl) | exact one_tab (fun _ => rfl) | exact one_tab (fun _ => by split <;> rfl)) (by repeat (first | exact Upd.here _ _ _ | apply Upd.there)) (by first | rfl | (simp; done) | (simp; omega)) ?_ | refine JO.store sz_75 rfl rfl rfl (by first | rfl | (simp; done) | (simp; omega)) (by first | (simp; done) | exact one_sing rfl | exact one_map (fun _ => rfl) | exact one_piece (one_map (fun _ => rfl)) | exact one_tab (fun _ => rfl) | exact one_tab (fun _ => by split <;> rfl)) (by repeat (first | exact Upd.here _ _ _ | apply Upd.there)) (by first | exact ltb rfl | (simp; done) | (simp; omega) | omega | (simp [*]; omega)) ?_ | refine JO.storeRow sz_75 rfl rfl rfl (by first | rfl | simp) (by first | (simp; done) | exact one_map (fun _ => rfl) | exact one_tab (fun _ => rfl) | exact one_tab (fun _ => by split <;> rfl)) (by repeat (first | exact Upd.here _ _ _ | apply Upd.there)) (by first | exact ltb rfl | (simp; done) | (simp; omega) | omega | (simp [*]; omega)) (by first | exact ltb rfl | (simp; done) | (simp; omega) | omega | (simp [*]; omega)) ?_
      refine JO.v (Yv.assign rfl) (by decide) ?_
      refine JO.nil ?_
      refine JQ.then_normal ?_
      refine JC.seq ?_
      refine JC.block ?_
      refine JC.seq ?_
      refine JC.block ?_
      refine JC.seq ?_
      refine JC.block ?_
      refine JC.block ?_
      refine JC.seq ?_
      refine JC.block ?_
      refine JC.seq ?_
      refine JC.seq ?_
      refine JC.seq ?_
      refine JC.region ?_
      refine JO.v (Yv.move rfl) (by decide) ?_
      refine JO.v (Yv.nilCheck rfl) (by decide) ?_
      refine JO.v (Yv.fieldAddr fa_77_1 rfl) (by decide) ?_
      refine JO.v (Yv.load1 one_27 rfl (by first | exact Kn.own (by repeat (first | exact List.Mem.head _ | refine List.Mem.tail _ ?_)) (by first | exact gm (d := 0) (by rw [ofBytes_length]; decide) | rfl | exact tab_get (by first | omega | (simp; omega)) | exact gm (d := 0) (by first | omega | (simp; omega))) | exact Kn.ro (by repeat (first | exact List.Mem.head _ | refine List.Mem.tail _ ?_)) (by first | exact gm (d := 0) (by rw [ofBytes_length]; decide) | rfl | exact tab_get (by first | omega | (simp; omega)) | exact gm (d := 0) (by first | omega | (simp; omega))) | exact Kn.row (by repeat (first | exact List.Mem.head _ | refine List.Mem.tail _ ?_)) (by first | exact gm (d := 0) (by rw [ofBytes_length]; decide) | rfl | exact tab_get (by first | omega | (simp; omega)) | exact gm (d := 0) (by first | omega | (simp; omega))) | exact Kn.rd (by repeat (first | exact Lend.same _ _ | exact Lend.row _ _ _ _ _ _ (by decide) | apply Lend.there)) (by first | exact gm (d := 0) (by rw [ofBytes_length]; decide) | rfl | exact tab_get (by first | omega | (simp; omega)) | exact gm (d := 0) (by first | omega | (simp; omega))) | exact Kn.rd2 (by repeat (first | exact Lend.same _ _ | exact Lend.row _ _ _ _ _ _ (by decide) | apply Lend.there)) (by first | exact gm (d := 0) (by rw [ofBytes_length]; decide) | rfl | exact tab_get (by first | omega | (simp; omega)) | exact gm (d := 0) (by first | omega | (simp; omega))))) (by decide) ?_
      refine JO.v (Yv.bin rfl rfl BinR.neq_i) (by decide) ?_
      refine JO.v (Yv.assign rfl) (by decide) ?_
      refine JO.nil ?_
      refine JQ.then_normal ?_
      refine JC.cond rfl (fun hc3 => ?_) (fun hc3 => ?_)
      · try simp only [decide_eq_true_eq, decide_eq_false_iff_not, Bool.not_eq_true', Bool.not_eq_false', ne_eq, Decidable.not_not, Bool.not_eq_true, Bool.and_eq_true, Bool.or_eq_true, BitVec.reduceToNat] at hc3
        have hF : r.smF lim = r.smR := if_pos hc3
        have hF' := hF
        rw [← hF]
        refine JC.exit ?_
        refine JQ.then_exit ?_
        refine JQ.then_exit ?_
        refine JQ.block_exit ?_
        refine JQ.then_normal ?_
        refine JC.exit ?_
        refine JQ.block_other (by decide) ?_
        refine JQ.block_other (by decide) ?_
        refine JQ.then_exit ?_
        refine JQ.block_other (by decide) ?_
        refine JQ.then_exit ?_
        refine JQ.block_exit ?_
        refine JQ.then_normal ?_
        refine JC.seq ?_
        refine JC.seq ?_
        refine JC.region ?_
        refine JO.v (Yv.move rfl) (by decide) ?_
        refine JO.v (Yv.nilCheck rfl) (by decide) ?_
        refine JO.v (Yv.fieldAddr fa_77_1 rfl) (by decide) ?_
        refine JO.v (Yv.load1 one_27 rfl (by first | exact Kn.own (by repeat (first | exact List.Mem.head _ | refine List.Mem.tail _ ?_)) (by first | exact gm (d := 0) (by rw [ofBytes_length]; decide) | rfl | exact tab_get (by first | omega | (simp; omega)) | exact gm (d := 0) (by first | omega | (simp; omega))) | exact Kn.ro (by repeat (first | exact List.Mem.head _ | refine List.Mem.tail _ ?_)) (by first | exact gm (d := 0) (by rw [ofBytes_length]; decide) | rfl | exact tab_get (by first | omega | (simp; omega)) | exact gm (d := 0) (by first | omega | (simp; omega))) | exact Kn.row (by repeat (first | exact List.Mem.head _ | refine List.Mem.tail _ ?_)) (by first | exact gm (d := 0) (by rw [ofBytes_length]; decide) | rfl | exact tab_get (by first | omega | (simp; omega)) | exact gm (d := 0) (by first | omega | (simp; omega))) | exact Kn.rd (by repeat (first | exact Lend.same _ _ | exact Lend.row _ _ _ _ _ _ (by decide) | apply Lend.there)) (by first | exact gm (d := 0) (by rw [ofBytes_length]; decide) | rfl | exact tab_get (by first | omega | (simp; omega)) | exact gm (d := 0) (by first | omega | (simp; omega))) | exact Kn.rd2 (by repeat (first | exact Lend.same _ _ | exact Lend.row _ _ _ _ _ _ (by decide) | apply Lend.there)) (by first | exact gm (d := 0) (by rw [ofBytes_length]; decide) | rfl | exact tab_get (by first | omega | (simp; omega)) | exact gm (d := 0) (by first | omega | (simp; omega))))) (by decide) ?_
        refine JO.v (Yv.bin rfl rfl BinR.neq_i) (by decide) ?_
        refine JO.nil ?_
        refine JQ.then_normal ?_
        refine JC.cond rfl (fun hc7 => ?_) (fun hc7 => ?_)
        · try simp only [decide_eq_true_eq, decide_eq_false_iff_not, Bool.not_eq_true', Bool.not_eq_false', ne_eq, Decidable.not_not, Bool.not_eq_true, Bool.and_eq_true, Bool.or_eq_true, BitVec.reduceToNat] at hc7
          have hS : r.sm lim = 0 := by rw [Rdr.sm, if_neg (by omega), if_pos hc7]
          refine JC.seq ?_
          refine JC.region ?_
          refine JO.v (Yv.assign rfl) (by decide) ?_
          refine JO.nil ?_
          refine JQ.then_normal ?_
          refine JC.ret ?_
          refine JQ.then_ret ?_
          have hA : r.smA lim = r.smF lim := if_neg (by omega)
          exact JQ.done (.inr rfl) (Γ' := [Res.rd _ (r.smF lim).b.length 1 ((r.smF lim).b.map u8)]) (H' := [Res.cells p [_, it (r.smF lim).e] 77]) (res1 rfl (RV.tmp rfl)) (Subs.sub (by repeat (first | exact Subs.nil _ | apply Subs.cons | exact List.Mem.head _ | refine List.Mem.tail _ ?_))) (Picks.perm (by repeat (first | exact Picks.nil _ | apply Picks.cons | exact Pull.here _ _ | apply Pull.there))) ⟨_, by rw [hS] <;> rfl, by rw [hA], by rw [hA]⟩
        · try simp only [decide_eq_true_eq, decide_eq_false_iff_not, Bool.not_eq_true', Bool.not_eq_false', ne_eq, Decidable.not_not, Bool.not_eq_true, Bool.and_eq_true, Bool.or_eq_true, BitVec.reduceToNat] at hc7
          have hS : r.sm lim = (ofBytes r.smO).getD 0 0 := by rw [Rdr.sm, if_neg (by omega), if_neg (not_not_intro hc7)]
          refine JC.skip ?_
          refine JQ.then_normal ?_
          refine JC.seq ?_
          refine JC.region ?_
          first | refine JO.v (Yv.indexArr1 (j := 0) Try.underlying75 sz_22 rfl rfl (by first | exact ltb rfl | (simp; done) | (simp; omega) | omega | (simp [*]; omega))) (by decide) ?_ | refine JO.v (Yv.indexArr1o (j := 0) Try.underlying75 sz_22 rfl rfl (by first | exact ltb rfl | (simp; done) | (simp; omega) | omega | (simp [*]; omega))) (by decide) ?_
          refine JO.v (Yv.as (v' := u64 ((ofBytes r.smO).getD 0 0)) (Yv.load1 one_22 rfl (by first | exact Kn.own (by repeat (first | exact List.Mem.head _ | refine List.Mem.tail _ ?_)) (by first | exact gm (d := 0) (by rw [ofBytes_length]; decide) | rfl | exact tab_get (by first | omega | (simp; omega)) | exact gm (d := 0) (by first | omega | (simp; omega))) | exact Kn.ro (by repeat (first | exact List.Mem.head _ | refine List.Mem.tail _ ?_)) (by first | exact gm (d := 0) (by rw [ofBytes_length]; decide) | rfl | exact tab_get (by first | omega | (simp; omega)) | exact gm (d := 0) (by first | omega | (simp; omega))) | exact Kn.row (by repeat (first | exact List.Mem.head _ | refine List.Mem.tail _ ?_)) (by first | exact gm (d := 0) (by rw [ofBytes_length]; decide) | rfl | exact tab_get (by first | omega | (simp; omega)) | exact gm (d := 0) (by first | omega | (simp; omega))) | exact Kn.rd (by repeat (first | exact Lend.same _ _ | exact Lend.row _ _ _ _ _ _ (by decide) | apply Lend.there)) (by first | exact gm (d := 0) (by rw [ofBytes_length]; decide) | rfl | exact tab_get (by first | omega | (simp; omega)) | exact gm (d := 0) (by first | omega | (simp; omega))) | exact Kn.rd2 (by repeat (first | exact Lend.same _ _ | exact Lend.row _ _ _ _ _ _ (by decide) | apply Lend.there)) (by first | exact gm (d := 0) (by rw [ofBytes_length]; decide) | rfl | exact tab_get (by first | omega | (simp; omega)) | exact gm (d := 0) (by first | omega | (simp; omega))))) rfl) (by decide) ?_
          refine JO.v (Yv.assign rfl) (by decide) ?_
          refine JO.nil ?_
          refine JQ.then_normal ?_
          refine JC.ret ?_
          have hA : r.smA lim = r.smF lim := if_neg (by omega)
          exact JQ.done (.inr rfl) (Γ' := [Res.rd _ (r.smF lim).b.length 1 ((r.smF lim).b.map u8)]) (H' := [Res.cells p [_, it (r.smF lim).e] 77]) (res1 rfl (RV.tmp rfl)) (Subs.sub (by repeat (first | exact Subs.nil _ | apply Subs.cons | exact List.Mem.head _ | refine List.Mem.tail _ ?_))) (Picks.perm (by repeat (first | exact Picks.nil _ | apply Picks.cons | exact Pull.here _ _ | apply Pull.there))) ⟨_, by rw [hS] <;> rfl, by rw [hA], by rw [hA]⟩
      · try simp only [decide_eq_true_eq, decide_eq_false_iff_not, Bool.not_eq_true', Bool.not_eq_false', ne_eq, Decidable.not_not, Bool.not_eq_true, Bool.and_eq_true, Bool.or_eq_true, BitVec.reduceToNat] at hc3
        refine JC.skip ?_
        refine JQ.then_normal ?_
        refine JC.seq ?_
        refine JC.seq ?_
        refine JC.region ?_
        refine JO.v (Yv.move rfl) (by decide) ?_
        first | refine JO.v (Yv.indexRow1 (j := 0) Try.underlying24 sz_5 rfl rfl (by repeat (first | exact List.Mem.head _ | refine List.Mem.tail _ ?_)) (by first | exact ltb rfl | (simp; done) | (simp; omega) | omega | (simp [*]; omega))) (by decide) ?_ | refine JO.v (Yv.indexRd1 (j := 0) Try.underlying24 sz_5 rfl rfl (by repeat (first | exact Lend.same _ _ | exact Lend.row _ _ _ _ _ _ (by decide) | apply Lend.there)) (by first | exact ltb rfl | (simp; done) | (simp; omega) | omega | (simp [*]; omega))) (by decide) ?_
        refine JO.v (Yv.as (v' := u8 r.k8) (Yv.load1 one_5 rfl (by first | exact Kn.own (by repeat (first | exact List.Mem.head _ | refine List.Mem.tail _ ?_)) (by first | exact gm (d := 0) (by rw [ofBytes_length]; decide) | rfl | exact tab_get (by first | omega | (simp; omega)) | exact gm (d := 0) (by first | omega | (simp; omega))) | exact Kn.ro (by repeat (first | exact List.Mem.head _ | refine List.Mem.tail _ ?_)) (by first | exact gm (d := 0) (by rw [ofBytes_length]; decide) | rfl | exact tab_get (by first | omega | (simp; omega)) | exact gm (d := 0) (by first | omega | (simp; omega))) | exact Kn.row (by repeat (first | exact List.Mem.head _ | refine List.Mem.tail _ ?_)) (by first | exact gm (d := 0) (by rw [ofBytes_length]; decide) | rfl | exact tab_get (by first | omega | (simp; omega)) | exact gm (d := 0) (by first | omega | (simp; omega))) | exact Kn.rd (by repeat (first | exact Lend.same _ _ | exact Lend.row _ _ _ _ _ _ (by decide) | apply Lend.there)) (by first | exact gm (d := 0) (by rw [ofBytes_length]; decide) | rfl | exact tab_get (by first | omega | (simp; omega)) | exact gm (d := 0) (by first | omega | (simp; omega))) | exact Kn.rd2 (by repeat (first | exact Lend.same _ _ | exact Lend.row _ _ _ _ _ _ (by decide) | apply Lend.there)) (by first | exact gm (d := 0) (by rw [ofBytes_length]; decide) | rfl | exact tab_get (by first | omega | (simp; omega)) | exact gm (d := 0) (by first | omega | (simp; omega))))) rfl) (by decide) ?_
        refine JO.v (Yv.bin rfl rfl (BinR.gtr_u8 (b := 8#8))) (by decide) ?_
        refine JO.v (Yv.assign rfl) (by decide) ?_
        refine JO.nil ?_
        refine JQ.then_normal ?_
        refine JC.cond rfl (fun hc4 => ?_) (fun hc4 => ?_)
        · try simp only [decide_eq_true_eq, decide_eq_false_iff_not, Bool.not_eq_true', Bool.not_eq_false', ne_eq, Decidable.not_not, Bool.not_eq_true, Bool.and_eq_true, Bool.or_eq_true, BitVec.reduceToNat] at hc4
          have hF : r.smF lim = r.smR.wrong 31 := by rw [Rdr.smF, if_neg (not_not_intro hc3), if_pos hc4]
          refine JC.exit ?_
          refine JQ.then_exit ?_
          refine JQ.then_exit ?_
          refine JQ.block_other (by decide) ?_
          refine JQ.then_exit ?_
          refine JQ.block_exit ?_
          refine JQ.block_normal ?_
          refine JQ.then_normal ?_
          refine JC.seq ?_
          refine JC.region ?_
          refine JO.v (Yv.move rfl) (by decide) ?_
          refine JO.call (f43_spec p x.2 r.smR 31) body_43 rfl (by repeat (first | exact Picks.nil _ | apply Picks.cons | exact Pull.here _ _ | apply Pull.there)) (by repeat (first | exact Subs.nil _ | apply Subs.cons | exact List.Mem.head _ | refine List.Mem.tail _ ?_)) (by decide) ?_
          rintro _ _ _ ⟨_, _, ⟨v3, rfl, rfl, rfl⟩, hΓ, hH⟩
          simp only [List.cons_append, List.nil_append] at hΓ hH; subst hΓ hH
          rw [← hF]
          refine JO.nil ?_
          refine JQ.then_normal ?_
          refine JC.exit ?_
          refine JQ.block_other (by decide) ?_
          refine JQ.then_exit ?_
          refine JQ.block_exit ?_
          refine JQ.then_normal ?_
          refine JC.seq ?_
          refine JC.seq ?_
          refine JC.region ?_
          refine JO.v (Yv.move rfl) (by decide) ?_
          refine JO.v (Yv.nilCheck rfl) (by decide) ?_
          refine JO.v (Yv.fieldAddr fa_77_1 rfl) (by decide) ?_
          refine JO.v (Yv.load1 one_27 rfl (by first | exact Kn.own (by repeat (first | exact List.Mem.head _ | refine List.Mem.tail _ ?_)) (by first | exact gm (d := 0) (by rw [ofBytes_length]; decide) | rfl | exact tab_get (by first | omega | (simp; omega)) | exact gm (d := 0) (by first | omega | (simp; omega))) | exact Kn.ro (by repeat (first | exact List.Mem.head _ | refine List.Mem.tail _ ?_)) (by first | exact gm (d := 0) (by rw [ofBytes_length]; decide) | rfl | exact tab_get (by first | omega | (simp; omega)) | exact gm (d := 0) (by first | omega | (simp; omega))) | exact Kn.row (by repeat (first | exact List.Mem.head _ | refine List.Mem.tail _ ?_)) (by first | exact gm (d := 0) (by rw [ofBytes_length]; decide) | rfl | exact tab_get (by first | omega | (simp; omega)) | exact gm (d := 0) (by first | omega | (simp; omega))) | exact Kn.rd (by repeat (first | exact Lend.same _ _ | exact Lend.row _ _ _ _ _ _ (by decide) | apply Lend.there)) (by first | exact gm (d := 0) (by rw [ofBytes_length]; decide) | rfl | exact tab_get (by first | omega | (simp; omega)) | exact gm (d := 0) (by first | omega | (simp; omega))) | exact Kn.rd2 (by repeat (first | exact Lend.same _ _ | exact Lend.row _ _ _ _ _ _ (by decide) | apply Lend.there)) (by first | exact gm (d := 0) (by rw [ofBytes_length]; decide) | rfl | exact tab_get (by first | omega | (simp; omega)) | exact gm (d := 0) (by first | omega | (simp; omega))))) (by decide) ?_
          refine JO.v (Yv.bin rfl rfl BinR.neq_i) (by decide) ?_
          refine JO.nil ?_
          refine JQ.then_normal ?_
          refine JC.cond rfl (fun hc7 => ?_) (fun hc7 => ?_)
          · try simp only [decide_eq_true_eq, decide_eq_false_iff_not, Bool.not_eq_true', Bool.not_eq_false', ne_eq, Decidable.not_not, Bool.not_eq_true, Bool.and_eq_true, Bool.or_eq_true, BitVec.reduceToNat] at hc7
            have hS : r.sm lim = 0 := by rw [Rdr.sm, if_neg (by omega), if_pos hc7]
            refine JC.seq ?_
            refine JC.region ?_
            refine JO.v (Yv.assign rfl) (by decide) ?_
            refine JO.nil ?_
            refine JQ.then_normal ?_
            refine JC.ret ?_
            refine JQ.then_ret ?_
            have hA : r.smA lim = r.smF lim := if_neg (by omega)
            exact JQ.done (.inr rfl) (Γ' := [Res.rd _ (r.smF lim).b.length 1 ((r.smF lim).b.map u8)]) (H' := [Res.cells p [_, it (r.smF lim).e] 77]) (res1 rfl (RV.tmp rfl)) (Subs.sub (by repeat (first | exact Subs.nil _ | apply Subs.cons | exact List.Mem.head _ | refine List.Mem.tail _ ?_))) (Picks.perm (by repeat (first | exact Picks.nil _ | apply Picks.cons | exact Pull.here _ _ | apply Pull.there))) ⟨_, by rw [hS] <;> rfl, by rw [hA], by rw [hA]⟩
          · try simp only [decide_eq_true_eq, decide_eq_false_iff_not, Bool.not_eq_true', Bool.not_eq_false', ne_eq, Decidable.not_not, Bool.not_eq_true, Bool.and_eq_true, Bool.or_eq_true, BitVec.reduceToNat] at hc7
            have hS : r.sm lim = (ofBytes r.smO).getD 0 0 := by rw [Rdr.sm, if_neg (by omega), if_neg (not_not_intro hc7)]
            refine JC.skip ?_
            refine JQ.then_normal ?_
            refine JC.seq ?_
            refine JC.region ?_
            first | refine JO.v (Yv.indexArr1 (j := 0) Try.underlying75 sz_22 rfl rfl (by first | exact ltb rfl | (simp; done) | (simp; omega) | omega | (simp [*]; omega))) (by decide) ?_ | refine JO.v (Yv.indexArr1o (j := 0) Try.underlying75 sz_22 rfl rfl (by first | exact ltb rfl | (simp; done) | (simp; omega) | omega | (simp [*]; omega))) (by decide) ?_
            refine JO.v (Yv.as (v' := u64 ((ofBytes r.smO).getD 0 0)) (Yv.load1 one_22 rfl (by first | exact Kn.own (by repeat (first | exact List.Mem.head _ | refine List.Mem.tail _ ?_)) (by first | exact gm (d := 0) (by rw [ofBytes_length]; decide) | rfl | exact tab_get (by first | omega | (simp; omega)) | exact gm (d := 0) (by first | omega | (simp; omega))) | exact Kn.ro (by repeat (first | exact List.Mem.head _ | refine List.Mem.tail _ ?_)) (by first | exact gm (d := 0) (by rw [ofBytes_length]; decide) | rfl | exact tab_get (by first | omega | (simp; omega)) | exact gm (d := 0) (by first | omega | (simp; omega))) | exact Kn.row (by repeat (first | exact List.Mem.head _ | refine List.Mem.tail _ ?_)) (by first | exact gm (d := 0) (by rw [ofBytes_length]; decide) | rfl | exact tab_get (by first | omega | (simp; omega)) | exact gm (d := 0) (by first | omega | (simp; omega))) | exact Kn.rd (by repeat (first | exact Lend.same _ _ | exact Lend.row _ _ _ _ _ _ (by decide) | apply Lend.there)) (by first | exact gm (d := 0) (by rw [ofBytes_length]; decide) | rfl | exact tab_get (by first | omega | (simp; omega)) | exact gm (d := 0) (by first | omega | (simp; omega))) | exact Kn.rd2 (by repeat (first | exact Lend.same _ _ | exact Lend.row _ _ _ _ _ _ (by decide) | apply Lend.there)) (by first | exact gm (d := 0) (by rw [ofBytes_length]; decide) | rfl | exact tab_get (by first | omega | (simp; omega)) | exact gm (d := 0) (by first | omega | (simp; omega))))) rfl) (by decide) ?_
            refine JO.v (Yv.assign rfl) (by decide) ?_
            refine JO.nil ?_
            refine JQ.then_normal ?_
            refine JC.ret ?_
            have hA : r.smA lim = r.smF lim := if_neg (by omega)
            exact JQ.done (.inr rfl) (Γ' := [Res.rd _ (r.smF lim).b.length 1 ((r.smF lim).b.map u8)]) (H' := [Res.cells p [_, it (r.smF lim).e] 77]) (res1 rfl (RV.tmp rfl)) (Subs.sub (by repeat (first | exact Subs.nil _ | apply Subs.cons | exact List.Mem.head _ | refine List.Mem.tail _ ?_))) (Picks.perm (by repeat (first | exact Picks.nil _ | apply Picks.cons | exact Pull.here _ _ | apply Pull.there))) ⟨_, by rw [hS] <;> rfl, by rw [hA], by rw [hA]⟩
        · try simp only [decide_eq_true_eq, decide_eq_false_iff_not, Bool.not_eq_true', Bool.not_eq_false', ne_eq, Decidable.not_not, Bool.not_eq_true, Bool.and_eq_true, Bool.or_eq_true, BitVec.reduceToNat] at hc4
          have hl := Rdr.smO_len hc3 hc4
          refine JC.skip ?_
          refine JQ.then_normal ?_
          refine JC.seq ?_
          refine JC.seq ?_
          refine JC.region ?_
          refine JO.v (Yv.move rfl) (by decide) ?_
          first | refine JO.v (Yv.indexRow1 (j := 0) Try.underlying24 sz_5 rfl rfl (by repeat (first | exact List.Mem.head _ | refine List.Mem.tail _ ?_)) (by first | exact ltb rfl | (simp; done) | (simp; omega) | omega | (simp [*]; omega))) (by decide) ?_ | refine JO.v (Yv.indexRd1 (j := 0) Try.underlying24 sz_5 rfl rfl (by repeat (first | exact Lend.same _ _ | exact Lend.row _ _ _ _ _ _ (by decide) | apply Lend.there)) (by first | exact ltb rfl | (simp; done) | (simp; omega) | omega | (simp [*]; omega))) (by decide) ?_
          refine JO.v (Yv.as (v' := u8 r.k8) (Yv.load1 one_5 rfl (by first | exact Kn.own (by repeat (first | exact List.Mem.head _ | refine List.Mem.tail _ ?_)) (by first | exact gm (d := 0) (by rw [ofBytes_length]; decide) | rfl | exact tab_get (by first | omega | (simp; omega)) | exact gm (d := 0) (by first | omega | (simp; omega))) | exact Kn.ro (by repeat (first | exact List.Mem.head _ | refine List.Mem.tail _ ?_)) (by first | exact gm (d := 0) (by rw [ofBytes_length]; decide) | rfl | exact tab_get (by first | omega | (simp; omega)) | exact gm (d := 0) (by first | omega | (simp; omega))) | exact Kn.row (by repeat (first | exact List.Mem.head _ | refine List.Mem.tail _ ?_)) (by first | exact gm (d := 0) (by rw [ofBytes_length]; decide) | rfl | exact tab_get (by first | omega | (simp; omega)) | exact gm (d := 0) (by first | omega | (simp; omega))) | exact Kn.rd (by repeat (first | exact Lend.same _ _ | exact Lend.row _ _ _ _ _ _ (by decide) | apply Lend.there)) (by first | exact gm (d := 0) (by rw [ofBytes_length]; decide) | rfl | exact tab_get (by first | omega | (simp; omega)) | exact gm (d := 0) (by first | omega | (simp; omega))) | exact Kn.rd2 (by repeat (first | exact Lend.same _ _ | exact Lend.row _ _ _ _ _ _ (by decide) | apply Lend.there)) (by first | exact gm (d := 0) (by rw [ofBytes_length]; decide) | rfl | exact tab_get (by first | omega | (simp; omega)) | exact gm (d := 0) (by first | omega | (simp; omega))))) rfl) (by decide) ?_
          refine JO.v (Yv.bin rfl rfl (BinR.gtr_u8 (b := 0#8))) (by decide) ?_
          refine JO.v (Yv.move rfl) (by decide) ?_
          refine JO.join 5 50 (.bool (decide (0 < r.k8.toNat ∧ r.smO.getD 0 0 = 0))) ?_ ?_
          · skip
            refine JO.gsplit (g := 44) rfl (fun hg45 => ?_) (fun hg45 => ?_)
            · have hg45' := hg45
              try simp only [decide_eq_true_eq, decide_eq_false_iff_not, Bool.not_eq_true', Bool.not_eq_false', ne_eq, Decidable.not_not, Bool.not_eq_true, Bool.and_eq_true, Bool.or_eq_true, BitVec.reduceToNat] at hg45'
              refine JO.gt (g := 45) rfl rfl hg45 ?_
              refine JO.v (Yv.move rfl) (by decide) ?_
              refine JO.gt (g := 45) rfl rfl hg45 ?_
              first | refine JO.v (Yv.indexRow1 (j := 0) Try.underlying24 sz_5 rfl rfl (by repeat (first | exact List.Mem.head _ | refine List.Mem.tail _ ?_)) (by first | exact ltb rfl | (simp; done) | (simp; omega) | omega | (simp [*]; omega))) (by decide) ?_ | refine JO.v (Yv.indexRd1 (j := 0) Try.underlying24 sz_5 rfl rfl (by repeat (first | exact Lend.same _ _ | exact Lend.row _ _ _ _ _ _ (by decide) | apply Lend.there)) (by first | exact ltb rfl | (simp; done) | (simp; omega) | omega | (simp [*]; omega))) (by decide) ?_
              refine JO.gt (g := 45) rfl rfl hg45 ?_
              refine JO.v (Yv.as (v' := u8 (r.smO.getD 0 0)) (Yv.load1 one_5 rfl (by first | exact Kn.own (by repeat (first | exact List.Mem.head _ | refine List.Mem.tail _ ?_)) (by first | exact gm (d := 0) (by rw [ofBytes_length]; decide) | rfl | exact tab_get (by first | omega | (simp; omega)) | exact gm (d := 0) (by first | omega | (simp; omega))) | exact Kn.ro (by repeat (first | exact List.Mem.head _ | refine List.Mem.tail _ ?_)) (by first | exact gm (d := 0) (by rw [ofBytes_length]; decide) | rfl | exact tab_get (by first | omega | (simp; omega)) | exact gm (d := 0) (by first | omega | (simp; omega))) | exact Kn.row (by repeat (first | exact List.Mem.head _ | refine List.Mem.tail _ ?_)) (by first | exact gm (d := 0) (by rw [ofBytes_length]; decide) | rfl | exact tab_get (by first | omega | (simp; omega)) | exact gm (d := 0) (by first | omega | (simp; omega))) | exact Kn.rd (by repeat (first | exact Lend.same _ _ | exact Lend.row _ _ _ _ _ _ (by decide) | apply Lend.there)) (by first | exact gm (d := 0) (by rw [ofBytes_length]; decide) | rfl | exact tab_get (by first | omega | (simp; omega)) | exact gm (d := 0) (by first | omega | (simp; omega))) | exact Kn.rd2 (by repeat (first | exact Lend.same _ _ | exact Lend.row _ _ _ _ _ _ (by decide) | apply Lend.there)) (by first | exact gm (d := 0) (by rw [ofBytes_length]; decide) | rfl | exact tab_get (by first | omega | (simp; omega)) | exact gm (d := 0) (by first | omega | (simp; omega))))) rfl) (by decide) ?_
              refine JO.gt (g := 45) rfl rfl hg45 ?_
              refine JO.v (Yv.bin rfl rfl (BinR.eql_u8 (b := 0#8))) (by decide) ?_
              refine JO.v (Yv.pick1 rfl hg45 rfl) (by decide) ?_
              refine JO.nil ?_
              refine JQ.head () (by first | (refine ⟨by first | rfl | (simp [*]; done) | (show some _ = some _; simp [*]; done), ?_⟩; repeat (first | exact trivial | refine ⟨rfl, ?_⟩))) (Subs.sub (by repeat (first | exact Subs.nil _ | apply Subs.cons | exact List.Mem.head _ | refine List.Mem.tail _ ?_))) (Picks.perm (by repeat (first | exact Picks.nil _ | apply Picks.cons | exact Pull.here _ _ | apply Pull.there))) ?_
              trivial
            · have hg45' := hg45
              try simp only [decide_eq_true_eq, decide_eq_false_iff_not, Bool.not_eq_true', Bool.not_eq_false', ne_eq, Decidable.not_not, Bool.not_eq_true, Bool.and_eq_true, Bool.or_eq_true, BitVec.reduceToNat] at hg45'
              refine JO.gf (g := 45) rfl rfl hg45 (by decide) ?_
              refine JO.gf (g := 45) rfl rfl hg45 (by decide) ?_
              refine JO.gf (g := 45) rfl rfl hg45 (by decide) ?_
              refine JO.gf (g := 45) rfl rfl hg45 (by decide) ?_
              refine JO.v (Yv.pick0 rfl hg45 rfl) (by decide) ?_
              refine JO.nil ?_
              refine JQ.head () (by first | (refine ⟨by first | rfl | (simp [*]; done) | (show some _ = some _; simp [*]; done), ?_⟩; repeat (first | exact trivial | refine ⟨rfl, ?_⟩))) (Subs.sub (by repeat (first | exact Subs.nil _ | apply Subs.cons | exact List.Mem.head _ | refine List.Mem.tail _ ?_))) (Picks.perm (by repeat (first | exact Picks.nil _ | apply Picks.cons | exact Pull.here _ _ | apply Pull.there))) ?_
              trivial
          · skip
            refine JO.v (Yv.assign rfl) (by decide) ?_
            refine JO.nil ?_
            refine JQ.then_normal ?_
            refine JC.cond rfl (fun hc5 => ?_) (fun hc5 => ?_)
            · try simp only [decide_eq_true_eq, decide_eq_false_iff_not, Bool.not_eq_true', Bool.not_eq_false', ne_eq, Decidable.not_not, Bool.not_eq_true, Bool.and_eq_true, Bool.or_eq_true, BitVec.reduceToNat] at hc5
              have hF : r.smF lim = r.smR.wrong 31 := by rw [Rdr.smF, if_neg (not_not_intro hc3), if_neg hc4, if_pos hc5]
              refine JC.exit ?_
              refine JQ.then_exit ?_
              refine JQ.then_exit ?_
              refine JQ.block_other (by decide) ?_
              refine JQ.then_exit ?_
              refine JQ.block_other (by decide) ?_
              refine JQ.block_exit ?_
              refine JQ.then_normal ?_
              refine JC.seq ?_
              refine JC.region ?_
              refine JO.v (Yv.move rfl) (by decide) ?_
              refine JO.call (f43_spec p x.2 r.smR 31) body_43 rfl (by repeat (first | exact Picks.nil _ | apply Picks.cons | exact Pull.here _ _ | apply Pull.there)) (by repeat (first | exact Subs.nil _ | apply Subs.cons | exact List.Mem.head _ | refine List.Mem.tail _ ?_)) (by decide) ?_
              rintro _ _ _ ⟨_, _, ⟨v3, rfl, rfl, rfl⟩, hΓ, hH⟩
              simp only [List.cons_append, List.nil_append] at hΓ hH; subst hΓ hH
              rw [← hF]
              refine JO.nil ?_
              refine JQ.then_normal ?_
              refine JC.exit ?_
              refine JQ.block_other (by decide) ?_
              refine JQ.then_exit ?_
              refine JQ.block_exit ?_
              refine JQ.then_normal ?_
              refine JC.seq ?_
              refine JC.seq ?_
              refine JC.region ?_
              refine JO.v (Yv.move rfl) (by decide) ?_
              refine JO.v (Yv.nilCheck rfl) (by decide) ?_
              refine JO.v (Yv.fieldAddr fa_77_1 rfl) (by decide) ?_
              refine JO.v (Yv.load1 one_27 rfl (by first | exact Kn.own (by repeat (first | exact List.Mem.head _ | refine List.Mem.tail _ ?_)) (by first | exact gm (d := 0) (by rw [ofBytes_length]; decide) | rfl | exact tab_get (by first | omega | (simp; omega)) | exact gm (d := 0) (by first | omega | (simp; omega))) | exact Kn.ro (by repeat (first | exact List.Mem.head _ | refine List.Mem.tail _ ?_)) (by first | exact gm (d := 0) (by rw [ofBytes_length]; decide) | rfl | exact tab_get (by first | omega | (simp; omega)) | exact gm (d := 0) (by first | omega | (simp; omega))) | exact Kn.row (by repeat (first | exact List.Mem.head _ | refine List.Mem.tail _ ?_)) (by first | exact gm (d := 0) (by rw [ofBytes_length]; decide) | rfl | exact tab_get (by first | omega | (simp; omega)) | exact gm (d := 0) (by first | omega | (simp; omega))) | exact Kn.rd (by repeat (first | exact Lend.same _ _ | exact Lend.row _ _ _ _ _ _ (by decide) | apply Lend.there)) (by first | exact gm (d := 0) (by rw [ofBytes_length]; decide) | rfl | exact tab_get (by first | omega | (simp; omega)) | exact gm (d := 0) (by first | omega | (simp; omega))) | exact Kn.rd2 (by repeat (first | exact Lend.same _ _ | exact Lend.row _ _ _ _ _ _ (by decide) | apply Lend.there)) (by first | exact gm (d := 0) (by rw [ofBytes_length]; decide) | rfl | exact tab_get (by first | omega | (simp; omega)) | exact gm (d := 0) (by first | omega | (simp; omega))))) (by decide) ?_
              refine JO.v (Yv.bin rfl rfl BinR.neq_i) (by decide) ?_
              refine JO.nil ?_
              refine JQ.then_normal ?_
              refine JC.cond rfl (fun hc7 => ?_) (fun hc7 => ?_)
              · try simp only [decide_eq_true_eq, decide_eq_false_iff_not, Bool.not_eq_true', Bool.not_eq_false', ne_eq, Decidable.not_not, Bool.not_eq_true, Bool.and_eq_true, Bool.or_eq_true, BitVec.reduceToNat] at hc7
                have hS : r.sm lim = 0 := by rw [Rdr.sm, if_neg (by omega), if_pos hc7]
                refine JC.seq ?_
                refine JC.region ?_
                refine JO.v (Yv.assign rfl) (by decide) ?_
                refine JO.nil ?_
                refine JQ.then_normal ?_
                refine JC.ret ?_
                refine JQ.then_ret ?_
                have hA : r.smA lim = r.smF lim := if_neg (by omega)
                exact JQ.done (.inr rfl) (Γ' := [Res.rd _ (r.smF lim).b.length 1 ((r.smF lim).b.map u8)]) (H' := [Res.cells p [_, it (r.smF lim).e] 77]) (res1 rfl (RV.tmp rfl)) (Subs.sub (by repeat (first | exact Subs.nil _ | apply Subs.cons | exact List.Mem.head _ | refine List.Mem.tail _ ?_))) (Picks.perm (by repeat (first | exact Picks.nil _ | apply Picks.cons | exact Pull.here _ _ | apply Pull.there))) ⟨_, by rw [hS] <;> rfl, by rw [hA], by rw [hA]⟩
              · try simp only [decide_eq_true_eq, decide_eq_false_iff_not, Bool.not_eq_true', Bool.not_eq_false', ne_eq, Decidable.not_not, Bool.not_eq_true, Bool.and_eq_true, Bool.or_eq_true, BitVec.reduceToNat] at hc7
                have hS : r.sm lim = (ofBytes r.smO).getD 0 0 := by rw [Rdr.sm, if_neg (by omega), if_neg (not_not_intro hc7)]
                refine JC.skip ?_
                refine JQ.then_normal ?_
                refine JC.seq ?_
                refine JC.region ?_
                first | refine JO.v (Yv.indexArr1 (j := 0) Try.underlying75 sz_22 rfl rfl (by first | exact ltb rfl | (simp; done) | (simp; omega) | omega | (simp [*]; omega))) (by decide) ?_ | refine JO.v (Yv.indexArr1o (j := 0) Try.underlying75 sz_22 rfl rfl (by first | exact ltb rfl | (simp; done) | (simp; omega) | omega | (simp [*]; omega))) (by decide) ?_
                refine JO.v (Yv.as (v' := u64 ((ofBytes r.smO).getD 0 0)) (Yv.load1 one_22 rfl (by first | exact Kn.own (by repeat (first | exact List.Mem.head _ | refine List.Mem.tail _ ?_)) (by first | exact gm (d := 0) (by rw [ofBytes_length]; decide) | rfl | exact tab_get (by first | omega | (simp; omega)) | exact gm (d := 0) (by first | omega | (simp; omega))) | exact Kn.ro (by repeat (first | exact List.Mem.head _ | refine List.Mem.tail _ ?_)) (by first | exact gm (d := 0) (by rw [ofBytes_length]; decide) | rfl | exact tab_get (by first | omega | (simp; omega)) | exact gm (d := 0) (by first | omega | (simp; omega))) | exact Kn.row (by repeat (first | exact List.Mem.head _ | refine List.Mem.tail _ ?_)) (by first | exact gm (d := 0) (by rw [ofBytes_length]; decide) | rfl | exact tab_get (by first | omega | (simp; omega)) | exact gm (d := 0) (by first | omega | (simp; omega))) | exact Kn.rd (by repeat (first | exact Lend.same _ _ | exact Lend.row _ _ _ _ _ _ (by decide) | apply Lend.there)) (by first | exact gm (d := 0) (by rw [ofBytes_length]; decide) | rfl | exact tab_get (by first | omega | (simp; omega)) | exact gm (d := 0) (by first | omega | (simp; omega))) | exact Kn.rd2 (by repeat (first | exact Lend.same _ _ | exact Lend.row _ _ _ _ _ _ (by decide) | apply Lend.there)) (by first | exact gm (d := 0) (by rw [ofBytes_length]; decide) | rfl | exact tab_get (by first | omega | (simp; omega)) | exact gm (d := 0) (by first | omega | (simp; omega))))) rfl) (by decide) ?_
                refine JO.v (Yv.assign rfl) (by decide) ?_
                refine JO.nil ?_
                refine JQ.then_normal ?_
                refine JC.ret ?_
                have hA : r.smA lim = r.smF lim := if_neg (by omega)
                exact JQ.done (.inr rfl) (Γ' := [Res.rd _ (r.smF lim).b.length 1 ((r.smF lim).b.map u8)]) (H' := [Res.cells p [_, it (r.smF lim).e] 77]) (res1 rfl (RV.tmp rfl)) (Subs.sub (by repeat (first | exact Subs.nil _ | apply Subs.cons | exact List.Mem.head _ | refine List.Mem.tail _ ?_))) (Picks.perm (by repeat (first | exact Picks.nil _ | apply Picks.cons | exact Pull.here _ _ | apply Pull.there))) ⟨_, by rw [hS] <;> rfl, by rw [hA], by rw [hA]⟩
            · try simp only [decide_eq_true_eq, decide_eq_false_iff_not, Bool.not_eq_true', Bool.not_eq_false', ne_eq, Decidable.not_not, Bool.not_eq_true, Bool.and_eq_true, Bool.or_eq_true, BitVec.reduceToNat] at hc5
              refine JC.skip ?_
              refine JQ.then_normal ?_
              refine JC.seq ?_
              refine JC.region ?_
              first | refine JO.v (Yv.indexArr1 (j := 0) Try.underlying75 sz_22 rfl rfl (by first | exact ltb rfl | (simp; done) | (simp; omega) | omega | (simp [*]; omega))) (by decide) ?_ | refine JO.v (Yv.indexArr1o (j := 0) Try.underlying75 sz_22 rfl rfl (by first | exact ltb rfl | (simp; done) | (simp; omega) | omega | (simp [*]; omega))) (by decide) ?_
              refine JO.v (Yv.as (v' := u64 ((ofBytes r.smO).getD 0 0)) (Yv.load1 one_22 rfl (by first | exact Kn.own (by repeat (first | exact List.Mem.head _ | refine List.Mem.tail _ ?_)) (by first | exact gm (d := 0) (by rw [ofBytes_length]; decide) | rfl | exact tab_get (by first | omega | (simp; omega)) | exact gm (d := 0) (by first | omega | (simp; omega))) | exact Kn.ro (by repeat (first | exact List.Mem.head _ | refine List.Mem.tail _ ?_)) (by first | exact gm (d := 0) (by rw [ofBytes_length]; decide) | rfl | exact tab_get (by first | omega | (simp; omega)) | exact gm (d := 0) (by first | omega | (simp; omega))) | exact Kn.row (by repeat (first | exact List.Mem.head _ | refine List.Mem.tail _ ?_)) (by first | exact gm (d := 0) (by rw [ofBytes_length]; decide) | rfl | exact tab_get (by first | omega | (simp; omega)) | exact gm (d := 0) (by first | omega | (simp; omega))) | exact Kn.rd (by repeat (first | exact Lend.same _ _ | exact Lend.row _ _ _ _ _ _ (by decide) | apply Lend.there)) (by first | exact gm (d := 0) (by rw [ofBytes_length]; decide) | rfl | exact tab_get (by first | omega | (simp; omega)) | exact gm (d := 0) (by first | omega | (simp; omega))) | exact Kn.rd2 (by repeat (first | exact Lend.same _ _ | exact Lend.row _ _ _ _ _ _ (by decide) | apply Lend.there)) (by first | exact gm (d := 0) (by rw [ofBytes_length]; decide) | rfl | exact tab_get (by first | omega | (simp; omega)) | exact gm (d := 0) (by first | omega | (simp; omega))))) rfl) (by decide) ?_
              refine JO.v (Yv.move rfl) (by decide) ?_
              refine JO.v (Yv.bin rfl rfl (BinR.gtr_u64)) (by decide) ?_
              refine JO.v (Yv.assign rfl) (by decide) ?_
              refine JO.nil ?_
              refine JQ.then_normal ?_
              refine JC.cond rfl (fun hc6 => ?_) (fun hc6 => ?_)
              · try simp only [decide_eq_true_eq, decide_eq_false_iff_not, Bool.not_eq_true', Bool.not_eq_false', ne_eq, Decidable.not_not, Bool.not_eq_true, Bool.and_eq_true, Bool.or_eq_true, BitVec.reduceToNat] at hc6
                have hF : r.smF lim = r.smR.wrong 2 := by rw [Rdr.smF, if_neg (not_not_intro hc3), if_neg hc4, if_neg hc5, if_pos hc6]
                refine JC.exit ?_
                refine JQ.then_exit ?_
                refine JQ.block_other (by decide) ?_
                refine JQ.then_exit ?_
                refine JQ.block_other (by decide) ?_
                refine JQ.block_other (by decide) ?_
                refine JQ.then_exit ?_
                refine JQ.block_exit ?_
                refine JQ.then_normal ?_
                refine JC.seq ?_
                refine JC.region ?_
                refine JO.v (Yv.move rfl) (by decide) ?_
                refine JO.call (f43_spec p x.2 r.smR 2) body_43 rfl (by repeat (first | exact Picks.nil _ | apply Picks.cons | exact Pull.here _ _ | apply Pull.there)) (by repeat (first | exact Subs.nil _ | apply Subs.cons | exact List.Mem.head _ | refine List.Mem.tail _ ?_)) (by decide) ?_
                rintro _ _ _ ⟨_, _, ⟨v3, rfl, rfl, rfl⟩, hΓ, hH⟩
                simp only [List.cons_append, List.nil_append] at hΓ hH; subst hΓ hH
                rw [← hF]
                refine JO.nil ?_
                refine JQ.then_normal ?_
                refine JC.exit ?_
                refine JQ.block_exit ?_
                refine JQ.then_normal ?_
                refine JC.seq ?_
                refine JC.seq ?_
                refine JC.region ?_
                refine JO.v (Yv.move rfl) (by decide) ?_
                refine JO.v (Yv.nilCheck rfl) (by decide) ?_
                refine JO.v (Yv.fieldAddr fa_77_1 rfl) (by decide) ?_
                refine JO.v (Yv.load1 one_27 rfl (by first | exact Kn.own (by repeat (first | exact List.Mem.head _ | refine List.Mem.tail _ ?_)) (by first | exact gm (d := 0) (by rw [ofBytes_length]; decide) | rfl | exact tab_get (by first | omega | (simp; omega)) | exact gm (d := 0) (by first | omega | (simp; omega))) | exact Kn.ro (by repeat (first | exact List.Mem.head _ | refine List.Mem.tail _ ?_)) (by first | exact gm (d := 0) (by rw [ofBytes_length]; decide) | rfl | exact tab_get (by first | omega | (simp; omega)) | exact gm (d := 0) (by first | omega | (simp; omega))) | exact Kn.row (by repeat (first | exact List.Mem.head _ | refine List.Mem.tail _ ?_)) (by first | exact gm (d := 0) (by rw [ofBytes_length]; decide) | rfl | exact tab_get (by first | omega | (simp; omega)) | exact gm (d := 0) (by first | omega | (simp; omega))) | exact Kn.rd (by repeat (first | exact Lend.same _ _ | exact Lend.row _ _ _ _ _ _ (by decide) | apply Lend.there)) (by first | exact gm (d := 0) (by rw [ofBytes_length]; decide) | rfl | exact tab_get (by first | omega | (simp; omega)) | exact gm (d := 0) (by first | omega | (simp; omega))) | exact Kn.rd2 (by repeat (first | exact Lend.same _ _ | exact Lend.row _ _ _ _ _ _ (by decide) | apply Lend.there)) (by first | exact gm (d := 0) (by rw [ofBytes_length]; decide) | rfl | exact tab_get (by first | omega | (simp; omega)) | exact gm (d := 0) (by first | omega | (simp; omega))))) (by decide) ?_
                refine JO.v (Yv.bin rfl rfl BinR.neq_i) (by decide) ?_
                refine JO.nil ?_
                refine JQ.then_normal ?_
                refine JC.cond rfl (fun hc7 => ?_) (fun hc7 => ?_)
                · try simp only [decide_eq_true_eq, decide_eq_false_iff_not, Bool.not_eq_true', Bool.not_eq_false', ne_eq, Decidable.not_not, Bool.not_eq_true, Bool.and_eq_true, Bool.or_eq_true, BitVec.reduceToNat] at hc7
                  have hS : r.sm lim = 0 := by rw [Rdr.sm, if_neg (by omega), if_pos hc7]
                  refine JC.seq ?_
                  refine JC.region ?_
                  refine JO.v (Yv.assign rfl) (by decide) ?_
                  refine JO.nil ?_
                  refine JQ.then_normal ?_
                  refine JC.ret ?_
                  refine JQ.then_ret ?_
                  have hA : r.smA lim = r.smF lim := if_neg (by omega)
                  exact JQ.done (.inr rfl) (Γ' := [Res.rd _ (r.smF lim).b.length 1 ((r.smF lim).b.map u8)]) (H' := [Res.cells p [_, it (r.smF lim).e] 77]) (res1 rfl (RV.tmp rfl)) (Subs.sub (by repeat (first | exact Subs.nil _ | apply Subs.cons | exact List.Mem.head _ | refine List.Mem.tail _ ?_))) (Picks.perm (by repeat (first | exact Picks.nil _ | apply Picks.cons | exact Pull.here _ _ | apply Pull.there))) ⟨_, by rw [hS] <;> rfl, by rw [hA], by rw [hA]⟩
                · try simp only [decide_eq_true_eq, decide_eq_false_iff_not, Bool.not_eq_true', Bool.not_eq_false', ne_eq, Decidable.not_not, Bool.not_eq_true, Bool.and_eq_true, Bool.or_eq_true, BitVec.reduceToNat] at hc7
                  have hS : r.sm lim = (ofBytes r.smO).getD 0 0 := by rw [Rdr.sm, if_neg (by omega), if_neg (not_not_intro hc7)]
                  refine JC.skip ?_
                  refine JQ.then_normal ?_
                  refine JC.seq ?_
                  refine JC.region ?_
                  first | refine JO.v (Yv.indexArr1 (j := 0) Try.underlying75 sz_22 rfl rfl (by first | exact ltb rfl | (simp; done) | (simp; omega) | omega | (simp [*]; omega))) (by decide) ?_ | refine JO.v (Yv.indexArr1o (j := 0) Try.underlying75 sz_22 rfl rfl (by first | exact ltb rfl | (simp; done) | (simp; omega) | omega | (simp [*]; omega))) (by decide) ?_
                  refine JO.v (Yv.as (v' := u64 ((ofBytes r.smO).getD 0 0)) (Yv.load1 one_22 rfl (by first | exact Kn.own (by repeat (first | exact List.Mem.head _ | refine List.Mem.tail _ ?_)) (by first | exact gm (d := 0) (by rw [ofBytes_length]; decide) | rfl | exact tab_get (by first | omega | (simp; omega)) | exact gm (d := 0) (by first | omega | (simp; omega))) | exact Kn.ro (by repeat (first | exact List.Mem.head _ | refine List.Mem.tail _ ?_)) (by first | exact gm (d := 0) (by rw [ofBytes_length]; decide) | rfl | exact tab_get (by first | omega | (simp; omega)) | exact gm (d := 0) (by first | omega | (simp; omega))) | exact Kn.row (by repeat (first | exact List.Mem.head _ | refine List.Mem.tail _ ?_)) (by first | exact gm (d := 0) (by rw [ofBytes_length]; decide) | rfl | exact tab_get (by first | omega | (simp; omega)) | exact gm (d := 0) (by first | omega | (simp; omega))) | exact Kn.rd (by repeat (first | exact Lend.same _ _ | exact Lend.row _ _ _ _ _ _ (by decide) | apply Lend.there)) (by first | exact gm (d := 0) (by rw [ofBytes_length]; decide) | rfl | exact tab_get (by first | omega | (simp; omega)) | exact gm (d := 0) (by first | omega | (simp; omega))) | exact Kn.rd2 (by repeat (first | exact Lend.same _ _ | exact Lend.row _ _ _ _ _ _ (by decide) | apply Lend.there)) (by first | exact gm (d := 0) (by rw [ofBytes_length]; decide) | rfl | exact tab_get (by first | omega | (simp; omega)) | exact gm (d := 0) (by first | omega | (simp; omega))))) rfl) (by decide) ?_
                  refine JO.v (Yv.assign rfl) (by decide) ?_
                  refine JO.nil ?_
                  refine JQ.then_normal ?_
                  refine JC.ret ?_
                  have hA : r.smA lim = r.smF lim := if_neg (by omega)
                  exact JQ.done (.inr rfl) (Γ' := [Res.rd _ (r.smF lim).b.length 1 ((r.smF lim).b.map u8)]) (H' := [Res.cells p [_, it (r.smF lim).e] 77]) (res1 rfl (RV.tmp rfl)) (Subs.sub (by repeat (first | exact Subs.nil _ | apply Subs.cons | exact List.Mem.head _ | refine List.Mem.tail _ ?_))) (Picks.perm (by repeat (first | exact Picks.nil _ | apply Picks.cons | exact Pull.here _ _ | apply Pull.there))) ⟨_, by rw [hS] <;> rfl, by rw [hA], by rw [hA]⟩
              · try simp only [decide_eq_true_eq, decide_eq_false_iff_not, Bool.not_eq_true', Bool.not_eq_false', ne_eq, Decidable.not_not, Bool.not_eq_true, Bool.and_eq_true, Bool.or_eq_true, BitVec.reduceToNat] at hc6
                have hF : r.smF lim = r.smR := by rw [Rdr.smF, if_neg (not_not_intro hc3), if_neg hc4, if_neg hc5, if_neg hc6]
                rw [← hF]
                refine JC.skip ?_
                refine JQ.then_normal ?_
                refine JC.exit ?_
                refine JQ.block_other (by decide) ?_
                refine JQ.then_exit ?_
                refine JQ.block_other (by decide) ?_
                refine JQ.block_other (by decide) ?_
                refine JQ.then_exit ?_
                refine JQ.block_other (by decide) ?_
                refine JQ.then_exit ?_
                refine JQ.block_exit ?_
                refine JQ.then_normal ?_
                refine JC.seq ?_
                refine JC.seq ?_
                refine JC.region ?_
                refine JO.v (Yv.move rfl) (by decide) ?_
                refine JO.v (Yv.nilCheck rfl) (by decide) ?_
                refine JO.v (Yv.fieldAddr fa_77_1 rfl) (by decide) ?_
                refine JO.v (Yv.load1 one_27 rfl (by first | exact Kn.own (by repeat (first | exact List.Mem.head _ | refine List.Mem.tail _ ?_)) (by first | exact gm (d := 0) (by rw [ofBytes_length]; decide) | rfl | exact tab_get (by first | omega | (simp; omega)) | exact gm (d := 0) (by first | omega | (simp; omega))) | exact Kn.ro (by repeat (first | exact List.Mem.head _ | refine List.Mem.tail _ ?_)) (by first | exact gm (d := 0) (by rw [ofBytes_length]; decide) | rfl | exact tab_get (by first | omega | (simp; omega)) | exact gm (d := 0) (by first | omega | (simp; omega))) | exact Kn.row (by repeat (first | exact List.Mem.head _ | refine List.Mem.tail _ ?_)) (by first | exact gm (d := 0) (by rw [ofBytes_length]; decide) | rfl | exact tab_get (by first | omega | (simp; omega)) | exact gm (d := 0) (by first | omega | (simp; omega))) | exact Kn.rd (by repeat (first | exact Lend.same _ _ | exact Lend.row _ _ _ _ _ _ (by decide) | apply Lend.there)) (by first | exact gm (d := 0) (by rw [ofBytes_length]; decide) | rfl | exact tab_get (by first | omega | (simp; omega)) | exact gm (d := 0) (by first | omega | (simp; omega))) | exact Kn.rd2 (by repeat (first | exact Lend.same _ _ | exact Lend.row _ _ _ _ _ _ (by decide) | apply Lend.there)) (by first | exact gm (d := 0) (by rw [ofBytes_length]; decide) | rfl | exact tab_get (by first | omega | (simp; omega)) | exact gm (d := 0) (by first | omega | (simp; omega))))) (by decide) ?_
                refine JO.v (Yv.bin rfl rfl BinR.neq_i) (by decide) ?_
                refine JO.nil ?_
                refine JQ.then_normal ?_
                refine JC.cond rfl (fun hc7 => ?_) (fun hc7 => ?_)
                · try simp only [decide_eq_true_eq, decide_eq_false_iff_not, Bool.not_eq_true', Bool.not_eq_false', ne_eq, Decidable.not_not, Bool.not_eq_true, Bool.and_eq_true, Bool.or_eq_true, BitVec.reduceToNat] at hc7
                  have hS : r.sm lim = 0 := by rw [Rdr.sm, if_neg (by omega), if_pos hc7]
                  refine JC.seq ?_
                  refine JC.region ?_
                  refine JO.v (Yv.assign rfl) (by decide) ?_
                  refine JO.nil ?_
                  refine JQ.then_normal ?_
                  refine JC.ret ?_
                  refine JQ.then_ret ?_
                  have hA : r.smA lim = r.smF lim := if_neg (by omega)
                  exact JQ.done (.inr rfl) (Γ' := [Res.rd _ (r.smF lim).b.length 1 ((r.smF lim).b.map u8)]) (H' := [Res.cells p [_, it (r.smF lim).e] 77]) (res1 rfl (RV.tmp rfl)) (Subs.sub (by repeat (first | exact Subs.nil _ | apply Subs.cons | exact List.Mem.head _ | refine List.Mem.tail _ ?_))) (Picks.perm (by repeat (first | exact Picks.nil _ | apply Picks.cons | exact Pull.here _ _ | apply Pull.there))) ⟨_, by rw [hS] <;> rfl, by rw [hA], by rw [hA]⟩
                · try simp only [decide_eq_true_eq, decide_eq_false_iff_not, Bool.not_eq_true', Bool.not_eq_false', ne_eq, Decidable.not_not, Bool.not_eq_true, Bool.and_eq_true, Bool.or_eq_true, BitVec.reduceToNat] at hc7
                  have hS : r.sm lim = (ofBytes r.smO).getD 0 0 := by rw [Rdr.sm, if_neg (by omega), if_neg (not_not_intro hc7)]
                  refine JC.skip ?_
                  refine JQ.then_normal ?_
                  refine JC.seq ?_
                  refine JC.region ?_
                  first | refine JO.v (Yv.indexArr1 (j := 0) Try.underlying75 sz_22 rfl rfl (by first | exact ltb rfl | (simp; done) | (simp; omega) | omega | (simp [*]; omega))) (by decide) ?_ | refine JO.v (Yv.indexArr1o (j := 0) Try.underlying75 sz_22 rfl rfl (by first | exact ltb rfl | (simp; done) | (simp; omega) | omega | (simp [*]; omega))) (by decide) ?_
                  refine JO.v (Yv.as (v' := u64 ((ofBytes r.smO).getD 0 0)) (Yv.load1 one_22 rfl (by first | exact Kn.own (by repeat (first | exact List.Mem.head _ | refine List.Mem.tail _ ?_)) (by first | exact gm (d := 0) (by rw [ofBytes_length]; decide) | rfl | exact tab_get (by first | omega | (simp; omega)) | exact gm (d := 0) (by first | omega | (simp; omega))) | exact Kn.ro (by repeat (first | exact List.Mem.head _ | refine List.Mem.tail _ ?_)) (by first | exact gm (d := 0) (by rw [ofBytes_length]; decide) | rfl | exact tab_get (by first | omega | (simp; omega)) | exact gm (d := 0) (by first | omega | (simp; omega))) | exact Kn.row (by repeat (first | exact List.Mem.head _ | refine List.Mem.tail _ ?_)) (by first | exact gm (d := 0) (by rw [ofBytes_length]; decide) | rfl | exact tab_get (by first | omega | (simp; omega)) | exact gm (d := 0) (by first | omega | (simp; omega))) | exact Kn.rd (by repeat (first | exact Lend.same _ _ | exact Lend.row _ _ _ _ _ _ (by decide) | apply Lend.there)) (by first | exact gm (d := 0) (by rw [ofBytes_length]; decide) | rfl | exact tab_get (by first | omega | (simp; omega)) | exact gm (d := 0) (by first | omega | (simp; omega))) | exact Kn.rd2 (by repeat (first | exact Lend.same _ _ | exact Lend.row _ _ _ _ _ _ (by decide) | apply Lend.there)) (by first | exact gm (d := 0) (by rw [ofBytes_length]; decide) | rfl | exact tab_get (by first | omega | (simp; omega)) | exact gm (d := 0) (by first | omega | (simp; omega))))) rfl) (by decide) ?_
                  refine JO.v (Yv.assign rfl) (by decide) ?_
                  refine JO.nil ?_
                  refine JQ.then_normal ?_
                  refine JC.ret ?_
                  have hA : r.smA lim = r.smF lim := if_neg (by omega)
                  exact JQ.done (.inr rfl) (Γ' := [Res.rd _ (r.smF lim).b.length 1 ((r.smF lim).b.map u8)]) (H' := [Res.cells p [_, it (r.smF lim).e] 77]) (res1 rfl (RV.tmp rfl)) (Subs.sub (by repeat (first | exact Subs.nil _ | apply Subs.cons | exact List.Mem.head _ | refine List.Mem.tail _ ?_))) (Picks.perm (by repeat (first | exact Picks.nil _ | apply Picks.cons | exact Pull.here _ _ | apply Pull.there))) ⟨_, by rw [hS] <;> rfl, by rw [hA], by rw [hA]⟩
end Go.Proofs.Ytffgimlkmfjgmaa
