/- Walks: the reader: taking. -/
import Derived.Test.YtffgimlkmfjgmaaF2
namespace Go.Proofs.Ytffgimlkmfjgmaa
open Go.RowKit
set_option maxRecDepth 100000
set_option linter.unusedVariables false
set_option linter.unusedSimpArgs false

theorem f30_spec (v : Value) (b : B8) :
    Spec Try.prog 30 #[v] [Res.rd v b.length 1 (b.map u8)] []
      (fun o Γ' H' => ∃ p, o = ptr p 0 ∧ Γ' = [] ∧ H' = [Res.cells p [v, it 0] 77]) := by
  refine Spec.know (φ := ∃ A c, v = .slice A b.length c) (fun w hs => by obtain ⟨A, c, h, _⟩ := hs.rdForm (.head _); exact ⟨A, c, h⟩) ?_
  rintro ⟨A, c, rfl⟩
  refine Spec.of_args Try.func30 rfl Try.ntmps30 (by simp) fun w => ?_
  refine JC.seq ?_
  refine JC.region ?_
  refine JO.v (Yv.assign rfl) (by decide) ?_
  refine JO.nil ?_
  refine JQ.then_normal ?_
  refine JC.seq ?_
  refine JC.region ?_
  refine JO.v (Yv.move rfl) (by decide) ?_
  refine JO.v (Yv.build bld_77 rfl rfl) (by decide) ?_
  refine JO.box rfl _ rfl (by decide) fun b5 => ?_
  refine JO.v (Yv.assign rfl) (by decide) ?_
  refine JO.nil ?_
  refine JQ.then_normal ?_
  refine JC.ret ?_
  exact JQ.done (.inr rfl) (Γ' := []) (H' := [Res.cells _ _ 77]) (res1 rfl (RV.tmp rfl)) (Subs.sub (by repeat (first | exact Subs.nil _ | apply Subs.cons | exact List.Mem.head _ | refine List.Mem.tail _ ?_))) (Picks.perm (by repeat (first | exact Picks.nil _ | apply Picks.cons | exact Pull.here _ _ | apply Pull.there))) ⟨_, rfl, rfl, rfl⟩


theorem f43_spec (p : Nat) (v : Value) (r : Rdr) (e : Int) :
    Spec Try.prog 43 #[(ptr p 0), it e] [Res.rd v r.b.length 1 (r.b.map u8)] [Res.cells p [v, it r.e] 77]
      (fun o Γ' H' => ∃ v', o = .tuple #[] ∧ Γ' = [Res.rd v' (r.wrong e).b.length 1 ((r.wrong e).b.map u8)] ∧ H' = [Res.cells p [v', it (r.wrong e).e] 77]) := by
  refine Spec.of_args Try.func43 rfl Try.ntmps43 (by simp) fun w => ?_
  refine JC.seq ?_
  refine JC.region ?_
  refine JO.v (Yv.move rfl) (by decide) ?_
  refine JO.v (Yv.nilCheck rfl) (by decide) ?_
  refine JO.v (Yv.fieldAddr fa_77_1 rfl) (by decide) ?_
  refine JO.v (Yv.load1 one_27 rfl (by first | exact Kn.own (by repeat (first | exact List.Mem.head _ | refine List.Mem.tail _ ?_)) (by first  | rfl | exact tab_get (by first | omega | (simp; omega)) | exact gm (d := 0) (by first | omega | (simp; omega))) | exact Kn.ro (by repeat (first | exact List.Mem.head _ | refine List.Mem.tail _ ?_)) (by first  | rfl | exact tab_get (by first | omega | (simp; omega)) | exact gm (d := 0) (by first | omega | (simp; omega))) | exact Kn.row (by repeat (first | exact List.Mem.head _ | refine List.Mem.tail _ ?_)) (by first  | rfl | exact tab_get (by first | omega | (simp; omega)) | exact gm (d := 0) (by first | omega | (simp; omega))) | exact Kn.rd (by repeat (first | exact Lend.same _ _ | exact Lend.row _ _ _ _ _ _ (by decide) | apply Lend.there)) (by first  | rfl | exact tab_get (by first | omega | (simp; omega)) | exact gm (d := 0) (by first | omega | (simp; omega))) | exact Kn.rd2 (by repeat (first | exact Lend.same _ _ | exact Lend.row _ _ _ _ _ _ (by decide) | apply Lend.there)) (by first  | rfl | exact tab_get (by first | omega | (simp; omega)) | exact gm (d := 0) (by first | omega | (simp; omega))))) (by decide) ?_
  refine JO.v (Yv.bin rfl rfl BinR.eql_i) (by decide) ?_
  refine JO.nil ?_
  refine JQ.then_normal ?_
  refine JC.cond rfl (fun hc1 => ?_) (fun hc1 => ?_)
  · try simp only [decide_eq_true_eq, decide_eq_false_iff_not, Bool.not_eq_true', Bool.not_eq_false', ne_eq, Decidable.not_not, Bool.not_eq_true, Bool.and_eq_true, Bool.or_eq_true, BitVec.reduceToNat] at hc1
    have hw : r.wrong e = ⟨[], e⟩ := if_pos hc1
    refine JC.nilRd 1 ?_
    refine JC.region ?_
    refine JO.v (Yv.move rfl) (by decide) ?_
    refine JO.v (Yv.move rfl) (by decide) ?_
    refine JO.v (Yv.move rfl) (by decide) ?_
    refine JO.v (Yv.nilCheck rfl) (by decide) ?_
    refine JO.v (Yv.fieldAddr fa_77_0 rfl) (by decide) ?_
    first | refine JO.store1 sz_24 rfl rfl rfl (by repeat (first | exact Upd.here _ _ _ | apply Upd.there)) (by first | exact ltb rfl | (simp; done) | (simp; omega) | omega | (simp [*]; omega)) ?_ | refine JO.store1s sz_24 rfl rfl (by repeat (first | exact Lend.same _ _ | exact Lend.row _ _ _ _ _ _ (by decide) | apply Lend.there)) (by repeat (first | exact Upd.here _ _ _ | apply Upd.there)) (by first | exact ltb rfl | (simp; done) | (simp; omega) | omega | (simp [*]; omega)) ?_ | refine JO.storeRow1 sz_24 rfl rfl rfl (by repeat (first | exact Upd.here _ _ _ | apply Upd.there)) (by first | exact ltb rfl | (simp; done) | (simp; omega) | omega | (simp [*]; omega)) (by first | rfl | (simp; done) | omega | (simp; omega)) ?_
    refine JO.v (Yv.nilCheck rfl) (by decide) ?_
    refine JO.v (Yv.fieldAddr fa_77_1 rfl) (by decide) ?_
    first | refine JO.store1 sz_27 rfl rfl rfl (by repeat (first | exact Upd.here _ _ _ | apply Upd.there)) (by first | exact ltb rfl | (simp; done) | (simp; omega) | omega | (simp [*]; omega)) ?_ | refine JO.storeRow1 sz_27 rfl rfl rfl (by repeat (first | exact Upd.here _ _ _ | apply Upd.there)) (by first | exact ltb rfl | (simp; done) | (simp; omega) | omega | (simp [*]; omega)) (by first | rfl | (simp; done) | omega | (simp; omega)) ?_
    refine JO.nil ?_
    exact JQ.done (.inl rfl) (Γ' := [Res.rd (.slice none 0 0) 0 1 []]) (H' := [Res.cells p [.slice none 0 0, it e] 77]) (res_none rfl) (Subs.sub (by repeat (first | exact Subs.nil _ | apply Subs.cons | exact List.Mem.head _ | refine List.Mem.tail _ ?_))) (Picks.perm (by repeat (first | exact Picks.nil _ | apply Picks.cons | exact Pull.here _ _ | apply Pull.there))) ⟨_, rfl, by rw [hw] <;> rfl, by rw [hw] <;> rfl⟩
  · try simp only [decide_eq_true_eq, decide_eq_false_iff_not, Bool.not_eq_true', Bool.not_eq_false', ne_eq, Decidable.not_not, Bool.not_eq_true, Bool.and_eq_true, Bool.or_eq_true, BitVec.reduceToNat] at hc1
    have hw : r.wrong e = r := if_neg hc1
    refine JC.skip ?_
    exact JQ.done (.inl rfl) (Γ' := [Res.rd v r.b.length 1 (r.b.map u8)]) (H' := [Res.cells p [v, it r.e] 77]) (res_none rfl) (Subs.sub (by repeat (first | exact Subs.nil _ | apply Subs.cons | exact List.Mem.head _ | refine List.Mem.tail _ ?_))) (Picks.perm (by repeat (first | exact Picks.nil _ | apply Picks.cons | exact Pull.here _ _ | apply Pull.there))) ⟨_, rfl, by rw [hw] <;> rfl, by rw [hw] <;> rfl⟩


theorem f41_spec (p : Nat) (v : Value) (r : Rdr) (n : BitVec 64) :
    Spec Try.prog 41 #[(ptr p 0), u64 n] [Res.rd v r.b.length 1 (r.b.map u8)] [Res.cells p [v, it r.e] 77]
      (fun o Γ' H' => ∃ v', True ∧ Γ' = [Res.rd o (r.out n.toNat).length 1 ((r.out n.toNat).map u8), Res.rd v' (r.aft n.toNat).b.length 1 ((r.aft n.toNat).b.map u8)] ∧ H' = [Res.cells p [v', it (r.aft n.toNat).e] 77]) := by
  refine Spec.of_args Try.func41 rfl Try.ntmps41 (by simp) fun w => ?_
  refine JC.know (φ := r.b.length < 18446744073709551616) (fun w hs => by obtain ⟨_, _, _, _, _, _, h⟩ := hs.rdForm (.head _); unfold maxLen at h; omega) fun hb => ?_
  refine JC.seq ?_
  refine JC.region ?_
  refine JO.v (Yv.assign rfl) (by decide) ?_
  refine JO.nil ?_
  refine JQ.then_normal ?_
  refine JC.seq ?_
  refine JC.seq ?_
  refine JC.region ?_
  refine JO.v (Yv.move rfl) (by decide) ?_
  refine JO.v (Yv.move rfl) (by decide) ?_
  refine JO.v (Yv.nilCheck rfl) (by decide) ?_
  refine JO.v (Yv.fieldAddr fa_77_0 rfl) (by decide) ?_
  refine JO.v (Yv.load1 one_24 rfl (by first | exact Kn.own (by repeat (first | exact List.Mem.head _ | refine List.Mem.tail _ ?_)) (by first  | rfl | exact tab_get (by first | omega | (simp; omega)) | exact gm (d := 0) (by first | omega | (simp; omega))) | exact Kn.ro (by repeat (first | exact List.Mem.head _ | refine List.Mem.tail _ ?_)) (by first  | rfl | exact tab_get (by first | omega | (simp; omega)) | exact gm (d := 0) (by first | omega | (simp; omega))) | exact Kn.row (by repeat (first | exact List.Mem.head _ | refine List.Mem.tail _ ?_)) (by first  | rfl | exact tab_get (by first | omega | (simp; omega)) | exact gm (d := 0) (by first | omega | (simp; omega))) | exact Kn.rd (by repeat (first | exact Lend.same _ _ | exact Lend.row _ _ _ _ _ _ (by decide) | apply Lend.there)) (by first  | rfl | exact tab_get (by first | omega | (simp; omega)) | exact gm (d := 0) (by first | omega | (simp; omega))) | exact Kn.rd2 (by repeat (first | exact Lend.same _ _ | exact Lend.row _ _ _ _ _ _ (by decide) | apply Lend.there)) (by first  | rfl | exact tab_get (by first | omega | (simp; omega)) | exact gm (d := 0) (by first | omega | (simp; omega))))) (by decide) ?_
  first | refine JO.v (Yv.len_s Try.underlying24 rfl) (by decide) ?_ | refine JO.v (Yv.lenRd Try.underlying24 rfl (by repeat (first | exact Lend.same _ _ | exact Lend.row _ _ _ _ _ _ (by decide) | apply Lend.there))) (by decide) ?_
  refine JO.v (Yv.as (v' := u64 (BitVec.ofNat 64 r.b.length)) (Yv.conv_i_u64 Try.underlying3 Try.underlying22 rfl) (congrArg u64 (by simp))) (by decide) ?_
  refine JO.v (Yv.bin rfl rfl (BinR.gtr_u64)) (by decide) ?_
  refine JO.nil ?_
  refine JQ.then_normal ?_
  refine JC.cond rfl (fun hc1 => ?_) (fun hc1 => ?_)
  · try simp only [decide_eq_true_eq, decide_eq_false_iff_not, Bool.not_eq_true', Bool.not_eq_false', ne_eq, Decidable.not_not, Bool.not_eq_true, Bool.and_eq_true, Bool.or_eq_true, BitVec.reduceToNat] at hc1
    rw [BitVec.toNat_ofNat, Nat.mod_eq_of_lt hb] at hc1
    have hk := Rdr.chk_lt hc1
    refine JC.region ?_
    refine JO.v (Yv.move rfl) (by decide) ?_
    refine JO.call (f43_spec p v r 3) body_43 rfl (by repeat (first | exact Picks.nil _ | apply Picks.cons | exact Pull.here _ _ | apply Pull.there)) (by repeat (first | exact Subs.nil _ | apply Subs.cons | exact List.Mem.head _ | refine List.Mem.tail _ ?_)) (by decide) ?_
    rintro _ _ _ ⟨_, _, ⟨v1, rfl, rfl, rfl⟩, hΓ, hH⟩
    simp only [List.cons_append, List.nil_append] at hΓ hH; subst hΓ hH
    rw [← hk]
    refine JO.nil ?_
    refine JQ.then_normal ?_
    refine JC.seq ?_
    refine JC.seq ?_
    refine JC.region ?_
    refine JO.v (Yv.move rfl) (by decide) ?_
    refine JO.v (Yv.nilCheck rfl) (by decide) ?_
    refine JO.v (Yv.fieldAddr fa_77_1 rfl) (by decide) ?_
    refine JO.v (Yv.load1 one_27 rfl (by first | exact Kn.own (by repeat (first | exact List.Mem.head _ | refine List.Mem.tail _ ?_)) (by first  | rfl | exact tab_get (by first | omega | (simp; omega)) | exact gm (d := 0) (by first | omega | (simp; omega))) | exact Kn.ro (by repeat (first | exact List.Mem.head _ | refine List.Mem.tail _ ?_)) (by first  | rfl | exact tab_get (by first | omega | (simp; omega)) | exact gm (d := 0) (by first | omega | (simp; omega))) | exact Kn.row (by repeat (first | exact List.Mem.head _ | refine List.Mem.tail _ ?_)) (by first  | rfl | exact tab_get (by first | omega | (simp; omega)) | exact gm (d := 0) (by first | omega | (simp; omega))) | exact Kn.rd (by repeat (first | exact Lend.same _ _ | exact Lend.row _ _ _ _ _ _ (by decide) | apply Lend.there)) (by first  | rfl | exact tab_get (by first | omega | (simp; omega)) | exact gm (d := 0) (by first | omega | (simp; omega))) | exact Kn.rd2 (by repeat (first | exact Lend.same _ _ | exact Lend.row _ _ _ _ _ _ (by decide) | apply Lend.there)) (by first  | rfl | exact tab_get (by first | omega | (simp; omega)) | exact gm (d := 0) (by first | omega | (simp; omega))))) (by decide) ?_
    refine JO.v (Yv.bin rfl rfl BinR.neq_i) (by decide) ?_
    refine JO.nil ?_
    refine JQ.then_normal ?_
    refine JC.cond rfl (fun hc2 => ?_) (fun hc2 => ?_)
    · try simp only [decide_eq_true_eq, decide_eq_false_iff_not, Bool.not_eq_true', Bool.not_eq_false', ne_eq, Decidable.not_not, Bool.not_eq_true, Bool.and_eq_true, Bool.or_eq_true, BitVec.reduceToNat] at hc2
      have h1 : (r.chk n.toNat).e ≠ 0 := by first | exact hc2 | (rw [hk]; exact hc2)
      refine JC.nilRd 1 ?_
      refine JC.seq ?_
      refine JC.region ?_
      refine JO.v (Yv.assign rfl) (by decide) ?_
      refine JO.nil ?_
      refine JQ.then_normal ?_
      refine JC.ret ?_
      refine JQ.then_ret ?_
      exact JQ.done (.inr rfl) (Γ' := [Res.rd (.slice none 0 0) 0 1 [], Res.rd _ (r.chk n.toNat).b.length 1 ((r.chk n.toNat).b.map u8)]) (H' := [Res.cells p [_, it (r.chk n.toNat).e] 77]) (res1 rfl (RV.tmp rfl)) (Subs.sub (by repeat (first | exact Subs.nil _ | apply Subs.cons | exact List.Mem.head _ | refine List.Mem.tail _ ?_))) (Picks.perm (by repeat (first | exact Picks.nil _ | apply Picks.cons | exact Pull.here _ _ | apply Pull.there))) ⟨_, trivial, by rw [Rdr.out_bad h1, Rdr.aft_bad h1] <;> rfl, by rw [Rdr.aft_bad h1]⟩
    · try simp only [decide_eq_true_eq, decide_eq_false_iff_not, Bool.not_eq_true', Bool.not_eq_false', ne_eq, Decidable.not_not, Bool.not_eq_true, Bool.and_eq_true, Bool.or_eq_true, BitVec.reduceToNat] at hc2
      have h0 : (r.chk n.toNat).e = 0 := by first | exact hc2 | (rw [hk]; exact hc2)
      obtain ⟨hge, hre⟩ := Rdr.chk_ok h0
      have hk2 := Rdr.chk_ge (r := r) hge
      try rw [hk2]
      refine JC.skip ?_
      refine JQ.then_normal ?_
      refine JC.seq ?_
      refine JC.region ?_
      refine JO.v (Yv.move rfl) (by decide) ?_
      refine JO.v (Yv.nilCheck rfl) (by decide) ?_
      refine JO.v (Yv.fieldAddr fa_77_0 rfl) (by decide) ?_
      refine JO.v (Yv.load1 one_24 rfl (by first | exact Kn.own (by repeat (first | exact List.Mem.head _ | refine List.Mem.tail _ ?_)) (by first  | rfl | exact tab_get (by first | omega | (simp; omega)) | exact gm (d := 0) (by first | omega | (simp; omega))) | exact Kn.ro (by repeat (first | exact List.Mem.head _ | refine List.Mem.tail _ ?_)) (by first  | rfl | exact tab_get (by first | omega | (simp; omega)) | exact gm (d := 0) (by first | omega | (simp; omega))) | exact Kn.row (by repeat (first | exact List.Mem.head _ | refine List.Mem.tail _ ?_)) (by first  | rfl | exact tab_get (by first | omega | (simp; omega)) | exact gm (d := 0) (by first | omega | (simp; omega))) | exact Kn.rd (by repeat (first | exact Lend.same _ _ | exact Lend.row _ _ _ _ _ _ (by decide) | apply Lend.there)) (by first  | rfl | exact tab_get (by first | omega | (simp; omega)) | exact gm (d := 0) (by first | omega | (simp; omega))) | exact Kn.rd2 (by repeat (first | exact Lend.same _ _ | exact Lend.row _ _ _ _ _ _ (by decide) | apply Lend.there)) (by first  | rfl | exact tab_get (by first | omega | (simp; omega)) | exact gm (d := 0) (by first | omega | (simp; omega))))) (by decide) ?_
      refine JO.v (Yv.move rfl) (by decide) ?_
      refine JO.cut (0) (n.toNat) Try.underlying24 sz_5 rfl (by repeat (first | exact List.Mem.head _ | refine List.Mem.tail _ ?_)) rfl ⟨_, rfl⟩ (by first | (simp; done) | omega | (simp; omega)) (by first | (simp; done) | omega | (simp; omega)) (by decide) fun v26 => ?_
      refine JO.v (Yv.assign rfl) (by decide) ?_
      refine JO.nil ?_
      refine JQ.then_normal ?_
      refine JC.seq ?_
      refine JC.region ?_
      refine JO.v (Yv.move rfl) (by decide) ?_
      refine JO.v (Yv.move rfl) (by decide) ?_
      refine JO.v (Yv.nilCheck rfl) (by decide) ?_
      refine JO.v (Yv.fieldAddr fa_77_0 rfl) (by decide) ?_
      refine JO.v (Yv.load1 one_24 rfl (by first | exact Kn.own (by repeat (first | exact List.Mem.head _ | refine List.Mem.tail _ ?_)) (by first  | rfl | exact tab_get (by first | omega | (simp; omega)) | exact gm (d := 0) (by first | omega | (simp; omega))) | exact Kn.ro (by repeat (first | exact List.Mem.head _ | refine List.Mem.tail _ ?_)) (by first  | rfl | exact tab_get (by first | omega | (simp; omega)) | exact gm (d := 0) (by first | omega | (simp; omega))) | exact Kn.row (by repeat (first | exact List.Mem.head _ | refine List.Mem.tail _ ?_)) (by first  | rfl | exact tab_get (by first | omega | (simp; omega)) | exact gm (d := 0) (by first | omega | (simp; omega))) | exact Kn.rd (by repeat (first | exact Lend.same _ _ | exact Lend.row _ _ _ _ _ _ (by decide) | apply Lend.there)) (by first  | rfl | exact tab_get (by first | omega | (simp; omega)) | exact gm (d := 0) (by first | omega | (simp; omega))) | exact Kn.rd2 (by repeat (first | exact Lend.same _ _ | exact Lend.row _ _ _ _ _ _ (by decide) | apply Lend.there)) (by first  | rfl | exact tab_get (by first | omega | (simp; omega)) | exact gm (d := 0) (by first | omega | (simp; omega))))) (by decide) ?_
      refine JO.v (Yv.move rfl) (by decide) ?_
      refine JO.cut (n.toNat) (r.b.length) Try.underlying24 sz_5 rfl (by repeat (first | exact List.Mem.head _ | refine List.Mem.tail _ ?_)) ⟨_, rfl⟩ rfl (by first | (simp; done) | omega | (simp; omega)) (by first | (simp; done) | omega | (simp; omega)) (by decide) fun v33 => ?_
      refine JO.v (Yv.nilCheck rfl) (by decide) ?_
      refine JO.v (Yv.fieldAddr fa_77_0 rfl) (by decide) ?_
      first | refine JO.store1 sz_24 rfl rfl rfl (by repeat (first | exact Upd.here _ _ _ | apply Upd.there)) (by first | exact ltb rfl | (simp; done) | (simp; omega) | omega | (simp [*]; omega)) ?_ | refine JO.store1s sz_24 rfl rfl (by repeat (first | exact Lend.same _ _ | exact Lend.row _ _ _ _ _ _ (by decide) | apply Lend.there)) (by repeat (first | exact Upd.here _ _ _ | apply Upd.there)) (by first | exact ltb rfl | (simp; done) | (simp; omega) | omega | (simp [*]; omega)) ?_ | refine JO.storeRow1 sz_24 rfl rfl rfl (by repeat (first | exact Upd.here _ _ _ | apply Upd.there)) (by first | exact ltb rfl | (simp; done) | (simp; omega) | omega | (simp [*]; omega)) (by first | rfl | (simp; done) | omega | (simp; omega)) ?_
      refine JO.nil ?_
      refine JQ.then_normal ?_
      refine JC.seq ?_
      refine JC.region ?_
      refine JO.v (Yv.move rfl) (by decide) ?_
      refine JO.v (Yv.assign rfl) (by decide) ?_
      refine JO.nil ?_
      refine JQ.then_normal ?_
      refine JC.ret ?_
      rw [rd_take hge, rd_drop]
      exact JQ.done (.inr rfl) (Γ' := [Res.rd _ (r.b.take n.toNat).length 1 ((r.b.take n.toNat).map u8), Res.rd _ (r.b.drop n.toNat).length 1 ((r.b.drop n.toNat).map u8)]) (H' := [Res.cells p [_, it r.e] 77]) (res1 rfl (RV.tmp rfl)) (Subs.sub (by repeat (first | exact Subs.nil _ | apply Subs.cons | exact List.Mem.head _ | refine List.Mem.tail _ ?_))) (Picks.perm (by repeat (first | exact Picks.nil _ | apply Picks.cons | exact Pull.here _ _ | apply Pull.there))) ⟨_, trivial, by rw [Rdr.out_ok hge hre, Rdr.aft_ok hge hre], by rw [Rdr.aft_ok hge hre, hre]⟩
  · try simp only [decide_eq_true_eq, decide_eq_false_iff_not, Bool.not_eq_true', Bool.not_eq_false', ne_eq, Decidable.not_not, Bool.not_eq_true, Bool.and_eq_true, Bool.or_eq_true, BitVec.reduceToNat] at hc1
    rw [BitVec.toNat_ofNat, Nat.mod_eq_of_lt hb] at hc1
    have hk := Rdr.chk_ge (r := r) hc1
    refine JC.skip ?_
    refine JQ.then_normal ?_
    refine JC.seq ?_
    refine JC.seq ?_
    refine JC.region ?_
    refine JO.v (Yv.move rfl) (by decide) ?_
    refine JO.v (Yv.nilCheck rfl) (by decide) ?_
    refine JO.v (Yv.fieldAddr fa_77_1 rfl) (by decide) ?_
    refine JO.v (Yv.load1 one_27 rfl (by first | exact Kn.own (by repeat (first | exact List.Mem.head _ | refine List.Mem.tail _ ?_)) (by first  | rfl | exact tab_get (by first | omega | (simp; omega)) | exact gm (d := 0) (by first | omega | (simp; omega))) | exact Kn.ro (by repeat (first | exact List.Mem.head _ | refine List.Mem.tail _ ?_)) (by first  | rfl | exact tab_get (by first | omega | (simp; omega)) | exact gm (d := 0) (by first | omega | (simp; omega))) | exact Kn.row (by repeat (first | exact List.Mem.head _ | refine List.Mem.tail _ ?_)) (by first  | rfl | exact tab_get (by first | omega | (simp; omega)) | exact gm (d := 0) (by first | omega | (simp; omega))) | exact Kn.rd (by repeat (first | exact Lend.same _ _ | exact Lend.row _ _ _ _ _ _ (by decide) | apply Lend.there)) (by first  | rfl | exact tab_get (by first | omega | (simp; omega)) | exact gm (d := 0) (by first | omega | (simp; omega))) | exact Kn.rd2 (by repeat (first | exact Lend.same _ _ | exact Lend.row _ _ _ _ _ _ (by decide) | apply Lend.there)) (by first  | rfl | exact tab_get (by first | omega | (simp; omega)) | exact gm (d := 0) (by first | omega | (simp; omega))))) (by decide) ?_
    refine JO.v (Yv.bin rfl rfl BinR.neq_i) (by decide) ?_
    refine JO.nil ?_
    refine JQ.then_normal ?_
    refine JC.cond rfl (fun hc2 => ?_) (fun hc2 => ?_)
    · try simp only [decide_eq_true_eq, decide_eq_false_iff_not, Bool.not_eq_true', Bool.not_eq_false', ne_eq, Decidable.not_not, Bool.not_eq_true, Bool.and_eq_true, Bool.or_eq_true, BitVec.reduceToNat] at hc2
      have h1 : (r.chk n.toNat).e ≠ 0 := by first | exact hc2 | (rw [hk]; exact hc2)
      refine JC.nilRd 1 ?_
      refine JC.seq ?_
      refine JC.region ?_
      refine JO.v (Yv.assign rfl) (by decide) ?_
      refine JO.nil ?_
      refine JQ.then_normal ?_
      refine JC.ret ?_
      refine JQ.then_ret ?_
      exact JQ.done (.inr rfl) (Γ' := [Res.rd (.slice none 0 0) 0 1 [], Res.rd _ r.b.length 1 (r.b.map u8)]) (H' := [Res.cells p [_, it r.e] 77]) (res1 rfl (RV.tmp rfl)) (Subs.sub (by repeat (first | exact Subs.nil _ | apply Subs.cons | exact List.Mem.head _ | refine List.Mem.tail _ ?_))) (Picks.perm (by repeat (first | exact Picks.nil _ | apply Picks.cons | exact Pull.here _ _ | apply Pull.there))) ⟨_, trivial, by rw [Rdr.out_bad h1, Rdr.aft_bad h1, hk] <;> rfl, by rw [Rdr.aft_bad h1, hk]⟩
    · try simp only [decide_eq_true_eq, decide_eq_false_iff_not, Bool.not_eq_true', Bool.not_eq_false', ne_eq, Decidable.not_not, Bool.not_eq_true, Bool.and_eq_true, Bool.or_eq_true, BitVec.reduceToNat] at hc2
      have h0 : (r.chk n.toNat).e = 0 := by first | exact hc2 | (rw [hk]; exact hc2)
      obtain ⟨hge, hre⟩ := Rdr.chk_ok h0
      have hk2 := Rdr.chk_ge (r := r) hge
      try rw [hk2]
      refine JC.skip ?_
      refine JQ.then_normal ?_
      refine JC.seq ?_
      refine JC.region ?_
      refine JO.v (Yv.move rfl) (by decide) ?_
      refine JO.v (Yv.nilCheck rfl) (by decide) ?_
      refine JO.v (Yv.fieldAddr fa_77_0 rfl) (by decide) ?_
      refine JO.v (Yv.load1 one_24 rfl (by first | exact Kn.own (by repeat (first | exact List.Mem.head _ | refine List.Mem.tail _ ?_)) (by first  | rfl | exact tab_get (by first | omega | (simp; omega)) | exact gm (d := 0) (by first | omega | (simp; omega))) | exact Kn.ro (by repeat (first | exact List.Mem.head _ | refine List.Mem.tail _ ?_)) (by first  | rfl | exact tab_get (by first | omega | (simp; omega)) | exact gm (d := 0) (by first | omega | (simp; omega))) | exact Kn.row (by repeat (first | exact List.Mem.head _ | refine List.Mem.tail _ ?_)) (by first  | rfl | exact tab_get (by first | omega | (simp; omega)) | exact gm (d := 0) (by first | omega | (simp; omega))) | exact Kn.rd (by repeat (first | exact Lend.same _ _ | exact Lend.row _ _ _ _ _ _ (by decide) | apply Lend.there)) (by first  | rfl | exact tab_get (by first | omega | (simp; omega)) | exact gm (d := 0) (by first | omega | (simp; omega))) | exact Kn.rd2 (by repeat (first | exact Lend.same _ _ | exact Lend.row _ _ _ _ _ _ (by decide) | apply Lend.there)) (by first  | rfl | exact tab_get (by first | omega | (simp; omega)) | exact gm (d := 0) (by first | omega | (simp; omega))))) (by decide) ?_
      refine JO.v (Yv.move rfl) (by decide) ?_
      refine JO.cut (0) (n.toNat) Try.underlying24 sz_5 rfl (by repeat (first | exact List.Mem.head _ | refine List.Mem.tail _ ?_)) rfl ⟨_, rfl⟩ (by first | (simp; done) | omega | (simp; omega)) (by first | (simp; done) | omega | (simp; omega)) (by decide) fun v26 => ?_
      refine JO.v (Yv.assign rfl) (by decide) ?_
      refine JO.nil ?_
      refine JQ.then_normal ?_
      refine JC.seq ?_
      refine JC.region ?_
      refine JO.v (Yv.move rfl) (by decide) ?_
      refine JO.v (Yv.move rfl) (by decide) ?_
      refine JO.v (Yv.nilCheck rfl) (by decide) ?_
      refine JO.v (Yv.fieldAddr fa_77_0 rfl) (by decide) ?_
      refine JO.v (Yv.load1 one_24 rfl (by first | exact Kn.own (by repeat (first | exact List.Mem.head _ | refine List.Mem.tail _ ?_)) (by first  | rfl | exact tab_get (by first | omega | (simp; omega)) | exact gm (d := 0) (by first | omega | (simp; omega))) | exact Kn.ro (by repeat (first | exact List.Mem.head _ | refine List.Mem.tail _ ?_)) (by first  | rfl | exact tab_get (by first | omega | (simp; omega)) | exact gm (d := 0) (by first | omega | (simp; omega))) | exact Kn.row (by repeat (first | exact List.Mem.head _ | refine List.Mem.tail _ ?_)) (by first  | rfl | exact tab_get (by first | omega | (simp; omega)) | exact gm (d := 0) (by first | omega | (simp; omega))) | exact Kn.rd (by repeat (first | exact Lend.same _ _ | exact Lend.row _ _ _ _ _ _ (by decide) | apply Lend.there)) (by first  | rfl | exact tab_get (by first | omega | (simp; omega)) | exact gm (d := 0) (by first | omega | (simp; omega))) | exact Kn.rd2 (by repeat (first | exact Lend.same _ _ | exact Lend.row _ _ _ _ _ _ (by decide) | apply Lend.there)) (by first  | rfl | exact tab_get (by first | omega | (simp; omega)) | exact gm (d := 0) (by first | omega | (simp; omega))))) (by decide) ?_
      refine JO.v (Yv.move rfl) (by decide) ?_
      refine JO.cut (n.toNat) (r.b.length) Try.underlying24 sz_5 rfl (by repeat (first | exact List.Mem.head _ | refine List.Mem.tail _ ?_)) ⟨_, rfl⟩ rfl (by first | (simp; done) | omega | (simp; omega)) (by first | (simp; done) | omega | (simp; omega)) (by decide) fun v33 => ?_
      refine JO.v (Yv.nilCheck rfl) (by decide) ?_
      refine JO.v (Yv.fieldAddr fa_77_0 rfl) (by decide) ?_
      first | refine JO.store1 sz_24 rfl rfl rfl (by repeat (first | exact Upd.here _ _ _ | apply Upd.there)) (by first | exact ltb rfl | (simp; done) | (simp; omega) | omega | (simp [*]; omega)) ?_ | refine JO.store1s sz_24 rfl rfl (by repeat (first | exact Lend.same _ _ | exact Lend.row _ _ _ _ _ _ (by decide) | apply Lend.there)) (by repeat (first | exact Upd.here _ _ _ | apply Upd.there)) (by first | exact ltb rfl | (simp; done) | (simp; omega) | omega | (simp [*]; omega)) ?_ | refine JO.storeRow1 sz_24 rfl rfl rfl (by repeat (first | exact Upd.here _ _ _ | apply Upd.there)) (by first | exact ltb rfl | (simp; done) | (simp; omega) | omega | (simp [*]; omega)) (by first | rfl | (simp; done) | omega | (simp; omega)) ?_
      refine JO.nil ?_
      refine JQ.then_normal ?_
      refine JC.seq ?_
      refine JC.region ?_
      refine JO.v (Yv.move rfl) (by decide) ?_
      refine JO.v (Yv.assign rfl) (by decide) ?_
      refine JO.nil ?_
      refine JQ.then_normal ?_
      refine JC.ret ?_
      rw [rd_take hge, rd_drop]
      exact JQ.done (.inr rfl) (Γ' := [Res.rd _ (r.b.take n.toNat).length 1 ((r.b.take n.toNat).map u8), Res.rd _ (r.b.drop n.toNat).length 1 ((r.b.drop n.toNat).map u8)]) (H' := [Res.cells p [_, it r.e] 77]) (res1 rfl (RV.tmp rfl)) (Subs.sub (by repeat (first | exact Subs.nil _ | apply Subs.cons | exact List.Mem.head _ | refine List.Mem.tail _ ?_))) (Picks.perm (by repeat (first | exact Picks.nil _ | apply Picks.cons | exact Pull.here _ _ | apply Pull.there))) ⟨_, trivial, by rw [Rdr.out_ok hge hre, Rdr.aft_ok hge hre], by rw [Rdr.aft_ok hge hre, hre]⟩
end Go.Proofs.Ytffgimlkmfjgmaa
