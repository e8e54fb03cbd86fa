/- Walks: the digest so far; of pieces. -/
import Derived.Test.YtganfkmkapogmaaDoorF4
namespace Go.Proofs.YtganfkmkapogmaaDoor
open Go.RowKit
set_option maxRecDepth 100000
set_option linter.unusedVariables false
set_option linter.unusedSimpArgs false

theorem f33_spec (p : Nat) (xs bs : B8) (hok : HOK xs bs) :
    Spec Tryd.prog 33 #[(ptr p 0)] [Res.var 1 (sqr.map u32), Res.var 0 (cub.map u32)] [Res.cells p (hst xs bs) 68]
      (fun r Γ' H' => r = .agg ((sha xs).map u8).toArray ∧ Γ' = [] ∧ H' = [Res.cells p (hst xs bs) 68]) := by
  refine Spec.of_args Tryd.func33 rfl Tryd.ntmps33 (by simp) fun w => ?_
  have hzl := zeros_lt xs.length
  have hpl := padded_len xs
  have hpm := padded_mod xs
  refine JC.seq ?_
  refine JC.region ?_
  refine JO.alloc _ zero_53 rfl (by decide) fun b2 => ?_
  refine JO.nil ?_
  refine JQ.then_normal ?_
  refine JC.seq ?_
  refine JC.region ?_
  refine JO.v (Yv.move rfl) (by decide) ?_
  refine JO.callB (f35_spec p (hashN xs (xs.length / 64)) bs (BitVec.ofNat 64 xs.length) (hashN_len _ _) hok.1) body_35 rfl (by repeat (first | exact Picks.nil _ | apply Picks.cons | exact Pull.here _ _ | apply Pull.there)) (by repeat (first | exact Lends.nil _ | apply Lends.cons | exact Lend.same _ _ | exact Lend.row _ _ _ _ _ _ (by decide) | apply Lend.there)) (by rintro _ _ _ ⟨_, _, h, _⟩; exact h) (by decide) ?_
  rintro _ _ ⟨_, ⟨q, rfl, _, rfl⟩, hH⟩
  simp only [List.cons_append, List.nil_append] at hH; subst hH
  refine JO.v (Yv.assign rfl) (by decide) ?_
  refine JO.nil ?_
  refine JQ.then_normal ?_
  refine JC.seq ?_
  refine JC.region ?_
  refine JO.v (Yv.move rfl) (by decide) ?_
  refine JO.v (Yv.nilCheck rfl) (by decide) ?_
  refine JO.v (Yv.fieldAddr fa_68_2 rfl) (by decide) ?_
  refine JO.v (Yv.load1 one_57 rfl (by first | exact Kn.own (by repeat (first | exact List.Mem.head _ | refine List.Mem.tail _ ?_)) (by first | first | exact hc_n hok.1 | exact hc_n hok'.1 | rfl | exact tab_get (by first | omega | (simp; omega)) | exact gm (d := 0) (by first | omega | (simp; omega))) | exact Kn.ro (by repeat (first | exact List.Mem.head _ | refine List.Mem.tail _ ?_)) (by first | first | exact hc_n hok.1 | exact hc_n hok'.1 | rfl | exact tab_get (by first | omega | (simp; omega)) | exact gm (d := 0) (by first | omega | (simp; omega))) | exact Kn.row (by repeat (first | exact List.Mem.head _ | refine List.Mem.tail _ ?_)) (by first | first | exact hc_n hok.1 | exact hc_n hok'.1 | rfl | exact tab_get (by first | omega | (simp; omega)) | exact gm (d := 0) (by first | omega | (simp; omega))) | exact Kn.rd (by repeat (first | exact Lend.same _ _ | exact Lend.row _ _ _ _ _ _ (by decide) | apply Lend.there)) (by first | first | exact hc_n hok.1 | exact hc_n hok'.1 | rfl | exact tab_get (by first | omega | (simp; omega)) | exact gm (d := 0) (by first | omega | (simp; omega))) | exact Kn.rd2 (by repeat (first | exact Lend.same _ _ | exact Lend.row _ _ _ _ _ _ (by decide) | apply Lend.there)) (by first | first | exact hc_n hok.1 | exact hc_n hok'.1 | rfl | exact tab_get (by first | omega | (simp; omega)) | exact gm (d := 0) (by first | omega | (simp; omega))) | exact Kn.var (by repeat (first | exact List.Mem.head _ | refine List.Mem.tail _ ?_)) (by first | first | exact hc_n hok.1 | exact hc_n hok'.1 | rfl | exact tab_get (by first | omega | (simp; omega)) | exact gm (d := 0) (by first | omega | (simp; omega))))) (by decide) ?_
  refine JO.v (Yv.bin rfl rfl (BinR.mul_u64 (b := 8#64))) (by decide) ?_
  refine JO.v (Yv.assign rfl) (by decide) ?_
  refine JO.nil ?_
  refine JQ.then_normal ?_
  refine JC.seq ?_
  refine JC.region ?_
  refine JO.v (Yv.move rfl) (by decide) ?_
  refine JO.lit1 Tryd.underlying22 info_5 rfl rfl (by simp) (by decide) (by decide) (by decide) fun v19 => ?_
  refine JO.callB (f32_spec q xs bs hok v19 [128#8]) body_32 rfl (by repeat (first | exact Picks.nil _ | apply Picks.cons | exact Pull.here _ _ | apply Pull.there)) (by repeat (first | exact Lends.nil _ | apply Lends.cons | exact Lend.same _ _ | exact Lend.row _ _ _ _ _ _ (by decide) | apply Lend.there)) (by rintro _ _ _ ⟨_, _, _, h, _⟩; exact h) (by decide) ?_
  rintro _ _ ⟨_, ⟨bs1, rfl, hok1, _, rfl⟩, hH⟩
  simp only [List.cons_append, List.nil_append] at hH; subst hH
  refine JO.nil ?_
  refine JQ.then_normal ?_
  refine JC.seq ?_
  refine JC.block ?_
  refine JC.loop (ι := Nat × B8) (fun x => x.1 ≤ zeros xs.length ∧ HOK (padZ xs x.1) x.2) (fun x => [(2, ptr b2 0), (3, ptr q 0), (4, u64 (BitVec.ofNat 64 xs.length * 8#64))]) (fun x => [Res.var 1 (sqr.map u32), Res.var 0 (cub.map u32)]) (fun x => [Res.cells p (hst xs bs) 68, Res.cells b2 (List.replicate 32 (u8 0)) 53, Res.cells q (hst (padZ xs x.1) x.2) 68]) (fun x => zeros xs.length - x.1) (0, bs1) (by repeat (first | exact trivial | refine ⟨by first | rfl | (simp; done), ?_⟩)) (Subs.sub (by repeat (first | exact Subs.nil _ | apply Subs.cons | exact List.Mem.head _ | refine List.Mem.tail _ ?_))) (Picks.perm (by rw [padZ_0]; repeat (first | exact Picks.nil _ | apply Picks.cons | exact Pull.here _ _ | apply Pull.there))) ?_ (fun x hx => ?_)
  · exact ⟨Nat.zero_le _, by dsimp only; rw [padZ_0]; exact hok1⟩
  obtain ⟨z, bs'⟩ := x
  obtain ⟨hz, hok'⟩ := hx
  dsimp only at hz hok' ⊢
  have hpz := padZ_len xs z
  refine JC.seq ?_
  refine JC.seq ?_
  refine JC.region ?_
  refine JO.v (Yv.move rfl) (by decide) ?_
  refine JO.v (Yv.nilCheck rfl) (by decide) ?_
  refine JO.v (Yv.fieldAddr fa_68_2 rfl) (by decide) ?_
  refine JO.v (Yv.load1 one_57 rfl (by first | exact Kn.own (by repeat (first | exact List.Mem.head _ | refine List.Mem.tail _ ?_)) (by first | first | exact hc_n hok.1 | exact hc_n hok'.1 | rfl | exact tab_get (by first | omega | (simp; omega)) | exact gm (d := 0) (by first | omega | (simp; omega))) | exact Kn.ro (by repeat (first | exact List.Mem.head _ | refine List.Mem.tail _ ?_)) (by first | first | exact hc_n hok.1 | exact hc_n hok'.1 | rfl | exact tab_get (by first | omega | (simp; omega)) | exact gm (d := 0) (by first | omega | (simp; omega))) | exact Kn.row (by repeat (first | exact List.Mem.head _ | refine List.Mem.tail _ ?_)) (by first | first | exact hc_n hok.1 | exact hc_n hok'.1 | rfl | exact tab_get (by first | omega | (simp; omega)) | exact gm (d := 0) (by first | omega | (simp; omega))) | exact Kn.rd (by repeat (first | exact Lend.same _ _ | exact Lend.row _ _ _ _ _ _ (by decide) | apply Lend.there)) (by first | first | exact hc_n hok.1 | exact hc_n hok'.1 | rfl | exact tab_get (by first | omega | (simp; omega)) | exact gm (d := 0) (by first | omega | (simp; omega))) | exact Kn.rd2 (by repeat (first | exact Lend.same _ _ | exact Lend.row _ _ _ _ _ _ (by decide) | apply Lend.there)) (by first | first | exact hc_n hok.1 | exact hc_n hok'.1 | rfl | exact tab_get (by first | omega | (simp; omega)) | exact gm (d := 0) (by first | omega | (simp; omega))) | exact Kn.var (by repeat (first | exact List.Mem.head _ | refine List.Mem.tail _ ?_)) (by first | first | exact hc_n hok.1 | exact hc_n hok'.1 | rfl | exact tab_get (by first | omega | (simp; omega)) | exact gm (d := 0) (by first | omega | (simp; omega))))) (by decide) ?_
  refine JO.v (Yv.bin rfl rfl (BinR.rem_u64 (b := 64#64) (by decide))) (by decide) ?_
  refine JO.v (Yv.bin rfl rfl (BinR.neq_u64 (b := 56#64))) (by decide) ?_
  refine JO.nil ?_
  refine JQ.then_normal ?_
  refine JC.cond rfl (fun hc1 => ?_) (fun hc1 => ?_)
  · try simp only [decide_eq_true_eq, decide_eq_false_iff_not, Bool.not_eq_true', Bool.not_eq_false', ne_eq, Decidable.not_not, Bool.not_eq_true, Bool.and_eq_true, Bool.or_eq_true, BitVec.reduceToNat] at hc1
    have hlt : z < zeros xs.length := by rw [pad56] at hc1; unfold zeros at hz ⊢; omega
    refine JC.skip ?_
    refine JQ.then_normal ?_
    refine JC.block ?_
    refine JC.region ?_
    refine JO.v (Yv.move rfl) (by decide) ?_
    refine JO.lit1 Tryd.underlying22 info_5 rfl rfl (by simp) (by decide) (by decide) (by decide) fun v28 => ?_
    refine JO.callB (f32_spec q (padZ xs z) bs' hok' v28 [0#8]) body_32 rfl (by repeat (first | exact Picks.nil _ | apply Picks.cons | exact Pull.here _ _ | apply Pull.there)) (by repeat (first | exact Lends.nil _ | apply Lends.cons | exact Lend.same _ _ | exact Lend.row _ _ _ _ _ _ (by decide) | apply Lend.there)) (by rintro _ _ _ ⟨_, _, _, h, _⟩; exact h) (by decide) ?_
    rintro _ _ ⟨_, ⟨bs2, rfl, hok2, _, rfl⟩, hH⟩
    simp only [List.cons_append, List.nil_append] at hH; subst hH
    rw [padZ_succ]
    refine JO.nil ?_
    refine JQ.block_normal ?_
    refine JQ.head (z + 1, bs2) (by repeat (first | exact trivial | refine ⟨by first | rfl | (simp; done), ?_⟩)) (Subs.sub (by repeat (first | exact Subs.nil _ | apply Subs.cons | exact List.Mem.head _ | refine List.Mem.tail _ ?_))) (Picks.perm (by repeat (first | exact Picks.nil _ | apply Picks.cons | exact Pull.here _ _ | apply Pull.there))) ?_
    exact ⟨⟨by dsimp only; omega, by dsimp only; rw [← padZ_succ]; exact hok2⟩, by dsimp only; omega⟩
  · try simp only [decide_eq_true_eq, decide_eq_false_iff_not, Bool.not_eq_true', Bool.not_eq_false', ne_eq, Decidable.not_not, Bool.not_eq_true, Bool.and_eq_true, Bool.or_eq_true, BitVec.reduceToNat] at hc1
    obtain rfl : z = zeros xs.length := by rw [pad56] at hc1; unfold zeros at hz ⊢; omega
    refine JC.exit ?_
    refine JQ.then_exit ?_
    refine JQ.then_exit ?_
    refine JQ.block_exit ?_
    refine JQ.then_normal ?_
    refine JC.seq ?_
    refine JC.region ?_
    refine JO.alloc _ zero_73 rfl (by decide) fun b5 => ?_
    refine JO.nil ?_
    refine JQ.then_normal ?_
    refine JC.seq ?_
    refine JC.seq ?_
    refine JC.region ?_
    refine JO.v (Yv.move rfl) (by decide) ?_
    refine JO.nil ?_
    refine JQ.then_normal ?_
    refine JC.block ?_
    refine JC.loop (ι := Nat) (fun x => x ≤ 8) (fun x => [(2, ptr b2 0), (3, ptr q 0), (4, u64 (BitVec.ofNat 64 xs.length * 8#64)), (5, ptr b5 0), (30, it (x : Int))]) (fun x => [Res.var 1 (sqr.map u32), Res.var 0 (cub.map u32)]) (fun x => [Res.cells p (hst xs bs) 68, Res.cells b2 (List.replicate 32 (u8 0)) 53, Res.cells q (hst (padZ xs (zeros xs.length)) bs') 68, Res.cells b5 (sizeT xs.length x) 73]) (fun x => 8 - x) 0 (by repeat (first | exact trivial | refine ⟨by first | rfl | (simp; done), ?_⟩)) (Subs.sub (by repeat (first | exact Subs.nil _ | apply Subs.cons | exact List.Mem.head _ | refine List.Mem.tail _ ?_))) (Picks.perm (by repeat (first | exact Picks.nil _ | apply Picks.cons | exact Pull.here _ _ | apply Pull.there))) ?_ (fun x hx => ?_)
    · exact Nat.zero_le _
    refine JC.seq ?_
    refine JC.region ?_
    refine JO.v (Yv.bin rfl rfl BinR.lss_i) (by decide) ?_
    refine JO.nil ?_
    refine JQ.then_normal ?_
    refine JC.seq ?_
    refine JC.cond rfl (fun hc2 => ?_) (fun hc2 => ?_)
    · try simp only [decide_eq_true_eq, decide_eq_false_iff_not, Bool.not_eq_true', Bool.not_eq_false', ne_eq, Decidable.not_not, Bool.not_eq_true, Bool.and_eq_true, Bool.or_eq_true, BitVec.reduceToNat] at hc2
      refine JC.skip ?_
      refine JQ.then_normal ?_
      refine JC.seq ?_
      refine JC.block ?_
      refine JC.seq ?_
      refine JC.region ?_
      refine JO.v (Yv.move rfl) (by decide) ?_
      refine JO.v (Yv.assign rfl) (by decide) ?_
      refine JO.nil ?_
      refine JQ.then_normal ?_
      refine JC.region ?_
      refine JO.v (Yv.move rfl) (by decide) ?_
      refine JO.v (Yv.move rfl) (by decide) ?_
      refine JO.v (Yv.move rfl) (by decide) ?_
      refine JO.v (Yv.bin rfl rfl (BinR.mul_i (by first | (constructor <;> omega) | (constructor <;> simp <;> omega)))) (by decide) ?_
      refine JO.v (Yv.as (v' := it ((56 - 8 * x : Nat) : Int)) (Yv.bin rfl rfl (BinR.sub_i (by first | (constructor <;> omega) | (constructor <;> simp <;> omega)))) (congrArg it (by omega))) (by decide) ?_
      refine JO.v (Yv.as (v' := u64 ((BitVec.ofNat 64 xs.length * 8#64) >>> (56 - 8 * x))) (Yv.bin rfl rfl (BinR.shr_u64_i (by first | omega | decide | (simp; omega)))) (congrArg (fun n => u64 ((BitVec.ofNat 64 xs.length * 8#64) >>> n)) (by simp))) (by decide) ?_
      refine JO.v (Yv.conv_u64_u8 Tryd.underlying57 Tryd.underlying5 rfl) (by decide) ?_
      first | refine JO.v (Yv.indexArr1 Tryd.underlying73 sz_5 rfl rfl (by first | exact ltb rfl | (simp; done) | (simp; omega) | omega | (simp [*]; omega))) (by decide) ?_ | refine JO.v (Yv.indexArr1o Tryd.underlying73 sz_5 rfl rfl (by first | exact ltb rfl | (simp; done) | (simp; omega) | omega | (simp [*]; omega))) (by decide) ?_
      first | refine JO.store1 sz_5 rfl rfl rfl (by repeat (first | exact Upd.here _ _ _ | apply Upd.there)) (by first | exact ltb rfl | (simp; done) | (simp; omega) | omega | (simp [*]; omega)) ?_ | refine JO.storeRow1 sz_5 rfl rfl rfl (by repeat (first | exact Upd.here _ _ _ | apply Upd.there)) (by first | exact ltb rfl | (simp; done) | (simp; omega) | omega | (simp [*]; omega)) (by first | rfl | (simp; done) | omega | (simp; omega)) ?_
      refine JO.nil ?_
      refine JQ.block_normal ?_
      refine JQ.then_normal ?_
      refine JC.region ?_
      refine JO.v (Yv.bin rfl rfl (BinR.add_i (by first | (constructor <;> omega) | (constructor <;> simp <;> omega)))) (by decide) ?_
      refine JO.v (Yv.move rfl) (by decide) ?_
      refine JO.nil ?_
      rw [sizeT_set]
      refine JQ.head (x + 1) (by repeat (first | exact trivial | refine ⟨by first | rfl | (simp; done), ?_⟩)) (Subs.sub (by repeat (first | exact Subs.nil _ | apply Subs.cons | exact List.Mem.head _ | refine List.Mem.tail _ ?_))) (Picks.perm (by repeat (first | exact Picks.nil _ | apply Picks.cons | exact Pull.here _ _ | apply Pull.there))) ?_
      exact ⟨by omega, by omega⟩
    · try simp only [decide_eq_true_eq, decide_eq_false_iff_not, Bool.not_eq_true', Bool.not_eq_false', ne_eq, Decidable.not_not, Bool.not_eq_true, Bool.and_eq_true, Bool.or_eq_true, BitVec.reduceToNat] at hc2
      obtain rfl : x = 8 := by omega
      rw [sizeT_8]
      refine JC.exit ?_
      refine JQ.then_exit ?_
      refine JQ.then_exit ?_
      refine JQ.block_exit ?_
      refine JQ.then_normal ?_
      refine JC.seq ?_
      refine JC.region ?_
      refine JO.v (Yv.move rfl) (by decide) ?_
      refine JO.v (Yv.as (v' := .slice (some ⟨b5, 0, none⟩) 8 8) (Yv.cutArr (l := 0) (h := 8) Tryd.underlying73 sz_5 rfl rfl rfl (by first | exact ltb rfl | (simp; done) | (simp; omega) | omega | (simp [*]; omega)) (by first | exact ltb rfl | (simp; done) | (simp; omega) | omega | (simp [*]; omega)) (by first | exact ltb rfl | (simp; done) | (simp; omega) | omega | (simp [*]; omega))) rfl) (by decide) ?_
      refine JO.frz (r := Res.cells b5 ((size8 xs.length).map u8) 73) (by repeat (first | exact Pull.here _ _ | apply Pull.there)) ?_
      refine JO.rdCells (n := 8) (List.Mem.head _) (by simp) (by unfold maxLen; omega) ?_
      refine JO.callB (f32_spec q (padZ xs (zeros xs.length)) bs' hok' (.slice (some ⟨b5, 0, none⟩) 8 8) (size8 xs.length)) body_32 rfl (by repeat (first | exact Picks.nil _ | apply Picks.cons | exact Pull.here _ _ | apply Pull.there)) (by repeat (first | exact Lends.nil _ | apply Lends.cons | exact Lend.same _ _ | exact Lend.row _ _ _ _ _ _ (by decide) | apply Lend.there)) (by rintro _ _ _ ⟨_, _, _, h, _⟩; exact h) (by decide) ?_
      rintro _ _ ⟨_, ⟨bs3, rfl, hok3, _, rfl⟩, hH⟩
      simp only [List.cons_append, List.nil_append] at hH; subst hH
      rw [← padded_eq] at hok3 ⊢
      refine JO.nil ?_
      refine JQ.then_normal ?_
      refine JC.seq ?_
      refine JC.region ?_
      refine JO.alloc _ zero_53 rfl (by decide) fun b7 => ?_
      refine JO.nil ?_
      refine JQ.then_normal ?_
      refine JC.seq ?_
      refine JC.seq ?_
      refine JC.region ?_
      refine JO.v (Yv.move rfl) (by decide) ?_
      refine JO.callB (f36_spec q (hashN (padded xs) ((padded xs).length / 64)) bs3 (BitVec.ofNat 64 (padded xs).length) (hashN_len _ _) hok3.1) body_36 rfl (by repeat (first | exact Picks.nil _ | apply Picks.cons | exact Pull.here _ _ | apply Pull.there)) (by repeat (first | exact Lends.nil _ | apply Lends.cons | exact Lend.same _ _ | exact Lend.row _ _ _ _ _ _ (by decide) | apply Lend.there)) (by rintro _ _ _ ⟨_, h, _⟩; exact h) (by decide) ?_
      rintro _ _ ⟨_, ⟨rfl, _, rfl⟩, hH⟩
      simp only [List.cons_append, List.nil_append] at hH; subst hH
      have hvl := hashN_len (padded xs) ((padded xs).length / 64)
      rw [show sha xs = outB (hashN (padded xs) ((padded xs).length / 64)) from rfl]
      generalize hashN (padded xs) ((padded xs).length / 64) = hv at hvl ⊢
      refine JO.v (Yv.move rfl) (by decide) ?_
      refine JO.nil ?_
      refine JQ.then_normal ?_
      refine JC.block ?_
      refine JC.loop (ι := Nat) (fun x => x ≤ 8) (fun x => [(2, ptr b2 0), (7, ptr b7 0), (46, .agg (hv.map u32).toArray), (47, it (x : Int))]) (fun x => [Res.var 1 (sqr.map u32), Res.var 0 (cub.map u32)]) (fun x => [Res.cells p (hst xs bs) 68, Res.cells b2 (List.replicate 32 (u8 0)) 53, Res.cells b7 (outT hv (4 * x)) 53]) (fun x => 8 - x) 0 (by repeat (first | exact trivial | refine ⟨by first | rfl | (simp; done), ?_⟩)) (Subs.sub (by repeat (first | exact Subs.nil _ | apply Subs.cons | exact List.Mem.head _ | refine List.Mem.tail _ ?_))) (Picks.perm (by repeat (first | exact Picks.nil _ | apply Picks.cons | exact Pull.here _ _ | apply Pull.there))) ?_ (fun x hx => ?_)
      · exact Nat.zero_le _
      revert hx
      generalize x = i
      intro hi
      refine JC.seq ?_
      refine JC.region ?_
      refine JO.v (Yv.bin rfl rfl BinR.lss_i) (by decide) ?_
      refine JO.nil ?_
      refine JQ.then_normal ?_
      refine JC.seq ?_
      refine JC.cond rfl (fun hc3 => ?_) (fun hc3 => ?_)
      · try simp only [decide_eq_true_eq, decide_eq_false_iff_not, Bool.not_eq_true', Bool.not_eq_false', ne_eq, Decidable.not_not, Bool.not_eq_true, Bool.and_eq_true, Bool.or_eq_true, BitVec.reduceToNat] at hc3
        refine JC.skip ?_
        refine JQ.then_normal ?_
        refine JC.seq ?_
        refine JC.block ?_
        refine JC.seq ?_
        refine JC.region ?_
        refine JO.v (Yv.move rfl) (by decide) ?_
        refine JO.v (Yv.indexAgg Tryd.underlying59 Tryd.underlying58 sz_58 rfl rfl (by first | exact ltb rfl | (simp; done) | (simp; omega) | omega | (simp [*]; omega)) (gm (d := 0) (by omega))) (by decide) ?_
        refine JO.v (Yv.assign rfl) (by decide) ?_
        refine JO.v (Yv.assign rfl) (by decide) ?_
        refine JO.nil ?_
        refine JQ.then_normal ?_
        refine JC.seq ?_
        refine JC.region ?_
        refine JO.v (Yv.move rfl) (by decide) ?_
        refine JO.nil ?_
        refine JQ.then_normal ?_
        refine JC.block ?_
        refine JC.loop (ι := Nat) (fun x => x ≤ 4) (fun x => [(2, ptr b2 0), (7, ptr b7 0), (46, .agg (hv.map u32).toArray), (47, it (i : Int)), (8, it (i : Int)), (9, u32 (hv.getD i 0)), (51, it (x : Int))]) (fun x => [Res.var 1 (sqr.map u32), Res.var 0 (cub.map u32)]) (fun x => [Res.cells p (hst xs bs) 68, Res.cells b2 (List.replicate 32 (u8 0)) 53, Res.cells b7 (outT hv (4 * i + x)) 53]) (fun x => 4 - x) 0 (by repeat (first | exact trivial | refine ⟨by first | rfl | (simp; done), ?_⟩)) (Subs.sub (by repeat (first | exact Subs.nil _ | apply Subs.cons | exact List.Mem.head _ | refine List.Mem.tail _ ?_))) (Picks.perm (by repeat (first | exact Picks.nil _ | apply Picks.cons | exact Pull.here _ _ | apply Pull.there))) ?_ (fun x hx => ?_)
        · exact Nat.zero_le _
        refine JC.seq ?_
        refine JC.region ?_
        refine JO.v (Yv.bin rfl rfl BinR.lss_i) (by decide) ?_
        refine JO.nil ?_
        refine JQ.then_normal ?_
        refine JC.seq ?_
        refine JC.cond rfl (fun hc4 => ?_) (fun hc4 => ?_)
        · try simp only [decide_eq_true_eq, decide_eq_false_iff_not, Bool.not_eq_true', Bool.not_eq_false', ne_eq, Decidable.not_not, Bool.not_eq_true, Bool.and_eq_true, Bool.or_eq_true, BitVec.reduceToNat] at hc4
          refine JC.skip ?_
          refine JQ.then_normal ?_
          refine JC.seq ?_
          refine JC.block ?_
          refine JC.seq ?_
          refine JC.region ?_
          refine JO.v (Yv.move rfl) (by decide) ?_
          refine JO.v (Yv.assign rfl) (by decide) ?_
          refine JO.nil ?_
          refine JQ.then_normal ?_
          refine JC.region ?_
          refine JO.v (Yv.move rfl) (by decide) ?_
          refine JO.v (Yv.bin rfl rfl (BinR.mul_i (by first | (constructor <;> omega) | (constructor <;> simp <;> omega)))) (by decide) ?_
          refine JO.v (Yv.move rfl) (by decide) ?_
          refine JO.v (Yv.as (v' := it ((4 * i + x : Nat) : Int)) (Yv.bin rfl rfl (BinR.add_i (by first | (constructor <;> omega) | (constructor <;> simp <;> omega)))) (congrArg it (by omega))) (by decide) ?_
          refine JO.v (Yv.move rfl) (by decide) ?_
          refine JO.v (Yv.move rfl) (by decide) ?_
          refine JO.v (Yv.bin rfl rfl (BinR.mul_i (by first | (constructor <;> omega) | (constructor <;> simp <;> omega)))) (by decide) ?_
          refine JO.v (Yv.as (v' := it ((24 - 8 * x : Nat) : Int)) (Yv.bin rfl rfl (BinR.sub_i (by first | (constructor <;> omega) | (constructor <;> simp <;> omega)))) (congrArg it (by omega))) (by decide) ?_
          refine JO.v (Yv.as (v' := u32 (hv.getD i 0 >>> (24 - 8 * x))) (Yv.bin rfl rfl (BinR.shr_u32_i (by first | omega | decide | (simp; omega)))) (congrArg (fun n => u32 (hv.getD i 0 >>> n)) (by simp))) (by decide) ?_
          refine JO.v (Yv.as (v' := u8 (ob hv (4 * i + x))) (Yv.conv_u32_u8 Tryd.underlying58 Tryd.underlying5 rfl) (congrArg u8 (ob_at hv (by omega)))) (by decide) ?_
          first | refine JO.v (Yv.indexArr1 Tryd.underlying53 sz_5 rfl rfl (by first | exact ltb rfl | (simp; done) | (simp; omega) | omega | (simp [*]; omega))) (by decide) ?_ | refine JO.v (Yv.indexArr1o Tryd.underlying53 sz_5 rfl rfl (by first | exact ltb rfl | (simp; done) | (simp; omega) | omega | (simp [*]; omega))) (by decide) ?_
          first | refine JO.store1 sz_5 rfl rfl rfl (by repeat (first | exact Upd.here _ _ _ | apply Upd.there)) (by first | exact ltb rfl | (simp; done) | (simp; omega) | omega | (simp [*]; omega)) ?_ | refine JO.storeRow1 sz_5 rfl rfl rfl (by repeat (first | exact Upd.here _ _ _ | apply Upd.there)) (by first | exact ltb rfl | (simp; done) | (simp; omega) | omega | (simp [*]; omega)) (by first | rfl | (simp; done) | omega | (simp; omega)) ?_
          refine JO.nil ?_
          refine JQ.block_normal ?_
          refine JQ.then_normal ?_
          refine JC.region ?_
          refine JO.v (Yv.bin rfl rfl (BinR.add_i (by first | (constructor <;> omega) | (constructor <;> simp <;> omega)))) (by decide) ?_
          refine JO.v (Yv.move rfl) (by decide) ?_
          refine JO.nil ?_
          rw [outT_set]
          refine JQ.head (x + 1) (by repeat (first | exact trivial | refine ⟨by first | rfl | (simp; done), ?_⟩)) (Subs.sub (by repeat (first | exact Subs.nil _ | apply Subs.cons | exact List.Mem.head _ | refine List.Mem.tail _ ?_))) (Picks.perm (by repeat (first | exact Picks.nil _ | apply Picks.cons | exact Pull.here _ _ | apply Pull.there))) ?_
          exact ⟨by omega, by omega⟩
        · try simp only [decide_eq_true_eq, decide_eq_false_iff_not, Bool.not_eq_true', Bool.not_eq_false', ne_eq, Decidable.not_not, Bool.not_eq_true, Bool.and_eq_true, Bool.or_eq_true, BitVec.reduceToNat] at hc4
          obtain rfl : x = 4 := by omega
          rw [show 4 * i + 4 = 4 * (i + 1) by omega]
          refine JC.exit ?_
          refine JQ.then_exit ?_
          refine JQ.then_exit ?_
          refine JQ.block_exit ?_
          refine JQ.block_normal ?_
          refine JQ.then_normal ?_
          refine JC.region ?_
          refine JO.v (Yv.bin rfl rfl (BinR.add_i (by first | (constructor <;> omega) | (constructor <;> simp <;> omega)))) (by decide) ?_
          refine JO.v (Yv.move rfl) (by decide) ?_
          refine JO.nil ?_
          refine JQ.head (i + 1) (by repeat (first | exact trivial | refine ⟨by first | rfl | (simp; done), ?_⟩)) (Subs.sub (by repeat (first | exact Subs.nil _ | apply Subs.cons | exact List.Mem.head _ | refine List.Mem.tail _ ?_))) (Picks.perm (by repeat (first | exact Picks.nil _ | apply Picks.cons | exact Pull.here _ _ | apply Pull.there))) ?_
          exact ⟨by omega, by omega⟩
      · try simp only [decide_eq_true_eq, decide_eq_false_iff_not, Bool.not_eq_true', Bool.not_eq_false', ne_eq, Decidable.not_not, Bool.not_eq_true, Bool.and_eq_true, Bool.or_eq_true, BitVec.reduceToNat] at hc3
        obtain rfl : i = 8 := by omega
        rw [show 4 * 8 = 32 from rfl, outT_32]
        refine JC.exit ?_
        refine JQ.then_exit ?_
        refine JQ.then_exit ?_
        refine JQ.block_exit ?_
        refine JQ.then_normal ?_
        refine JC.seq ?_
        refine JC.region ?_
        first | refine JO.v (Yv.as (v' := .agg ((outB hv).map u8).toArray) (Yv.loadOwn agg_53 (by repeat (first | exact List.Mem.head _ | refine List.Mem.tail _ ?_)) rfl (by first | rfl | (simp; done) | (simp; omega) | (simp [*]; done))) (congrArg (fun l : List Value => Value.agg l.toArray) (by simp))) (by decide) ?_ | refine JO.v (Yv.as (v' := .agg ((outB hv).map u8).toArray) (Yv.loadOwnAt agg_53 (by repeat (first | exact List.Mem.head _ | refine List.Mem.tail _ ?_)) rfl (by first | rfl | (simp; done) | (simp; omega) | (simp [*]; done))) (congrArg (fun l : List Value => Value.agg l.toArray) (by simp))) (by decide) ?_ | refine JO.v (Yv.as (v' := .agg ((outB hv).map u8).toArray) (Yv.loadRow agg_53 (by repeat (first | exact List.Mem.head _ | refine List.Mem.tail _ ?_)) rfl (by first | rfl | (simp; done) | (simp; omega) | (simp [*]; done))) (congrArg (fun l : List Value => Value.agg l.toArray) (by simp))) (by decide) ?_ | refine JO.v (Yv.as (v' := .agg ((outB hv).map u8).toArray) (Yv.loadRd agg_53 (by repeat (first | exact Lend.same _ _ | exact Lend.row _ _ _ _ _ _ (by decide) | apply Lend.there)) rfl (by first | rfl | (simp; done) | (simp; omega) | (simp [*]; done))) (congrArg (fun l : List Value => Value.agg l.toArray) (by simp))) (by decide) ?_ | refine JO.v (Yv.as (v' := .agg ((outB hv).map u8).toArray) (Yv.loadRo agg_53 (by repeat (first | exact List.Mem.head _ | refine List.Mem.tail _ ?_)) rfl (by first | rfl | (simp; done) | (simp; omega) | (simp [*]; done))) (congrArg (fun l : List Value => Value.agg l.toArray) (by simp))) (by decide) ?_
        first | refine JO.storeAll sz_53 rfl rfl rfl (by first | rfl | (simp; done) | (simp; omega)) (by first | (simp; done) | exact one_map (fun _ => rfl) | exact one_tab (fun _ => rfl) | exact one_tab (fun _ => by split <;> rfl)) (by repeat (first | exact Upd.here _ _ _ | apply Upd.there)) (by first | rfl | (simp; done) | (simp; omega)) ?_ | refine JO.store sz_53 rfl rfl rfl (by first | rfl | (simp; done) | (simp; omega)) (by first | (simp; done) | exact one_sing rfl | exact one_map (fun _ => rfl) | exact one_piece (one_map (fun _ => rfl)) | exact one_tab (fun _ => rfl) | exact one_tab (fun _ => by split <;> rfl)) (by repeat (first | exact Upd.here _ _ _ | apply Upd.there)) (by first | exact ltb rfl | (simp; done) | (simp; omega) | omega | (simp [*]; omega)) ?_ | refine JO.storeRow sz_53 rfl rfl rfl (by first | rfl | simp) (by first | (simp; done) | exact one_map (fun _ => rfl) | exact one_tab (fun _ => rfl) | exact one_tab (fun _ => by split <;> rfl)) (by repeat (first | exact Upd.here _ _ _ | apply Upd.there)) (by first | exact ltb rfl | (simp; done) | (simp; omega) | omega | (simp [*]; omega)) (by first | exact ltb rfl | (simp; done) | (simp; omega) | omega | (simp [*]; omega)) ?_
        refine JO.nil ?_
        refine JQ.then_normal ?_
        refine JC.ret ?_
        exact JQ.done (.inr rfl) (Γ' := []) (H' := [Res.cells p (hst xs bs) 68]) (res1 rfl (RV.cell agg_53 (by repeat (first | exact List.Mem.head _ | refine List.Mem.tail _ ?_)) rfl (by simp))) (Subs.sub (by repeat (first | exact Subs.nil _ | apply Subs.cons | exact List.Mem.head _ | refine List.Mem.tail _ ?_))) (Picks.perm (by repeat (first | exact Picks.nil _ | apply Picks.cons | exact Pull.here _ _ | apply Pull.there))) ⟨rfl, rfl, rfl⟩


theorem f30_spec (v : Value) (l : Pcs) :
    Spec Tryd.prog 30 #[v] [Res.var 1 (sqr.map u32), Res.var 0 (cub.map u32), Res.rd v l.length 1 (l.map Prod.fst), Res.all (pcRes l)] []
      (fun r Γ' H' => r = (.agg ((sha (pcB l)).map u8).toArray) ∧ Γ' = [] ∧ H' = []) := by
  refine Spec.of_args Tryd.func30 rfl Tryd.ntmps30 (by simp) fun w => ?_
  refine JC.know (φ := l.length ≤ 9223372036854775807) (fun w hs => by obtain ⟨_, _, _, _, _, _, h⟩ := hs.rdForm (.tail _ (.tail _ (.head _))); unfold maxLen at h; omega) fun hll => ?_
  refine JC.seq ?_
  refine JC.region ?_
  refine JO.alloc _ zero_53 rfl (by decide) fun b2 => ?_
  refine JO.nil ?_
  refine JQ.then_normal ?_
  refine JC.seq ?_
  refine JC.region ?_
  refine JO.alloc _ zero_68 rfl (by decide) fun b3 => ?_
  refine JO.nil ?_
  refine JQ.then_normal ?_
  refine JC.seq ?_
  refine JC.seq ?_
  refine JC.region ?_
  refine JO.v (Yv.move rfl) (by decide) ?_
  first | refine JO.v (Yv.len_s Tryd.underlying24 rfl) (by decide) ?_ | refine JO.v (Yv.lenRd Tryd.underlying24 rfl (by repeat (first | exact Lend.same _ _ | exact Lend.row _ _ _ _ _ _ (by decide) | apply Lend.there))) (by decide) ?_
  refine JO.v (Yv.move rfl) (by decide) ?_
  refine JO.nil ?_
  refine JQ.then_normal ?_
  refine JC.block ?_
  refine JC.loop (ι := Nat × B8) (fun x => x.1 ≤ l.length ∧ HOK (pcB (l.take x.1)) x.2) (fun x => [(2, ptr b2 0), (3, ptr b3 0), (6, v), (7, it (l.length : Int)), (8, it (x.1 : Int))]) (fun x => [Res.var 1 (sqr.map u32), Res.var 0 (cub.map u32), Res.rd v l.length 1 (l.map Prod.fst), Res.all (pcRes l)]) (fun x => [Res.cells b2 (List.replicate 32 (u8 0)) 53, Res.cells b3 (hst (pcB (l.take x.1)) x.2) 68]) (fun x => l.length - x.1) (0, List.replicate 64 0) (by repeat (first | exact trivial | refine ⟨by first | rfl | (simp; done), ?_⟩)) (Subs.sub (by repeat (first | exact Subs.nil _ | apply Subs.cons | exact List.Mem.head _ | refine List.Mem.tail _ ?_))) (Picks.perm (by dsimp only; rw [show pcB (List.take 0 l) = [] from rfl, show hst [] (List.replicate 64 0) = hcells sqr (List.replicate 64 0) 0 from rfl]; repeat (first | exact Picks.nil _ | apply Picks.cons | exact Pull.here _ _ | apply Pull.there))) ?_ (fun x hx => ?_)
  · exact ⟨Nat.zero_le _, hok_nil⟩
  obtain ⟨k, bs⟩ := x
  obtain ⟨hk, hok⟩ := hx
  dsimp only at hk hok ⊢
  refine JC.seq ?_
  refine JC.region ?_
  refine JO.v (Yv.bin rfl rfl BinR.lss_i) (by decide) ?_
  refine JO.nil ?_
  refine JQ.then_normal ?_
  refine JC.seq ?_
  refine JC.cond rfl (fun hc1 => ?_) (fun hc1 => ?_)
  · try simp only [decide_eq_true_eq, decide_eq_false_iff_not, Bool.not_eq_true', Bool.not_eq_false', ne_eq, Decidable.not_not, Bool.not_eq_true, Bool.and_eq_true, Bool.or_eq_true, BitVec.reduceToNat] at hc1
    refine JC.skip ?_
    refine JQ.then_normal ?_
    refine JC.seq ?_
    refine JC.block ?_
    refine JC.seq ?_
    refine JC.region ?_
    first | refine JO.v (Yv.indexRow1 Tryd.underlying24 sz_22 rfl rfl (by repeat (first | exact List.Mem.head _ | refine List.Mem.tail _ ?_)) (by first | exact ltb rfl | (simp; done) | (simp; omega) | omega | (simp [*]; omega))) (by decide) ?_ | refine JO.v (Yv.indexRd1 Tryd.underlying24 sz_22 rfl rfl (by repeat (first | exact Lend.same _ _ | exact Lend.row _ _ _ _ _ _ (by decide) | apply Lend.there)) (by first | exact ltb rfl | (simp; done) | (simp; omega) | omega | (simp [*]; omega))) (by decide) ?_
    refine JO.v (Yv.load1 one_22 rfl (by first | exact Kn.own (by repeat (first | exact List.Mem.head _ | refine List.Mem.tail _ ?_)) (by first | exact pc_get (by omega) | rfl | exact tab_get (by first | omega | (simp; omega)) | exact gm (d := 0) (by first | omega | (simp; omega))) | exact Kn.ro (by repeat (first | exact List.Mem.head _ | refine List.Mem.tail _ ?_)) (by first | exact pc_get (by omega) | rfl | exact tab_get (by first | omega | (simp; omega)) | exact gm (d := 0) (by first | omega | (simp; omega))) | exact Kn.row (by repeat (first | exact List.Mem.head _ | refine List.Mem.tail _ ?_)) (by first | exact pc_get (by omega) | rfl | exact tab_get (by first | omega | (simp; omega)) | exact gm (d := 0) (by first | omega | (simp; omega))) | exact Kn.rd (by repeat (first | exact Lend.same _ _ | exact Lend.row _ _ _ _ _ _ (by decide) | apply Lend.there)) (by first | exact pc_get (by omega) | rfl | exact tab_get (by first | omega | (simp; omega)) | exact gm (d := 0) (by first | omega | (simp; omega))) | exact Kn.rd2 (by repeat (first | exact Lend.same _ _ | exact Lend.row _ _ _ _ _ _ (by decide) | apply Lend.there)) (by first | exact pc_get (by omega) | rfl | exact tab_get (by first | omega | (simp; omega)) | exact gm (d := 0) (by first | omega | (simp; omega))) | exact Kn.var (by repeat (first | exact List.Mem.head _ | refine List.Mem.tail _ ?_)) (by first | exact pc_get (by omega) | rfl | exact tab_get (by first | omega | (simp; omega)) | exact gm (d := 0) (by first | omega | (simp; omega))))) (by decide) ?_
    refine JO.v (Yv.assign rfl) (by decide) ?_
    refine JO.nil ?_
    refine JQ.then_normal ?_
    refine JC.region ?_
    refine JO.open (r := Res.rd (pcAt l k).1 (pcAt l k).2.length 1 ((pcAt l k).2.map u8)) (by repeat (first | exact List.Mem.head _ | refine List.Mem.tail _ ?_)) (pc_res (by omega)) ?_
    refine JO.v (Yv.move rfl) (by decide) ?_
    refine JO.callB (f32_spec b3 (pcB (l.take k)) bs hok (pcAt l k).1 (pcAt l k).2) body_32 rfl (by repeat (first | exact Picks.nil _ | apply Picks.cons | exact Pull.here _ _ | apply Pull.there)) (by repeat (first | exact Lends.nil _ | apply Lends.cons | exact Lend.same _ _ | exact Lend.row _ _ _ _ _ _ (by decide) | apply Lend.there)) (by rintro _ _ _ ⟨_, _, _, h, _⟩; exact h) (by decide) ?_
    rintro _ _ ⟨_, ⟨bs2, rfl, hok2, _, rfl⟩, hH⟩
    simp only [List.cons_append, List.nil_append] at hH; subst hH
    rw [pcB_succ (by omega)] at hok2 ⊢
    refine JO.nil ?_
    refine JQ.block_normal ?_
    refine JQ.then_normal ?_
    refine JC.region ?_
    refine JO.v (Yv.bin rfl rfl (BinR.add_i (by first | (constructor <;> omega) | (constructor <;> simp <;> omega)))) (by decide) ?_
    refine JO.v (Yv.move rfl) (by decide) ?_
    refine JO.nil ?_
    refine JQ.head (k + 1, bs2) (by repeat (first | exact trivial | refine ⟨by first | rfl | (simp; done), ?_⟩)) (Subs.sub (by repeat (first | exact Subs.nil _ | apply Subs.cons | exact List.Mem.head _ | refine List.Mem.tail _ ?_))) (Picks.perm (by repeat (first | exact Picks.nil _ | apply Picks.cons | exact Pull.here _ _ | apply Pull.there))) ?_
    exact ⟨⟨by dsimp only; omega, hok2⟩, by dsimp only; omega⟩
  · try simp only [decide_eq_true_eq, decide_eq_false_iff_not, Bool.not_eq_true', Bool.not_eq_false', ne_eq, Decidable.not_not, Bool.not_eq_true, Bool.and_eq_true, Bool.or_eq_true, BitVec.reduceToNat] at hc1
    obtain rfl : k = l.length := by omega
    rw [List.take_length] at hok ⊢
    refine JC.exit ?_
    refine JQ.then_exit ?_
    refine JQ.then_exit ?_
    refine JQ.block_exit ?_
    refine JQ.then_normal ?_
    refine JC.seq ?_
    refine JC.region ?_
    refine JO.callB (f33_spec b3 (pcB l) bs hok) body_33 rfl (by repeat (first | exact Picks.nil _ | apply Picks.cons | exact Pull.here _ _ | apply Pull.there)) (by repeat (first | exact Lends.nil _ | apply Lends.cons | exact Lend.same _ _ | exact Lend.row _ _ _ _ _ _ (by decide) | apply Lend.there)) (by rintro _ _ _ ⟨_, h, _⟩; exact h) (by decide) ?_
    rintro _ _ ⟨_, ⟨rfl, _, rfl⟩, hH⟩
    simp only [List.cons_append, List.nil_append] at hH; subst hH
    first | refine JO.storeAll sz_53 rfl rfl rfl (by first | rfl | (simp; done) | (simp; omega)) (by first | (simp; done) | exact one_map (fun _ => rfl) | exact one_tab (fun _ => rfl) | exact one_tab (fun _ => by split <;> rfl)) (by repeat (first | exact Upd.here _ _ _ | apply Upd.there)) (by first | rfl | (simp; done) | (simp; omega)) ?_ | refine JO.store sz_53 rfl rfl rfl (by first | rfl | (simp; done) | (simp; omega)) (by first | (simp; done) | exact one_sing rfl | exact one_map (fun _ => rfl) | exact one_piece (one_map (fun _ => rfl)) | exact one_tab (fun _ => rfl) | exact one_tab (fun _ => by split <;> rfl)) (by repeat (first | exact Upd.here _ _ _ | apply Upd.there)) (by first | exact ltb rfl | (simp; done) | (simp; omega) | omega | (simp [*]; omega)) ?_ | refine JO.storeRow sz_53 rfl rfl rfl (by first | rfl | simp) (by first | (simp; done) | exact one_map (fun _ => rfl) | exact one_tab (fun _ => rfl) | exact one_tab (fun _ => by split <;> rfl)) (by repeat (first | exact Upd.here _ _ _ | apply Upd.there)) (by first | exact ltb rfl | (simp; done) | (simp; omega) | omega | (simp [*]; omega)) (by first | exact ltb rfl | (simp; done) | (simp; omega) | omega | (simp [*]; omega)) ?_
    refine JO.nil ?_
    refine JQ.then_normal ?_
    refine JC.ret ?_
    exact JQ.done (.inr rfl) (Γ' := []) (H' := []) (res1 rfl (RV.cell agg_53 (by repeat (first | exact List.Mem.head _ | refine List.Mem.tail _ ?_)) rfl (by simp))) (Subs.sub (by repeat (first | exact Subs.nil _ | apply Subs.cons | exact List.Mem.head _ | refine List.Mem.tail _ ?_))) (Picks.perm (by repeat (first | exact Picks.nil _ | apply Picks.cons | exact Pull.here _ _ | apply Pull.there))) ⟨rfl, rfl, rfl⟩
end Go.Proofs.YtganfkmkapogmaaDoor
