/- Walk: bytes are written. -/
import Derived.Test.YtganfkmkapogmaaDoorF3
namespace Go.Proofs.YtganfkmkapogmaaDoor
open Go.RowKit
set_option maxRecDepth 100000
set_option linter.unusedVariables false
set_option linter.unusedSimpArgs false

theorem f32_spec (p : Nat) (xs bs0 : B8) (hok0 : HOK xs bs0) (v : Value) (b : B8) :
    Spec Tryd.prog 32 #[(ptr p 0), v] [Res.var 1 (sqr.map u32), Res.var 0 (cub.map u32), Res.rd v b.length 1 (b.map u8)] [Res.cells p (hst xs bs0) 68]
      (fun r Γ' H' => ∃ bs', r = .tuple #[] ∧ HOK (xs ++ b) bs' ∧ Γ' = [] ∧ H' = [Res.cells p (hst (xs ++ b) bs') 68]) := by
  refine Spec.of_args Tryd.func32 rfl Tryd.ntmps32 (by simp) fun w => ?_
  refine JC.know (φ := b.length ≤ 9223372036854775807) (fun w hs => by obtain ⟨_, _, _, _, _, _, h⟩ := hs.rdForm (.tail _ (.tail _ (.head _))); unfold maxLen at h; omega) fun hbl => ?_
  refine JC.block ?_
  refine JC.loop (ι := (B8 × B8) × B8 × Value) (fun x => b = x.1.1 ++ x.1.2 ∧ HOK (xs ++ x.1.1) x.2.1) (fun x => [(0, ptr p 0), (1, x.2.2)]) (fun x => [Res.var 1 (sqr.map u32), Res.var 0 (cub.map u32), Res.rd x.2.2 x.1.2.length 1 (x.1.2.map u8)]) (fun x => [Res.cells p (hst (xs ++ x.1.1) x.2.1) 68]) (fun x => x.1.2.length) (([], b), bs0, v) (by repeat (first | exact trivial | refine ⟨by first | rfl | (simp; done), ?_⟩)) (Subs.sub (by repeat (first | exact Subs.nil _ | apply Subs.cons | exact List.Mem.head _ | refine List.Mem.tail _ ?_))) (Picks.perm (by rw [List.append_nil]; repeat (first | exact Picks.nil _ | apply Picks.cons | exact Pull.here _ _ | apply Pull.there))) ?_ (fun x hx => ?_)
  · exact ⟨rfl, by dsimp only; rw [List.append_nil]; exact hok0⟩
  obtain ⟨⟨c0, r⟩, bs, v1⟩ := x
  obtain ⟨hbc, hok⟩ := hx
  dsimp only at hbc hok ⊢
  have hb := hok.1
  have hlen : (hst (xs ++ c0) bs).length = 73 := hcells_len hb
  have hrl : b.length = c0.length + r.length := by rw [hbc, List.length_append]
  refine JC.seq ?_
  refine JC.seq ?_
  refine JC.region ?_
  refine JO.v (Yv.move rfl) (by decide) ?_
  first | refine JO.v (Yv.len_s Tryd.underlying22 rfl) (by decide) ?_ | refine JO.v (Yv.lenRd Tryd.underlying22 rfl (by repeat (first | exact Lend.same _ _ | exact Lend.row _ _ _ _ _ _ (by decide) | apply Lend.there))) (by decide) ?_
  refine JO.v (Yv.bin rfl rfl BinR.gtr_i) (by decide) ?_
  refine JO.nil ?_
  refine JQ.then_normal ?_
  refine JC.cond rfl (fun hc1 => ?_) (fun hc1 => ?_)
  · try simp only [decide_eq_true_eq, decide_eq_false_iff_not, Bool.not_eq_true', Bool.not_eq_false', ne_eq, Decidable.not_not, Bool.not_eq_true, Bool.and_eq_true, Bool.or_eq_true, BitVec.reduceToNat] at hc1
    have ha64 : (xs ++ c0).length % 64 < 64 := Nat.mod_lt _ (by decide)
    have hcm : (r.take (64 - (xs ++ c0).length % 64)).length = min (64 - (xs ++ c0).length % 64) r.length := List.length_take
    have hcl : (xs ++ c0).length % 64 + (r.take (64 - (xs ++ c0).length % 64)).length ≤ 64 := by omega
    have hcr : (r.take (64 - (xs ++ c0).length % 64)) ++ r.drop (r.take (64 - (xs ++ c0).length % 64)).length = r := take_rest _ _
    refine JC.skip ?_
    refine JQ.then_normal ?_
    refine JC.block ?_
    refine JC.seq ?_
    refine JC.region ?_
    refine JO.v (Yv.move rfl) (by decide) ?_
    refine JO.v (Yv.nilCheck rfl) (by decide) ?_
    refine JO.v (Yv.fieldAddr fa_68_2 rfl) (by decide) ?_
    refine JO.v (Yv.load1 one_57 rfl (by first | exact Kn.own (by repeat (first | exact List.Mem.head _ | refine List.Mem.tail _ ?_)) (by first | first | exact hc_n hb | exact hc_n (putB_len hb hcl) | rfl | exact tab_get (by first | omega | (simp; omega)) | exact gm (d := 0) (by first | omega | (simp; omega))) | exact Kn.ro (by repeat (first | exact List.Mem.head _ | refine List.Mem.tail _ ?_)) (by first | first | exact hc_n hb | exact hc_n (putB_len hb hcl) | rfl | exact tab_get (by first | omega | (simp; omega)) | exact gm (d := 0) (by first | omega | (simp; omega))) | exact Kn.row (by repeat (first | exact List.Mem.head _ | refine List.Mem.tail _ ?_)) (by first | first | exact hc_n hb | exact hc_n (putB_len hb hcl) | rfl | exact tab_get (by first | omega | (simp; omega)) | exact gm (d := 0) (by first | omega | (simp; omega))) | exact Kn.rd (by repeat (first | exact Lend.same _ _ | exact Lend.row _ _ _ _ _ _ (by decide) | apply Lend.there)) (by first | first | exact hc_n hb | exact hc_n (putB_len hb hcl) | rfl | exact tab_get (by first | omega | (simp; omega)) | exact gm (d := 0) (by first | omega | (simp; omega))) | exact Kn.rd2 (by repeat (first | exact Lend.same _ _ | exact Lend.row _ _ _ _ _ _ (by decide) | apply Lend.there)) (by first | first | exact hc_n hb | exact hc_n (putB_len hb hcl) | rfl | exact tab_get (by first | omega | (simp; omega)) | exact gm (d := 0) (by first | omega | (simp; omega))) | exact Kn.var (by repeat (first | exact List.Mem.head _ | refine List.Mem.tail _ ?_)) (by first | first | exact hc_n hb | exact hc_n (putB_len hb hcl) | rfl | exact tab_get (by first | omega | (simp; omega)) | exact gm (d := 0) (by first | omega | (simp; omega))))) (by decide) ?_
    refine JO.v (Yv.bin rfl rfl (BinR.rem_u64 (b := 64#64) (by decide))) (by decide) ?_
    refine JO.v (Yv.as (v' := it (((xs ++ c0).length % 64 : Nat) : Int)) (Yv.conv_u64_i Tryd.underlying57 Tryd.underlying3 rfl (by first | omega | decide | (simp; omega))) (congrArg (fun n : Nat => it (n : Int)) (mod64 _))) (by decide) ?_
    refine JO.v (Yv.assign rfl) (by decide) ?_
    refine JO.nil ?_
    refine JQ.then_normal ?_
    refine JC.seq ?_
    refine JC.region ?_
    refine JO.v (Yv.move rfl) (by decide) ?_
    refine JO.v (Yv.nilCheck rfl) (by decide) ?_
    refine JO.v (Yv.fieldAddr fa_68_1 rfl) (by decide) ?_
    refine JO.v (Yv.move rfl) (by decide) ?_
    refine JO.v (Yv.as (v' := .slice (some ⟨p, 8 + (xs ++ c0).length % 64, none⟩) (64 - (xs ++ c0).length % 64) (64 - (xs ++ c0).length % 64)) (Yv.cutArr (l := (xs ++ c0).length % 64) (h := 64) Tryd.underlying66 sz_5 rfl ⟨_, rfl⟩ rfl (by first | exact ltb rfl | (simp; done) | (simp; omega) | omega | (simp [*]; omega)) (by first | exact ltb rfl | (simp; done) | (simp; omega) | omega | (simp [*]; omega)) (by first | exact ltb rfl | (simp; done) | (simp; omega) | omega | (simp [*]; omega))) (by simp)) (by decide) ?_
    refine JO.v (Yv.move rfl) (by decide) ?_
    refine JO.copy Tryd.underlying22 sz_5 rfl rfl (by first | exact Src.nil | exact Src.rd (by repeat (first | exact Lend.same _ _ | exact Lend.row _ _ _ _ _ _ (by decide) | apply Lend.there)) (by decide) | exact Src.cells (by repeat (first | exact List.Mem.head _ | refine List.Mem.tail _ ?_)) (by simp)) (by first | (simp; done) | exact one_sing rfl | exact one_map (fun _ => rfl) | exact one_piece (one_map (fun _ => rfl)) | exact one_tab (fun _ => rfl) | exact one_tab (fun _ => by split <;> rfl)) (by repeat (first | exact Upd.here _ _ _ | apply Upd.there)) (by first | (simp; done) | omega | (simp; omega)) (by decide) ?_
    rw [← List.map_take, show hst (xs ++ c0) bs = hcells (hashN (xs ++ c0) ((xs ++ c0).length / 64)) bs (BitVec.ofNat 64 (xs ++ c0).length) from rfl, hc_splice hb hcl]
    refine JO.v (Yv.as (v' := it (((r.take (64 - (xs ++ c0).length % 64)).length : Nat) : Int)) (Yv.assign rfl) (congrArg it (by rw [hcm]; omega))) (by decide) ?_
    refine JO.nil ?_
    refine JQ.then_normal ?_
    refine JC.seq ?_
    refine JC.region ?_
    refine JO.v (Yv.move rfl) (by decide) ?_
    refine JO.v (Yv.move rfl) (by decide) ?_
    refine JO.cut ((r.take (64 - (xs ++ c0).length % 64)).length) (r.length) Tryd.underlying22 sz_5 rfl (by repeat (first | exact List.Mem.head _ | refine List.Mem.tail _ ?_)) ⟨_, rfl⟩ rfl (by first | (simp; done) | omega | (simp; omega)) (by first | (simp; done) | omega | (simp; omega)) (by decide) fun v24 => ?_
    rw [rd_drop]
    refine JO.v (Yv.assign rfl) (by decide) ?_
    refine JO.nil ?_
    refine JQ.then_normal ?_
    refine JC.seq ?_
    refine JC.region ?_
    refine JO.v (Yv.move rfl) (by decide) ?_
    refine JO.v (Yv.nilCheck rfl) (by decide) ?_
    refine JO.v (Yv.fieldAddr fa_68_2 rfl) (by decide) ?_
    refine JO.v (Yv.load1 one_57 rfl (by first | exact Kn.own (by repeat (first | exact List.Mem.head _ | refine List.Mem.tail _ ?_)) (by first | first | exact hc_n hb | exact hc_n (putB_len hb hcl) | rfl | exact tab_get (by first | omega | (simp; omega)) | exact gm (d := 0) (by first | omega | (simp; omega))) | exact Kn.ro (by repeat (first | exact List.Mem.head _ | refine List.Mem.tail _ ?_)) (by first | first | exact hc_n hb | exact hc_n (putB_len hb hcl) | rfl | exact tab_get (by first | omega | (simp; omega)) | exact gm (d := 0) (by first | omega | (simp; omega))) | exact Kn.row (by repeat (first | exact List.Mem.head _ | refine List.Mem.tail _ ?_)) (by first | first | exact hc_n hb | exact hc_n (putB_len hb hcl) | rfl | exact tab_get (by first | omega | (simp; omega)) | exact gm (d := 0) (by first | omega | (simp; omega))) | exact Kn.rd (by repeat (first | exact Lend.same _ _ | exact Lend.row _ _ _ _ _ _ (by decide) | apply Lend.there)) (by first | first | exact hc_n hb | exact hc_n (putB_len hb hcl) | rfl | exact tab_get (by first | omega | (simp; omega)) | exact gm (d := 0) (by first | omega | (simp; omega))) | exact Kn.rd2 (by repeat (first | exact Lend.same _ _ | exact Lend.row _ _ _ _ _ _ (by decide) | apply Lend.there)) (by first | first | exact hc_n hb | exact hc_n (putB_len hb hcl) | rfl | exact tab_get (by first | omega | (simp; omega)) | exact gm (d := 0) (by first | omega | (simp; omega))) | exact Kn.var (by repeat (first | exact List.Mem.head _ | refine List.Mem.tail _ ?_)) (by first | first | exact hc_n hb | exact hc_n (putB_len hb hcl) | rfl | exact tab_get (by first | omega | (simp; omega)) | exact gm (d := 0) (by first | omega | (simp; omega))))) (by decide) ?_
    refine JO.v (Yv.move rfl) (by decide) ?_
    refine JO.v (Yv.as (v' := u64 (BitVec.ofNat 64 (r.take (64 - (xs ++ c0).length % 64)).length)) (Yv.conv_i_u64 Tryd.underlying3 Tryd.underlying57 rfl) (congrArg u64 (by simp))) (by decide) ?_
    refine JO.v (Yv.as (v' := u64 (BitVec.ofNat 64 ((xs ++ c0).length + (r.take (64 - (xs ++ c0).length % 64)).length))) (Yv.bin rfl rfl (BinR.add_u64)) (congrArg u64 (by apply BitVec.eq_of_toNat_eq; simp))) (by decide) ?_
    refine JO.v (Yv.nilCheck rfl) (by decide) ?_
    refine JO.v (Yv.fieldAddr fa_68_2 rfl) (by decide) ?_
    refine JO.store1 sz_57 rfl rfl rfl (by repeat (first | exact Upd.here _ _ _ | apply Upd.there)) (by rw [hcells_len (putB_len hb hcl)]; omega) ?_
    rw [show (0 + 72 : Nat) = 72 from rfl, hc_setn (putB_len hb hcl)]
    refine JO.nil ?_
    refine JQ.then_normal ?_
    refine JC.seq ?_
    refine JC.region ?_
    refine JO.v (Yv.move rfl) (by decide) ?_
    refine JO.v (Yv.move rfl) (by decide) ?_
    refine JO.v (Yv.bin rfl rfl (BinR.add_i (by first | (constructor <;> omega) | (constructor <;> simp <;> omega)))) (by decide) ?_
    refine JO.v (Yv.bin rfl rfl BinR.eql_i) (by decide) ?_
    refine JO.nil ?_
    refine JQ.then_normal ?_
    refine JC.cond rfl (fun hc2 => ?_) (fun hc2 => ?_)
    · try simp only [decide_eq_true_eq, decide_eq_false_iff_not, Bool.not_eq_true', Bool.not_eq_false', ne_eq, Decidable.not_not, Bool.not_eq_true, Bool.and_eq_true, Bool.or_eq_true, BitVec.reduceToNat] at hc2
      obtain ⟨hok2, hfin⟩ := write_hi (c := (r.take (64 - (xs ++ c0).length % 64))) hok hcl (by omega)
      refine JC.region ?_
      refine JO.v (Yv.move rfl) (by decide) ?_
      refine JO.callB (f34_spec p (hashN (xs ++ c0) ((xs ++ c0).length / 64)) (putB bs ((xs ++ c0).length % 64) (r.take (64 - (xs ++ c0).length % 64))) (BitVec.ofNat 64 ((xs ++ c0).length + (r.take (64 - (xs ++ c0).length % 64)).length)) (hashN_len _ _) (putB_len hb hcl)) body_34 rfl (by repeat (first | exact Picks.nil _ | apply Picks.cons | exact Pull.here _ _ | apply Pull.there)) (by repeat (first | exact Lends.nil _ | apply Lends.cons | exact Lend.same _ _ | exact Lend.row _ _ _ _ _ _ (by decide) | apply Lend.there)) (by rintro _ _ _ ⟨_, h, _⟩; exact h) (by decide) ?_
      rintro _ _ ⟨_, ⟨rfl, _, rfl⟩, hH⟩
      simp only [List.cons_append, List.nil_append] at hH; subst hH
      refine JO.nil ?_
      refine JQ.block_normal ?_
      rw [hfin, List.append_assoc]
      refine JQ.head ((c0 ++ (r.take (64 - (xs ++ c0).length % 64)), r.drop (r.take (64 - (xs ++ c0).length % 64)).length), (putB bs ((xs ++ c0).length % 64) (r.take (64 - (xs ++ c0).length % 64))), _) (by repeat (first | exact trivial | refine ⟨by first | rfl | (simp; done), ?_⟩)) (Subs.sub (by repeat (first | exact Subs.nil _ | apply Subs.cons | exact List.Mem.head _ | refine List.Mem.tail _ ?_))) (Picks.perm (by repeat (first | exact Picks.nil _ | apply Picks.cons | exact Pull.here _ _ | apply Pull.there))) ?_
      exact ⟨⟨by dsimp only; rw [hbc, List.append_assoc, hcr], by dsimp only; rw [← List.append_assoc]; exact hok2⟩, by dsimp only; rw [List.length_drop]; omega⟩
    · try simp only [decide_eq_true_eq, decide_eq_false_iff_not, Bool.not_eq_true', Bool.not_eq_false', ne_eq, Decidable.not_not, Bool.not_eq_true, Bool.and_eq_true, Bool.or_eq_true, BitVec.reduceToNat] at hc2
      obtain ⟨hok2, hfin⟩ := write_lo (c := (r.take (64 - (xs ++ c0).length % 64))) hok hcl (by omega)
      refine JC.skip ?_
      refine JQ.block_normal ?_
      rw [hfin, List.append_assoc]
      refine JQ.head ((c0 ++ (r.take (64 - (xs ++ c0).length % 64)), r.drop (r.take (64 - (xs ++ c0).length % 64)).length), (putB bs ((xs ++ c0).length % 64) (r.take (64 - (xs ++ c0).length % 64))), _) (by repeat (first | exact trivial | refine ⟨by first | rfl | (simp; done), ?_⟩)) (Subs.sub (by repeat (first | exact Subs.nil _ | apply Subs.cons | exact List.Mem.head _ | refine List.Mem.tail _ ?_))) (Picks.perm (by repeat (first | exact Picks.nil _ | apply Picks.cons | exact Pull.here _ _ | apply Pull.there))) ?_
      exact ⟨⟨by dsimp only; rw [hbc, List.append_assoc, hcr], by dsimp only; rw [← List.append_assoc]; exact hok2⟩, by dsimp only; rw [List.length_drop]; omega⟩
  · try simp only [decide_eq_true_eq, decide_eq_false_iff_not, Bool.not_eq_true', Bool.not_eq_false', ne_eq, Decidable.not_not, Bool.not_eq_true, Bool.and_eq_true, Bool.or_eq_true, BitVec.reduceToNat] at hc1
    obtain rfl : r = [] := List.length_eq_zero_iff.1 (by omega)
    rw [List.append_nil] at hbc
    subst hbc
    refine JC.exit ?_
    refine JQ.then_exit ?_
    refine JQ.then_exit ?_
    refine JQ.block_exit ?_
    exact JQ.done (.inl rfl) (Γ' := []) (H' := [Res.cells p (hst _ _) 68]) (res_none rfl) (Subs.sub (by repeat (first | exact Subs.nil _ | apply Subs.cons | exact List.Mem.head _ | refine List.Mem.tail _ ?_))) (Picks.perm (by repeat (first | exact Picks.nil _ | apply Picks.cons | exact Pull.here _ _ | apply Pull.there))) ⟨_, rfl, hok, rfl, rfl⟩
end Go.Proofs.YtganfkmkapogmaaDoor
