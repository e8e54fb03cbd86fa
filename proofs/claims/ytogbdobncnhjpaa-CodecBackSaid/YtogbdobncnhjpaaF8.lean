/- Walks: the reader: many numbers. -/
import Derived.Test.YtogbdobncnhjpaaF7
namespace Go.Proofs.Ytogbdobncnhjpaa
open Go.RowKit
set_option maxRecDepth 100000
set_option linter.unusedVariables false
set_option linter.unusedSimpArgs false
theorem neq44 {x y : Operand} {us vs : W4} (ha : us.length = 4) (hb : vs.length = 4) : BinR Try.prog .neq 44 x y (natV us) (natV vs) (.bool (!decide (us = vs))) :=
  BinR.neq_arr (f := u64) (g := fun x => (x.toNat : Int)) (k := .u64) Try.underlying44 Try.underlying22 sz_22 (by kernel_rfl) (fun _ => rfl) (fun x y h => BitVec.eq_of_toNat_eq (by exact Int.ofNat.inj h)) us vs ha hb
theorem eql44 {x y : Operand} {us vs : W4} (ha : us.length = 4) (hb : vs.length = 4) : BinR Try.prog .eql 44 x y (natV us) (natV vs) (.bool (decide (us = vs))) :=
  BinR.eql_arr (f := u64) (g := fun x => (x.toNat : Int)) (k := .u64) Try.underlying44 Try.underlying22 sz_22 (by kernel_rfl) (fun _ => rfl) (fun x y h => BitVec.eq_of_toNat_eq (by exact Int.ofNat.inj h)) us vs ha hb


theorem f18_spec (p : Nat) (v : Value) (r : Rdr) (m : Int) (hb : r.b.length ≤ 1000000000) :
    Spec Try.prog 18 #[(ptr p 0), it m] [Res.rd v r.b.length 1 (r.b.map u8)] [Res.cells p [v, it r.e] 64]
      (fun o Γ' H' => ∃ v', True ∧ Γ' = [Res.rd v' (r.naA m).b.length 1 ((r.naA m).b.map u8)] ∧ H' = [Res.row o (r.naO m).length 44 4 (natCells (r.naO m)), Res.cells p [v', it (r.naA m).e] 64]) := by
  refine Spec.of_args Try.func18 rfl Try.ntmps18 (by simp) fun w => ?_
  refine JC.seq ?_
  refine JC.region ?_
  refine JO.v (Yv.assign rfl) (by decide) ?_
  refine JO.nil ?_
  refine JQ.then_normal ?_
  refine JC.seq ?_
  refine JC.region ?_
  refine JO.nilRow 44 4 ?_
  refine JO.v (Yv.assign rfl) (by decide) ?_
  refine JO.nil ?_
  refine JQ.then_normal ?_
  refine JC.seq ?_
  refine JC.seq ?_
  refine JC.region ?_
  refine JO.v (Yv.move rfl) (by decide) ?_
  refine JO.v (Yv.move rfl) (by decide) ?_
  refine JO.call (f34_spec p v r m) body_34 rfl (by repeat (first | exact Picks.nil _ | apply Picks.cons | exact Pull.here _ _ | apply Pull.there)) (by repeat (first | exact Subs.nil _ | apply Subs.cons | exact List.Mem.head _ | refine List.Mem.tail _ ?_)) (by decide) ?_
  rintro _ _ _ ⟨_, _, ⟨v1, rfl, rfl, rfl⟩, hΓ, hH⟩
  simp only [List.cons_append, List.nil_append] at hΓ hH; subst hΓ hH
  have hcb := Rdr.cntA_b r m
  have hnn := (r.cnt m).isLt
  refine JO.v (Yv.move rfl) (by decide) ?_
  refine JO.nil ?_
  refine JQ.then_normal ?_
  refine JC.block ?_
  refine JC.loop (ι := (Nat × List W4) × Rdr × Value × Value) (fun x => x.1.1 ≤ (r.cnt m).toNat ∧ x.1.2.length = x.1.1 ∧ (∀ ws ∈ x.1.2, ws.length = 4) ∧ 32 * x.1.1 + x.2.1.b.length ≤ 1000000000 ∧ Rdr.go ((r.cnt m).toNat - x.1.1) x.1.2 x.2.1 = Rdr.go (r.cnt m).toNat [] (r.cntA m)) (fun x => [(0, ptr p 0), (5, x.2.2.1), (9, u64 (r.cnt m)), (10, u64 (BitVec.ofNat 64 x.1.1))]) (fun x => [Res.rd x.2.2.2 x.2.1.b.length 1 (x.2.1.b.map u8)]) (fun x => [Res.cells p [x.2.2.2, it x.2.1.e] 64, Res.row x.2.2.1 x.1.2.length 44 4 (natCells x.1.2)]) (fun x => (r.cnt m).toNat - x.1.1) ((0, []), r.cntA m, (Value.slice none 0 0), v1) (by repeat (first | exact trivial | refine ⟨by first | rfl | (simp; done), ?_⟩)) (Subs.sub (by repeat (first | exact Subs.nil _ | apply Subs.cons | exact List.Mem.head _ | refine List.Mem.tail _ ?_))) (Picks.perm (by repeat (first | exact Picks.nil _ | apply Picks.cons | exact Pull.here _ _ | apply Pull.there))) ?_ (fun x hx => ?_)
  · exact ⟨Nat.zero_le _, rfl, (fun _ h => absurd h (by simp)), by dsimp only; omega, rfl⟩
  obtain ⟨⟨k, acc⟩, rk, v5, v'⟩ := x
  obtain ⟨hk, hal, ha4, hkb, hgo⟩ := hx
  dsimp only at hk hal ha4 hkb hgo ⊢
  refine JC.seq ?_
  refine JC.region ?_
  refine JO.v (Yv.bin rfl rfl (BinR.lss_u64)) (by decide) ?_
  refine JO.nil ?_
  refine JQ.then_normal ?_
  refine JC.seq ?_
  refine JC.cond rfl (fun hc1 => ?_) (fun hc1 => ?_)
  · try simp only [decide_eq_true_eq, decide_eq_false_iff_not, Bool.not_eq_true', Bool.not_eq_false', ne_eq, Decidable.not_not, Bool.not_eq_true, Bool.and_eq_true, Bool.or_eq_true, BitVec.reduceToNat] at hc1
    rw [BitVec.toNat_ofNat, Nat.mod_eq_of_lt (by omega)] at hc1
    have hsn : (r.cnt m).toNat - k = ((r.cnt m).toNat - (k + 1)) + 1 := by omega
    refine JC.skip ?_
    refine JQ.then_normal ?_
    refine JC.seq ?_
    refine JC.block ?_
    refine JC.seq ?_
    refine JC.region ?_
    refine JO.v (Yv.move rfl) (by decide) ?_
    refine JO.call (f16_spec p v' rk) body_16 rfl (by repeat (first | exact Picks.nil _ | apply Picks.cons | exact Pull.here _ _ | apply Pull.there)) (by repeat (first | exact Subs.nil _ | apply Subs.cons | exact List.Mem.head _ | refine List.Mem.tail _ ?_)) (by decide) ?_
    rintro _ _ _ ⟨_, _, ⟨v2, rfl, rfl, rfl⟩, hΓ, hH⟩
    simp only [List.cons_append, List.nil_append] at hΓ hH; subst hΓ hH
    refine JO.alloc _ zero_44 rfl (by decide) fun b6 => ?_
    first | refine JO.storeAll sz_44 rfl rfl rfl (by first | rfl | (simp; done) | (simp; omega)) (by first | (simp; done) | exact one_map (fun _ => rfl) | exact one_tab (fun _ => rfl) | exact one_tab (fun _ => by split <;> rfl)) (by repeat (first | exact Upd.here _ _ _ | apply Upd.there)) (by first | rfl | (simp; done) | (simp; omega)) ?_ | refine JO.store sz_44 rfl rfl rfl (by first | rfl | (simp; done) | (simp; omega)) (by first | (simp; done) | exact one_sing rfl | exact one_map (fun _ => rfl) | exact one_piece (one_map (fun _ => rfl)) | exact one_tab (fun _ => rfl) | exact one_tab (fun _ => by split <;> rfl)) (by repeat (first | exact Upd.here _ _ _ | apply Upd.there)) (by first | exact ltb rfl | (simp; done) | (simp; omega) | omega | (simp [*]; omega)) ?_ | refine JO.storeRow sz_44 rfl rfl rfl (by first | rfl | simp) (by first | (simp; done) | exact one_map (fun _ => rfl) | exact one_tab (fun _ => rfl) | exact one_tab (fun _ => by split <;> rfl)) (by repeat (first | exact Upd.here _ _ _ | apply Upd.there)) (by first | exact ltb rfl | (simp; done) | (simp; omega) | omega | (simp [*]; omega)) (by first | exact ltb rfl | (simp; done) | (simp; omega) | omega | (simp [*]; omega)) ?_
    refine JO.nil ?_
    refine JQ.then_normal ?_
    refine JC.seq ?_
    refine JC.seq ?_
    refine JC.region ?_
    refine JO.v (Yv.move rfl) (by decide) ?_
    refine JO.v (Yv.nilCheck rfl) (by decide) ?_
    refine JO.v (Yv.fieldAddr fa_64_1 rfl) (by decide) ?_
    refine JO.v (Yv.load1 one_39 rfl (by first | exact Kn.own (by repeat (first | exact List.Mem.head _ | refine List.Mem.tail _ ?_)) (by first  | rfl | exact tab_get (by first | omega | (simp; omega)) | exact gm (d := 0) (by first | omega | (simp; omega))) | exact Kn.ro (by repeat (first | exact List.Mem.head _ | refine List.Mem.tail _ ?_)) (by first  | rfl | exact tab_get (by first | omega | (simp; omega)) | exact gm (d := 0) (by first | omega | (simp; omega))) | exact Kn.row (by repeat (first | exact List.Mem.head _ | refine List.Mem.tail _ ?_)) (by first  | rfl | exact tab_get (by first | omega | (simp; omega)) | exact gm (d := 0) (by first | omega | (simp; omega))) | exact Kn.rd (by repeat (first | exact Lend.same _ _ | exact Lend.row _ _ _ _ _ _ (by decide) | apply Lend.there)) (by first  | rfl | exact tab_get (by first | omega | (simp; omega)) | exact gm (d := 0) (by first | omega | (simp; omega))) | exact Kn.rd2 (by repeat (first | exact Lend.same _ _ | exact Lend.row _ _ _ _ _ _ (by decide) | apply Lend.there)) (by first  | rfl | exact tab_get (by first | omega | (simp; omega)) | exact gm (d := 0) (by first | omega | (simp; omega))))) (by decide) ?_
    refine JO.v (Yv.bin rfl rfl BinR.neq_i) (by decide) ?_
    refine JO.nil ?_
    refine JQ.then_normal ?_
    refine JC.cond rfl (fun hc2 => ?_) (fun hc2 => ?_)
    · try simp only [decide_eq_true_eq, decide_eq_false_iff_not, Bool.not_eq_true', Bool.not_eq_false', ne_eq, Decidable.not_not, Bool.not_eq_true, Bool.and_eq_true, Bool.or_eq_true, BitVec.reduceToNat] at hc2
      rw [hsn, Rdr.go_bad hc2] at hgo
      have hO : r.naO m = [] := congrArg Prod.fst hgo.symm
      have hA : r.naA m = rk.aft 32 := congrArg Prod.snd hgo.symm
      refine JC.nilRow 44 4 ?_
      refine JC.seq ?_
      refine JC.region ?_
      refine JO.v (Yv.assign rfl) (by decide) ?_
      refine JO.nil ?_
      refine JQ.then_normal ?_
      refine JC.ret ?_
      refine JQ.then_ret ?_
      refine JQ.block_ret ?_
      refine JQ.then_ret ?_
      refine JQ.then_ret ?_
      refine JQ.block_ret ?_
      refine JQ.then_ret ?_
      exact JQ.done (.inr rfl) (Γ' := [Res.rd _ (rk.aft 32).b.length 1 ((rk.aft 32).b.map u8)]) (H' := [Res.row (.slice none 0 0) 0 44 4 [], Res.cells p [_, it (rk.aft 32).e] 64]) (res1 rfl (RV.tmp rfl)) (Subs.sub (by repeat (first | exact Subs.nil _ | apply Subs.cons | exact List.Mem.head _ | refine List.Mem.tail _ ?_))) (Picks.perm (by repeat (first | exact Picks.nil _ | apply Picks.cons | exact Pull.here _ _ | apply Pull.there))) ⟨_, trivial, by rw [hA], by rw [hO, hA] <;> rfl⟩
    · try simp only [decide_eq_true_eq, decide_eq_false_iff_not, Bool.not_eq_true', Bool.not_eq_false', ne_eq, Decidable.not_not, Bool.not_eq_true, Bool.and_eq_true, Bool.or_eq_true, BitVec.reduceToNat] at hc2
      have hal2 := Rdr.aft_len hc2
      refine JC.skip ?_
      refine JQ.then_normal ?_
      refine JC.region ?_
      refine JO.v (Yv.move rfl) (by decide) ?_
      first | refine JO.v (Yv.loadOwn agg_44 (by repeat (first | exact List.Mem.head _ | refine List.Mem.tail _ ?_)) rfl (by first | rfl | (simp; done) | (simp; omega) | (simp [*]; done))) (by decide) ?_ | refine JO.v (Yv.loadOwnAt agg_44 (by repeat (first | exact List.Mem.head _ | refine List.Mem.tail _ ?_)) rfl (by first | rfl | (simp; done) | (simp; omega) | (simp [*]; done))) (by decide) ?_ | refine JO.v (Yv.loadRow agg_44 (by repeat (first | exact List.Mem.head _ | refine List.Mem.tail _ ?_)) rfl (by first | rfl | (simp; done) | (simp; omega) | (simp [*]; done))) (by decide) ?_ | refine JO.v (Yv.loadRd agg_44 (by repeat (first | exact Lend.same _ _ | exact Lend.row _ _ _ _ _ _ (by decide) | apply Lend.there)) rfl (by first | rfl | (simp; done) | (simp; omega) | (simp [*]; done))) (by decide) ?_ | refine JO.v (Yv.loadRo agg_44 (by repeat (first | exact List.Mem.head _ | refine List.Mem.tail _ ?_)) rfl (by first | rfl | (simp; done) | (simp; omega) | (simp [*]; done))) (by decide) ?_
      refine JO.lit Try.underlying47 info_44 rfl rfl (by simp [natV, Value.cells]) (by decide) (by decide) (by unfold maxLen; omega) (by decide) fun v21 => ?_
      refine JO.append Try.underlying47 info_44 rfl (by decide) rfl rfl (by repeat (first | exact Pull.here _ _ | apply Pull.there)) (by first | exact Src.nil | exact Src.rd (by repeat (first | exact Lend.same _ _ | exact Lend.row _ _ _ _ _ _ (by decide) | apply Lend.there)) (by decide) | exact Src.cells (by repeat (first | exact List.Mem.head _ | refine List.Mem.tail _ ?_)) (by simp)) (by simp [natV, Value.cells]) (by unfold maxLen; omega) (by omega) (by decide) fun v22 => ?_
      refine JO.v (Yv.assign rfl) (by decide) ?_
      refine JO.nil ?_
      refine JQ.block_normal ?_
      refine JQ.then_normal ?_
      refine JC.region ?_
      refine JO.v (Yv.as (v' := u64 (BitVec.ofNat 64 (k + 1))) (Yv.bin rfl rfl (BinR.add_u64 (b := 1#64))) (congrArg u64 (by apply BitVec.eq_of_toNat_eq; simp))) (by decide) ?_
      refine JO.v (Yv.move rfl) (by decide) ?_
      refine JO.nil ?_
      rw [natCells_snoc, len_snoc acc (ofBytes (rk.out 32))]
      refine JQ.head ((k + 1, acc ++ [ofBytes (rk.out 32)]), rk.aft 32, _, _) (by repeat (first | exact trivial | refine ⟨by first | rfl | (simp; done), ?_⟩)) (Subs.sub (by repeat (first | exact Subs.nil _ | apply Subs.cons | exact List.Mem.head _ | refine List.Mem.tail _ ?_))) (Picks.perm (by repeat (first | exact Picks.nil _ | apply Picks.cons | exact Pull.here _ _ | apply Pull.there))) ?_
      exact ⟨⟨by dsimp only; omega, by simp [hal], ofBytes4 _ _ ha4, by dsimp only; omega, by dsimp only; rw [← hgo, hsn, Rdr.go_ok hc2]⟩, by dsimp only; omega⟩
  · try simp only [decide_eq_true_eq, decide_eq_false_iff_not, Bool.not_eq_true', Bool.not_eq_false', ne_eq, Decidable.not_not, Bool.not_eq_true, Bool.and_eq_true, Bool.or_eq_true, BitVec.reduceToNat] at hc1
    rw [BitVec.toNat_ofNat, Nat.mod_eq_of_lt (by omega)] at hc1
    obtain rfl : k = (r.cnt m).toNat := by omega
    rw [Nat.sub_self] at hgo
    have hO : r.naO m = acc := congrArg Prod.fst hgo.symm
    have hA : r.naA m = rk := congrArg Prod.snd hgo.symm
    refine JC.exit ?_
    refine JQ.then_exit ?_
    refine JQ.then_exit ?_
    refine JQ.block_exit ?_
    refine JQ.then_normal ?_
    refine JC.seq ?_
    refine JC.region ?_
    refine JO.v (Yv.move rfl) (by decide) ?_
    refine JO.v (Yv.assign rfl) (by decide) ?_
    refine JO.nil ?_
    refine JQ.then_normal ?_
    refine JC.ret ?_
    exact JQ.done (.inr rfl) (Γ' := [Res.rd _ rk.b.length 1 (rk.b.map u8)]) (H' := [Res.row _ acc.length 44 4 (natCells acc), Res.cells p [_, it rk.e] 64]) (res1 rfl (RV.tmp rfl)) (Subs.sub (by repeat (first | exact Subs.nil _ | apply Subs.cons | exact List.Mem.head _ | refine List.Mem.tail _ ?_))) (Picks.perm (by repeat (first | exact Picks.nil _ | apply Picks.cons | exact Pull.here _ _ | apply Pull.there))) ⟨_, trivial, by rw [hA], by rw [hO, hA] <;> rfl⟩


theorem f20_spec (u v : Value) (a b : List W4) (hx : ∀ ws ∈ a, ws.length = 4) (hy : ∀ ws ∈ b, ws.length = 4) :
    Spec Try.prog 20 #[u, v] [Res.rd u a.length 4 (natCells a), Res.rd v b.length 4 (natCells b)] []
      (fun r Γ' H' => r = .bool (decide (a = b)) ∧ Γ' = [] ∧ H' = []) := by
  refine Spec.of_args Try.func20 rfl Try.ntmps20 (by simp) fun w => ?_
  refine JC.know (φ := a.length ≤ 9223372036854775807 ∧ b.length ≤ 9223372036854775807) ?_ ?_
  · intro w hs; have h1 := hs.rdForm (.head _); have h2 := hs.rdForm (.tail _ (.head _)); obtain ⟨_, _, _, _, _, _, h1⟩ := h1; obtain ⟨_, _, _, _, _, _, h2⟩ := h2; unfold maxLen at h1 h2; omega
  rintro ⟨hla, hlb⟩
  refine JC.seq ?_
  refine JC.region ?_
  refine JO.v (Yv.assign rfl) (by decide) ?_
  refine JO.nil ?_
  refine JQ.then_normal ?_
  refine JC.seq ?_
  refine JC.seq ?_
  refine JC.region ?_
  refine JO.v (Yv.move rfl) (by decide) ?_
  first | refine JO.v (Yv.len_s Try.underlying47 rfl) (by decide) ?_ | refine JO.v (Yv.lenRd Try.underlying47 rfl (by repeat (first | exact Lend.same _ _ | exact Lend.row _ _ _ _ _ _ (by decide) | apply Lend.there))) (by decide) ?_
  refine JO.v (Yv.move rfl) (by decide) ?_
  first | refine JO.v (Yv.len_s Try.underlying47 rfl) (by decide) ?_ | refine JO.v (Yv.lenRd Try.underlying47 rfl (by repeat (first | exact Lend.same _ _ | exact Lend.row _ _ _ _ _ _ (by decide) | apply Lend.there))) (by decide) ?_
  refine JO.v (Yv.bin rfl rfl BinR.neq_i) (by decide) ?_
  refine JO.nil ?_
  refine JQ.then_normal ?_
  refine JC.cond rfl (fun hc1 => ?_) (fun hc1 => ?_)
  · try simp only [decide_eq_true_eq, decide_eq_false_iff_not, Bool.not_eq_true', Bool.not_eq_false', ne_eq, Decidable.not_not, Bool.not_eq_true, Bool.and_eq_true, Bool.or_eq_true, BitVec.reduceToNat] at hc1
    have hne : a ≠ b := by rintro rfl; omega
    refine JC.seq ?_
    refine JC.region ?_
    refine JO.v (Yv.assign rfl) (by decide) ?_
    refine JO.nil ?_
    refine JQ.then_normal ?_
    refine JC.ret ?_
    refine JQ.then_ret ?_
    exact JQ.done (.inr rfl) (Γ' := []) (H' := []) (res1 rfl (RV.tmp rfl)) (Subs.sub (by repeat (first | exact Subs.nil _ | apply Subs.cons | exact List.Mem.head _ | refine List.Mem.tail _ ?_))) (Picks.perm (by repeat (first | exact Picks.nil _ | apply Picks.cons | exact Pull.here _ _ | apply Pull.there))) ⟨by rw [decide_eq_false hne], rfl, rfl⟩
  · try simp only [decide_eq_true_eq, decide_eq_false_iff_not, Bool.not_eq_true', Bool.not_eq_false', ne_eq, Decidable.not_not, Bool.not_eq_true, Bool.and_eq_true, Bool.or_eq_true, BitVec.reduceToNat] at hc1
    refine JC.skip ?_
    refine JQ.then_normal ?_
    refine JC.seq ?_
    refine JC.seq ?_
    refine JC.region ?_
    refine JO.v (Yv.assign rfl) (by decide) ?_
    refine JO.nil ?_
    refine JQ.then_normal ?_
    refine JC.block ?_
    refine JC.loop (ι := Nat) (fun x => x ≤ a.length ∧ ∀ j, j < x → a.getD j [] = b.getD j []) (fun x => [(0, u), (1, v), (5, it (x : Int))]) (fun x => [Res.rd u a.length 4 (natCells a), Res.rd v b.length 4 (natCells b)]) (fun x => []) (fun x => a.length - x) 0 (by repeat (first | exact trivial | refine ⟨by first | rfl | (simp; done), ?_⟩)) (Subs.sub (by repeat (first | exact Subs.nil _ | apply Subs.cons | exact List.Mem.head _ | refine List.Mem.tail _ ?_))) (Picks.perm (by repeat (first | exact Picks.nil _ | apply Picks.cons | exact Pull.here _ _ | apply Pull.there))) ?_ (fun x hx => ?_)
    · exact ⟨Nat.zero_le _, fun j hj => absurd hj (by omega)⟩
    obtain ⟨hk, hall⟩ := hx
    refine JC.seq ?_
    refine JC.seq ?_
    refine JC.region ?_
    refine JO.v (Yv.move rfl) (by decide) ?_
    refine JO.v (Yv.move rfl) (by decide) ?_
    first | refine JO.v (Yv.len_s Try.underlying47 rfl) (by decide) ?_ | refine JO.v (Yv.lenRd Try.underlying47 rfl (by repeat (first | exact Lend.same _ _ | exact Lend.row _ _ _ _ _ _ (by decide) | apply Lend.there))) (by decide) ?_
    refine JO.v (Yv.bin rfl rfl BinR.lss_i) (by decide) ?_
    refine JO.nil ?_
    refine JQ.then_normal ?_
    refine JC.cond rfl (fun hc2 => ?_) (fun hc2 => ?_)
    · try simp only [decide_eq_true_eq, decide_eq_false_iff_not, Bool.not_eq_true', Bool.not_eq_false', ne_eq, Decidable.not_not, Bool.not_eq_true, Bool.and_eq_true, Bool.or_eq_true, BitVec.reduceToNat] at hc2
      have h4a := getD_mem4 hx (k := x) (by omega)
      have h4b := getD_mem4 hy (k := x) (by omega)
      have hca := natCells_len hx
      have hcb := natCells_len hy
      refine JC.skip ?_
      refine JQ.then_normal ?_
      refine JC.seq ?_
      refine JC.block ?_
      refine JC.seq ?_
      refine JC.draw [0, 1, 2, 3, 4, 5, 6, 7, 8] (fun i => ([] : List Nat).contains i) (fun i => ([] : List Nat).contains i) (fun i => ([0, 1, 2, 3, 4, 5, 6, 7, 8] : List Nat).contains i) mixed (by kernel_rfl) (by decide) (by kernel_rfl) ?_
      refine JR.u rfl rfl rfl (Yv.move rfl) (by decide) ?_
      refine JR.u rfl rfl rfl (Yv.move rfl) (by decide) ?_
      first | refine JR.u rfl rfl rfl (Yv.indexRow Try.underlying47 sz_44 rfl rfl (by repeat (first | exact List.Mem.head _ | refine List.Mem.tail _ ?_)) (by first | exact ltb rfl | (simp; done) | (simp; omega) | omega | (simp [*]; omega))) (by decide) ?_ | refine JR.u rfl rfl rfl (Yv.indexRd Try.underlying47 sz_44 rfl rfl (by repeat (first | exact Lend.same _ _ | exact Lend.row _ _ _ _ _ _ (by decide) | apply Lend.there)) (by decide) (by first | exact ltb rfl | (simp; done) | (simp; omega) | omega | (simp [*]; omega))) (by decide) ?_
      first | refine JR.u rfl rfl rfl (Yv.as (v' := natV (a.getD x [])) (Yv.loadOwn agg_44 (by repeat (first | exact List.Mem.head _ | refine List.Mem.tail _ ?_)) rfl (by rw [hca]; omega)) (congrArg (fun l : List Value => Value.agg l.toArray) (natCells_at hx (by omega)))) (by decide) ?_ | refine JR.u rfl rfl rfl (Yv.as (v' := natV (a.getD x [])) (Yv.loadOwnAt agg_44 (by repeat (first | exact List.Mem.head _ | refine List.Mem.tail _ ?_)) rfl (by rw [hca]; omega)) (congrArg (fun l : List Value => Value.agg l.toArray) (natCells_at hx (by omega)))) (by decide) ?_ | refine JR.u rfl rfl rfl (Yv.as (v' := natV (a.getD x [])) (Yv.loadRow agg_44 (by repeat (first | exact List.Mem.head _ | refine List.Mem.tail _ ?_)) rfl (by rw [hca]; omega)) (congrArg (fun l : List Value => Value.agg l.toArray) (natCells_at hx (by omega)))) (by decide) ?_ | refine JR.u rfl rfl rfl (Yv.as (v' := natV (a.getD x [])) (Yv.loadRd agg_44 (by repeat (first | exact Lend.same _ _ | exact Lend.row _ _ _ _ _ _ (by decide) | apply Lend.there)) rfl (by rw [hca]; omega)) (congrArg (fun l : List Value => Value.agg l.toArray) (natCells_at hx (by omega)))) (by decide) ?_ | refine JR.u rfl rfl rfl (Yv.as (v' := natV (a.getD x [])) (Yv.loadRo agg_44 (by repeat (first | exact List.Mem.head _ | refine List.Mem.tail _ ?_)) rfl (by rw [hca]; omega)) (congrArg (fun l : List Value => Value.agg l.toArray) (natCells_at hx (by omega)))) (by decide) ?_
      refine JR.u rfl rfl rfl (Yv.move rfl) (by decide) ?_
      refine JR.u rfl rfl rfl (Yv.move rfl) (by decide) ?_
      first | refine JR.u rfl rfl rfl (Yv.indexRow Try.underlying47 sz_44 rfl rfl (by repeat (first | exact List.Mem.head _ | refine List.Mem.tail _ ?_)) (by first | exact ltb rfl | (simp; done) | (simp; omega) | omega | (simp [*]; omega))) (by decide) ?_ | refine JR.u rfl rfl rfl (Yv.indexRd Try.underlying47 sz_44 rfl rfl (by repeat (first | exact Lend.same _ _ | exact Lend.row _ _ _ _ _ _ (by decide) | apply Lend.there)) (by decide) (by first | exact ltb rfl | (simp; done) | (simp; omega) | omega | (simp [*]; omega))) (by decide) ?_
      first | refine JR.u rfl rfl rfl (Yv.as (v' := natV (b.getD x [])) (Yv.loadOwn agg_44 (by repeat (first | exact List.Mem.head _ | refine List.Mem.tail _ ?_)) rfl (by rw [hcb]; omega)) (congrArg (fun l : List Value => Value.agg l.toArray) (natCells_at hy (by omega)))) (by decide) ?_ | refine JR.u rfl rfl rfl (Yv.as (v' := natV (b.getD x [])) (Yv.loadOwnAt agg_44 (by repeat (first | exact List.Mem.head _ | refine List.Mem.tail _ ?_)) rfl (by rw [hcb]; omega)) (congrArg (fun l : List Value => Value.agg l.toArray) (natCells_at hy (by omega)))) (by decide) ?_ | refine JR.u rfl rfl rfl (Yv.as (v' := natV (b.getD x [])) (Yv.loadRow agg_44 (by repeat (first | exact List.Mem.head _ | refine List.Mem.tail _ ?_)) rfl (by rw [hcb]; omega)) (congrArg (fun l : List Value => Value.agg l.toArray) (natCells_at hy (by omega)))) (by decide) ?_ | refine JR.u rfl rfl rfl (Yv.as (v' := natV (b.getD x [])) (Yv.loadRd agg_44 (by repeat (first | exact Lend.same _ _ | exact Lend.row _ _ _ _ _ _ (by decide) | apply Lend.there)) rfl (by rw [hcb]; omega)) (congrArg (fun l : List Value => Value.agg l.toArray) (natCells_at hy (by omega)))) (by decide) ?_ | refine JR.u rfl rfl rfl (Yv.as (v' := natV (b.getD x [])) (Yv.loadRo agg_44 (by repeat (first | exact List.Mem.head _ | refine List.Mem.tail _ ?_)) rfl (by rw [hcb]; omega)) (congrArg (fun l : List Value => Value.agg l.toArray) (natCells_at hy (by omega)))) (by decide) ?_
      refine JR.u rfl rfl rfl (Yv.bin rfl rfl (neq44 h4a h4b)) (by decide) ?_
      refine JR.nil ?_
      refine JQ.then_normal ?_
      refine JC.cond rfl (fun hc3 => ?_) (fun hc3 => ?_)
      · try simp only [decide_eq_true_eq, decide_eq_false_iff_not, Bool.not_eq_true', Bool.not_eq_false', ne_eq, Decidable.not_not, Bool.not_eq_true, Bool.and_eq_true, Bool.or_eq_true, BitVec.reduceToNat] at hc3
        have hne : a ≠ b := by rintro rfl; simp at hc3
        refine JC.seq ?_
        refine JC.region ?_
        refine JO.v (Yv.assign rfl) (by decide) ?_
        refine JO.nil ?_
        refine JQ.then_normal ?_
        refine JC.ret ?_
        refine JQ.block_ret ?_
        refine JQ.then_ret ?_
        refine JQ.then_ret ?_
        refine JQ.block_ret ?_
        refine JQ.then_ret ?_
        exact JQ.done (.inr rfl) (Γ' := []) (H' := []) (res1 rfl (RV.tmp rfl)) (Subs.sub (by repeat (first | exact Subs.nil _ | apply Subs.cons | exact List.Mem.head _ | refine List.Mem.tail _ ?_))) (Picks.perm (by repeat (first | exact Picks.nil _ | apply Picks.cons | exact Pull.here _ _ | apply Pull.there))) ⟨by rw [decide_eq_false hne], rfl, rfl⟩
      · try simp only [decide_eq_true_eq, decide_eq_false_iff_not, Bool.not_eq_true', Bool.not_eq_false', ne_eq, Decidable.not_not, Bool.not_eq_true, Bool.and_eq_true, Bool.or_eq_true, BitVec.reduceToNat] at hc3
        try simp only [Bool.not_eq_true', decide_eq_false_iff_not, Decidable.not_not] at hc3
        refine JC.skip ?_
        refine JQ.block_normal ?_
        refine JQ.then_normal ?_
        refine JC.region ?_
        refine JO.v (Yv.move rfl) (by decide) ?_
        refine JO.v (Yv.bin rfl rfl (BinR.add_i (by first | (constructor <;> omega) | (constructor <;> simp <;> omega)))) (by decide) ?_
        refine JO.v (Yv.assign rfl) (by decide) ?_
        refine JO.nil ?_
        refine JQ.head (x + 1) (by repeat (first | exact trivial | refine ⟨by first | rfl | (simp; done), ?_⟩)) (Subs.sub (by repeat (first | exact Subs.nil _ | apply Subs.cons | exact List.Mem.head _ | refine List.Mem.tail _ ?_))) (Picks.perm (by repeat (first | exact Picks.nil _ | apply Picks.cons | exact Pull.here _ _ | apply Pull.there))) ?_
        exact ⟨⟨by omega, fun j hj => if h : j < x then hall j h else (show j = x by omega) ▸ hc3⟩, by omega⟩
    · try simp only [decide_eq_true_eq, decide_eq_false_iff_not, Bool.not_eq_true', Bool.not_eq_false', ne_eq, Decidable.not_not, Bool.not_eq_true, Bool.and_eq_true, Bool.or_eq_true, BitVec.reduceToNat] at hc2
      have heq : a = b := eq_of_getD (d := []) (by omega) (fun j hj => hall j (by omega))
      refine JC.exit ?_
      refine JQ.then_exit ?_
      refine JQ.then_exit ?_
      refine JQ.block_exit ?_
      refine JQ.then_normal ?_
      refine JC.seq ?_
      refine JC.region ?_
      refine JO.v (Yv.assign rfl) (by decide) ?_
      refine JO.nil ?_
      refine JQ.then_normal ?_
      refine JC.ret ?_
      exact JQ.done (.inr rfl) (Γ' := []) (H' := []) (res1 rfl (RV.tmp rfl)) (Subs.sub (by repeat (first | exact Subs.nil _ | apply Subs.cons | exact List.Mem.head _ | refine List.Mem.tail _ ?_))) (Picks.perm (by repeat (first | exact Picks.nil _ | apply Picks.cons | exact Pull.here _ _ | apply Pull.there))) ⟨by rw [decide_eq_true heq], rfl, rfl⟩
end Go.Proofs.Ytogbdobncnhjpaa
