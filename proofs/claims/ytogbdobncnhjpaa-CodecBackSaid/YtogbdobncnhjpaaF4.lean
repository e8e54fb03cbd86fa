/- Walks: many numbers, written. -/
import Derived.Test.YtogbdobncnhjpaaF3
namespace Go.Proofs.Ytogbdobncnhjpaa
open Go.RowKit
set_option maxRecDepth 100000
set_option linter.unusedVariables false
set_option linter.unusedSimpArgs false

theorem f23_spec (p : Nat) (v : Value) (xs : B8) (hx : xs.length ≤ 500000000) (u : Value) (l : List W4) (hl : ∀ ws ∈ l, ws.length = 4) (hn : l.length ≤ 1000000) :
    Spec Try.prog 23 #[(ptr p 0), u] [Res.rd u l.length 4 (natCells l)] [Res.cells p [v] 27, Res.row v xs.length 5 1 (xs.map u8)]
      (fun r Γ' H' => ∃ v', r = .tuple #[] ∧ Γ' = [] ∧ H' = [Res.cells p [v'] 27, Res.row v' (xs ++ natsB l).length 5 1 ((xs ++ natsB l).map u8)]) := by
  refine Spec.of_args Try.func23 rfl Try.ntmps23 (by simp) fun w => ?_
  refine JC.seq ?_
  refine JC.region ?_
  refine JO.v (Yv.move rfl) (by decide) ?_
  refine JO.v (Yv.move rfl) (by decide) ?_
  first | refine JO.v (Yv.len_s Try.underlying47 rfl) (by decide) ?_ | refine JO.v (Yv.lenRd Try.underlying47 rfl (by repeat (first | exact Lend.same _ _ | exact Lend.row _ _ _ _ _ _ (by decide) | apply Lend.there))) (by decide) ?_
  refine JO.v (Yv.as (v' := u64 (BitVec.ofNat 64 l.length)) (Yv.conv_i_u64 Try.underlying3 Try.underlying22 rfl) (congrArg u64 (by simp))) (by decide) ?_
  refine JO.callB (f9_spec p v xs (by omega) (BitVec.ofNat 64 l.length)) body_9 rfl (by repeat (first | exact Picks.nil _ | apply Picks.cons | exact Pull.here _ _ | apply Pull.there)) (by repeat (first | exact Lends.nil _ | apply Lends.cons | exact Lend.same _ _ | exact Lend.row _ _ _ _ _ _ (by decide) | apply Lend.there)) (by rintro _ _ _ ⟨_, _, h, _⟩; exact h) (by decide) ?_
  rintro _ _ ⟨_, ⟨v8, rfl, _, rfl⟩, hH⟩
  simp only [List.cons_append, List.nil_append] at hH; subst hH
  have hs := smallB_le (BitVec.ofNat 64 l.length)
  have hL : (xs ++ smallB (BitVec.ofNat 64 l.length)).length = xs.length + (smallB (BitVec.ofNat 64 l.length)).length := List.length_append
  refine JO.nil ?_
  refine JQ.then_normal ?_
  refine JC.seq ?_
  refine JC.region ?_
  refine JO.v (Yv.move rfl) (by decide) ?_
  first | refine JO.v (Yv.len_s Try.underlying47 rfl) (by decide) ?_ | refine JO.v (Yv.lenRd Try.underlying47 rfl (by repeat (first | exact Lend.same _ _ | exact Lend.row _ _ _ _ _ _ (by decide) | apply Lend.there))) (by decide) ?_
  refine JO.v (Yv.move rfl) (by decide) ?_
  refine JO.nil ?_
  refine JQ.then_normal ?_
  refine JC.block ?_
  refine JC.loop (ι := Nat × Value) (fun x => x.1 ≤ l.length) (fun x => [(0, ptr p 0), (11, u), (12, it (l.length : Int)), (13, it (x.1 : Int))]) (fun x => [Res.rd u l.length 4 (natCells l)]) (fun x => [Res.cells p [x.2] 27, Res.row x.2 (xs ++ smallB (BitVec.ofNat 64 l.length) ++ flatB (l.take x.1)).length 5 1 ((xs ++ smallB (BitVec.ofNat 64 l.length) ++ flatB (l.take x.1)).map u8)]) (fun x => l.length - x.1) (0, v8) (by repeat (first | exact trivial | refine ⟨by first | rfl | (simp; done), ?_⟩)) (Subs.sub (by repeat (first | exact Subs.nil _ | apply Subs.cons | exact List.Mem.head _ | refine List.Mem.tail _ ?_))) (Picks.perm (by dsimp only; rw [show flatB (List.take 0 l) = [] from rfl, List.append_nil]; repeat (first | exact Picks.nil _ | apply Picks.cons | exact Pull.here _ _ | apply Pull.there))) ?_ (fun x hx => ?_)
  · exact Nat.zero_le _
  obtain ⟨k, v'⟩ := x
  dsimp only at hx ⊢
  have hF := flatB_len (l.take k)
  have hL2 : (xs ++ smallB (BitVec.ofNat 64 l.length) ++ flatB (l.take k)).length = (xs ++ smallB (BitVec.ofNat 64 l.length)).length + (flatB (l.take k)).length := List.length_append
  rw [List.length_take, Nat.min_eq_left hx] at hF
  have hcl := natCells_len hl
  refine JC.seq ?_
  refine JC.region ?_
  refine JO.v (Yv.bin rfl rfl BinR.lss_i) (by decide) ?_
  refine JO.nil ?_
  refine JQ.then_normal ?_
  refine JC.seq ?_
  refine JC.cond rfl (fun hc1 => ?_) (fun hc1 => ?_)
  · try simp only [decide_eq_true_eq, decide_eq_false_iff_not, Bool.not_eq_true', Bool.not_eq_false', ne_eq, Decidable.not_not, Bool.not_eq_true, Bool.and_eq_true, Bool.or_eq_true, BitVec.reduceToNat] at hc1
    have h4 := getD_mem4 hl (k := k) (by omega)
    have h4' := h4
    simp only [List.getD_eq_getElem?_getD] at h4'
    refine JC.skip ?_
    refine JQ.then_normal ?_
    refine JC.seq ?_
    refine JC.block ?_
    refine JC.seq ?_
    refine JC.region ?_
    first | refine JO.v (Yv.indexRow Try.underlying47 sz_44 rfl rfl (by repeat (first | exact List.Mem.head _ | refine List.Mem.tail _ ?_)) (by first | exact ltb rfl | (simp; done) | (simp; omega) | omega | (simp [*]; omega))) (by decide) ?_ | refine JO.v (Yv.indexRd Try.underlying47 sz_44 rfl rfl (by repeat (first | exact Lend.same _ _ | exact Lend.row _ _ _ _ _ _ (by decide) | apply Lend.there)) (by decide) (by first | exact ltb rfl | (simp; done) | (simp; omega) | omega | (simp [*]; omega))) (by decide) ?_
    first | refine JO.v (Yv.as (v' := natV (l.getD k [])) (Yv.loadOwn agg_44 (by repeat (first | exact List.Mem.head _ | refine List.Mem.tail _ ?_)) rfl (by rw [hcl]; omega)) (congrArg (fun l : List Value => Value.agg l.toArray) (natCells_at hl (by omega)))) (by decide) ?_ | refine JO.v (Yv.as (v' := natV (l.getD k [])) (Yv.loadOwnAt agg_44 (by repeat (first | exact List.Mem.head _ | refine List.Mem.tail _ ?_)) rfl (by rw [hcl]; omega)) (congrArg (fun l : List Value => Value.agg l.toArray) (natCells_at hl (by omega)))) (by decide) ?_ | refine JO.v (Yv.as (v' := natV (l.getD k [])) (Yv.loadRow agg_44 (by repeat (first | exact List.Mem.head _ | refine List.Mem.tail _ ?_)) rfl (by rw [hcl]; omega)) (congrArg (fun l : List Value => Value.agg l.toArray) (natCells_at hl (by omega)))) (by decide) ?_ | refine JO.v (Yv.as (v' := natV (l.getD k [])) (Yv.loadRd agg_44 (by repeat (first | exact Lend.same _ _ | exact Lend.row _ _ _ _ _ _ (by decide) | apply Lend.there)) rfl (by rw [hcl]; omega)) (congrArg (fun l : List Value => Value.agg l.toArray) (natCells_at hl (by omega)))) (by decide) ?_ | refine JO.v (Yv.as (v' := natV (l.getD k [])) (Yv.loadRo agg_44 (by repeat (first | exact List.Mem.head _ | refine List.Mem.tail _ ?_)) rfl (by rw [hcl]; omega)) (congrArg (fun l : List Value => Value.agg l.toArray) (natCells_at hl (by omega)))) (by decide) ?_
    refine JO.alloc _ zero_44 rfl (by decide) fun b5 => ?_
    first | refine JO.storeAll sz_44 rfl rfl rfl (by first | rfl | (simp; done) | (simp; omega)) (by first | (simp; done) | exact one_map (fun _ => rfl) | exact one_tab (fun _ => rfl) | exact one_tab (fun _ => by split <;> rfl)) (by repeat (first | exact Upd.here _ _ _ | apply Upd.there)) (by first | rfl | (simp; done) | (simp; omega)) ?_ | refine JO.store sz_44 rfl rfl rfl (by first | rfl | (simp; done) | (simp; omega)) (by first | (simp; done) | exact one_sing rfl | exact one_map (fun _ => rfl) | exact one_piece (one_map (fun _ => rfl)) | exact one_tab (fun _ => rfl) | exact one_tab (fun _ => by split <;> rfl)) (by repeat (first | exact Upd.here _ _ _ | apply Upd.there)) (by first | exact ltb rfl | (simp; done) | (simp; omega) | omega | (simp [*]; omega)) ?_ | refine JO.storeRow sz_44 rfl rfl rfl (by first | rfl | simp) (by first | (simp; done) | exact one_map (fun _ => rfl) | exact one_tab (fun _ => rfl) | exact one_tab (fun _ => by split <;> rfl)) (by repeat (first | exact Upd.here _ _ _ | apply Upd.there)) (by first | exact ltb rfl | (simp; done) | (simp; omega) | omega | (simp [*]; omega)) (by first | exact ltb rfl | (simp; done) | (simp; omega) | omega | (simp [*]; omega)) ?_
    refine JO.nil ?_
    refine JQ.then_normal ?_
    refine JC.region ?_
    refine JO.v (Yv.move rfl) (by decide) ?_
    first | refine JO.v (Yv.as (v' := natV (l.getD k [])) (Yv.loadOwn agg_44 (by repeat (first | exact List.Mem.head _ | refine List.Mem.tail _ ?_)) rfl (by first | rfl | (simp; done) | (simp; omega) | (simp [*]; done))) (congrArg (fun l : List Value => Value.agg l.toArray) (by simp [natV, Value.cells, take4 h4]))) (by decide) ?_ | refine JO.v (Yv.as (v' := natV (l.getD k [])) (Yv.loadOwnAt agg_44 (by repeat (first | exact List.Mem.head _ | refine List.Mem.tail _ ?_)) rfl (by first | rfl | (simp; done) | (simp; omega) | (simp [*]; done))) (congrArg (fun l : List Value => Value.agg l.toArray) (by simp [natV, Value.cells, take4 h4]))) (by decide) ?_ | refine JO.v (Yv.as (v' := natV (l.getD k [])) (Yv.loadRow agg_44 (by repeat (first | exact List.Mem.head _ | refine List.Mem.tail _ ?_)) rfl (by first | rfl | (simp; done) | (simp; omega) | (simp [*]; done))) (congrArg (fun l : List Value => Value.agg l.toArray) (by simp [natV, Value.cells, take4 h4]))) (by decide) ?_ | refine JO.v (Yv.as (v' := natV (l.getD k [])) (Yv.loadRd agg_44 (by repeat (first | exact Lend.same _ _ | exact Lend.row _ _ _ _ _ _ (by decide) | apply Lend.there)) rfl (by first | rfl | (simp; done) | (simp; omega) | (simp [*]; done))) (congrArg (fun l : List Value => Value.agg l.toArray) (by simp [natV, Value.cells, take4 h4]))) (by decide) ?_ | refine JO.v (Yv.as (v' := natV (l.getD k [])) (Yv.loadRo agg_44 (by repeat (first | exact List.Mem.head _ | refine List.Mem.tail _ ?_)) rfl (by first | rfl | (simp; done) | (simp; omega) | (simp [*]; done))) (congrArg (fun l : List Value => Value.agg l.toArray) (by simp [natV, Value.cells, take4 h4]))) (by decide) ?_
    refine JO.callB (f21_spec p v' (xs ++ smallB (BitVec.ofNat 64 l.length) ++ flatB (l.take k)) (by omega) (l.getD k []) (getD_mem4 hl (by omega))) body_21 rfl (by repeat (first | exact Picks.nil _ | apply Picks.cons | exact Pull.here _ _ | apply Pull.there)) (by repeat (first | exact Lends.nil _ | apply Lends.cons | exact Lend.same _ _ | exact Lend.row _ _ _ _ _ _ (by decide) | apply Lend.there)) (by rintro _ _ _ ⟨_, _, h, _⟩; exact h) (by decide) ?_
    rintro _ _ ⟨_, ⟨v9, rfl, _, rfl⟩, hH⟩
    simp only [List.cons_append, List.nil_append] at hH; subst hH
    rw [List.append_assoc (xs ++ smallB (BitVec.ofNat 64 l.length)), flatB_succ (by omega)]
    refine JO.nil ?_
    refine JQ.block_normal ?_
    refine JQ.then_normal ?_
    refine JC.region ?_
    refine JO.v (Yv.bin rfl rfl (BinR.add_i (by first | (constructor <;> omega) | (constructor <;> simp <;> omega)))) (by decide) ?_
    refine JO.v (Yv.move rfl) (by decide) ?_
    refine JO.nil ?_
    refine JQ.head (k + 1, _) (by repeat (first | exact trivial | refine ⟨by first | rfl | (simp; done), ?_⟩)) (Subs.sub (by repeat (first | exact Subs.nil _ | apply Subs.cons | exact List.Mem.head _ | refine List.Mem.tail _ ?_))) (Picks.perm (by repeat (first | exact Picks.nil _ | apply Picks.cons | exact Pull.here _ _ | apply Pull.there))) ?_
    exact ⟨by dsimp only; omega, by dsimp only; omega⟩
  · try simp only [decide_eq_true_eq, decide_eq_false_iff_not, Bool.not_eq_true', Bool.not_eq_false', ne_eq, Decidable.not_not, Bool.not_eq_true, Bool.and_eq_true, Bool.or_eq_true, BitVec.reduceToNat] at hc1
    obtain rfl : k = l.length := by omega
    refine JC.exit ?_
    refine JQ.then_exit ?_
    refine JQ.then_exit ?_
    refine JQ.block_exit ?_
    rw [List.take_length, List.append_assoc xs]
    exact JQ.done (.inl rfl) (Γ' := []) (H' := [Res.cells p [_] 27, Res.row _ (xs ++ natsB l).length 5 1 _]) (res_none rfl) (Subs.sub (by repeat (first | exact Subs.nil _ | apply Subs.cons | exact List.Mem.head _ | refine List.Mem.tail _ ?_))) (Picks.perm (by repeat (first | exact Picks.nil _ | apply Picks.cons | exact Pull.here _ _ | apply Pull.there))) ⟨_, rfl, rfl, rfl⟩


theorem f30_spec (u : Value) (l : List W4) (hl : ∀ ws ∈ l, ws.length = 4) (hn : l.length ≤ 1000000) :
    Spec Try.prog 30 #[u] [Res.rd u l.length 4 (natCells l)] []
      (fun r Γ' H' => True ∧ Γ' = [] ∧ H' = [Res.row r (natsB l).length 5 1 ((natsB l).map u8)]) := by
  refine Spec.of_args Try.func30 rfl Try.ntmps30 (by simp) fun w => ?_
  refine JC.seq ?_
  refine JC.region ?_
  refine JO.v (Yv.assign rfl) (by decide) ?_
  refine JO.nil ?_
  refine JQ.then_normal ?_
  refine JC.seq ?_
  refine JC.region ?_
  refine JO.v (Yv.move rfl) (by decide) ?_
  first | refine JO.v (Yv.len_s Try.underlying47 rfl) (by decide) ?_ | refine JO.v (Yv.lenRd Try.underlying47 rfl (by repeat (first | exact Lend.same _ _ | exact Lend.row _ _ _ _ _ _ (by decide) | apply Lend.there))) (by decide) ?_
  refine JO.v (Yv.as (v' := u64 (BitVec.ofNat 64 l.length)) (Yv.conv_i_u64 Try.underlying3 Try.underlying22 rfl) (congrArg u64 (by simp))) (by decide) ?_
  refine JO.callB (f27_spec (BitVec.ofNat 64 l.length)) body_27 rfl (by repeat (first | exact Picks.nil _ | apply Picks.cons | exact Pull.here _ _ | apply Pull.there)) (by repeat (first | exact Lends.nil _ | apply Lends.cons | exact Lend.same _ _ | exact Lend.row _ _ _ _ _ _ (by decide) | apply Lend.there)) (by rintro _ _ _ ⟨_, h, _⟩; exact h) (by decide) ?_
  rintro v8 _ ⟨_, ⟨_, _, rfl⟩, hH⟩
  simp only [List.cons_append, List.nil_append] at hH; subst hH
  have hs := smallB_le (BitVec.ofNat 64 l.length)
  refine JO.v (Yv.assign rfl) (by decide) ?_
  refine JO.nil ?_
  refine JQ.then_normal ?_
  refine JC.seq ?_
  refine JC.seq ?_
  refine JC.region ?_
  refine JO.v (Yv.assign rfl) (by decide) ?_
  refine JO.nil ?_
  refine JQ.then_normal ?_
  refine JC.block ?_
  refine JC.loop (ι := Nat × Value) (fun x => x.1 ≤ l.length) (fun x => [(0, u), (3, x.2), (4, it (x.1 : Int))]) (fun x => [Res.rd u l.length 4 (natCells l)]) (fun x => [Res.row x.2 (smallB (BitVec.ofNat 64 l.length) ++ flatB (l.take x.1)).length 5 1 ((smallB (BitVec.ofNat 64 l.length) ++ flatB (l.take x.1)).map u8)]) (fun x => l.length - x.1) (0, v8) (by repeat (first | exact trivial | refine ⟨by first | rfl | (simp; done), ?_⟩)) (Subs.sub (by repeat (first | exact Subs.nil _ | apply Subs.cons | exact List.Mem.head _ | refine List.Mem.tail _ ?_))) (Picks.perm (by dsimp only; rw [show flatB (List.take 0 l) = [] from rfl, List.append_nil]; repeat (first | exact Picks.nil _ | apply Picks.cons | exact Pull.here _ _ | apply Pull.there))) ?_ (fun x hx => ?_)
  · exact Nat.zero_le _
  obtain ⟨k, v'⟩ := x
  dsimp only at hx ⊢
  have hF := flatB_len (l.take k)
  have hL2 : (smallB (BitVec.ofNat 64 l.length) ++ flatB (l.take k)).length = (smallB (BitVec.ofNat 64 l.length)).length + (flatB (l.take k)).length := List.length_append
  rw [List.length_take, Nat.min_eq_left hx] at hF
  have hcl := natCells_len hl
  refine JC.seq ?_
  refine JC.seq ?_
  refine JC.region ?_
  refine JO.v (Yv.move rfl) (by decide) ?_
  refine JO.v (Yv.move rfl) (by decide) ?_
  first | refine JO.v (Yv.len_s Try.underlying47 rfl) (by decide) ?_ | refine JO.v (Yv.lenRd Try.underlying47 rfl (by repeat (first | exact Lend.same _ _ | exact Lend.row _ _ _ _ _ _ (by decide) | apply Lend.there))) (by decide) ?_
  refine JO.v (Yv.bin rfl rfl BinR.lss_i) (by decide) ?_
  refine JO.nil ?_
  refine JQ.then_normal ?_
  refine JC.cond rfl (fun hc1 => ?_) (fun hc1 => ?_)
  · try simp only [decide_eq_true_eq, decide_eq_false_iff_not, Bool.not_eq_true', Bool.not_eq_false', ne_eq, Decidable.not_not, Bool.not_eq_true, Bool.and_eq_true, Bool.or_eq_true, BitVec.reduceToNat] at hc1
    have h4 := getD_mem4 hl (k := k) (by omega)
    have h4' := h4
    simp only [List.getD_eq_getElem?_getD] at h4'
    refine JC.skip ?_
    refine JQ.then_normal ?_
    refine JC.seq ?_
    refine JC.block ?_
    refine JC.region ?_
    refine JO.v (Yv.move rfl) (by decide) ?_
    refine JO.v (Yv.move rfl) (by decide) ?_
    refine JO.v (Yv.move rfl) (by decide) ?_
    first | refine JO.v (Yv.indexRow Try.underlying47 sz_44 rfl rfl (by repeat (first | exact List.Mem.head _ | refine List.Mem.tail _ ?_)) (by first | exact ltb rfl | (simp; done) | (simp; omega) | omega | (simp [*]; omega))) (by decide) ?_ | refine JO.v (Yv.indexRd Try.underlying47 sz_44 rfl rfl (by repeat (first | exact Lend.same _ _ | exact Lend.row _ _ _ _ _ _ (by decide) | apply Lend.there)) (by decide) (by first | exact ltb rfl | (simp; done) | (simp; omega) | omega | (simp [*]; omega))) (by decide) ?_
    first | refine JO.v (Yv.as (v' := natV (l.getD k [])) (Yv.loadOwn agg_44 (by repeat (first | exact List.Mem.head _ | refine List.Mem.tail _ ?_)) rfl (by rw [hcl]; omega)) (congrArg (fun l : List Value => Value.agg l.toArray) (natCells_at hl (by omega)))) (by decide) ?_ | refine JO.v (Yv.as (v' := natV (l.getD k [])) (Yv.loadOwnAt agg_44 (by repeat (first | exact List.Mem.head _ | refine List.Mem.tail _ ?_)) rfl (by rw [hcl]; omega)) (congrArg (fun l : List Value => Value.agg l.toArray) (natCells_at hl (by omega)))) (by decide) ?_ | refine JO.v (Yv.as (v' := natV (l.getD k [])) (Yv.loadRow agg_44 (by repeat (first | exact List.Mem.head _ | refine List.Mem.tail _ ?_)) rfl (by rw [hcl]; omega)) (congrArg (fun l : List Value => Value.agg l.toArray) (natCells_at hl (by omega)))) (by decide) ?_ | refine JO.v (Yv.as (v' := natV (l.getD k [])) (Yv.loadRd agg_44 (by repeat (first | exact Lend.same _ _ | exact Lend.row _ _ _ _ _ _ (by decide) | apply Lend.there)) rfl (by rw [hcl]; omega)) (congrArg (fun l : List Value => Value.agg l.toArray) (natCells_at hl (by omega)))) (by decide) ?_ | refine JO.v (Yv.as (v' := natV (l.getD k [])) (Yv.loadRo agg_44 (by repeat (first | exact List.Mem.head _ | refine List.Mem.tail _ ?_)) rfl (by rw [hcl]; omega)) (congrArg (fun l : List Value => Value.agg l.toArray) (natCells_at hl (by omega)))) (by decide) ?_
    refine JO.callB (f28_spec (l.getD k []) (getD_mem4 hl (by omega))) body_28 rfl (by repeat (first | exact Picks.nil _ | apply Picks.cons | exact Pull.here _ _ | apply Pull.there)) (by repeat (first | exact Lends.nil _ | apply Lends.cons | exact Lend.same _ _ | exact Lend.row _ _ _ _ _ _ (by decide) | apply Lend.there)) (by rintro _ _ _ ⟨_, h, _⟩; exact h) (by decide) ?_
    rintro v20 _ ⟨_, ⟨_, _, rfl⟩, hH⟩
    simp only [List.cons_append, List.nil_append] at hH; subst hH
    have hb32 := natBytes_length (l.getD k [])
    refine JO.append Try.underlying25 info_5 rfl (by decide) rfl rfl (by repeat (first | exact Pull.here _ _ | apply Pull.there)) (by first | exact Src.nil | exact Src.rd (by repeat (first | exact Lend.same _ _ | exact Lend.row _ _ _ _ _ _ (by decide) | apply Lend.there)) (by decide) | exact Src.cells (by repeat (first | exact List.Mem.head _ | refine List.Mem.tail _ ?_)) (by simp)) (by first | (simp; done) | exact one_sing rfl | exact one_map (fun _ => rfl) | exact one_piece (one_map (fun _ => rfl)) | exact one_tab (fun _ => rfl) | exact one_tab (fun _ => by split <;> rfl)) (by unfold maxLen; omega) (by omega) (by decide) fun v21 => ?_
    refine JO.v (Yv.assign rfl) (by decide) ?_
    refine JO.nil ?_
    refine JQ.block_normal ?_
    refine JQ.then_normal ?_
    refine JC.region ?_
    refine JO.v (Yv.move rfl) (by decide) ?_
    refine JO.v (Yv.bin rfl rfl (BinR.add_i (by first | (constructor <;> omega) | (constructor <;> simp <;> omega)))) (by decide) ?_
    refine JO.v (Yv.assign rfl) (by decide) ?_
    refine JO.nil ?_
    rw [map_cat, len_cat, List.append_assoc (smallB (BitVec.ofNat 64 l.length)), flatB_succ (by omega)]
    refine JQ.head (k + 1, _) (by repeat (first | exact trivial | refine ⟨by first | rfl | (simp; done), ?_⟩)) (Subs.sub (by repeat (first | exact Subs.nil _ | apply Subs.cons | exact List.Mem.head _ | refine List.Mem.tail _ ?_))) (Picks.perm (by repeat (first | exact Picks.nil _ | apply Picks.cons | exact Pull.here _ _ | apply Pull.there))) ?_
    exact ⟨by dsimp only; omega, by dsimp only; omega⟩
  · try simp only [decide_eq_true_eq, decide_eq_false_iff_not, Bool.not_eq_true', Bool.not_eq_false', ne_eq, Decidable.not_not, Bool.not_eq_true, Bool.and_eq_true, Bool.or_eq_true, BitVec.reduceToNat] at hc1
    obtain rfl : k = l.length := by omega
    refine JC.exit ?_
    refine JQ.then_exit ?_
    refine JQ.then_exit ?_
    refine JQ.block_exit ?_
    refine JQ.then_normal ?_
    refine JC.seq ?_
    refine JC.region ?_
    refine JO.v (Yv.move rfl) (by decide) ?_
    refine JO.v (Yv.assign rfl) (by decide) ?_
    refine JO.nil ?_
    refine JQ.then_normal ?_
    refine JC.ret ?_
    rw [List.take_length]
    exact JQ.done (.inr rfl) (Γ' := []) (H' := [Res.row _ (natsB l).length 5 1 _]) (res1 rfl (RV.tmp rfl)) (Subs.sub (by repeat (first | exact Subs.nil _ | apply Subs.cons | exact List.Mem.head _ | refine List.Mem.tail _ ?_))) (Picks.perm (by repeat (first | exact Picks.nil _ | apply Picks.cons | exact Pull.here _ _ | apply Pull.there))) ⟨trivial, rfl, rfl⟩
end Go.Proofs.Ytogbdobncnhjpaa
