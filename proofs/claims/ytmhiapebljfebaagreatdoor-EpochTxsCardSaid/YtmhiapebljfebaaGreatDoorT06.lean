/- Texts of ours, gathered: F1 V1 V2 O2. -/
import Derived.Test.YtmhiapebljfebaaGreatDoorT05
/- Walks: the codec. -/
namespace Go.Proofs.YtmhiapebljfebaaGreatDoor
open Go.RowKit
set_option maxRecDepth 100000
set_option linter.unusedVariables false
set_option linter.unusedSimpArgs false
theorem zq1 {p : Prop} (h : p := by repeat (first | exact Picks.nil _ | apply Picks.cons | exact Pull.here _ _ | apply Pull.there)) : p := h
theorem zq2 {p : Prop} (h : p := by first | exact Kn.own (by repeat (first | exact List.Mem.head _ | refine List.Mem.tail _ ?_)) (by first  | rfl | exact tab_get (by first | omega | (simp; omega)) | exact gm (d := 0) (by first | omega | (simp; omega))) | exact Kn.ro (by repeat (first | exact List.Mem.head _ | refine List.Mem.tail _ ?_)) (by first  | rfl | exact tab_get (by first | omega | (simp; omega)) | exact gm (d := 0) (by first | omega | (simp; omega))) | exact Kn.row (by repeat (first | exact List.Mem.head _ | refine List.Mem.tail _ ?_)) (by first  | rfl | exact tab_get (by first | omega | (simp; omega)) | exact gm (d := 0) (by first | omega | (simp; omega))) | exact Kn.rd (by repeat (first | exact Lend.same _ _ | exact Lend.row _ _ _ _ _ _ (by decide) | apply Lend.there)) (by first  | rfl | exact tab_get (by first | omega | (simp; omega)) | exact gm (d := 0) (by first | omega | (simp; omega))) | exact Kn.rd2 (by repeat (first | exact Lend.same _ _ | exact Lend.row _ _ _ _ _ _ (by decide) | apply Lend.there)) (by first  | rfl | exact tab_get (by first | omega | (simp; omega)) | exact gm (d := 0) (by first | omega | (simp; omega)))) : p := h
theorem zq3 {p : Prop} (h : p := by repeat (first | exact Subs.nil _ | apply Subs.cons | exact List.Mem.head _ | refine List.Mem.tail _ ?_)) : p := h
theorem zq4 {p : Prop} (h : p := by first | exact Kn.own (by repeat (first | exact List.Mem.head _ | refine List.Mem.tail _ ?_)) (by first | exact gm (d := 0) (by rw [ofBytes_length]; decide) | rfl | exact tab_get (by first | omega | (simp; omega)) | exact gm (d := 0) (by first | omega | (simp; omega))) | exact Kn.ro (by repeat (first | exact List.Mem.head _ | refine List.Mem.tail _ ?_)) (by first | exact gm (d := 0) (by rw [ofBytes_length]; decide) | rfl | exact tab_get (by first | omega | (simp; omega)) | exact gm (d := 0) (by first | omega | (simp; omega))) | exact Kn.row (by repeat (first | exact List.Mem.head _ | refine List.Mem.tail _ ?_)) (by first | exact gm (d := 0) (by rw [ofBytes_length]; decide) | rfl | exact tab_get (by first | omega | (simp; omega)) | exact gm (d := 0) (by first | omega | (simp; omega))) | exact Kn.rd (by repeat (first | exact Lend.same _ _ | exact Lend.row _ _ _ _ _ _ (by decide) | apply Lend.there)) (by first | exact gm (d := 0) (by rw [ofBytes_length]; decide) | rfl | exact tab_get (by first | omega | (simp; omega)) | exact gm (d := 0) (by first | omega | (simp; omega))) | exact Kn.rd2 (by repeat (first | exact Lend.same _ _ | exact Lend.row _ _ _ _ _ _ (by decide) | apply Lend.there)) (by first | exact gm (d := 0) (by rw [ofBytes_length]; decide) | rfl | exact tab_get (by first | omega | (simp; omega)) | exact gm (d := 0) (by first | omega | (simp; omega)))) : p := h
theorem zq5 {p : Prop} (h : p := by first | exact ltb rfl | (simp; done) | (simp; omega) | omega | (simp [*]; omega)) : p := h
theorem zq6 {p : Prop} (h : p := by repeat (first | exact Lend.same _ _ | exact Lend.row _ _ _ _ _ _ (by decide) | apply Lend.there)) : p := h
theorem zq7 {p : Prop} (h : p := by repeat (first | exact List.Mem.head _ | refine List.Mem.tail _ ?_)) : p := h
theorem zq8 {p : Prop} (h : p := by first | (simp; done) | exact one_sing rfl | exact one_map (fun _ => rfl) | exact one_piece (one_map (fun _ => rfl)) | exact one_tab (fun _ => rfl) | exact one_tab (fun _ => by split <;> rfl)) : p := h
theorem zq9 {p : Prop} (h : p := by repeat (first | exact Lends.nil _ | apply Lends.cons | exact Lend.same _ _ | exact Lend.row _ _ _ _ _ _ (by decide) | apply Lend.there)) : p := h
theorem zq10 {p : Prop} (h : p := by repeat (first | exact Upd.here _ _ _ | apply Upd.there)) : p := h
theorem zq11 {p : Prop} (h : p := by first | rfl | (simp; done) | (simp; omega) | (simp [*]; done)) : p := h
theorem zq12 {p : Prop} (h : p := by repeat (first | exact trivial | refine ⟨by first | rfl | (simp; done), ?_⟩)) : p := h
theorem zq13 {p : Prop} (h : p := by first | rfl | (simp; done) | (simp; omega)) : p := h
theorem zq15 {p : Prop} (h : p := by repeat (first | exact Pull.here _ _ | apply Pull.there)) : p := h
theorem zq17 {p : Prop} (h : p := by first | (simp; done) | exact one_map (fun _ => rfl) | exact one_tab (fun _ => rfl) | exact one_tab (fun _ => by split <;> rfl)) : p := h
theorem zq18 {p : Prop} (h : p := by first | omega | decide | (simp; omega)) : p := h
theorem zq19 {p : Prop} (h : p := by first | (refine ⟨by first | rfl | (simp [*]; done) | (show some _ = some _; simp [*]; done), ?_⟩; repeat (first | exact trivial | refine ⟨rfl, ?_⟩))) : p := h
theorem zq20 {p : Prop} (h : p := by rintro _ _ _ ⟨_, h, _⟩; exact h) : p := h
theorem zq22 {p : Prop} (h : p := by first | exact Src.nil | exact Src.rd zq6 (by decide) | exact Src.cells zq7 (by simp)) : p := h
theorem zq25 {p : Prop} (h : p := by first | (simp; done) | omega | (simp; omega)) : p := h
theorem zq26 {p : Prop} (h : p := by first | rfl | (simp; done) | omega | (simp; omega)) : p := h

theorem f125_spec (ws : W4) (h4 : ws.length = 4) :
  Spec Tryz.prog 125 #[natV ws] [] []
   (fun v Γ' H' => True ∧ Γ' = [] ∧ H' = [Res.row v (natBytes ws).length 5 1 ((natBytes ws).map u8)]) := by
 refine Spec.of_args Tryz.func125 rfl Tryz.ntmps125 (by simp) fun w => ?_
 refine JC.seq (JC.region ?_)
 refine JO.box rfl _ rfl (by decide) fun b1 => ?_
 refine JO.v (Yv.assign rfl) (by decide) (JO.nil (JQ.then_normal (JC.seq (JC.region ?_))))
 refine JO.make (z := _) (bytes := _) 32 Tryz.underlying79 info_5 rfl rfl rfl (by first | decide | (simp; done) | (simp; omega) | omega | (simp [*]; omega)) (by unfold maxLen; omega) (by decide) fun v6 => ?_
 refine JO.v (Yv.assign rfl) (by decide) (JO.nil (JQ.then_normal (JC.seq (JC.seq (JC.region (JO.v (Yv.move rfl) (by decide) ?_))))))
 first | refine JO.v (Yv.len_s Tryz.underlying79 rfl) (by decide) ?_ | refine JO.v (Yv.lenRd Tryz.underlying79 rfl zq6) (by decide) ?_
 refine JO.v (Yv.move rfl) (by decide) (JO.nil (JQ.then_normal (JC.block ?_)))
 refine JC.loop (ι := Nat × List Value) (fun x => x.1 ≤ 32 ∧ x.2 = tab 32 (fun j => if 32 - x.1 ≤ j then u8 (byteOf ws (31 - j)) else u8 0)) (fun x => [(3, v6), (9, it (x.1 : Int)), (8, it 32), (1, ptr b1 0)]) (fun x => []) (fun x => [Res.row v6 32 5 1 x.2, Res.cells b1 (ws.map u64) 40]) (fun x => 32 - x.1) (0, _) zq12 (Subs.sub zq3) (Picks.perm zq1) ?_ (fun x hx => ?_)
 ·exact ⟨by decide, by rfl⟩
 obtain ⟨k, xs⟩ := x
 obtain ⟨hk, hxs⟩ := hx
 dsimp only at hk hxs ⊢
 refine JC.seq (JC.region (JO.v (Yv.bin rfl rfl BinR.lss_i) (by decide) (JO.nil (JQ.then_normal (JC.seq (JC.cond rfl (fun hc1 => ?_) (fun hc1 => ?_)))))))
 ·try simp only [decide_eq_true_eq, decide_eq_false_iff_not, Bool.not_eq_true', Bool.not_eq_false', ne_eq, Decidable.not_not, Bool.not_eq_true, Bool.and_eq_true, Bool.or_eq_true, BitVec.reduceToNat] at hc1
  refine JC.skip (JQ.then_normal (JC.seq (JC.block (JC.seq (JC.region (JO.v (Yv.move rfl) (by decide) ?_))))))
  refine JO.v (Yv.assign rfl) (by decide) (JO.nil (JQ.then_normal (JC.seq (JC.region (JO.v (Yv.move rfl) (by decide) ?_)))))
  first | refine JO.v (Yv.len_s Tryz.underlying79 rfl) (by decide) ?_ | refine JO.v (Yv.lenRd Tryz.underlying79 rfl zq6) (by decide) ?_
  refine JO.v (Yv.bin rfl rfl (BinR.sub_i (by first | (constructor <;> omega) | (constructor <;> simp <;> omega)))) (by decide) (JO.v (Yv.move rfl) (by decide) (JO.v (Yv.bin rfl rfl (BinR.sub_i (by first | (constructor <;> omega) | (constructor <;> simp <;> omega)))) (by decide) (JO.v (Yv.as (v' := it ((31 - k : Nat) : Int)) (Yv.assign rfl) (congrArg it (by omega))) (by decide) (JO.nil (JQ.then_normal (JC.region ?_))))))
  refine JO.v (Yv.move rfl) (by decide) (JO.v (Yv.move rfl) (by decide) (JO.v (Yv.move rfl) (by decide) (JO.v (Yv.as (v' := it ((k / 8 : Nat) : Int)) (Yv.bin rfl rfl (BinR.quo_i zq18 zq18 (by first | (constructor <;> omega) | (constructor <;> simp <;> omega)))) (congrArg it (by omega))) (by decide) ?_)))
  first | refine JO.v (Yv.indexArr1 Tryz.underlying40 sz_22 rfl rfl zq5) (by decide) ?_ | refine JO.v (Yv.indexArr1o Tryz.underlying40 sz_22 rfl rfl zq5) (by decide) ?_
  refine JO.v (Yv.load1 one_22 rfl zq2) (by decide) (JO.v (Yv.move rfl) (by decide) (JO.v (Yv.bin rfl rfl (BinR.rem_i zq18 zq18)) (by decide) (JO.v (Yv.as (v' := it ((8 * (k % 8) : Nat) : Int)) (Yv.bin rfl rfl (BinR.mul_i (by first | (constructor <;> omega) | (constructor <;> simp <;> omega)))) (congrArg it (by omega))) (by decide) (JO.v (Yv.bin rfl rfl (BinR.shr_u64_i zq18)) (by decide) (JO.v (Yv.conv_u64_u8 Tryz.underlying22 Tryz.underlying5 rfl) (by decide) ?_)))))
  first | refine JO.v (Yv.indexRow1 Tryz.underlying79 sz_5 rfl rfl zq7 zq5) (by decide) ?_ | refine JO.v (Yv.indexRd1 Tryz.underlying79 sz_5 rfl rfl zq6 zq5) (by decide) ?_
  first | refine JO.store1 sz_5 rfl rfl rfl zq10 zq5 ?_ | refine JO.storeRow1 sz_5 rfl rfl rfl zq10 zq5 (by rw [hxs, tab_len]) ?_
  refine JO.nil ?_
  refine JQ.block_normal ?_
  refine JQ.then_normal (JC.region (JO.v (Yv.bin rfl rfl (BinR.add_i (by first | (constructor <;> omega) | (constructor <;> simp <;> omega)))) (by decide) (JO.v (Yv.move rfl) (by decide) (JO.nil ?_))))
  refine JQ.head (k + 1, _) zq12 (Subs.sub zq3) (Picks.perm zq1) ?_
  refine ⟨⟨by dsimp only; omega, ?_⟩, by dsimp only; omega⟩
  dsimp only
  rw [hxs, tab_set]
  refine tab_congr fun j hj => ?_
  by_cases h1 : j = 31 - k
  ·subst h1; rw [if_pos rfl, if_pos (by omega), show 31 - (31 - k) = k by omega]; rfl
  ·rw [if_neg h1]
   by_cases h2 : 32 - k ≤ j
   ·rw [if_pos h2, if_pos (by omega)]
   ·rw [if_neg h2, if_neg (by omega)]
 ·try simp only [decide_eq_true_eq, decide_eq_false_iff_not, Bool.not_eq_true', Bool.not_eq_false', ne_eq, Decidable.not_not, Bool.not_eq_true, Bool.and_eq_true, Bool.or_eq_true, BitVec.reduceToNat] at hc1
  refine JC.exit ?_
  refine JQ.then_exit ?_
  refine JQ.then_exit ?_
  refine JQ.block_exit ?_
  refine JQ.then_normal (JC.seq (JC.region (JO.v (Yv.move rfl) (by decide) (JO.v (Yv.assign rfl) (by decide) (JO.nil (JQ.then_normal ?_))))))
  refine JC.ret ?_
  refine JQ.done (.inr rfl) (Γ' := []) (H' := [Res.row v6 32 5 1 xs]) (res1 rfl (RV.tmp rfl)) (Subs.sub zq3) (Picks.perm zq1) ⟨trivial, rfl, ?_⟩
  rw [hxs, natBytes_length, natBytes_map]
  rw [show tab 32 (fun j => if 32 - k ≤ j then u8 (byteOf ws (31 - j)) else u8 0) = tab 32 (fun j => u8 (byteOf ws (31 - j))) from tab_congr fun j hj => if_pos (by omega)]


theorem f150_spec (v : Value) (b : B8) (hb : b.length ≤ 32) :
  Spec Tryz.prog 150 #[v] [Res.rd v b.length 1 (b.map u8)] []
   (fun r Γ' H' => r = .tuple #[natV (ofBytes b), it 0] ∧ Γ' = [] ∧ H' = []) := by
 refine Spec.of_args Tryz.func150 rfl Tryz.ntmps150 (by simp) fun w => ?_
 refine JC.seq (JC.region ?_)
 refine JO.alloc _ zero_40 rfl (by decide) fun b2 => ?_
 refine JO.v (Yv.assign rfl) (by decide) (JO.nil (JQ.then_normal (JC.seq (JC.region ?_))))
 refine JO.alloc _ zero_40 rfl (by decide) fun b4 => ?_
 refine JO.nil (JQ.then_normal (JC.seq (JC.seq (JC.region (JO.v (Yv.move rfl) (by decide) ?_)))))
 first | refine JO.v (Yv.len_s Tryz.underlying79 rfl) (by decide) ?_ | refine JO.v (Yv.lenRd Tryz.underlying79 rfl zq6) (by decide) ?_
 refine JO.v (Yv.bin rfl rfl BinR.gtr_i) (by decide) (JO.nil (JQ.then_normal (JC.cond rfl (fun hc1 => ?_) (fun hc1 => ?_))))
 ·try simp only [decide_eq_true_eq, decide_eq_false_iff_not, Bool.not_eq_true', Bool.not_eq_false', ne_eq, Decidable.not_not, Bool.not_eq_true, Bool.and_eq_true, Bool.or_eq_true, BitVec.reduceToNat] at hc1
  exfalso; omega
 ·try simp only [decide_eq_true_eq, decide_eq_false_iff_not, Bool.not_eq_true', Bool.not_eq_false', ne_eq, Decidable.not_not, Bool.not_eq_true, Bool.and_eq_true, Bool.or_eq_true, BitVec.reduceToNat] at hc1
  refine JC.skip (JQ.then_normal (JC.seq (JC.seq (JC.region (JO.v (Yv.move rfl) (by decide) ?_)))))
  first | refine JO.v (Yv.len_s Tryz.underlying79 rfl) (by decide) ?_ | refine JO.v (Yv.lenRd Tryz.underlying79 rfl zq6) (by decide) ?_
  refine JO.v (Yv.move rfl) (by decide) (JO.nil (JQ.then_normal (JC.block ?_)))
  refine JC.loop (ι := Nat × W4) (fun x => x.1 ≤ b.length ∧ x.2 = ofUpto b x.1) (fun x => [(0, v), (2, ptr b2 0), (4, ptr b4 0), (12, v), (13, it (b.length : Int)), (14, it (x.1 : Int))]) (fun x => [Res.rd v b.length 1 (b.map u8)]) (fun x => [Res.cells b4 (x.2.map u64) 40, Res.cells b2 [u64 0, u64 0, u64 0, u64 0] 40]) (fun x => b.length - x.1) (0, [0, 0, 0, 0]) zq12 (Subs.sub zq3) (Picks.perm zq1) ?_ (fun x hx => ?_)
  ·exact ⟨Nat.zero_le _, rfl⟩
  obtain ⟨k, ws⟩ := x
  obtain ⟨hk, hws⟩ := hx
  dsimp only at hk hws ⊢
  have hl : ws.length = 4 := by rw [hws, ofUpto_length]
  refine JC.seq (JC.region (JO.v (Yv.bin rfl rfl BinR.lss_i) (by decide) (JO.nil (JQ.then_normal (JC.seq (JC.cond rfl (fun hc2 => ?_) (fun hc2 => ?_)))))))
  ·try simp only [decide_eq_true_eq, decide_eq_false_iff_not, Bool.not_eq_true', Bool.not_eq_false', ne_eq, Decidable.not_not, Bool.not_eq_true, Bool.and_eq_true, Bool.or_eq_true, BitVec.reduceToNat] at hc2
   refine JC.skip (JQ.then_normal (JC.seq (JC.block (JC.seq (JC.region (JO.v (Yv.move rfl) (by decide) ?_))))))
   first | refine JO.v (Yv.indexRow1 Tryz.underlying79 sz_5 rfl rfl zq7 zq5) (by decide) ?_ | refine JO.v (Yv.indexRd1 Tryz.underlying79 sz_5 rfl rfl zq6 zq5) (by decide) ?_
   refine JO.v (Yv.load1 one_5 rfl zq2) (by decide) (JO.v (Yv.assign rfl) (by decide) (JO.v (Yv.assign rfl) (by decide) (JO.nil (JQ.then_normal (JC.seq (JC.region ?_))))))
   refine JO.v (Yv.move rfl) (by decide) ?_
   first | refine JO.v (Yv.len_s Tryz.underlying79 rfl) (by decide) ?_ | refine JO.v (Yv.lenRd Tryz.underlying79 rfl zq6) (by decide) ?_
   refine JO.v (Yv.bin rfl rfl (BinR.sub_i (by first | (constructor <;> omega) | (constructor <;> simp <;> omega)))) (by decide) (JO.v (Yv.move rfl) (by decide) (JO.v (Yv.as (v' := it ((b.length - 1 - k : Nat) : Int)) (Yv.bin rfl rfl (BinR.sub_i (by first | (constructor <;> omega) | (constructor <;> simp <;> omega)))) (congrArg it (by omega))) (by decide) (JO.v (Yv.assign rfl) (by decide) (JO.nil (JQ.then_normal ?_)))))
   refine JC.draw (.one 0 (.one 1 (.one 2 (.one 3 (.one 4 (.one 5 (.one 6 (.one 7 (.one 8 (.one 9 (.one 10 (.one 11 (.one 12 .nil))))))))))))) (fun i => ([12] : List Nat).contains i) (fun i => ([12] : List Nat).contains i) (fun i => ([0, 1, 2, 4, 5, 6, 7, 8, 9, 10, 11] : List Nat).contains i) mixed (by kernel_rfl) (by decide) (by kernel_rfl) ?_
   refine JR.u rfl rfl rfl (Yv.move rfl) (by decide) ?_
   refine JR.u rfl rfl rfl (Yv.as (v' := it (((b.length - 1 - k) / 8 : Nat) : Int)) (Yv.bin rfl rfl (BinR.quo_i zq18 zq18 (by first | (constructor <;> omega) | (constructor <;> simp <;> omega)))) (congrArg it (by omega))) (by decide) ?_
   first | refine JR.u rfl rfl rfl (Yv.indexArr1 Tryz.underlying40 sz_22 rfl rfl zq5) (by decide) ?_ | refine JR.u rfl rfl rfl (Yv.indexArr1o Tryz.underlying40 sz_22 rfl rfl zq5) (by decide) ?_
   refine JR.v rfl rfl rfl (Yv.load1 one_22 rfl zq2) (by decide) ?_
   refine JR.u rfl rfl rfl (Yv.move rfl) (by decide) ?_
   refine JR.u rfl rfl rfl (Yv.conv_u8_u64 Tryz.underlying5 Tryz.underlying22 rfl) (by decide) ?_
   refine JR.u rfl rfl rfl (Yv.move rfl) (by decide) ?_
   refine JR.u rfl rfl rfl (Yv.bin rfl rfl (BinR.rem_i zq18 zq18)) (by decide) ?_
   refine JR.u rfl rfl rfl (Yv.as (v' := it ((8 * ((b.length - 1 - k) % 8) : Nat) : Int)) (Yv.bin rfl rfl (BinR.mul_i (by first | (constructor <;> omega) | (constructor <;> simp <;> omega)))) (congrArg it (by omega))) (by decide) ?_
   refine JR.u rfl rfl rfl (Yv.bin rfl rfl (BinR.shl_u64_i zq18)) (by decide) ?_
   refine JR.u rfl rfl rfl (Yv.bin rfl rfl (BinR.or_u64)) (by decide) ?_
   first | refine JR.u rfl rfl rfl (Yv.indexArr1 Tryz.underlying40 sz_22 rfl rfl zq5) (by decide) ?_ | refine JR.u rfl rfl rfl (Yv.indexArr1o Tryz.underlying40 sz_22 rfl rfl zq5) (by decide) ?_
   first | refine JR.m0 rfl rfl (Mv.store1 sz_22 rfl rfl rfl zq10 zq5) ?_ | refine JR.m0 rfl rfl (Mv.storeRow1 sz_22 rfl rfl rfl zq10 zq5 zq26) ?_
   rintro _ _ _ ⟨rfl, rfl⟩
   refine ⟨⟨Subs.sub zq3, .inl rfl⟩, ?_⟩
   refine JR.nil ?_
   refine JQ.block_normal ?_
   refine JQ.then_normal (JC.region (JO.v (Yv.bin rfl rfl (BinR.add_i (by first | (constructor <;> omega) | (constructor <;> simp <;> omega)))) (by decide) (JO.v (Yv.move rfl) (by decide) (JO.nil ?_))))
   rw [← List.map_set]
   refine JQ.head (k + 1, putByte ws (b.length - 1 - k) (b.getD k 0)) zq12 (Subs.sub zq3) (Picks.perm zq1) ?_
   exact ⟨⟨by dsimp only; omega, by dsimp only; rw [ofUpto_succ, ← hws]⟩, by dsimp only; omega⟩
  ·try simp only [decide_eq_true_eq, decide_eq_false_iff_not, Bool.not_eq_true', Bool.not_eq_false', ne_eq, Decidable.not_not, Bool.not_eq_true, Bool.and_eq_true, Bool.or_eq_true, BitVec.reduceToNat] at hc2
   obtain rfl : k = b.length := by omega
   subst hws
   refine JC.exit ?_
   refine JQ.then_exit ?_
   refine JQ.then_exit ?_
   refine JQ.block_exit ?_
   refine JQ.then_normal (JC.seq (JC.region ?_))
   first | refine JO.v (Yv.loadOwn agg_40 zq7 rfl zq11) (by decide) ?_ | refine JO.v (Yv.loadOwnAt agg_40 zq7 rfl zq11) (by decide) ?_ | refine JO.v (Yv.loadRow agg_40 zq7 rfl zq11) (by decide) ?_ | refine JO.v (Yv.loadRd agg_40 zq6 rfl zq11) (by decide) ?_ | refine JO.v (Yv.loadRo agg_40 zq7 rfl zq11) (by decide) ?_
   first | refine JO.storeAll sz_40 rfl rfl rfl zq13 zq17 zq10 zq13 ?_ | refine JO.store sz_40 rfl rfl rfl zq13 zq8 zq10 zq5 ?_ | refine JO.storeRow sz_40 rfl rfl rfl (by first | rfl | simp) zq17 zq10 zq5 zq5 ?_
   refine JO.v (Yv.assign rfl) (by decide) (JO.nil (JQ.then_normal ?_))
   refine JC.ret ?_
   exact JQ.done (.inr rfl) (Γ' := []) (H' := []) (res2 rfl (RV.cell agg_40 zq7 rfl zq13) (RV.tmp rfl)) (Subs.sub zq3) (Picks.perm zq1) ⟨rfl, rfl, rfl⟩


theorem f49_spec (u v : Value) (a b : B8) :
  Spec Tryz.prog 49 #[u, v] [Res.rd u a.length 1 (a.map u8), Res.rd v b.length 1 (b.map u8)] []
   (fun r Γ' H' => r = .bool (decide (a = b)) ∧ Γ' = [] ∧ H' = []) := by
 refine Spec.of_args Tryz.func49 rfl Tryz.ntmps49 (by simp) fun w => ?_
 refine JC.know (φ := a.length ≤ 9223372036854775807 ∧ b.length ≤ 9223372036854775807) ?_ ?_
 ·intro w hs; have h1 := hs.rdForm (.head _); have h2 := hs.rdForm (.tail _ (.head _)); obtain ⟨_, _, _, _, _, _, h1⟩ := h1; obtain ⟨_, _, _, _, _, _, h2⟩ := h2; unfold maxLen at h1 h2; omega
 rintro ⟨ha, hb⟩
 refine JC.seq (JC.region (JO.v (Yv.assign rfl) (by decide) (JO.nil (JQ.then_normal (JC.seq (JC.seq ?_))))))
 refine JC.region (JO.v (Yv.move rfl) (by decide) ?_)
 first | refine JO.v (Yv.len_s Tryz.underlying79 rfl) (by decide) ?_ | refine JO.v (Yv.lenRd Tryz.underlying79 rfl zq6) (by decide) ?_
 refine JO.v (Yv.move rfl) (by decide) ?_
 first | refine JO.v (Yv.len_s Tryz.underlying79 rfl) (by decide) ?_ | refine JO.v (Yv.lenRd Tryz.underlying79 rfl zq6) (by decide) ?_
 refine JO.v (Yv.bin rfl rfl BinR.neq_i) (by decide) (JO.nil (JQ.then_normal (JC.cond rfl (fun hc1 => ?_) (fun hc1 => ?_))))
 ·try simp only [decide_eq_true_eq, decide_eq_false_iff_not, Bool.not_eq_true', Bool.not_eq_false', ne_eq, Decidable.not_not, Bool.not_eq_true, Bool.and_eq_true, Bool.or_eq_true, BitVec.reduceToNat] at hc1
  have hne : a ≠ b := by rintro rfl; omega
  refine JC.seq (JC.region (JO.v (Yv.assign rfl) (by decide) (JO.nil (JQ.then_normal ?_))))
  refine JC.ret ?_
  refine JQ.then_ret ?_
  exact JQ.done (.inr rfl) (Γ' := []) (H' := []) (res1 rfl (RV.tmp rfl)) (Subs.sub zq3) (Picks.perm zq1) ⟨by rw [decide_eq_false hne], rfl, rfl⟩
 ·try simp only [decide_eq_true_eq, decide_eq_false_iff_not, Bool.not_eq_true', Bool.not_eq_false', ne_eq, Decidable.not_not, Bool.not_eq_true, Bool.and_eq_true, Bool.or_eq_true, BitVec.reduceToNat] at hc1
  refine JC.skip (JQ.then_normal (JC.seq (JC.seq (JC.region (JO.v (Yv.assign rfl) (by decide) (JO.nil ?_))))))
  refine JQ.then_normal (JC.block ?_)
  refine JC.loop (ι := Nat) (fun x => x ≤ a.length ∧ ∀ j, j < x → a.getD j 0 = b.getD j 0) (fun x => [(0, u), (1, v), (5, it (x : Int))]) (fun x => [Res.rd u a.length 1 (a.map u8), Res.rd v b.length 1 (b.map u8)]) (fun x => []) (fun x => a.length - x) 0 zq12 (Subs.sub zq3) (Picks.perm zq1) ?_ (fun x hx => ?_)
  ·exact ⟨Nat.zero_le _, fun j hj => absurd hj (by omega)⟩
  obtain ⟨hk, hall⟩ := hx
  refine JC.seq (JC.seq (JC.region (JO.v (Yv.move rfl) (by decide) (JO.v (Yv.move rfl) (by decide) ?_))))
  first | refine JO.v (Yv.len_s Tryz.underlying79 rfl) (by decide) ?_ | refine JO.v (Yv.lenRd Tryz.underlying79 rfl zq6) (by decide) ?_
  refine JO.v (Yv.bin rfl rfl BinR.lss_i) (by decide) (JO.nil (JQ.then_normal (JC.cond rfl (fun hc2 => ?_) (fun hc2 => ?_))))
  ·try simp only [decide_eq_true_eq, decide_eq_false_iff_not, Bool.not_eq_true', Bool.not_eq_false', ne_eq, Decidable.not_not, Bool.not_eq_true, Bool.and_eq_true, Bool.or_eq_true, BitVec.reduceToNat] at hc2
   refine JC.skip (JQ.then_normal (JC.seq (JC.block (JC.seq ?_))))
   refine JC.draw (.one 0 (.one 1 (.one 2 (.one 3 (.one 4 (.one 5 (.one 6 (.one 7 (.one 8 .nil))))))))) (fun i => ([] : List Nat).contains i) (fun i => ([] : List Nat).contains i) (fun i => ([0, 1, 2, 4, 5, 6, 8] : List Nat).contains i) mixed (by kernel_rfl) (by decide) (by kernel_rfl) ?_
   refine JR.u rfl rfl rfl (Yv.move rfl) (by decide) ?_
   refine JR.u rfl rfl rfl (Yv.move rfl) (by decide) ?_
   first | refine JR.u rfl rfl rfl (Yv.indexRow1 Tryz.underlying79 sz_5 rfl rfl zq7 zq5) (by decide) ?_ | refine JR.u rfl rfl rfl (Yv.indexRd1 Tryz.underlying79 sz_5 rfl rfl zq6 zq5) (by decide) ?_
   refine JR.v rfl rfl rfl (Yv.load1 one_5 rfl zq2) (by decide) ?_
   refine JR.u rfl rfl rfl (Yv.move rfl) (by decide) ?_
   refine JR.u rfl rfl rfl (Yv.move rfl) (by decide) ?_
   first | refine JR.u rfl rfl rfl (Yv.indexRow1 Tryz.underlying79 sz_5 rfl rfl zq7 zq5) (by decide) ?_ | refine JR.u rfl rfl rfl (Yv.indexRd1 Tryz.underlying79 sz_5 rfl rfl zq6 zq5) (by decide) ?_
   refine JR.v rfl rfl rfl (Yv.load1 one_5 rfl zq2) (by decide) ?_
   refine JR.u rfl rfl rfl (Yv.bin rfl rfl (BinR.neq_u8)) (by decide) ?_
   refine JR.nil ?_
   refine JQ.then_normal (JC.cond rfl (fun hc3 => ?_) (fun hc3 => ?_))
   ·try simp only [decide_eq_true_eq, decide_eq_false_iff_not, Bool.not_eq_true', Bool.not_eq_false', ne_eq, Decidable.not_not, Bool.not_eq_true, Bool.and_eq_true, Bool.or_eq_true, BitVec.reduceToNat] at hc3
    have hne : a ≠ b := by rintro rfl; exact hc3 rfl
    refine JC.seq (JC.region (JO.v (Yv.assign rfl) (by decide) (JO.nil (JQ.then_normal ?_))))
    refine JC.ret ?_
    refine JQ.block_ret ?_
    refine JQ.then_ret ?_
    refine JQ.then_ret ?_
    refine JQ.block_ret ?_
    refine JQ.then_ret ?_
    exact JQ.done (.inr rfl) (Γ' := []) (H' := []) (res1 rfl (RV.tmp rfl)) (Subs.sub zq3) (Picks.perm zq1) ⟨by rw [decide_eq_false hne], rfl, rfl⟩
   ·try simp only [decide_eq_true_eq, decide_eq_false_iff_not, Bool.not_eq_true', Bool.not_eq_false', ne_eq, Decidable.not_not, Bool.not_eq_true, Bool.and_eq_true, Bool.or_eq_true, BitVec.reduceToNat] at hc3
    refine JC.skip ?_
    refine JQ.block_normal ?_
    refine JQ.then_normal (JC.region (JO.v (Yv.move rfl) (by decide) (JO.v (Yv.bin rfl rfl (BinR.add_i (by first | (constructor <;> omega) | (constructor <;> simp <;> omega)))) (by decide) (JO.v (Yv.assign rfl) (by decide) (JO.nil ?_)))))
    refine JQ.head (x + 1) zq12 (Subs.sub zq3) (Picks.perm zq1) ?_
    exact ⟨⟨by omega, fun j hj => if h : j < x then hall j h else (show j = x by omega) ▸ hc3⟩, by omega⟩
  ·try simp only [decide_eq_true_eq, decide_eq_false_iff_not, Bool.not_eq_true', Bool.not_eq_false', ne_eq, Decidable.not_not, Bool.not_eq_true, Bool.and_eq_true, Bool.or_eq_true, BitVec.reduceToNat] at hc2
   have heq : a = b := eq_of_getD (d := 0) (by omega) (fun j hj => hall j (by omega))
   refine JC.exit ?_
   refine JQ.then_exit ?_
   refine JQ.then_exit ?_
   refine JQ.block_exit ?_
   refine JQ.then_normal (JC.seq (JC.region (JO.v (Yv.assign rfl) (by decide) (JO.nil (JQ.then_normal ?_)))))
   refine JC.ret ?_
   exact JQ.done (.inr rfl) (Γ' := []) (H' := []) (res1 rfl (RV.tmp rfl)) (Subs.sub zq3) (Picks.perm zq1) ⟨by rw [decide_eq_true heq], rfl, rfl⟩


theorem f148_spec (v : Value) (n : Nat) (xs : List Value) (hn : n ≤ 70368744177664) (h1 : ∀ a ∈ xs, a.oneCell' = true) :
  Spec Tryz.prog 148 #[v] [Res.rd v n 1 xs] []
   (fun r Γ' H' => True ∧ Γ' = [] ∧ H' = [Res.row r n 5 1 xs]) := by
 refine Spec.know (φ := ∃ A c, v = .slice A n c ∧ (A = none → xs = []) ∧ xs.length = n * 1 ∧ n ≤ c ∧ n ≤ maxLen) (fun w hs => hs.rdForm (.head _)) ?_
 rintro ⟨A, c, rfl, hA, hl, hc, hm⟩
 refine Spec.of_args Tryz.func148 rfl Tryz.ntmps148 (by simp) fun w => ?_
 refine JC.seq (JC.region (JO.v (Yv.assign rfl) (by decide) (JO.nil (JQ.then_normal (JC.seq (JC.seq ?_))))))
 refine JC.region (JO.v (Yv.move rfl) (by decide) (JO.v (Yv.bin rfl rfl (BinR.eql_s Tryz.underlying79)) (by decide) (JO.nil (JQ.then_normal (JC.cond rfl (fun hc1 => ?_) (fun hc1 => ?_))))))
 ·try simp only [decide_eq_true_eq, decide_eq_false_iff_not, Bool.not_eq_true', Bool.not_eq_false', ne_eq, Decidable.not_not, Bool.not_eq_true, Bool.and_eq_true, Bool.or_eq_true, BitVec.reduceToNat] at hc1
  have hA0 : A = none := by cases A <;> simp_all
  have hx := hA hA0
  have hn0 : n = 0 := by rw [hx] at hl; simpa using hl.symm
  subst hx hn0
  refine JC.seq (JC.region ?_)
  refine JO.nilRow 5 1 ?_
  refine JO.v (Yv.assign rfl) (by decide) (JO.nil (JQ.then_normal ?_))
  refine JC.ret ?_
  refine JQ.then_ret ?_
  exact JQ.done (.inr rfl) (Γ' := []) (H' := [Res.row (.slice none 0 0) 0 5 1 []]) (res1 rfl (RV.tmp rfl)) (Subs.sub zq3) (Picks.perm zq1) ⟨trivial, rfl, rfl⟩
 ·try simp only [decide_eq_true_eq, decide_eq_false_iff_not, Bool.not_eq_true', Bool.not_eq_false', ne_eq, Decidable.not_not, Bool.not_eq_true, Bool.and_eq_true, Bool.or_eq_true, BitVec.reduceToNat] at hc1
  refine JC.skip (JQ.then_normal (JC.seq (JC.region ?_)))
  refine JO.buildEmpty Tryz.underlying79 sz_5 (by decide) fun v5 => ?_
  refine JO.v (Yv.move rfl) (by decide) ?_
  refine JO.append Tryz.underlying79 info_5 rfl (by decide) rfl rfl zq15 zq22 h1 (by unfold maxLen; omega) (by omega) (by decide) fun v7 => ?_
  refine JO.v (Yv.assign rfl) (by decide) (JO.nil (JQ.then_normal ?_))
  refine JC.ret ?_
  exact JQ.done (.inr rfl) (Γ' := []) (H' := [Res.row _ (0 + n) 5 1 ([] ++ xs)]) (res1 rfl (RV.tmp rfl)) (Subs.sub zq3) (Picks.perm zq1) ⟨trivial, rfl, by rw [Nat.zero_add, List.nil_append]⟩


theorem f147_spec (x : BitVec 64) :
  Spec Tryz.prog 147 #[u64 x] [] []
   (fun r Γ' H' => r = it (len64 x : Int) ∧ Γ' = [] ∧ H' = []) := by
 refine Spec.of_args Tryz.func147 rfl Tryz.ntmps147 (by simp) fun w => ?_
 refine JC.seq (JC.region (JO.v (Yv.assign rfl) (by decide) (JO.nil (JQ.then_normal (JC.seq (JC.seq ?_))))))
 refine JC.region (JO.v (Yv.move rfl) (by decide) (JO.v (Yv.bin rfl rfl (BinR.geq_u64 (b := 4294967296#64))) (by decide) (JO.nil (JQ.then_normal (JC.cond rfl (fun hc1 => ?_) (fun hc1 => ?_))))))
 ·try simp only [decide_eq_true_eq, decide_eq_false_iff_not, Bool.not_eq_true', Bool.not_eq_false', ne_eq, Decidable.not_not, Bool.not_eq_true, Bool.and_eq_true, Bool.or_eq_true, BitVec.reduceToNat] at hc1
  have e1 := len64_s32 hc1
  refine JC.seq (JC.region (JO.v (Yv.move rfl) (by decide) (JO.v (Yv.as (v' := u64 (x >>> 32)) (Yv.bin rfl rfl (BinR.shr_u64_u64 (n := 32#64))) rfl) (by decide) (JO.v (Yv.assign rfl) (by decide) (JO.nil (JQ.then_normal ?_))))))
  refine JC.region (JO.v (Yv.assign rfl) (by decide) (JO.nil (JQ.then_normal (JC.seq (JC.seq (JC.region ?_))))))
  refine JO.v (Yv.move rfl) (by decide) (JO.v (Yv.bin rfl rfl (BinR.geq_u64 (b := 65536#64))) (by decide) (JO.nil (JQ.then_normal (JC.cond rfl (fun hc2 => ?_) (fun hc2 => ?_)))))
  ·try simp only [decide_eq_true_eq, decide_eq_false_iff_not, Bool.not_eq_true', Bool.not_eq_false', ne_eq, Decidable.not_not, Bool.not_eq_true, Bool.and_eq_true, Bool.or_eq_true, BitVec.reduceToNat] at hc2
   have e2 := len64_s16 hc2
   refine JC.seq (JC.region (JO.v (Yv.move rfl) (by decide) (JO.v (Yv.as (v' := u64 ((_ : BitVec 64) >>> (16 : Nat))) (Yv.bin rfl rfl (BinR.shr_u64_u64 (n := 16#64))) rfl) (by decide) (JO.v (Yv.assign rfl) (by decide) (JO.nil (JQ.then_normal ?_))))))
   refine JC.region (JO.v (Yv.move rfl) (by decide) (JO.v (Yv.bin rfl rfl (BinR.add_i (by first | (constructor <;> omega) | (constructor <;> simp <;> omega)))) (by decide) (JO.v (Yv.assign rfl) (by decide) (JO.nil (JQ.then_normal (JC.seq ?_))))))
   refine JC.seq (JC.region (JO.v (Yv.move rfl) (by decide) (JO.v (Yv.bin rfl rfl (BinR.geq_u64 (b := 256#64))) (by decide) (JO.nil (JQ.then_normal (JC.cond rfl (fun hc3 => ?_) (fun hc3 => ?_)))))))
   ·try simp only [decide_eq_true_eq, decide_eq_false_iff_not, Bool.not_eq_true', Bool.not_eq_false', ne_eq, Decidable.not_not, Bool.not_eq_true, Bool.and_eq_true, Bool.or_eq_true, BitVec.reduceToNat] at hc3
    have e3 := len64_s8 hc3
    refine JC.seq (JC.region (JO.v (Yv.move rfl) (by decide) (JO.v (Yv.as (v' := u64 ((_ : BitVec 64) >>> (8 : Nat))) (Yv.bin rfl rfl (BinR.shr_u64_u64 (n := 8#64))) rfl) (by decide) (JO.v (Yv.assign rfl) (by decide) (JO.nil (JQ.then_normal ?_))))))
    refine JC.region (JO.v (Yv.move rfl) (by decide) (JO.v (Yv.bin rfl rfl (BinR.add_i (by first | (constructor <;> omega) | (constructor <;> simp <;> omega)))) (by decide) (JO.v (Yv.assign rfl) (by decide) (JO.nil (JQ.then_normal (JC.seq ?_))))))
    refine JC.region (JO.v (Yv.move rfl) (by decide) (JO.v (Yv.move rfl) (by decide) (JO.v (Yv.conv_u64_u8 Tryz.underlying22 Tryz.underlying5 rfl) (by decide) (JO.v (Yv.as (v' := u8 (BitVec.ofNat 8 (bitlen _))) (Yv.indexStr Tryz.underlying9 rfl rfl (by exact (BitVec.isLt _))) (congrArg u8 (lenTab_get _ _))) (by decide) (JO.v (Yv.conv_u8_i Tryz.underlying5 Tryz.underlying3 rfl) (by decide) (JO.v (Yv.bin rfl rfl (BinR.add_i (fits8 _ (by omega)))) (by decide) ?_))))))
    refine JO.v (Yv.assign rfl) (by decide) (JO.nil (JQ.then_normal ?_))
    refine JC.ret ?_
    have hx := x.isLt
    have s32 := shr32 (x)
    have s16 := shr16 (x >>> 32)
    have s8 := shr8 (x >>> 32 >>> 16)
    have e4 := len8v (x >>> 32 >>> 16 >>> 8) (by omega)
    have e5 := len64_le x
    exact JQ.done (.inr rfl) (Γ' := []) (H' := []) (res1 rfl (RV.tmp rfl)) (Subs.sub zq3) (Picks.perm zq1) ⟨congrArg it (by omega), rfl, rfl⟩
   ·try simp only [decide_eq_true_eq, decide_eq_false_iff_not, Bool.not_eq_true', Bool.not_eq_false', ne_eq, Decidable.not_not, Bool.not_eq_true, Bool.and_eq_true, Bool.or_eq_true, BitVec.reduceToNat] at hc3
    refine JC.skip (JQ.then_normal (JC.seq (JC.region (JO.v (Yv.move rfl) (by decide) (JO.v (Yv.move rfl) (by decide) (JO.v (Yv.conv_u64_u8 Tryz.underlying22 Tryz.underlying5 rfl) (by decide) ?_))))))
    refine JO.v (Yv.as (v' := u8 (BitVec.ofNat 8 (bitlen _))) (Yv.indexStr Tryz.underlying9 rfl rfl (by exact (BitVec.isLt _))) (congrArg u8 (lenTab_get _ _))) (by decide) (JO.v (Yv.conv_u8_i Tryz.underlying5 Tryz.underlying3 rfl) (by decide) (JO.v (Yv.bin rfl rfl (BinR.add_i (fits8 _ (by omega)))) (by decide) (JO.v (Yv.assign rfl) (by decide) (JO.nil (JQ.then_normal ?_)))))
    refine JC.ret ?_
    have hx := x.isLt
    have s32 := shr32 (x)
    have s16 := shr16 (x >>> 32)
    have e4 := len8v (x >>> 32 >>> 16) (by omega)
    have e5 := len64_le x
    exact JQ.done (.inr rfl) (Γ' := []) (H' := []) (res1 rfl (RV.tmp rfl)) (Subs.sub zq3) (Picks.perm zq1) ⟨congrArg it (by omega), rfl, rfl⟩
  ·try simp only [decide_eq_true_eq, decide_eq_false_iff_not, Bool.not_eq_true', Bool.not_eq_false', ne_eq, Decidable.not_not, Bool.not_eq_true, Bool.and_eq_true, Bool.or_eq_true, BitVec.reduceToNat] at hc2
   refine JC.skip (JQ.then_normal (JC.seq (JC.seq (JC.region (JO.v (Yv.move rfl) (by decide) (JO.v (Yv.bin rfl rfl (BinR.geq_u64 (b := 256#64))) (by decide) ?_))))))
   refine JO.nil (JQ.then_normal (JC.cond rfl (fun hc3 => ?_) (fun hc3 => ?_)))
   ·try simp only [decide_eq_true_eq, decide_eq_false_iff_not, Bool.not_eq_true', Bool.not_eq_false', ne_eq, Decidable.not_not, Bool.not_eq_true, Bool.and_eq_true, Bool.or_eq_true, BitVec.reduceToNat] at hc3
    have e3 := len64_s8 hc3
    refine JC.seq (JC.region (JO.v (Yv.move rfl) (by decide) (JO.v (Yv.as (v' := u64 ((_ : BitVec 64) >>> (8 : Nat))) (Yv.bin rfl rfl (BinR.shr_u64_u64 (n := 8#64))) rfl) (by decide) (JO.v (Yv.assign rfl) (by decide) (JO.nil (JQ.then_normal ?_))))))
    refine JC.region (JO.v (Yv.move rfl) (by decide) (JO.v (Yv.bin rfl rfl (BinR.add_i (by first | (constructor <;> omega) | (constructor <;> simp <;> omega)))) (by decide) (JO.v (Yv.assign rfl) (by decide) (JO.nil (JQ.then_normal (JC.seq ?_))))))
    refine JC.region (JO.v (Yv.move rfl) (by decide) (JO.v (Yv.move rfl) (by decide) (JO.v (Yv.conv_u64_u8 Tryz.underlying22 Tryz.underlying5 rfl) (by decide) (JO.v (Yv.as (v' := u8 (BitVec.ofNat 8 (bitlen _))) (Yv.indexStr Tryz.underlying9 rfl rfl (by exact (BitVec.isLt _))) (congrArg u8 (lenTab_get _ _))) (by decide) (JO.v (Yv.conv_u8_i Tryz.underlying5 Tryz.underlying3 rfl) (by decide) (JO.v (Yv.bin rfl rfl (BinR.add_i (fits8 _ (by omega)))) (by decide) ?_))))))
    refine JO.v (Yv.assign rfl) (by decide) (JO.nil (JQ.then_normal ?_))
    refine JC.ret ?_
    have hx := x.isLt
    have s32 := shr32 (x)
    have s8 := shr8 (x >>> 32)
    have e4 := len8v (x >>> 32 >>> 8) (by omega)
    have e5 := len64_le x
    exact JQ.done (.inr rfl) (Γ' := []) (H' := []) (res1 rfl (RV.tmp rfl)) (Subs.sub zq3) (Picks.perm zq1) ⟨congrArg it (by omega), rfl, rfl⟩
   ·try simp only [decide_eq_true_eq, decide_eq_false_iff_not, Bool.not_eq_true', Bool.not_eq_false', ne_eq, Decidable.not_not, Bool.not_eq_true, Bool.and_eq_true, Bool.or_eq_true, BitVec.reduceToNat] at hc3
    refine JC.skip (JQ.then_normal (JC.seq (JC.region (JO.v (Yv.move rfl) (by decide) (JO.v (Yv.move rfl) (by decide) (JO.v (Yv.conv_u64_u8 Tryz.underlying22 Tryz.underlying5 rfl) (by decide) ?_))))))
    refine JO.v (Yv.as (v' := u8 (BitVec.ofNat 8 (bitlen _))) (Yv.indexStr Tryz.underlying9 rfl rfl (by exact (BitVec.isLt _))) (congrArg u8 (lenTab_get _ _))) (by decide) (JO.v (Yv.conv_u8_i Tryz.underlying5 Tryz.underlying3 rfl) (by decide) (JO.v (Yv.bin rfl rfl (BinR.add_i (fits8 _ (by omega)))) (by decide) (JO.v (Yv.assign rfl) (by decide) (JO.nil (JQ.then_normal ?_)))))
    refine JC.ret ?_
    have hx := x.isLt
    have s32 := shr32 (x)
    have e4 := len8v (x >>> 32) (by omega)
    have e5 := len64_le x
    exact JQ.done (.inr rfl) (Γ' := []) (H' := []) (res1 rfl (RV.tmp rfl)) (Subs.sub zq3) (Picks.perm zq1) ⟨congrArg it (by omega), rfl, rfl⟩
 ·try simp only [decide_eq_true_eq, decide_eq_false_iff_not, Bool.not_eq_true', Bool.not_eq_false', ne_eq, Decidable.not_not, Bool.not_eq_true, Bool.and_eq_true, Bool.or_eq_true, BitVec.reduceToNat] at hc1
  refine JC.skip (JQ.then_normal (JC.seq (JC.seq (JC.region (JO.v (Yv.move rfl) (by decide) (JO.v (Yv.bin rfl rfl (BinR.geq_u64 (b := 65536#64))) (by decide) ?_))))))
  refine JO.nil (JQ.then_normal (JC.cond rfl (fun hc2 => ?_) (fun hc2 => ?_)))
  ·try simp only [decide_eq_true_eq, decide_eq_false_iff_not, Bool.not_eq_true', Bool.not_eq_false', ne_eq, Decidable.not_not, Bool.not_eq_true, Bool.and_eq_true, Bool.or_eq_true, BitVec.reduceToNat] at hc2
   have e2 := len64_s16 hc2
   refine JC.seq (JC.region (JO.v (Yv.move rfl) (by decide) (JO.v (Yv.as (v' := u64 ((_ : BitVec 64) >>> (16 : Nat))) (Yv.bin rfl rfl (BinR.shr_u64_u64 (n := 16#64))) rfl) (by decide) (JO.v (Yv.assign rfl) (by decide) (JO.nil (JQ.then_normal ?_))))))
   refine JC.region (JO.v (Yv.move rfl) (by decide) (JO.v (Yv.bin rfl rfl (BinR.add_i (by first | (constructor <;> omega) | (constructor <;> simp <;> omega)))) (by decide) (JO.v (Yv.assign rfl) (by decide) (JO.nil (JQ.then_normal (JC.seq ?_))))))
   refine JC.seq (JC.region (JO.v (Yv.move rfl) (by decide) (JO.v (Yv.bin rfl rfl (BinR.geq_u64 (b := 256#64))) (by decide) (JO.nil (JQ.then_normal (JC.cond rfl (fun hc3 => ?_) (fun hc3 => ?_)))))))
   ·try simp only [decide_eq_true_eq, decide_eq_false_iff_not, Bool.not_eq_true', Bool.not_eq_false', ne_eq, Decidable.not_not, Bool.not_eq_true, Bool.and_eq_true, Bool.or_eq_true, BitVec.reduceToNat] at hc3
    have e3 := len64_s8 hc3
    refine JC.seq (JC.region (JO.v (Yv.move rfl) (by decide) (JO.v (Yv.as (v' := u64 ((_ : BitVec 64) >>> (8 : Nat))) (Yv.bin rfl rfl (BinR.shr_u64_u64 (n := 8#64))) rfl) (by decide) (JO.v (Yv.assign rfl) (by decide) (JO.nil (JQ.then_normal ?_))))))
    refine JC.region (JO.v (Yv.move rfl) (by decide) (JO.v (Yv.bin rfl rfl (BinR.add_i (by first | (constructor <;> omega) | (constructor <;> simp <;> omega)))) (by decide) (JO.v (Yv.assign rfl) (by decide) (JO.nil (JQ.then_normal (JC.seq ?_))))))
    refine JC.region (JO.v (Yv.move rfl) (by decide) (JO.v (Yv.move rfl) (by decide) (JO.v (Yv.conv_u64_u8 Tryz.underlying22 Tryz.underlying5 rfl) (by decide) (JO.v (Yv.as (v' := u8 (BitVec.ofNat 8 (bitlen _))) (Yv.indexStr Tryz.underlying9 rfl rfl (by exact (BitVec.isLt _))) (congrArg u8 (lenTab_get _ _))) (by decide) (JO.v (Yv.conv_u8_i Tryz.underlying5 Tryz.underlying3 rfl) (by decide) (JO.v (Yv.bin rfl rfl (BinR.add_i (fits8 _ (by omega)))) (by decide) ?_))))))
    refine JO.v (Yv.assign rfl) (by decide) (JO.nil (JQ.then_normal ?_))
    refine JC.ret ?_
    have hx := x.isLt
    have s16 := shr16 (x)
    have s8 := shr8 (x >>> 16)
    have e4 := len8v (x >>> 16 >>> 8) (by omega)
    have e5 := len64_le x
    exact JQ.done (.inr rfl) (Γ' := []) (H' := []) (res1 rfl (RV.tmp rfl)) (Subs.sub zq3) (Picks.perm zq1) ⟨congrArg it (by omega), rfl, rfl⟩
   ·try simp only [decide_eq_true_eq, decide_eq_false_iff_not, Bool.not_eq_true', Bool.not_eq_false', ne_eq, Decidable.not_not, Bool.not_eq_true, Bool.and_eq_true, Bool.or_eq_true, BitVec.reduceToNat] at hc3
    refine JC.skip (JQ.then_normal (JC.seq (JC.region (JO.v (Yv.move rfl) (by decide) (JO.v (Yv.move rfl) (by decide) (JO.v (Yv.conv_u64_u8 Tryz.underlying22 Tryz.underlying5 rfl) (by decide) ?_))))))
    refine JO.v (Yv.as (v' := u8 (BitVec.ofNat 8 (bitlen _))) (Yv.indexStr Tryz.underlying9 rfl rfl (by exact (BitVec.isLt _))) (congrArg u8 (lenTab_get _ _))) (by decide) (JO.v (Yv.conv_u8_i Tryz.underlying5 Tryz.underlying3 rfl) (by decide) (JO.v (Yv.bin rfl rfl (BinR.add_i (fits8 _ (by omega)))) (by decide) (JO.v (Yv.assign rfl) (by decide) (JO.nil (JQ.then_normal ?_)))))
    refine JC.ret ?_
    have hx := x.isLt
    have s16 := shr16 (x)
    have e4 := len8v (x >>> 16) (by omega)
    have e5 := len64_le x
    exact JQ.done (.inr rfl) (Γ' := []) (H' := []) (res1 rfl (RV.tmp rfl)) (Subs.sub zq3) (Picks.perm zq1) ⟨congrArg it (by omega), rfl, rfl⟩
  ·try simp only [decide_eq_true_eq, decide_eq_false_iff_not, Bool.not_eq_true', Bool.not_eq_false', ne_eq, Decidable.not_not, Bool.not_eq_true, Bool.and_eq_true, Bool.or_eq_true, BitVec.reduceToNat] at hc2
   refine JC.skip (JQ.then_normal (JC.seq (JC.seq (JC.region (JO.v (Yv.move rfl) (by decide) (JO.v (Yv.bin rfl rfl (BinR.geq_u64 (b := 256#64))) (by decide) ?_))))))
   refine JO.nil (JQ.then_normal (JC.cond rfl (fun hc3 => ?_) (fun hc3 => ?_)))
   ·try simp only [decide_eq_true_eq, decide_eq_false_iff_not, Bool.not_eq_true', Bool.not_eq_false', ne_eq, Decidable.not_not, Bool.not_eq_true, Bool.and_eq_true, Bool.or_eq_true, BitVec.reduceToNat] at hc3
    have e3 := len64_s8 hc3
    refine JC.seq (JC.region (JO.v (Yv.move rfl) (by decide) (JO.v (Yv.as (v' := u64 ((_ : BitVec 64) >>> (8 : Nat))) (Yv.bin rfl rfl (BinR.shr_u64_u64 (n := 8#64))) rfl) (by decide) (JO.v (Yv.assign rfl) (by decide) (JO.nil (JQ.then_normal ?_))))))
    refine JC.region (JO.v (Yv.move rfl) (by decide) (JO.v (Yv.bin rfl rfl (BinR.add_i (by first | (constructor <;> omega) | (constructor <;> simp <;> omega)))) (by decide) (JO.v (Yv.assign rfl) (by decide) (JO.nil (JQ.then_normal (JC.seq ?_))))))
    refine JC.region (JO.v (Yv.move rfl) (by decide) (JO.v (Yv.move rfl) (by decide) (JO.v (Yv.conv_u64_u8 Tryz.underlying22 Tryz.underlying5 rfl) (by decide) (JO.v (Yv.as (v' := u8 (BitVec.ofNat 8 (bitlen _))) (Yv.indexStr Tryz.underlying9 rfl rfl (by exact (BitVec.isLt _))) (congrArg u8 (lenTab_get _ _))) (by decide) (JO.v (Yv.conv_u8_i Tryz.underlying5 Tryz.underlying3 rfl) (by decide) (JO.v (Yv.bin rfl rfl (BinR.add_i (fits8 _ (by omega)))) (by decide) ?_))))))
    refine JO.v (Yv.assign rfl) (by decide) (JO.nil (JQ.then_normal ?_))
    refine JC.ret ?_
    have hx := x.isLt
    have s8 := shr8 (x)
    have e4 := len8v (x >>> 8) (by omega)
    have e5 := len64_le x
    exact JQ.done (.inr rfl) (Γ' := []) (H' := []) (res1 rfl (RV.tmp rfl)) (Subs.sub zq3) (Picks.perm zq1) ⟨congrArg it (by omega), rfl, rfl⟩
   ·try simp only [decide_eq_true_eq, decide_eq_false_iff_not, Bool.not_eq_true', Bool.not_eq_false', ne_eq, Decidable.not_not, Bool.not_eq_true, Bool.and_eq_true, Bool.or_eq_true, BitVec.reduceToNat] at hc3
    refine JC.skip (JQ.then_normal (JC.seq (JC.region (JO.v (Yv.move rfl) (by decide) (JO.v (Yv.move rfl) (by decide) (JO.v (Yv.conv_u64_u8 Tryz.underlying22 Tryz.underlying5 rfl) (by decide) ?_))))))
    refine JO.v (Yv.as (v' := u8 (BitVec.ofNat 8 (bitlen _))) (Yv.indexStr Tryz.underlying9 rfl rfl (by exact (BitVec.isLt _))) (congrArg u8 (lenTab_get _ _))) (by decide) (JO.v (Yv.conv_u8_i Tryz.underlying5 Tryz.underlying3 rfl) (by decide) (JO.v (Yv.bin rfl rfl (BinR.add_i (fits8 _ (by omega)))) (by decide) (JO.v (Yv.assign rfl) (by decide) (JO.nil (JQ.then_normal ?_)))))
    refine JC.ret ?_
    have hx := x.isLt
    have e4 := len8v (x) (by omega)
    have e5 := len64_le x
    exact JQ.done (.inr rfl) (Γ' := []) (H' := []) (res1 rfl (RV.tmp rfl)) (Subs.sub zq3) (Picks.perm zq1) ⟨congrArg it (by omega), rfl, rfl⟩


theorem f98_spec (n : BitVec 64) :
  Spec Tryz.prog 98 #[u64 n] [] []
   (fun v Γ' H' => True ∧ Γ' = [] ∧ H' = [Res.row v (smallB n).length 5 1 ((smallB n).map u8)]) := by
 refine Spec.of_args Tryz.func98 rfl Tryz.ntmps98 (by simp) fun w => ?_
 refine JC.seq (JC.region (JO.v (Yv.assign rfl) (by decide) (JO.nil (JQ.then_normal (JC.seq (JC.region ?_))))))
 refine JO.nilRow 5 1 ?_
 refine JO.v (Yv.assign rfl) (by decide) (JO.nil (JQ.then_normal (JC.seq (JC.block ?_))))
 refine JC.loop (ι := Nat × Value) (fun x => x.1 ≤ 8 ∧ (x.1 = 0 ∨ n >>> (8 * (x.1 - 1)) ≠ 0)) (fun x => [(0, u64 (n >>> (8 * x.1))), (3, x.2)]) (fun x => []) (fun x => [Res.row x.2 x.1 5 1 ((digs n x.1).map u8)]) (fun x => 8 - x.1) (0, _) zq12 (Subs.sub zq3) (Picks.perm zq1) ?_ (fun x hx => ?_)
 ·exact ⟨by decide, .inl rfl⟩
 obtain ⟨k, v⟩ := x
 obtain ⟨hk8, hk⟩ := hx
 dsimp only at hk8 hk ⊢
 refine JC.seq (JC.seq (JC.region (JO.v (Yv.move rfl) (by decide) (JO.v (Yv.bin rfl rfl (BinR.gtr_u64 (b := 0#64))) (by decide) (JO.nil (JQ.then_normal (JC.cond rfl (fun hc1 => ?_) (fun hc1 => ?_))))))))
 ·try simp only [decide_eq_true_eq, decide_eq_false_iff_not, Bool.not_eq_true', Bool.not_eq_false', ne_eq, Decidable.not_not, Bool.not_eq_true, Bool.and_eq_true, Bool.or_eq_true, BitVec.reduceToNat] at hc1
  have hne : n >>> (8 * k) ≠ 0 := fun h => by rw [h] at hc1; exact absurd hc1 (by decide)
  have hlt := shr_big n k hne
  refine JC.skip (JQ.then_normal (JC.block (JC.seq (JC.region (JO.v (Yv.move rfl) (by decide) (JO.v (Yv.bin rfl rfl (BinR.rem_u64 (b := 256#64) (by decide))) (by decide) ?_))))))
  refine JO.v (Yv.as (v' := u8 ((n >>> (8 * k)).setWidth 8)) (Yv.conv_u64_u8 Tryz.underlying22 Tryz.underlying5 rfl) (putD n k)) (by decide) ?_
  refine JO.lit1 Tryz.underlying79 info_5 rfl rfl (by simp) (by decide) (by decide) (by decide) fun v9 => ?_
  refine JO.v (Yv.move rfl) (by decide) ?_
  refine JO.append Tryz.underlying79 info_5 rfl (by decide) rfl rfl zq15 zq22 zq8 (by unfold maxLen; omega) (by omega) (by decide) fun v11 => ?_
  refine JO.v (Yv.assign rfl) (by decide) (JO.nil (JQ.then_normal (JC.region (JO.v (Yv.move rfl) (by decide) (JO.v (Yv.bin rfl rfl (BinR.quo_u64 (b := 256#64) (by decide))) (by decide) (JO.v (Yv.assign rfl) (by decide) ?_))))))
  refine JO.nil ?_
  refine JQ.block_normal ?_
  rw [digs_cons, shr_quo, Nat.add_comm 1 k]
  refine JQ.head (k + 1, _) zq12 (Subs.sub zq3) (Picks.perm zq1) ?_
  exact ⟨⟨by dsimp only; omega, .inr hne⟩, by dsimp only; omega⟩
 ·try simp only [decide_eq_true_eq, decide_eq_false_iff_not, Bool.not_eq_true', Bool.not_eq_false', ne_eq, Decidable.not_not, Bool.not_eq_true, Bool.and_eq_true, Bool.or_eq_true, BitVec.reduceToNat] at hc1
  obtain rfl : nsz n = k := nsz_of (BitVec.eq_of_toNat_eq (by simpa using hc1)) hk
  refine JC.exit ?_
  refine JQ.then_exit ?_
  refine JQ.then_exit ?_
  refine JQ.block_exit ?_
  refine JQ.then_normal (JC.seq (JC.region (JO.v (Yv.move rfl) (by decide) ?_)))
  first | refine JO.v (Yv.len_s Tryz.underlying79 rfl) (by decide) ?_ | refine JO.v (Yv.lenRd Tryz.underlying79 rfl zq6) (by decide) ?_
  refine JO.v (Yv.as (v' := u8 (BitVec.ofNat 8 (nsz n))) (Yv.conv_i_u8 Tryz.underlying3 Tryz.underlying5 rfl) (congrArg u8 (by simp))) (by decide) ?_
  refine JO.lit1 Tryz.underlying79 info_5 rfl rfl (by simp) (by decide) (by decide) (by decide) fun v17 => ?_
  refine JO.v (Yv.move rfl) (by decide) ?_
  refine JO.append Tryz.underlying79 info_5 rfl (by decide) rfl rfl zq15 zq22 zq8 (by unfold maxLen; omega) (by omega) (by decide) fun v19 => ?_
  refine JO.v (Yv.assign rfl) (by decide) (JO.nil (JQ.then_normal ?_))
  refine JC.ret ?_
  exact JQ.done (.inr rfl) (Γ' := []) (H' := [Res.row _ (1 + nsz n) 5 1 ([_] ++ _)]) (res1 rfl (RV.tmp rfl)) (Subs.sub zq3) (Picks.perm zq1) ⟨trivial, rfl, by rw [smallB_length, Nat.add_comm]; rfl⟩


theorem f100_spec (v : Value) (b : B8) :
  Spec Tryz.prog 100 #[v] [Res.rd v b.length 1 (b.map u8)] []
   (fun o Γ' H' => ∃ p, o = ptr p 0 ∧ Γ' = [] ∧ H' = [Res.cells p [v, it 0] 218]) := by
 refine Spec.know (φ := ∃ A c, v = .slice A b.length c) (fun w hs => by obtain ⟨A, c, h, _⟩ := hs.rdForm (.head _); exact ⟨A, c, h⟩) ?_
 rintro ⟨A, c, rfl⟩
 refine Spec.of_args Tryz.func100 rfl Tryz.ntmps100 (by simp) fun w => ?_
 refine JC.seq (JC.region (JO.v (Yv.assign rfl) (by decide) (JO.nil (JQ.then_normal (JC.seq (JC.region ?_))))))
 refine JO.v (Yv.move rfl) (by decide) (JO.v (Yv.build bld_218 rfl rfl) (by decide) ?_)
 refine JO.box rfl _ rfl (by decide) fun b5 => ?_
 refine JO.v (Yv.assign rfl) (by decide) (JO.nil (JQ.then_normal ?_))
 refine JC.ret ?_
 exact JQ.done (.inr rfl) (Γ' := []) (H' := [Res.cells _ _ 218]) (res1 rfl (RV.tmp rfl)) (Subs.sub zq3) (Picks.perm zq1) ⟨_, rfl, rfl, rfl⟩


theorem f151_spec (p : Nat) (v : Value) (r : Rdr) (e : Int) :
  Spec Tryz.prog 151 #[(ptr p 0), it e] [Res.rd v r.b.length 1 (r.b.map u8)] [Res.cells p [v, it r.e] 218]
   (fun o Γ' H' => ∃ v', o = .tuple #[] ∧ Γ' = [Res.rd v' (r.wrong e).b.length 1 ((r.wrong e).b.map u8)] ∧ H' = [Res.cells p [v', it (r.wrong e).e] 218]) := by
 refine Spec.of_args Tryz.func151 rfl Tryz.ntmps151 (by simp) fun w => ?_
 refine JC.seq (JC.region (JO.v (Yv.move rfl) (by decide) (JO.v (Yv.nilCheck rfl) (by decide) (JO.v (Yv.fieldAddr fa_218_1 rfl) (by decide) (JO.v (Yv.load1 one_31 rfl zq2) (by decide) (JO.v (Yv.bin rfl rfl BinR.eql_i) (by decide) ?_))))))
 refine JO.nil (JQ.then_normal (JC.cond rfl (fun hc1 => ?_) (fun hc1 => ?_)))
 ·try simp only [decide_eq_true_eq, decide_eq_false_iff_not, Bool.not_eq_true', Bool.not_eq_false', ne_eq, Decidable.not_not, Bool.not_eq_true, Bool.and_eq_true, Bool.or_eq_true, BitVec.reduceToNat] at hc1
  have hw : r.wrong e = ⟨[], e⟩ := if_pos hc1
  refine JC.nilRd 1 ?_
  refine JC.region (JO.v (Yv.move rfl) (by decide) (JO.v (Yv.move rfl) (by decide) (JO.v (Yv.move rfl) (by decide) (JO.v (Yv.nilCheck rfl) (by decide) (JO.v (Yv.fieldAddr fa_218_0 rfl) (by decide) ?_)))))
  first | refine JO.store1 sz_79 rfl rfl rfl zq10 zq5 ?_ | refine JO.store1s sz_79 rfl rfl zq6 zq10 zq5 ?_ | refine JO.storeRow1 sz_79 rfl rfl rfl zq10 zq5 zq26 ?_
  refine JO.v (Yv.nilCheck rfl) (by decide) (JO.v (Yv.fieldAddr fa_218_1 rfl) (by decide) ?_)
  first | refine JO.store1 sz_31 rfl rfl rfl zq10 zq5 ?_ | refine JO.storeRow1 sz_31 rfl rfl rfl zq10 zq5 zq26 ?_
  refine JO.nil ?_
  exact JQ.done (.inl rfl) (Γ' := [Res.rd (.slice none 0 0) 0 1 []]) (H' := [Res.cells p [.slice none 0 0, it e] 218]) (res_none rfl) (Subs.sub zq3) (Picks.perm zq1) ⟨_, rfl, by rw [hw] <;> rfl, by rw [hw] <;> rfl⟩
 ·try simp only [decide_eq_true_eq, decide_eq_false_iff_not, Bool.not_eq_true', Bool.not_eq_false', ne_eq, Decidable.not_not, Bool.not_eq_true, Bool.and_eq_true, Bool.or_eq_true, BitVec.reduceToNat] at hc1
  have hw : r.wrong e = r := if_neg hc1
  refine JC.skip ?_
  exact JQ.done (.inl rfl) (Γ' := [Res.rd v r.b.length 1 (r.b.map u8)]) (H' := [Res.cells p [v, it r.e] 218]) (res_none rfl) (Subs.sub zq3) (Picks.perm zq1) ⟨_, rfl, by rw [hw] <;> rfl, by rw [hw] <;> rfl⟩


theorem f149_spec (p : Nat) (v : Value) (r : Rdr) (n : BitVec 64) :
  Spec Tryz.prog 149 #[(ptr p 0), u64 n] [Res.rd v r.b.length 1 (r.b.map u8)] [Res.cells p [v, it r.e] 218]
   (fun o Γ' H' => ∃ v', True ∧ Γ' = [Res.rd o (r.out n.toNat).length 1 ((r.out n.toNat).map u8), Res.rd v' (r.aft n.toNat).b.length 1 ((r.aft n.toNat).b.map u8)] ∧ H' = [Res.cells p [v', it (r.aft n.toNat).e] 218]) := by
 refine Spec.of_args Tryz.func149 rfl Tryz.ntmps149 (by simp) fun w => ?_
 refine JC.know (φ := r.b.length < 18446744073709551616) (fun w hs => by obtain ⟨_, _, _, _, _, _, h⟩ := hs.rdForm (.head _); unfold maxLen at h; omega) fun hb => ?_
 refine JC.seq (JC.region (JO.v (Yv.assign rfl) (by decide) (JO.nil (JQ.then_normal (JC.seq (JC.seq ?_))))))
 refine JC.region (JO.v (Yv.move rfl) (by decide) (JO.v (Yv.move rfl) (by decide) (JO.v (Yv.nilCheck rfl) (by decide) (JO.v (Yv.fieldAddr fa_218_0 rfl) (by decide) (JO.v (Yv.load1 one_79 rfl zq2) (by decide) ?_)))))
 first | refine JO.v (Yv.len_s Tryz.underlying79 rfl) (by decide) ?_ | refine JO.v (Yv.lenRd Tryz.underlying79 rfl zq6) (by decide) ?_
 refine JO.v (Yv.as (v' := u64 (BitVec.ofNat 64 r.b.length)) (Yv.conv_i_u64 Tryz.underlying3 Tryz.underlying22 rfl) (congrArg u64 (by simp))) (by decide) (JO.v (Yv.bin rfl rfl (BinR.gtr_u64)) (by decide) (JO.nil (JQ.then_normal (JC.cond rfl (fun hc1 => ?_) (fun hc1 => ?_)))))
 ·try simp only [decide_eq_true_eq, decide_eq_false_iff_not, Bool.not_eq_true', Bool.not_eq_false', ne_eq, Decidable.not_not, Bool.not_eq_true, Bool.and_eq_true, Bool.or_eq_true, BitVec.reduceToNat] at hc1
  rw [BitVec.toNat_ofNat, Nat.mod_eq_of_lt hb] at hc1
  have hk := Rdr.chk_lt hc1
  refine JC.region (JO.v (Yv.move rfl) (by decide) ?_)
  refine JO.call (f151_spec p v r 3) body_151 rfl zq1 zq3 (by decide) ?_
  rintro _ _ _ ⟨_, _, ⟨v1, rfl, rfl, rfl⟩, hΓ, hH⟩
  simp only [List.cons_append, List.nil_append] at hΓ hH; subst hΓ hH
  rw [← hk]
  refine JO.nil (JQ.then_normal (JC.seq (JC.seq (JC.region (JO.v (Yv.move rfl) (by decide) (JO.v (Yv.nilCheck rfl) (by decide) ?_))))))
  refine JO.v (Yv.fieldAddr fa_218_1 rfl) (by decide) (JO.v (Yv.load1 one_31 rfl zq2) (by decide) (JO.v (Yv.bin rfl rfl BinR.neq_i) (by decide) (JO.nil (JQ.then_normal (JC.cond rfl (fun hc2 => ?_) (fun hc2 => ?_))))))
  ·try simp only [decide_eq_true_eq, decide_eq_false_iff_not, Bool.not_eq_true', Bool.not_eq_false', ne_eq, Decidable.not_not, Bool.not_eq_true, Bool.and_eq_true, Bool.or_eq_true, BitVec.reduceToNat] at hc2
   have h1 : (r.chk n.toNat).e ≠ 0 := by first | exact hc2 | (rw [hk]; exact hc2)
   refine JC.nilRd 1 ?_
   refine JC.seq (JC.region (JO.v (Yv.assign rfl) (by decide) (JO.nil (JQ.then_normal ?_))))
   refine JC.ret ?_
   refine JQ.then_ret ?_
   exact JQ.done (.inr rfl) (Γ' := [Res.rd (.slice none 0 0) 0 1 [], Res.rd _ (r.chk n.toNat).b.length 1 ((r.chk n.toNat).b.map u8)]) (H' := [Res.cells p [_, it (r.chk n.toNat).e] 218]) (res1 rfl (RV.tmp rfl)) (Subs.sub zq3) (Picks.perm zq1) ⟨_, trivial, by rw [Rdr.out_bad h1, Rdr.aft_bad h1] <;> rfl, by rw [Rdr.aft_bad h1]⟩
  ·try simp only [decide_eq_true_eq, decide_eq_false_iff_not, Bool.not_eq_true', Bool.not_eq_false', ne_eq, Decidable.not_not, Bool.not_eq_true, Bool.and_eq_true, Bool.or_eq_true, BitVec.reduceToNat] at hc2
   have h0 : (r.chk n.toNat).e = 0 := by first | exact hc2 | (rw [hk]; exact hc2)
   obtain ⟨hge, hre⟩ := Rdr.chk_ok h0
   have hk2 := Rdr.chk_ge (r := r) hge
   try rw [hk2]
   refine JC.skip (JQ.then_normal (JC.seq (JC.region (JO.v (Yv.move rfl) (by decide) (JO.v (Yv.nilCheck rfl) (by decide) (JO.v (Yv.fieldAddr fa_218_0 rfl) (by decide) ?_))))))
   refine JO.v (Yv.load1 one_79 rfl zq2) (by decide) (JO.v (Yv.move rfl) (by decide) ?_)
   refine JO.cut (0) (n.toNat) Tryz.underlying79 sz_5 rfl zq7 rfl ⟨_, rfl⟩ zq25 zq25 (by decide) fun v26 => ?_
   refine JO.v (Yv.assign rfl) (by decide) (JO.nil (JQ.then_normal (JC.seq (JC.region (JO.v (Yv.move rfl) (by decide) (JO.v (Yv.move rfl) (by decide) ?_))))))
   refine JO.v (Yv.nilCheck rfl) (by decide) (JO.v (Yv.fieldAddr fa_218_0 rfl) (by decide) (JO.v (Yv.load1 one_79 rfl zq2) (by decide) (JO.v (Yv.move rfl) (by decide) ?_)))
   refine JO.cut (n.toNat) (r.b.length) Tryz.underlying79 sz_5 rfl zq7 ⟨_, rfl⟩ rfl zq25 zq25 (by decide) fun v33 => ?_
   refine JO.v (Yv.nilCheck rfl) (by decide) (JO.v (Yv.fieldAddr fa_218_0 rfl) (by decide) ?_)
   first | refine JO.store1 sz_79 rfl rfl rfl zq10 zq5 ?_ | refine JO.store1s sz_79 rfl rfl zq6 zq10 zq5 ?_ | refine JO.storeRow1 sz_79 rfl rfl rfl zq10 zq5 zq26 ?_
   refine JO.nil (JQ.then_normal (JC.seq (JC.region (JO.v (Yv.move rfl) (by decide) (JO.v (Yv.assign rfl) (by decide) (JO.nil ?_))))))
   refine JQ.then_normal ?_
   refine JC.ret ?_
   rw [rd_take hge, rd_drop]
   exact JQ.done (.inr rfl) (Γ' := [Res.rd _ (r.b.take n.toNat).length 1 ((r.b.take n.toNat).map u8), Res.rd _ (r.b.drop n.toNat).length 1 ((r.b.drop n.toNat).map u8)]) (H' := [Res.cells p [_, it r.e] 218]) (res1 rfl (RV.tmp rfl)) (Subs.sub zq3) (Picks.perm zq1) ⟨_, trivial, by rw [Rdr.out_ok hge hre, Rdr.aft_ok hge hre], by rw [Rdr.aft_ok hge hre, hre]⟩
 ·try simp only [decide_eq_true_eq, decide_eq_false_iff_not, Bool.not_eq_true', Bool.not_eq_false', ne_eq, Decidable.not_not, Bool.not_eq_true, Bool.and_eq_true, Bool.or_eq_true, BitVec.reduceToNat] at hc1
  rw [BitVec.toNat_ofNat, Nat.mod_eq_of_lt hb] at hc1
  have hk := Rdr.chk_ge (r := r) hc1
  refine JC.skip (JQ.then_normal (JC.seq (JC.seq (JC.region (JO.v (Yv.move rfl) (by decide) (JO.v (Yv.nilCheck rfl) (by decide) ?_))))))
  refine JO.v (Yv.fieldAddr fa_218_1 rfl) (by decide) (JO.v (Yv.load1 one_31 rfl zq2) (by decide) (JO.v (Yv.bin rfl rfl BinR.neq_i) (by decide) (JO.nil (JQ.then_normal (JC.cond rfl (fun hc2 => ?_) (fun hc2 => ?_))))))
  ·try simp only [decide_eq_true_eq, decide_eq_false_iff_not, Bool.not_eq_true', Bool.not_eq_false', ne_eq, Decidable.not_not, Bool.not_eq_true, Bool.and_eq_true, Bool.or_eq_true, BitVec.reduceToNat] at hc2
   have h1 : (r.chk n.toNat).e ≠ 0 := by first | exact hc2 | (rw [hk]; exact hc2)
   refine JC.nilRd 1 ?_
   refine JC.seq (JC.region (JO.v (Yv.assign rfl) (by decide) (JO.nil (JQ.then_normal ?_))))
   refine JC.ret ?_
   refine JQ.then_ret ?_
   exact JQ.done (.inr rfl) (Γ' := [Res.rd (.slice none 0 0) 0 1 [], Res.rd _ r.b.length 1 (r.b.map u8)]) (H' := [Res.cells p [_, it r.e] 218]) (res1 rfl (RV.tmp rfl)) (Subs.sub zq3) (Picks.perm zq1) ⟨_, trivial, by rw [Rdr.out_bad h1, Rdr.aft_bad h1, hk] <;> rfl, by rw [Rdr.aft_bad h1, hk]⟩
  ·try simp only [decide_eq_true_eq, decide_eq_false_iff_not, Bool.not_eq_true', Bool.not_eq_false', ne_eq, Decidable.not_not, Bool.not_eq_true, Bool.and_eq_true, Bool.or_eq_true, BitVec.reduceToNat] at hc2
   have h0 : (r.chk n.toNat).e = 0 := by first | exact hc2 | (rw [hk]; exact hc2)
   obtain ⟨hge, hre⟩ := Rdr.chk_ok h0
   have hk2 := Rdr.chk_ge (r := r) hge
   try rw [hk2]
   refine JC.skip (JQ.then_normal (JC.seq (JC.region (JO.v (Yv.move rfl) (by decide) (JO.v (Yv.nilCheck rfl) (by decide) (JO.v (Yv.fieldAddr fa_218_0 rfl) (by decide) ?_))))))
   refine JO.v (Yv.load1 one_79 rfl zq2) (by decide) (JO.v (Yv.move rfl) (by decide) ?_)
   refine JO.cut (0) (n.toNat) Tryz.underlying79 sz_5 rfl zq7 rfl ⟨_, rfl⟩ zq25 zq25 (by decide) fun v26 => ?_
   refine JO.v (Yv.assign rfl) (by decide) (JO.nil (JQ.then_normal (JC.seq (JC.region (JO.v (Yv.move rfl) (by decide) (JO.v (Yv.move rfl) (by decide) ?_))))))
   refine JO.v (Yv.nilCheck rfl) (by decide) (JO.v (Yv.fieldAddr fa_218_0 rfl) (by decide) (JO.v (Yv.load1 one_79 rfl zq2) (by decide) (JO.v (Yv.move rfl) (by decide) ?_)))
   refine JO.cut (n.toNat) (r.b.length) Tryz.underlying79 sz_5 rfl zq7 ⟨_, rfl⟩ rfl zq25 zq25 (by decide) fun v33 => ?_
   refine JO.v (Yv.nilCheck rfl) (by decide) (JO.v (Yv.fieldAddr fa_218_0 rfl) (by decide) ?_)
   first | refine JO.store1 sz_79 rfl rfl rfl zq10 zq5 ?_ | refine JO.store1s sz_79 rfl rfl zq6 zq10 zq5 ?_ | refine JO.storeRow1 sz_79 rfl rfl rfl zq10 zq5 zq26 ?_
   refine JO.nil (JQ.then_normal (JC.seq (JC.region (JO.v (Yv.move rfl) (by decide) (JO.v (Yv.assign rfl) (by decide) (JO.nil ?_))))))
   refine JQ.then_normal ?_
   refine JC.ret ?_
   rw [rd_take hge, rd_drop]
   exact JQ.done (.inr rfl) (Γ' := [Res.rd _ (r.b.take n.toNat).length 1 ((r.b.take n.toNat).map u8), Res.rd _ (r.b.drop n.toNat).length 1 ((r.b.drop n.toNat).map u8)]) (H' := [Res.cells p [_, it r.e] 218]) (res1 rfl (RV.tmp rfl)) (Subs.sub zq3) (Picks.perm zq1) ⟨_, trivial, by rw [Rdr.out_ok hge hre, Rdr.aft_ok hge hre], by rw [Rdr.aft_ok hge hre, hre]⟩


theorem f101_spec (p : Nat) (v : Value) (r : Rdr) (lim : BitVec 64) :
  Spec Tryz.prog 101 #[(ptr p 0), u64 lim] [Res.rd v r.b.length 1 (r.b.map u8)] [Res.cells p [v, it r.e] 218]
   (fun o Γ' H' => ∃ v', o = u64 (r.sm lim) ∧ Γ' = [Res.rd v' (r.smA lim).b.length 1 ((r.smA lim).b.map u8)] ∧ H' = [Res.cells p [v', it (r.smA lim).e] 218]) := by
 refine Spec.of_args Tryz.func101 rfl Tryz.ntmps101 (by simp) fun w => ?_
 refine JC.seq (JC.region (JO.v (Yv.assign rfl) (by decide) (JO.nil (JQ.then_normal (JC.seq (JC.region ?_))))))
 refine JO.v (Yv.move rfl) (by decide) ?_
 refine JO.call (f149_spec p v r 1#64) body_149 rfl zq1 zq3 (by decide) ?_
 rintro v10 _ _ ⟨_, _, ⟨v1, _, rfl, rfl⟩, hΓ, hH⟩
 simp only [List.cons_append, List.nil_append] at hΓ hH; subst hΓ hH
 rw [show (1#64 : BitVec 64).toNat = 1 from rfl]
 have hle := Rdr.out_le r 1
 refine JO.v (Yv.assign rfl) (by decide) (JO.nil (JQ.then_normal (JC.seq (JC.seq (JC.region (JO.v (Yv.move rfl) (by decide) ?_))))))
 first | refine JO.v (Yv.len_s Tryz.underlying79 rfl) (by decide) ?_ | refine JO.v (Yv.lenRd Tryz.underlying79 rfl zq6) (by decide) ?_
 refine JO.v (Yv.bin rfl rfl BinR.eql_i) (by decide) (JO.nil (JQ.then_normal (JC.cond rfl (fun hc1 => ?_) (fun hc1 => ?_))))
 ·try simp only [decide_eq_true_eq, decide_eq_false_iff_not, Bool.not_eq_true', Bool.not_eq_false', ne_eq, Decidable.not_not, Bool.not_eq_true, Bool.and_eq_true, Bool.or_eq_true, BitVec.reduceToNat] at hc1
  have h0 : (r.out 1).length = 0 := by omega
  refine JC.seq (JC.region (JO.v (Yv.assign rfl) (by decide) (JO.nil (JQ.then_normal ?_))))
  refine JC.ret ?_
  refine JQ.then_ret ?_
  have hA : r.smA lim = r.aft 1 := if_pos h0
  exact JQ.done (.inr rfl) (Γ' := [Res.rd _ (r.aft 1).b.length 1 ((r.aft 1).b.map u8)]) (H' := [Res.cells p [_, it (r.aft 1).e] 218]) (res1 rfl (RV.tmp rfl)) (Subs.sub zq3) (Picks.perm zq1) ⟨_, by rw [show r.sm lim = 0 from if_pos h0] <;> rfl, by rw [hA], by rw [hA]⟩
 ·try simp only [decide_eq_true_eq, decide_eq_false_iff_not, Bool.not_eq_true', Bool.not_eq_false', ne_eq, Decidable.not_not, Bool.not_eq_true, Bool.and_eq_true, Bool.or_eq_true, BitVec.reduceToNat] at hc1
  have h1 : (r.out 1).length = 1 := by omega
  refine JC.skip (JQ.then_normal (JC.seq (JC.region (JO.v (Yv.assign rfl) (by decide) (JO.nil (JQ.then_normal ?_))))))
  refine JC.cut (ι := Value × Value) (fun x => True) (fun x => [(0, ptr p 0), (1, u64 lim), (5, v10), (6, x.1)]) (fun x => [Res.rd x.1 r.smO.length 1 (r.smO.map u8), Res.rd x.2 r.smR.b.length 1 (r.smR.b.map u8), Res.rd v10 (r.out 1).length 1 ((r.out 1).map u8)]) (fun x => [Res.cells p [x.2, it r.smR.e] 218]) ?_ (fun x hx => ?_)
  ·skip
   refine JC.seq (JC.region (JO.v (Yv.move rfl) (by decide) ?_))
   first | refine JO.v (Yv.indexRow1 (j := 0) Tryz.underlying79 sz_5 rfl rfl zq7 zq5) (by decide) ?_ | refine JO.v (Yv.indexRd1 (j := 0) Tryz.underlying79 sz_5 rfl rfl zq6 zq5) (by decide) ?_
   refine JO.v (Yv.as (v' := u8 r.k8) (Yv.load1 one_5 rfl zq4) rfl) (by decide) (JO.v (Yv.bin rfl rfl (BinR.leq_u8 (b := 8#8))) (by decide) (JO.nil (JQ.then_normal (JC.cond rfl (fun hc2 => ?_) (fun hc2 => ?_)))))
   ·try simp only [decide_eq_true_eq, decide_eq_false_iff_not, Bool.not_eq_true', Bool.not_eq_false', ne_eq, Decidable.not_not, Bool.not_eq_true, Bool.and_eq_true, Bool.or_eq_true, BitVec.reduceToNat] at hc2
    have hsO : r.smO = (r.aft 1).out r.k8.toNat := if_pos hc2
    have hsR : r.smR = (r.aft 1).aft r.k8.toNat := if_pos hc2
    refine JC.region (JO.v (Yv.move rfl) (by decide) (JO.v (Yv.move rfl) (by decide) ?_))
    first | refine JO.v (Yv.indexRow1 (j := 0) Tryz.underlying79 sz_5 rfl rfl zq7 zq5) (by decide) ?_ | refine JO.v (Yv.indexRd1 (j := 0) Tryz.underlying79 sz_5 rfl rfl zq6 zq5) (by decide) ?_
    refine JO.v (Yv.as (v' := u8 r.k8) (Yv.load1 one_5 rfl zq4) rfl) (by decide) (JO.v (Yv.conv_u8_u64 Tryz.underlying5 Tryz.underlying22 rfl) (by decide) ?_)
    refine JO.call (f149_spec p v1 (r.aft 1) (r.k8.setWidth 64)) body_149 rfl zq1 zq3 (by decide) ?_
    rintro v23 _ _ ⟨_, _, ⟨v2, _, rfl, rfl⟩, hΓ, hH⟩
    simp only [List.cons_append, List.nil_append] at hΓ hH; subst hΓ hH
    rw [show (r.k8.setWidth 64).toNat = r.k8.toNat from by rw [BitVec.toNat_setWidth]; have := r.k8.isLt; omega, ← hsO, ← hsR]
    refine JO.v (Yv.assign rfl) (by decide) (JO.nil ?_)
    refine JQ.head (_, _) zq12 (by rw [hsO]; exact Subs.sub zq3) (Picks.perm zq1) ?_
    trivial
   ·try simp only [decide_eq_true_eq, decide_eq_false_iff_not, Bool.not_eq_true', Bool.not_eq_false', ne_eq, Decidable.not_not, Bool.not_eq_true, Bool.and_eq_true, Bool.or_eq_true, BitVec.reduceToNat] at hc2
    have hsO : r.smO = [] := if_neg hc2
    have hsR : r.smR = r.aft 1 := if_neg hc2
    refine JC.nilRd 1 ?_
    rw [← hsR]
    refine JC.skip ?_
    refine JQ.head (_, _) zq12 (by rw [hsO]; exact Subs.sub zq3) (Picks.perm zq1) ?_
    trivial
  ·skip
   refine JC.seq (JC.region (JO.v (Yv.move rfl) (by decide) ?_))
   refine JO.callB (f150_spec x.1 r.smO (by have := Rdr.smO_le r; omega)) body_150 rfl zq1 zq9 zq20 (by decide) ?_
   rintro _ _ ⟨_, ⟨rfl, _, rfl⟩, hH⟩
   simp only [List.cons_append, List.nil_append] at hH; subst hH
   refine JO.v (Yv.move rfl) (by decide) (JO.v (Yv.extract rfl rfl) (by decide) (JO.v (Yv.extract rfl rfl) (by decide) ?_))
   refine JO.alloc _ zero_40 rfl (by decide) fun b7 => ?_
   first | refine JO.storeAll sz_40 rfl rfl rfl zq13 zq17 zq10 zq13 ?_ | refine JO.store sz_40 rfl rfl rfl zq13 zq8 zq10 zq5 ?_ | refine JO.storeRow sz_40 rfl rfl rfl (by first | rfl | simp) zq17 zq10 zq5 zq5 ?_
   refine JO.v (Yv.assign rfl) (by decide) (JO.nil (JQ.then_normal (JC.seq (JC.block (JC.seq (JC.block ?_))))))
   refine JC.seq (JC.block (JC.block (JC.seq (JC.block (JC.seq (JC.seq ?_))))))
   refine JC.seq (JC.region (JO.v (Yv.move rfl) (by decide) (JO.v (Yv.nilCheck rfl) (by decide) (JO.v (Yv.fieldAddr fa_218_1 rfl) (by decide) (JO.v (Yv.load1 one_31 rfl zq4) (by decide) (JO.v (Yv.bin rfl rfl BinR.neq_i) (by decide) ?_))))))
   refine JO.v (Yv.assign rfl) (by decide) (JO.nil (JQ.then_normal (JC.cond rfl (fun hc3 => ?_) (fun hc3 => ?_))))
   ·try simp only [decide_eq_true_eq, decide_eq_false_iff_not, Bool.not_eq_true', Bool.not_eq_false', ne_eq, Decidable.not_not, Bool.not_eq_true, Bool.and_eq_true, Bool.or_eq_true, BitVec.reduceToNat] at hc3
    have hF : r.smF lim = r.smR := if_pos hc3
    have hF' := hF
    rw [← hF]
    refine JC.exit ?_
    refine JQ.then_exit ?_
    refine JQ.then_exit ?_
    refine JQ.block_exit ?_
    refine JQ.then_normal ?_
    refine JC.exit ?_
    refine JQ.block_other (by decide) ?_
    refine JQ.block_other (by decide) ?_
    refine JQ.then_exit ?_
    refine JQ.block_other (by decide) ?_
    refine JQ.then_exit ?_
    refine JQ.block_exit ?_
    refine JQ.then_normal (JC.seq (JC.seq (JC.region (JO.v (Yv.move rfl) (by decide) (JO.v (Yv.nilCheck rfl) (by decide) (JO.v (Yv.fieldAddr fa_218_1 rfl) (by decide) ?_))))))
    refine JO.v (Yv.load1 one_31 rfl zq4) (by decide) (JO.v (Yv.bin rfl rfl BinR.neq_i) (by decide) (JO.nil (JQ.then_normal (JC.cond rfl (fun hc7 => ?_) (fun hc7 => ?_)))))
    ·try simp only [decide_eq_true_eq, decide_eq_false_iff_not, Bool.not_eq_true', Bool.not_eq_false', ne_eq, Decidable.not_not, Bool.not_eq_true, Bool.and_eq_true, Bool.or_eq_true, BitVec.reduceToNat] at hc7
     have hS : r.sm lim = 0 := by rw [Rdr.sm, if_neg (by omega), if_pos hc7]
     refine JC.seq (JC.region (JO.v (Yv.assign rfl) (by decide) (JO.nil (JQ.then_normal ?_))))
     refine JC.ret ?_
     refine JQ.then_ret ?_
     have hA : r.smA lim = r.smF lim := if_neg (by omega)
     exact JQ.done (.inr rfl) (Γ' := [Res.rd _ (r.smF lim).b.length 1 ((r.smF lim).b.map u8)]) (H' := [Res.cells p [_, it (r.smF lim).e] 218]) (res1 rfl (RV.tmp rfl)) (Subs.sub zq3) (Picks.perm zq1) ⟨_, by rw [hS] <;> rfl, by rw [hA], by rw [hA]⟩
    ·try simp only [decide_eq_true_eq, decide_eq_false_iff_not, Bool.not_eq_true', Bool.not_eq_false', ne_eq, Decidable.not_not, Bool.not_eq_true, Bool.and_eq_true, Bool.or_eq_true, BitVec.reduceToNat] at hc7
     have hS : r.sm lim = (ofBytes r.smO).getD 0 0 := by rw [Rdr.sm, if_neg (by omega), if_neg (not_not_intro hc7)]
     refine JC.skip (JQ.then_normal (JC.seq (JC.region ?_)))
     first | refine JO.v (Yv.indexArr1 (j := 0) Tryz.underlying40 sz_22 rfl rfl zq5) (by decide) ?_ | refine JO.v (Yv.indexArr1o (j := 0) Tryz.underlying40 sz_22 rfl rfl zq5) (by decide) ?_
     refine JO.v (Yv.as (v' := u64 ((ofBytes r.smO).getD 0 0)) (Yv.load1 one_22 rfl zq4) rfl) (by decide) (JO.v (Yv.assign rfl) (by decide) (JO.nil (JQ.then_normal ?_)))
     refine JC.ret ?_
     have hA : r.smA lim = r.smF lim := if_neg (by omega)
     exact JQ.done (.inr rfl) (Γ' := [Res.rd _ (r.smF lim).b.length 1 ((r.smF lim).b.map u8)]) (H' := [Res.cells p [_, it (r.smF lim).e] 218]) (res1 rfl (RV.tmp rfl)) (Subs.sub zq3) (Picks.perm zq1) ⟨_, by rw [hS] <;> rfl, by rw [hA], by rw [hA]⟩
   ·try simp only [decide_eq_true_eq, decide_eq_false_iff_not, Bool.not_eq_true', Bool.not_eq_false', ne_eq, Decidable.not_not, Bool.not_eq_true, Bool.and_eq_true, Bool.or_eq_true, BitVec.reduceToNat] at hc3
    refine JC.skip (JQ.then_normal (JC.seq (JC.seq (JC.region (JO.v (Yv.move rfl) (by decide) ?_)))))
    first | refine JO.v (Yv.indexRow1 (j := 0) Tryz.underlying79 sz_5 rfl rfl zq7 zq5) (by decide) ?_ | refine JO.v (Yv.indexRd1 (j := 0) Tryz.underlying79 sz_5 rfl rfl zq6 zq5) (by decide) ?_
    refine JO.v (Yv.as (v' := u8 r.k8) (Yv.load1 one_5 rfl zq4) rfl) (by decide) (JO.v (Yv.bin rfl rfl (BinR.gtr_u8 (b := 8#8))) (by decide) (JO.v (Yv.assign rfl) (by decide) (JO.nil (JQ.then_normal (JC.cond rfl (fun hc4 => ?_) (fun hc4 => ?_))))))
    ·try simp only [decide_eq_true_eq, decide_eq_false_iff_not, Bool.not_eq_true', Bool.not_eq_false', ne_eq, Decidable.not_not, Bool.not_eq_true, Bool.and_eq_true, Bool.or_eq_true, BitVec.reduceToNat] at hc4
     have hF : r.smF lim = r.smR.wrong 31 := by rw [Rdr.smF, if_neg (not_not_intro hc3), if_pos hc4]
     refine JC.exit ?_
     refine JQ.then_exit ?_
     refine JQ.then_exit ?_
     refine JQ.block_other (by decide) ?_
     refine JQ.then_exit ?_
     refine JQ.block_exit ?_
     refine JQ.block_normal ?_
     refine JQ.then_normal (JC.seq (JC.region (JO.v (Yv.move rfl) (by decide) ?_)))
     refine JO.call (f151_spec p x.2 r.smR 31) body_151 rfl zq1 zq3 (by decide) ?_
     rintro _ _ _ ⟨_, _, ⟨v3, rfl, rfl, rfl⟩, hΓ, hH⟩
     simp only [List.cons_append, List.nil_append] at hΓ hH; subst hΓ hH
     rw [← hF]
     refine JO.nil (JQ.then_normal ?_)
     refine JC.exit ?_
     refine JQ.block_other (by decide) ?_
     refine JQ.then_exit ?_
     refine JQ.block_exit ?_
     refine JQ.then_normal (JC.seq (JC.seq (JC.region (JO.v (Yv.move rfl) (by decide) (JO.v (Yv.nilCheck rfl) (by decide) (JO.v (Yv.fieldAddr fa_218_1 rfl) (by decide) ?_))))))
     refine JO.v (Yv.load1 one_31 rfl zq4) (by decide) (JO.v (Yv.bin rfl rfl BinR.neq_i) (by decide) (JO.nil (JQ.then_normal (JC.cond rfl (fun hc7 => ?_) (fun hc7 => ?_)))))
     ·try simp only [decide_eq_true_eq, decide_eq_false_iff_not, Bool.not_eq_true', Bool.not_eq_false', ne_eq, Decidable.not_not, Bool.not_eq_true, Bool.and_eq_true, Bool.or_eq_true, BitVec.reduceToNat] at hc7
      have hS : r.sm lim = 0 := by rw [Rdr.sm, if_neg (by omega), if_pos hc7]
      refine JC.seq (JC.region (JO.v (Yv.assign rfl) (by decide) (JO.nil (JQ.then_normal ?_))))
      refine JC.ret ?_
      refine JQ.then_ret ?_
      have hA : r.smA lim = r.smF lim := if_neg (by omega)
      exact JQ.done (.inr rfl) (Γ' := [Res.rd _ (r.smF lim).b.length 1 ((r.smF lim).b.map u8)]) (H' := [Res.cells p [_, it (r.smF lim).e] 218]) (res1 rfl (RV.tmp rfl)) (Subs.sub zq3) (Picks.perm zq1) ⟨_, by rw [hS] <;> rfl, by rw [hA], by rw [hA]⟩
     ·try simp only [decide_eq_true_eq, decide_eq_false_iff_not, Bool.not_eq_true', Bool.not_eq_false', ne_eq, Decidable.not_not, Bool.not_eq_true, Bool.and_eq_true, Bool.or_eq_true, BitVec.reduceToNat] at hc7
      have hS : r.sm lim = (ofBytes r.smO).getD 0 0 := by rw [Rdr.sm, if_neg (by omega), if_neg (not_not_intro hc7)]
      refine JC.skip (JQ.then_normal (JC.seq (JC.region ?_)))
      first | refine JO.v (Yv.indexArr1 (j := 0) Tryz.underlying40 sz_22 rfl rfl zq5) (by decide) ?_ | refine JO.v (Yv.indexArr1o (j := 0) Tryz.underlying40 sz_22 rfl rfl zq5) (by decide) ?_
      refine JO.v (Yv.as (v' := u64 ((ofBytes r.smO).getD 0 0)) (Yv.load1 one_22 rfl zq4) rfl) (by decide) (JO.v (Yv.assign rfl) (by decide) (JO.nil (JQ.then_normal ?_)))
      refine JC.ret ?_
      have hA : r.smA lim = r.smF lim := if_neg (by omega)
      exact JQ.done (.inr rfl) (Γ' := [Res.rd _ (r.smF lim).b.length 1 ((r.smF lim).b.map u8)]) (H' := [Res.cells p [_, it (r.smF lim).e] 218]) (res1 rfl (RV.tmp rfl)) (Subs.sub zq3) (Picks.perm zq1) ⟨_, by rw [hS] <;> rfl, by rw [hA], by rw [hA]⟩
    ·try simp only [decide_eq_true_eq, decide_eq_false_iff_not, Bool.not_eq_true', Bool.not_eq_false', ne_eq, Decidable.not_not, Bool.not_eq_true, Bool.and_eq_true, Bool.or_eq_true, BitVec.reduceToNat] at hc4
     have hl := Rdr.smO_len hc3 hc4
     refine JC.skip (JQ.then_normal (JC.seq (JC.seq (JC.region (JO.v (Yv.move rfl) (by decide) ?_)))))
     first | refine JO.v (Yv.indexRow1 (j := 0) Tryz.underlying79 sz_5 rfl rfl zq7 zq5) (by decide) ?_ | refine JO.v (Yv.indexRd1 (j := 0) Tryz.underlying79 sz_5 rfl rfl zq6 zq5) (by decide) ?_
     refine JO.v (Yv.as (v' := u8 r.k8) (Yv.load1 one_5 rfl zq4) rfl) (by decide) (JO.v (Yv.bin rfl rfl (BinR.gtr_u8 (b := 0#8))) (by decide) (JO.v (Yv.move rfl) (by decide) ?_))
     refine JO.join 5 50 (.bool (decide (0 < r.k8.toNat ∧ r.smO.getD 0 0 = 0))) ?_ ?_
     ·skip
      refine JO.gsplit (g := 44) rfl (fun hg45 => ?_) (fun hg45 => ?_)
      ·have hg45' := hg45
       try simp only [decide_eq_true_eq, decide_eq_false_iff_not, Bool.not_eq_true', Bool.not_eq_false', ne_eq, Decidable.not_not, Bool.not_eq_true, Bool.and_eq_true, Bool.or_eq_true, BitVec.reduceToNat] at hg45'
       refine JO.gt (g := 45) rfl rfl hg45 ?_
       refine JO.v (Yv.move rfl) (by decide) ?_
       refine JO.gt (g := 45) rfl rfl hg45 ?_
       first | refine JO.v (Yv.indexRow1 (j := 0) Tryz.underlying79 sz_5 rfl rfl zq7 zq5) (by decide) ?_ | refine JO.v (Yv.indexRd1 (j := 0) Tryz.underlying79 sz_5 rfl rfl zq6 zq5) (by decide) ?_
       refine JO.gt (g := 45) rfl rfl hg45 ?_
       refine JO.v (Yv.as (v' := u8 (r.smO.getD 0 0)) (Yv.load1 one_5 rfl zq4) rfl) (by decide) ?_
       refine JO.gt (g := 45) rfl rfl hg45 ?_
       refine JO.v (Yv.bin rfl rfl (BinR.eql_u8 (b := 0#8))) (by decide) (JO.v (Yv.pick1 rfl hg45 rfl) (by decide) (JO.nil ?_))
       refine JQ.head () zq19 (Subs.sub zq3) (Picks.perm zq1) ?_
       trivial
      ·have hg45' := hg45
       try simp only [decide_eq_true_eq, decide_eq_false_iff_not, Bool.not_eq_true', Bool.not_eq_false', ne_eq, Decidable.not_not, Bool.not_eq_true, Bool.and_eq_true, Bool.or_eq_true, BitVec.reduceToNat] at hg45'
       refine JO.gf (g := 45) rfl rfl hg45 (by decide) ?_
       refine JO.gf (g := 45) rfl rfl hg45 (by decide) ?_
       refine JO.gf (g := 45) rfl rfl hg45 (by decide) ?_
       refine JO.gf (g := 45) rfl rfl hg45 (by decide) ?_
       refine JO.v (Yv.pick0 rfl hg45 rfl) (by decide) (JO.nil ?_)
       refine JQ.head () zq19 (Subs.sub zq3) (Picks.perm zq1) ?_
       trivial
     ·skip
      refine JO.v (Yv.assign rfl) (by decide) (JO.nil (JQ.then_normal (JC.cond rfl (fun hc5 => ?_) (fun hc5 => ?_))))
      ·try simp only [decide_eq_true_eq, decide_eq_false_iff_not, Bool.not_eq_true', Bool.not_eq_false', ne_eq, Decidable.not_not, Bool.not_eq_true, Bool.and_eq_true, Bool.or_eq_true, BitVec.reduceToNat] at hc5
       have hF : r.smF lim = r.smR.wrong 31 := by rw [Rdr.smF, if_neg (not_not_intro hc3), if_neg hc4, if_pos hc5]
       refine JC.exit ?_
       refine JQ.then_exit ?_
       refine JQ.then_exit ?_
       refine JQ.block_other (by decide) ?_
       refine JQ.then_exit ?_
       refine JQ.block_other (by decide) ?_
       refine JQ.block_exit ?_
       refine JQ.then_normal (JC.seq (JC.region (JO.v (Yv.move rfl) (by decide) ?_)))
       refine JO.call (f151_spec p x.2 r.smR 31) body_151 rfl zq1 zq3 (by decide) ?_
       rintro _ _ _ ⟨_, _, ⟨v3, rfl, rfl, rfl⟩, hΓ, hH⟩
       simp only [List.cons_append, List.nil_append] at hΓ hH; subst hΓ hH
       rw [← hF]
       refine JO.nil (JQ.then_normal ?_)
       refine JC.exit ?_
       refine JQ.block_other (by decide) ?_
       refine JQ.then_exit ?_
       refine JQ.block_exit ?_
       refine JQ.then_normal (JC.seq (JC.seq (JC.region (JO.v (Yv.move rfl) (by decide) (JO.v (Yv.nilCheck rfl) (by decide) (JO.v (Yv.fieldAddr fa_218_1 rfl) (by decide) ?_))))))
       refine JO.v (Yv.load1 one_31 rfl zq4) (by decide) (JO.v (Yv.bin rfl rfl BinR.neq_i) (by decide) (JO.nil (JQ.then_normal (JC.cond rfl (fun hc7 => ?_) (fun hc7 => ?_)))))
       ·try simp only [decide_eq_true_eq, decide_eq_false_iff_not, Bool.not_eq_true', Bool.not_eq_false', ne_eq, Decidable.not_not, Bool.not_eq_true, Bool.and_eq_true, Bool.or_eq_true, BitVec.reduceToNat] at hc7
        have hS : r.sm lim = 0 := by rw [Rdr.sm, if_neg (by omega), if_pos hc7]
        refine JC.seq (JC.region (JO.v (Yv.assign rfl) (by decide) (JO.nil (JQ.then_normal ?_))))
        refine JC.ret ?_
        refine JQ.then_ret ?_
        have hA : r.smA lim = r.smF lim := if_neg (by omega)
        exact JQ.done (.inr rfl) (Γ' := [Res.rd _ (r.smF lim).b.length 1 ((r.smF lim).b.map u8)]) (H' := [Res.cells p [_, it (r.smF lim).e] 218]) (res1 rfl (RV.tmp rfl)) (Subs.sub zq3) (Picks.perm zq1) ⟨_, by rw [hS] <;> rfl, by rw [hA], by rw [hA]⟩
       ·try simp only [decide_eq_true_eq, decide_eq_false_iff_not, Bool.not_eq_true', Bool.not_eq_false', ne_eq, Decidable.not_not, Bool.not_eq_true, Bool.and_eq_true, Bool.or_eq_true, BitVec.reduceToNat] at hc7
        have hS : r.sm lim = (ofBytes r.smO).getD 0 0 := by rw [Rdr.sm, if_neg (by omega), if_neg (not_not_intro hc7)]
        refine JC.skip (JQ.then_normal (JC.seq (JC.region ?_)))
        first | refine JO.v (Yv.indexArr1 (j := 0) Tryz.underlying40 sz_22 rfl rfl zq5) (by decide) ?_ | refine JO.v (Yv.indexArr1o (j := 0) Tryz.underlying40 sz_22 rfl rfl zq5) (by decide) ?_
        refine JO.v (Yv.as (v' := u64 ((ofBytes r.smO).getD 0 0)) (Yv.load1 one_22 rfl zq4) rfl) (by decide) (JO.v (Yv.assign rfl) (by decide) (JO.nil (JQ.then_normal ?_)))
        refine JC.ret ?_
        have hA : r.smA lim = r.smF lim := if_neg (by omega)
        exact JQ.done (.inr rfl) (Γ' := [Res.rd _ (r.smF lim).b.length 1 ((r.smF lim).b.map u8)]) (H' := [Res.cells p [_, it (r.smF lim).e] 218]) (res1 rfl (RV.tmp rfl)) (Subs.sub zq3) (Picks.perm zq1) ⟨_, by rw [hS] <;> rfl, by rw [hA], by rw [hA]⟩
      ·try simp only [decide_eq_true_eq, decide_eq_false_iff_not, Bool.not_eq_true', Bool.not_eq_false', ne_eq, Decidable.not_not, Bool.not_eq_true, Bool.and_eq_true, Bool.or_eq_true, BitVec.reduceToNat] at hc5
       refine JC.skip (JQ.then_normal (JC.seq (JC.region ?_)))
       first | refine JO.v (Yv.indexArr1 (j := 0) Tryz.underlying40 sz_22 rfl rfl zq5) (by decide) ?_ | refine JO.v (Yv.indexArr1o (j := 0) Tryz.underlying40 sz_22 rfl rfl zq5) (by decide) ?_
       refine JO.v (Yv.as (v' := u64 ((ofBytes r.smO).getD 0 0)) (Yv.load1 one_22 rfl zq4) rfl) (by decide) (JO.v (Yv.move rfl) (by decide) (JO.v (Yv.bin rfl rfl (BinR.gtr_u64)) (by decide) (JO.v (Yv.assign rfl) (by decide) (JO.nil (JQ.then_normal (JC.cond rfl (fun hc6 => ?_) (fun hc6 => ?_)))))))
       ·try simp only [decide_eq_true_eq, decide_eq_false_iff_not, Bool.not_eq_true', Bool.not_eq_false', ne_eq, Decidable.not_not, Bool.not_eq_true, Bool.and_eq_true, Bool.or_eq_true, BitVec.reduceToNat] at hc6
        have hF : r.smF lim = r.smR.wrong 2 := by rw [Rdr.smF, if_neg (not_not_intro hc3), if_neg hc4, if_neg hc5, if_pos hc6]
        refine JC.exit ?_
        refine JQ.then_exit ?_
        refine JQ.block_other (by decide) ?_
        refine JQ.then_exit ?_
        refine JQ.block_other (by decide) ?_
        refine JQ.block_other (by decide) ?_
        refine JQ.then_exit ?_
        refine JQ.block_exit ?_
        refine JQ.then_normal (JC.seq (JC.region (JO.v (Yv.move rfl) (by decide) ?_)))
        refine JO.call (f151_spec p x.2 r.smR 2) body_151 rfl zq1 zq3 (by decide) ?_
        rintro _ _ _ ⟨_, _, ⟨v3, rfl, rfl, rfl⟩, hΓ, hH⟩
        simp only [List.cons_append, List.nil_append] at hΓ hH; subst hΓ hH
        rw [← hF]
        refine JO.nil (JQ.then_normal ?_)
        refine JC.exit ?_
        refine JQ.block_exit ?_
        refine JQ.then_normal (JC.seq (JC.seq (JC.region (JO.v (Yv.move rfl) (by decide) (JO.v (Yv.nilCheck rfl) (by decide) (JO.v (Yv.fieldAddr fa_218_1 rfl) (by decide) ?_))))))
        refine JO.v (Yv.load1 one_31 rfl zq4) (by decide) (JO.v (Yv.bin rfl rfl BinR.neq_i) (by decide) (JO.nil (JQ.then_normal (JC.cond rfl (fun hc7 => ?_) (fun hc7 => ?_)))))
        ·try simp only [decide_eq_true_eq, decide_eq_false_iff_not, Bool.not_eq_true', Bool.not_eq_false', ne_eq, Decidable.not_not, Bool.not_eq_true, Bool.and_eq_true, Bool.or_eq_true, BitVec.reduceToNat] at hc7
         have hS : r.sm lim = 0 := by rw [Rdr.sm, if_neg (by omega), if_pos hc7]
         refine JC.seq (JC.region (JO.v (Yv.assign rfl) (by decide) (JO.nil (JQ.then_normal ?_))))
         refine JC.ret ?_
         refine JQ.then_ret ?_
         have hA : r.smA lim = r.smF lim := if_neg (by omega)
         exact JQ.done (.inr rfl) (Γ' := [Res.rd _ (r.smF lim).b.length 1 ((r.smF lim).b.map u8)]) (H' := [Res.cells p [_, it (r.smF lim).e] 218]) (res1 rfl (RV.tmp rfl)) (Subs.sub zq3) (Picks.perm zq1) ⟨_, by rw [hS] <;> rfl, by rw [hA], by rw [hA]⟩
        ·try simp only [decide_eq_true_eq, decide_eq_false_iff_not, Bool.not_eq_true', Bool.not_eq_false', ne_eq, Decidable.not_not, Bool.not_eq_true, Bool.and_eq_true, Bool.or_eq_true, BitVec.reduceToNat] at hc7
         have hS : r.sm lim = (ofBytes r.smO).getD 0 0 := by rw [Rdr.sm, if_neg (by omega), if_neg (not_not_intro hc7)]
         refine JC.skip (JQ.then_normal (JC.seq (JC.region ?_)))
         first | refine JO.v (Yv.indexArr1 (j := 0) Tryz.underlying40 sz_22 rfl rfl zq5) (by decide) ?_ | refine JO.v (Yv.indexArr1o (j := 0) Tryz.underlying40 sz_22 rfl rfl zq5) (by decide) ?_
         refine JO.v (Yv.as (v' := u64 ((ofBytes r.smO).getD 0 0)) (Yv.load1 one_22 rfl zq4) rfl) (by decide) (JO.v (Yv.assign rfl) (by decide) (JO.nil (JQ.then_normal ?_)))
         refine JC.ret ?_
         have hA : r.smA lim = r.smF lim := if_neg (by omega)
         exact JQ.done (.inr rfl) (Γ' := [Res.rd _ (r.smF lim).b.length 1 ((r.smF lim).b.map u8)]) (H' := [Res.cells p [_, it (r.smF lim).e] 218]) (res1 rfl (RV.tmp rfl)) (Subs.sub zq3) (Picks.perm zq1) ⟨_, by rw [hS] <;> rfl, by rw [hA], by rw [hA]⟩
       ·try simp only [decide_eq_true_eq, decide_eq_false_iff_not, Bool.not_eq_true', Bool.not_eq_false', ne_eq, Decidable.not_not, Bool.not_eq_true, Bool.and_eq_true, Bool.or_eq_true, BitVec.reduceToNat] at hc6
        have hF : r.smF lim = r.smR := by rw [Rdr.smF, if_neg (not_not_intro hc3), if_neg hc4, if_neg hc5, if_neg hc6]
        rw [← hF]
        refine JC.skip (JQ.then_normal ?_)
        refine JC.exit ?_
        refine JQ.block_other (by decide) ?_
        refine JQ.then_exit ?_
        refine JQ.block_other (by decide) ?_
        refine JQ.block_other (by decide) ?_
        refine JQ.then_exit ?_
        refine JQ.block_other (by decide) ?_
        refine JQ.then_exit ?_
        refine JQ.block_exit ?_
        refine JQ.then_normal (JC.seq (JC.seq (JC.region (JO.v (Yv.move rfl) (by decide) (JO.v (Yv.nilCheck rfl) (by decide) (JO.v (Yv.fieldAddr fa_218_1 rfl) (by decide) ?_))))))
        refine JO.v (Yv.load1 one_31 rfl zq4) (by decide) (JO.v (Yv.bin rfl rfl BinR.neq_i) (by decide) (JO.nil (JQ.then_normal (JC.cond rfl (fun hc7 => ?_) (fun hc7 => ?_)))))
        ·try simp only [decide_eq_true_eq, decide_eq_false_iff_not, Bool.not_eq_true', Bool.not_eq_false', ne_eq, Decidable.not_not, Bool.not_eq_true, Bool.and_eq_true, Bool.or_eq_true, BitVec.reduceToNat] at hc7
         have hS : r.sm lim = 0 := by rw [Rdr.sm, if_neg (by omega), if_pos hc7]
         refine JC.seq (JC.region (JO.v (Yv.assign rfl) (by decide) (JO.nil (JQ.then_normal ?_))))
         refine JC.ret ?_
         refine JQ.then_ret ?_
         have hA : r.smA lim = r.smF lim := if_neg (by omega)
         exact JQ.done (.inr rfl) (Γ' := [Res.rd _ (r.smF lim).b.length 1 ((r.smF lim).b.map u8)]) (H' := [Res.cells p [_, it (r.smF lim).e] 218]) (res1 rfl (RV.tmp rfl)) (Subs.sub zq3) (Picks.perm zq1) ⟨_, by rw [hS] <;> rfl, by rw [hA], by rw [hA]⟩
        ·try simp only [decide_eq_true_eq, decide_eq_false_iff_not, Bool.not_eq_true', Bool.not_eq_false', ne_eq, Decidable.not_not, Bool.not_eq_true, Bool.and_eq_true, Bool.or_eq_true, BitVec.reduceToNat] at hc7
         have hS : r.sm lim = (ofBytes r.smO).getD 0 0 := by rw [Rdr.sm, if_neg (by omega), if_neg (not_not_intro hc7)]
         refine JC.skip (JQ.then_normal (JC.seq (JC.region ?_)))
         first | refine JO.v (Yv.indexArr1 (j := 0) Tryz.underlying40 sz_22 rfl rfl zq5) (by decide) ?_ | refine JO.v (Yv.indexArr1o (j := 0) Tryz.underlying40 sz_22 rfl rfl zq5) (by decide) ?_
         refine JO.v (Yv.as (v' := u64 ((ofBytes r.smO).getD 0 0)) (Yv.load1 one_22 rfl zq4) rfl) (by decide) (JO.v (Yv.assign rfl) (by decide) (JO.nil (JQ.then_normal ?_)))
         refine JC.ret ?_
         have hA : r.smA lim = r.smF lim := if_neg (by omega)
         exact JQ.done (.inr rfl) (Γ' := [Res.rd _ (r.smF lim).b.length 1 ((r.smF lim).b.map u8)]) (H' := [Res.cells p [_, it (r.smF lim).e] 218]) (res1 rfl (RV.tmp rfl)) (Subs.sub zq3) (Picks.perm zq1) ⟨_, by rw [hS] <;> rfl, by rw [hA], by rw [hA]⟩
end Go.Proofs.YtmhiapebljfebaaGreatDoor

/- Walks: numbers of four words, products. -/
namespace Go.Proofs.YtmhiapebljfebaaGreatDoor
open Go.RowKit
set_option maxRecDepth 100000
set_option linter.unusedVariables false
set_option linter.unusedSimpArgs false
theorem zq0 {p : Prop} (h : p := by first | (refine ⟨by first | rfl | exact congrArg (fun b => some (Value.bool b)) (by first | exact (decide_eq_true (by omega)).symm | exact (decide_eq_false (by omega)).symm | exact decide_eq_decide.2 (by omega)) | (simp [*]; done) | (show some _ = some _; simp [*]; done), ?_⟩; repeat (first | exact trivial | refine ⟨rfl, ?_⟩))) : p := h
theorem zq16 {p : Prop} (h : p := by first | omega | (simp; omega)) : p := h
theorem eql_nat {x y : Operand} {us vs : List W64} (ha : us.length = 4) (hb : vs.length = 4) : BinR Tryz.prog .eql 40 x y (.agg (us.map u64).toArray) (.agg (vs.map u64).toArray) (.bool (decide (us = vs))) :=
 BinR.eql_arr (f := u64) (g := fun x => (x.toNat : Int)) (k := .u64) Tryz.underlying40 Tryz.underlying22 sz_22 (by kernel_rfl) (fun _ => rfl) (fun x y h => BitVec.eq_of_toNat_eq (by exact Int.ofNat.inj h)) us vs ha hb
theorem neq_nat {x y : Operand} {us vs : List W64} (ha : us.length = 4) (hb : vs.length = 4) : BinR Tryz.prog .neq 40 x y (.agg (us.map u64).toArray) (.agg (vs.map u64).toArray) (.bool (!decide (us = vs))) :=
 BinR.neq_arr (f := u64) (g := fun x => (x.toNat : Int)) (k := .u64) Tryz.underlying40 Tryz.underlying22 sz_22 (by kernel_rfl) (fun _ => rfl) (fun x y h => BitVec.eq_of_toNat_eq (by exact Int.ofNat.inj h)) us vs ha hb

theorem f163_spec (a b : Nat) (ha : a < 115792089237316195423570985008687907853269984665640564039457584007913129639936) (hb : b < 115792089237316195423570985008687907853269984665640564039457584007913129639936) :
  Spec Tryz.prog 163 #[(.agg ((wd a).map u64).toArray), (.agg ((wd b).map u64).toArray)] [] []
   (fun r Γ' H' => r = (.tuple #[.agg ((wd (a + b)).map u64).toArray, u64 (BitVec.ofNat 64 ((a + b) / 115792089237316195423570985008687907853269984665640564039457584007913129639936))]) ∧ Γ' = [] ∧ H' = []) := by
 refine Spec.of_args Tryz.func163 rfl Tryz.ntmps163 (by simp) fun w => ?_
 refine .seq (.region ?_)
 refine .bx fun b2 => ?_
 refine .bx fun b3 => ?_
 refine .al zero_40 fun b4 => ?_
 refine .w (.as (v' := u64 (cry a b 0)) (.assign rfl) (by rw [cry_0]; rfl)) ?_
 refine .nil (.tn (.seq (.seq (.region ?_))))
 refine .w (.move rfl) ?_
 refine .nil (.tn (.block ?_))
 refine .lp (ι := Nat) (fun x => x ≤ 4) (fun T x => (2, ptr b2 0) :: (3, ptr b3 0) :: (4, ptr b4 0) :: (5, u64 (cry a b x)) :: (7, it (x : Int)) :: T) (fun T _ => T) (fun T x => Res.cells b2 ((wd a).map u64) 40 :: Res.cells b3 ((wd b).map u64) 40 :: Res.cells b4 (tw (wat (a + b)) x) 40 :: T) (fun x => 4 - x) 0 [24, 25] ?_ (fun x hx => ?_)
 ·exact Nat.zero_le _
 refine .seq (.region ?_)
 refine .w (.bin rfl rfl BinR.lss_i) ?_
 refine .nil (.tn (.seq ?_))
 refine .cn rfl (fun hc1 => ?_) (fun hc1 => ?_)
 ·refine .skip (.tn (.seq (.block (.seq (.region ?_)))))
  refine .w (.move rfl) (.w (.assign rfl) ?_)
  refine .nil (.tn ?_)
  refine JC.draw (.one 0 (.one 1 (.one 2 (.one 3 (.one 4 (.one 5 (.one 6 (.one 7 (.one 8 (.one 9 (.one 10 (.one 11 (.one 12 (.one 13 (.one 14 .nil))))))))))))))) (fun i => ([13] : List Nat).contains i) (fun i => ([13] : List Nat).contains i) (fun i => ([0, 1, 2, 4, 5, 7, 8, 9, 10, 11, 12, 14] : List Nat).contains i) mixed (by kernel_rfl) (by decide) (by kernel_rfl) ?_
  refine .uw rfl (.move rfl) (.uw rfl (.move rfl) (.uw rfl (.ixA Tryz.underlying40 sz_22 rfl rfl) (.w rfl (.ld one_22 rfl (hj := by first | exact wd_get _ (by omega) | rfl | exact tab_get zq16 | exact gm (d := 0) zq16)) (.uw rfl (.move rfl) (.uw rfl (.ixA Tryz.underlying40 sz_22 rfl rfl) (.w rfl (.ld one_22 rfl (hj := by first | exact wd_get _ (by omega) | rfl | exact tab_get zq16 | exact gm (d := 0) zq16)) ?_))))))
  refine .uw rfl (.move rfl) (.uw rfl (.as (v' := .tuple #[u64 (wat (a + b) x), u64 (cry a b (x + 1))]) (.ext rfl (ext_193 _ _ _ (cry_le _ _ _))) (by rw [add_word a b (by omega), add_cry a b (by omega)])) (.uw rfl (.move rfl) (.uw rfl (.as (v' := u64 (wat (a + b) x)) (.extract rfl rfl) rfl) (.uw rfl (.as (v' := u64 (cry a b (x + 1))) (.extract rfl rfl) rfl) (.uw rfl (.ixA Tryz.underlying40 sz_22 rfl rfl) ?_)))))
  first | refine .mw0 rfl (.s1 sz_22) ?_ | refine .mw0 rfl (.sr1 sz_22) ?_
  rintro _ _ _ ⟨rfl, rfl⟩
  refine kp ?_
  refine .uw rfl (.assign rfl) ?_
  refine .nil (.block_normal (.tn (.region ?_)))
  refine .w (.bin rfl rfl (BinR.add_i (by first | (constructor <;> omega) | (constructor <;> simp <;> omega)))) (.w (.move rfl) (.nil ?_))
  rw [tw_set]
  refine .hd (x + 1) ?_
  exact ⟨by omega, by omega⟩
 ·obtain rfl : x = 4 := by omega
  rw [tw_4]
  refine .exit (.then_exit (.then_exit (.block_exit (.tn (.seq (.region ?_))))))
  refine .w (.lda agg_40 rfl) (.w (.as (v' := u64 (BitVec.ofNat 64 ((a + b) / 115792089237316195423570985008687907853269984665640564039457584007913129639936))) (.move rfl) (congrArg u64 (cry_4 ha hb))) ?_)
  first | refine .sa sz_40 ?_ | refine .so sz_40 ?_ | refine .sr sz_40 ?_
  refine .w (.assign rfl) ?_
  refine .nil (.tn (.ret ?_))
  exact .dn [] [] (res2 rfl (.cl agg_40) (.tmp rfl)) ⟨rfl, rfl, rfl⟩

theorem f195_spec (a b : Nat) (ha : a < 115792089237316195423570985008687907853269984665640564039457584007913129639936) (hb : b < 115792089237316195423570985008687907853269984665640564039457584007913129639936) :
  Spec Tryz.prog 195 #[(.agg ((wd a).map u64).toArray), (.agg ((wd b).map u64).toArray)] [] []
   (fun r Γ' H' => r = (.tuple #[.agg ((wd (115792089237316195423570985008687907853269984665640564039457584007913129639936 + a - b)).map u64).toArray, u64 (if a < b then 1 else 0)]) ∧ Γ' = [] ∧ H' = []) := by
 refine Spec.of_args Tryz.func195 rfl Tryz.ntmps195 (by simp) fun w => ?_
 refine .seq (.region ?_)
 refine .bx fun b2 => ?_
 refine .bx fun b3 => ?_
 refine .al zero_40 fun b4 => ?_
 refine .w (.as (v' := u64 (brw a b 0)) (.assign rfl) (by rw [brw_0]; rfl)) ?_
 refine .nil (.tn (.seq (.seq (.region ?_))))
 refine .w (.move rfl) ?_
 refine .nil (.tn (.block ?_))
 refine .lp (ι := Nat) (fun x => x ≤ 4) (fun T x => (2, ptr b2 0) :: (3, ptr b3 0) :: (4, ptr b4 0) :: (5, u64 (brw a b x)) :: (7, it (x : Int)) :: T) (fun T _ => T) (fun T x => Res.cells b2 ((wd a).map u64) 40 :: Res.cells b3 ((wd b).map u64) 40 :: Res.cells b4 (tw (wat (115792089237316195423570985008687907853269984665640564039457584007913129639936 + a - b)) x) 40 :: T) (fun x => 4 - x) 0 [24, 25] ?_ (fun x hx => ?_)
 ·exact Nat.zero_le _
 refine .seq (.region ?_)
 refine .w (.bin rfl rfl BinR.lss_i) ?_
 refine .nil (.tn (.seq ?_))
 refine .cn rfl (fun hc1 => ?_) (fun hc1 => ?_)
 ·refine .skip (.tn (.seq (.block (.seq (.region ?_)))))
  refine .w (.move rfl) (.w (.assign rfl) ?_)
  refine .nil (.tn ?_)
  refine JC.draw (.one 0 (.one 1 (.one 2 (.one 3 (.one 4 (.one 5 (.one 6 (.one 7 (.one 8 (.one 9 (.one 10 (.one 11 (.one 12 (.one 13 (.one 14 .nil))))))))))))))) (fun i => ([13] : List Nat).contains i) (fun i => ([13] : List Nat).contains i) (fun i => ([0, 1, 2, 4, 5, 7, 8, 9, 10, 11, 12, 14] : List Nat).contains i) mixed (by kernel_rfl) (by decide) (by kernel_rfl) ?_
  refine .uw rfl (.move rfl) (.uw rfl (.move rfl) (.uw rfl (.ixA Tryz.underlying40 sz_22 rfl rfl) (.w rfl (.ld one_22 rfl (hj := by first | exact wd_get _ (by omega) | rfl | exact tab_get zq16 | exact gm (d := 0) zq16)) (.uw rfl (.move rfl) (.uw rfl (.ixA Tryz.underlying40 sz_22 rfl rfl) (.w rfl (.ld one_22 rfl (hj := by first | exact wd_get _ (by omega) | rfl | exact tab_get zq16 | exact gm (d := 0) zq16)) ?_))))))
  refine .uw rfl (.move rfl) (.uw rfl (.as (v' := .tuple #[u64 (wat (115792089237316195423570985008687907853269984665640564039457584007913129639936 + a - b) x), u64 (brw a b (x + 1))]) (.ext rfl (ext_215 _ _ _ (brw_le _ _ _))) (by rw [sub_word hb (by omega), sub_brw a b (by omega)])) (.uw rfl (.move rfl) (.uw rfl (.as (v' := u64 (wat (115792089237316195423570985008687907853269984665640564039457584007913129639936 + a - b) x)) (.extract rfl rfl) rfl) (.uw rfl (.as (v' := u64 (brw a b (x + 1))) (.extract rfl rfl) rfl) (.uw rfl (.ixA Tryz.underlying40 sz_22 rfl rfl) ?_)))))
  first | refine .mw0 rfl (.s1 sz_22) ?_ | refine .mw0 rfl (.sr1 sz_22) ?_
  rintro _ _ _ ⟨rfl, rfl⟩
  refine kp ?_
  refine .uw rfl (.assign rfl) ?_
  refine .nil (.block_normal (.tn (.region ?_)))
  refine .w (.bin rfl rfl (BinR.add_i (by first | (constructor <;> omega) | (constructor <;> simp <;> omega)))) (.w (.move rfl) (.nil ?_))
  rw [tw_set]
  refine .hd (x + 1) ?_
  exact ⟨by omega, by omega⟩
 ·obtain rfl : x = 4 := by omega
  rw [tw_4]
  refine .exit (.then_exit (.then_exit (.block_exit (.tn (.seq (.region ?_))))))
  refine .w (.lda agg_40 rfl) (.w (.as (v' := u64 (if a < b then 1 else 0)) (.move rfl) (congrArg u64 (brw_4 ha hb))) ?_)
  first | refine .sa sz_40 ?_ | refine .so sz_40 ?_ | refine .sr sz_40 ?_
  refine .w (.assign rfl) ?_
  refine .nil (.tn (.ret ?_))
  exact .dn [] [] (res2 rfl (.cl agg_40) (.tmp rfl)) ⟨rfl, rfl, rfl⟩

theorem f52_spec (a b : Nat) (ha : a < 115792089237316195423570985008687907853269984665640564039457584007913129639936) (hb : b < 115792089237316195423570985008687907853269984665640564039457584007913129639936) :
  Spec Tryz.prog 52 #[(.agg ((wd a).map u64).toArray), (.agg ((wd b).map u64).toArray)] [] []
   (fun r Γ' H' => r = (it (cmpN a b)) ∧ Γ' = [] ∧ H' = []) := by
 refine Spec.of_args Tryz.func52 rfl Tryz.ntmps52 (by simp) fun w => ?_
 refine .seq (.region ?_)
 refine .bx fun b2 => ?_
 refine .bx fun b3 => ?_
 refine .w (.assign rfl) ?_
 refine .nil (.tn (.scope (.seq (.region ?_))))
 refine .w (.assign rfl) ?_
 refine .nil (.tn (.seq (.label (.tn (.seq (.seq (.region ?_)))))))
 refine .w (.move rfl) ?_
 refine .nil (.tn (.block ?_))
 refine .lp (ι := Nat) (fun x => x ≤ 4 ∧ a / pw (4 - x) = b / pw (4 - x)) (fun T x => (2, ptr b2 0) :: (3, ptr b3 0) :: (5, it 0) :: (8, it (x : Int)) :: T) (fun T _ => T) (fun T x => Res.cells b2 ((wd a).map u64) 40 :: Res.cells b3 ((wd b).map u64) 40 :: T) (fun x => 4 - x) 0 [4, 30] ?_ (fun x hx => ?_)
 ·exact ⟨Nat.zero_le _, by show a / pw 4 = b / pw 4; rw [pw_4, Nat.div_eq_of_lt ha, Nat.div_eq_of_lt hb]⟩
 refine .seq (.region ?_)
 refine .w (.bin rfl rfl BinR.lss_i) ?_
 refine .nil (.tn (.seq ?_))
 refine .cn rfl (fun hc1 => ?_) (fun hc1 => ?_)
 ·refine .skip (.tn (.seq (.block (.seq (.region ?_)))))
  refine .w (.move rfl) (.w (.assign rfl) ?_)
  refine .nil (.tn (.seq (.region ?_)))
  refine .w (.move rfl) (.w (.asI ((3 - x : Nat) : Int) (.bin rfl rfl (BinR.sub_i (by first | (constructor <;> omega) | (constructor <;> simp <;> omega))))) (.w (.assign rfl) ?_))
  refine .nil (.tn (.block (.seq ?_)))
  refine JC.draw (.one 0 (.one 1 (.one 2 (.one 3 (.one 4 (.one 5 (.one 6 (.one 7 .nil)))))))) (fun i => ([] : List Nat).contains i) (fun i => ([] : List Nat).contains i) (fun i => ([0, 1, 3, 4, 6, 7] : List Nat).contains i) mixed (by kernel_rfl) (by decide) (by kernel_rfl) ?_
  refine .uw rfl (.move rfl) (.uw rfl (.ixA Tryz.underlying40 sz_22 rfl rfl) (.w rfl (.ld one_22 rfl (hj := by first | exact wd_get _ (by omega) | rfl | exact tab_get zq16 | exact gm (d := 0) zq16)) (.uw rfl (.move rfl) (.uw rfl (.ixA Tryz.underlying40 sz_22 rfl rfl) (.w rfl (.ld one_22 rfl (hj := by first | exact wd_get _ (by omega) | rfl | exact tab_get zq16 | exact gm (d := 0) zq16)) (.uw rfl (.bin rfl rfl (BinR.lss_u64)) ?_))))))
  refine .uw rfl (.assign rfl) ?_
  refine .nil (.tn ?_)
  refine .cn rfl (fun hc2 => ?_) (fun hc2 => ?_)
  ·have hres : cmpN a b = -1 := by simp [cmpN, cmp_step (by omega) hx.2 hc2]
   refine .seq (.region ?_)
   refine .w (.assign rfl) ?_
   refine .nil (.tn (.exit (.block_other (by decide) (.block_other (by decide) (.then_exit (.then_exit (.block_exit (.tn (.seq (.region ?_))))))))))
   refine .w (.as (v' := it (cmpN a b)) (.move rfl) (congrArg it hres.symm)) (.w (.assign rfl) ?_)
   refine .nil (.tn (.ret (.scope_ret ?_)))
   exact .dn [] [] (res1 rfl (.tmp rfl)) ⟨rfl, rfl, rfl⟩
  ·refine .seq ?_
   refine JC.draw (.one 0 (.one 1 (.one 2 (.one 3 (.one 4 (.one 5 (.one 6 (.one 7 .nil)))))))) (fun i => ([] : List Nat).contains i) (fun i => ([] : List Nat).contains i) (fun i => ([0, 1, 3, 4, 6, 7] : List Nat).contains i) mixed (by kernel_rfl) (by decide) (by kernel_rfl) ?_
   refine .uw rfl (.move rfl) (.uw rfl (.ixA Tryz.underlying40 sz_22 rfl rfl) (.w rfl (.ld one_22 rfl (hj := by first | exact wd_get _ (by omega) | rfl | exact tab_get zq16 | exact gm (d := 0) zq16)) (.uw rfl (.move rfl) (.uw rfl (.ixA Tryz.underlying40 sz_22 rfl rfl) (.w rfl (.ld one_22 rfl (hj := by first | exact wd_get _ (by omega) | rfl | exact tab_get zq16 | exact gm (d := 0) zq16)) (.uw rfl (.bin rfl rfl (BinR.gtr_u64)) ?_))))))
   refine .uw rfl (.assign rfl) ?_
   refine .nil (.tn ?_)
   refine .cn rfl (fun hc3 => ?_) (fun hc3 => ?_)
   ·have hres : cmpN a b = 1 := by have h := cmp_step (by omega) hx.2.symm hc3; rw [cmpN, if_neg (by omega), if_pos h]
    refine .seq (.region ?_)
    refine .w (.assign rfl) ?_
    refine .nil (.tn (.exit (.block_other (by decide) (.block_other (by decide) (.then_exit (.then_exit (.block_exit (.tn (.seq (.region ?_))))))))))
    refine .w (.as (v' := it (cmpN a b)) (.move rfl) (congrArg it hres.symm)) (.w (.assign rfl) ?_)
    refine .nil (.tn (.ret (.scope_ret ?_)))
    exact .dn [] [] (res1 rfl (.tmp rfl)) ⟨rfl, rfl, rfl⟩
   ·refine .skip (.block_normal (.block_normal (.tn (.region ?_))))
    refine .w (.bin rfl rfl (BinR.add_i (by first | (constructor <;> omega) | (constructor <;> simp <;> omega)))) (.w (.move rfl) (.nil ?_))
    refine .hd (x + 1) ?_
    exact ⟨⟨by omega, cmp_next (by omega) hx.2 hc2 (by omega)⟩, by omega⟩
 ·obtain rfl : x = 4 := by omega
  have hres : cmpN a b = 0 := by have h := hx.2; simp only [Nat.sub_self, pw_0, Nat.div_one] at h; simp [cmpN, h]
  refine .exit (.then_exit (.then_exit (.block_exit (.tn (.seq (.region ?_))))))
  refine .w (.as (v' := it (cmpN a b)) (.move rfl) (congrArg it hres.symm)) (.w (.assign rfl) ?_)
  refine .nil (.tn (.ret (.scope_ret ?_)))
  exact .dn [] [] (res1 rfl (.tmp rfl)) ⟨rfl, rfl, rfl⟩

theorem f160_spec (a i : Nat) (hi : i < 256) :
  Spec Tryz.prog 160 #[(.agg ((wd a).map u64).toArray), (it (i : Int))] [] []
   (fun r Γ' H' => r = (u64 (bitN a i)) ∧ Γ' = [] ∧ H' = []) := by
 refine Spec.of_args Tryz.func160 rfl Tryz.ntmps160 (by simp) fun w => ?_
 refine .seq (.region ?_)
 refine .bx fun b2 => ?_
 refine .w (.assign rfl) ?_
 refine .nil (.tn (.seq (.seq (.region ?_))))
 refine .w (.move rfl) (.w (.asF (.bin rfl rfl BinR.lss_i)) (.w (.move rfl) ?_))
 refine .gt (g := 7) rfl rfl rfl ?_
 refine .w (.move rfl) ?_
 refine .gt (g := 7) rfl rfl rfl ?_
 refine .w (.asF (.bin rfl rfl BinR.geq_i)) (.w (.pick0 rfl rfl rfl) ?_)
 refine .nil (.tn ?_)
 refine .cn rfl (fun hc1 => ?_) (fun hc1 => ?_)
 ·exact absurd hc1 (by decide)
 ·refine .skip (.tn (.seq (.region ?_)))
  refine .w (.move rfl) (.w (.asI ((i / 64 : Nat) : Int) (.bin rfl rfl (BinR.quo_i zq18 zq18 (by first | (constructor <;> omega) | (constructor <;> simp <;> omega))))) (.w (.ixA Tryz.underlying40 sz_22 rfl rfl) (.w (.ld one_22 rfl (hj := by first | exact wd_get _ (by omega) | rfl | exact tab_get zq16 | exact gm (d := 0) zq16)) (.w (.move rfl) (.w (.asI ((i % 64 : Nat) : Int) (.bin rfl rfl (BinR.rem_i zq18 zq18))) (.w (.as (v' := u64 (wat a (i / 64) >>> (i % 64))) (.bin rfl rfl (BinR.shr_u64_i zq18)) (congrArg (fun n => u64 (wat a (i / 64) >>> n)) (by omega))) ?_))))))
  refine .w (.as (v' := u64 (bitN a i)) (.bin rfl rfl (BinR.and_u64 (b := 1#64))) (congrArg u64 (bit_at a hi))) (.w (.assign rfl) ?_)
  refine .nil (.tn (.ret ?_))
  exact .dn [] [] (res1 rfl (.tmp rfl)) ⟨rfl, rfl, rfl⟩

theorem f214_spec (a : Nat) (i : Int) :
  Spec Tryz.prog 214 #[(.agg ((wd a).map u64).toArray), (it i)] [] []
   (fun r Γ' H' => r = (u64 (wordN a i)) ∧ Γ' = [] ∧ H' = []) := by
 refine Spec.of_args Tryz.func214 rfl Tryz.ntmps214 (by simp) fun w => ?_
 refine .seq (.region ?_)
 refine .bx fun b2 => ?_
 refine .w (.assign rfl) ?_
 refine .nil (.tn (.seq (.seq (.region ?_))))
 refine .w (.move rfl) (.w (.bin rfl rfl BinR.lss_i) (.w (.move rfl) ?_))
 refine .join 3 10 (.bool (decide (i < 0 ∨ i ≥ 4))) ?_ ?_
 ·refine .gn (g := 6) rfl (fun hg6 hg6' => ?_) (fun hg6 hg6' => ?_)
  ·refine .gf (g := 7) rfl rfl hg6 (by decide) ?_
   refine .gf (g := 7) rfl rfl hg6 (by decide) ?_
   refine .w (.pick1 rfl hg6 rfl) (.nil ?_)
   refine .head () zq0 (fun _ h => h) (Picks.perm zq1) ?_
   trivial
  ·refine .gt (g := 7) rfl rfl hg6 ?_
   refine .w (.move rfl) ?_
   refine .gt (g := 7) rfl rfl hg6 ?_
   refine .w (.bin rfl rfl BinR.geq_i) (.w (.pick0 rfl hg6 rfl) (.nil ?_))
   refine .head () zq0 (fun _ h => h) (Picks.perm zq1) ?_
   trivial
 ·refine .nil (.tn ?_)
  refine .cn rfl (fun hc1 => ?_) (fun hc1 => ?_)
  ·skip
   refine .seq (.region ?_)
   refine .w (.as (v' := u64 (wordN a i)) (.assign rfl) (by rw [wordN, if_neg (by omega)]; rfl)) ?_
   refine .nil (.tn (.ret (.then_ret ?_)))
   exact .dn [] [] (res1 rfl (.tmp rfl)) ⟨rfl, rfl, rfl⟩
  ·obtain ⟨n, rfl⟩ : ∃ n : Nat, i = n := ⟨i.toNat, by omega⟩
   refine .skip (.tn (.seq (.region ?_)))
   refine .w (.move rfl) (.w (.ixA Tryz.underlying40 sz_22 rfl rfl) (.w (.ld one_22 rfl (hj := by first | exact wd_get _ (by omega) | rfl | exact tab_get zq16 | exact gm (d := 0) zq16)) (.w (.as (v' := u64 (wordN a n)) (.assign rfl) (by rw [wordN, if_pos (by omega)]; rfl)) ?_)))
   refine .nil (.tn (.ret ?_))
   exact .dn [] [] (res1 rfl (.tmp rfl)) ⟨rfl, rfl, rfl⟩

theorem f194_spec (a : Nat) :
  Spec Tryz.prog 194 #[(.agg ((wd a).map u64).toArray), (it 1)] [] []
   (fun r Γ' H' => r = (.agg ((wd (2 * a)).map u64).toArray) ∧ Γ' = [] ∧ H' = []) := by
 refine Spec.of_args Tryz.func194 rfl Tryz.ntmps194 (by simp) fun w => ?_
 refine .seq (.region ?_)
 refine .bx fun b2 => ?_
 refine .al zero_40 fun b4 => ?_
 refine .nil (.tn (.seq (.region ?_)))
 refine .al zero_40 fun b5 => ?_
 refine .nil (.tn (.seq (.seq (.region ?_))))
 refine .w (.move rfl) (.w (.asF (.bin rfl rfl BinR.leq_i)) (.w (.move rfl) ?_))
 refine .gt (g := 11) rfl rfl rfl ?_
 refine .w (.move rfl) ?_
 refine .gt (g := 11) rfl rfl rfl ?_
 refine .w (.asF (.bin rfl rfl BinR.geq_i)) (.w (.pick0 rfl rfl rfl) ?_)
 refine .nil (.tn ?_)
 refine .cn rfl (fun hc1 => ?_) (fun hc1 => ?_)
 ·exact absurd hc1 (by decide)
 ·refine .skip (.tn (.seq (.region ?_)))
  refine .w (.move rfl) (JO.v (Yv.bin rfl rfl shr_1_6) (by decide) (.w (.move rfl) (JO.v (Yv.bin rfl rfl and_1_63) (by decide) (.w (.assign rfl) (.w (.assign rfl) ?_)))))
  refine .nil (.tn (.seq (.seq (.region ?_))))
  refine .w (.move rfl) ?_
  refine .nil (.tn (.block ?_))
  refine .lp (ι := Nat) (fun x => x ≤ 4) (fun T x => (2, ptr b2 0) :: (4, ptr b4 0) :: (5, ptr b5 0) :: (6, it 0) :: (7, it 1) :: (20, it (x : Int)) :: T) (fun T _ => T) (fun T x => Res.cells b2 ((wd a).map u64) 40 :: Res.cells b4 ((wd 0).map u64) 40 :: Res.cells b5 (tw (wat (2 * a)) x) 40 :: T) (fun x => 4 - x) 0 [44] ?_ (fun x hx => ?_)
  ·exact Nat.zero_le _
  refine .seq (.region ?_)
  refine .w (.bin rfl rfl BinR.lss_i) ?_
  refine .nil (.tn (.seq ?_))
  refine .cn rfl (fun hc2 => ?_) (fun hc2 => ?_)
  ·refine .skip (.tn (.seq (.block (.seq (.region ?_)))))
   refine .w (.move rfl) (.w (.assign rfl) ?_)
   refine .nil (.tn ?_)
   refine JC.draw (.one 0 (.one 1 (.one 2 (.one 3 (.one 4 (.one 6 (.one 8 (.one 9 (.one 10 (.one 11 (.one 12 (.one 15 (.one 16 (.one 5 (.one 7 (.one 13 (.one 14 (.one 17 (.one 18 (.one 19 (.one 20 .nil))))))))))))))))))))) (fun i => ([13, 20] : List Nat).contains i) (fun i => ([5, 13, 20] : List Nat).contains i) (fun i => ([0, 2, 3, 4, 6, 7, 9, 10, 11, 12, 14, 15, 16, 17, 18, 19] : List Nat).contains i) mixed (by kernel_rfl) (by decide) (by kernel_rfl) ?_
   refine .uw rfl (.move rfl) (.w rfl (.lda agg_40 rfl) (.uw rfl (.move rfl) (.uw rfl (.move rfl) (.uw rfl (.asI (x : Int) (.bin rfl rfl (BinR.sub_i (by first | (constructor <;> omega) | (constructor <;> simp <;> omega))))) (.uw rfl (.move rfl) (.w rfl (.lda agg_40 rfl) ?_))))))
   refine .uw rfl (.move rfl) (.uw rfl (.move rfl) (.uw rfl (.asI (x : Int) (.bin rfl rfl (BinR.sub_i (by first | (constructor <;> omega) | (constructor <;> simp <;> omega))))) (.uw rfl (.bin rfl rfl (BinR.sub_i (by first | (constructor <;> omega) | (constructor <;> simp <;> omega)))) (.uw rfl (.move rfl) (.uw rfl (.asI 62 (.bin rfl rfl (BinR.sub_i (by first | (constructor <;> omega) | (constructor <;> simp <;> omega))))) ?_)))))
   refine .mw rfl (.c (f214_spec a (x : Int)) body_214) ?_
   rintro _ _ _ ⟨rfl, rfl, rfl⟩
   refine kp ?_
   refine .uw rfl (.as (v' := u64 (wordN a x <<< 1)) (.bin rfl rfl (BinR.shl_u64_i zq18)) rfl) ?_
   refine .mw rfl (.c (f214_spec a ((x : Int) - 1)) body_214) ?_
   rintro _ _ _ ⟨rfl, rfl, rfl⟩
   refine kp ?_
   refine .uw rfl (.as (v' := u64 (wordN a ((x : Int) - 1) >>> 1)) (.bin rfl rfl (BinR.shr_u64_u64 (n := 1#64))) rfl) (.uw rfl (.as (v' := u64 (wordN a ((x : Int) - 1) >>> 1 >>> 62)) (.bin rfl rfl (BinR.shr_u64_i zq18)) rfl) (.uw rfl (.as (v' := u64 (wat (2 * a) x)) (.bin rfl rfl (BinR.or_u64)) (congrArg u64 (shift_w a (by omega)))) (.uw rfl (.ixA Tryz.underlying40 sz_22 rfl rfl) ?_)))
   first | refine .mw0 rfl (.s1 sz_22) ?_ | refine .mw0 rfl (.sr1 sz_22) ?_
   rintro _ _ _ ⟨rfl, rfl⟩
   refine kp ?_
   refine .nil (.block_normal (.tn (.region ?_)))
   refine .w (.bin rfl rfl (BinR.add_i (by first | (constructor <;> omega) | (constructor <;> simp <;> omega)))) (.w (.move rfl) (.nil ?_))
   rw [tw_set]
   refine .hd (x + 1) ?_
   exact ⟨by omega, by omega⟩
  ·obtain rfl : x = 4 := by omega
   rw [tw_4]
   refine .exit (.then_exit (.then_exit (.block_exit (.tn (.seq (.region ?_))))))
   refine .w (.lda agg_40 rfl) ?_
   first | refine .sa sz_40 ?_ | refine .so sz_40 ?_ | refine .sr sz_40 ?_
   refine .nil (.tn (.ret ?_))
   exact .dn [] [] (res1 rfl (.cl agg_40)) ⟨rfl, rfl, rfl⟩

theorem f164_spec (z m t : Nat) (hr : z < m) (hm : m < 115792089237316195423570985008687907853269984665640564039457584007913129639936) (ht : t < 2) :
  Spec Tryz.prog 164 #[(.agg ((wd z).map u64).toArray), (.agg ((wd m).map u64).toArray), (u64 (BitVec.ofNat 64 t))] [] []
   (fun r Γ' H' => r = (.tuple #[.agg ((wd (brF z m t)).map u64).toArray, u64 (BitVec.ofNat 64 (brG z m t))]) ∧ Γ' = [] ∧ H' = []) := by
 refine Spec.of_args Tryz.func164 rfl Tryz.ntmps164 (by simp) fun w => ?_
 refine .seq (.region ?_)
 refine .bx fun b3 => ?_
 refine .bx fun b4 => ?_
 refine .al zero_40 fun b6 => ?_
 refine .w (.assign rfl) ?_
 refine .nil (.tn (.seq (.region ?_)))
 refine .w (.lda agg_40 rfl) (.c (f160_spec z 255 (by decide)) body_160 ?_)
 refine .w (.assign rfl) ?_
 refine .nil (.tn (.seq (.region ?_)))
 refine .w (.lda agg_40 rfl) (.c (f194_spec z) body_194 ?_)
 first | refine .sa sz_40 ?_ | refine .so sz_40 ?_ | refine .sr sz_40 ?_
 refine .nil (.tn (.seq (.region ?_)))
 refine .w (.ixA (j := 0) Tryz.underlying40 sz_22 rfl rfl) (.w (.ld one_22 rfl (hj := by first | exact wd_get _ (by omega) | rfl | exact tab_get zq16 | exact gm (d := 0) zq16)) (.w (.move rfl) (.w (.bin rfl rfl (BinR.or_u64)) (.w (.ixA (j := 0) Tryz.underlying40 sz_22 rfl rfl) ?_))))
 first | refine .s1 sz_22 ?_ | refine .sr1 sz_22 ?_
 rw [dbl_or' z ht]
 refine .nil (.tn (.seq (.seq (.region ?_))))
 refine .w (.move rfl) (.w (.bin rfl rfl (BinR.eql_u64 (b := 1#64))) (.w (.move rfl) ?_))
 refine .join 5 25 (.bool (decide (m ≤ 2 * z + t))) ?_ ?_
 ·refine .gn (g := 19) rfl (fun hg20 hg20' => ?_) (fun hg20 hg20' => ?_)
  ·try simp only [BitVec.reduceToNat] at hg20'
   have hle : m ≤ 2 * z + t := over_t hr hm hg20'
   refine .gf (g := 20) rfl rfl hg20 (by decide) ?_
   refine .gf (g := 20) rfl rfl hg20 (by decide) ?_
   refine .gf (g := 20) rfl rfl hg20 (by decide) ?_
   refine .gf (g := 20) rfl rfl hg20 (by decide) ?_
   refine .w (.pick1 rfl hg20 rfl) (.nil ?_)
   refine .head () zq0 (fun _ h => h) (Picks.perm zq1) ?_
   trivial
  ·try simp only [BitVec.reduceToNat] at hg20'
   have hlt : 2 * z + t < 115792089237316195423570985008687907853269984665640564039457584007913129639936 := over_f (by omega) ht hg20'
   refine .gt (g := 20) rfl rfl hg20 ?_
   refine .w (.lda agg_40 rfl) ?_
   refine .gt (g := 20) rfl rfl hg20 ?_
   refine .w (.lda agg_40 rfl) ?_
   refine .gt (g := 20) rfl rfl hg20 ?_
   refine .c (f52_spec (2 * z + t) m hlt hm) body_52 ?_
   refine .gt (g := 20) rfl rfl hg20 ?_
   refine .w (.as (v' := .bool (decide (m ≤ 2 * z + t))) (.bin rfl rfl BinR.geq_i) (congrArg Value.bool (decide_eq_decide.2 (cmp_ge _ _)))) (.w (.pick0 rfl hg20 rfl) (.nil ?_))
   refine .head () zq0 (fun _ h => h) (Picks.perm zq1) ?_
   trivial
 ·refine .nil (.tn ?_)
  refine .cn rfl (fun hc1 => ?_) (fun hc1 => ?_)
  ·rw [← wd_mod (2 * z + t)]
   refine .seq (.region ?_)
   refine .w (.lda agg_40 rfl) (.w (.lda agg_40 rfl) (.c (f195_spec ((2 * z + t) % 115792089237316195423570985008687907853269984665640564039457584007913129639936) m (Nat.mod_lt _ (by decide)) hm) body_195 ?_))
   rw [sub_br hc1 (by omega) hm]
   refine .w (.move rfl) (.w (.as (v' := .agg ((wd (2 * z + t - m)).map u64).toArray) (.extract rfl rfl) rfl) (.w (.extract rfl rfl) ?_))
   first | refine .sa sz_40 ?_ | refine .so sz_40 ?_ | refine .sr sz_40 ?_
   refine .nil (.tn (.seq (.region ?_)))
   refine .w (.lda agg_40 rfl) ?_
   first | refine .sa sz_40 ?_ | refine .so sz_40 ?_ | refine .sr sz_40 ?_
   refine .w (.assign rfl) ?_
   refine .nil (.tn (.ret (.then_ret ?_)))
   exact .dn [] [] (res2 rfl (.cl agg_40) (.tmp rfl)) ⟨by rw [brF, brG, if_pos hc1, if_pos hc1]; rfl, rfl, rfl⟩
  ·skip
   refine .skip (.tn (.seq (.region ?_)))
   refine .w (.lda agg_40 rfl) ?_
   first | refine .sa sz_40 ?_ | refine .so sz_40 ?_ | refine .sr sz_40 ?_
   refine .w (.assign rfl) ?_
   refine .nil (.tn (.ret ?_))
   exact .dn [] [] (res2 rfl (.cl agg_40) (.tmp rfl)) ⟨by rw [brF, brG, if_neg hc1, if_neg hc1]; rfl, rfl, rfl⟩

set_option maxHeartbeats 1000000 in
theorem f113_spec (a m : Nat) (ha : a < 115792089237316195423570985008687907853269984665640564039457584007913129639936) (hm : m < 115792089237316195423570985008687907853269984665640564039457584007913129639936) :
  Spec Tryz.prog 113 #[(.agg ((wd a).map u64).toArray), (.agg ((wd m).map u64).toArray)] [] []
   (fun r Γ' H' => r = (.tuple #[.agg ((wd (a / m)).map u64).toArray, .agg ((wd (remF a m)).map u64).toArray, it (if m = 0 then 11 else 0)]) ∧ Γ' = [] ∧ H' = []) := by
 refine Spec.of_args Tryz.func113 rfl Tryz.ntmps113 (by simp) fun w => ?_
 refine .seq (.region ?_)
 refine .bx fun b2 => ?_
 refine .bx fun b3 => ?_
 refine .al zero_40 fun b4 => ?_
 refine .al zero_40 fun b5 => ?_
 refine .w (.assign rfl) ?_
 refine .nil (.tn (.seq (.seq (.region ?_))))
 refine .w (.lda agg_40 rfl) (.w (.as (v' := .agg ((wd 0).map u64).toArray) (.lda agg_40 rfl) rfl) (.w (.as (v' := .bool (decide (m = 0))) (.bin rfl rfl (eql_nat wd_len' wd_len')) (congrArg Value.bool (decide_eq_decide.2 (by rw [wd_eq hm (by decide)])))) ?_))
 refine .nil (.tn ?_)
 refine .cn rfl (fun hc1 => ?_) (fun hc1 => ?_)
 ·subst hc1
  refine .seq ?_
  refine JC.draw (.one 0 (.one 1 (.one 2 (.one 3 (.one 4 .nil))))) (fun i => ([3] : List Nat).contains i) (fun i => ([2, 3] : List Nat).contains i) (fun i => ([4] : List Nat).contains i) mixed (by kernel_rfl) (by decide) (by kernel_rfl) ?_
  refine .w rfl (.as (v' := .agg ((wd 0).map u64).toArray) (.lda agg_40 rfl) rfl) (.w rfl (.as (v' := .agg ((wd 0).map u64).toArray) (.lda agg_40 rfl) rfl) ?_)
  first | refine .mw0 rfl (.sa sz_40) ?_ | refine .mw0 rfl (.so sz_40) ?_ | refine .mw0 rfl (.sr sz_40) ?_
  rintro _ _ _ ⟨rfl, rfl⟩
  refine kp ?_
  first | refine .mw0 rfl (.sa sz_40) ?_ | refine .mw0 rfl (.so sz_40) ?_ | refine .mw0 rfl (.sr sz_40) ?_
  rintro _ _ _ ⟨rfl, rfl⟩
  refine kp ?_
  refine .uw rfl (.assign rfl) ?_
  refine .nil (.tn (.ret (.then_ret ?_)))
  exact .dn [] [] (res3 rfl (.cl agg_40) (.cl agg_40) (.tmp rfl)) ⟨by rw [Nat.div_zero, remF, if_pos rfl, if_pos rfl], rfl, rfl⟩
 ·have hm0 : 0 < m := Nat.pos_of_ne_zero hc1
  refine .skip (.tn (.seq (.seq (.region ?_))))
  refine .w (.assign rfl) ?_
  refine .nil (.tn (.block ?_))
  refine .lp (ι := Nat) (fun x => x ≤ 256) (fun T x => (2, ptr b2 0) :: (3, ptr b3 0) :: (4, ptr b4 0) :: (5, ptr b5 0) :: (6, it 0) :: (7, it ((x : Int) - 1)) :: T) (fun T _ => T) (fun T x => Res.cells b2 ((wd a).map u64) 40 :: Res.cells b3 ((wd m).map u64) 40 :: Res.cells b4 ((wd (quoK a m x)).map u64) 40 :: Res.cells b5 ((wd (restK a m x)).map u64) 40 :: T) (fun x => x) 256 [37, 38] ?_ (fun x hx => ?_) (hH := (by rw [quo_top ha, rest_top ha]; repeat (first | exact Picks.nil _ | apply Picks.cons | exact Pull.here _ _ | apply Pull.there)))
  ·exact Nat.le_refl _
  refine .seq (.seq (.region ?_))
  refine .w (.move rfl) (.w (.bin rfl rfl BinR.geq_i) ?_)
  refine .nil (.tn ?_)
  refine .cn rfl (fun hc2 => ?_) (fun hc2 => ?_)
  ·obtain ⟨k, rfl⟩ : ∃ k, x = k + 1 := ⟨x - 1, by omega⟩
   refine .skip (.tn (.seq (.block (.seq (.region ?_)))))
   refine .w (.assign rfl) ?_
   refine .nil (.tn (.seq ?_))
   refine JC.draw (.one 0 (.one 1 (.one 2 (.one 3 (.one 4 (.one 5 (.one 6 (.one 7 (.one 8 (.one 9 (.one 10 .nil))))))))))) (fun i => ([5, 9] : List Nat).contains i) (fun i => ([4, 5, 9] : List Nat).contains i) (fun i => ([3, 6, 7, 8, 10] : List Nat).contains i) mixed (by kernel_rfl) (by decide) (by kernel_rfl) ?_
   refine .w rfl (.lda agg_40 rfl) (.w rfl (.lda agg_40 rfl) (.w rfl (.lda agg_40 rfl) (.uw rfl (.asI (k : Int) (.move rfl)) ?_)))
   refine .mw rfl (.c (f160_spec a k (by omega)) body_160) ?_
   rintro _ _ _ ⟨rfl, rfl, rfl⟩
   refine kp ?_
   refine .mw rfl (.c (f164_spec (restK a m (k + 1)) m (a / 2 ^ k % 2) (rest_lt hm0) hm (Nat.mod_lt _ (by decide))) body_164) ?_
   rintro _ _ _ ⟨rfl, rfl, rfl⟩
   rw [← rest_step' hm0]
   refine kp ?_
   refine .uw rfl (.move rfl) (.uw rfl (.as (v' := .agg ((wd (restK a m k)).map u64).toArray) (.extract rfl rfl) rfl) (.uw rfl (.as (v' := u64 (BitVec.ofNat 64 (brG (restK a m (k + 1)) m (a / 2 ^ k % 2)))) (.extract rfl rfl) rfl) ?_))
   first | refine .mw0 rfl (.sa sz_40) ?_ | refine .mw0 rfl (.so sz_40) ?_ | refine .mw0 rfl (.sr sz_40) ?_
   rintro _ _ _ ⟨rfl, rfl⟩
   refine kp ?_
   refine .uw rfl (.assign rfl) ?_
   refine .nil (.tn ?_)
   refine JC.draw (.one 0 (.one 1 (.one 2 (.one 3 (.one 4 (.one 5 (.one 6 (.one 7 (.one 8 (.one 9 (.one 10 .nil))))))))))) (fun i => ([10] : List Nat).contains i) (fun i => ([10] : List Nat).contains i) (fun i => ([0, 1, 2, 4, 5, 6, 7, 8, 9] : List Nat).contains i) mixed (by kernel_rfl) (by decide) (by kernel_rfl) ?_
   refine .uw rfl (.asI (k : Int) (.move rfl)) (.uw rfl (.asI ((k / 64 : Nat) : Int) (.bin rfl rfl (BinR.quo_i zq18 zq18 (by first | (constructor <;> omega) | (constructor <;> simp <;> omega))))) (.uw rfl (.ixA Tryz.underlying40 sz_22 rfl rfl) (.w rfl (.ld one_22 rfl (hj := by first | exact wd_get _ (by omega) | rfl | exact tab_get zq16 | exact gm (d := 0) zq16)) (.uw rfl (.move rfl) (.uw rfl (.asI (k : Int) (.move rfl)) (.uw rfl (.asI ((k % 64 : Nat) : Int) (.bin rfl rfl (BinR.rem_i zq18 zq18))) ?_))))))
   refine .uw rfl (.as (v' := u64 (BitVec.ofNat 64 (brG (restK a m (k + 1)) m (a / 2 ^ k % 2)) <<< (k % 64))) (.bin rfl rfl (BinR.shl_u64_i zq18)) (congrArg (fun n => u64 (BitVec.ofNat 64 (brG (restK a m (k + 1)) m (a / 2 ^ k % 2)) <<< n)) (by omega))) (.uw rfl (.bin rfl rfl (BinR.or_u64)) (.uw rfl (.ixA Tryz.underlying40 sz_22 rfl rfl) ?_))
   first | refine .mw0 rfl (.s1 sz_22) ?_ | refine .mw0 rfl (.sr1 sz_22) ?_
   rintro _ _ _ ⟨rfl, rfl⟩
   refine kp ?_
   refine .nil (.block_normal (.tn (.region ?_)))
   refine .w (.asI (k : Int) (.move rfl)) (.w (.bin rfl rfl (BinR.sub_i (by first | (constructor <;> omega) | (constructor <;> simp <;> omega)))) (.w (.assign rfl) (.nil ?_)))
   rw [quo_setv hm0 (by omega)]
   refine .hd k ?_
   exact ⟨by omega, by omega⟩
  ·obtain rfl : x = 0 := by omega
   rw [rest_0, quo_0]
   refine .exit (.then_exit (.then_exit (.block_exit (.tn (.seq ?_)))))
   refine JC.draw (.one 0 (.one 1 (.one 2 (.one 3 (.one 4 .nil))))) (fun i => ([3] : List Nat).contains i) (fun i => ([2, 3] : List Nat).contains i) (fun i => ([4] : List Nat).contains i) mixed (by kernel_rfl) (by decide) (by kernel_rfl) ?_
   refine .w rfl (.lda agg_40 rfl) (.w rfl (.lda agg_40 rfl) ?_)
   first | refine .mw0 rfl (.sa sz_40) ?_ | refine .mw0 rfl (.so sz_40) ?_ | refine .mw0 rfl (.sr sz_40) ?_
   rintro _ _ _ ⟨rfl, rfl⟩
   refine kp ?_
   first | refine .mw0 rfl (.sa sz_40) ?_ | refine .mw0 rfl (.so sz_40) ?_ | refine .mw0 rfl (.sr sz_40) ?_
   rintro _ _ _ ⟨rfl, rfl⟩
   refine kp ?_
   refine .uw rfl (.assign rfl) ?_
   refine .nil (.tn (.ret ?_))
   exact .dn [] [] (res3 rfl (.cl agg_40) (.cl agg_40) (.tmp rfl)) ⟨by rw [remF, if_neg hc1, if_neg hc1], rfl, rfl⟩

theorem f165_spec (x y : W64) :
  Spec Tryz.prog 165 #[u64 x, u64 y] [] []
   (fun r Γ' H' => r = (.tuple #[u64 (BitVec.ofNat 64 (x.toNat * y.toNat / 18446744073709551616)), u64 (x * y)]) ∧ Γ' = [] ∧ H' = []) := by
 refine Spec.of_args Tryz.func165 rfl Tryz.ntmps165 (by simp) fun w => ?_
 refine .seq (.region ?_)
 refine .w (.assign rfl) (.w (.assign rfl) ?_)
 refine .nil (.tn (.seq (.region ?_)))
 refine .w (.move rfl) (.w (.bin rfl rfl (BinR.and_u64 (b := 4294967295#64))) (.w (.assign rfl) ?_))
 refine .nil (.tn (.seq (.region ?_)))
 refine .w (.move rfl) (.w (.bin rfl rfl (BinR.shr_u64_u64 (n := 32#64))) (.w (.assign rfl) ?_))
 refine .nil (.tn (.seq (.region ?_)))
 refine .w (.move rfl) (.w (.bin rfl rfl (BinR.and_u64 (b := 4294967295#64))) (.w (.assign rfl) ?_))
 refine .nil (.tn (.seq (.region ?_)))
 refine .w (.move rfl) (.w (.bin rfl rfl (BinR.shr_u64_u64 (n := 32#64))) (.w (.assign rfl) ?_))
 refine .nil (.tn (.seq (.region ?_)))
 refine .w (.move rfl) (.w (.move rfl) (.w (.bin rfl rfl (BinR.mul_u64)) (.w (.assign rfl) ?_)))
 refine .nil (.tn (.seq (.region ?_)))
 refine .w (.move rfl) (.w (.move rfl) (.w (.bin rfl rfl (BinR.mul_u64)) (.w (.move rfl) (.w (.bin rfl rfl (BinR.shr_u64_u64 (n := 32#64))) (.w (.bin rfl rfl (BinR.add_u64)) (.w (.assign rfl) ?_))))))
 refine .nil (.tn (.seq (.region ?_)))
 refine .w (.move rfl) (.w (.bin rfl rfl (BinR.and_u64 (b := 4294967295#64))) (.w (.assign rfl) ?_))
 refine .nil (.tn (.seq (.region ?_)))
 refine .w (.move rfl) (.w (.bin rfl rfl (BinR.shr_u64_u64 (n := 32#64))) (.w (.assign rfl) ?_))
 refine .nil (.tn (.seq (.region ?_)))
 refine .w (.move rfl) (.w (.move rfl) (.w (.move rfl) (.w (.bin rfl rfl (BinR.mul_u64)) (.w (.bin rfl rfl (BinR.add_u64)) (.w (.assign rfl) ?_)))))
 refine .nil (.tn (.seq (.region ?_)))
 refine .w (.move rfl) (.w (.move rfl) (.w (.bin rfl rfl (BinR.mul_u64)) (.w (.move rfl) (.w (.bin rfl rfl (BinR.add_u64)) (.w (.move rfl) (.w (.bin rfl rfl (BinR.shr_u64_u64 (n := 32#64))) ?_))))))
 refine .w (.bin rfl rfl (BinR.add_u64)) (.w (.as (v' := u64 (BitVec.ofNat 64 (x.toNat * y.toNat / 18446744073709551616))) (.assign rfl) (congrArg u64 (mul64 x y))) ?_)
 refine .nil (.tn (.seq (.region ?_)))
 refine .w (.move rfl) (.w (.move rfl) (.w (.bin rfl rfl (BinR.mul_u64)) (.w (.assign rfl) ?_)))
 refine .nil (.tn (.ret ?_))
 exact .dn [] [] (res2 rfl (.tmp rfl) (.tmp rfl)) ⟨rfl, rfl, rfl⟩

theorem f114_spec (x y : W64) :
  Spec Tryz.prog 114 #[u64 x, u64 y] [] []
   (fun r Γ' H' => r = (.agg ((wd (x.toNat * y.toNat)).map u64).toArray) ∧ Γ' = [] ∧ H' = []) := by
 refine Spec.of_args Tryz.func114 rfl Tryz.ntmps114 (by simp) fun w => ?_
 refine .seq (.region ?_)
 refine .al zero_40 fun b4 => ?_
 refine .nil (.tn (.seq (.region ?_)))
 refine .w (.move rfl) (.w (.move rfl) (.c (f165_spec x y) body_165 ?_))
 refine .w (.move rfl) (.w (.extract rfl rfl) (.w (.extract rfl rfl) (.w (.assign rfl) (.w (.assign rfl) ?_))))
 refine .nil (.tn (.seq (.region ?_)))
 refine .w (.move rfl) (.w (.move rfl) (.w (.as (v' := .agg ((wd (x.toNat * y.toNat)).map u64).toArray) (.build bld_40 rfl rfl) (by rw [wd_prod]; rfl)) ?_))
 first | refine .sa sz_40 ?_ | refine .so sz_40 ?_ | refine .sr sz_40 ?_
 refine .nil (.tn (.ret ?_))
 exact .dn [] [] (res1 rfl (.cl agg_40)) ⟨rfl, rfl, rfl⟩

theorem f112_spec (v : Value) (l : List W64) :
  Spec Tryz.prog 112 #[v] [Res.rd v l.length 1 (l.map u64)] []
   (fun r Γ' H' => r = (.agg ((wd (totN l)).map u64).toArray) ∧ Γ' = [] ∧ H' = []) := by
 refine Spec.of_args Tryz.func112 rfl Tryz.ntmps112 (by simp) fun w => ?_
 refine JC.know (φ := l.length ≤ 9223372036854775807) (fun w hs => by obtain ⟨_, _, _, _, _, _, h⟩ := hs.rdForm (.head _); unfold maxLen at h; omega) fun hll => ?_
 refine .seq (.region ?_)
 refine .al zero_40 fun b2 => ?_
 refine .nil (.tn (.seq (.region ?_)))
 refine .al zero_40 fun b3 => ?_
 refine .nil (.tn (.seq (.seq (.region ?_))))
 refine .w (.move rfl) (.w (.len Tryz.underlying25 rfl) (.w (.move rfl) ?_))
 refine .nil (.tn (.block ?_))
 refine .lp (ι := Nat) (fun x => x ≤ l.length) (fun T x => (2, ptr b2 0) :: (3, ptr b3 0) :: (6, v) :: (7, it (l.length : Int)) :: (8, it (x : Int)) :: T) (fun T x => Res.rd v l.length 1 (l.map u64) :: T) (fun T x => Res.cells b2 ((wd 0).map u64) 40 :: Res.cells b3 ((wd (totN (l.take x))).map u64) 40 :: T) (fun x => l.length - x) 0 [20] ?_ (fun x hx => ?_) (hH := (by rw [tot_0]; repeat (first | exact Picks.nil _ | apply Picks.cons | exact Pull.here _ _ | apply Pull.there)))
 ·exact Nat.zero_le _
 refine .seq (.region ?_)
 refine .w (.bin rfl rfl BinR.lss_i) ?_
 refine .nil (.tn (.seq ?_))
 refine .cn rfl (fun hc1 => ?_) (fun hc1 => ?_)
 ·refine .skip (.tn (.seq (.block (.seq (.region ?_)))))
  refine .w (.ix1 Tryz.underlying25 sz_22 rfl rfl) (.w (.ld one_22 rfl) (.w (.assign rfl) ?_))
  refine .nil (.tn (.region ?_))
  refine .w (.lda agg_40 rfl) (.w (.move rfl) (.w (.as (v' := .agg ((wd (l.getD x 0).toNat).map u64).toArray) (.build bld_40 rfl rfl) (by rw [wd_small]; rfl)) (.c (f163_spec (totN (l.take x)) (l.getD x 0).toNat (tot_lt _) (w_lt _)) body_163 ?_)))
  rw [tot_succ (by omega)]
  refine .w (.move rfl) (.w (.as (v' := .agg ((wd (totN (l.take (x + 1)))).map u64).toArray) (.extract rfl rfl) rfl) (.w (.extract rfl rfl) ?_))
  first | refine .sa sz_40 ?_ | refine .so sz_40 ?_ | refine .sr sz_40 ?_
  refine .nil (.block_normal (.tn (.region ?_)))
  refine .w (.asI ((x + 1 : Nat) : Int) (.bin rfl rfl (BinR.add_i (by first | (constructor <;> omega) | (constructor <;> simp <;> omega))))) (.w (.move rfl) (.nil ?_))
  refine .hd (x + 1) ?_
  exact ⟨by omega, by omega⟩
 ·obtain rfl : x = l.length := by omega
  rw [List.take_length]
  refine .exit (.then_exit (.then_exit (.block_exit (.tn (.seq (.region ?_))))))
  refine .w (.lda agg_40 rfl) ?_
  first | refine .sa sz_40 ?_ | refine .so sz_40 ?_ | refine .sr sz_40 ?_
  refine .nil (.tn (.ret ?_))
  exact .dn [] [] (res1 rfl (.cl agg_40)) ⟨rfl, rfl, rfl⟩

theorem f213_spec (a b : Nat) (ha : a < 115792089237316195423570985008687907853269984665640564039457584007913129639936) (hb : b < 115792089237316195423570985008687907853269984665640564039457584007913129639936) :
  Spec Tryz.prog 213 #[(.agg ((wd a).map u64).toArray), (.agg ((wd b).map u64).toArray)] [] []
   (fun r Γ' H' => r = (.agg ((wd8 (a * b)).map u64).toArray) ∧ Γ' = [] ∧ H' = []) := by
 refine Spec.of_args Tryz.func213 rfl Tryz.ntmps213 (by simp) fun w => ?_
 refine .seq (.region ?_)
 refine .bx fun b2 => ?_
 refine .bx fun b3 => ?_
 refine .al zero_254 fun b4 => ?_
 refine .nil (.tn (.seq (.region ?_)))
 refine .al zero_254 fun b5 => ?_
 refine .nil (.tn (.seq (.seq (.region ?_))))
 refine .w (.lda agg_40 rfl) (.w (.move rfl) ?_)
 refine .nil (.tn (.block ?_))
 refine .lp (ι := Nat × List W64) (fun x => x.1 ≤ 4 ∧ x.2.length = 8 ∧ val x.2 = (a % pw x.1) * b ∧ ∀ k, x.1 + 4 ≤ k → k < 8 → x.2.getD k 0 = 0) (fun T x => (15, it (x.1 : Int)) :: T) (fun T _ => T) (fun T x => Res.cells b5 (x.2.map u64) 254 :: T) (fun x => 4 - x.1) (0, List.replicate 8 0) [3, 4, 5, 14, 63] ?_ (fun x hx => ?_)
 ·exact ⟨by decide, rfl, by simp [pw_0, Nat.mod_one, val, List.replicate], fun k _ h => by rw [List.getD_eq_getElem?_getD, List.getElem?_replicate, if_pos h]; rfl⟩
 obtain ⟨i, ws⟩ := x
 obtain ⟨hi, hw1, hw2, hw3⟩ := hx
 dsimp only at hi hw1 hw2 hw3 ⊢
 refine .seq (.region ?_)
 refine .w (.bin rfl rfl BinR.lss_i) ?_
 refine .nil (.tn (.seq ?_))
 refine .cn rfl (fun hc1 => ?_) (fun hc1 => ?_)
 ·skip
  refine .skip (.tn (.seq (.block (.seq (.region ?_)))))
  refine .w (.move rfl) (.w (.as (v' := u64 (wat a i)) (.indexAgg Tryz.underlying40 Tryz.underlying22 sz_22 rfl rfl zq5 (by first | rfl | exact gm (d := 0) zq16)) rfl) (.w (.assign rfl) (.w (.assign rfl) ?_)))
  refine .nil (.tn (.seq (.region ?_)))
  refine .w (.assign rfl) ?_
  refine .nil (.tn (.seq (.seq (.region ?_))))
  refine .w (.lda agg_40 rfl) (.w (.move rfl) ?_)
  refine .nil (.tn (.block ?_))
  refine .lp (ι := Nat × W64 × List W64) (fun x => x.1 ≤ 4 ∧ MulI a b i x.1 x.2.1 x.2.2) (fun T x => (20, it (x.1 : Int)) :: (8, u64 x.2.1) :: T) (fun T _ => T) (fun T x => Res.cells b5 (x.2.2.map u64) 254 :: T) (fun x => 4 - x.1) (0, 0, ws) [3, 4, 5, 6, 7, 14, 15, 16, 17, 18, 19, 58, 59, 60, 61, 62, 63] ?_ (fun x hx => ?_)
  ·exact ⟨Nat.zero_le _, MulI.start a b hw1 hw2 hw3⟩
  clear hw1 hw2 hw3
  obtain ⟨j, c, ws⟩ := x
  obtain ⟨hj, hI⟩ := hx
  dsimp only at hj hI ⊢
  have hw1 := hI.1
  refine .seq (.region ?_)
  refine .w (.bin rfl rfl BinR.lss_i) ?_
  refine .nil (.tn (.seq ?_))
  refine .cn rfl (fun hc2 => ?_) (fun hc2 => ?_)
  ·skip
   refine .skip (.tn (.seq (.block (.seq (.region ?_)))))
   refine .w (.move rfl) (.w (.as (v' := u64 (wat b j)) (.indexAgg Tryz.underlying40 Tryz.underlying22 sz_22 rfl rfl zq5 (by first | rfl | exact gm (d := 0) zq16)) rfl) (.w (.assign rfl) (.w (.assign rfl) ?_)))
   refine .nil (.tn (.seq (.region ?_)))
   refine .w (.move rfl) (.w (.move rfl) (.c (f165_spec (wat a i) (wat b j)) body_165 ?_))
   refine .w (.move rfl) (.w (.as (v' := u64 (BitVec.ofNat 64 ((wat a i).toNat * (wat b j).toNat / 18446744073709551616))) (.extract rfl rfl) rfl) (.w (.as (v' := u64 (wat a i * wat b j)) (.extract rfl rfl) rfl) (.w (.assign rfl) (.w (.assign rfl) ?_))))
   refine .nil (.tn (.seq (.region ?_)))
   refine .w (.assign rfl) ?_
   refine .nil (.tn (.seq (.region ?_)))
   refine .w (.move rfl) (.w (.move rfl) (.w (.move rfl) (.w (.asI ((i + j : Nat) : Int) (.bin rfl rfl (BinR.add_i (by first | (constructor <;> omega) | (constructor <;> simp <;> omega))))) (.w (.ixA Tryz.underlying254 sz_22 rfl rfl) (.w (.ld one_22 rfl (hj := by exact gm (d := 0) (by omega))) (.w (.ext rfl (ext_193 _ _ 0#64 (by decide))) ?_))))))
   refine .w (.move rfl) (.w (.as (v' := u64 (wat a i * wat b j + (ws.getD (i + j) 0) + 0#64)) (.extract rfl rfl) rfl) (.w (.as (v' := u64 (BitVec.ofNat 64 (((wat a i * wat b j).toNat + (ws.getD (i + j) 0).toNat + (0#64).toNat) / 18446744073709551616))) (.extract rfl rfl) rfl) (.w (.assign rfl) (.w (.assign rfl) ?_))))
   refine .nil (.tn (.seq (.region ?_)))
   refine .w (.move rfl) (.w (.move rfl) (.w (.bin rfl rfl (BinR.add_u64)) (.w (.assign rfl) ?_)))
   refine .nil (.tn (.seq (.region ?_)))
   refine .w (.move rfl) (.w (.move rfl) (.w (.ext rfl (ext_193 _ _ 0#64 (by decide))) (.w (.move rfl) (.w (.as (v' := u64 (mlo (wat a i) (wat b j) (ws.getD (i + j) 0) c)) (.extract rfl rfl) (congrArg u64 (mlo_eq _ _ _ _))) (.w (.as (v' := u64 (BitVec.ofNat 64 (((wat a i * wat b j + (ws.getD (i + j) 0) + 0#64).toNat + c.toNat + (0#64).toNat) / 18446744073709551616))) (.extract rfl rfl) rfl) (.w (.assign rfl) ?_))))))
   refine .w (.assign rfl) ?_
   refine .nil (.tn (.region ?_))
   refine .w (.move rfl) (.w (.move rfl) (.w (.asI ((i + j : Nat) : Int) (.bin rfl rfl (BinR.add_i (by first | (constructor <;> omega) | (constructor <;> simp <;> omega))))) (.w (.move rfl) (.w (.move rfl) (.w (.move rfl) (.w (.as (v' := u64 (mhi (wat a i) (wat b j) (ws.getD (i + j) 0) c)) (.bin rfl rfl (BinR.add_u64)) (congrArg u64 (mhi_eq _ _ _ _))) ?_))))))
   refine .w (.ixA Tryz.underlying254 sz_22 rfl rfl) ?_
   first | refine .s1 sz_22 ?_ | refine .sr1 sz_22 ?_
   refine .w (.assign rfl) ?_
   refine .nil (.block_normal (.tn (.region ?_)))
   refine .w (.asI ((j + 1 : Nat) : Int) (.bin rfl rfl (BinR.add_i (by first | (constructor <;> omega) | (constructor <;> simp <;> omega))))) (.w (.move rfl) (.nil ?_))
   rw [← List.map_set]
   refine .hd (j + 1, mhi (wat a i) (wat b j) (ws.getD (i + j) 0) c, ws.set (i + j) (mlo (wat a i) (wat b j) (ws.getD (i + j) 0) c)) ?_
   exact ⟨⟨by dsimp only; omega, hI.step (by omega) (by omega)⟩, by dsimp only; omega⟩
  ·obtain rfl : j = 4 := by omega
   refine .exit (.then_exit (.then_exit (.block_exit (.tn (.region ?_)))))
   refine .w (.move rfl) (.w (.asI ((i + 4 : Nat) : Int) (.bin rfl rfl (BinR.add_i (by first | (constructor <;> omega) | (constructor <;> simp <;> omega))))) (.w (.move rfl) (.w (.ixA Tryz.underlying254 sz_22 rfl rfl) ?_)))
   first | refine .s1 sz_22 ?_ | refine .sr1 sz_22 ?_
   refine .nil (.block_normal (.tn (.region ?_)))
   refine .w (.asI ((i + 1 : Nat) : Int) (.bin rfl rfl (BinR.add_i (by first | (constructor <;> omega) | (constructor <;> simp <;> omega))))) (.w (.move rfl) (.nil ?_))
   rw [← List.map_set]
   refine .hd (i + 1, ws.set (i + 4) c) ?_
   exact ⟨⟨by dsimp only; omega, (hI.row hb (by omega)).1, (hI.row hb (by omega)).2.1, (hI.row hb (by omega)).2.2⟩, by dsimp only; omega⟩
 ·obtain rfl : i = 4 := by omega
  obtain rfl : ws = wd8 (a * b) := by rw [val_wd8 hw1, hw2, pw_4, Nat.mod_eq_of_lt ha]
  refine .exit (.then_exit (.then_exit (.block_exit (.tn (.seq (.region ?_))))))
  refine .w (.lda agg_254 rfl) ?_
  first | refine .sa sz_254 ?_ | refine .so sz_254 ?_ | refine .sr sz_254 ?_
  refine .nil (.tn (.ret ?_))
  exact .dn [] [] (res1 rfl (.cl agg_254)) ⟨rfl, rfl, rfl⟩

theorem f212_spec (W m : Nat) (hW : W < 115792089237316195423570985008687907853269984665640564039457584007913129639936 * 115792089237316195423570985008687907853269984665640564039457584007913129639936) (hm : m < 115792089237316195423570985008687907853269984665640564039457584007913129639936) (h0 : 0 < m) :
  Spec Tryz.prog 212 #[(.agg ((wd8 W).map u64).toArray), (.agg ((wd m).map u64).toArray)] [] []
   (fun r Γ' H' => r = (.tuple #[(.agg ((wd (W % m)).map u64).toArray), it 0]) ∧ Γ' = [] ∧ H' = []) := by
 refine Spec.of_args Tryz.func212 rfl Tryz.ntmps212 (by simp) fun w => ?_
 refine .seq (.region ?_)
 refine .bx fun b2 => ?_
 refine .bx fun b3 => ?_
 refine .al zero_40 fun b4 => ?_
 refine .w (.assign rfl) ?_
 refine .nil (.tn (.seq (.region ?_)))
 refine .al zero_40 fun b6 => ?_
 refine .nil (.tn (.seq (.seq (.region ?_))))
 refine .w (.lda agg_40 rfl) (.w (.as (v' := .agg ((wd 0).map u64).toArray) (.lda agg_40 rfl) rfl) (.w (.as (v' := .bool false) (.bin rfl rfl (eql_nat wd_len' wd_len')) (congrArg Value.bool (decide_eq_false (by rw [wd_eq hm (by decide)]; omega)))) ?_))
 refine .nil (.tn ?_)
 refine .cf rfl ?_
 refine .skip (.tn (.seq (.seq (.region ?_))))
 refine .w (.move rfl) ?_
 refine .nil (.tn (.block ?_))
 refine .lp (ι := Nat) (fun x => x ≤ 512) (fun T x => (13, it ((512 - x : Nat) : Int)) :: T) (fun T _ => T) (fun T x => Res.cells b6 ((wd (restK W m x)).map u64) 40 :: T) (fun x => x) 512 [2, 3, 4, 5, 6, 33] ?_ (fun x hx => ?_) (hH := (by rw [rest_top8 hW]; repeat (first | exact Picks.nil _ | apply Picks.cons | exact Pull.here _ _ | apply Pull.there)))
 ·exact Nat.le_refl _
 refine .seq (.region ?_)
 refine .w (.bin rfl rfl BinR.lss_i) ?_
 refine .nil (.tn (.seq ?_))
 refine .cn rfl (fun hc2 => ?_) (fun hc2 => ?_)
 ·obtain ⟨k, rfl⟩ : ∃ k, x = k + 1 := ⟨x - 1, by omega⟩
  refine .skip (.tn (.seq (.block (.seq (.region ?_)))))
  refine .w (.move rfl) (.w (.assign rfl) ?_)
  refine .nil (.tn (.seq (.region ?_)))
  refine .w (.move rfl) (.w (.asI (k : Int) (.bin rfl rfl (BinR.sub_i (by first | (constructor <;> omega) | (constructor <;> simp <;> omega))))) (.w (.assign rfl) ?_))
  refine .nil (.tn ?_)
  refine JC.draw (.one 0 (.one 1 (.one 2 (.one 3 (.one 4 (.one 5 (.one 6 (.one 7 (.one 8 (.one 9 (.one 10 (.one 11 (.one 12 (.one 13 (.one 14 .nil))))))))))))))) (fun i => ([10, 14] : List Nat).contains i) (fun i => ([10, 14] : List Nat).contains i) (fun i => ([2, 3, 4, 6, 7, 8, 9, 11, 12, 13] : List Nat).contains i) mixed (by kernel_rfl) (by decide) (by kernel_rfl) ?_
  refine .w rfl (.lda agg_40 rfl) (.w rfl (.lda agg_40 rfl) (.uw rfl (.move rfl) (.uw rfl (.asI ((k / 64 : Nat) : Int) (.bin rfl rfl (BinR.quo_i zq18 zq18 (by first | (constructor <;> omega) | (constructor <;> simp <;> omega))))) (.uw rfl (.ixA Tryz.underlying254 sz_22 rfl rfl) (.w rfl (.as (v' := u64 (wat8 W (k / 64))) (.ld one_22 rfl (hj := by exact wd8_at W (by omega))) rfl) (.uw rfl (.move rfl) ?_))))))
  refine .uw rfl (.asI ((k % 64 : Nat) : Int) (.bin rfl rfl (BinR.rem_i zq18 zq18))) (.uw rfl (.as (v' := u64 (wat8 W (k / 64) >>> (k % 64))) (.bin rfl rfl (BinR.shr_u64_i zq18)) (congrArg (fun n => u64 (wat8 W (k / 64) >>> n)) (by omega))) (.uw rfl (.as (v' := u64 (BitVec.ofNat 64 (W / 2 ^ k % 2))) (.bin rfl rfl (BinR.and_u64 (b := 1#64))) (congrArg u64 (bit8w W (by omega)))) ?_))
  refine .mw rfl (.c (f164_spec (restK W m (k + 1)) m (W / 2 ^ k % 2) (rest_lt h0) hm (Nat.mod_lt _ (by decide))) body_164) ?_
  rintro _ _ _ ⟨rfl, rfl, rfl⟩
  rw [← rest_step' h0]
  refine kp ?_
  refine .uw rfl (.move rfl) (.uw rfl (.as (v' := .agg ((wd (restK W m k)).map u64).toArray) (.extract rfl rfl) rfl) (.uw rfl (.extract rfl rfl) ?_))
  first | refine .mw0 rfl (.sa sz_40) ?_ | refine .mw0 rfl (.so sz_40) ?_ | refine .mw0 rfl (.sr sz_40) ?_
  rintro _ _ _ ⟨rfl, rfl⟩
  refine kp ?_
  refine .nil (.block_normal (.tn (.region ?_)))
  refine .w (.asI ((512 - k : Nat) : Int) (.bin rfl rfl (BinR.add_i (by first | (constructor <;> omega) | (constructor <;> simp <;> omega))))) (.w (.move rfl) (.nil ?_))
  refine .hd k ?_
  exact ⟨by omega, by omega⟩
 ·obtain rfl : x = 0 := by omega
  rw [rest_0]
  refine .exit (.then_exit (.then_exit (.block_exit (.tn (.seq (.region ?_))))))
  refine .w (.lda agg_40 rfl) ?_
  first | refine .sa sz_40 ?_ | refine .so sz_40 ?_ | refine .sr sz_40 ?_
  refine .w (.assign rfl) ?_
  refine .nil (.tn (.ret ?_))
  exact .dn [] [] (res2 rfl (.cl agg_40) (.tmp rfl)) ⟨rfl, rfl, rfl⟩
end Go.Proofs.YtmhiapebljfebaaGreatDoor

/- Walks: how many bits; what makes a Mod ready. -/
namespace Go.Proofs.YtmhiapebljfebaaGreatDoor
open Go.RowKit
set_option maxRecDepth 100000
set_option linter.unusedVariables false
set_option linter.unusedSimpArgs false
theorem f159_spec (a : Nat) (ha : a < 115792089237316195423570985008687907853269984665640564039457584007913129639936) :
  Spec Tryz.prog 159 #[(.agg ((wd a).map u64).toArray)] [] []
   (fun r Γ' H' => r = (it (bitlen a : Int)) ∧ Γ' = [] ∧ H' = []) := by
 refine Spec.of_args Tryz.func159 rfl Tryz.ntmps159 (by simp) fun w => ?_
 refine .seq (.region ?_)
 refine .bx fun b1 => ?_
 refine .w (.assign rfl) ?_
 refine .nil (.tn (.seq (.seq (.region ?_))))
 refine .w (.assign rfl) ?_
 refine .nil (.tn (.block ?_))
 refine .lp (ι := Nat) (fun x => x ≤ 4 ∧ a / pw x = 0) (fun T x => (3, it ((x : Int) - 1)) :: T) (fun T _ => T) (fun T _ => T) (fun x => x) 4 [1] ?_ (fun x hx => ?_)
 ·exact ⟨Nat.le_refl _, by rw [pw_4]; exact Nat.div_eq_of_lt ha⟩
 obtain ⟨hx, hz⟩ := hx
 refine .seq (.seq (.region ?_))
 refine .w (.move rfl) (.w (.bin rfl rfl BinR.geq_i) ?_)
 refine .nil (.tn ?_)
 refine .cn rfl (fun hc1 => ?_) (fun hc1 => ?_)
 ·obtain ⟨i, rfl⟩ : ∃ i, x = i + 1 := ⟨x - 1, by omega⟩
  refine .skip (.tn (.seq (.block (.seq (.region ?_)))))
  refine .w (.asI (i : Int) (.move rfl)) (.w (.ixA Tryz.underlying40 sz_22 rfl rfl) (.w (.ld one_22 rfl (hj := by exact wd_get _ (by omega))) (.w (.bin rfl rfl (BinR.neq_u64 (b := 0#64))) ?_)))
  refine .nil (.tn ?_)
  refine .cn rfl (fun hc2 => ?_) (fun hc2 => ?_)
  ·try simp only [BitVec.reduceToNat] at hc2
   have hres := len_word ha (by omega) hz hc2
   have hl64 := len64_le (wat a i)
   refine .seq (.region ?_)
   refine .w (.move rfl) (.w (.bin rfl rfl (BinR.mul_i (by first | (constructor <;> omega) | (constructor <;> simp <;> omega)))) (.w (.asI (i : Int) (.move rfl)) (.w (.ixA Tryz.underlying40 sz_22 rfl rfl) (.w (.ld one_22 rfl (hj := by exact wd_get _ (by omega))) (.c (f147_spec (wat a i)) body_147 ?_)))))
   refine .w (.bin rfl rfl (BinR.add_i (by first | (constructor <;> omega) | (constructor <;> simp <;> omega)))) (.w (.as (v' := it (bitlen a : Int)) (.assign rfl) (congrArg it (by rw [hres]; omega))) ?_)
   refine .nil (.tn (.ret (.block_ret (.then_ret (.then_ret (.block_ret (.then_ret ?_)))))))
   exact .dn [] [] (res1 rfl (.tmp rfl)) ⟨rfl, rfl, rfl⟩
  ·try simp only [BitVec.reduceToNat] at hc2
   have hw0 : wat a i = 0 := by simpa using hc2
   refine .skip (.block_normal (.tn (.region ?_)))
   refine .w (.move rfl) (.w (.asI ((i : Int) - 1) (.bin rfl rfl (BinR.sub_i (by first | (constructor <;> omega) | (constructor <;> simp <;> omega))))) (.w (.assign rfl) (.nil ?_)))
   refine .hd i ?_
   exact ⟨⟨by omega, len_next ha (by omega) hz hw0⟩, by omega⟩
 ·obtain rfl : x = 0 := by omega
  have hres := len_zero hz
  refine .exit (.then_exit (.then_exit (.block_exit (.tn (.seq (.region ?_))))))
  refine .w (.as (v' := it (bitlen a : Int)) (.assign rfl) (congrArg it (by rw [hres]; rfl))) ?_
  refine .nil (.tn (.ret ?_))
  exact .dn [] [] (res1 rfl (.tmp rfl)) ⟨rfl, rfl, rfl⟩

theorem f211_spec (p bx m : Nat) (hm : m < 115792089237316195423570985008687907853269984665640564039457584007913129639936) (h0 : 0 < m) :
  Spec Tryz.prog 211 #[(ptr bx 0)] [] [Res.cells p (modX m 0 1 0 0) 179, Res.cells bx [ptr p 0] 91]
   (fun r Γ' H' => r = .tuple #[] ∧ Γ' = [] ∧ H' = [Res.cells p (modX m 0 1 (mnsM m) (sqM m)) 179, Res.cells bx [ptr p 0] 91]) := by
 refine Spec.of_args Tryz.func211 rfl Tryz.ntmps211 (by simp) fun w => ?_
 refine .seq (.region ?_)
 refine .w (.assign rfl) ?_
 refine .nil (.tn (.seq (.seq (.region ?_))))
 refine .w (.move rfl) ?_
 refine .nil (.tn (.block ?_))
 refine .lp (ι := Nat) (fun x => x ≤ 6) (fun T x => (4, it (x : Int)) :: (1, u64 (nwt (wat m 0) x)) :: T) (fun T _ => T) (fun T _ => T) (fun x => 6 - x) 0 [0, 2, 17, 18, 19, 20, 21, 22, 23, 24, 25, 26, 27, 28, 29, 30, 31, 32, 33, 34, 35, 36, 37, 38, 39, 40, 41, 43, 44] ?_ (fun x hx => ?_)
 ·exact Nat.zero_le _
 refine .seq (.region ?_)
 refine .w (.bin rfl rfl BinR.lss_i) ?_
 refine .nil (.tn (.seq ?_))
 refine .cn rfl (fun hc1 => ?_) (fun hc1 => ?_)
 ·skip
  refine .skip (.tn (.seq (.block (.region ?_))))
  refine .w (.move rfl) (.w (.ld one_91 rfl) (.w (.nilCheck rfl) (.w (.fieldAddr fa_179_0 rfl) (.w (.ixA (j := 0) Tryz.underlying40 sz_22 rfl rfl) (.w (.as (v' := u64 (wat m 0)) (.ld one_22 rfl) rfl) (.w (.move rfl) ?_))))))
  refine .w (.bin rfl rfl (BinR.mul_u64)) (.w (.bin rfl rfl (BinR.sub_u64 (a := 2#64))) (.w (.as (v' := u64 (nwt (wat m 0) (x + 1))) (.bin rfl rfl (BinR.mul_u64)) rfl) (.w (.assign rfl) ?_)))
  refine .nil (.block_normal (.tn (.region ?_)))
  refine .w (.asI ((x + 1 : Nat) : Int) (.bin rfl rfl (BinR.add_i (by first | (constructor <;> omega) | (constructor <;> simp <;> omega))))) (.w (.move rfl) (.nil ?_))
  refine .hd (x + 1) ?_
  exact ⟨by omega, by omega⟩
 ·obtain rfl : x = 6 := by omega
  refine .exit (.then_exit (.then_exit (.block_exit (.tn (.seq (.region ?_))))))
  refine .w (.ld one_91 rfl) (.w (.move rfl) (.w (.as (v' := u64 (mnsM m)) (.neg_u rfl) rfl) (.w (.nilCheck rfl) (.w (.fieldAddr fa_179_2 rfl) ?_))))
  first | refine .s1 sz_22 ?_ | refine .sr1 sz_22 ?_
  refine .nil (.tn (.seq (.region ?_)))
  refine .w (.as (v' := .agg ((wd8 (2 ^ 256)).map u64).toArray) (.build bld_254 rfl rfl) (by rw [one_wide]; rfl)) (.w (.ld one_91 rfl) (.w (.nilCheck rfl) (.w (.fieldAddr fa_179_0 rfl) (.w (.as (v' := .agg ((wd m).map u64).toArray) (.lda agg_40 rfl) (by rfl)) (.c (f212_spec (2 ^ 256) m one_512 hm h0) body_212 ?_)))))
  refine .w (.move rfl) (.w (.as (v' := .agg ((wd (2 ^ 256 % m)).map u64).toArray) (.extract rfl rfl) rfl) (.w (.extract rfl rfl) (.al zero_40 fun b2 => ?_)))
  first | refine .sa sz_40 ?_ | refine .so sz_40 ?_ | refine .sr sz_40 ?_
  refine .w (.assign rfl) ?_
  refine .nil (.tn ?_)
  refine JC.draw (.one 0 (.one 1 (.one 2 (.one 4 (.one 5 (.one 6 (.one 7 (.one 3 (.one 8 (.one 9 (.one 10 (.one 11 (.one 12 (.one 13 (.one 14 .nil))))))))))))))) (fun i => ([14] : List Nat).contains i) (fun i => ([3, 8, 14] : List Nat).contains i) (fun i => ([5, 6, 9, 10, 11, 12, 13] : List Nat).contains i) mixed (by kernel_rfl) (by decide) (by kernel_rfl) ?_
  refine .w rfl (.ld one_91 rfl) (.w rfl (.lda agg_40 rfl) (.w rfl (.lda agg_40 rfl) (.w rfl (.ld one_91 rfl) (.uw rfl (.nilCheck rfl) (.uw rfl (.fieldAddr fa_179_0 rfl) (.w rfl (.as (v' := .agg ((wd m).map u64).toArray) (.lda agg_40 rfl) (by rfl)) ?_))))))
  refine .mw rfl (.c (f213_spec (2 ^ 256 % m) (2 ^ 256 % m) (Nat.lt_trans (Nat.mod_lt _ h0) hm) (Nat.lt_trans (Nat.mod_lt _ h0) hm)) body_213) ?_
  rintro _ _ _ ⟨rfl, rfl, rfl⟩
  refine kp ?_
  refine .mw rfl (.c (f212_spec (2 ^ 256 % m * (2 ^ 256 % m)) m (prod_512 (Nat.lt_trans (Nat.mod_lt _ h0) hm) (Nat.lt_trans (Nat.mod_lt _ h0) hm)) hm h0) body_212) ?_
  rintro _ _ _ ⟨rfl, rfl, rfl⟩
  refine kp ?_
  refine .uw rfl (.move rfl) (.uw rfl (.as (v' := .agg ((wd (sqM m)).map u64).toArray) (.extract rfl rfl) rfl) (.uw rfl (.extract rfl rfl) (.uw rfl (.nilCheck rfl) (.uw rfl (.fieldAddr fa_179_3 rfl) ?_))))
  first | refine .mw0 rfl (.sa sz_40) ?_ | refine .mw0 rfl (.so sz_40) ?_ | refine .mw0 rfl (.sr sz_40) ?_
  rintro _ _ _ ⟨rfl, rfl⟩
  refine kp ?_
  refine .nil ?_
  exact .dn [] [Res.cells p (modX m 0 1 (mnsM m) (sqM m)) 179, Res.cells bx [ptr p 0] 91] (res_none rfl) ⟨rfl, rfl, rfl⟩
end Go.Proofs.YtmhiapebljfebaaGreatDoor

/- Whoever asks a Mod makes it ready: sync.Once as_ a contract of ours. -/
namespace Go.Proofs.YtmhiapebljfebaaGreatDoor
open Go.RowKit
set_option linter.unusedVariables false
abbrev cVar (b p : Nat) : Res := Res.cells b [ptr p 0] 91
abbrev onceF (bx : Nat) : Value := .func (.func 211) #[] #[ptr bx 0]
theorem Stp.pre {H : RL} {S : Nat → Prop} {a b c : World} (h : Stp S a b) (k : Stp S b c) : Stp S a c := h.trans k fun _ _ h => h
theorem do_spec (p bx m : Nat) (hm : m < 115792089237316195423570985008687907853269984665640564039457584007913129639936) (h0 : 0 < m) (d : Bool) :
  Spec Tryz.prog 210 #[ptr p 4, onceF bx] [] [cMod p (modC m d), cVar bx p] (fun r Γ' H' => r = .tuple #[] ∧ Γ' = [] ∧ H' = [cMod p (modC m true), cVar bx p]) := fun w hw => by
 have hst := St.begin hw
 have hb := Res.cells_ok.1 (hw.hok _ (.head _))
 have hc := cells_heap hb
 cases d with
 | true =>
  refine (once_again ⟨p, 4, none⟩ 1 (by decide) (onceF bx) w ((hc 4).1.trans rfl)).mono ?_
  rintro e w' ⟨rfl, rfl⟩
  exact ⟨_, [], _, rfl, ⟨rfl, rfl, rfl⟩, hst⟩
 | false =>
  have h1 := hst.set1 5 (.int .i32 1)
  rw [show (modC m false).set 5 (.int .i32 1) = modX m 0 1 0 0 from rfl] at h1
  have hcall := f211_spec p bx m hm h0 _ h1.sat
  refine (once_first p 4 #[ptr bx 0] (fun w2 => St ⟨w, [], [cMod p (modC m false), cVar bx p]⟩ [] [cMod p (modX m 0 1 (mnsM m) (sqM m)), cVar bx p] w2) w ((hc 4).1.trans rfl) ((hc 5).1.trans rfl) (hc 4).2 (hc 5).2 (hcall.mono ?_)).mono ?_
  ·rintro e w2 ⟨r, Γ', H', rfl, ⟨rfl, rfl, rfl⟩, hs⟩
   have hfr := St.frame (G := []) (Γc := []) (by simpa using h1) (by simp) hs
   have hs2 : St ⟨w, [], [cMod p (modC m false), cVar bx p]⟩ [] [cMod p (modX m 0 1 (mnsM m) (sqM m)), cVar bx p] w2 := by simpa using hfr
   have hb2 := Res.cells_ok.1 (hs2.sat.hok _ (.head _))
   have hc2 := cells_heap hb2
   exact ⟨rfl, hs2, (hc2 4).1.trans rfl, (hc2 5).1.trans rfl, (hc2 4).2, (hc2 5).2⟩
  ·rintro e w' ⟨rfl, w2, hs2, rfl⟩
   refine ⟨_, [], _, rfl, ⟨rfl, rfl, rfl⟩, ?_⟩
   have h3 := (hs2.drew.set1 4 (.int .u32 1)).set1 5 (.int .i32 0)
   exact h3
end Go.Proofs.YtmhiapebljfebaaGreatDoor
