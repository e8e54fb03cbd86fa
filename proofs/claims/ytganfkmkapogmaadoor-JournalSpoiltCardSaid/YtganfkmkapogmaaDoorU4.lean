/- Walk: JournalSpoilt. -/
import Derived.Test.YtganfkmkapogmaaDoorJ7
import Derived.Test.YtganfkmkapogmaaDoorU3
namespace Go.Proofs.YtganfkmkapogmaaDoor
open Go.RowKit
set_option maxRecDepth 100000
set_option linter.unusedVariables false
set_option linter.unusedSimpArgs false
theorem lists_take2 (l m : Value) (A B : Pcs) (k : Nat) : Spec Tryd.prog 15 #[l, m] [Res.rd l (A.take k).length 1 ((A.take k).map Prod.fst), Res.rd m (B.take k).length 1 ((B.take k).map Prod.fst), Res.all (pcRes A), Res.all (pcRes B)] [] (fun r Γ' H' => r = .bool (decide (bytesP (A.take k) = bytesP (B.take k))) ∧ Γ' = [] ∧ H' = []) := by
  refine (lists_take l m (A.take k) B k).from ?_ ?_
  · intro r hr q hq
    simp only [List.mem_cons, List.not_mem_nil, or_false] at hr
    rcases hr with rfl | rfl | rfl | rfl
    · exact ⟨_, by simp, hq⟩
    · exact ⟨_, by simp, hq⟩
    · obtain ⟨s, hs, hq⟩ := hq
      obtain ⟨x, hx, rfl⟩ := List.mem_map.1 hs
      exact ⟨Res.all (pcRes A), by simp, _, List.mem_map.2 ⟨x, List.mem_of_mem_take hx, rfl⟩, hq⟩
    · exact ⟨_, by simp, hq⟩
  · intro w hs r hr
    simp only [List.mem_cons, List.not_mem_nil, or_false] at hr
    rcases hr with rfl | rfl | rfl | rfl
    · exact hs _ (by simp)
    · exact hs _ (by simp)
    · intro r hr
      obtain ⟨x, hx, rfl⟩ := List.mem_map.1 hr
      exact hs (Res.all (pcRes A)) (by simp) _ (List.mem_map.2 ⟨x, List.mem_of_mem_take hx, rfl⟩)
    · exact hs _ (by simp)

theorem f6_spec (lv : Value) (l : Pcs) (left : Int) (y : BitVec 8) :
    Spec Tryd.prog 6 #[lv, (it left), (u8 y)] [Res.var 1 (sqr.map u32), Res.var 0 (cub.map u32), Res.rd lv l.length 1 (l.map Prod.fst), Res.all (pcRes l)] []
      (fun r Γ' H' => r = .bool true ∧ Γ' = [] ∧ H' = []) := by
  refine Spec.of_args Tryd.func6 rfl Tryd.ntmps6 (by simp) fun w => ?_
  refine JC.know (φ := l.length ≤ 9223372036854775807) (fun w hs => by obtain ⟨_, _, _, _, _, _, h⟩ := hs.rdForm (.tail _ (.tail _ (.head _))); unfold maxLen at h; omega) fun hll => ?_
  refine .seq (.region ?_)
  refine .w (.assign rfl) ?_
  refine .nil (.tn (.seq (.region ?_)))
  refine .c f8_spec body_8 ?_
  refine .w (.assign rfl) ?_
  refine .nil (.tn (.seq (.region ?_)))
  refine JO.nilRd 1 ?_
  refine .cb (f11_spec (.slice none 0 0) [] (by decide)) body_11 ?_ (h0 := by rintro _ _ _ ⟨_, _, _, h, _⟩; exact h)
  rintro _ _ ⟨p, v, rfl, _, rfl⟩
  refine .ap ?_
  rw [recs_nil, flat_nil]
  refine .w (.assign rfl) ?_
  refine .nil (.tn (.seq (.seq (.region ?_))))
  refine .w (.move rfl) ?_
  refine .w (.as (v' := .bool false) (.bin rfl rfl (BinR.eql_p Tryd.underlying27)) rfl) ?_
  refine .w (.move rfl) ?_
  refine .gt (g := 19) rfl rfl rfl ?_
  refine .w (.move rfl) ?_
  refine .gt (g := 19) rfl rfl rfl ?_
  refine .w (.len Tryd.underlying24 rfl) ?_
  refine .gt (g := 19) rfl rfl rfl ?_
  refine .w (.bin rfl rfl BinR.gtr_i) ?_
  refine .w (.pick0 rfl rfl rfl) ?_
  refine .nil (.tn ?_)
  refine .cn rfl (fun hc1 => ?_) (fun hc1 => ?_)
  · refine .seq (.region ?_)
    refine .w (.move rfl) ?_
    refine .w (.move rfl) ?_
    refine .gt (g := 25) rfl rfl rfl ?_
    refine .w (.move rfl) ?_
    refine .gt (g := 25) rfl rfl rfl ?_
    refine .w (.as (v' := .bool true) (.bin rfl rfl (BinR.neq_p Tryd.underlying27)) rfl) ?_
    refine .w (.pick1 rfl rfl rfl) ?_
    refine .w (.assign rfl) ?_
    refine .nil (.tn (.ret (.then_ret ?_)))
    exact .dn [] [] (res1 rfl (.tmp rfl)) ⟨rfl, rfl, rfl⟩
  · refine .skip (.tn (.seq (.region ?_)))
    refine .l1 Tryd.underlying44 info_3 (fun v29 => ?_)
    rw [show [Value.int .i64 0] = endsV (bytesP l) 0 from rfl]
    refine .w (.assign rfl) ?_
    refine .nil (.tn (.seq (.seq (.region ?_))))
    refine .w (.assign rfl) ?_
    refine .nil (.tn (.block ?_))
    refine .lp (ι := Nat × Value × Value) (fun x => x.1 ≤ l.length ∧ ∀ b ∈ (bytesP l).take x.1, b.length ≤ 100) (fun T x => (10, it (x.1 : Int)) :: (9, x.2.2) :: T) (fun T _ => T) (fun T x => Res.cells p [x.2.1] 51 :: Res.row x.2.1 (flat ((bytesP l).take x.1)).length 5 1 ((flat ((bytesP l).take x.1)).map u8) :: Res.row x.2.2 (x.1 + 1) 3 1 (endsV (bytesP l) x.1) :: T) (fun x => l.length - x.1) (0, v, v29) [0, 1, 2, 7, 8, 11, 12, 13, 14, 63, 64, 65, 66, 67, 68, 69, 70, 71, 72, 73, 74, 75, 76, 77, 78, 79, 80, 81, 82, 83, 84, 85, 86, 87, 88, 89, 90, 91, 92, 93, 94, 95, 96, 97, 98, 99, 100, 101, 102, 103, 104, 105, 106, 107, 108, 109, 110, 111, 112, 113, 114, 115, 116, 117, 118, 119, 120, 121, 122, 123, 124, 125, 126] ?_ (fun x hx => ?_) (hH := (by dsimp only; rw [List.take_zero, flat_nil]; repeat (first | exact Picks.nil _ | apply Picks.cons | exact Pull.here _ _ | apply Pull.there)))
    · exact ⟨Nat.zero_le _, by simp⟩
    obtain ⟨k, vj, ev⟩ := x
    obtain ⟨hk, hsm⟩ := hx
    dsimp only at hk hsm ⊢
    have hE := end_small hsm
    rw [List.length_take, bytesP_len] at hE
    refine .seq (.seq (.region ?_))
    refine .w (.move rfl) ?_
    refine .w (.move rfl) ?_
    refine .w (.len Tryd.underlying24 rfl) ?_
    refine .w (.bin rfl rfl BinR.lss_i) ?_
    refine .nil (.tn ?_)
    refine .cn rfl (fun hc2 => ?_) (fun hc2 => ?_)
    · refine .skip (.tn (.seq (.block (.seq (.seq (.region ?_))))))
      refine JO.open (r := Res.rd (pcAt l k).1 (pcAt l k).2.length 1 ((pcAt l k).2.map u8)) (by repeat (first | exact List.Mem.head _ | refine List.Mem.tail _ ?_)) (pc_res (by omega)) ?_
      refine .w (.move rfl) ?_
      refine .w (.move rfl) ?_
      refine .w (.ix1 Tryd.underlying24 sz_22 rfl rfl) ?_
      refine .w (.ld one_22 rfl (hj := by first | exact pc_get (by omega) | rfl | exact tab_get (by first | omega | (simp; omega)) | exact gm (d := 0) (by first | omega | (simp; omega)))) ?_
      refine .w (.len Tryd.underlying22 rfl) ?_
      refine .w (.bin rfl rfl BinR.gtr_i) ?_
      refine .nil (.tn ?_)
      refine .cn rfl (fun hc3 => ?_) (fun hc3 => ?_)
      · refine .seq (.region ?_)
        refine .w (.move rfl) ?_
        refine .w (.assign rfl) ?_
        refine .nil (.tn (.ret (.then_ret (.block_ret (.then_ret (.then_ret (.block_ret (.then_ret ?_))))))))
        exact .dn [] [] (res1 rfl (.tmp rfl)) ⟨rfl, rfl, rfl⟩
      · have hsm2 : ∀ b ∈ (bytesP l).take (k + 1), b.length ≤ 100 := by
          rw [bytesP_get (by omega)]
          intro b hb
          rcases List.mem_append.1 hb with h | h
          · exact hsm b h
          · rw [List.mem_singleton] at h; subst h; omega
        refine .skip (.tn (.seq (.region ?_)))
        refine .w (.move rfl) ?_
        refine .w (.move rfl) ?_
        refine .w (.move rfl) ?_
        refine .w (.ix1 Tryd.underlying24 sz_22 rfl rfl) ?_
        refine .w (.ld one_22 rfl (hj := by first | exact pc_get (by omega) | rfl | exact tab_get (by first | omega | (simp; omega)) | exact gm (d := 0) (by first | omega | (simp; omega)))) ?_
        refine .cb (f20Ok_spec p vj (pcAt l k).1 (flat ((bytesP l).take k)) (pcAt l k).2 (by omega) (by rw [flat_len]; have := end_small hsm; rw [List.length_take, bytesP_len] at this; omega)) body_20 ?_ (h0 := by rintro _ _ _ ⟨_, _, h, _⟩; exact h)
        rintro _ _ ⟨v1, rfl, _, rfl⟩
        refine .ap ?_
        rw [flat_succ (by omega)]
        refine .nil (.tn ?_)
        refine JC.draw (.one 0 (.one 1 (.one 2 (.one 3 (.one 4 (.one 5 (.one 6 (.one 7 (.one 8 (.one 9 (.one 10 (.one 11 (.one 12 (.one 13 (.one 14 .nil))))))))))))))) (fun i => ([12, 13] : List Nat).contains i) (fun i => ([12, 13] : List Nat).contains i) (fun i => ([0, 1, 2, 5, 6, 7, 8, 10, 11, 14] : List Nat).contains i) mixed (by kernel_rfl) (by decide) (by kernel_rfl) ?_
        refine .uw rfl (.move rfl) ?_
        refine .uw rfl (.move rfl) ?_
        refine .uw rfl (.move rfl) ?_
        refine .w rfl (.ix1 Tryd.underlying44 sz_3 rfl rfl) ?_
        refine .w rfl (.ld one_3 rfl (hj := by exact ends_get (Nat.le_refl _))) ?_
        refine .uw rfl (.bin rfl rfl (BinR.add_i (by first | (constructor <;> omega) | (constructor <;> simp <;> omega)))) ?_
        refine .uw rfl (.move rfl) ?_
        refine .uw rfl (.move rfl) ?_
        refine .uw rfl (.ix1 Tryd.underlying24 sz_22 rfl rfl) ?_
        refine .w rfl (.ld one_22 rfl (hj := by first | exact pc_get (by omega) | rfl | exact tab_get (by first | omega | (simp; omega)) | exact gm (d := 0) (by first | omega | (simp; omega)))) ?_
        refine .uw rfl (.len Tryd.underlying22 rfl) ?_
        refine .uw rfl (.as (v' := it ((endOf ((bytesP l).take (k + 1)) : Nat) : Int)) (.bin rfl rfl (BinR.add_i (by first | (constructor <;> omega) | (constructor <;> simp <;> omega)))) (congrArg it (by rw [end_succ (by omega)]; omega))) ?_
        refine .mw rfl (Mv.lit1 Tryd.underlying44 info_3 rfl rfl (by simp) (by decide) (by decide)) ?_
        rintro v61 _ _ ⟨rfl, rfl⟩
        refine kp ?_
        refine .mw rfl (.ap Tryd.underlying44 info_3) ?_
        rintro v62 _ _ ⟨rfl, rfl⟩
        refine kp ?_
        rw [ends_snoc]
        refine .uw rfl (.assign rfl) ?_
        refine .nil (.block_normal (.tn (.region ?_)))
        refine .w (.move rfl) ?_
        refine .w (.bin rfl rfl (BinR.add_i (by first | (constructor <;> omega) | (constructor <;> simp <;> omega)))) ?_
        refine .w (.assign rfl) ?_
        refine .nil ?_
        refine .hd (k + 1, v1, v62) ?_
        exact ⟨⟨by dsimp only; omega, hsm2⟩, by dsimp only; omega⟩
    · have hkl : k = l.length := by omega
      subst hkl
      rw [show (bytesP l).take l.length = (bytesP l) from List.take_of_length_le (by rw [bytesP_len]; omega)] at hsm ⊢
      have hS : Small (bytesP l) := fun b hb => Nat.le_trans (hsm b hb) (by omega)
      have hes := end_small hsm
      rw [bytesP_len] at hes
      have hfl := flat_len (bytesP l)
      refine .exit (.then_exit (.then_exit (.block_exit (.tn (.seq (.region ?_))))))
      refine .le Tryd.underlying22 sz_5 fun v63 => ?_
      refine .w (.move rfl) ?_
      refine .cb (f13_spec p vj (flat (bytesP l)) (by omega)) body_13 ?_
      rintro v65 _ ⟨_, _, rfl⟩
      refine .ap ?_
      refine .ap Tryd.underlying22 info_5 (fun v66 => ?_) (hone := one_u8s)
      rw [List.nil_append, Nat.zero_add]
      refine .w (.assign rfl) ?_
      refine .nil (.tn (.seq (.seq (.region ?_))))
      refine .w (.move rfl) ?_
      refine .w (.bin rfl rfl BinR.lss_i) ?_
      refine .join 6 74 (.bool (decide (left < 0 ∨ left ≥ ((flat (bytesP l)).length : Int)))) ?_ ?_
      · refine .w (.move rfl) ?_
        refine .gn (g := 68) rfl (fun hg66 hg66' => ?_) (fun hg66 hg66' => ?_)
        · refine .gf (g := 69) rfl rfl hg66 (by decide) ?_
          refine .gf (g := 69) rfl rfl hg66 (by decide) ?_
          refine .gf (g := 69) rfl rfl hg66 (by decide) ?_
          refine .gf (g := 69) rfl rfl hg66 (by decide) ?_
          refine .w (.pick1 rfl hg66 rfl) ?_
          refine .nil ?_
          refine .head () (by first | (refine ⟨by first | rfl | exact congrArg (fun b => some (Value.bool b)) (by first | exact (decide_eq_true (by omega)).symm | exact (decide_eq_false (by omega)).symm | exact decide_eq_decide.2 (by omega)) | (simp [*]; done) | (show some _ = some _; simp [*]; done), ?_⟩; repeat (first | exact trivial | refine ⟨rfl, ?_⟩))) (fun _ h => h) (Picks.perm (by repeat (first | exact Picks.nil _ | apply Picks.cons | exact Pull.here _ _ | apply Pull.there))) ?_
          trivial
        · refine .gt (g := 69) rfl rfl hg66 ?_
          refine .w (.move rfl) ?_
          refine .gt (g := 69) rfl rfl hg66 ?_
          refine .w (.move rfl) ?_
          refine .gt (g := 69) rfl rfl hg66 ?_
          refine .w (.len Tryd.underlying22 rfl) ?_
          refine .gt (g := 69) rfl rfl hg66 ?_
          refine .w (.bin rfl rfl BinR.geq_i) ?_
          refine .w (.pick0 rfl hg66 rfl) ?_
          refine .nil ?_
          refine .head () (by first | (refine ⟨by first | rfl | exact congrArg (fun b => some (Value.bool b)) (by first | exact (decide_eq_true (by omega)).symm | exact (decide_eq_false (by omega)).symm | exact decide_eq_decide.2 (by omega)) | (simp [*]; done) | (show some _ = some _; simp [*]; done), ?_⟩; repeat (first | exact trivial | refine ⟨rfl, ?_⟩))) (fun _ h => h) (Picks.perm (by repeat (first | exact Picks.nil _ | apply Picks.cons | exact Pull.here _ _ | apply Pull.there))) ?_
          trivial
      · refine .nil (.tn ?_)
        refine .cn rfl (fun hc4 => ?_) (fun hc4 => ?_)
        · refine .seq (.region ?_)
          refine .w (.move rfl) ?_
          refine .w (.assign rfl) ?_
          refine .nil (.tn (.ret (.then_ret ?_)))
          exact .dn [] [] (res1 rfl (.tmp rfl)) ⟨rfl, rfl, rfl⟩
        · obtain ⟨m, rfl⟩ : ∃ m : Nat, left = m := ⟨left.toNat, by omega⟩
          have hml : m < (flat (bytesP l)).length := by omega
          refine .skip (.tn (.seq (.region ?_)))
          refine .w (.move rfl) ?_
          refine .w (.move rfl) ?_
          refine .w (.move rfl) ?_
          refine .w (.move rfl) ?_
          refine .w (.ix1 Tryd.underlying22 sz_5 rfl rfl) ?_
          refine .w (.ld one_5 rfl (hj := by exact gm (d := 0) (by omega))) ?_
          refine .w (.move rfl) ?_
          refine .w (.bin rfl rfl (BinR.xor_u8)) ?_
          refine .w (.ix1 Tryd.underlying22 sz_5 rfl rfl) ?_
          first | refine .s1 sz_5 ?_ | refine .sr1 sz_5 ?_
          rw [show (((flat (bytesP l))).map u8).set m (u8 ((flat (bytesP l)).getD m 0 ^^^ y)) = ((flat (bytesP l)).set m ((flat (bytesP l)).getD m 0 ^^^ y)).map u8 from (List.map_set ..).symm, show (flat (bytesP l)).length = ((flat (bytesP l)).set m ((flat (bytesP l)).getD m 0 ^^^ y)).length from (List.length_set ..).symm]
          refine .nil (.tn (.seq (.region ?_)))
          refine .w (.assign rfl) ?_
          refine .nil (.tn (.seq (.block ?_)))
          refine .lp (ι := Nat) (fun x => x ≤ l.length ∧ endOf ((bytesP l).take x) ≤ m) (fun T x => (12, it (x : Int)) :: T) (fun T _ => T) (fun T _ => T) (fun x => l.length - x) 0 [0, 1, 6, 7, 9, 11, 13, 14, 100, 101, 102, 103, 104, 105, 106, 107, 108, 109, 110, 111, 112, 113, 114, 115, 116, 117, 118, 119, 120, 121, 122, 123, 124, 125, 126] ?_ (fun x hx => ?_)
          · exact ⟨Nat.zero_le _, Nat.zero_le _⟩
          obtain ⟨hx1, hx2⟩ := hx
          refine .seq (.seq (.region ?_))
          refine .w (.move rfl) ?_
          refine .w (.move rfl) ?_
          refine .w (.len Tryd.underlying24 rfl) ?_
          refine .w (.bin rfl rfl BinR.lss_i) ?_
          refine .join 9 97 (.bool (decide (x < l.length ∧ endOf ((bytesP l).take (x + 1)) ≤ m))) ?_ ?_
          · refine .w (.move rfl) ?_
            refine .gn (g := 88) rfl (fun hg89 hg89' => ?_) (fun hg89 hg89' => ?_)
            · refine .gt (g := 89) rfl rfl hg89 ?_
              refine .w (.move rfl) ?_
              refine .gt (g := 89) rfl rfl hg89 ?_
              refine .w (.move rfl) ?_
              refine .gt (g := 89) rfl rfl hg89 ?_
              refine .w (.asI ((x + 1 : Nat) : Int) (.bin rfl rfl (BinR.add_i (by first | (constructor <;> omega) | (constructor <;> simp <;> omega))))) ?_
              refine .gt (g := 89) rfl rfl hg89 ?_
              refine .w (.ix1 Tryd.underlying44 sz_3 rfl rfl) ?_
              refine .gt (g := 89) rfl rfl hg89 ?_
              refine .w (.ld one_3 rfl (hj := by exact ends_get (by omega))) ?_
              refine .gt (g := 89) rfl rfl hg89 ?_
              refine .w (.move rfl) ?_
              refine .gt (g := 89) rfl rfl hg89 ?_
              refine .w (.bin rfl rfl BinR.leq_i) ?_
              refine .w (.pick1 rfl hg89 rfl) ?_
              refine .nil ?_
              refine .head () (by first | (refine ⟨by first | rfl | exact congrArg (fun b => some (Value.bool b)) (by first | exact (decide_eq_true (by omega)).symm | exact (decide_eq_false (by omega)).symm | exact decide_eq_decide.2 (by omega)) | (simp [*]; done) | (show some _ = some _; simp [*]; done), ?_⟩; repeat (first | exact trivial | refine ⟨rfl, ?_⟩))) (fun _ h => h) (Picks.perm (by repeat (first | exact Picks.nil _ | apply Picks.cons | exact Pull.here _ _ | apply Pull.there))) ?_
              trivial
            · refine .gf (g := 89) rfl rfl hg89 (by decide) ?_
              refine .gf (g := 89) rfl rfl hg89 (by decide) ?_
              refine .gf (g := 89) rfl rfl hg89 (by decide) ?_
              refine .gf (g := 89) rfl rfl hg89 (by decide) ?_
              refine .gf (g := 89) rfl rfl hg89 (by decide) ?_
              refine .gf (g := 89) rfl rfl hg89 (by decide) ?_
              refine .gf (g := 89) rfl rfl hg89 (by decide) ?_
              refine .w (.pick0 rfl hg89 rfl) ?_
              refine .nil ?_
              refine .head () (by first | (refine ⟨by first | rfl | exact congrArg (fun b => some (Value.bool b)) (by first | exact (decide_eq_true (by omega)).symm | exact (decide_eq_false (by omega)).symm | exact decide_eq_decide.2 (by omega)) | (simp [*]; done) | (show some _ = some _; simp [*]; done), ?_⟩; repeat (first | exact trivial | refine ⟨rfl, ?_⟩))) (fun _ h => h) (Picks.perm (by repeat (first | exact Picks.nil _ | apply Picks.cons | exact Pull.here _ _ | apply Pull.there))) ?_
              trivial
          · refine .nil (.tn ?_)
            refine .cn rfl (fun hc5 => ?_) (fun hc5 => ?_)
            · refine .skip (.tn (.block (.region ?_)))
              refine .w (.move rfl) ?_
              refine .w (.bin rfl rfl (BinR.add_i (by first | (constructor <;> omega) | (constructor <;> simp <;> omega)))) ?_
              refine .w (.assign rfl) ?_
              refine .nil (.block_normal ?_)
              refine .hd (x + 1) ?_
              exact ⟨⟨by omega, hc5.2⟩, by omega⟩
            · obtain ⟨R, hrec⟩ := recs_set hS ((flat (bytesP l)).getD m 0 ^^^ y) hx2
              have hxl : ((bytesP l).take x).length = x := by rw [List.length_take, bytesP_len]; omega
              refine .exit (.then_exit (.then_exit (.block_exit (.tn (.seq (.region ?_))))))
              refine .w (.move rfl) ?_
              refine .cb (f9_spec v66 ((flat (bytesP l)).set m ((flat (bytesP l)).getD m 0 ^^^ y)) (by rw [List.length_set]; omega)) body_9 ?_ (h0 := by rintro _ _ _ ⟨_, _, _, _, h, _⟩; exact h)
              rintro _ _ ⟨L2, A2, hA2, rfl, _, rfl⟩
              refine .ap ?_
              refine JO.frzP (by repeat (first | exact Pull.here _ _ | apply Pull.there)) ?_
              refine JO.freeze (v := L2) (.here _ _) (by decide) ?_
              have hA2l : A2.length = x + R.length := by have := congrArg List.length hA2; rw [bytesP_len, hrec, List.length_append, hxl] at this; exact this
              have hend : endOf (recs ((flat (bytesP l)).set m ((flat (bytesP l)).getD m 0 ^^^ y))) = endOf ((bytesP l).take x) + endOf R := by rw [hrec, endOf_app]
              refine .w (.move rfl) ?_
              refine .w (.extract rfl rfl) ?_
              refine .w (.extract rfl rfl) ?_
              refine .w (.assign rfl) ?_
              refine .w (.assign rfl) ?_
              refine .nil (.tn (.seq (.seq (.region ?_))))
              refine .w (.move rfl) ?_
              refine .w (.len Tryd.underlying24 rfl) ?_
              refine .w (.move rfl) ?_
              refine .w (.asF (.bin rfl rfl BinR.lss_i)) ?_
              refine .w (.move rfl) ?_
              refine .gt (g := 109) rfl rfl rfl ?_
              refine .w (.move rfl) ?_
              refine .gt (g := 109) rfl rfl rfl ?_
              refine .w (.move rfl) ?_
              refine .gt (g := 109) rfl rfl rfl ?_
              refine .w (.move rfl) ?_
              refine .gt (g := 109) rfl rfl rfl ?_
              refine .w (.ix1 Tryd.underlying44 sz_3 rfl rfl) ?_
              refine .gt (g := 109) rfl rfl rfl ?_
              refine .w (.ld one_3 rfl (hj := by exact ends_get (by omega))) ?_
              refine .gt (g := 109) rfl rfl rfl ?_
              refine .w (.as (v' := .bool false) (.bin rfl rfl BinR.lss_i) (congrArg Value.bool (decide_eq_false (by rw [hend]; omega)))) ?_
              refine .w (.pick0 rfl rfl rfl) ?_
              refine .nil (.tn ?_)
              refine .cf rfl ?_
              refine .skip (.tn (.seq ?_))
              refine JC.draw (.one 0 (.one 1 (.one 2 (.one 3 (.one 4 (.one 5 (.one 6 (.one 7 (.one 8 (.one 9 (.one 10 .nil))))))))))) (fun i => ([8] : List Nat).contains i) (fun i => ([8] : List Nat).contains i) (fun i => ([0, 1, 2, 3, 4, 5, 6, 7, 9, 10] : List Nat).contains i) mixed (by kernel_rfl) (by decide) (by kernel_rfl) ?_
              refine .uw rfl (.move rfl) ?_
              refine JR.cutRd (v := L2) 0 x (by repeat (first | exact List.Mem.head _ | refine List.Mem.tail _ ?_)) (by omega) (by omega) ?_
              rw [rd_preP (by omega)]
              refine JR.cutRd (v := lv) 0 x (by repeat (first | exact List.Mem.head _ | refine List.Mem.tail _ ?_)) (by omega) (by omega) ?_
              rw [rd_preP (by omega)]
              refine .uw rfl (.move rfl) ?_
              refine JR.ugt (g := 118) rfl rfl rfl rfl rfl rfl (.move rfl) (by decide) ?_
              refine JR.ugt (g := 118) rfl rfl rfl rfl rfl rfl (.move rfl) (by decide) ?_
              refine JR.ugt (g := 118) rfl rfl rfl rfl rfl rfl (.cutRd (l := 0) (h := x) Tryd.underlying24 sz_22 rfl (by repeat (first | exact List.Mem.head _ | refine List.Mem.tail _ ?_)) rfl ⟨_, rfl⟩ (by first | (simp; done) | omega | (simp; omega)) (by first | (simp; done) | omega | (simp; omega))) (by decide) ?_
              refine JR.ugt (g := 118) rfl rfl rfl rfl rfl rfl (.move rfl) (by decide) ?_
              refine JR.ugt (g := 118) rfl rfl rfl rfl rfl rfl (.move rfl) (by decide) ?_
              refine JR.ugt (g := 118) rfl rfl rfl rfl rfl rfl (.cutRd (l := 0) (h := x) Tryd.underlying24 sz_22 rfl (by repeat (first | exact List.Mem.head _ | refine List.Mem.tail _ ?_)) rfl ⟨_, rfl⟩ (by first | (simp; done) | omega | (simp; omega)) (by first | (simp; done) | omega | (simp; omega))) (by decide) ?_
              refine JR.mgt (g := 118) rfl rfl rfl rfl rfl (.c (lists_take2 _ _ A2 l x) body_15) (by decide) ?_
              rintro _ _ _ ⟨rfl, rfl, rfl⟩
              rw [decide_eq_true (show bytesP (A2.take x) = bytesP (l.take x) by rw [bytesP, List.map_take, show A2.map Prod.snd = recs ((flat (bytesP l)).set m ((flat (bytesP l)).getD m 0 ^^^ y)) from hA2, hrec, List.take_left' hxl]; simp [bytesP, List.map_take])]
              refine kp ?_
              refine JR.u rfl rfl rfl (Yv.pick1 rfl rfl rfl) (by decide) ?_
              refine .uw rfl (.assign rfl) ?_
              refine .nil (.tn (.ret ?_))
              exact .dn [] [] (res1 rfl (.tmp rfl)) ⟨rfl, rfl, rfl⟩
end Go.Proofs.YtganfkmkapogmaaDoor
