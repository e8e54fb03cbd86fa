/- Walk: JournalBreaks. -/
import Derived.Test.YtganfkmkapogmaaDoorJ7
namespace Go.Proofs.YtganfkmkapogmaaDoor
open Go.RowKit
set_option maxRecDepth 100000
set_option linter.unusedVariables false
set_option linter.unusedSimpArgs false
theorem lists_take (l m : Value) (A B : Pcs) (k : Nat) : Spec Tryd.prog 15 #[l, m] [Res.rd l A.length 1 (A.map Prod.fst), Res.rd m (B.take k).length 1 ((B.take k).map Prod.fst), Res.all (pcRes A), Res.all (pcRes B)] [] (fun r Γ' H' => r = .bool (decide (bytesP A = bytesP (B.take k))) ∧ Γ' = [] ∧ H' = []) := by
  have h := Spec.allTake (Γ := [Res.rd l A.length 1 (A.map Prod.fst), Res.rd m (B.take k).length 1 ((B.take k).map Prod.fst), Res.all (pcRes A)]) (f15_spec l m A (B.take k))
  exact h

theorem f5_spec (lv : Value) (l : Pcs) (left : Int) :
    Spec Tryd.prog 5 #[lv, (it left)] [Res.var 1 (sqr.map u32), Res.var 0 (cub.map u32), Res.rd lv l.length 1 (l.map Prod.fst), Res.all (pcRes l)] []
      (fun r Γ' H' => r = .bool true ∧ Γ' = [] ∧ H' = []) := by
  refine Spec.of_args Tryd.func5 rfl Tryd.ntmps5 (by simp) fun w => ?_
  refine JC.know (φ := l.length ≤ 9223372036854775807) (fun w hs => by obtain ⟨_, _, _, _, _, _, h⟩ := hs.rdForm (.tail _ (.tail _ (.head _))); unfold maxLen at h; omega) fun hll => ?_
  refine .seq (.region ?_)
  refine .w (.assign rfl) ?_
  refine .nil (.tn (.seq (.region ?_)))
  refine .c f8_spec body_8 ?_
  refine .w (.assign rfl) ?_
  refine .nil (.tn (.seq (.region ?_)))
  refine JO.nilRd 1 ?_
  refine .cb (f11_spec (.slice none 0 0) [] (by decide)) body_11 ?_ (h0 := by rintro _ _ _ ⟨_, _, _, h, _⟩; exact h)
  rintro _ _ ⟨p, v, rfl, _, rfl⟩
  refine .ap ?_
  rw [recs_nil, flat_nil]
  refine .w (.assign rfl) ?_
  refine .nil (.tn (.seq (.seq (.region ?_))))
  refine .w (.move rfl) ?_
  refine .w (.as (v' := .bool false) (.bin rfl rfl (BinR.eql_p Tryd.underlying27)) rfl) ?_
  refine .w (.move rfl) ?_
  refine .gt (g := 18) rfl rfl rfl ?_
  refine .w (.move rfl) ?_
  refine .gt (g := 18) rfl rfl rfl ?_
  refine .w (.len Tryd.underlying24 rfl) ?_
  refine .gt (g := 18) rfl rfl rfl ?_
  refine .w (.bin rfl rfl BinR.gtr_i) ?_
  refine .w (.pick0 rfl rfl rfl) ?_
  refine .nil (.tn ?_)
  refine .cn rfl (fun hc1 => ?_) (fun hc1 => ?_)
  · refine .seq (.region ?_)
    refine .w (.move rfl) ?_
    refine .w (.move rfl) ?_
    refine .gt (g := 24) rfl rfl rfl ?_
    refine .w (.move rfl) ?_
    refine .gt (g := 24) rfl rfl rfl ?_
    refine .w (.as (v' := .bool true) (.bin rfl rfl (BinR.neq_p Tryd.underlying27)) rfl) ?_
    refine .w (.pick1 rfl rfl rfl) ?_
    refine .w (.assign rfl) ?_
    refine .nil (.tn (.ret (.then_ret ?_)))
    exact .dn [] [] (res1 rfl (.tmp rfl)) ⟨rfl, rfl, rfl⟩
  · refine .skip (.tn (.seq (.region ?_)))
    refine .l1 Tryd.underlying44 info_3 (fun v28 => ?_)
    rw [show [Value.int .i64 0] = endsV (bytesP l) 0 from rfl]
    refine .w (.assign rfl) ?_
    refine .nil (.tn (.seq (.seq (.region ?_))))
    refine .w (.assign rfl) ?_
    refine .nil (.tn (.block ?_))
    refine .lp (ι := Nat × Value × Value) (fun x => x.1 ≤ l.length ∧ ∀ b ∈ (bytesP l).take x.1, b.length ≤ 100) (fun T x => (8, it (x.1 : Int)) :: (7, x.2.2) :: T) (fun T _ => T) (fun T x => Res.cells p [x.2.1] 51 :: Res.row x.2.1 (flat ((bytesP l).take x.1)).length 5 1 ((flat ((bytesP l).take x.1)).map u8) :: Res.row x.2.2 (x.1 + 1) 3 1 (endsV (bytesP l) x.1) :: T) (fun x => l.length - x.1) (0, v, v28) [0, 1, 5, 6, 10, 11, 12, 13, 64, 65, 66, 67, 68, 69, 70, 71, 72, 73, 74, 75, 76, 77, 78, 79, 80, 81, 82, 83, 84, 85, 86, 87, 88, 89, 90, 91, 92, 93, 94, 95, 96, 97, 98, 99, 100, 101, 102, 103, 104, 105, 106, 107, 108, 109, 110, 111, 112, 113, 114, 115, 116, 117, 118, 119, 120, 121, 122, 123, 124, 125, 126] ?_ (fun x hx => ?_) (hH := (by dsimp only; rw [List.take_zero, flat_nil]; repeat (first | exact Picks.nil _ | apply Picks.cons | exact Pull.here _ _ | apply Pull.there)))
    · exact ⟨Nat.zero_le _, by simp⟩
    obtain ⟨k, vj, ev⟩ := x
    obtain ⟨hk, hsm⟩ := hx
    dsimp only at hk hsm ⊢
    have hE := end_small hsm
    rw [List.length_take, bytesP_len] at hE
    refine .seq (.seq (.region ?_))
    refine .w (.move rfl) ?_
    refine .w (.move rfl) ?_
    refine .w (.len Tryd.underlying24 rfl) ?_
    refine .w (.bin rfl rfl BinR.lss_i) ?_
    refine .nil (.tn ?_)
    refine .cn rfl (fun hc2 => ?_) (fun hc2 => ?_)
    · refine .skip (.tn (.seq (.block (.seq (.seq (.region ?_))))))
      refine JO.open (r := Res.rd (pcAt l k).1 (pcAt l k).2.length 1 ((pcAt l k).2.map u8)) (by repeat (first | exact List.Mem.head _ | refine List.Mem.tail _ ?_)) (pc_res (by omega)) ?_
      refine .w (.move rfl) ?_
      refine .w (.move rfl) ?_
      refine .w (.ix1 Tryd.underlying24 sz_22 rfl rfl) ?_
      refine .w (.ld one_22 rfl (hj := by first | exact pc_get (by omega) | rfl | exact tab_get (by first | omega | (simp; omega)) | exact gm (d := 0) (by first | omega | (simp; omega)))) ?_
      refine .w (.len Tryd.underlying22 rfl) ?_
      refine .w (.bin rfl rfl BinR.gtr_i) ?_
      refine .nil (.tn ?_)
      refine .cn rfl (fun hc3 => ?_) (fun hc3 => ?_)
      · refine .seq (.region ?_)
        refine .w (.move rfl) ?_
        refine .w (.assign rfl) ?_
        refine .nil (.tn (.ret (.then_ret (.block_ret (.then_ret (.then_ret (.block_ret (.then_ret ?_))))))))
        exact .dn [] [] (res1 rfl (.tmp rfl)) ⟨rfl, rfl, rfl⟩
      · have hsm2 : ∀ b ∈ (bytesP l).take (k + 1), b.length ≤ 100 := by
          rw [bytesP_get (by omega)]
          intro b hb
          rcases List.mem_append.1 hb with h | h
          · exact hsm b h
          · rw [List.mem_singleton] at h; subst h; omega
        refine .skip (.tn (.seq (.region ?_)))
        refine .w (.move rfl) ?_
        refine .w (.move rfl) ?_
        refine .w (.move rfl) ?_
        refine .w (.ix1 Tryd.underlying24 sz_22 rfl rfl) ?_
        refine .w (.ld one_22 rfl (hj := by first | exact pc_get (by omega) | rfl | exact tab_get (by first | omega | (simp; omega)) | exact gm (d := 0) (by first | omega | (simp; omega)))) ?_
        refine .cb (f20Ok_spec p vj (pcAt l k).1 (flat ((bytesP l).take k)) (pcAt l k).2 (by omega) (by rw [flat_len]; have := end_small hsm; rw [List.length_take, bytesP_len] at this; omega)) body_20 ?_ (h0 := by rintro _ _ _ ⟨_, _, h, _⟩; exact h)
        rintro _ _ ⟨v1, rfl, _, rfl⟩
        refine .ap ?_
        rw [flat_succ (by omega)]
        refine .w (.assign rfl) ?_
        refine .nil (.tn (.seq (.seq (.region ?_))))
        refine .w (.move rfl) ?_
        refine .w (.as (v' := .bool false) (.bin rfl rfl BinR.neq_i) rfl) ?_
        refine .nil (.tn ?_)
        refine .cf rfl ?_
        refine .skip (.tn ?_)
        refine JC.draw (.one 0 (.one 1 (.one 2 (.one 3 (.one 4 (.one 5 (.one 6 (.one 7 (.one 8 (.one 9 (.one 10 (.one 11 (.one 12 (.one 13 (.one 14 .nil))))))))))))))) (fun i => ([12, 13] : List Nat).contains i) (fun i => ([12, 13] : List Nat).contains i) (fun i => ([0, 1, 2, 5, 6, 7, 8, 10, 11, 14] : List Nat).contains i) mixed (by kernel_rfl) (by decide) (by kernel_rfl) ?_
        refine .uw rfl (.move rfl) ?_
        refine .uw rfl (.move rfl) ?_
        refine .uw rfl (.move rfl) ?_
        refine .w rfl (.ix1 Tryd.underlying44 sz_3 rfl rfl) ?_
        refine .w rfl (.ld one_3 rfl (hj := by exact ends_get (Nat.le_refl _))) ?_
        refine .uw rfl (.bin rfl rfl (BinR.add_i (by first | (constructor <;> omega) | (constructor <;> simp <;> omega)))) ?_
        refine .uw rfl (.move rfl) ?_
        refine .uw rfl (.move rfl) ?_
        refine .uw rfl (.ix1 Tryd.underlying24 sz_22 rfl rfl) ?_
        refine .w rfl (.ld one_22 rfl (hj := by first | exact pc_get (by omega) | rfl | exact tab_get (by first | omega | (simp; omega)) | exact gm (d := 0) (by first | omega | (simp; omega)))) ?_
        refine .uw rfl (.len Tryd.underlying22 rfl) ?_
        refine .uw rfl (.as (v' := it ((endOf ((bytesP l).take (k + 1)) : Nat) : Int)) (.bin rfl rfl (BinR.add_i (by first | (constructor <;> omega) | (constructor <;> simp <;> omega)))) (congrArg it (by rw [end_succ (by omega)]; omega))) ?_
        refine .mw rfl (Mv.lit1 Tryd.underlying44 info_3 rfl rfl (by simp) (by decide) (by decide)) ?_
        rintro v62 _ _ ⟨rfl, rfl⟩
        refine kp ?_
        refine .mw rfl (.ap Tryd.underlying44 info_3) ?_
        rintro v63 _ _ ⟨rfl, rfl⟩
        refine kp ?_
        rw [ends_snoc]
        refine .uw rfl (.assign rfl) ?_
        refine .nil (.block_normal (.tn (.region ?_)))
        refine .w (.move rfl) ?_
        refine .w (.bin rfl rfl (BinR.add_i (by first | (constructor <;> omega) | (constructor <;> simp <;> omega)))) ?_
        refine .w (.assign rfl) ?_
        refine .nil ?_
        refine .hd (k + 1, v1, v63) ?_
        exact ⟨⟨by dsimp only; omega, hsm2⟩, by dsimp only; omega⟩
    · have hkl : k = l.length := by omega
      subst hkl
      rw [show (bytesP l).take l.length = (bytesP l) from List.take_of_length_le (by rw [bytesP_len]; omega)] at hsm ⊢
      have hS : Small (bytesP l) := fun b hb => Nat.le_trans (hsm b hb) (by omega)
      have hes := end_small hsm
      rw [bytesP_len] at hes
      have hfl := flat_len (bytesP l)
      refine .exit (.then_exit (.then_exit (.block_exit (.tn (.seq (.region ?_))))))
      refine .w (.move rfl) ?_
      refine .cb (f13_spec p vj (flat (bytesP l)) (by omega)) body_13 ?_
      rintro v65 _ ⟨_, _, rfl⟩
      refine .ap ?_
      refine JO.freeze (.here _ _) (by decide) ?_
      refine .w (.assign rfl) ?_
      refine .nil (.tn (.seq (.seq (.region ?_))))
      refine .w (.move rfl) ?_
      refine .w (.len Tryd.underlying22 rfl) ?_
      refine .w (.move rfl) ?_
      refine .w (.move rfl) ?_
      refine .w (.len Tryd.underlying24 rfl) ?_
      refine .w (.ix1 Tryd.underlying44 sz_3 rfl rfl) ?_
      refine .w (.ld one_3 rfl (hj := by exact ends_get (Nat.le_refl _))) ?_
      refine .w (.as (v' := .bool false) (.bin rfl rfl BinR.neq_i) (congrArg Value.bool (decide_eq_false (by rw [List.take_of_length_le (by rw [bytesP_len]; omega)]; omega)))) ?_
      refine .nil (.tn ?_)
      refine .cf rfl ?_
      refine .skip (.tn (.seq (.seq (.region ?_))))
      refine .w (.move rfl) ?_
      refine .w (.bin rfl rfl BinR.lss_i) ?_
      refine .join 6 81 (.bool (decide (left < 0 ∨ left > ((flat (bytesP l)).length : Int)))) ?_ ?_
      · refine .w (.move rfl) ?_
        refine .gn (g := 75) rfl (fun hg77 hg77' => ?_) (fun hg77 hg77' => ?_)
        · refine .gf (g := 76) rfl rfl hg77 (by decide) ?_
          refine .gf (g := 76) rfl rfl hg77 (by decide) ?_
          refine .gf (g := 76) rfl rfl hg77 (by decide) ?_
          refine .gf (g := 76) rfl rfl hg77 (by decide) ?_
          refine .w (.pick1 rfl hg77 rfl) ?_
          refine .nil ?_
          refine .head () (by first | (refine ⟨by first | rfl | exact congrArg (fun b => some (Value.bool b)) (by first | exact (decide_eq_true (by omega)).symm | exact (decide_eq_false (by omega)).symm | exact decide_eq_decide.2 (by omega)) | (simp [*]; done) | (show some _ = some _; simp [*]; done), ?_⟩; repeat (first | exact trivial | refine ⟨rfl, ?_⟩))) (fun _ h => h) (Picks.perm (by repeat (first | exact Picks.nil _ | apply Picks.cons | exact Pull.here _ _ | apply Pull.there))) ?_
          trivial
        · refine .gt (g := 76) rfl rfl hg77 ?_
          refine .w (.move rfl) ?_
          refine .gt (g := 76) rfl rfl hg77 ?_
          refine .w (.move rfl) ?_
          refine .gt (g := 76) rfl rfl hg77 ?_
          refine .w (.len Tryd.underlying22 rfl) ?_
          refine .gt (g := 76) rfl rfl hg77 ?_
          refine .w (.bin rfl rfl BinR.gtr_i) ?_
          refine .w (.pick0 rfl hg77 rfl) ?_
          refine .nil ?_
          refine .head () (by first | (refine ⟨by first | rfl | exact congrArg (fun b => some (Value.bool b)) (by first | exact (decide_eq_true (by omega)).symm | exact (decide_eq_false (by omega)).symm | exact decide_eq_decide.2 (by omega)) | (simp [*]; done) | (show some _ = some _; simp [*]; done), ?_⟩; repeat (first | exact trivial | refine ⟨rfl, ?_⟩))) (fun _ h => h) (Picks.perm (by repeat (first | exact Picks.nil _ | apply Picks.cons | exact Pull.here _ _ | apply Pull.there))) ?_
          trivial
      · refine .nil (.tn ?_)
        refine .cn rfl (fun hc6 => ?_) (fun hc6 => ?_)
        · refine .seq (.region ?_)
          refine .w (.move rfl) ?_
          refine .w (.move rfl) ?_
          refine .gt (g := 83) rfl rfl rfl ?_
          refine .w (.move rfl) ?_
          refine .gt (g := 83) rfl rfl rfl ?_
          refine .cb (f12_spec p vj (flat (bytesP l)) (by omega)) body_12 ?_ (h0 := by rintro _ _ _ ⟨_, _, h, _⟩; exact h)
          rintro v85 _ ⟨A, hA, _, rfl⟩
          refine .ap ?_
          refine JO.frzP (by repeat (first | exact Pull.here _ _ | apply Pull.there)) ?_
          rw [recs_flat0 hS] at hA
          refine .gt (g := 83) rfl rfl rfl ?_
          refine .w (.move rfl) ?_
          refine .gt (g := 83) rfl rfl rfl ?_
          refine .c (f15_spec v85 lv A l) body_15 ?_
          rw [decide_eq_true hA]
          refine .w (.pick1 rfl rfl rfl) ?_
          refine .w (.assign rfl) ?_
          refine .nil (.tn (.ret (.then_ret ?_)))
          exact .dn [] [] (res1 rfl (.tmp rfl)) ⟨rfl, rfl, rfl⟩
        · obtain ⟨m, rfl⟩ : ∃ m : Nat, left = m := ⟨left.toNat, by omega⟩
          have hml : m ≤ (flat (bytesP l)).length := by omega
          refine .skip (.tn (.seq (.region ?_)))
          refine .w (.assign rfl) ?_
          refine .nil (.tn (.seq (.block ?_)))
          refine .lp (ι := Nat) (fun x => x ≤ l.length ∧ endOf ((bytesP l).take x) ≤ m) (fun T x => (11, it (x : Int)) :: T) (fun T _ => T) (fun T _ => T) (fun x => l.length - x) 0 [0, 1, 4, 5, 7, 10, 12, 13, 104, 105, 106, 107, 108, 109, 110, 111, 112, 113, 114, 115, 116, 117, 118, 119, 120, 121, 122, 123, 124, 125, 126] ?_ (fun x hx => ?_)
          · exact ⟨Nat.zero_le _, Nat.zero_le _⟩
          obtain ⟨hx1, hx2⟩ := hx
          refine .seq (.seq (.region ?_))
          refine .w (.move rfl) ?_
          refine .w (.move rfl) ?_
          refine .w (.len Tryd.underlying24 rfl) ?_
          refine .w (.bin rfl rfl BinR.lss_i) ?_
          refine .join 9 101 (.bool (decide (x < l.length ∧ endOf ((bytesP l).take (x + 1)) ≤ m))) ?_ ?_
          · refine .w (.move rfl) ?_
            refine .gn (g := 92) rfl (fun hg96 hg96' => ?_) (fun hg96 hg96' => ?_)
            · refine .gt (g := 93) rfl rfl hg96 ?_
              refine .w (.move rfl) ?_
              refine .gt (g := 93) rfl rfl hg96 ?_
              refine .w (.move rfl) ?_
              refine .gt (g := 93) rfl rfl hg96 ?_
              refine .w (.asI ((x + 1 : Nat) : Int) (.bin rfl rfl (BinR.add_i (by first | (constructor <;> omega) | (constructor <;> simp <;> omega))))) ?_
              refine .gt (g := 93) rfl rfl hg96 ?_
              refine .w (.ix1 Tryd.underlying44 sz_3 rfl rfl) ?_
              refine .gt (g := 93) rfl rfl hg96 ?_
              refine .w (.ld one_3 rfl (hj := by exact ends_get (by omega))) ?_
              refine .gt (g := 93) rfl rfl hg96 ?_
              refine .w (.move rfl) ?_
              refine .gt (g := 93) rfl rfl hg96 ?_
              refine .w (.bin rfl rfl BinR.leq_i) ?_
              refine .w (.pick1 rfl hg96 rfl) ?_
              refine .nil ?_
              refine .head () (by first | (refine ⟨by first | rfl | exact congrArg (fun b => some (Value.bool b)) (by first | exact (decide_eq_true (by omega)).symm | exact (decide_eq_false (by omega)).symm | exact decide_eq_decide.2 (by omega)) | (simp [*]; done) | (show some _ = some _; simp [*]; done), ?_⟩; repeat (first | exact trivial | refine ⟨rfl, ?_⟩))) (fun _ h => h) (Picks.perm (by repeat (first | exact Picks.nil _ | apply Picks.cons | exact Pull.here _ _ | apply Pull.there))) ?_
              trivial
            · refine .gf (g := 93) rfl rfl hg96 (by decide) ?_
              refine .gf (g := 93) rfl rfl hg96 (by decide) ?_
              refine .gf (g := 93) rfl rfl hg96 (by decide) ?_
              refine .gf (g := 93) rfl rfl hg96 (by decide) ?_
              refine .gf (g := 93) rfl rfl hg96 (by decide) ?_
              refine .gf (g := 93) rfl rfl hg96 (by decide) ?_
              refine .gf (g := 93) rfl rfl hg96 (by decide) ?_
              refine .w (.pick0 rfl hg96 rfl) ?_
              refine .nil ?_
              refine .head () (by first | (refine ⟨by first | rfl | exact congrArg (fun b => some (Value.bool b)) (by first | exact (decide_eq_true (by omega)).symm | exact (decide_eq_false (by omega)).symm | exact decide_eq_decide.2 (by omega)) | (simp [*]; done) | (show some _ = some _; simp [*]; done), ?_⟩; repeat (first | exact trivial | refine ⟨rfl, ?_⟩))) (fun _ h => h) (Picks.perm (by repeat (first | exact Picks.nil _ | apply Picks.cons | exact Pull.here _ _ | apply Pull.there))) ?_
              trivial
          · refine .nil (.tn ?_)
            refine .cn rfl (fun hc7 => ?_) (fun hc7 => ?_)
            · refine .skip (.tn (.block (.region ?_)))
              refine .w (.move rfl) ?_
              refine .w (.bin rfl rfl (BinR.add_i (by first | (constructor <;> omega) | (constructor <;> simp <;> omega)))) ?_
              refine .w (.assign rfl) ?_
              refine .nil (.block_normal ?_)
              refine .hd (x + 1) ?_
              exact ⟨⟨by omega, hc7.2⟩, by omega⟩
            · have hstop : x < (bytesP l).length → m < endOf ((bytesP l).take (x + 1)) := fun h => (by rw [bytesP_len] at h; have h7 := hc7; simp only [not_and, Nat.not_le] at h7; exact h7 h)
              have hrec := recs_cut hS hx2 hstop
              refine .exit (.then_exit (.then_exit (.block_exit (.tn (.seq (.region ?_))))))
              refine .w (.move rfl) ?_
              refine .w (.move rfl) ?_
              refine .ct 0 m Tryd.underlying22 sz_5 (fun v107 => ?_)
              rw [rd_pre m (by omega)]
              refine .cb (f9_spec v107 ((flat (bytesP l)).take m) (by rw [List.length_take]; omega)) body_9 ?_ (h0 := by rintro _ _ _ ⟨_, _, _, _, h, _⟩; exact h)
              rintro _ _ ⟨L2, A2, hA2, rfl, _, rfl⟩
              refine .ap ?_
              refine JO.frzP (by repeat (first | exact Pull.here _ _ | apply Pull.there)) ?_
              rw [hrec] at hA2
              refine .w (.move rfl) ?_
              refine .w (.extract rfl rfl) ?_
              refine .w (.extract rfl rfl) ?_
              refine .w (.assign rfl) ?_
              refine .w (.assign rfl) ?_
              refine .nil (.tn (.seq (.region ?_)))
              refine .w (.move rfl) ?_
              refine .w (.move rfl) ?_
              refine .gt (g := 112) rfl rfl rfl ?_
              refine .w (.move rfl) ?_
              refine .gt (g := 112) rfl rfl rfl ?_
              refine .w (.move rfl) ?_
              refine .gt (g := 112) rfl rfl rfl ?_
              refine .w (.move rfl) ?_
              refine .gt (g := 112) rfl rfl rfl ?_
              refine .ct 0 x Tryd.underlying24 sz_22 (fun v116 => ?_)
              rw [rd_preP (by omega)]
              refine .gt (g := 112) rfl rfl rfl ?_
              refine .c (lists_take L2 v116 A2 l x) body_15 ?_
              rw [decide_eq_true (show bytesP A2 = bytesP (l.take x) by rw [hA2]; simp [bytesP, List.map_take])]
              refine .w (.pick1 rfl rfl rfl) ?_
              refine .w (.move rfl) ?_
              refine .gt (g := 119) rfl rfl rfl ?_
              refine .w (.move rfl) ?_
              refine .gt (g := 119) rfl rfl rfl ?_
              refine .w (.move rfl) ?_
              refine .gt (g := 119) rfl rfl rfl ?_
              refine .w (.move rfl) ?_
              refine .gt (g := 119) rfl rfl rfl ?_
              refine .w (.ix1 Tryd.underlying44 sz_3 rfl rfl) ?_
              refine .gt (g := 119) rfl rfl rfl ?_
              refine .w (.ld one_3 rfl (hj := by exact ends_get (by omega))) ?_
              refine .gt (g := 119) rfl rfl rfl ?_
              refine .w (.as (v' := .bool true) (.bin rfl rfl BinR.eql_i) (congrArg Value.bool (decide_eq_true (by rw [hrec])))) ?_
              refine .w (.pick1 rfl rfl rfl) ?_
              refine .w (.assign rfl) ?_
              refine .nil (.tn (.ret ?_))
              exact .dn [] [] (res1 rfl (.tmp rfl)) ⟨rfl, rfl, rfl⟩
end Go.Proofs.YtganfkmkapogmaaDoor
