/- Walk: the document's Replay. -/
import Derived.Test.YtganfkmkapogmaaDoorJ2
namespace Go.Proofs.YtganfkmkapogmaaDoor
open Go.RowKit
set_option maxRecDepth 100000
set_option linter.unusedVariables false
set_option linter.unusedSimpArgs false
theorem f10_spec (u : Value) (d : B8) (hd : d.length ≤ 100000) :
    Spec Tryd.prog 10 #[u] [Res.var 1 (sqr.map u32), Res.var 0 (cub.map u32), Res.rd u d.length 1 (d.map u8)] []
      (fun r Γ' H' => ∃ L, r = .tuple #[L, it ((endOf (recs d) : Nat) : Int)] ∧ Γ' = [] ∧ H' = [Res.row L (recs d).length 22 1 ((cutsP u d (recs d).length).map Prod.fst)]) := by
  refine Spec.of_args Tryd.func10 rfl Tryd.ntmps10 (by simp) fun w => ?_
  refine JC.know (φ := u.oneCell' = true) (fun w hs => by obtain ⟨A, c, rfl, _⟩ := hs.rdForm (.tail _ (.tail _ (.head _))); rfl) fun hu => ?_
  have hrn := recs_n d
  refine .seq (.region ?_)
  refine .w (.assign rfl) ?_
  refine .w (.assign rfl) ?_
  refine .nil (.tn (.seq (.region ?_)))
  refine JO.nilRow 22 1 ?_
  refine .w (.assign rfl) ?_
  refine .nil (.tn (.seq (.region ?_)))
  refine .w (.assign rfl) ?_
  refine .nil (.tn (.seq (.block ?_)))
  refine .lp (ι := Nat × Nat × Value) (fun x => At d x.1 x.2.1) (fun T x => (4, x.2.2) :: (5, it (x.2.1 : Int)) :: T) (fun T _ => T) (fun T x => Res.row x.2.2 x.1 22 1 ((cutsP u d x.1).map Prod.fst) :: T) (fun x => d.length - x.2.1) (0, 0, .slice none 0 0) [0, 90, 91] ?_ (fun x hx => ?_)
  · exact At.zero d
  obtain ⟨k, A, L⟩ := x
  have hAt : At d k A := hx
  dsimp only
  have hAd := hAt.2.2.2
  have hkr := hAt.1
  refine .seq (.seq (.region ?_))
  refine .w (.move rfl) ?_
  refine .w (.bin rfl rfl (BinR.add_i (by first | (constructor <;> omega) | (constructor <;> simp <;> omega)))) ?_
  refine .w (.move rfl) ?_
  refine .w (.len Tryd.underlying22 rfl) ?_
  refine .w (.bin rfl rfl BinR.leq_i) ?_
  refine .nil (.tn ?_)
  refine .cn rfl (fun hc1 => ?_) (fun hc1 => ?_)
  · refine .skip (.tn (.block (.seq ?_)))
    refine JC.draw (.one 0 (.one 1 (.one 2 (.one 3 (.one 4 (.one 5 (.one 6 (.one 7 (.one 8 (.one 9 (.one 10 (.one 11 (.one 12 (.one 13 (.one 14 (.one 15 (.one 16 (.one 17 (.one 18 (.one 19 (.one 20 (.one 21 (.one 22 (.one 23 (.one 24 (.one 25 (.one 26 (.one 27 (.one 28 (.one 29 .nil)))))))))))))))))))))))))))))) (fun i => ([] : List Nat).contains i) (fun i => ([] : List Nat).contains i) (fun i => ([0, 1, 2, 4, 5, 6, 7, 8, 9, 11, 12, 13, 14, 15, 16, 17, 19, 20, 21, 22, 23, 24, 25, 27, 28, 29] : List Nat).contains i) mixed (by kernel_rfl) (by decide) (by kernel_rfl) ?_
    refine .uw rfl (.move rfl) ?_
    refine .uw rfl (.move rfl) ?_
    refine .uw rfl (.ix1 Tryd.underlying22 sz_5 rfl rfl) ?_
    refine .w rfl (.ld one_5 rfl (hj := by first | exact gm (d := 0) (by omega) | rfl | exact tab_get (by first | omega | (simp; omega)) | exact gm (d := 0) (by first | omega | (simp; omega)))) ?_
    refine .uw rfl (.conv_u8_i Tryd.underlying5 Tryd.underlying3 rfl) ?_
    refine .uw rfl (.asI (((d.getD A 0).toNat * 16777216 : Nat) : Int) (.bin rfl rfl (BinR.mul_i (by first | (constructor <;> omega) | (constructor <;> simp <;> omega))))) ?_
    refine .uw rfl (.move rfl) ?_
    refine .uw rfl (.move rfl) ?_
    refine .uw rfl (.asI ((A + 1 : Nat) : Int) (.bin rfl rfl (BinR.add_i (by first | (constructor <;> omega) | (constructor <;> simp <;> omega))))) ?_
    refine .uw rfl (.ix1 Tryd.underlying22 sz_5 rfl rfl) ?_
    refine .w rfl (.ld one_5 rfl (hj := by first | exact gm (d := 0) (by omega) | rfl | exact tab_get (by first | omega | (simp; omega)) | exact gm (d := 0) (by first | omega | (simp; omega)))) ?_
    refine .uw rfl (.conv_u8_i Tryd.underlying5 Tryd.underlying3 rfl) ?_
    refine .uw rfl (.bin rfl rfl (BinR.mul_i (by first | (constructor <;> omega) | (constructor <;> simp <;> omega)))) ?_
    refine .uw rfl (.bin rfl rfl (BinR.add_i (by first | (constructor <;> omega) | (constructor <;> simp <;> omega)))) ?_
    refine .uw rfl (.move rfl) ?_
    refine .uw rfl (.move rfl) ?_
    refine .uw rfl (.asI ((A + 2 : Nat) : Int) (.bin rfl rfl (BinR.add_i (by first | (constructor <;> omega) | (constructor <;> simp <;> omega))))) ?_
    refine .uw rfl (.ix1 Tryd.underlying22 sz_5 rfl rfl) ?_
    refine .w rfl (.ld one_5 rfl (hj := by first | exact gm (d := 0) (by omega) | rfl | exact tab_get (by first | omega | (simp; omega)) | exact gm (d := 0) (by first | omega | (simp; omega)))) ?_
    refine .uw rfl (.conv_u8_i Tryd.underlying5 Tryd.underlying3 rfl) ?_
    refine .uw rfl (.bin rfl rfl (BinR.mul_i (by first | (constructor <;> omega) | (constructor <;> simp <;> omega)))) ?_
    refine .uw rfl (.bin rfl rfl (BinR.add_i (by first | (constructor <;> omega) | (constructor <;> simp <;> omega)))) ?_
    refine .uw rfl (.move rfl) ?_
    refine .uw rfl (.move rfl) ?_
    refine .uw rfl (.asI ((A + 3 : Nat) : Int) (.bin rfl rfl (BinR.add_i (by first | (constructor <;> omega) | (constructor <;> simp <;> omega))))) ?_
    refine .uw rfl (.ix1 Tryd.underlying22 sz_5 rfl rfl) ?_
    refine .w rfl (.ld one_5 rfl (hj := by first | exact gm (d := 0) (by omega) | rfl | exact tab_get (by first | omega | (simp; omega)) | exact gm (d := 0) (by first | omega | (simp; omega)))) ?_
    refine .uw rfl (.conv_u8_i Tryd.underlying5 Tryd.underlying3 rfl) ?_
    refine .uw rfl (.as (v' := it ((v4 (d.drop A) : Nat) : Int)) (.bin rfl rfl (BinR.add_i (by first | (constructor <;> omega) | (constructor <;> simp <;> omega)))) (congrArg it (by rw [← v4_at]; omega))) ?_
    refine .uw rfl (.assign rfl) ?_
    refine .nil (.tn (.seq (.seq (.region ?_))))
    refine .w (.move rfl) ?_
    refine .w (.bin rfl rfl BinR.gtr_i) ?_
    refine .join 9 54 (.bool (decide (¬ (v4 (d.drop A) ≤ 4000 ∧ A + 8 + v4 (d.drop A) ≤ d.length)))) ?_ ?_
    · refine .w (.move rfl) ?_
      refine .gn (g := 45) rfl (fun hg43 hg43' => ?_) (fun hg43 hg43' => ?_)
      · refine .gf (g := 46) rfl rfl hg43 (by decide) ?_
        refine .gf (g := 46) rfl rfl hg43 (by decide) ?_
        refine .gf (g := 46) rfl rfl hg43 (by decide) ?_
        refine .gf (g := 46) rfl rfl hg43 (by decide) ?_
        refine .gf (g := 46) rfl rfl hg43 (by decide) ?_
        refine .gf (g := 46) rfl rfl hg43 (by decide) ?_
        refine .gf (g := 46) rfl rfl hg43 (by decide) ?_
        refine .w (.pick1 rfl hg43 rfl) ?_
        refine .nil ?_
        refine .head () (by first | (refine ⟨by first | rfl | exact congrArg (fun b => some (Value.bool b)) (by first | exact (decide_eq_true (by omega)).symm | exact (decide_eq_false (by omega)).symm | exact decide_eq_decide.2 (by omega)) | (simp [*]; done) | (show some _ = some _; simp [*]; done), ?_⟩; repeat (first | exact trivial | refine ⟨rfl, ?_⟩))) (fun _ h => h) (Picks.perm (by repeat (first | exact Picks.nil _ | apply Picks.cons | exact Pull.here _ _ | apply Pull.there))) ?_
        trivial
      · refine .gt (g := 46) rfl rfl hg43 ?_
        refine .w (.move rfl) ?_
        refine .gt (g := 46) rfl rfl hg43 ?_
        refine .w (.bin rfl rfl (BinR.add_i (by first | (constructor <;> omega) | (constructor <;> simp <;> omega)))) ?_
        refine .gt (g := 46) rfl rfl hg43 ?_
        refine .w (.move rfl) ?_
        refine .gt (g := 46) rfl rfl hg43 ?_
        refine .w (.bin rfl rfl (BinR.add_i (by first | (constructor <;> omega) | (constructor <;> simp <;> omega)))) ?_
        refine .gt (g := 46) rfl rfl hg43 ?_
        refine .w (.move rfl) ?_
        refine .gt (g := 46) rfl rfl hg43 ?_
        refine .w (.len Tryd.underlying22 rfl) ?_
        refine .gt (g := 46) rfl rfl hg43 ?_
        refine .w (.bin rfl rfl BinR.gtr_i) ?_
        refine .w (.pick0 rfl hg43 rfl) ?_
        refine .nil ?_
        refine .head () (by first | (refine ⟨by first | rfl | exact congrArg (fun b => some (Value.bool b)) (by first | exact (decide_eq_true (by omega)).symm | exact (decide_eq_false (by omega)).symm | exact decide_eq_decide.2 (by omega)) | (simp [*]; done) | (show some _ = some _; simp [*]; done), ?_⟩; repeat (first | exact trivial | refine ⟨rfl, ?_⟩))) (fun _ h => h) (Picks.perm (by repeat (first | exact Picks.nil _ | apply Picks.cons | exact Pull.here _ _ | apply Pull.there))) ?_
        trivial
    · refine .nil (.tn ?_)
      refine .cn rfl (fun hc2 => ?_) (fun hc2 => ?_)
      · have ho : ¬ OkH (d.drop A) := fun h => (hc2 ⟨h.2.1, by have := h.2.2.1; rw [List.length_drop] at this; omega⟩)
        obtain ⟨rfl, hA⟩ := hAt.over ho
        rw [hA]
        refine .seq (.region ?_)
        refine .w (.move rfl) ?_
        refine .w (.move rfl) ?_
        refine .w (.assign rfl) ?_
        refine .w (.assign rfl) ?_
        refine .nil (.tn (.ret (.then_ret (.block_ret (.then_ret (.block_ret (.then_ret ?_)))))))
        exact .dn [] [Res.row L (recs d).length 22 1 ((cutsP u d (recs d).length).map Prod.fst)] (res2 rfl (.tmp rfl) (.tmp rfl)) ⟨L, rfl, rfl, rfl⟩
      · have hl := hc2
        have hoi := ok_iff (D := d.drop A) (by rw [List.length_drop]; omega) hl.1 (by rw [List.length_drop]; omega)
        refine .skip (.tn (.seq (.region ?_)))
        refine .w (.move rfl) ?_
        refine .w (.move rfl) ?_
        refine .w (.bin rfl rfl (BinR.add_i (by first | (constructor <;> omega) | (constructor <;> simp <;> omega)))) ?_
        refine .w (.move rfl) ?_
        refine .w (.bin rfl rfl (BinR.add_i (by first | (constructor <;> omega) | (constructor <;> simp <;> omega)))) ?_
        refine .w (.move rfl) ?_
        refine .w (.bin rfl rfl (BinR.add_i (by first | (constructor <;> omega) | (constructor <;> simp <;> omega)))) ?_
        refine JO.cutRd (v := u) (A + 8) (A + 8 + v4 (d.drop A)) (by repeat (first | exact List.Mem.head _ | refine List.Mem.tail _ ?_)) (by omega) (by omega) ?_
        rw [rd_rec (by omega)]
        refine JO.cutRd (v := u) A (A + 8 + v4 (d.drop A)) (by repeat (first | exact List.Mem.head _ | refine List.Mem.tail _ ?_)) (by omega) (by omega) ?_
        rw [rd_frame (by omega)]
        refine .w (.cutRd (l := (A + 8)) (h := (A + 8 + v4 (d.drop A))) Tryd.underlying22 sz_5 rfl (by repeat (first | exact List.Mem.head _ | refine List.Mem.tail _ ?_)) ⟨_, rfl⟩ ⟨_, rfl⟩ (by first | (simp; done) | omega | (simp; omega)) (by first | (simp; done) | omega | (simp; omega))) ?_
        refine .w (.assign rfl) ?_
        refine .nil (.tn (.seq (.region ?_)))
        refine .w (.move rfl) ?_
        refine .cb (f17Ok_spec _ (rec0 (d.drop A)) (by rw [rec0, List.length_take]; omega)) body_17 ?_ (h0 := by rintro _ _ _ ⟨_, _, h, _⟩; exact h)
        rintro _ _ ⟨fv, rfl, _, rfl⟩
        refine .ap ?_
        refine .w (.move rfl) ?_
        refine .w (.extract rfl rfl) ?_
        refine .w (.extract rfl rfl) ?_
        refine .w (.assign rfl) ?_
        refine .w (.assign rfl) ?_
        refine .nil (.tn (.seq (.seq (.region ?_))))
        refine .w (.move rfl) ?_
        refine .w (.move rfl) ?_
        refine .w (.move rfl) ?_
        refine .w (.move rfl) ?_
        refine .w (.bin rfl rfl (BinR.add_i (by first | (constructor <;> omega) | (constructor <;> simp <;> omega)))) ?_
        refine .w (.move rfl) ?_
        refine .w (.bin rfl rfl (BinR.add_i (by first | (constructor <;> omega) | (constructor <;> simp <;> omega)))) ?_
        refine .w (.cutRd (l := A) (h := (A + 8 + v4 (d.drop A))) Tryd.underlying22 sz_5 rfl (by repeat (first | exact List.Mem.head _ | refine List.Mem.tail _ ?_)) ⟨_, rfl⟩ ⟨_, rfl⟩ (by first | (simp; done) | omega | (simp; omega)) (by first | (simp; done) | omega | (simp; omega))) ?_
        refine .c (f16_spec fv _ (frameB (rec0 (d.drop A))) ((d.drop A).take (8 + v4 (d.drop A)))) body_16 ?_
        refine .w (.not rfl) ?_
        refine .nil (.tn ?_)
        refine .cn rfl (fun hc3 => ?_) (fun hc3 => ?_)
        · have ho : ¬ OkH (d.drop A) := fun h => hc3 (hoi.1 h)
          obtain ⟨rfl, hA⟩ := hAt.over ho
          rw [hA]
          refine .seq (.region ?_)
          refine .w (.move rfl) ?_
          refine .w (.move rfl) ?_
          refine .w (.assign rfl) ?_
          refine .w (.assign rfl) ?_
          refine .nil (.tn (.ret (.then_ret (.block_ret (.then_ret (.block_ret (.then_ret ?_)))))))
          exact .dn [] [Res.row L (recs d).length 22 1 ((cutsP u d (recs d).length).map Prod.fst)] (res2 rfl (.tmp rfl) (.tmp rfl)) ⟨L, rfl, rfl, rfl⟩
        · have ho : OkH (d.drop A) := hoi.2 hc3
          have hn : At d (k + 1) (A + 8 + v4 (d.drop A)) := by rw [Nat.add_assoc]; exact (hAt.next ho).1
          refine .skip (.tn (.seq (.region ?_)))
          refine .w (.move rfl) ?_
          refine .w (.move rfl) ?_
          refine .l1 Tryd.underlying24 info_22 (fun v84 => ?_) (h1 := (one_sing (one_cutV hu)))
          refine .ap Tryd.underlying24 info_22 (fun v85 => ?_) (hone := (one_sing (one_cutV hu)))
          rw [cuts_snoc hAt ho]
          refine .w (.assign rfl) ?_
          refine .nil (.tn (.region ?_))
          refine .w (.move rfl) ?_
          refine .w (.bin rfl rfl (BinR.add_i (by first | (constructor <;> omega) | (constructor <;> simp <;> omega)))) ?_
          refine .w (.move rfl) ?_
          refine .w (.asI ((A + 8 + v4 (d.drop A) : Nat) : Int) (.bin rfl rfl (BinR.add_i (by first | (constructor <;> omega) | (constructor <;> simp <;> omega))))) ?_
          refine .w (.assign rfl) ?_
          refine .nil (.block_normal ?_)
          refine .hd (k + 1, A + 8 + v4 (d.drop A), v85) ?_
          exact ⟨hn, by dsimp only; have := hn.2.2.2; omega⟩
  · have ho : ¬ OkH (d.drop A) := fun h => (by have := h.1; rw [List.length_drop] at this; omega)
    obtain ⟨rfl, hA⟩ := hAt.over ho
    rw [hA]
    refine .exit (.then_exit (.then_exit (.block_exit (.tn (.seq (.region ?_))))))
    refine .w (.move rfl) ?_
    refine .w (.move rfl) ?_
    refine .w (.assign rfl) ?_
    refine .w (.assign rfl) ?_
    refine .nil (.tn (.ret ?_))
    exact .dn [] [Res.row L (recs d).length 22 1 ((cutsP u d (recs d).length).map Prod.fst)] (res2 rfl (.tmp rfl) (.tmp rfl)) ⟨L, rfl, rfl, rfl⟩
end Go.Proofs.YtganfkmkapogmaaDoor
