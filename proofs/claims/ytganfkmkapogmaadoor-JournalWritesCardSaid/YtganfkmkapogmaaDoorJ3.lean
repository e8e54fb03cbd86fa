/- Walks: the iterator. -/
import Derived.Test.YtganfkmkapogmaaDoorJ2
namespace Go.Proofs.YtganfkmkapogmaaDoor
open Go.RowKit
set_option maxRecDepth 100000
set_option linter.unusedVariables false
set_option linter.unusedSimpArgs false
def frOk (d : B8) (k : Nat) (vs : List Value) (Γy : RL) : Prop := ∃ v b, (recs d)[k]? = some b ∧ vs = [v, it ((endOf ((recs d).take (k + 1)) : Nat) : Int)] ∧ Γy = [Res.rd v b.length 1 (b.map u8)]

theorem f27_spec (u v : Value) (a b : B8) :
    Spec Tryd.prog 27 #[u, v] [Res.rd u a.length 1 (a.map u8), Res.rd v b.length 1 (b.map u8)] []
      (fun r Γ' H' => r = .bool (decide (a = b)) ∧ Γ' = [] ∧ H' = []) := by
  refine Spec.of_args Tryd.func27 rfl Tryd.ntmps27 (by simp) fun w => ?_
  refine .seq (.region ?_)
  refine .w (.assign rfl) ?_
  refine .nil (.tn (.seq (.region ?_)))
  refine .w (.move rfl) ?_
  refine .w (.conv_str Tryd.underlying22 Tryd.underlying5 Tryd.underlying9 rfl rfl (by repeat (first | exact Lend.same _ _ | exact Lend.row _ _ _ _ _ _ (by decide) | apply Lend.there))) ?_
  refine .w (.move rfl) ?_
  refine .w (.conv_str Tryd.underlying22 Tryd.underlying5 Tryd.underlying9 rfl rfl (by repeat (first | exact Lend.same _ _ | exact Lend.row _ _ _ _ _ _ (by decide) | apply Lend.there))) ?_
  refine .w (.bin rfl rfl (BinR.eql_str _ _)) ?_
  refine .w (.assign rfl) ?_
  refine .nil (.tn (.ret ?_))
  exact .dn [] [] (res1 rfl (.tmp rfl)) ⟨rfl, rfl, rfl⟩

theorem f25_spec (l : Nat) (X : Res) (R : Nat → Res → Prop) (r0 : Res) (hR0 : R 0 r0) (u : Value) (d : B8) (bx : Nat) (hd : d.length ≤ 1000000)
    (hY : ∀ k, k < (recs d).length → ∀ vs Γy r, frOk d k vs Γy → R k r → YSpec Tryd.prog l vs.toArray (Γy ++ [X]) [r] (fun b Γ' H' => b = .bool true ∧ Γ' = [] ∧ ∃ r', R (k + 1) r' ∧ H' = [r'])) :
    Spec Tryd.prog 25 #[(.func (.yield l) #[] #[]), (ptr bx 0)] [Res.var 1 (sqr.map u32), Res.var 0 (cub.map u32), Res.cells bx [u] 22, Res.rd u d.length 1 (d.map u8), X] [r0]
      (fun _ Γ' H' => True ∧ Γ' = [] ∧ ∃ r', R (recs d).length r' ∧ H' = [r']) := by
  refine Spec.of_argsX Tryd.func25 rfl Tryd.ntmps25 (by simp) fun w => ?_
  refine .seq (.region ?_)
  refine .w (.assign rfl) ?_
  refine .nil (.xtn (.block ?_))
  refine .lp (ι := Nat × Nat × Res) (fun x => At d x.1 x.2.1 ∧ R x.1 x.2.2) (fun T x => (3, it (x.2.1 : Int)) :: T) (fun T _ => T) (fun T x => x.2.2 :: T) (fun x => d.length - x.2.1) (0, 0, r0) [0, 1] ?_ (fun x hx => ?_)
  · exact ⟨At.zero d, hR0⟩
  obtain ⟨k, A, r⟩ := x
  obtain ⟨hAt, hRk⟩ := hx
  dsimp only at hAt hRk ⊢
  have hAd := hAt.2.2.2
  refine .seq (.seq (.region ?_))
  refine .w (.ld one_22 rfl) ?_
  refine .w (.len Tryd.underlying22 rfl) ?_
  refine .w (.move rfl) ?_
  refine .w (.bin rfl rfl (BinR.sub_i (by first | (constructor <;> omega) | (constructor <;> simp <;> omega)))) ?_
  refine .w (.bin rfl rfl BinR.geq_i) ?_
  refine .nil (.xtn ?_)
  refine .cn rfl (fun hc1 => ?_) (fun hc1 => ?_)
  · refine .skip (.xtn (.block (.seq (.region ?_))))
    refine .w (.ld one_22 rfl) ?_
    refine .w (.move rfl) ?_
    refine .ct A d.length Tryd.underlying22 sz_5 (fun v13 => ?_)
    rw [rd_drop]
    refine .c (f26_spec v13 (d.drop A) (by simp; omega)) body_26 ?_
    refine .w (.assign rfl) ?_
    refine .nil (.xtn (.seq (.seq (.region ?_))))
    refine .w (.move rfl) ?_
    refine .w (.bin rfl rfl BinR.gtr_i) ?_
    refine .join 9 25 (.bool (decide (¬ (v4 (d.drop A) ≤ 4000 ∧ 8 + v4 (d.drop A) ≤ d.length - A)))) ?_ ?_
    · refine .w (.move rfl) ?_
      refine .gn (g := 16) rfl (fun hg15 hg15' => ?_) (fun hg15 hg15' => ?_)
      · refine .gf (g := 17) rfl rfl hg15 (by decide) ?_
        refine .gf (g := 17) rfl rfl hg15 (by decide) ?_
        refine .gf (g := 17) rfl rfl hg15 (by decide) ?_
        refine .gf (g := 17) rfl rfl hg15 (by decide) ?_
        refine .gf (g := 17) rfl rfl hg15 (by decide) ?_
        refine .gf (g := 17) rfl rfl hg15 (by decide) ?_
        refine .gf (g := 17) rfl rfl hg15 (by decide) ?_
        refine .w (.pick1 rfl hg15 rfl) ?_
        refine .nil ?_
        refine .head () (by first | (refine ⟨by first | rfl | exact congrArg (fun b => some (Value.bool b)) (by first | exact (decide_eq_true (by omega)).symm | exact (decide_eq_false (by omega)).symm | exact decide_eq_decide.2 (by omega)) | (simp [*]; done) | (show some _ = some _; simp [*]; done), ?_⟩; repeat (first | exact trivial | refine ⟨rfl, ?_⟩))) (fun _ h => h) (Picks.perm (by repeat (first | exact Picks.nil _ | apply Picks.cons | exact Pull.here _ _ | apply Pull.there))) ?_
        trivial
      · refine .gt (g := 17) rfl rfl hg15 ?_
        refine .w (.move rfl) ?_
        refine .gt (g := 17) rfl rfl hg15 ?_
        refine .w (.ld one_22 rfl) ?_
        refine .gt (g := 17) rfl rfl hg15 ?_
        refine .w (.len Tryd.underlying22 rfl) ?_
        refine .gt (g := 17) rfl rfl hg15 ?_
        refine .w (.move rfl) ?_
        refine .gt (g := 17) rfl rfl hg15 ?_
        refine .w (.bin rfl rfl (BinR.sub_i (by first | (constructor <;> omega) | (constructor <;> simp <;> omega)))) ?_
        refine .gt (g := 17) rfl rfl hg15 ?_
        refine .w (.bin rfl rfl (BinR.sub_i (by first | (constructor <;> omega) | (constructor <;> simp <;> omega)))) ?_
        refine .gt (g := 17) rfl rfl hg15 ?_
        refine .w (.bin rfl rfl BinR.gtr_i) ?_
        refine .w (.pick0 rfl hg15 rfl) ?_
        refine .nil ?_
        refine .head () (by first | (refine ⟨by first | rfl | exact congrArg (fun b => some (Value.bool b)) (by first | exact (decide_eq_true (by omega)).symm | exact (decide_eq_false (by omega)).symm | exact decide_eq_decide.2 (by omega)) | (simp [*]; done) | (show some _ = some _; simp [*]; done), ?_⟩; repeat (first | exact trivial | refine ⟨rfl, ?_⟩))) (fun _ h => h) (Picks.perm (by repeat (first | exact Picks.nil _ | apply Picks.cons | exact Pull.here _ _ | apply Pull.there))) ?_
        trivial
    · refine .nil (.xtn ?_)
      refine .cn rfl (fun hc2 => ?_) (fun hc2 => ?_)
      · have ho : ¬ OkH (d.drop A) := fun h => (hc2 ⟨h.2.1, by have := h.2.2.1; rw [List.length_drop] at this; exact this⟩)
        obtain ⟨rfl, hA⟩ := hAt.over ho
        refine .ret (.xthen_ret (.xblock_ret (.xthen_ret (.xblock_ret (.x0 ?_)))))
        exact .dn [] [r] (res_none rfl) ⟨trivial, rfl, r, hRk, rfl⟩
      · have hl := hc2
        refine .skip (.xtn (.seq (.region ?_)))
        refine .w (.ld one_22 rfl) ?_
        refine .w (.move rfl) ?_
        refine .w (.bin rfl rfl (BinR.add_i (by first | (constructor <;> omega) | (constructor <;> simp <;> omega)))) ?_
        refine .w (.move rfl) ?_
        refine .w (.bin rfl rfl (BinR.add_i (by first | (constructor <;> omega) | (constructor <;> simp <;> omega)))) ?_
        refine .w (.move rfl) ?_
        refine .w (.bin rfl rfl (BinR.add_i (by first | (constructor <;> omega) | (constructor <;> simp <;> omega)))) ?_
        refine .ct (A + 8) (A + 8 + v4 (d.drop A)) Tryd.underlying22 sz_5 (fun v33 => ?_)
        rw [rd_rec (by omega)]
        refine .w (.assign rfl) ?_
        refine .nil (.xtn (.seq (.seq ?_)))
        refine JX.draw (.one 0 (.one 2 (.one 3 (.one 4 (.one 5 (.one 6 (.one 1 (.one 7 (.one 8 .nil))))))))) (fun i => ([7] : List Nat).contains i) (fun i => ([1, 7] : List Nat).contains i) (fun i => ([0, 3, 4, 5, 6, 8] : List Nat).contains i) mixed (by kernel_rfl) (by decide) (by kernel_rfl) ?_
        refine .uw rfl (.move rfl) ?_
        refine .w rfl (.ld one_22 rfl) ?_
        refine .uw rfl (.move rfl) ?_
        refine .uw rfl (.move rfl) ?_
        refine .uw rfl (.bin rfl rfl (BinR.add_i (by first | (constructor <;> omega) | (constructor <;> simp <;> omega)))) ?_
        refine JR.cutRd (v := u) A (A + 8) (by repeat (first | exact List.Mem.head _ | refine List.Mem.tail _ ?_)) (by omega) (by omega) ?_
        rw [rd_head (by omega)]
        refine .uw rfl (.cutRd (l := A) (h := (A + 8)) Tryd.underlying22 sz_5 rfl (by repeat (first | exact List.Mem.head _ | refine List.Mem.tail _ ?_)) ⟨_, rfl⟩ ⟨_, rfl⟩ (by first | (simp; done) | omega | (simp; omega)) (by first | (simp; done) | omega | (simp; omega))) ?_
        refine .mw rfl (.cb (f24_spec v33 (rec0 (d.drop A)) (by rw [rec0, List.length_take]; omega)) body_24) ?_
        rintro v35 _ _ ⟨_, ⟨_, _, rfl⟩, hΓ, hH⟩
        simp only [List.cons_append, List.nil_append] at hH; subst hΓ hH
        refine kp ?_
        refine .mw rfl (.c (f27_spec v35 _ (markB (rec0 (d.drop A))) ((d.drop A).take 8)) body_27) ?_
        rintro _ _ _ ⟨rfl, rfl, rfl⟩
        refine kp ?_
        refine .uw rfl (.not rfl) ?_
        refine .nil (.xtn ?_)
        refine .cn rfl (fun hc3 => ?_) (fun hc3 => ?_)
        · have ho : ¬ OkH (d.drop A) := fun h => hc3 h.2.2.2
          obtain ⟨rfl, hA⟩ := hAt.over ho
          refine .ret (.xthen_ret (.xblock_ret (.xthen_ret (.xblock_ret (.x0 ?_)))))
          exact .dn [] [r] (res_none rfl) ⟨trivial, rfl, r, hRk, rfl⟩
        · have ho : OkH (d.drop A) := ⟨by rw [List.length_drop]; omega, hl.1, by rw [List.length_drop]; exact hl.2, hc3⟩
          obtain ⟨hn, hg, hk⟩ := hAt.next ho
          have hend := hn.2.1
          refine .skip (.xtn (.seq (.region ?_)))
          refine .w (.move rfl) ?_
          refine .w (.move rfl) ?_
          refine .w (.bin rfl rfl (BinR.add_i (by first | (constructor <;> omega) | (constructor <;> simp <;> omega)))) ?_
          refine .w (.asI ((A + (8 + v4 (d.drop A)) : Nat) : Int) (.bin rfl rfl (BinR.add_i (by first | (constructor <;> omega) | (constructor <;> simp <;> omega))))) ?_
          refine .w (.assign rfl) ?_
          refine .nil (.xtn (.seq (.regionO (.pre 3 ?_))))
          refine .w (.move rfl) ?_
          refine .w (.move rfl) ?_
          refine .w (.move rfl) ?_
          refine .nil (.xpre ?_)
          refine .yield (hY k hk [v33, it ((A + (8 + v4 (d.drop A)) : Nat) : Int)] _ r ⟨v33, (rec0 (d.drop A)), hg, by rw [hend], rfl⟩ hRk) ?_
          rintro _ _ ⟨rfl, _, r', hR', rfl⟩
          refine .ap ?_
          refine .tail ?_
          refine .w (.as (v' := .bool false) (.not rfl) rfl) ?_
          refine .nil (.xtn ?_)
          refine .cf rfl ?_
          refine .skip (.xblock_normal ?_)
          refine .xhd (k + 1, A + (8 + v4 (d.drop A)), r') ?_
          exact ⟨⟨hn, hR'⟩, by dsimp only; have := hn.2.2.2; omega⟩
  · have ho : ¬ OkH (d.drop A) := fun h => (by have := h.1; rw [List.length_drop] at this; omega)
    obtain ⟨rfl, hA⟩ := hAt.over ho
    refine .exit (.xthen_exit (.xthen_exit (.xblock_exit (.x0 ?_))))
    exact .dn [] [r] (res_none rfl) ⟨trivial, rfl, r, hRk, rfl⟩
end Go.Proofs.YtganfkmkapogmaaDoor
