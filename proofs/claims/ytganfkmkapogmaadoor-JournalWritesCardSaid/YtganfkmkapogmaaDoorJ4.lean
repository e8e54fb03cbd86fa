/- Walk: Replay. -/
import Derived.Test.YtganfkmkapogmaaDoorJ3
namespace Go.Proofs.YtganfkmkapogmaaDoor
open Go.RowKit
set_option maxRecDepth 100000
set_option linter.unusedVariables false
set_option linter.unusedSimpArgs false
theorem f9_spec (u : Value) (d : B8) (hd : d.length ≤ 100000) :
    Spec Tryd.prog 9 #[u] [Res.var 1 (sqr.map u32), Res.var 0 (cub.map u32), Res.rd u d.length 1 (d.map u8)] []
      (fun r Γ' H' => ∃ L A, bytesP A = recs d ∧ r = .tuple #[L, it ((endOf (recs d) : Nat) : Int)] ∧ Γ' = [] ∧ H' = [Res.row L A.length 22 1 (A.map Prod.fst), Res.sep (rowsP A 5)]) := by
  refine Spec.of_argsM Tryd.func9 rfl Tryd.ntmps9 (by simp) fun w => ?_
  refine JX.know (φ := u.oneCell' = true) (fun w hs => by obtain ⟨A, c, rfl, _⟩ := hs.rdForm (.tail _ (.tail _ (.head _))); rfl) fun hu => ?_
  have hrn := recs_n d
  refine .seq (.region ?_)
  refine .al zero_24 fun b2 => ?_
  refine .al zero_3 fun b3 => ?_
  refine .nil (.xtn (.seq (.seq (.region ?_))))
  refine .w (.move rfl) ?_
  refine .cb (f21_spec u hu) body_21 ?_ (h0 := by rintro _ _ _ ⟨_, _, h, _⟩; exact h)
  rintro _ _ ⟨q, rfl, _, rfl⟩
  refine .ap ?_
  refine JO.nilRow 22 1 ?_
  refine JO.sp0 ?_
  refine .nil (.xtn (.block ?_))
  refine .rf ((recs d).length) (fun k Lr => ∃ (lv : Value) (A : Pcs), bytesP A = (recs d).take k ∧ Lr = [Res.cells b2 [lv] 24, Res.cells b3 [it ((endOf ((recs d).take k) : Nat) : Int)] 3, Res.row lv A.length 22 1 (A.map Prod.fst), Res.sep (rowsP A 5)]) (I0 := [Res.cells b2 [.slice none 0 0] 24, Res.cells b3 [it 0] 3, Res.row (.slice none 0 0) 0 22 1 [], Res.sep []]) (Γi := [Res.var 1 (sqr.map u32), Res.var 0 (cub.map u32), Res.cells q [u] 22, Res.rd u d.length 1 (d.map u8)]) (frOk d) rfl body_25 ⟨.slice none 0 0, [], rfl, rfl⟩ (fun l X R r0 h0 hy => f25_spec l X R r0 h0 u d q (by omega) hy) (fun l D fn T w0 k vs Γy L hk hok hI => ?_) (fun D L hI => ?_) (fun k vs Γy h => by obtain ⟨v, b, _, rfl, _⟩ := h; rfl) (by decide) (by decide) (by repeat (first | exact Picks.nil _ | apply Picks.cons | exact Pull.here _ _ | apply Pull.there)) (by repeat (first | exact Lends.nil _ | apply Lends.cons | exact Lend.same _ _ | exact Lend.row _ _ _ _ _ _ (by decide) | apply Lend.there))
  · obtain ⟨v, b, hb, rfl, rfl⟩ := hok
    obtain ⟨lv, A, hA, rfl⟩ := hI
    have hAl : A.length = k := by have := congrArg List.length hA; rw [bytesP_len, List.length_take] at this; omega
    change JX _ _ _ _ _ _ ((8, _) :: (9, _) :: _) (Res.rd _ _ _ _ :: _) (_ :: _ :: _)
    refine .seq (.region ?_)
    refine .w (.assign rfl) ?_
    refine .nil (.xtn (.region ?_))
    refine .w (.assign rfl) ?_
    refine .nil (.rk (.block ?_))
    refine JX.draw (.one 0 (.one 1 (.one 5 (.one 2 (.one 3 (.one 4 (.one 6 (.one 7 .nil)))))))) (fun i => ([4, 6, 7] : List Nat).contains i) (fun i => ([2, 3, 4, 6, 7] : List Nat).contains i) (fun i => ([1, 5] : List Nat).contains i) mixed (by kernel_rfl) (by decide) (by kernel_rfl) ?_
    refine .w rfl (.ld one_24 rfl) ?_
    refine .uw rfl (.move rfl) ?_
    refine .uw rfl (.move rfl) ?_
    refine .mw rfl (.cb (f22_spec v b.length (b.map u8) (by have := recs_small d b (List.mem_of_getElem? hb); omega) one_u8s) body_22) ?_
    rintro v12 _ _ ⟨_, ⟨_, _, rfl⟩, hΓ, hH⟩
    simp only [List.cons_append, List.nil_append] at hH; subst hΓ hH
    refine kp ?_
    refine JR.know (φ := v12.oneCell' = true) (fun w hs => (by obtain ⟨A, c, rfl, _⟩ := row_rd (by decide) (Res.row_ok.1 (hs.hok _ (.head _))); rfl)) fun hv12 => ?_
    refine .mw rfl (Mv.lit1 Tryd.underlying24 info_22 rfl rfl (one_sing hv12) (by decide) (by decide)) ?_
    rintro v13 _ _ ⟨rfl, rfl⟩
    refine kp ?_
    refine .mw rfl (.ap Tryd.underlying24 info_22 (hone := (one_sing hv12))) ?_
    rintro v14 _ _ ⟨rfl, rfl⟩
    refine kp ?_
    rw [snoc_row (b := b)]
    first | refine .mw0 rfl (.s1 sz_24) ?_ | refine .mw0 rfl (.s1s sz_24) ?_ | refine .mw0 rfl (.sr1 sz_24) ?_
    rintro _ _ _ ⟨rfl, rfl⟩
    refine kp ?_
    first | refine .mw0 rfl (.s1 sz_3) ?_ | refine .mw0 rfl (.sr1 sz_3) ?_
    rintro _ _ _ ⟨rfl, rfl⟩
    refine kp ?_
    refine .nil (.xblock_normal ?_)
    refine .rs (A := [Res.row v12 b.length 5 1 (b.map u8)]) (B := rowsP A 5) (L := rowsP (A ++ [(v12, b)]) 5) (by simp [rowsP]) ?_
    exact .rend [Res.cells b2 [v14] 24, Res.cells b3 [it ((endOf ((recs d).take (k + 1)) : Nat) : Int)] 3, Res.row v14 (A ++ [(v12, b)]).length 22 1 ((A ++ [(v12, b)]).map Prod.fst), Res.sep (rowsP (A ++ [(v12, b)]) 5)] ⟨v14, (A ++ [(v12, b)]), (by rw [List.take_add_one, hb, ← hA]; simp [bytesP]), rfl⟩
  · obtain ⟨lv, A, hA, rfl⟩ := hI
    rw [List.take_length] at hA ⊢
    change JQ _ _ _ _ _ _ (_ :: _ :: _ :: _ :: _ :: _)
    refine .xblock_normal (.xtn (.seq ?_))
    refine JX.draw (.one 0 (.one 1 (.one 2 (.one 3 .nil)))) (fun i => ([3] : List Nat).contains i) (fun i => ([2, 3] : List Nat).contains i) (fun i => ([] : List Nat).contains i) mixed (by kernel_rfl) (by decide) (by kernel_rfl) ?_
    refine .w rfl (.ld one_24 rfl) ?_
    refine .w rfl (.ld one_3 rfl) ?_
    first | refine .mw0 rfl (.s1 sz_24) ?_ | refine .mw0 rfl (.s1s sz_24) ?_ | refine .mw0 rfl (.sr1 sz_24) ?_
    rintro _ _ _ ⟨rfl, rfl⟩
    refine kp ?_
    first | refine .mw0 rfl (.s1 sz_3) ?_ | refine .mw0 rfl (.sr1 sz_3) ?_
    rintro _ _ _ ⟨rfl, rfl⟩
    refine kp ?_
    refine .nil (.xtn (.ret ?_))
    exact .xdn (by repeat (first | exact Pull.here _ _ | apply Pull.there)) [] [Res.row lv A.length 22 1 (A.map Prod.fst), Res.sep (rowsP A 5)] (res2 rfl (RV.cell1 one_24) (RV.cell1 one_3)) ⟨_, A, hA, rfl, rfl, rfl⟩
end Go.Proofs.YtganfkmkapogmaaDoor
