/- Walk: Pack. -/
import Derived.Test.YtffgimlkmfjgmaaP5
import Derived.Test.YtffgimlkmfjgmaaP3
import Derived.Test.YtffgimlkmfjgmaaP17p
import Derived.Test.YtffgimlkmfjgmaaF3
namespace Go.Proofs.Ytffgimlkmfjgmaa
open Go.RowKit
set_option maxRecDepth 100000
set_option linter.unusedVariables false
set_option linter.unusedSimpArgs false
theorem f8_spec (h : BitVec 64) (u : Value) (L : Pcs) :
    Spec Try.prog 8 #[(u64 h), u] [Res.rd u L.length 1 (L.map Prod.fst), Res.all (pcRes L)] []
      (fun r Γ' H' => ∃ v, r = .tuple #[v, it (packE (bytesP L))] ∧ Γ' = [] ∧ H' = [Res.row v ((packO h (bytesP L))).length 5 1 (((packO h (bytesP L))).map u8)]) := by
  refine Spec.of_args Try.func8 rfl Try.ntmps8 (by simp) fun w => ?_
  refine JC.know (φ := L.length ≤ 9223372036854775807) (fun w hs => by obtain ⟨_, _, _, _, _, _, h⟩ := hs.rdForm (.head _); unfold maxLen at h; omega) fun hla => ?_
  have hbl := bytesP_len L
  have hs1 := smallB_le h
  have hs2 := smallB_le (BitVec.ofNat 64 L.length)
  refine .seq (.region ?_)
  refine .w (.assign rfl) ?_
  refine .w (.assign rfl) ?_
  refine .nil (.tn (.seq (.block (.seq (.region ?_)))))
  refine .w (.move rfl) ?_
  refine .w (.len Try.underlying23 rfl) ?_
  refine .w (.bin rfl rfl BinR.gtr_i) ?_
  refine .join 4 16 (.bool (decide (L.length > 10 ∨ hasP unfit (bytesP L) = true))) ?_ ?_
  · refine .w (.move rfl) ?_
    refine .gn (g := 12) rfl (fun hg7 hg7' => ?_) (fun hg7 hg7' => ?_)
    · refine .gf (g := 13) rfl rfl hg7 (by decide) ?_
      refine .gf (g := 13) rfl rfl hg7 (by decide) ?_
      refine .w (.pick1 rfl hg7 rfl) ?_
      refine .nil ?_
      refine .head () (by first | (refine ⟨by first | rfl | exact congrArg (fun b => some (Value.bool b)) (decide_eq_true (.inl (by omega))).symm | exact congrArg (fun b => some (Value.bool b)) (by rw [Bool.eq_iff_iff, decide_eq_true_eq]; exact ⟨.inr, fun h => h.resolve_left (by omega)⟩), ?_⟩; repeat (first | exact trivial | refine ⟨rfl, ?_⟩))) (fun _ h => h) (Picks.perm (by repeat (first | exact Picks.nil _ | apply Picks.cons | exact Pull.here _ _ | apply Pull.there))) ?_
      trivial
    · refine .gt (g := 13) rfl rfl hg7 ?_
      refine .w (.move rfl) ?_
      refine .gt (g := 13) rfl rfl hg7 ?_
      refine .c (f23Fit_spec u L) body_23 ?_
      refine .w (.pick0 rfl hg7 rfl) ?_
      refine .nil ?_
      refine .head () (by first | (refine ⟨by first | rfl | exact congrArg (fun b => some (Value.bool b)) (decide_eq_true (.inl (by omega))).symm | exact congrArg (fun b => some (Value.bool b)) (by rw [Bool.eq_iff_iff, decide_eq_true_eq]; exact ⟨.inr, fun h => h.resolve_left (by omega)⟩), ?_⟩; repeat (first | exact trivial | refine ⟨rfl, ?_⟩))) (fun _ h => h) (Picks.perm (by repeat (first | exact Picks.nil _ | apply Picks.cons | exact Pull.here _ _ | apply Pull.there))) ?_
      trivial
  · refine .w (.assign rfl) ?_
    refine .nil (.tn ?_)
    refine .cn rfl (fun hc1 => ?_) (fun hc1 => ?_)
    · refine .seq (.region ?_)
      refine JO.nilRow 5 1 ?_
      refine .w (.assign rfl) ?_
      refine .w (.assign rfl) ?_
      refine .nil (.tn (.ret (.block_ret (.then_ret ?_))))
      have he : (packE (bytesP L)) = 2 := by rw [packE, if_pos (by rw [hbl]; exact hc1)]
      exact .dn [] [Res.row (.slice none 0 0) 0 5 1 []] (res2 rfl (.tmp rfl) (.tmp rfl)) ⟨_, (by rw [he]), rfl, (by rw [packO, if_neg (by rw [he]; decide)]; rfl)⟩
    · have hfit := fit_all fun h1 => hc1 (.inr h1)
      have hl10 : ¬ L.length > 10 := fun h1 => hc1 (.inl h1)
      refine .seq (.region ?_)
      refine .w (.move rfl) ?_
      refine .c (f26_spec u L) body_26 ?_
      refine .w (.assign rfl) ?_
      refine .nil (.tn ?_)
      refine .cn rfl (fun hc2 => ?_) (fun hc2 => ?_)
      · refine .seq (.region ?_)
        refine JO.nilRow 5 1 ?_
        refine .w (.assign rfl) ?_
        refine .w (.assign rfl) ?_
        refine .nil (.tn (.ret (.block_ret (.then_ret ?_))))
        have he : (packE (bytesP L)) = 13 := by rw [packE, if_neg (by rw [hbl]; exact hc1), if_pos (by simpa using hc2)]
        exact .dn [] [Res.row (.slice none 0 0) 0 5 1 []] (res2 rfl (.tmp rfl) (.tmp rfl)) ⟨_, (by rw [he]), rfl, (by rw [packO, if_neg (by rw [he]; decide)]; rfl)⟩
      · have he0 : (packE (bytesP L)) = 0 := by rw [packE, if_neg (by rw [hbl]; exact hc1), if_neg (by simpa using hc2)]
        refine .skip (.block_normal (.tn (.seq (.region ?_))))
        refine JO.nilRow 5 1 ?_
        refine .al zero_57 fun b6 => ?_
        refine .nil (.tn (.seq (.region ?_)))
        refine .w (.move rfl) ?_
        refine .cb (f27_spec b6 (.slice none 0 0) [] (by decide) h) body_27 ?_ (h0 := by rintro _ _ _ ⟨_, _, h, _⟩; exact h)
        rintro _ _ ⟨w1, rfl, _, rfl⟩
        refine .ap ?_
        rw [List.nil_append]
        refine .nil (.tn (.seq (.region ?_)))
        refine .w (.move rfl) ?_
        refine .w (.len Try.underlying23 rfl) ?_
        refine .w (.as (v' := u64 (BitVec.ofNat 64 L.length)) (.conv_i_u64 Try.underlying3 Try.underlying22 rfl) (congrArg u64 (BitVec.ofInt_natCast _ _))) ?_
        refine .cb (f27_spec b6 w1 (smallB h) (by omega) (BitVec.ofNat 64 L.length)) body_27 ?_ (h0 := by rintro _ _ _ ⟨_, _, h, _⟩; exact h)
        rintro _ _ ⟨w2, rfl, _, rfl⟩
        refine .ap ?_
        refine .nil (.tn (.seq (.seq (.region ?_))))
        refine .w (.move rfl) ?_
        refine .w (.len Try.underlying23 rfl) ?_
        refine .w (.move rfl) ?_
        refine .nil (.tn (.block ?_))
        refine .lp (ι := Nat × Value) (fun x => x.1 ≤ L.length) (fun T x => (28, it (x.1 : Int)) :: T) (fun T _ => T) (fun T x => Res.cells b6 [x.2] 57 :: Res.row x.2 ((smallB h ++ smallB (BitVec.ofNat 64 L.length) ++ ((bytesP L).take x.1).flatMap bytesB)).length 5 1 (((smallB h ++ smallB (BitVec.ofNat 64 L.length) ++ ((bytesP L).take x.1).flatMap bytesB)).map u8) :: T) (fun x => L.length - x.1) (0, w2) [4, 5, 6, 26, 27, 35] ?_ (fun x hx => ?_) (hH := (by dsimp only; rw [List.take_zero, List.flatMap_nil, List.append_nil]; repeat (first | exact Picks.nil _ | apply Picks.cons | exact Pull.here _ _ | apply Pull.there)))
        · exact Nat.zero_le _
        obtain ⟨k, w⟩ := x
        have hk : k ≤ L.length := hx
        dsimp only
        refine .seq (.region ?_)
        refine .w (.bin rfl rfl BinR.lss_i) ?_
        refine .nil (.tn (.seq ?_))
        refine .cn rfl (fun hc3 => ?_) (fun hc3 => ?_)
        · refine .skip (.tn (.seq (.block (.seq (.region ?_)))))
          refine JO.open (r := Res.rd (pcAt L k).1 (pcAt L k).2.length 1 ((pcAt L k).2.map u8)) (by repeat (first | exact List.Mem.head _ | refine List.Mem.tail _ ?_)) (pc_res (by omega)) ?_
          refine .w (.ix1 Try.underlying23 sz_24 rfl rfl) ?_
          refine .w (.ld one_24 rfl (hj := by first | exact pc_get (by omega) | rfl | exact tab_get (by first | omega | (simp; omega)) | exact gm (d := 0) (by first | omega | (simp; omega)))) ?_
          refine .w (.assign rfl) ?_
          refine .nil (.tn (.region ?_))
          refine .w (.move rfl) ?_
          refine .cb (f28_spec b6 w (smallB h ++ smallB (BitVec.ofNat 64 L.length) ++ ((bytesP L).take k).flatMap bytesB) (by have := flatB_le (l := (bytesP L).take k) (fun b hb => (hfit b (List.mem_of_mem_take hb)).2); rw [List.length_take] at this; rw [List.length_append, List.length_append]; omega) (pcAt L k).1 (pcAt L k).2 (by have := (hfit _ (List.mem_map.2 ⟨_, pc_mem (l := L) (k := k) (by omega), rfl⟩)).2; omega)) body_28 ?_ (h0 := by rintro _ _ _ ⟨_, _, h, _⟩; exact h)
          rintro _ _ ⟨w3, rfl, _, rfl⟩
          refine .ap ?_
          rw [show (smallB h ++ smallB (BitVec.ofNat 64 L.length) ++ ((bytesP L).take k).flatMap bytesB) ++ bytesB (pcAt L k).2 = (smallB h ++ smallB (BitVec.ofNat 64 L.length) ++ ((bytesP L).take (k + 1)).flatMap bytesB) from by rw [bytesP_get (by omega), List.flatMap_append]; simp]
          refine .nil (.block_normal (.tn (.region ?_)))
          refine .w (.bin rfl rfl (BinR.add_i (by first | (constructor <;> omega) | (constructor <;> simp <;> omega)))) ?_
          refine .w (.move rfl) ?_
          refine .nil ?_
          refine .hd (k + 1, w3) ?_
          exact ⟨by dsimp only; omega, by dsimp only; omega⟩
        · have he : k = L.length := by omega
          subst he
          rw [show (bytesP L).take L.length = bytesP L from List.take_of_length_le (by omega), show smallB h ++ smallB (BitVec.ofNat 64 L.length) ++ (bytesP L).flatMap bytesB = packB h (bytesP L) from by rw [packB, hbl]]
          refine .exit (.then_exit (.then_exit (.block_exit (.tn (.seq (.region ?_))))))
          refine .cb (f29_spec b6 w (packB h (bytesP L)) (by have := packB_len (h := h) (l := bytesP L) (by omega) (fun b hb => (hfit b hb).2); omega)) body_29 ?_
          rintro v35 _ ⟨_, _, rfl⟩
          refine .ap ?_
          refine .w (.assign rfl) ?_
          refine .w (.assign rfl) ?_
          refine .nil (.tn (.ret ?_))
          exact .dn [] [Res.row v35 (packB h (bytesP L)).length 5 1 ((packB h (bytesP L)).map u8)] (res2 rfl (.tmp rfl) (.tmp rfl)) ⟨v35, (by rw [he0]), rfl, (by rw [packO, if_pos he0])⟩
end Go.Proofs.Ytffgimlkmfjgmaa
