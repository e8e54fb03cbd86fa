/- Walks: Done. -/
import Derived.Test.YtffgimlkmfjgmaaP4
namespace Go.Proofs.Ytffgimlkmfjgmaa
open Go.RowKit
set_option maxRecDepth 100000
set_option linter.unusedVariables false
set_option linter.unusedSimpArgs false
theorem f14N_spec (p : Nat) (wv : Value) (A : Pcs) (hA : A.length ≤ 1000) (lv : Value) (L : Pcs) :
    Spec Try.prog 14 #[(ptr p 0), lv] [Res.all (pcRes A), Res.rd lv L.length 1 (L.map Prod.fst), Res.all (pcRes L)] [Res.cells p [wv, .map none] 39, dnR (.map none) MM.nil, Res.row wv A.length 24 1 (A.map Prod.fst)]
      (fun r Γ' H' => ∃ wv' a', r = it ((A.length : Int) - ((delP A (bytesP L)).length : Int)) ∧ Γ' = [] ∧ H' = [Res.cells p [wv', .map (some a')] 39, mpR a' stK blV (putsM MM.nil (bytesP L)), Res.row wv' (delP A (bytesP L)).length 24 1 ((delP A (bytesP L)).map Prod.fst)]) := by
  refine Spec.of_args Try.func14 rfl Try.ntmps14 (by simp) fun w => ?_
  refine JC.know (φ := L.length ≤ 9223372036854775807) (fun w hs => by obtain ⟨_, _, _, _, _, _, h⟩ := hs.rdForm (.tail _ (.head _)); unfold maxLen at h; omega) fun hll => ?_
  refine .seq (.region ?_)
  refine .w (.assign rfl) ?_
  refine .nil (.tn (.seq (.seq (.region ?_))))
  refine .w (.move rfl) ?_
  refine .w (.nilCheck rfl) ?_
  refine .w (.fieldAddr fa_39_1 rfl) ?_
  refine .w (.ld one_37 rfl (hj := by first | exact pc_get (by omega) | rfl | exact tab_get (by first | omega | (simp; omega)) | exact gm (d := 0) (by first | omega | (simp; omega)))) ?_
  refine .w (.as (v' := .bool true) (.bin rfl rfl (BinR.eql_m Try.underlying37)) rfl) ?_
  refine .nil (.tn ?_)
  refine .ct rfl ?_
  refine .region ?_
  refine .w (.move rfl) ?_
  refine .mm stK blV fun b14 => ?_
  refine .w (.nilCheck rfl) ?_
  refine .w (.fieldAddr fa_39_1 rfl) ?_
  first | refine .s1 sz_37 ?_ | refine .sr1 sz_37 ?_
  refine .nil (.tn (.seq (.region ?_)))
  refine .w (.move rfl) ?_
  refine .w (.nilCheck rfl) ?_
  refine .w (.fieldAddr fa_39_0 rfl) ?_
  refine .w (.ld one_23 rfl (hj := by first | exact pc_get (by omega) | rfl | exact tab_get (by first | omega | (simp; omega)) | exact gm (d := 0) (by first | omega | (simp; omega)))) ?_
  refine .w (.len Try.underlying23 rfl) ?_
  refine .w (.assign rfl) ?_
  refine .nil (.tn (.seq (.seq (.region ?_))))
  refine .w (.move rfl) ?_
  refine .w (.len Try.underlying23 rfl) ?_
  refine .w (.move rfl) ?_
  refine .nil (.tn (.block ?_))
  refine .lp (ι := Nat × Value) (fun x => x.1 ≤ L.length) (fun T x => (24, it (x.1 : Int)) :: T) (fun T x => Res.all (pcRes (delP A ((bytesP L).take x.1))) :: T) (fun T x => Res.cells p [x.2, .map (some b14)] 39 :: mpR b14 stK blV (putsM MM.nil ((bytesP L).take x.1)) :: Res.row x.2 (delP A ((bytesP L).take x.1)).length 24 1 ((delP A ((bytesP L).take x.1)).map Prod.fst) :: T) (fun x => L.length - x.1) (0, wv) [0, 4, 5, 22, 23, 45, 46, 47, 48, 49, 50, 51] ?_ (fun x hx => ?_)
  · exact Nat.zero_le _
  obtain ⟨k, wv2⟩ := x
  have hk : k ≤ L.length := hx
  dsimp only
  have hdl := delP_le A ((bytesP L).take k)
  refine .seq (.region ?_)
  refine .w (.bin rfl rfl BinR.lss_i) ?_
  refine .nil (.tn (.seq ?_))
  refine .cn rfl (fun hc2 => ?_) (fun hc2 => ?_)
  · refine .skip (.tn (.seq (.block (.seq (.region ?_)))))
    refine JO.open (r := Res.rd (pcAt L k).1 (pcAt L k).2.length 1 ((pcAt L k).2.map u8)) (by repeat (first | exact List.Mem.head _ | refine List.Mem.tail _ ?_)) (pc_res (by omega)) ?_
    refine .w (.ix1 Try.underlying23 sz_24 rfl rfl) ?_
    refine .w (.ld one_24 rfl (hj := by first | exact pc_get (by omega) | rfl | exact tab_get (by first | omega | (simp; omega)) | exact gm (d := 0) (by first | omega | (simp; omega)))) ?_
    refine .w (.assign rfl) ?_
    refine JO.know (φ := (pcAt L k).1.oneCell' = true) (fun w hs => pcs_one (hs.gok (Res.all (pcRes L)) (by repeat (first | exact List.Mem.head _ | refine List.Mem.tail _ ?_))) _ (List.mem_map.2 ⟨_, pc_mem (by omega), rfl⟩)) fun hone => ?_
    refine .nil (.tn (.seq ?_))
    refine JC.draw (.one 0 (.one 1 (.one 2 (.one 3 (.one 4 (.one 5 (.one 6 .nil))))))) (fun i => ([6] : List Nat).contains i) (fun i => ([6] : List Nat).contains i) (fun i => ([0, 1, 2, 4, 5] : List Nat).contains i) mixed (by kernel_rfl) (by decide) (by kernel_rfl) ?_
    refine .uw rfl (.move rfl) ?_
    refine .uw rfl (.nilCheck rfl) ?_
    refine .uw rfl (.fieldAddr fa_39_1 rfl) ?_
    refine .w rfl (.ld one_37 rfl (hj := by first | exact pc_get (by omega) | rfl | exact tab_get (by first | omega | (simp; omega)) | exact gm (d := 0) (by first | omega | (simp; omega)))) ?_
    refine .uw rfl (.move rfl) ?_
    refine .uw rfl (.conv_str Try.underlying24 Try.underlying5 Try.underlying9 rfl rfl (by repeat (first | exact Lend.same _ _ | exact Lend.row _ _ _ _ _ _ (by decide) | apply Lend.there))) ?_
    refine .mw0 rfl (.mu ((pcAt L k).2) true Try.underlying37 mkey_37) ?_
    rintro _ _ _ ⟨rfl, rfl⟩
    refine kp ?_
    rw [← putsM_snoc, ← bytesP_get (by omega)]
    refine .nil (.tn ?_)
    refine JC.draw (.one 0 (.one 1 (.one 2 (.one 3 (.one 4 (.one 5 (.one 6 (.one 7 (.one 8 (.one 9 (.one 10 .nil))))))))))) (fun i => ([7, 10] : List Nat).contains i) (fun i => ([6, 7, 10] : List Nat).contains i) (fun i => ([0, 1, 2, 3, 5, 8, 9] : List Nat).contains i) mixed (by kernel_rfl) (by decide) (by kernel_rfl) ?_
    refine .uw rfl (.move rfl) ?_
    refine .uw rfl (.move rfl) ?_
    refine .uw rfl (.nilCheck rfl) ?_
    refine .uw rfl (.fieldAddr fa_39_0 rfl) ?_
    refine .w rfl (.ld one_23 rfl (hj := by first | exact pc_get (by omega) | rfl | exact tab_get (by first | omega | (simp; omega)) | exact gm (d := 0) (by first | omega | (simp; omega)))) ?_
    refine .uw rfl (.move rfl) ?_
    refine .mw rfl (.cb (f34_spec (pcAt L k).1 hone) body_34 (h0 := by rintro _ _ _ ⟨_, _, h, _⟩; exact h)) ?_
    rintro _ _ _ ⟨_, ⟨q, rfl, _, rfl⟩, hΓ, hH⟩
    simp only [List.cons_append, List.nil_append] at hH; subst hΓ hH
    refine kp ?_
    refine .mw rfl (.cb (f36_spec wv2 (delP A ((bytesP L).take k)) (by omega) q (pcAt L k).1 (pcAt L k).2) body_36) ?_
    rintro v41 _ _ ⟨_, ⟨_, _, rfl⟩, hΓ, hH⟩
    simp only [List.cons_append, List.nil_append] at hH; subst hΓ hH
    rw [← delP_snoc, ← bytesP_get (by omega)]
    refine kp ?_
    refine .uw rfl (.nilCheck rfl) ?_
    refine .uw rfl (.fieldAddr fa_39_0 rfl) ?_
    first | refine .mw0 rfl (.s1 sz_23) ?_ | refine .mw0 rfl (.s1s sz_23) ?_ | refine .mw0 rfl (.sr1 sz_23) ?_
    rintro _ _ _ ⟨rfl, rfl⟩
    refine kp ?_
    refine .nil (.block_normal (.tn (.region ?_)))
    refine .w (.bin rfl rfl (BinR.add_i (by first | (constructor <;> omega) | (constructor <;> simp <;> omega)))) ?_
    refine .w (.move rfl) ?_
    refine .nil ?_
    refine JQ.allOf (delP A ((bytesP L).take k)) (delP A ((bytesP L).take k)) (delP A ((bytesP L).take (k + 1))) (by repeat (first | exact List.Mem.head _ | refine List.Mem.tail _ ?_)) (by repeat (first | exact List.Mem.head _ | refine List.Mem.tail _ ?_)) (fun z hz => .inl (by rw [bytesP_get (by omega), delP_snoc] at hz; exact not_sub z hz)) ?_
    refine .hd (k + 1, v41) ?_
    exact ⟨by dsimp only; omega, by dsimp only; omega⟩
  · have he : k = L.length := by omega
    subst he
    rw [show ((bytesP L).take L.length) = bytesP L from List.take_of_length_le (by rw [bytesP_len]; omega)] at *
    refine .exit (.then_exit (.then_exit (.block_exit (.tn (.seq (.region ?_))))))
    refine .w (.move rfl) ?_
    refine .w (.move rfl) ?_
    refine .w (.nilCheck rfl) ?_
    refine .w (.fieldAddr fa_39_0 rfl) ?_
    refine .w (.ld one_23 rfl (hj := by first | exact pc_get (by omega) | rfl | exact tab_get (by first | omega | (simp; omega)) | exact gm (d := 0) (by first | omega | (simp; omega)))) ?_
    refine .w (.len Try.underlying23 rfl) ?_
    refine .w (.bin rfl rfl (BinR.sub_i (by first | (constructor <;> omega) | (constructor <;> simp <;> omega)))) ?_
    refine .w (.assign rfl) ?_
    refine .nil (.tn (.ret ?_))
    exact .dn [] [Res.cells p [wv2, .map (some b14)] 39, mpR b14 stK blV (putsM MM.nil (bytesP L)), Res.row wv2 (delP A (bytesP L)).length 24 1 ((delP A (bytesP L)).map Prod.fst)] (res1 rfl (.tmp rfl)) ⟨_, _, rfl, rfl, rfl⟩

theorem f14M_spec (p : Nat) (wv : Value) (a : Nat) (m : MM B8 Bool) (A : Pcs) (hA : A.length ≤ 1000) (lv : Value) (L : Pcs) :
    Spec Try.prog 14 #[(ptr p 0), lv] [Res.all (pcRes A), Res.rd lv L.length 1 (L.map Prod.fst), Res.all (pcRes L)] [Res.cells p [wv, .map (some a)] 39, mpR a stK blV m, Res.row wv A.length 24 1 (A.map Prod.fst)]
      (fun r Γ' H' => ∃ wv' a', r = it ((A.length : Int) - ((delP A (bytesP L)).length : Int)) ∧ Γ' = [] ∧ H' = [Res.cells p [wv', .map (some a')] 39, mpR a' stK blV (putsM m (bytesP L)), Res.row wv' (delP A (bytesP L)).length 24 1 ((delP A (bytesP L)).map Prod.fst)]) := by
  refine Spec.of_args Try.func14 rfl Try.ntmps14 (by simp) fun w => ?_
  refine JC.know (φ := L.length ≤ 9223372036854775807) (fun w hs => by obtain ⟨_, _, _, _, _, _, h⟩ := hs.rdForm (.tail _ (.head _)); unfold maxLen at h; omega) fun hll => ?_
  refine .seq (.region ?_)
  refine .w (.assign rfl) ?_
  refine .nil (.tn (.seq (.seq (.region ?_))))
  refine .w (.move rfl) ?_
  refine .w (.nilCheck rfl) ?_
  refine .w (.fieldAddr fa_39_1 rfl) ?_
  refine .w (.ld one_37 rfl (hj := by first | exact pc_get (by omega) | rfl | exact tab_get (by first | omega | (simp; omega)) | exact gm (d := 0) (by first | omega | (simp; omega)))) ?_
  refine .w (.as (v' := .bool false) (.bin rfl rfl (BinR.eql_m Try.underlying37)) rfl) ?_
  refine .nil (.tn ?_)
  refine .cf rfl ?_
  refine .skip (.tn (.seq (.region ?_)))
  refine .w (.move rfl) ?_
  refine .w (.nilCheck rfl) ?_
  refine .w (.fieldAddr fa_39_0 rfl) ?_
  refine .w (.ld one_23 rfl (hj := by first | exact pc_get (by omega) | rfl | exact tab_get (by first | omega | (simp; omega)) | exact gm (d := 0) (by first | omega | (simp; omega)))) ?_
  refine .w (.len Try.underlying23 rfl) ?_
  refine .w (.assign rfl) ?_
  refine .nil (.tn (.seq (.seq (.region ?_))))
  refine .w (.move rfl) ?_
  refine .w (.len Try.underlying23 rfl) ?_
  refine .w (.move rfl) ?_
  refine .nil (.tn (.block ?_))
  refine .lp (ι := Nat × Value) (fun x => x.1 ≤ L.length) (fun T x => (24, it (x.1 : Int)) :: T) (fun T x => Res.all (pcRes (delP A ((bytesP L).take x.1))) :: T) (fun T x => Res.cells p [x.2, .map (some a)] 39 :: mpR a stK blV (putsM m ((bytesP L).take x.1)) :: Res.row x.2 (delP A ((bytesP L).take x.1)).length 24 1 ((delP A ((bytesP L).take x.1)).map Prod.fst) :: T) (fun x => L.length - x.1) (0, wv) [0, 4, 5, 22, 23, 45, 46, 47, 48, 49, 50, 51] ?_ (fun x hx => ?_)
  · exact Nat.zero_le _
  obtain ⟨k, wv2⟩ := x
  have hk : k ≤ L.length := hx
  dsimp only
  have hdl := delP_le A ((bytesP L).take k)
  refine .seq (.region ?_)
  refine .w (.bin rfl rfl BinR.lss_i) ?_
  refine .nil (.tn (.seq ?_))
  refine .cn rfl (fun hc2 => ?_) (fun hc2 => ?_)
  · refine .skip (.tn (.seq (.block (.seq (.region ?_)))))
    refine JO.open (r := Res.rd (pcAt L k).1 (pcAt L k).2.length 1 ((pcAt L k).2.map u8)) (by repeat (first | exact List.Mem.head _ | refine List.Mem.tail _ ?_)) (pc_res (by omega)) ?_
    refine .w (.ix1 Try.underlying23 sz_24 rfl rfl) ?_
    refine .w (.ld one_24 rfl (hj := by first | exact pc_get (by omega) | rfl | exact tab_get (by first | omega | (simp; omega)) | exact gm (d := 0) (by first | omega | (simp; omega)))) ?_
    refine .w (.assign rfl) ?_
    refine JO.know (φ := (pcAt L k).1.oneCell' = true) (fun w hs => pcs_one (hs.gok (Res.all (pcRes L)) (by repeat (first | exact List.Mem.head _ | refine List.Mem.tail _ ?_))) _ (List.mem_map.2 ⟨_, pc_mem (by omega), rfl⟩)) fun hone => ?_
    refine .nil (.tn (.seq ?_))
    refine JC.draw (.one 0 (.one 1 (.one 2 (.one 3 (.one 4 (.one 5 (.one 6 .nil))))))) (fun i => ([6] : List Nat).contains i) (fun i => ([6] : List Nat).contains i) (fun i => ([0, 1, 2, 4, 5] : List Nat).contains i) mixed (by kernel_rfl) (by decide) (by kernel_rfl) ?_
    refine .uw rfl (.move rfl) ?_
    refine .uw rfl (.nilCheck rfl) ?_
    refine .uw rfl (.fieldAddr fa_39_1 rfl) ?_
    refine .w rfl (.ld one_37 rfl (hj := by first | exact pc_get (by omega) | rfl | exact tab_get (by first | omega | (simp; omega)) | exact gm (d := 0) (by first | omega | (simp; omega)))) ?_
    refine .uw rfl (.move rfl) ?_
    refine .uw rfl (.conv_str Try.underlying24 Try.underlying5 Try.underlying9 rfl rfl (by repeat (first | exact Lend.same _ _ | exact Lend.row _ _ _ _ _ _ (by decide) | apply Lend.there))) ?_
    refine .mw0 rfl (.mu ((pcAt L k).2) true Try.underlying37 mkey_37) ?_
    rintro _ _ _ ⟨rfl, rfl⟩
    refine kp ?_
    rw [← putsM_snoc, ← bytesP_get (by omega)]
    refine .nil (.tn ?_)
    refine JC.draw (.one 0 (.one 1 (.one 2 (.one 3 (.one 4 (.one 5 (.one 6 (.one 7 (.one 8 (.one 9 (.one 10 .nil))))))))))) (fun i => ([7, 10] : List Nat).contains i) (fun i => ([6, 7, 10] : List Nat).contains i) (fun i => ([0, 1, 2, 3, 5, 8, 9] : List Nat).contains i) mixed (by kernel_rfl) (by decide) (by kernel_rfl) ?_
    refine .uw rfl (.move rfl) ?_
    refine .uw rfl (.move rfl) ?_
    refine .uw rfl (.nilCheck rfl) ?_
    refine .uw rfl (.fieldAddr fa_39_0 rfl) ?_
    refine .w rfl (.ld one_23 rfl (hj := by first | exact pc_get (by omega) | rfl | exact tab_get (by first | omega | (simp; omega)) | exact gm (d := 0) (by first | omega | (simp; omega)))) ?_
    refine .uw rfl (.move rfl) ?_
    refine .mw rfl (.cb (f34_spec (pcAt L k).1 hone) body_34 (h0 := by rintro _ _ _ ⟨_, _, h, _⟩; exact h)) ?_
    rintro _ _ _ ⟨_, ⟨q, rfl, _, rfl⟩, hΓ, hH⟩
    simp only [List.cons_append, List.nil_append] at hH; subst hΓ hH
    refine kp ?_
    refine .mw rfl (.cb (f36_spec wv2 (delP A ((bytesP L).take k)) (by omega) q (pcAt L k).1 (pcAt L k).2) body_36) ?_
    rintro v41 _ _ ⟨_, ⟨_, _, rfl⟩, hΓ, hH⟩
    simp only [List.cons_append, List.nil_append] at hH; subst hΓ hH
    rw [← delP_snoc, ← bytesP_get (by omega)]
    refine kp ?_
    refine .uw rfl (.nilCheck rfl) ?_
    refine .uw rfl (.fieldAddr fa_39_0 rfl) ?_
    first | refine .mw0 rfl (.s1 sz_23) ?_ | refine .mw0 rfl (.s1s sz_23) ?_ | refine .mw0 rfl (.sr1 sz_23) ?_
    rintro _ _ _ ⟨rfl, rfl⟩
    refine kp ?_
    refine .nil (.block_normal (.tn (.region ?_)))
    refine .w (.bin rfl rfl (BinR.add_i (by first | (constructor <;> omega) | (constructor <;> simp <;> omega)))) ?_
    refine .w (.move rfl) ?_
    refine .nil ?_
    refine JQ.allOf (delP A ((bytesP L).take k)) (delP A ((bytesP L).take k)) (delP A ((bytesP L).take (k + 1))) (by repeat (first | exact List.Mem.head _ | refine List.Mem.tail _ ?_)) (by repeat (first | exact List.Mem.head _ | refine List.Mem.tail _ ?_)) (fun z hz => .inl (by rw [bytesP_get (by omega), delP_snoc] at hz; exact not_sub z hz)) ?_
    refine .hd (k + 1, v41) ?_
    exact ⟨by dsimp only; omega, by dsimp only; omega⟩
  · have he : k = L.length := by omega
    subst he
    rw [show ((bytesP L).take L.length) = bytesP L from List.take_of_length_le (by rw [bytesP_len]; omega)] at *
    refine .exit (.then_exit (.then_exit (.block_exit (.tn (.seq (.region ?_))))))
    refine .w (.move rfl) ?_
    refine .w (.move rfl) ?_
    refine .w (.nilCheck rfl) ?_
    refine .w (.fieldAddr fa_39_0 rfl) ?_
    refine .w (.ld one_23 rfl (hj := by first | exact pc_get (by omega) | rfl | exact tab_get (by first | omega | (simp; omega)) | exact gm (d := 0) (by first | omega | (simp; omega)))) ?_
    refine .w (.len Try.underlying23 rfl) ?_
    refine .w (.bin rfl rfl (BinR.sub_i (by first | (constructor <;> omega) | (constructor <;> simp <;> omega)))) ?_
    refine .w (.assign rfl) ?_
    refine .nil (.tn (.ret ?_))
    exact .dn [] [Res.cells p [wv2, .map (some a)] 39, mpR a stK blV (putsM m (bytesP L)), Res.row wv2 (delP A (bytesP L)).length 24 1 ((delP A (bytesP L)).map Prod.fst)] (res1 rfl (.tmp rfl)) ⟨_, _, rfl, rfl, rfl⟩

theorem f14A_spec (p : Nat) (wv mv : Value) (m : MM B8 Bool) (hm : DnOk mv m) (A : Pcs) (hA : A.length ≤ 1000) (lv : Value) (L : Pcs) : Spec Try.prog 14 #[(ptr p 0), lv] [Res.all (pcRes A), Res.rd lv L.length 1 (L.map Prod.fst), Res.all (pcRes L)] [Res.cells p [wv, mv] 39, dnR mv m, Res.row wv A.length 24 1 (A.map Prod.fst)] (fun r Γ' H' => ∃ wv' mv', DnOk mv' (putsM m (bytesP L)) ∧ r = it ((A.length : Int) - ((delP A (bytesP L)).length : Int)) ∧ Γ' = [] ∧ H' = [Res.cells p [wv', mv'] 39, dnR mv' (putsM m (bytesP L)), Res.row wv' (delP A (bytesP L)).length 24 1 ((delP A (bytesP L)).map Prod.fst)]) := by
  rcases hm with ⟨rfl, rfl⟩ | ⟨a, rfl⟩
  · refine Spec.mono (f14N_spec p wv A hA lv L) ?_
    rintro r Γ' H' ⟨wv', a', h1, h2, h3⟩
    exact ⟨wv', .map (some a'), .inr ⟨a', rfl⟩, h1, h2, h3⟩
  · refine Spec.mono (f14M_spec p wv a m A hA lv L) ?_
    rintro r Γ' H' ⟨wv', a', h1, h2, h3⟩
    exact ⟨wv', .map (some a'), .inr ⟨a', rfl⟩, h1, h2, h3⟩
end Go.Proofs.Ytffgimlkmfjgmaa
