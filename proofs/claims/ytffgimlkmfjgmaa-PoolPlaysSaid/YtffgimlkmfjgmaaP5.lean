/- Walks: the document's In; short; head; twice. -/
import Derived.Test.YtffgimlkmfjgmaaP1
namespace Go.Proofs.Ytffgimlkmfjgmaa
open Go.RowKit
set_option maxRecDepth 100000
set_option linter.unusedVariables false
set_option linter.unusedSimpArgs false
theorem f17_spec (u v : Value) (A : Pcs) (b : B8) :
    Spec Try.prog 17 #[u, v] [Res.rd u A.length 1 (A.map Prod.fst), Res.all (pcRes A), Res.rd v b.length 1 (b.map u8)] []
      (fun r Γ' H' => r = .bool (decide (b ∈ bytesP A)) ∧ Γ' = [] ∧ H' = []) := by
  refine Spec.of_args Try.func17 rfl Try.ntmps17 (by simp) fun w => ?_
  refine JC.know (φ := A.length ≤ 9223372036854775807) (fun w hs => by obtain ⟨_, _, _, _, _, _, h⟩ := hs.rdForm (.head _); unfold maxLen at h; omega) fun hla => ?_
  refine .seq (.region ?_)
  refine .w (.assign rfl) ?_
  refine .nil (.tn (.seq (.seq (.region ?_))))
  refine .w (.assign rfl) ?_
  refine .nil (.tn (.block ?_))
  refine .lp (ι := Nat) (fun x => x ≤ A.length ∧ b ∉ (bytesP A).take x) (fun T x => (5, it (x : Int)) :: T) (fun T _ => T) (fun T _ => T) (fun x => A.length - x) 0 [0, 1] ?_ (fun x hx => ?_)
  · exact ⟨Nat.zero_le _, by simp⟩
  obtain ⟨hx, hn⟩ := hx
  refine .seq (.seq (.region ?_))
  refine .w (.move rfl) ?_
  refine .w (.move rfl) ?_
  refine .w (.len Try.underlying23 rfl) ?_
  refine .w (.bin rfl rfl BinR.lss_i) ?_
  refine .nil (.tn ?_)
  refine .cn rfl (fun hc1 => ?_) (fun hc1 => ?_)
  · refine .skip (.tn (.seq (.block (.seq (.region ?_)))))
    refine .w (.move rfl) ?_
    refine .w (.move rfl) ?_
    refine .w (.ix1 Try.underlying23 sz_24 rfl rfl) ?_
    refine JO.open (r := Res.rd (pcAt A x).1 (pcAt A x).2.length 1 ((pcAt A x).2.map u8)) (by repeat (first | exact List.Mem.head _ | refine List.Mem.tail _ ?_)) (pc_res (by omega)) ?_
    refine .w (.ld one_24 rfl (hj := by first | exact pc_get (by omega) | rfl | exact tab_get (by first | omega | (simp; omega)) | exact gm (d := 0) (by first | omega | (simp; omega)))) ?_
    refine .w (.move rfl) ?_
    refine .c (f11_spec _ v (pcAt A x).2 b) body_11 ?_
    refine .nil (.tn ?_)
    refine .cn rfl (fun hc2 => ?_) (fun hc2 => ?_)
    · refine .seq (.region ?_)
      refine .w (.assign rfl) ?_
      refine .nil (.tn (.ret (.block_ret (.then_ret (.then_ret (.block_ret (.then_ret ?_)))))))
      exact .dn [] [] (res1 rfl (.tmp rfl)) ⟨congrArg Value.bool (decide_eq_true (List.mem_map.2 ⟨_, pc_mem (by omega), hc2⟩)).symm, rfl, rfl⟩
    · refine .skip (.block_normal (.tn (.region ?_)))
      refine .w (.move rfl) ?_
      refine .w (.bin rfl rfl (BinR.add_i (by first | (constructor <;> omega) | (constructor <;> simp <;> omega)))) ?_
      refine .w (.assign rfl) ?_
      refine .nil ?_
      have hn2 : b ∉ (bytesP A).take (x + 1) := by rw [bytesP_get (by omega), List.mem_append, List.mem_singleton]; exact fun h => h.elim hn (fun e => hc2 e.symm)
      refine .hd (x + 1) ?_
      exact ⟨⟨by omega, hn2⟩, by omega⟩
  · obtain rfl : x = A.length := by omega
    rw [show (bytesP A).take A.length = bytesP A from List.take_of_length_le (by rw [bytesP_len]; omega)] at hn
    refine .exit (.then_exit (.then_exit (.block_exit (.tn (.seq (.region ?_))))))
    refine .w (.assign rfl) ?_
    refine .nil (.tn (.ret ?_))
    exact .dn [] [] (res1 rfl (.tmp rfl)) ⟨congrArg Value.bool (decide_eq_false hn).symm, rfl, rfl⟩

theorem f7_spec (u : Value) (L : Pcs) :
    Spec Try.prog 7 #[u] [Res.rd u L.length 1 (L.map Prod.fst), Res.all (pcRes L)] []
      (fun r Γ' H' => r = .bool (decide (shB (bytesP L))) ∧ Γ' = [] ∧ H' = []) := by
  refine Spec.of_args Try.func7 rfl Try.ntmps7 (by simp) fun w => ?_
  refine JC.know (φ := L.length ≤ 9223372036854775807) (fun w hs => by obtain ⟨_, _, _, _, _, _, h⟩ := hs.rdForm (.head _); unfold maxLen at h; omega) fun hla => ?_
  have hbl := bytesP_len L
  refine .seq (.region ?_)
  refine .w (.assign rfl) ?_
  refine .nil (.tn (.seq (.seq (.region ?_))))
  refine .w (.move rfl) ?_
  refine .w (.len Try.underlying23 rfl) ?_
  refine .w (.bin rfl rfl BinR.gtr_i) ?_
  refine .nil (.tn ?_)
  refine .cn rfl (fun hc1 => ?_) (fun hc1 => ?_)
  · refine .seq (.region ?_)
    refine .w (.assign rfl) ?_
    refine .nil (.tn (.ret (.then_ret ?_)))
    exact .dn [] [] (res1 rfl (.tmp rfl)) ⟨congrArg Value.bool (decide_eq_false (fun h => by have := h.1; omega)).symm, rfl, rfl⟩
  · refine .skip (.tn (.seq (.seq (.region ?_))))
    refine .w (.assign rfl) ?_
    refine .nil (.tn (.block ?_))
    refine .lp (ι := Nat) (fun x => x ≤ L.length ∧ ∀ b ∈ (bytesP L).take x, b.length ≤ 1100) (fun T x => (3, it (x : Int)) :: T) (fun T _ => T) (fun T _ => T) (fun x => L.length - x) 0 [0] ?_ (fun x hx => ?_)
    · exact ⟨Nat.zero_le _, by simp⟩
    obtain ⟨hx, hn⟩ := hx
    refine .seq (.seq (.region ?_))
    refine .w (.move rfl) ?_
    refine .w (.move rfl) ?_
    refine .w (.len Try.underlying23 rfl) ?_
    refine .w (.bin rfl rfl BinR.lss_i) ?_
    refine .nil (.tn ?_)
    refine .cn rfl (fun hc2 => ?_) (fun hc2 => ?_)
    · refine .skip (.tn (.seq (.block (.seq (.region ?_)))))
      refine JO.open (r := Res.rd (pcAt L x).1 (pcAt L x).2.length 1 ((pcAt L x).2.map u8)) (by repeat (first | exact List.Mem.head _ | refine List.Mem.tail _ ?_)) (pc_res (by omega)) ?_
      refine .w (.move rfl) ?_
      refine .w (.move rfl) ?_
      refine .w (.ix1 Try.underlying23 sz_24 rfl rfl) ?_
      refine .w (.ld one_24 rfl (hj := by first | exact pc_get (by omega) | rfl | exact tab_get (by first | omega | (simp; omega)) | exact gm (d := 0) (by first | omega | (simp; omega)))) ?_
      refine .w (.len Try.underlying24 rfl) ?_
      refine .w (.bin rfl rfl BinR.gtr_i) ?_
      refine .nil (.tn ?_)
      refine .cn rfl (fun hc3 => ?_) (fun hc3 => ?_)
      · refine .seq (.region ?_)
        refine .w (.assign rfl) ?_
        refine .nil (.tn (.ret (.block_ret (.then_ret (.then_ret (.block_ret (.then_ret ?_)))))))
        exact .dn [] [] (res1 rfl (.tmp rfl)) ⟨congrArg Value.bool (decide_eq_false (fun h => by have := h.2 _ (List.mem_map.2 ⟨_, pc_mem (l := L) (k := x) (by omega), rfl⟩); omega)).symm, rfl, rfl⟩
      · refine .skip (.block_normal (.tn (.region ?_)))
        refine .w (.move rfl) ?_
        refine .w (.bin rfl rfl (BinR.add_i (by first | (constructor <;> omega) | (constructor <;> simp <;> omega)))) ?_
        refine .w (.assign rfl) ?_
        refine .nil ?_
        have hn2 : ∀ b ∈ (bytesP L).take (x + 1), b.length ≤ 1100 := by
          rw [bytesP_get (by omega)]
          intro b hb
          rcases List.mem_append.1 hb with h | h
          · exact hn b h
          · rw [List.mem_singleton] at h; subst h; omega
        refine .hd (x + 1) ?_
        exact ⟨⟨by omega, hn2⟩, by omega⟩
    · obtain rfl : x = L.length := by omega
      rw [show (bytesP L).take L.length = bytesP L from List.take_of_length_le (by omega)] at hn
      refine .exit (.then_exit (.then_exit (.block_exit (.tn (.seq (.region ?_))))))
      refine .w (.assign rfl) ?_
      refine .nil (.tn (.ret ?_))
      exact .dn [] [] (res1 rfl (.tmp rfl)) ⟨congrArg Value.bool (decide_eq_true ⟨by omega, hn⟩).symm, rfl, rfl⟩

theorem f13_spec (u : Value) (L : Pcs) :
    Spec Try.prog 13 #[u] [Res.rd u L.length 1 (L.map Prod.fst), Res.all (pcRes L)] []
      (fun r Γ' H' => r = (pcAt L 0).1 ∧ Γ' = [] ∧ H' = []) := by
  refine Spec.of_args Try.func13 rfl Try.ntmps13 (by simp) fun w => ?_
  refine JC.know (φ := L.length ≤ 9223372036854775807) (fun w hs => by obtain ⟨_, _, _, _, _, _, h⟩ := hs.rdForm (.head _); unfold maxLen at h; omega) fun hla => ?_
  refine .seq (.region ?_)
  refine .w (.assign rfl) ?_
  refine .nil (.tn (.seq (.seq (.region ?_))))
  refine .w (.move rfl) ?_
  refine .w (.len Try.underlying23 rfl) ?_
  refine .w (.bin rfl rfl BinR.eql_i) ?_
  refine .nil (.tn ?_)
  refine .cn rfl (fun hc1 => ?_) (fun hc1 => ?_)
  · have hL : L = [] := List.eq_nil_of_length_eq_zero (by omega)
    subst hL
    refine .seq (.region ?_)
    refine .w (.assign rfl) ?_
    refine .nil (.tn (.ret (.then_ret ?_)))
    exact .dn [] [] (res1 rfl (.tmp rfl)) ⟨rfl, rfl, rfl⟩
  · refine .skip (.tn (.seq (.region ?_)))
    refine .w (.move rfl) ?_
    refine .w (.ix1 (j := 0) Try.underlying23 sz_24 rfl rfl) ?_
    refine .w (.ld one_24 rfl (hj := by first | exact pc_get (by omega) | rfl | exact tab_get (by first | omega | (simp; omega)) | exact gm (d := 0) (by first | omega | (simp; omega)))) ?_
    refine .w (.assign rfl) ?_
    refine .nil (.tn (.ret ?_))
    exact .dn [] [] (res1 rfl (.tmp rfl)) ⟨rfl, rfl, rfl⟩

theorem f26_spec (u : Value) (L : Pcs) :
    Spec Try.prog 26 #[u] [Res.rd u L.length 1 (L.map Prod.fst), Res.all (pcRes L)] []
      (fun r Γ' H' => r = .bool (twB (bytesP L)) ∧ Γ' = [] ∧ H' = []) := by
  refine Spec.of_args Try.func26 rfl Try.ntmps26 (by simp) fun w => ?_
  refine JC.know (φ := L.length ≤ 9223372036854775807) (fun w hs => by obtain ⟨_, _, _, _, _, _, h⟩ := hs.rdForm (.head _); unfold maxLen at h; omega) fun hla => ?_
  refine .seq (.region ?_)
  refine .w (.assign rfl) ?_
  refine .nil (.tn (.seq (.seq (.region ?_))))
  refine .w (.move rfl) ?_
  refine .w (.len Try.underlying23 rfl) ?_
  refine .w (.move rfl) ?_
  refine .nil (.tn (.block ?_))
  refine .lp (ι := Nat) (fun x => x ≤ L.length ∧ ((bytesP L).take x).Nodup) (fun T x => (7, it (x : Int)) :: T) (fun T _ => T) (fun T _ => T) (fun x => L.length - x) 0 [0, 5, 6] ?_ (fun x hx => ?_)
  · exact ⟨Nat.zero_le _, by simp⟩
  obtain ⟨hx, hn⟩ := hx
  refine .seq (.region ?_)
  refine .w (.bin rfl rfl BinR.lss_i) ?_
  refine .nil (.tn (.seq ?_))
  refine .cn rfl (fun hc1 => ?_) (fun hc1 => ?_)
  · refine .skip (.tn (.seq (.block (.seq (.region ?_)))))
    refine JO.open (r := Res.rd (pcAt L x).1 (pcAt L x).2.length 1 ((pcAt L x).2.map u8)) (by repeat (first | exact List.Mem.head _ | refine List.Mem.tail _ ?_)) (pc_res (by omega)) ?_
    refine .w (.move rfl) ?_
    refine .w (.ix1 Try.underlying23 sz_24 rfl rfl) ?_
    refine .w (.ld one_24 rfl (hj := by first | exact pc_get (by omega) | rfl | exact tab_get (by first | omega | (simp; omega)) | exact gm (d := 0) (by first | omega | (simp; omega)))) ?_
    refine .w (.assign rfl) ?_
    refine JO.cutRd (v := u) 0 x (by repeat (first | exact List.Mem.head _ | refine List.Mem.tail _ ?_)) (by omega) (by omega) ?_
    rw [rd_preP hx]
    refine JO.allOf L L (L.take x) (by repeat (first | exact List.Mem.head _ | refine List.Mem.tail _ ?_)) (by repeat (first | exact List.Mem.head _ | refine List.Mem.tail _ ?_)) (fun z hz => .inl (List.mem_of_mem_take hz)) ?_
    refine JO.know (φ := (pcAt L x).1.oneCell' = true) (fun w hs => pcs_one (hs.gok (Res.all (pcRes L)) (by repeat (first | exact List.Mem.head _ | refine List.Mem.tail _ ?_))) _ (List.mem_map.2 ⟨_, pc_mem (by omega), rfl⟩)) fun hone => ?_
    refine .w (.assign rfl) ?_
    refine .nil (.tn (.seq ?_))
    refine JC.draw (.one 0 (.one 1 (.one 2 (.one 3 (.one 4 (.one 5 .nil)))))) (fun i => ([4, 5] : List Nat).contains i) (fun i => ([4, 5] : List Nat).contains i) (fun i => ([0, 1, 2, 3] : List Nat).contains i) mixed (by kernel_rfl) (by decide) (by kernel_rfl) ?_
    refine .uw rfl (.move rfl) ?_
    refine .uw rfl (.move rfl) ?_
    refine .uw rfl (.cutRd (l := 0) (h := x) Try.underlying23 sz_24 rfl (by repeat (first | exact List.Mem.head _ | refine List.Mem.tail _ ?_)) rfl ⟨_, rfl⟩ (by first | (simp; done) | omega | (simp; omega)) (by first | (simp; done) | omega | (simp; omega))) ?_
    refine .uw rfl (.move rfl) ?_
    refine .mw rfl (.cb (f34_spec (pcAt L x).1 hone) body_34 (h0 := by rintro _ _ _ ⟨_, _, h, _⟩; exact h)) ?_
    rintro _ _ _ ⟨_, ⟨q, rfl, _, rfl⟩, hΓ, hH⟩
    simp only [List.cons_append, List.nil_append] at hH; subst hΓ hH
    refine kp ?_
    refine .mw rfl (.c (f23Is_spec _ (L.take x) q (pcAt L x).1 (pcAt L x).2) body_23) ?_
    rintro _ _ _ ⟨rfl, rfl, rfl⟩
    refine kp ?_
    refine .nil (.tn ?_)
    refine .cn rfl (fun hc2 => ?_) (fun hc2 => ?_)
    · refine .seq (.region ?_)
      refine .w (.assign rfl) ?_
      refine .nil (.tn (.ret (.block_ret (.then_ret (.then_ret (.block_ret (.then_ret ?_)))))))
      exact .dn [] [] (res1 rfl (.tmp rfl)) ⟨congrArg Value.bool (tw_hit (by omega) hc2).symm, rfl, rfl⟩
    · refine .skip (.block_normal (.tn (.region ?_)))
      refine .w (.bin rfl rfl (BinR.add_i (by first | (constructor <;> omega) | (constructor <;> simp <;> omega)))) ?_
      refine .w (.move rfl) ?_
      refine .nil ?_
      have hn2 := tw_go (by omega) hn hc2
      refine .hd (x + 1) ?_
      exact ⟨⟨by omega, hn2⟩, by omega⟩
  · obtain rfl : x = L.length := by omega
    rw [show (bytesP L).take L.length = bytesP L from List.take_of_length_le (by rw [bytesP_len]; omega)] at hn
    refine .exit (.then_exit (.then_exit (.block_exit (.tn (.seq (.region ?_))))))
    refine .w (.assign rfl) ?_
    refine .nil (.tn (.ret ?_))
    exact .dn [] [] (res1 rfl (.tmp rfl)) ⟨congrArg Value.bool (by rw [twB, decide_eq_true hn]; rfl), rfl, rfl⟩
end Go.Proofs.Ytffgimlkmfjgmaa
