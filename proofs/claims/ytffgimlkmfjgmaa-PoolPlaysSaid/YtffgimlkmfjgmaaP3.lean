/- Walks: asking the pool. -/
import Derived.Test.YtffgimlkmfjgmaaP2
namespace Go.Proofs.Ytffgimlkmfjgmaa
open Go.RowKit
set_option maxRecDepth 100000
set_option linter.unusedVariables false
set_option linter.unusedSimpArgs false
theorem f15N_spec (p : Nat) (wv : Value) (u : Value) (b : B8) :
    Spec Try.prog 15 #[(ptr p 0), u] [Res.cells p [wv, .map none] 39, Res.rd u b.length 1 (b.map u8)] []
      (fun r Γ' H' => r = .bool false ∧ Γ' = [] ∧ H' = []) := by
  refine Spec.of_args Try.func15 rfl Try.ntmps15 (by simp) fun w => ?_
  refine .seq (.region ?_)
  refine .w (.assign rfl) ?_
  refine .nil (.tn (.seq ?_))
  refine JC.draw (.one 0 (.one 1 (.one 2 (.one 3 (.one 4 (.one 5 (.one 6 (.one 7 .nil)))))))) (fun i => ([] : List Nat).contains i) (fun i => ([] : List Nat).contains i) (fun i => ([0, 1, 2, 4, 5, 7] : List Nat).contains i) mixed (by kernel_rfl) (by decide) (by kernel_rfl) ?_
  refine .uw rfl (.move rfl) ?_
  refine .uw rfl (.nilCheck rfl) ?_
  refine .uw rfl (.fieldAddr fa_39_1 rfl) ?_
  refine .w rfl (.ld one_37 rfl) ?_
  refine .uw rfl (.move rfl) ?_
  refine .uw rfl (.conv_str Try.underlying24 Try.underlying5 Try.underlying9 rfl rfl (by repeat (first | exact Lend.same _ _ | exact Lend.row _ _ _ _ _ _ (by decide) | apply Lend.there))) ?_
  refine .w rfl (.lkNil b Try.underlying37 mkey_37 zf_4) ?_
  refine .uw rfl (.assign rfl) ?_
  refine .nil (.tn (.ret ?_))
  exact .dn [] [] (res1 rfl (.tmp rfl)) ⟨rfl, rfl, rfl⟩

theorem f15M_spec (p : Nat) (wv : Value) (a : Nat) (m : MM B8 Bool) (u : Value) (b : B8) :
    Spec Try.prog 15 #[(ptr p 0), u] [Res.cells p [wv, .map (some a)] 39, mpR a stK blV m, Res.rd u b.length 1 (b.map u8)] []
      (fun r Γ' H' => r = .bool (wasB m b) ∧ Γ' = [] ∧ H' = []) := by
  refine Spec.of_args Try.func15 rfl Try.ntmps15 (by simp) fun w => ?_
  refine .seq (.region ?_)
  refine .w (.assign rfl) ?_
  refine .nil (.tn (.seq ?_))
  refine JC.draw (.one 0 (.one 1 (.one 2 (.one 3 (.one 4 (.one 5 (.one 6 (.one 7 .nil)))))))) (fun i => ([] : List Nat).contains i) (fun i => ([] : List Nat).contains i) (fun i => ([0, 1, 2, 4, 5, 7] : List Nat).contains i) mixed (by kernel_rfl) (by decide) (by kernel_rfl) ?_
  refine .uw rfl (.move rfl) ?_
  refine .uw rfl (.nilCheck rfl) ?_
  refine .uw rfl (.fieldAddr fa_39_1 rfl) ?_
  refine .w rfl (.ld one_37 rfl) ?_
  refine .uw rfl (.move rfl) ?_
  refine .uw rfl (.conv_str Try.underlying24 Try.underlying5 Try.underlying9 rfl rfl (by repeat (first | exact Lend.same _ _ | exact Lend.row _ _ _ _ _ _ (by decide) | apply Lend.there))) ?_
  refine .w rfl (.as (v' := .bool (wasB m b)) (.lk b Try.underlying37 mkey_37 zf_4) (by unfold wasB; cases m.get b <;> rfl)) ?_
  refine .uw rfl (.assign rfl) ?_
  refine .nil (.tn (.ret ?_))
  exact .dn [] [] (res1 rfl (.tmp rfl)) ⟨rfl, rfl, rfl⟩

theorem f15A_spec (p : Nat) (wv mv : Value) (m : MM B8 Bool) (hm : DnOk mv m) (u : Value) (b : B8) : Spec Try.prog 15 #[(ptr p 0), u] [Res.cells p [wv, mv] 39, dnR mv m, Res.rd u b.length 1 (b.map u8)] [] (fun r Γ' H' => r = .bool (wasB m b) ∧ Γ' = [] ∧ H' = []) := by
  rcases hm with ⟨rfl, rfl⟩ | ⟨a, rfl⟩
  · exact (f15N_spec p wv u b).gsub (by intro r hr; simp only [List.mem_cons, List.not_mem_nil, or_false] at hr ⊢; rcases hr with rfl | rfl <;> simp)
  · exact f15M_spec p wv a m u b

theorem f37_spec (u : Value) (A : Pcs) (hA : A.length ≤ 100000) (hS : ∀ b ∈ bytesP A, b.length ≤ 1000000) :
    Spec Try.prog 37 #[u] [Res.rd u A.length 1 (A.map Prod.fst), Res.all (pcRes A)] []
      (fun r Γ' H' => ∃ B, bytesP B = bytesP A ∧ Γ' = [] ∧ H' = [Res.row r B.length 24 1 (B.map Prod.fst), Res.sep (rowsP B 5)]) := by
  refine Spec.of_args Try.func37 rfl Try.ntmps37 (by simp) fun w => ?_
  refine .seq (.region ?_)
  refine .w (.assign rfl) ?_
  refine .nil (.tn (.seq (.region ?_)))
  refine .w (.assign rfl) ?_
  refine .nil (.tn (.seq (.seq (.region ?_))))
  refine JO.nilRow 24 1 ?_
  refine JO.sp0 ?_
  refine .w (.move rfl) ?_
  refine .w (.len Try.underlying23 rfl) ?_
  refine .w (.move rfl) ?_
  refine .nil (.tn (.block ?_))
  refine .lp (ι := Nat × Value × Pcs) (fun x => x.1 ≤ A.length ∧ bytesP x.2.2 = (bytesP A).take x.1) (fun T x => (8, it (x.1 : Int)) :: (3, x.2.1) :: T) (fun T _ => T) (fun T x => Res.row x.2.1 x.2.2.length 24 1 (x.2.2.map Prod.fst) :: Res.sep (rowsP x.2.2 5) :: T) (fun x => A.length - x.1) (0, .slice none 0 0, []) [2, 6, 7, 18] ?_ (fun x hx => ?_)
  · exact ⟨Nat.zero_le _, rfl⟩
  obtain ⟨k, vo, B⟩ := x
  obtain ⟨hk, hB⟩ := hx
  dsimp only at hk hB ⊢
  have hBl : B.length = k := by have := congrArg List.length hB; rw [bytesP_len, List.length_take, bytesP_len] at this; omega
  refine .seq (.region ?_)
  refine .w (.bin rfl rfl BinR.lss_i) ?_
  refine .nil (.tn (.seq ?_))
  refine .cn rfl (fun hc1 => ?_) (fun hc1 => ?_)
  · refine .skip (.tn (.seq (.block (.seq (.region ?_)))))
    refine JO.open (r := Res.rd (pcAt A k).1 (pcAt A k).2.length 1 ((pcAt A k).2.map u8)) (by repeat (first | exact List.Mem.head _ | refine List.Mem.tail _ ?_)) (pc_res (by omega)) ?_
    refine .w (.ix1 Try.underlying23 sz_24 rfl rfl) ?_
    refine .w (.ld one_24 rfl (hj := by first | exact pc_get (by omega) | rfl | exact tab_get (by first | omega | (simp; omega)) | exact gm (d := 0) (by first | omega | (simp; omega)))) ?_
    refine .w (.assign rfl) ?_
    refine .nil (.tn (.region ?_))
    refine .w (.move rfl) ?_
    refine .w (.move rfl) ?_
    refine .cb (f35_spec (pcAt A k).1 (pcAt A k).2.length ((pcAt A k).2.map u8) (by have := hS _ (List.mem_map.2 ⟨_, pc_mem (l := A) (k := k) (by omega), rfl⟩); omega) one_u8s) body_35 ?_
    rintro v14 _ ⟨_, _, rfl⟩
    refine .ap ?_
    refine JO.know (φ := v14.oneCell' = true) (fun w hs => (by obtain ⟨A, c, rfl, _⟩ := row_rd (by decide) (Res.row_ok.1 (hs.hok _ (.head _))); rfl)) fun hv14 => ?_
    refine .l1 Try.underlying23 info_24 (fun v15 => ?_) (h1 := (one_sing hv14))
    refine .ap Try.underlying23 info_24 (fun v16 => ?_) (hone := (one_sing hv14))
    rw [snoc_row (b := (pcAt A k).2)]
    refine .w (.assign rfl) ?_
    refine .nil (.block_normal (.tn (.region ?_)))
    refine .w (.bin rfl rfl (BinR.add_i (by first | (constructor <;> omega) | (constructor <;> simp <;> omega)))) ?_
    refine .w (.move rfl) ?_
    refine .nil ?_
    refine .rs (A := [Res.row v14 (pcAt A k).2.length 5 1 ((pcAt A k).2.map u8)]) (B := rowsP B 5) (L := rowsP (B ++ [(v14, (pcAt A k).2)]) 5) (by simp [rowsP]) ?_
    refine .hd (k + 1, v16, B ++ [(v14, (pcAt A k).2)]) ?_
    exact ⟨⟨by dsimp only; omega, by dsimp only; rw [bytesP_get (by omega), ← hB]; simp [bytesP]⟩, by dsimp only; omega⟩
  · have he : k = A.length := by omega
    subst he
    rw [show (bytesP A).take A.length = bytesP A from List.take_of_length_le (by rw [bytesP_len]; omega)] at hB
    refine .exit (.then_exit (.then_exit (.block_exit (.tn (.seq (.region ?_))))))
    refine .w (.move rfl) ?_
    refine .w (.assign rfl) ?_
    refine .nil (.tn (.ret ?_))
    exact .dn [] [Res.row vo B.length 24 1 (B.map Prod.fst), Res.sep (rowsP B 5)] (res1 rfl (.tmp rfl)) ⟨B, hB, rfl, rfl⟩

theorem f18_spec (p : Nat) (wv mv : Value) (A : Pcs) (n : Int) (hA : A.length ≤ 100000) (hS : ∀ b ∈ bytesP A, b.length ≤ 1000000) :
    Spec Try.prog 18 #[(ptr p 0), (it n)] [Res.cells p [wv, mv] 39, Res.rd wv A.length 1 (A.map Prod.fst), Res.all (pcRes A)] []
      (fun r Γ' H' => ∃ B, bytesP B = (bytesP A).take (max 0 (min n (A.length : Int))).toNat ∧ Γ' = [] ∧ H' = [Res.row r B.length 24 1 (B.map Prod.fst), Res.sep (rowsP B 5)]) := by
  refine Spec.of_args Try.func18 rfl Try.ntmps18 (by simp) fun w => ?_
  obtain ⟨q, hq⟩ : ∃ q, (max 0 (min n (A.length : Int))).toNat = q := ⟨_, rfl⟩
  have hql : q ≤ A.length := by omega
  refine .seq (.region ?_)
  refine .w (.assign rfl) ?_
  refine JO.cutRd (v := wv) 0 q (by repeat (first | exact List.Mem.head _ | refine List.Mem.tail _ ?_)) (by omega) (by omega) ?_
  rw [rd_preP hql]
  refine JO.allOf A A (A.take q) (by repeat (first | exact List.Mem.head _ | refine List.Mem.tail _ ?_)) (by repeat (first | exact List.Mem.head _ | refine List.Mem.tail _ ?_)) (fun z hz => .inl (List.mem_of_mem_take hz)) ?_
  refine .nil (.tn (.seq ?_))
  refine JC.draw (.one 0 (.one 1 (.one 2 (.one 3 (.one 4 (.one 5 (.one 6 (.one 7 (.one 8 (.one 9 (.one 10 (.one 11 (.one 12 (.one 13 (.one 14 .nil))))))))))))))) (fun i => ([13] : List Nat).contains i) (fun i => ([13] : List Nat).contains i) (fun i => ([0, 1, 2, 4, 5, 6, 7, 9, 10, 11, 12, 14] : List Nat).contains i) mixed (by kernel_rfl) (by decide) (by kernel_rfl) ?_
  refine .uw rfl (.move rfl) ?_
  refine .uw rfl (.nilCheck rfl) ?_
  refine .uw rfl (.fieldAddr fa_39_0 rfl) ?_
  refine .w rfl (.ld one_23 rfl) ?_
  refine .uw rfl (.move rfl) ?_
  refine .uw rfl (.move rfl) ?_
  refine .uw rfl (.nilCheck rfl) ?_
  refine .uw rfl (.fieldAddr fa_39_0 rfl) ?_
  refine .w rfl (.ld one_23 rfl) ?_
  refine .uw rfl (.len Try.underlying23 rfl) ?_
  refine .uw rfl (.min_i rfl rfl) ?_
  refine .uw rfl (.asI (q : Int) (.max_i rfl rfl)) ?_
  refine .uw rfl (.cutRd (l := 0) (h := q) Try.underlying23 sz_24 rfl (by repeat (first | exact List.Mem.head _ | refine List.Mem.tail _ ?_)) rfl ⟨_, rfl⟩ (by first | (simp; done) | omega | (simp; omega)) (by first | (simp; done) | omega | (simp; omega))) ?_
  refine .mw rfl (.cb (f37_spec (cutV 1 wv 0 q) (A.take q) (by rw [List.length_take]; omega) (fun b hb => hS b (by rw [bytesP, List.map_take] at hb; exact List.mem_of_mem_take hb))) body_37 (h0 := by rintro _ _ _ ⟨_, _, h, _⟩; exact h)) ?_
  rintro v18 _ _ ⟨_, ⟨B, hB, _, rfl⟩, hΓ, hH⟩
  simp only [List.cons_append, List.nil_append] at hH; subst hΓ hH
  refine kp ?_
  refine .uw rfl (.assign rfl) ?_
  refine .nil (.tn (.ret ?_))
  exact .dn [] [Res.row v18 B.length 24 1 (B.map Prod.fst), Res.sep (rowsP B 5)] (res1 rfl (.tmp rfl)) ⟨B, by rw [hB, hq, bytesP, List.map_take]; rfl, rfl, rfl⟩

theorem f16_spec (p : Nat) (wv mv : Value) (A : Pcs) (hA : A.length ≤ 100000) (hS : ∀ b ∈ bytesP A, b.length ≤ 1000000) :
    Spec Try.prog 16 #[(ptr p 0)] [Res.cells p [wv, mv] 39, Res.rd wv A.length 1 (A.map Prod.fst), Res.all (pcRes A)] []
      (fun r Γ' H' => ∃ B, bytesP B = bytesP A ∧ Γ' = [] ∧ H' = [Res.row r B.length 24 1 (B.map Prod.fst), Res.sep (rowsP B 5)]) := by
  refine Spec.of_args Try.func16 rfl Try.ntmps16 (by simp) fun w => ?_
  refine .seq (.region ?_)
  refine .w (.assign rfl) ?_
  refine .nil (.tn (.seq (.region ?_)))
  refine .w (.move rfl) ?_
  refine .w (.nilCheck rfl) ?_
  refine .w (.fieldAddr fa_39_0 rfl) ?_
  refine .w (.ld one_23 rfl) ?_
  refine .cb (f37_spec wv A hA hS) body_37 ?_ (h0 := by rintro _ _ _ ⟨_, _, h, _⟩; exact h)
  rintro v6 _ ⟨B, hB, _, rfl⟩
  refine .ap ?_
  refine .w (.assign rfl) ?_
  refine .nil (.tn (.ret ?_))
  exact .dn [] [Res.row v6 B.length 24 1 (B.map Prod.fst), Res.sep (rowsP B 5)] (res1 rfl (.tmp rfl)) ⟨B, hB, rfl, rfl⟩

theorem f22_spec (p : Nat) (wv mv : Value) (A : Pcs) :
    Spec Try.prog 22 #[(ptr p 0)] [Res.cells p [wv, mv] 39, Res.rd wv A.length 1 (A.map Prod.fst)] []
      (fun r Γ' H' => r = (it (A.length : Int)) ∧ Γ' = [] ∧ H' = []) := by
  refine Spec.of_args Try.func22 rfl Try.ntmps22 (by simp) fun w => ?_
  refine .seq (.region ?_)
  refine .w (.assign rfl) ?_
  refine .nil (.tn (.seq (.region ?_)))
  refine .w (.move rfl) ?_
  refine .w (.nilCheck rfl) ?_
  refine .w (.fieldAddr fa_39_0 rfl) ?_
  refine .w (.ld one_23 rfl) ?_
  refine .w (.len Try.underlying23 rfl) ?_
  refine .w (.assign rfl) ?_
  refine .nil (.tn (.ret ?_))
  exact .dn [] [] (res1 rfl (.tmp rfl)) ⟨rfl, rfl, rfl⟩
end Go.Proofs.Ytffgimlkmfjgmaa
