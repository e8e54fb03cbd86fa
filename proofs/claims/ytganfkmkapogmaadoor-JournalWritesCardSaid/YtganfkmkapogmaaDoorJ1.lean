/- Walks: Same, four, of, Lists, Clone. -/
import Derived.Test.YtganfkmkapogmaaDoorQ11
import Derived.Test.YtganfkmkapogmaaDoorB
namespace Go.Proofs.YtganfkmkapogmaaDoor
open Go.RowKit
set_option maxRecDepth 100000
set_option linter.unusedVariables false
set_option linter.unusedSimpArgs false
theorem f16_spec (u v : Value) (a b : B8) :
    Spec Tryd.prog 16 #[u, v] [Res.rd u a.length 1 (a.map u8), Res.rd v b.length 1 (b.map u8)] []
      (fun r Γ' H' => r = .bool (decide (a = b)) ∧ Γ' = [] ∧ H' = []) := by
  refine Spec.of_args Tryd.func16 rfl Tryd.ntmps16 (by simp) fun w => ?_
  refine JC.know (φ := a.length ≤ 9223372036854775807) (fun w hs => by obtain ⟨_, _, _, _, _, _, h⟩ := hs.rdForm (.head _); unfold maxLen at h; omega) fun hla => ?_
  refine JC.know (φ := b.length ≤ 9223372036854775807) (fun w hs => by obtain ⟨_, _, _, _, _, _, h⟩ := hs.rdForm (.tail _ (.head _)); unfold maxLen at h; omega) fun hlb => ?_
  refine .seq (.region ?_)
  refine .w (.assign rfl) ?_
  refine .nil (.tn (.seq (.seq (.region ?_))))
  refine .w (.move rfl) ?_
  refine .w (.len Tryd.underlying22 rfl) ?_
  refine .w (.move rfl) ?_
  refine .w (.len Tryd.underlying22 rfl) ?_
  refine .w (.bin rfl rfl BinR.neq_i) ?_
  refine .nil (.tn ?_)
  refine .cn rfl (fun hc1 => ?_) (fun hc1 => ?_)
  · refine .seq (.region ?_)
    refine .w (.assign rfl) ?_
    refine .nil (.tn (.ret (.then_ret ?_)))
    exact .dn [] [] (res1 rfl (.tmp rfl)) ⟨congrArg Value.bool (decide_eq_false (fun h => hc1 (by rw [h]))).symm, rfl, rfl⟩
  · have hab : a.length = b.length := by omega
    refine .skip (.tn (.seq (.seq (.region ?_))))
    refine .w (.assign rfl) ?_
    refine .nil (.tn (.block ?_))
    refine .lp (ι := Nat) (fun x => x ≤ a.length ∧ a.take x = b.take x) (fun T x => (5, it (x : Int)) :: T) (fun T _ => T) (fun T _ => T) (fun x => a.length - x) 0 [0, 1] ?_ (fun x hx => ?_)
    · exact ⟨Nat.zero_le _, rfl⟩
    obtain ⟨hx1, hx2⟩ := hx
    refine .seq (.seq (.region ?_))
    refine .w (.move rfl) ?_
    refine .w (.move rfl) ?_
    refine .w (.len Tryd.underlying22 rfl) ?_
    refine .w (.bin rfl rfl BinR.lss_i) ?_
    refine .nil (.tn ?_)
    refine .cn rfl (fun hc2 => ?_) (fun hc2 => ?_)
    · refine .skip (.tn (.seq (.block (.seq ?_))))
      refine JC.draw (.one 0 (.one 1 (.one 2 (.one 3 (.one 4 (.one 5 (.one 6 (.one 7 (.one 8 .nil))))))))) (fun i => ([] : List Nat).contains i) (fun i => ([] : List Nat).contains i) (fun i => ([0, 1, 2, 4, 5, 6, 8] : List Nat).contains i) mixed (by kernel_rfl) (by decide) (by kernel_rfl) ?_
      refine .uw rfl (.move rfl) ?_
      refine .uw rfl (.move rfl) ?_
      refine .uw rfl (.ix1 Tryd.underlying22 sz_5 rfl rfl) ?_
      refine .w rfl (.ld one_5 rfl) ?_
      refine .uw rfl (.move rfl) ?_
      refine .uw rfl (.move rfl) ?_
      refine .uw rfl (.ix1 Tryd.underlying22 sz_5 rfl rfl) ?_
      refine .w rfl (.ld one_5 rfl) ?_
      refine .uw rfl (.bin rfl rfl (BinR.neq_u8)) ?_
      refine .nil (.tn ?_)
      refine .cn rfl (fun hc3 => ?_) (fun hc3 => ?_)
      · refine .seq (.region ?_)
        refine .w (.assign rfl) ?_
        refine .nil (.tn (.ret (.block_ret (.then_ret (.then_ret (.block_ret (.then_ret ?_)))))))
        exact .dn [] [] (res1 rfl (.tmp rfl)) ⟨congrArg Value.bool (decide_eq_false (fun h => hc3 (by rw [h]))).symm, rfl, rfl⟩
      · refine .skip (.block_normal (.tn (.region ?_)))
        refine .w (.move rfl) ?_
        refine .w (.bin rfl rfl (BinR.add_i (by first | (constructor <;> omega) | (constructor <;> simp <;> omega)))) ?_
        refine .w (.assign rfl) ?_
        refine .nil ?_
        have hx3 : a.take (x + 1) = b.take (x + 1) := by rw [take_snoc (by omega), take_snoc (by omega), hx2, hc3]
        refine .hd (x + 1) ?_
        exact ⟨⟨by omega, hx3⟩, by omega⟩
    · have he : x = a.length := by omega
      subst he
      rw [List.take_length, hab, List.take_length] at hx2
      refine .exit (.then_exit (.then_exit (.block_exit (.tn (.seq (.region ?_))))))
      refine .w (.assign rfl) ?_
      refine .nil (.tn (.ret ?_))
      exact .dn [] [] (res1 rfl (.tmp rfl)) ⟨congrArg Value.bool (decide_eq_true hx2).symm, rfl, rfl⟩

theorem f29_spec (n : Nat) (hn : n ≤ 1000000000) :
    Spec Tryd.prog 29 #[(it (n : Int))] [] []
      (fun r Γ' H' => True ∧ Γ' = [] ∧ H' = [Res.row r 4 5 1 ((be4 n).map u8)]) := by
  refine Spec.of_args Tryd.func29 rfl Tryd.ntmps29 (by simp) fun w => ?_
  refine .seq (.region ?_)
  refine .w (.assign rfl) ?_
  refine .nil (.tn (.seq (.region ?_)))
  refine .w (.move rfl) ?_
  refine .w (.asI ((n / 16777216 : Nat) : Int) (.bin rfl rfl (BinR.shr_ik (c := 24) (by decide)))) ?_
  refine .w (.as (v' := u8 (BitVec.ofNat 8 (n / 16777216))) (.conv_i_u8 Tryd.underlying3 Tryd.underlying5 rfl) (congrArg u8 (BitVec.ofInt_natCast _ _))) ?_
  refine .w (.move rfl) ?_
  refine .w (.asI ((n / 65536 : Nat) : Int) (.bin rfl rfl (BinR.shr_ik (c := 16) (by decide)))) ?_
  refine .w (.as (v' := u8 (BitVec.ofNat 8 (n / 65536))) (.conv_i_u8 Tryd.underlying3 Tryd.underlying5 rfl) (congrArg u8 (BitVec.ofInt_natCast _ _))) ?_
  refine .w (.move rfl) ?_
  refine .w (.asI ((n / 256 : Nat) : Int) (.bin rfl rfl (BinR.shr_ik (c := 8) (by decide)))) ?_
  refine .w (.as (v' := u8 (BitVec.ofNat 8 (n / 256))) (.conv_i_u8 Tryd.underlying3 Tryd.underlying5 rfl) (congrArg u8 (BitVec.ofInt_natCast _ _))) ?_
  refine .w (.move rfl) ?_
  refine .w (.as (v' := u8 (BitVec.ofNat 8 n)) (.conv_i_u8 Tryd.underlying3 Tryd.underlying5 rfl) (congrArg u8 (BitVec.ofInt_natCast _ _))) ?_
  refine .l1 Tryd.underlying22 info_5 (fun v14 => ?_)
  refine .w (.assign rfl) ?_
  refine .nil (.tn (.ret ?_))
  exact .dn [] [Res.row _ 4 5 1 ((be4 n).map u8)] (res1 rfl (.tmp rfl)) ⟨trivial, rfl, rfl⟩

theorem f26_spec (v : Value) (b : B8) (hb : 4 ≤ b.length) :
    Spec Tryd.prog 26 #[v] [Res.rd v b.length 1 (b.map u8)] []
      (fun r Γ' H' => r = (it ((v4 b : Nat) : Int)) ∧ Γ' = [] ∧ H' = []) := by
  refine Spec.of_args Tryd.func26 rfl Tryd.ntmps26 (by simp) fun w => ?_
  have hb0 := (b.getD 0 0).isLt
  have hb1 := (b.getD 1 0).isLt
  have hb2 := (b.getD 2 0).isLt
  have hb3 := (b.getD 3 0).isLt
  have hq1 : (b.getD 0 0).toNat * 16777216 ||| (b.getD 1 0).toNat * 65536 < 4294967296 := Nat.or_lt_two_pow (n := 32) (by omega) (by omega)
  have hq2 : ((b.getD 0 0).toNat * 16777216 ||| (b.getD 1 0).toNat * 65536) ||| (b.getD 2 0).toNat * 256 < 4294967296 := Nat.or_lt_two_pow (n := 32) hq1 (by omega)
  refine .seq (.region ?_)
  refine .w (.assign rfl) ?_
  refine .nil (.tn (.seq ?_))
  refine JC.draw (.one 0 (.one 1 (.one 2 (.one 3 (.one 4 (.one 5 (.one 6 (.one 7 (.one 8 (.one 9 (.one 10 (.one 11 (.one 12 (.one 13 (.one 14 (.one 15 (.one 16 (.one 17 (.one 18 (.one 19 (.one 20 (.one 21 (.one 22 .nil))))))))))))))))))))))) (fun i => ([] : List Nat).contains i) (fun i => ([] : List Nat).contains i) (fun i => ([0, 1, 3, 4, 5, 6, 8, 9, 10, 11, 12, 14, 15, 16, 17, 18, 20, 21, 22] : List Nat).contains i) mixed (by kernel_rfl) (by decide) (by kernel_rfl) ?_
  refine .uw rfl (.move rfl) ?_
  refine .uw rfl (.ix1 (j := 0) Tryd.underlying22 sz_5 rfl rfl) ?_
  refine .w rfl (.ld one_5 rfl (hj := by first | exact gm (d := 0) (by omega) | rfl | exact tab_get (by first | omega | (simp; omega)) | exact gm (d := 0) (by first | omega | (simp; omega)))) ?_
  refine .uw rfl (.conv_u8_i Tryd.underlying5 Tryd.underlying3 rfl) ?_
  refine .uw rfl (.asI (((b.getD 0 0).toNat * 16777216 : Nat) : Int) (.bin rfl rfl (BinR.shl_ik (c := 24) (by decide) (by first | (constructor <;> omega) | (constructor <;> simp <;> omega))))) ?_
  refine .uw rfl (.move rfl) ?_
  refine .uw rfl (.ix1 (j := 1) Tryd.underlying22 sz_5 rfl rfl) ?_
  refine .w rfl (.ld one_5 rfl (hj := by first | exact gm (d := 0) (by omega) | rfl | exact tab_get (by first | omega | (simp; omega)) | exact gm (d := 0) (by first | omega | (simp; omega)))) ?_
  refine .uw rfl (.conv_u8_i Tryd.underlying5 Tryd.underlying3 rfl) ?_
  refine .uw rfl (.asI (((b.getD 1 0).toNat * 65536 : Nat) : Int) (.bin rfl rfl (BinR.shl_ik (c := 16) (by decide) (by first | (constructor <;> omega) | (constructor <;> simp <;> omega))))) ?_
  refine .uw rfl (.bin rfl rfl (BinR.or_n (by first | omega | decide | (simp; omega)) (by first | omega | decide | (simp; omega)))) ?_
  refine .uw rfl (.move rfl) ?_
  refine .uw rfl (.ix1 (j := 2) Tryd.underlying22 sz_5 rfl rfl) ?_
  refine .w rfl (.ld one_5 rfl (hj := by first | exact gm (d := 0) (by omega) | rfl | exact tab_get (by first | omega | (simp; omega)) | exact gm (d := 0) (by first | omega | (simp; omega)))) ?_
  refine .uw rfl (.conv_u8_i Tryd.underlying5 Tryd.underlying3 rfl) ?_
  refine .uw rfl (.asI (((b.getD 2 0).toNat * 256 : Nat) : Int) (.bin rfl rfl (BinR.shl_ik (c := 8) (by decide) (by first | (constructor <;> omega) | (constructor <;> simp <;> omega))))) ?_
  refine .uw rfl (.bin rfl rfl (BinR.or_n (by first | omega | decide | (simp; omega)) (by first | omega | decide | (simp; omega)))) ?_
  refine .uw rfl (.move rfl) ?_
  refine .uw rfl (.ix1 (j := 3) Tryd.underlying22 sz_5 rfl rfl) ?_
  refine .w rfl (.ld one_5 rfl (hj := by first | exact gm (d := 0) (by omega) | rfl | exact tab_get (by first | omega | (simp; omega)) | exact gm (d := 0) (by first | omega | (simp; omega)))) ?_
  refine .uw rfl (.conv_u8_i Tryd.underlying5 Tryd.underlying3 rfl) ?_
  refine .uw rfl (.as (v' := it ((v4 b : Nat) : Int)) (.bin rfl rfl (BinR.or_n (by first | omega | decide | (simp; omega)) (by first | omega | decide | (simp; omega)))) (congrArg (fun n : Nat => it (n : Int)) (v4_or b))) ?_
  refine .uw rfl (.assign rfl) ?_
  refine .nil (.tn (.ret ?_))
  exact .dn [] [] (res1 rfl (.tmp rfl)) ⟨rfl, rfl, rfl⟩

theorem f15_spec (u v : Value) (a b : Pcs) :
    Spec Tryd.prog 15 #[u, v] [Res.rd u a.length 1 (a.map Prod.fst), Res.rd v b.length 1 (b.map Prod.fst), Res.all (pcRes a), Res.all (pcRes b)] []
      (fun r Γ' H' => r = .bool (decide (bytesP a = bytesP b)) ∧ Γ' = [] ∧ H' = []) := by
  refine Spec.of_args Tryd.func15 rfl Tryd.ntmps15 (by simp) fun w => ?_
  refine JC.know (φ := a.length ≤ 9223372036854775807) (fun w hs => by obtain ⟨_, _, _, _, _, _, h⟩ := hs.rdForm (.head _); unfold maxLen at h; omega) fun hla => ?_
  refine JC.know (φ := b.length ≤ 9223372036854775807) (fun w hs => by obtain ⟨_, _, _, _, _, _, h⟩ := hs.rdForm (.tail _ (.head _)); unfold maxLen at h; omega) fun hlb => ?_
  refine .seq (.region ?_)
  refine .w (.assign rfl) ?_
  refine .nil (.tn (.seq (.seq (.region ?_))))
  refine .w (.move rfl) ?_
  refine .w (.len Tryd.underlying24 rfl) ?_
  refine .w (.move rfl) ?_
  refine .w (.len Tryd.underlying24 rfl) ?_
  refine .w (.bin rfl rfl BinR.neq_i) ?_
  refine .nil (.tn ?_)
  refine .cn rfl (fun hc1 => ?_) (fun hc1 => ?_)
  · refine .seq (.region ?_)
    refine .w (.assign rfl) ?_
    refine .nil (.tn (.ret (.then_ret ?_)))
    exact .dn [] [] (res1 rfl (.tmp rfl)) ⟨congrArg Value.bool (decide_eq_false (fun h => hc1 (by have := congrArg List.length h; rw [bytesP_len, bytesP_len] at this; rw [this]))).symm, rfl, rfl⟩
  · have hab : a.length = b.length := by omega
    refine .skip (.tn (.seq (.seq (.region ?_))))
    refine .w (.assign rfl) ?_
    refine .nil (.tn (.block ?_))
    refine .lp (ι := Nat) (fun x => x ≤ a.length ∧ bytesP (a.take x) = bytesP (b.take x)) (fun T x => (5, it (x : Int)) :: T) (fun T _ => T) (fun T _ => T) (fun x => a.length - x) 0 [0, 1] ?_ (fun x hx => ?_)
    · exact ⟨Nat.zero_le _, rfl⟩
    obtain ⟨hx1, hx2⟩ := hx
    refine .seq (.seq (.region ?_))
    refine .w (.move rfl) ?_
    refine .w (.move rfl) ?_
    refine .w (.len Tryd.underlying24 rfl) ?_
    refine .w (.bin rfl rfl BinR.lss_i) ?_
    refine .nil (.tn ?_)
    refine .cn rfl (fun hc2 => ?_) (fun hc2 => ?_)
    · refine .skip (.tn (.seq (.block (.seq ?_))))
      refine JC.draw (.one 0 (.one 1 (.one 2 (.one 3 (.one 4 (.one 5 (.one 6 (.one 7 (.one 8 (.one 9 .nil)))))))))) (fun i => ([8] : List Nat).contains i) (fun i => ([8] : List Nat).contains i) (fun i => ([0, 1, 2, 4, 5, 6, 9] : List Nat).contains i) mixed (by kernel_rfl) (by decide) (by kernel_rfl) ?_
      refine JR.open (r := Res.rd (pcAt a x).1 (pcAt a x).2.length 1 ((pcAt a x).2.map u8)) (by repeat (first | exact List.Mem.head _ | refine List.Mem.tail _ ?_)) (pc_res (by omega)) ?_
      refine JR.open (r := Res.rd (pcAt b x).1 (pcAt b x).2.length 1 ((pcAt b x).2.map u8)) (by repeat (first | exact List.Mem.head _ | refine List.Mem.tail _ ?_)) (pc_res (by omega)) ?_
      refine .uw rfl (.move rfl) ?_
      refine .uw rfl (.move rfl) ?_
      refine .uw rfl (.ix1 Tryd.underlying24 sz_22 rfl rfl) ?_
      refine .w rfl (.ld one_22 rfl (hj := by first | exact pc_get (by omega) | rfl | exact tab_get (by first | omega | (simp; omega)) | exact gm (d := 0) (by first | omega | (simp; omega)))) ?_
      refine .uw rfl (.move rfl) ?_
      refine .uw rfl (.move rfl) ?_
      refine .uw rfl (.ix1 Tryd.underlying24 sz_22 rfl rfl) ?_
      refine .w rfl (.ld one_22 rfl (hj := by first | exact pc_get (by omega) | rfl | exact tab_get (by first | omega | (simp; omega)) | exact gm (d := 0) (by first | omega | (simp; omega)))) ?_
      refine .mw rfl (.c (f16_spec _ _ (pcAt a x).2 (pcAt b x).2) body_16) ?_
      rintro _ _ _ ⟨rfl, rfl, rfl⟩
      refine kp ?_
      refine .uw rfl (.not rfl) ?_
      refine .nil (.tn ?_)
      refine .cn rfl (fun hc3 => ?_) (fun hc3 => ?_)
      · refine .seq (.region ?_)
        refine .w (.assign rfl) ?_
        refine .nil (.tn (.ret (.block_ret (.then_ret (.then_ret (.block_ret (.then_ret ?_)))))))
        exact .dn [] [] (res1 rfl (.tmp rfl)) ⟨congrArg Value.bool (decide_eq_false (fun h => hc3 (pcAt_of h))).symm, rfl, rfl⟩
      · refine .skip (.block_normal (.tn (.region ?_)))
        refine .w (.move rfl) ?_
        refine .w (.bin rfl rfl (BinR.add_i (by first | (constructor <;> omega) | (constructor <;> simp <;> omega)))) ?_
        refine .w (.assign rfl) ?_
        refine .nil ?_
        have hx3 : bytesP (a.take (x + 1)) = bytesP (b.take (x + 1)) := by rw [take_snocP (by omega), take_snocP (by omega), hx2, hc3]
        refine .hd (x + 1) ?_
        exact ⟨⟨by omega, hx3⟩, by omega⟩
    · have he : x = a.length := by omega
      subst he
      rw [List.take_length, hab, List.take_length] at hx2
      refine .exit (.then_exit (.then_exit (.block_exit (.tn (.seq (.region ?_))))))
      refine .w (.assign rfl) ?_
      refine .nil (.tn (.ret ?_))
      exact .dn [] [] (res1 rfl (.tmp rfl)) ⟨congrArg Value.bool (decide_eq_true hx2).symm, rfl, rfl⟩

theorem f22_spec (v : Value) (n : Nat) (xs : List Value) (hn : n ≤ 1000000000) (h1 : ∀ a ∈ xs, a.oneCell' = true) :
    Spec Tryd.prog 22 #[v] [Res.rd v n 1 xs] []
      (fun r Γ' H' => True ∧ Γ' = [] ∧ H' = [Res.row r n 5 1 xs]) := by
  refine Spec.know (φ := ∃ A c, v = .slice A n c ∧ (A = none → xs = []) ∧ xs.length = n * 1 ∧ n ≤ c ∧ n ≤ maxLen) (fun w hs => hs.rdForm (.head _)) ?_
  rintro ⟨A, c, rfl, hA, hl, hc, hm⟩
  refine Spec.of_args Tryd.func22 rfl Tryd.ntmps22 (by simp) fun w => ?_
  refine .seq (.region ?_)
  refine .w (.assign rfl) ?_
  refine .nil (.tn (.seq (.seq (.region ?_))))
  refine .w (.move rfl) ?_
  refine .w (.bin rfl rfl (BinR.eql_s Tryd.underlying22)) ?_
  refine .nil (.tn ?_)
  refine .cn rfl (fun hc1 => ?_) (fun hc1 => ?_)
  · have hA0 : A = none := by cases A <;> simp_all
    have hx := hA hA0
    have hn0 : n = 0 := by rw [hx] at hl; simpa using hl.symm
    subst hx hn0
    refine .seq (.region ?_)
    refine JO.nilRow 5 1 ?_
    refine JO.v (Yv.assign rfl) (by decide) ?_
    refine .nil (.tn (.ret (.then_ret ?_)))
    exact .dn [] [Res.row (.slice none 0 0) 0 5 1 []] (res1 rfl (.tmp rfl)) ⟨trivial, rfl, rfl⟩
  · refine .skip (.tn (.seq (.region ?_)))
    refine .le Tryd.underlying22 sz_5 fun v5 => ?_
    refine .w (.move rfl) ?_
    refine .ap Tryd.underlying22 info_5 (fun v7 => ?_) (hone := h1)
    refine .w (.assign rfl) ?_
    refine .nil (.tn (.ret ?_))
    exact .dn [] [Res.row _ (0 + n) 5 1 ([] ++ xs)] (res1 rfl (.tmp rfl)) ⟨trivial, rfl, by rw [Nat.zero_add, List.nil_append]⟩
end Go.Proofs.YtganfkmkapogmaaDoor
