/- Walks: the document's reader, Pack, Unpack. -/
import Derived.Test.YtffgimlkmfjgmaaDoorR8
import Derived.Test.YtffgimlkmfjgmaaDoorP8
namespace Go.Proofs.YtffgimlkmfjgmaaDoor
open Go.RowKit
set_option maxRecDepth 100000
set_option linter.unusedVariables false
set_option linter.unusedSimpArgs false
theorem f52_spec (p : Nat) (bv : Value) (a e err : Int) :
    Spec Tryd.prog 52 #[(ptr p 0), (it err)] [] [Res.cells p [bv, it a, it e] 62]
      (fun r Γ' H' => r = .tuple #[] ∧ Γ' = [] ∧ H' = [Res.cells p [bv, it a, it (if e = 0 then err else e)] 62]) := by
  refine Spec.of_args Tryd.func52 rfl Tryd.ntmps52 (by simp) fun w => ?_
  refine .seq (.region ?_)
  refine .w (.move rfl) ?_
  refine .w (.nilCheck rfl) ?_
  refine .w (.fieldAddr fa_62_2 rfl) ?_
  refine .w (.ld one_27 rfl) ?_
  refine .w (.bin rfl rfl BinR.eql_i) ?_
  refine .nil (.tn ?_)
  refine .cn rfl (fun hc1 => ?_) (fun hc1 => ?_)
  · refine .region ?_
    refine .w (.move rfl) ?_
    refine .w (.move rfl) ?_
    refine .w (.nilCheck rfl) ?_
    refine .w (.fieldAddr fa_62_2 rfl) ?_
    first | refine .s1 sz_27 ?_ | refine .sr1 sz_27 ?_
    refine .nil ?_
    exact .dn [] [Res.cells p [bv, it a, it err] 62] (res_none rfl) ⟨rfl, rfl, by rw [if_pos hc1]⟩
  · refine .skip ?_
    exact .dn [] [Res.cells p [bv, it a, it e] 62] (res_none rfl) ⟨rfl, rfl, by rw [if_neg hc1]⟩

theorem f51_spec (p : Nat) (bv : Value) (B : B8) (po : Nat) (r : Rdr) (hl : RdL B po r) (hB : B.length ≤ 1000000) (n : Nat) (hn : n ≤ 1000000) :
    Spec Tryd.prog 51 #[(ptr p 0), (it (n : Int))] [Res.rd bv B.length 1 (B.map u8)] [Res.cells p [bv, it (po : Int), it r.e] 62]
      (fun v Γ' H' => ∃ po' : Nat, RdL B po' (r.aft n) ∧ Γ' = [Res.rd v (r.out n).length 1 ((r.out n).map u8)] ∧ H' = [Res.cells p [bv, it (po' : Int), it (r.aft n).e] 62]) := by
  refine Spec.of_args Tryd.func51 rfl Tryd.ntmps51 (by simp) fun w => ?_
  have hle := hl.le
  refine .seq (.region ?_)
  refine .w (.assign rfl) ?_
  refine .nil (.tn ?_)
  refine .mt (ι := Unit) (fun x => True) (fun T _ => T) (fun T _ => T) (fun T x => Res.cells p [bv, it (po : Int), it (r.aft n).e] 62 :: T) [0, 1, 4, 19, 20, 21, 22, 23, 24, 25, 26, 27, 28, 29, 30, 31, 32, 33, 34, 35, 36, 37, 38, 39, 40, 41, 42, 43, 44, 45, 46, 47] [Res.cells p [bv, it (po : Int), it r.e] 62] ?_ (fun x hx => ?_)
  · refine .seq ?_
    refine JC.draw (.one 0 (.one 1 (.one 2 (.one 3 (.one 4 (.one 5 (.one 6 (.one 7 (.one 8 (.one 9 (.one 10 (.one 11 .nil)))))))))))) (fun i => ([] : List Nat).contains i) (fun i => ([] : List Nat).contains i) (fun i => ([0, 1, 2, 3, 5, 6, 7, 8, 10, 11] : List Nat).contains i) mixed (by kernel_rfl) (by decide) (by kernel_rfl) ?_
    refine .uw rfl (.move rfl) ?_
    refine .uw rfl (.move rfl) ?_
    refine .uw rfl (.nilCheck rfl) ?_
    refine .uw rfl (.fieldAddr fa_62_0 rfl) ?_
    refine .w rfl (.ld one_24 rfl) ?_
    refine .uw rfl (.len Tryd.underlying24 rfl) ?_
    refine .uw rfl (.move rfl) ?_
    refine .uw rfl (.nilCheck rfl) ?_
    refine .uw rfl (.fieldAddr fa_62_1 rfl) ?_
    refine .w rfl (.ld one_3 rfl) ?_
    refine .uw rfl (.bin rfl rfl (BinR.sub_i (by first | (constructor <;> omega) | (constructor <;> simp <;> omega)))) ?_
    refine .uw rfl (.bin rfl rfl BinR.gtr_i) ?_
    refine .nil (.tn ?_)
    refine .cn rfl (fun hc1 => ?_) (fun hc1 => ?_)
    · refine .region ?_
      refine .w (.move rfl) ?_
      refine .c (f52_spec p bv (po : Int) r.e 3) body_52 ?_
      refine .nil ?_
      first | rw [hl.e1 (n := n) (by omega)] | rw [hl.e2 (n := n) (by omega)]
      refine .hd () ?_
      trivial
    · refine .skip ?_
      first | rw [hl.e1 (n := n) (by omega)] | rw [hl.e2 (n := n) (by omega)]
      refine .hd () ?_
      trivial
  · obtain ⟨⟩ := x
    refine .seq (.seq (.region ?_))
    refine .w (.move rfl) ?_
    refine .w (.nilCheck rfl) ?_
    refine .w (.fieldAddr fa_62_2 rfl) ?_
    refine .w (.ld one_27 rfl) ?_
    refine .w (.bin rfl rfl BinR.neq_i) ?_
    refine .nil (.tn ?_)
    refine .cn rfl (fun hc2 => ?_) (fun hc2 => ?_)
    · have hO : r.out n = [] := by
        by_cases h0 : r.e = 0
        · by_cases h1 : B.length < po + n
          · exact (hl.short h0 h1).2
          · exact absurd (by rw [(hl.take h0 (by omega)).1]) hc2
        · exact (aft_stuck h0 n).2
      refine .seq (.region ?_)
      refine JO.nilRd 1 ?_
      refine .w (.assign rfl) ?_
      refine .nil (.tn (.ret (.then_ret ?_)))
      exact .dn [Res.rd (.slice none 0 0) 0 1 []] [Res.cells p [bv, it (po : Int), it (r.aft n).e] 62] (res1 rfl (.tmp rfl)) ⟨po, .bad hle hc2, (by rw [hO]; rfl), rfl⟩
    · have h0 : r.e = 0 := by
        by_cases h0 : r.e = 0
        · exact h0
        · rw [(aft_stuck h0 n).1] at hc2; exact absurd hc2 h0
      have hpn : po + n ≤ B.length := by
        by_cases h1 : B.length < po + n
        · have h3 := (hl.short h0 h1).1; rw [hc2] at h3; cases h3
        · omega
      obtain ⟨t1, t2, t3⟩ := hl.take h0 hpn
      refine .skip (.tn (.seq (.region ?_)))
      refine .w (.move rfl) ?_
      refine .w (.move rfl) ?_
      refine .w (.nilCheck rfl) ?_
      refine .w (.fieldAddr fa_62_1 rfl) ?_
      refine .w (.ld one_3 rfl) ?_
      refine .w (.move rfl) ?_
      refine .w (.asI ((po + n : Nat) : Int) (.bin rfl rfl (BinR.add_i (by first | (constructor <;> omega) | (constructor <;> simp <;> omega))))) ?_
      refine .w (.nilCheck rfl) ?_
      refine .w (.fieldAddr fa_62_1 rfl) ?_
      first | refine .s1 sz_3 ?_ | refine .sr1 sz_3 ?_
      refine .nil (.tn (.seq ?_))
      refine JC.draw (.one 0 (.one 1 (.one 2 (.one 3 (.one 4 (.one 5 (.one 6 (.one 7 (.one 8 (.one 9 (.one 10 (.one 11 (.one 12 (.one 13 (.one 14 (.one 15 .nil)))))))))))))))) (fun i => ([] : List Nat).contains i) (fun i => ([] : List Nat).contains i) (fun i => ([0, 1, 2, 4, 5, 6, 8, 9, 10, 11, 12, 14, 15] : List Nat).contains i) mixed (by kernel_rfl) (by decide) (by kernel_rfl) ?_
      refine .uw rfl (.move rfl) ?_
      refine .uw rfl (.nilCheck rfl) ?_
      refine .uw rfl (.fieldAddr fa_62_0 rfl) ?_
      refine .w rfl (.ld one_24 rfl) ?_
      refine .uw rfl (.move rfl) ?_
      refine .uw rfl (.nilCheck rfl) ?_
      refine .uw rfl (.fieldAddr fa_62_1 rfl) ?_
      refine .w rfl (.ld one_3 rfl) ?_
      refine .uw rfl (.move rfl) ?_
      refine .uw rfl (.asI (po : Int) (.bin rfl rfl (BinR.sub_i (by first | (constructor <;> omega) | (constructor <;> simp <;> omega))))) ?_
      refine .uw rfl (.move rfl) ?_
      refine .uw rfl (.nilCheck rfl) ?_
      refine .uw rfl (.fieldAddr fa_62_1 rfl) ?_
      refine .w rfl (.ld one_3 rfl) ?_
      refine JR.cutRd (v := bv) po (po + n) (by repeat (first | exact List.Mem.head _ | refine List.Mem.tail _ ?_)) (by omega) (by omega) ?_
      rw [rd_mid8 hpn]
      refine .uw rfl (.cutRd (l := po) (h := (po + n)) Tryd.underlying24 sz_5 rfl (by repeat (first | exact List.Mem.head _ | refine List.Mem.tail _ ?_)) ⟨_, rfl⟩ ⟨_, rfl⟩ (by first | (simp; done) | omega | (simp; omega)) (by first | (simp; done) | omega | (simp; omega))) ?_
      refine .uw rfl (.assign rfl) ?_
      refine .nil (.tn (.ret ?_))
      exact .dn [Res.rd (cutV 1 bv po (po + n)) ((B.drop po).take n).length 1 (((B.drop po).take n).map u8)] [Res.cells p [bv, it ((po + n : Nat) : Int), it (r.aft n).e] 62] (res1 rfl (.tmp rfl)) ⟨po + n, t3, (by rw [t2]), rfl⟩

theorem f32_spec (p : Nat) (bv : Value) (B : B8) (po : Nat) (r : Rdr) (hl : RdL B po r) (hB : B.length ≤ 1000000) (lim : BitVec 64) :
    Spec Tryd.prog 32 #[(ptr p 0), (u64 lim)] [Res.rd bv B.length 1 (B.map u8)] [Res.cells p [bv, it (po : Int), it r.e] 62]
      (fun o Γ' H' => ∃ po' : Nat, RdL B po' (r.smA lim) ∧ o = u64 (r.sm lim) ∧ Γ' = [] ∧ H' = [Res.cells p [bv, it (po' : Int), it (r.smA lim).e] 62]) := by
  refine Spec.of_args Tryd.func32 rfl Tryd.ntmps32 (by simp) fun w => ?_
  have hk9 := r.k8.isLt
  have hO8 := Rdr.smO_le r
  refine .seq (.region ?_)
  refine .w (.assign rfl) ?_
  refine .nil (.tn (.seq (.region ?_)))
  refine .w (.move rfl) ?_
  refine .cs (f51_spec p bv B po r hl hB 1 (by omega)) body_51 ?_
  rintro v10 _ _ ⟨p1, hl1, rfl, rfl⟩
  refine .ap ?_
  refine .ap ?_
  refine .w (.assign rfl) ?_
  refine .nil (.tn (.seq (.seq (.region ?_))))
  refine .w (.move rfl) ?_
  refine .w (.nilCheck rfl) ?_
  refine .w (.fieldAddr fa_62_2 rfl) ?_
  refine .w (.ld one_27 rfl (hj := by first | exact gm (d := 0) (by first | omega | (simp; done) | (simp; omega)) | rfl | exact tab_get (by first | omega | (simp; omega)) | exact gm (d := 0) (by first | omega | (simp; omega)))) ?_
  refine .w (.bin rfl rfl BinR.neq_i) ?_
  refine .nil (.tn ?_)
  refine .cn rfl (fun hc1 => ?_) (fun hc1 => ?_)
  · refine .seq (.region ?_)
    refine .w (.assign rfl) ?_
    refine .nil (.tn (.ret (.then_ret ?_)))
    obtain ⟨s1, _, s2⟩ := sm_1 (lim := lim) hc1
    exact .dn [] [Res.cells p [bv, it (p1 : Int), it (r.aft 1).e] 62] (res1 rfl (.tmp rfl)) ⟨p1, (by rw [s2]; exact hl1), (by first | (rw [s1]; done) | (rw [s1]; rfl)), rfl, (by rw [s2])⟩
  · have h1 : (r.aft 1).e = 0 := hc1
    rw [(out1 h1).1]
    refine .skip (.tn (.seq (.seq (.region ?_))))
    refine .w (.move rfl) ?_
    refine .w (.ix1 (j := 0) Tryd.underlying24 sz_5 rfl rfl) ?_
    refine .w (.ld one_5 rfl (hj := by first | exact gm (d := 0) (by first | omega | (simp; done) | (simp; omega)) | rfl | exact tab_get (by first | omega | (simp; omega)) | exact gm (d := 0) (by first | omega | (simp; omega)))) ?_
    refine .w (.bin rfl rfl (BinR.gtr_u8 (b := 8#8))) ?_
    refine .nil (.tn ?_)
    refine .cn rfl (fun hc2 => ?_) (fun hc2 => ?_)
    · try simp only [BitVec.reduceToNat] at hc2
      have hc2' : r.k8.toNat > 8 := hc2
      refine .seq (.region ?_)
      refine .w (.move rfl) ?_
      refine .c (f52_spec p bv (p1 : Int) (r.aft 1).e 31) body_52 ?_
      rw [← wrong_e]
      refine .nil (.tn (.seq (.region ?_)))
      refine .w (.assign rfl) ?_
      refine .nil (.tn (.ret (.then_ret ?_)))
      obtain ⟨s1, s2⟩ := sm_2 (lim := lim) h1 hc2'
      exact .dn [] [Res.cells p [bv, it (p1 : Int), it ((r.aft 1).wrong 31).e] 62] (res1 rfl (.tmp rfl)) ⟨p1, (by rw [s2]; exact hl1.wrong (by decide)), (by first | (rw [s1]; done) | (rw [s1]; rfl)), rfl, (by rw [s2])⟩
    · try simp only [BitVec.reduceToNat] at hc2
      have hc2' : ¬ r.k8.toNat > 8 := hc2
      refine .skip (.tn (.seq (.region ?_)))
      refine .w (.move rfl) ?_
      refine .w (.move rfl) ?_
      refine .w (.ix1 (j := 0) Tryd.underlying24 sz_5 rfl rfl) ?_
      refine .w (.ld one_5 rfl (hj := by first | exact gm (d := 0) (by first | omega | (simp; done) | (simp; omega)) | rfl | exact tab_get (by first | omega | (simp; omega)) | exact gm (d := 0) (by first | omega | (simp; omega)))) ?_
      refine .w (.conv_u8_i Tryd.underlying5 Tryd.underlying3 rfl) ?_
      refine .cs (f51_spec p bv B p1 (r.aft 1) hl1 hB r.k8.toNat (by omega)) body_51 ?_
      rintro v27 _ _ ⟨p2, hl2, rfl, rfl⟩
      refine .ap ?_
      refine .ap ?_
      rw [← (sm_r hc2').2]
      refine .w (.assign rfl) ?_
      refine .nil (.tn (.seq (.seq (.region ?_))))
      refine .w (.move rfl) ?_
      refine .w (.nilCheck rfl) ?_
      refine .w (.fieldAddr fa_62_2 rfl) ?_
      refine .w (.ld one_27 rfl (hj := by first | exact gm (d := 0) (by first | omega | (simp; done) | (simp; omega)) | rfl | exact tab_get (by first | omega | (simp; omega)) | exact gm (d := 0) (by first | omega | (simp; omega)))) ?_
      refine .w (.bin rfl rfl BinR.neq_i) ?_
      refine .nil (.tn ?_)
      refine .cn rfl (fun hc3 => ?_) (fun hc3 => ?_)
      · refine .seq (.region ?_)
        refine .w (.assign rfl) ?_
        refine .nil (.tn (.ret (.then_ret ?_)))
        obtain ⟨s1, s2⟩ := sm_3 (lim := lim) h1 hc2' hc3
        exact .dn [] [Res.cells p [bv, it (p2 : Int), it ((r.aft 1).aft r.k8.toNat).e] 62] (res1 rfl (.tmp rfl)) ⟨p2, (by rw [s2]; exact hl2), (by first | (rw [s1]; done) | (rw [s1]; rfl)), rfl, (by rw [s2])⟩
      · have h3 : ((r.aft 1).aft r.k8.toNat).e = 0 := hc3
        refine .skip (.tn (.seq (.region ?_)))
        refine .w (.assign rfl) ?_
        refine .nil (.tn (.seq (.seq (.region ?_))))
        refine .w (.assign rfl) ?_
        refine .nil (.tn (.block ?_))
        refine .lp (ι := Nat) (fun x => x ≤ r.smO.length) (fun T x => (8, it (x : Int)) :: (7, u64 (word0 (r.smO.take x))) :: T) (fun T _ => T) (fun T _ => T) (fun x => r.smO.length - x) 0 [0, 1, 4, 6, 47, 48, 49, 50, 51, 52, 53, 54, 55, 56, 58, 59, 60, 61, 63] ?_ (fun x hx => ?_)
        · exact Nat.zero_le _
        obtain ⟨k, hk⟩ : ∃ k, x = k := ⟨_, rfl⟩
        rw [hk] at hx ⊢
        refine .seq (.seq (.region ?_))
        refine .w (.move rfl) ?_
        refine .w (.move rfl) ?_
        refine .w (.len Tryd.underlying24 rfl) ?_
        refine .w (.bin rfl rfl BinR.lss_i) ?_
        refine .nil (.tn ?_)
        refine .cn rfl (fun hc4 => ?_) (fun hc4 => ?_)
        · refine .skip (.tn (.seq (.block (.region ?_))))
          refine .w (.move rfl) ?_
          refine .w (.bin rfl rfl (BinR.mul_u64 (b := 256#64))) ?_
          refine .w (.move rfl) ?_
          refine .w (.move rfl) ?_
          refine .w (.ix1 Tryd.underlying24 sz_5 rfl rfl) ?_
          refine .w (.ld one_5 rfl (hj := by first | exact gm (d := 0) (by first | omega | (simp; done) | (simp; omega)) | rfl | exact tab_get (by first | omega | (simp; omega)) | exact gm (d := 0) (by first | omega | (simp; omega)))) ?_
          refine .w (.conv_u8_u64 Tryd.underlying5 Tryd.underlying22 rfl) ?_
          refine .w (.as (v' := u64 (word0 (r.smO.take (k + 1)))) (.bin rfl rfl (BinR.add_u64)) (congrArg u64 (word0_take (by omega) hO8).symm)) ?_
          refine .w (.assign rfl) ?_
          refine .nil (.block_normal (.tn (.region ?_)))
          refine .w (.move rfl) ?_
          refine .w (.bin rfl rfl (BinR.add_i (by first | (constructor <;> omega) | (constructor <;> simp <;> omega)))) ?_
          refine .w (.assign rfl) ?_
          refine .nil ?_
          refine .hd (k + 1) ?_
          exact ⟨by omega, by omega⟩
        · have he : k = r.smO.length := by omega
          subst he
          rw [List.take_length]
          refine .exit (.then_exit (.then_exit (.block_exit (.tn (.seq (.seq (.region ?_)))))))
          refine .w (.move rfl) ?_
          refine .w (.len Tryd.underlying24 rfl) ?_
          refine .w (.bin rfl rfl BinR.gtr_i) ?_
          refine .join 6 55 (.bool (decide (0 < r.smO.length ∧ r.smO.getD 0 0 = 0))) ?_ ?_
          · refine .w (.move rfl) ?_
            refine .gn (g := 49) rfl (fun hg53 hg53' => ?_) (fun hg53 hg53' => ?_)
            · refine .gt (g := 50) rfl rfl hg53 ?_
              refine .w (.move rfl) ?_
              refine .gt (g := 50) rfl rfl hg53 ?_
              refine .w (.ix1 (j := 0) Tryd.underlying24 sz_5 rfl rfl) ?_
              refine .gt (g := 50) rfl rfl hg53 ?_
              refine .w (.ld one_5 rfl (hj := by first | exact gm (d := 0) (by first | omega | (simp; done) | (simp; omega)) | rfl | exact tab_get (by first | omega | (simp; omega)) | exact gm (d := 0) (by first | omega | (simp; omega)))) ?_
              refine .gt (g := 50) rfl rfl hg53 ?_
              refine .w (.bin rfl rfl (BinR.eql_u8 (b := 0#8))) ?_
              refine .w (.pick1 rfl hg53 rfl) ?_
              refine .nil ?_
              refine .head () (by first | (refine ⟨by first | rfl | exact congrArg (fun b => some (Value.bool b)) (decide_eq_false (fun h => by have := h.1; omega)).symm | exact congrArg (fun b => some (Value.bool b)) (decide_eq_decide.2 ⟨fun h => ⟨by omega, h⟩, fun h => h.2⟩), ?_⟩; repeat (first | exact trivial | refine ⟨rfl, ?_⟩))) (fun _ h => h) (Picks.perm (by repeat (first | exact Picks.nil _ | apply Picks.cons | exact Pull.here _ _ | apply Pull.there))) ?_
              trivial
            · refine .gf (g := 50) rfl rfl hg53 (by decide) ?_
              refine .gf (g := 50) rfl rfl hg53 (by decide) ?_
              refine .gf (g := 50) rfl rfl hg53 (by decide) ?_
              refine .gf (g := 50) rfl rfl hg53 (by decide) ?_
              refine .w (.pick0 rfl hg53 rfl) ?_
              refine .nil ?_
              refine .head () (by first | (refine ⟨by first | rfl | exact congrArg (fun b => some (Value.bool b)) (decide_eq_false (fun h => by have := h.1; omega)).symm | exact congrArg (fun b => some (Value.bool b)) (decide_eq_decide.2 ⟨fun h => ⟨by omega, h⟩, fun h => h.2⟩), ?_⟩; repeat (first | exact trivial | refine ⟨rfl, ?_⟩))) (fun _ h => h) (Picks.perm (by repeat (first | exact Picks.nil _ | apply Picks.cons | exact Pull.here _ _ | apply Pull.there))) ?_
              trivial
          · refine .nil (.tn ?_)
            refine .cn rfl (fun hc5 => ?_) (fun hc5 => ?_)
            · refine .seq (.region ?_)
              refine .w (.move rfl) ?_
              refine .c (f52_spec p bv (p2 : Int) ((r.aft 1).aft r.k8.toNat).e 31) body_52 ?_
              rw [← wrong_e]
              refine .nil (.tn (.seq (.region ?_)))
              refine .w (.assign rfl) ?_
              refine .nil (.tn (.ret (.then_ret ?_)))
              obtain ⟨s1, s2⟩ := sm_4 (lim := lim) h1 hc2' h3 hc5
              exact .dn [] [Res.cells p [bv, it (p2 : Int), it (((r.aft 1).aft r.k8.toNat).wrong 31).e] 62] (res1 rfl (.tmp rfl)) ⟨p2, (by rw [s2]; exact hl2.wrong (by decide)), (by first | (rw [s1]; done) | (rw [s1]; rfl)), rfl, (by rw [s2])⟩
            · refine .skip (.tn (.seq (.seq (.region ?_))))
              refine .w (.move rfl) ?_
              refine .w (.move rfl) ?_
              refine .w (.bin rfl rfl (BinR.gtr_u64)) ?_
              refine .nil (.tn ?_)
              refine .cn rfl (fun hc6 => ?_) (fun hc6 => ?_)
              · refine .seq (.region ?_)
                refine .w (.move rfl) ?_
                refine .c (f52_spec p bv (p2 : Int) ((r.aft 1).aft r.k8.toNat).e 2) body_52 ?_
                rw [← wrong_e]
                refine .nil (.tn (.seq (.region ?_)))
                refine .w (.assign rfl) ?_
                refine .nil (.tn (.ret (.then_ret ?_)))
                obtain ⟨s1, s2⟩ := sm_5 (lim := lim) h1 hc2' h3 hc5 hc6
                exact .dn [] [Res.cells p [bv, it (p2 : Int), it (((r.aft 1).aft r.k8.toNat).wrong 2).e] 62] (res1 rfl (.tmp rfl)) ⟨p2, (by rw [s2]; exact hl2.wrong (by decide)), (by first | (rw [s1]; done) | (rw [s1]; rfl)), rfl, (by rw [s2])⟩
              · refine .skip (.tn (.seq (.region ?_)))
                refine .w (.move rfl) ?_
                refine .w (.assign rfl) ?_
                refine .nil (.tn (.ret ?_))
                obtain ⟨s1, s2⟩ := sm_6 (lim := lim) h1 hc2' h3 hc5 hc6
                exact .dn [] [Res.cells p [bv, it (p2 : Int), it ((r.aft 1).aft r.k8.toNat).e] 62] (res1 rfl (.tmp rfl)) ⟨p2, (by rw [s2]; exact hl2), (by first | (rw [s1]; done) | (rw [s1]; rfl)), rfl, (by rw [s2])⟩

theorem f33_spec (p : Nat) (bv : Value) (B : B8) (po : Nat) (r : Rdr) (hl : RdL B po r) (hB : B.length ≤ 1000000) :
    Spec Tryd.prog 33 #[(ptr p 0), (it 1000)] [Res.rd bv B.length 1 (B.map u8)] [Res.cells p [bv, it (po : Int), it r.e] 62]
      (fun v Γ' H' => ∃ po' : Nat, RdL B po' (r.byA 1000) ∧ Γ' = [Res.rd v (r.byO 1000).length 1 ((r.byO 1000).map u8)] ∧ H' = [Res.cells p [bv, it (po' : Int), it (r.byA 1000).e] 62]) := by
  refine Spec.of_args Tryd.func33 rfl Tryd.ntmps33 (by simp) fun w => ?_
  have hA : r.byA 1000 = (r.smA 1000#64).aft (r.sm 1000#64).toNat := rfl
  have hO : r.byO 1000 = (r.smA 1000#64).out (r.sm 1000#64).toNat := rfl
  have hn1 : (r.sm 1000#64).toNat ≤ 1000 := Rdr.sm_le r 1000#64
  rw [hA, hO]
  refine .seq (.region ?_)
  refine .w (.assign rfl) ?_
  refine .nil (.tn (.seq (.seq (.region ?_))))
  refine .w (.move rfl) ?_
  refine .w (.as (v' := .bool false) (.bin rfl rfl BinR.lss_i) rfl) ?_
  refine .nil (.tn ?_)
  refine .cf rfl ?_
  refine .skip (.tn (.seq (.region ?_)))
  refine .w (.move rfl) ?_
  refine .w (.move rfl) ?_
  refine .w (.as (v' := u64 1000#64) (.conv_i_u64 Tryd.underlying3 Tryd.underlying22 rfl) rfl) ?_
  refine .cb (f32_spec p bv B po r hl hB 1000#64) body_32 ?_ (h0 := by rintro _ _ _ ⟨_, _, _, h, _⟩; exact h)
  rintro _ _ ⟨p1, hl1, rfl, _, rfl⟩
  refine .ap ?_
  refine .w (.assign rfl) ?_
  refine .nil (.tn (.seq (.seq (.region ?_))))
  refine .w (.move rfl) ?_
  refine .w (.nilCheck rfl) ?_
  refine .w (.fieldAddr fa_62_2 rfl) ?_
  refine .w (.ld one_27 rfl) ?_
  refine .w (.bin rfl rfl BinR.neq_i) ?_
  refine .nil (.tn ?_)
  refine .cn rfl (fun hc2 => ?_) (fun hc2 => ?_)
  · refine .seq (.region ?_)
    refine JO.nilRd 1 ?_
    refine .w (.assign rfl) ?_
    refine .nil (.tn (.ret (.then_ret ?_)))
    exact .dn [Res.rd (.slice none 0 0) 0 1 []] [Res.cells p [bv, it (p1 : Int), it (r.smA 1000#64).e] 62] (res1 rfl (.tmp rfl)) ⟨p1, (by rw [(aft_stuck hc2 _).1]; exact hl1), (by rw [(aft_stuck hc2 _).2]; rfl), (by rw [(aft_stuck hc2 _).1])⟩
  · have h1 : (r.smA 1000#64).e = 0 := hc2
    refine .skip (.tn (.seq (.seq (.region ?_))))
    refine .w (.move rfl) ?_
    refine .w (.move rfl) ?_
    refine .w (.nilCheck rfl) ?_
    refine .w (.fieldAddr fa_62_0 rfl) ?_
    refine .w (.ld one_24 rfl) ?_
    refine .w (.len Tryd.underlying24 rfl) ?_
    refine .w (.as (v' := u64 (BitVec.ofNat 64 B.length)) (.conv_i_u64 Tryd.underlying3 Tryd.underlying22 rfl) (congrArg u64 (BitVec.ofInt_natCast _ _))) ?_
    refine .w (.bin rfl rfl (BinR.gtr_u64)) ?_
    refine .nil (.tn ?_)
    refine .cn rfl (fun hc3 => ?_) (fun hc3 => ?_)
    · have hbig : B.length < (r.sm 1000#64).toNat := by have h9 := hc3; rw [BitVec.toNat_ofNat, Nat.mod_eq_of_lt (by omega)] at h9; exact h9
      obtain ⟨q1, q2⟩ := hl1.short (n := (r.sm 1000#64).toNat) h1 (by omega)
      refine .seq (.region ?_)
      refine .w (.move rfl) ?_
      refine .c (f52_spec p bv (p1 : Int) (r.smA 1000#64).e 3) body_52 ?_
      refine .nil (.tn (.seq (.region ?_)))
      refine JO.nilRd 1 ?_
      refine .w (.assign rfl) ?_
      refine .nil (.tn (.ret (.then_ret ?_)))
      exact .dn [Res.rd (.slice none 0 0) 0 1 []] [Res.cells p [bv, it (p1 : Int), it (if (r.smA 1000#64).e = 0 then 3 else (r.smA 1000#64).e)] 62] (res1 rfl (.tmp rfl)) ⟨p1, .bad hl1.le (by rw [q1]; decide), (by rw [q2]; rfl), (by rw [if_pos h1, q1])⟩
    · refine .skip (.tn (.seq (.region ?_)))
      refine .w (.move rfl) ?_
      refine .w (.move rfl) ?_
      refine .w (.conv_u64_i Tryd.underlying22 Tryd.underlying3 rfl (by omega)) ?_
      refine .cs (f51_spec p bv B p1 (r.smA 1000#64) hl1 hB (r.sm 1000#64).toNat (by omega)) body_51 ?_
      rintro v32 _ _ ⟨p2, hl2, rfl, rfl⟩
      refine .ap ?_
      refine .ap ?_
      refine .w (.assign rfl) ?_
      refine .nil (.tn (.ret ?_))
      exact .dn [Res.rd v32 ((r.smA 1000#64).out (r.sm 1000#64).toNat).length 1 (((r.smA 1000#64).out (r.sm 1000#64).toNat).map u8)] [Res.cells p [bv, it (p2 : Int), it ((r.smA 1000#64).aft (r.sm 1000#64).toNat).e] 62] (res1 rfl (.tmp rfl)) ⟨p2, hl2, rfl, rfl⟩

theorem f34_spec (p : Nat) (bv : Value) (B : B8) (po : Nat) (r : Rdr) (hl : RdL B po r) (hB : B.length ≤ 1000000) :
    Spec Tryd.prog 34 #[(ptr p 0)] [Res.rd bv B.length 1 (B.map u8)] [Res.cells p [bv, it (po : Int), it r.e] 62]
      (fun o Γ' H' => o = it r.fin ∧ Γ' = [] ∧ H' = [Res.cells p [bv, it (po : Int), it r.e] 62]) := by
  refine Spec.of_args Tryd.func34 rfl Tryd.ntmps34 (by simp) fun w => ?_
  refine .seq (.region ?_)
  refine .w (.assign rfl) ?_
  refine .nil (.tn (.seq (.seq ?_)))
  refine JC.draw (.one 0 (.one 1 (.one 2 (.one 3 (.one 4 (.one 5 (.one 6 (.one 7 (.one 8 (.one 9 (.one 10 (.one 11 (.one 12 (.one 13 (.one 14 (.one 15 (.one 16 .nil))))))))))))))))) (fun i => ([] : List Nat).contains i) (fun i => ([] : List Nat).contains i) (fun i => ([0, 1, 2, 4, 5, 6, 7, 8, 10, 11, 12, 14, 15, 16] : List Nat).contains i) mixed (by kernel_rfl) (by decide) (by kernel_rfl) ?_
  refine .uw rfl (.move rfl) ?_
  refine .uw rfl (.nilCheck rfl) ?_
  refine .uw rfl (.fieldAddr fa_62_2 rfl) ?_
  refine .w rfl (.ld one_27 rfl) ?_
  refine .uw rfl (.bin rfl rfl BinR.eql_i) ?_
  refine .uw rfl (.move rfl) ?_
  refine JR.gsplit (g := 7) rfl (fun hg8 => ?_) (fun hg8 => ?_)
  · have hg8' := hg8
    try simp only [decide_eq_true_eq, decide_eq_false_iff_not, Bool.not_eq_true', Bool.not_eq_false', ne_eq, Decidable.not_not, Bool.not_eq_true, Bool.and_eq_true, Bool.or_eq_true, BitVec.reduceToNat] at hg8'
    refine JR.ugt (g := 8) rfl rfl rfl rfl rfl hg8 (.move rfl) (by decide) ?_
    refine JR.ugt (g := 8) rfl rfl rfl rfl rfl hg8 (.nilCheck rfl) (by decide) ?_
    refine JR.ugt (g := 8) rfl rfl rfl rfl rfl hg8 (.fieldAddr fa_62_1 rfl) (by decide) ?_
    refine JR.vgt (g := 8) rfl rfl rfl rfl rfl hg8 (.ld one_3 rfl) (by decide) ?_
    refine JR.ugt (g := 8) rfl rfl rfl rfl rfl hg8 (.move rfl) (by decide) ?_
    refine JR.ugt (g := 8) rfl rfl rfl rfl rfl hg8 (.nilCheck rfl) (by decide) ?_
    refine JR.ugt (g := 8) rfl rfl rfl rfl rfl hg8 (.fieldAddr fa_62_0 rfl) (by decide) ?_
    refine JR.vgt (g := 8) rfl rfl rfl rfl rfl hg8 (.ld one_24 rfl) (by decide) ?_
    refine JR.ugt (g := 8) rfl rfl rfl rfl rfl hg8 (.len Tryd.underlying24 rfl) (by decide) ?_
    refine JR.ugt (g := 8) rfl rfl rfl rfl rfl hg8 (.bin rfl rfl BinR.lss_i) (by decide) ?_
    refine JR.u rfl rfl rfl (Yv.pick1 rfl hg8 rfl) (by decide) ?_
    refine .nil (.tn ?_)
    refine .cn rfl (fun hc1 => ?_) (fun hc1 => ?_)
    · refine .seq (.region ?_)
      refine .w (.assign rfl) ?_
      refine .nil (.tn (.ret (.then_ret ?_)))
      exact .dn [] [Res.cells p [bv, it (po : Int), it r.e] 62] (res1 rfl (.tmp rfl)) ⟨by rw [fin_of hl, if_pos ⟨hg8', by omega⟩], rfl, rfl⟩
    · refine .skip (.tn (.seq (.region ?_)))
      refine .w (.move rfl) ?_
      refine .w (.nilCheck rfl) ?_
      refine .w (.fieldAddr fa_62_2 rfl) ?_
      refine .w (.ld one_27 rfl) ?_
      refine .w (.assign rfl) ?_
      refine .nil (.tn (.ret ?_))
      exact .dn [] [Res.cells p [bv, it (po : Int), it r.e] 62] (res1 rfl (.tmp rfl)) ⟨by rw [fin_of hl, if_neg (fun h => by have := h.2; omega)], rfl, rfl⟩
  · have hg8' := hg8
    try simp only [decide_eq_true_eq, decide_eq_false_iff_not, Bool.not_eq_true', Bool.not_eq_false', ne_eq, Decidable.not_not, Bool.not_eq_true, Bool.and_eq_true, Bool.or_eq_true, BitVec.reduceToNat] at hg8'
    refine JR.gf (g := 8) rfl rfl rfl rfl hg8 (by decide) ?_
    refine JR.gf (g := 8) rfl rfl rfl rfl hg8 (by decide) ?_
    refine JR.gf (g := 8) rfl rfl rfl rfl hg8 (by decide) ?_
    refine JR.gf (g := 8) rfl rfl rfl rfl hg8 (by decide) ?_
    refine JR.gf (g := 8) rfl rfl rfl rfl hg8 (by decide) ?_
    refine JR.gf (g := 8) rfl rfl rfl rfl hg8 (by decide) ?_
    refine JR.gf (g := 8) rfl rfl rfl rfl hg8 (by decide) ?_
    refine JR.gf (g := 8) rfl rfl rfl rfl hg8 (by decide) ?_
    refine JR.gf (g := 8) rfl rfl rfl rfl hg8 (by decide) ?_
    refine JR.gf (g := 8) rfl rfl rfl rfl hg8 (by decide) ?_
    refine JR.u rfl rfl rfl (Yv.pick0 rfl hg8 rfl) (by decide) ?_
    refine .nil (.tn ?_)
    refine .k0 rfl rfl ?_
    refine .skip (.tn (.seq (.region ?_)))
    refine .w (.move rfl) ?_
    refine .w (.nilCheck rfl) ?_
    refine .w (.fieldAddr fa_62_2 rfl) ?_
    refine .w (.ld one_27 rfl) ?_
    refine .w (.assign rfl) ?_
    refine .nil (.tn (.ret ?_))
    exact .dn [] [Res.cells p [bv, it (po : Int), it r.e] 62] (res1 rfl (.tmp rfl)) ⟨by rw [fin_of hl, if_neg (fun h => hg8' h.1)], rfl, rfl⟩

theorem f24_spec (u : Value) (L : Pcs) :
    Spec Tryd.prog 24 #[u] [Res.rd u L.length 1 (L.map Prod.fst), Res.all (pcRes L)] []
      (fun r Γ' H' => r = .bool (twB (bytesP L)) ∧ Γ' = [] ∧ H' = []) := by
  refine Spec.of_args Tryd.func24 rfl Tryd.ntmps24 (by simp) fun w => ?_
  refine JC.know (φ := L.length ≤ 9223372036854775807) (fun w hs => by obtain ⟨_, _, _, _, _, _, h⟩ := hs.rdForm (.head _); unfold maxLen at h; omega) fun hla => ?_
  refine .seq (.region ?_)
  refine .w (.assign rfl) ?_
  refine .nil (.tn (.seq (.seq (.region ?_))))
  refine .w (.assign rfl) ?_
  refine .nil (.tn (.block ?_))
  refine .lp (ι := Nat) (fun x => x ≤ L.length ∧ ((bytesP L).take x).Nodup) (fun T x => (3, it (x : Int)) :: T) (fun T _ => T) (fun T _ => T) (fun x => L.length - x) 0 [0] ?_ (fun x hx => ?_)
  · exact ⟨Nat.zero_le _, by simp⟩
  obtain ⟨hx, hn⟩ := hx
  refine .seq (.seq (.region ?_))
  refine .w (.move rfl) ?_
  refine .w (.move rfl) ?_
  refine .w (.len Tryd.underlying23 rfl) ?_
  refine .w (.bin rfl rfl BinR.lss_i) ?_
  refine .nil (.tn ?_)
  refine .cn rfl (fun hc1 => ?_) (fun hc1 => ?_)
  · refine .skip (.tn (.seq (.block (.seq ?_))))
    refine JC.draw (.one 0 (.one 1 (.one 2 (.one 3 (.one 4 (.one 5 (.one 6 (.one 7 (.one 8 .nil))))))))) (fun i => ([7] : List Nat).contains i) (fun i => ([7] : List Nat).contains i) (fun i => ([0, 1, 2, 3, 4, 5, 8] : List Nat).contains i) mixed (by kernel_rfl) (by decide) (by kernel_rfl) ?_
    refine JR.open (r := Res.rd (pcAt L x).1 (pcAt L x).2.length 1 ((pcAt L x).2.map u8)) (by repeat (first | exact List.Mem.head _ | refine List.Mem.tail _ ?_)) (pc_res (by omega)) ?_
    refine JR.cutRd (v := u) 0 x (by repeat (first | exact List.Mem.head _ | refine List.Mem.tail _ ?_)) (by omega) (by omega) ?_
    rw [rd_preP hx]
    refine JR.allOf L L (L.take x) (by repeat (first | exact List.Mem.head _ | refine List.Mem.tail _ ?_)) (by repeat (first | exact List.Mem.head _ | refine List.Mem.tail _ ?_)) (fun z hz => .inl (List.mem_of_mem_take hz)) ?_
    refine .uw rfl (.move rfl) ?_
    refine .uw rfl (.move rfl) ?_
    refine .uw rfl (.cutRd (l := 0) (h := x) Tryd.underlying23 sz_24 rfl (by repeat (first | exact List.Mem.head _ | refine List.Mem.tail _ ?_)) rfl ⟨_, rfl⟩ (by first | (simp; done) | omega | (simp; omega)) (by first | (simp; done) | omega | (simp; omega))) ?_
    refine .uw rfl (.move rfl) ?_
    refine .uw rfl (.move rfl) ?_
    refine .uw rfl (.ix1 Tryd.underlying23 sz_24 rfl rfl) ?_
    refine .w rfl (.ld one_24 rfl (hj := by first | exact pc_get (by omega) | rfl | exact tab_get (by first | omega | (simp; omega)) | exact gm (d := 0) (by first | omega | (simp; omega)))) ?_
    refine .mw rfl (.c (f44_spec _ (pcAt L x).1 (L.take x) (pcAt L x).2) body_44) ?_
    rintro _ _ _ ⟨rfl, rfl, rfl⟩
    refine kp ?_
    refine .uw rfl (.assign rfl) ?_
    refine .nil (.tn (.seq (.region ?_)))
    refine .w (.move rfl) ?_
    refine .nil (.tn ?_)
    refine .cn rfl (fun hc2 => ?_) (fun hc2 => ?_)
    · skip
      refine .seq (.region ?_)
      refine .w (.assign rfl) ?_
      refine .nil (.tn (.ret (.block_ret (.then_ret (.then_ret (.block_ret (.then_ret ?_)))))))
      exact .dn [] [] (res1 rfl (.tmp rfl)) ⟨congrArg Value.bool (tw_hit (L := L) (x := x) (by omega) (by rw [has_mem, decide_eq_true_eq]; exact hc2)).symm, rfl, rfl⟩
    · refine .skip (.block_normal (.tn (.region ?_)))
      refine .w (.move rfl) ?_
      refine .w (.bin rfl rfl (BinR.add_i (by first | (constructor <;> omega) | (constructor <;> simp <;> omega)))) ?_
      refine .w (.assign rfl) ?_
      refine .nil ?_
      have hn2 := tw_go (by omega) hn (by rw [has_mem, decide_eq_false_iff_not]; exact hc2)
      refine .hd (x + 1) ?_
      exact ⟨⟨by omega, hn2⟩, by omega⟩
  · obtain rfl : x = L.length := by omega
    rw [show (bytesP L).take L.length = bytesP L from List.take_of_length_le (by rw [bytesP_len]; omega)] at hn
    refine .exit (.then_exit (.then_exit (.block_exit (.tn (.seq (.region ?_))))))
    refine .w (.assign rfl) ?_
    refine .nil (.tn (.ret ?_))
    exact .dn [] [] (res1 rfl (.tmp rfl)) ⟨congrArg Value.bool (by rw [twB, decide_eq_true hn]; rfl), rfl, rfl⟩

theorem f7_spec (h : BitVec 64) (u : Value) (L : Pcs) :
    Spec Tryd.prog 7 #[(u64 h), u] [Res.rd u L.length 1 (L.map Prod.fst), Res.all (pcRes L)] []
      (fun r Γ' H' => ∃ v, r = .tuple #[v, it (packE (bytesP L))] ∧ Γ' = [] ∧ H' = [Res.row v ((packO h (bytesP L))).length 5 1 (((packO h (bytesP L))).map u8)]) := by
  refine Spec.of_args Tryd.func7 rfl Tryd.ntmps7 (by simp) fun w => ?_
  refine JC.know (φ := L.length ≤ 9223372036854775807) (fun w hs => by obtain ⟨_, _, _, _, _, _, h⟩ := hs.rdForm (.head _); unfold maxLen at h; omega) fun hla => ?_
  have hbl := bytesP_len L
  have hs1 := smallB_le h
  have hs2 := smallB_le (BitVec.ofNat 64 L.length)
  refine .seq (.region ?_)
  refine .w (.assign rfl) ?_
  refine .w (.assign rfl) ?_
  refine .nil (.tn (.seq (.seq (.region ?_))))
  refine .w (.move rfl) ?_
  refine .w (.len Tryd.underlying23 rfl) ?_
  refine .w (.bin rfl rfl BinR.gtr_i) ?_
  refine .nil (.tn ?_)
  refine .cn rfl (fun hc1 => ?_) (fun hc1 => ?_)
  · refine .seq (.region ?_)
    refine JO.nilRow 5 1 ?_
    refine .w (.assign rfl) ?_
    refine .w (.assign rfl) ?_
    refine .nil (.tn (.ret (.then_ret ?_)))
    have he : (packE (bytesP L)) = 2 := by rw [packE, if_pos (.inl (by omega))]
    exact .dn [] [Res.row (.slice none 0 0) 0 5 1 []] (res2 rfl (.tmp rfl) (.tmp rfl)) ⟨_, (by rw [he]), rfl, (by rw [packO, if_neg (by rw [he]; decide)]; rfl)⟩
  · refine .skip (.tn (.seq (.seq (.region ?_))))
    refine .w (.assign rfl) ?_
    refine .nil (.tn (.block ?_))
    refine .lp (ι := Nat) (fun x => x ≤ L.length ∧ ∀ b ∈ (bytesP L).take x, 1 ≤ b.length ∧ b.length ≤ 1000) (fun T x => (6, it (x : Int)) :: T) (fun T _ => T) (fun T _ => T) (fun x => L.length - x) 0 [0, 1, 7, 8, 9, 33, 34, 35, 36, 37, 38, 39, 40, 41, 42, 43, 44, 45, 46, 47, 48, 49, 50, 51, 52, 53, 54, 55, 56] ?_ (fun x hx => ?_)
    · exact ⟨Nat.zero_le _, by simp⟩
    obtain ⟨hx, hfit⟩ := hx
    refine .seq (.seq (.region ?_))
    refine .w (.move rfl) ?_
    refine .w (.move rfl) ?_
    refine .w (.len Tryd.underlying23 rfl) ?_
    refine .w (.bin rfl rfl BinR.lss_i) ?_
    refine .nil (.tn ?_)
    refine .cn rfl (fun hc2 => ?_) (fun hc2 => ?_)
    · refine .skip (.tn (.seq (.block (.seq (.region ?_)))))
      refine JO.open (r := Res.rd (pcAt L x).1 (pcAt L x).2.length 1 ((pcAt L x).2.map u8)) (by repeat (first | exact List.Mem.head _ | refine List.Mem.tail _ ?_)) (pc_res (by omega)) ?_
      refine .w (.move rfl) ?_
      refine .w (.move rfl) ?_
      refine .w (.ix1 Tryd.underlying23 sz_24 rfl rfl) ?_
      refine .w (.ld one_24 rfl (hj := by first | exact pc_get (by omega) | rfl | exact tab_get (by first | omega | (simp; omega)) | exact gm (d := 0) (by first | omega | (simp; omega)))) ?_
      refine .w (.len Tryd.underlying24 rfl) ?_
      refine .w (.bin rfl rfl BinR.lss_i) ?_
      refine .join 8 32 (.bool (decide ((pcAt L x).2.length < 1 ∨ (pcAt L x).2.length > 1000))) ?_ ?_
      · refine .w (.move rfl) ?_
        refine .gn (g := 24) rfl (fun hg20 hg20' => ?_) (fun hg20 hg20' => ?_)
        · refine .gf (g := 25) rfl rfl hg20 (by decide) ?_
          refine .gf (g := 25) rfl rfl hg20 (by decide) ?_
          refine .gf (g := 25) rfl rfl hg20 (by decide) ?_
          refine .gf (g := 25) rfl rfl hg20 (by decide) ?_
          refine .gf (g := 25) rfl rfl hg20 (by decide) ?_
          refine .gf (g := 25) rfl rfl hg20 (by decide) ?_
          refine .w (.pick1 rfl hg20 rfl) ?_
          refine .nil ?_
          refine .head () (by first | (refine ⟨by first | rfl | exact congrArg (fun b => some (Value.bool b)) (by first | exact (decide_eq_true (by omega)).symm | exact (decide_eq_false (by omega)).symm | exact decide_eq_decide.2 (by omega)) | (simp [*]; done) | (show some _ = some _; simp [*]; done), ?_⟩; repeat (first | exact trivial | refine ⟨rfl, ?_⟩))) (fun _ h => h) (Picks.perm (by repeat (first | exact Picks.nil _ | apply Picks.cons | exact Pull.here _ _ | apply Pull.there))) ?_
          trivial
        · refine .gt (g := 25) rfl rfl hg20 ?_
          refine .w (.move rfl) ?_
          refine .gt (g := 25) rfl rfl hg20 ?_
          refine .w (.move rfl) ?_
          refine .gt (g := 25) rfl rfl hg20 ?_
          refine .w (.ix1 Tryd.underlying23 sz_24 rfl rfl) ?_
          refine .gt (g := 25) rfl rfl hg20 ?_
          refine .w (.ld one_24 rfl (hj := by first | exact pc_get (by omega) | rfl | exact tab_get (by first | omega | (simp; omega)) | exact gm (d := 0) (by first | omega | (simp; omega)))) ?_
          refine .gt (g := 25) rfl rfl hg20 ?_
          refine .w (.len Tryd.underlying24 rfl) ?_
          refine .gt (g := 25) rfl rfl hg20 ?_
          refine .w (.bin rfl rfl BinR.gtr_i) ?_
          refine .w (.pick0 rfl hg20 rfl) ?_
          refine .nil ?_
          refine .head () (by first | (refine ⟨by first | rfl | exact congrArg (fun b => some (Value.bool b)) (by first | exact (decide_eq_true (by omega)).symm | exact (decide_eq_false (by omega)).symm | exact decide_eq_decide.2 (by omega)) | (simp [*]; done) | (show some _ = some _; simp [*]; done), ?_⟩; repeat (first | exact trivial | refine ⟨rfl, ?_⟩))) (fun _ h => h) (Picks.perm (by repeat (first | exact Picks.nil _ | apply Picks.cons | exact Pull.here _ _ | apply Pull.there))) ?_
          trivial
      · refine .nil (.tn ?_)
        refine .cn rfl (fun hc3 => ?_) (fun hc3 => ?_)
        · refine .seq (.region ?_)
          refine JO.nilRow 5 1 ?_
          refine .w (.assign rfl) ?_
          refine .w (.assign rfl) ?_
          refine .nil (.tn (.ret (.block_ret (.then_ret (.then_ret (.block_ret (.then_ret ?_)))))))
          have he : (packE (bytesP L)) = 2 := by rw [packE, if_pos (.inr (List.any_eq_true.2 ⟨(pcAt L x).2, List.mem_map.2 ⟨_, pc_mem (by omega), rfl⟩, by rw [unfit, show fitB (pcAt L x).2 = false from decide_eq_false (by omega)]; rfl⟩))]
          exact .dn [] [Res.row (.slice none 0 0) 0 5 1 []] (res2 rfl (.tmp rfl) (.tmp rfl)) ⟨_, (by rw [he]), rfl, (by rw [packO, if_neg (by rw [he]; decide)]; rfl)⟩
        · refine .skip (.block_normal (.tn (.region ?_)))
          refine .w (.move rfl) ?_
          refine .w (.bin rfl rfl (BinR.add_i (by first | (constructor <;> omega) | (constructor <;> simp <;> omega)))) ?_
          refine .w (.assign rfl) ?_
          refine .nil ?_
          have hn2 : ∀ b ∈ (bytesP L).take (x + 1), 1 ≤ b.length ∧ b.length ≤ 1000 := by
            rw [bytesP_get (by omega)]
            intro b hb
            rcases List.mem_append.1 hb with h | h
            · exact hfit b h
            · rw [List.mem_singleton] at h; subst h; omega
          refine .hd (x + 1) ?_
          exact ⟨⟨by omega, hn2⟩, by omega⟩
    · have hex : x = L.length := by omega
      subst hex
      rw [show (bytesP L).take L.length = bytesP L from List.take_of_length_le (by omega)] at hfit
      have hnf : ¬ hasP unfit (bytesP L) = true := fun h1 => by obtain ⟨b, hb, h2⟩ := List.any_eq_true.1 h1; rw [unfit, show fitB b = true from decide_eq_true (hfit b hb)] at h2; cases h2
      refine .exit (.then_exit (.then_exit (.block_exit (.tn (.seq (.region ?_))))))
      refine .w (.move rfl) ?_
      refine .c (f24_spec u L) body_24 ?_
      refine .w (.assign rfl) ?_
      refine .nil (.tn (.seq (.seq (.region ?_))))
      refine .w (.move rfl) ?_
      refine .nil (.tn ?_)
      refine .cn rfl (fun hc4 => ?_) (fun hc4 => ?_)
      · refine .seq (.region ?_)
        refine JO.nilRow 5 1 ?_
        refine .w (.assign rfl) ?_
        refine .w (.assign rfl) ?_
        refine .nil (.tn (.ret (.then_ret ?_)))
        have he : (packE (bytesP L)) = 13 := by rw [packE, if_neg (by rw [hbl]; exact fun h1 => h1.elim (fun h2 => by omega) hnf), if_pos (by simpa using hc4)]
        exact .dn [] [Res.row (.slice none 0 0) 0 5 1 []] (res2 rfl (.tmp rfl) (.tmp rfl)) ⟨_, (by rw [he]), rfl, (by rw [packO, if_neg (by rw [he]; decide)]; rfl)⟩
      · have he0 : (packE (bytesP L)) = 0 := by rw [packE, if_neg (by rw [hbl]; exact fun h1 => h1.elim (fun h2 => by omega) hnf), if_neg (by simpa using hc4)]
        refine .skip (.tn (.seq (.region ?_)))
        refine .w (.move rfl) ?_
        refine .cb (f25_spec h) body_25 ?_
        rintro v37 _ ⟨_, _, rfl⟩
        refine .ap ?_
        refine .w (.move rfl) ?_
        refine .w (.len Tryd.underlying23 rfl) ?_
        refine .w (.as (v' := u64 (BitVec.ofNat 64 L.length)) (.conv_i_u64 Tryd.underlying3 Tryd.underlying22 rfl) (congrArg u64 (BitVec.ofInt_natCast _ _))) ?_
        refine .cb (f25_spec (BitVec.ofNat 64 L.length)) body_25 ?_
        rintro v41 _ ⟨_, _, rfl⟩
        refine .ap ?_
        refine .ap Tryd.underlying24 info_5 (fun v42 => ?_) (hone := one_u8s)
        rw [map_cat, len_cat]
        refine .w (.assign rfl) ?_
        refine .nil (.tn (.seq (.seq (.region ?_))))
        refine .w (.assign rfl) ?_
        refine .nil (.tn (.block ?_))
        refine .lp (ι := Nat × Value) (fun x => x.1 ≤ L.length) (fun T x => (9, it (x.1 : Int)) :: (8, x.2) :: T) (fun T _ => T) (fun T x => Res.row x.2 ((smallB h ++ smallB (BitVec.ofNat 64 L.length) ++ ((bytesP L).take x.1).flatMap bytesB)).length 5 1 (((smallB h ++ smallB (BitVec.ofNat 64 L.length) ++ ((bytesP L).take x.1).flatMap bytesB)).map u8) :: T) (fun x => L.length - x.1) (0, v42) [1, 4, 5, 56] ?_ (fun x hx => ?_) (hH := (by dsimp only; rw [List.take_zero, List.flatMap_nil, List.append_nil]; repeat (first | exact Picks.nil _ | apply Picks.cons | exact Pull.here _ _ | apply Pull.there)))
        · exact Nat.zero_le _
        obtain ⟨k, w⟩ := x
        have hk : k ≤ L.length := hx
        dsimp only
        refine .seq (.seq (.region ?_))
        refine .w (.move rfl) ?_
        refine .w (.move rfl) ?_
        refine .w (.len Tryd.underlying23 rfl) ?_
        refine .w (.bin rfl rfl BinR.lss_i) ?_
        refine .nil (.tn ?_)
        refine .cn rfl (fun hc5 => ?_) (fun hc5 => ?_)
        · refine .skip (.tn (.seq (.block (.region ?_))))
          refine JO.open (r := Res.rd (pcAt L k).1 (pcAt L k).2.length 1 ((pcAt L k).2.map u8)) (by repeat (first | exact List.Mem.head _ | refine List.Mem.tail _ ?_)) (pc_res (by omega)) ?_
          refine .w (.move rfl) ?_
          refine .w (.move rfl) ?_
          refine .w (.move rfl) ?_
          refine .w (.ix1 Tryd.underlying23 sz_24 rfl rfl) ?_
          refine .w (.ld one_24 rfl (hj := by first | exact pc_get (by omega) | rfl | exact tab_get (by first | omega | (simp; omega)) | exact gm (d := 0) (by first | omega | (simp; omega)))) ?_
          refine .cb (f26_spec (pcAt L k).1 (pcAt L k).2 (by have := (hfit _ (List.mem_map.2 ⟨_, pc_mem (l := L) (k := k) (by omega), rfl⟩)).2; omega)) body_26 ?_
          rintro v54 _ ⟨_, _, rfl⟩
          refine .ap ?_
          have hbb := bytesB_len (pcAt L k).2
          have hpp := (hfit _ (List.mem_map.2 ⟨_, pc_mem (l := L) (k := k) (by omega), rfl⟩)).2
          have hfl := flatB_le (l := (bytesP L).take k) (fun b hb => (hfit b (List.mem_of_mem_take hb)).2)
          rw [List.length_take] at hfl
          have hpl : (smallB h ++ smallB (BitVec.ofNat 64 L.length) ++ ((bytesP L).take k).flatMap bytesB).length = (smallB h).length + (smallB (BitVec.ofNat 64 L.length)).length + (((bytesP L).take k).flatMap bytesB).length := by rw [List.length_append, List.length_append]
          refine .ap Tryd.underlying24 info_5 (fun v55 => ?_) (hone := one_u8s)
          rw [map_cat, len_cat, show (smallB h ++ smallB (BitVec.ofNat 64 L.length) ++ ((bytesP L).take k).flatMap bytesB) ++ bytesB (pcAt L k).2 = (smallB h ++ smallB (BitVec.ofNat 64 L.length) ++ ((bytesP L).take (k + 1)).flatMap bytesB) from by rw [bytesP_get (by omega), List.flatMap_append]; simp]
          refine .w (.assign rfl) ?_
          refine .nil (.block_normal (.tn (.region ?_)))
          refine .w (.move rfl) ?_
          refine .w (.bin rfl rfl (BinR.add_i (by first | (constructor <;> omega) | (constructor <;> simp <;> omega)))) ?_
          refine .w (.assign rfl) ?_
          refine .nil ?_
          refine .hd (k + 1, v55) ?_
          exact ⟨by dsimp only; omega, by dsimp only; omega⟩
        · have he : k = L.length := by omega
          subst he
          rw [show (bytesP L).take L.length = bytesP L from List.take_of_length_le (by omega), show smallB h ++ smallB (BitVec.ofNat 64 L.length) ++ (bytesP L).flatMap bytesB = packB h (bytesP L) from by rw [packB, hbl]]
          refine .exit (.then_exit (.then_exit (.block_exit (.tn (.seq (.region ?_))))))
          refine .w (.move rfl) ?_
          refine .w (.assign rfl) ?_
          refine .w (.assign rfl) ?_
          refine .nil (.tn (.ret ?_))
          exact .dn [] [Res.row w (packB h (bytesP L)).length 5 1 ((packB h (bytesP L)).map u8)] (res2 rfl (.tmp rfl) (.tmp rfl)) ⟨w, (by rw [he0]), rfl, (by rw [packO, if_pos he0])⟩

theorem f9_spec (u : Value) (b : B8) (hb : b.length ≤ 1000000) :
    Spec Tryd.prog 9 #[u] [Res.rd u b.length 1 (b.map u8)] []
      (fun r Γ' H' => ∃ v N, bytesP N = unL b ∧ r = .tuple #[u64 (unH b), v, it (unE b)] ∧ Γ' = [Res.all (pcRes N)] ∧ H' = [Res.row v N.length 24 1 (N.map Prod.fst)]) := by
  refine Spec.of_args Tryd.func9 rfl Tryd.ntmps9 (by simp) fun w => ?_
  have hn10 := unN_le b
  refine JC.know (φ := u.oneCell' = true) (fun w hs => by obtain ⟨A, c, rfl, _⟩ := hs.rdForm (.head _); rfl) fun hu => ?_
  refine .seq (.region ?_)
  refine .w (.assign rfl) ?_
  refine .w (.assign rfl) ?_
  refine .w (.assign rfl) ?_
  refine .nil (.tn (.seq (.region ?_)))
  refine .w (.move rfl) ?_
  refine .w (.as (v' := .agg #[u, it 0, it 0]) (.bd bld_62 (hf := .cons rfl (by rw [one_cells hu]) rfl (show 0 + 1 ≤ 3 by decide) (.nil _))) rfl) ?_
  refine .bx fun b15 => ?_
  rw [show (Value.agg #[u, it 0, it 0]).cells.toList = [u, it 0, it 0] from rfl]
  refine .w (.assign rfl) ?_
  refine .nil (.tn (.seq (.region ?_)))
  refine .w (.move rfl) ?_
  refine .cb (f32_spec b15 u b 0 (Rdr.mk b 0) (RdL.begin b) hb mx) body_32 ?_ (h0 := by rintro _ _ _ ⟨_, _, _, h, _⟩; exact h)
  rintro _ _ ⟨p1, hl1, rfl, _, rfl⟩
  refine .ap ?_
  refine .w (.assign rfl) ?_
  refine .nil (.tn (.seq (.region ?_)))
  refine .w (.move rfl) ?_
  refine .cb (f32_spec b15 u b p1 ((Rdr.mk b 0).smA mx) hl1 hb 10#64) body_32 ?_ (h0 := by rintro _ _ _ ⟨_, _, _, h, _⟩; exact h)
  rintro _ _ ⟨p2, hl2, rfl, _, rfl⟩
  refine .ap ?_
  refine .w (.assign rfl) ?_
  refine .nil (.tn (.seq (.region ?_)))
  refine JO.nilRow 24 1 ?_
  refine JO.all0 ?_
  refine .w (.assign rfl) ?_
  refine .nil (.tn (.seq (.seq (.region ?_))))
  refine .w (.assign rfl) ?_
  refine .nil (.tn (.block ?_))
  refine .lp (ι := (Nat × Pcs) × Rdr × Value × Nat) (fun x => x.1.1 ≤ unN b ∧ x.1.2.length = x.1.1 ∧ RdL b x.2.2.2 x.2.1 ∧ Rdr.goB (unN b - x.1.1) (bytesP x.1.2) x.2.1 = unG b) (fun T x => (8, x.2.2.1) :: (9, u64 (BitVec.ofNat 64 x.1.1)) :: T) (fun T x => Res.all (pcRes x.1.2) :: T) (fun T x => Res.cells b15 [u, it (x.2.2.2 : Int), it x.2.1.e] 62 :: Res.row x.2.2.1 x.1.2.length 24 1 (x.1.2.map Prod.fst) :: T) (fun x => unN b - x.1.1) ((0, []), unR b, .slice none 0 0, p2) [2, 3, 4, 5, 6, 7, 10, 11, 12, 30, 31, 32, 33, 34, 35, 36, 37, 38, 39, 40, 41, 42, 43, 44, 45, 46, 47, 48, 49, 50, 51] ?_ (fun x hx => ?_)
  · exact ⟨Nat.zero_le _, rfl, hl2, rfl⟩
  obtain ⟨⟨k, N⟩, rk, v5, po⟩ := x
  obtain ⟨hk, hNl, hrl, hgo⟩ := hx
  dsimp only at hk hNl hrl hgo ⊢
  refine .seq (.seq (.region ?_))
  refine .w (.move rfl) ?_
  refine .w (.move rfl) ?_
  refine .w (.bin rfl rfl (BinR.lss_u64)) ?_
  refine .nil (.tn ?_)
  refine .cn rfl (fun hc1 => ?_) (fun hc1 => ?_)
  · have hck : k < unN b := by unfold unN mx; have h1 := hc1; rw [BitVec.toNat_ofNat, Nat.mod_eq_of_lt (by omega)] at h1; exact h1
    refine .skip (.tn (.seq (.block (.region ?_))))
    refine .w (.move rfl) ?_
    refine .w (.move rfl) ?_
    refine .cs (f33_spec b15 u b po rk hrl hb) body_33 ?_
    rintro v27 _ _ ⟨p3, hl3, rfl, rfl⟩
    refine .ap ?_
    refine .ap ?_
    refine JO.know (φ := v27.oneCell' = true) (fun w hs => (by obtain ⟨A, c, rfl, _⟩ := hs.rdForm (.head _); rfl)) fun hv27 => ?_
    refine JO.bundle (pcRes [(v27, rk.byO 1000)]) (Subs.sub (by repeat (first | exact Subs.nil _ | apply Subs.cons | exact List.Mem.head _ | refine List.Mem.tail _ ?_))) ?_
    refine JO.allOf N [(v27, rk.byO 1000)] (N ++ [(v27, rk.byO 1000)]) (by repeat (first | exact List.Mem.head _ | refine List.Mem.tail _ ?_)) (by repeat (first | exact List.Mem.head _ | refine List.Mem.tail _ ?_)) (fun z hz => List.mem_append.1 hz) ?_
    refine .l1 Tryd.underlying23 info_24 (fun v28 => ?_) (h1 := (one_sing hv27))
    refine .ap Tryd.underlying23 info_24 (fun v29 => ?_) (hone := (one_sing hv27))
    rw [snoc_row (b := rk.byO 1000)]
    refine .w (.assign rfl) ?_
    refine .nil (.block_normal (.tn (.region ?_)))
    refine .w (.move rfl) ?_
    refine .w (.as (v' := u64 (BitVec.ofNat 64 (k + 1))) (.bin rfl rfl (BinR.add_u64 (b := 1#64))) (congrArg u64 (by apply BitVec.eq_of_toNat_eq; simp))) ?_
    refine .w (.assign rfl) ?_
    refine .nil ?_
    refine .hd ((k + 1, N ++ [(v27, rk.byO 1000)]), rk.byA 1000, v29, p3) ?_
    refine ⟨⟨by dsimp only; omega, by simp [hNl], hl3, ?_⟩, by dsimp only; omega⟩
    dsimp only
    rw [← hgo, show unN b - k = (unN b - (k + 1)) + 1 by omega, Rdr.goB]
    simp [bytesP]
  · have hck : k = unN b := by have h1 := hc1; rw [BitVec.toNat_ofNat, Nat.mod_eq_of_lt (by omega)] at h1; have h2 : ¬ k < unN b := h1; omega
    subst hck
    rw [Nat.sub_self] at hgo
    refine .exit (.then_exit (.then_exit (.block_exit (.tn (.seq (.region ?_))))))
    have hun : unG b = (bytesP N, rk) := hgo.symm
    refine .w (.move rfl) ?_
    refine .c (f34_spec b15 u b po rk hrl hb) body_34 ?_
    refine .w (.assign rfl) ?_
    refine .nil (.tn (.seq (.seq (.region ?_))))
    refine .w (.move rfl) ?_
    refine .w (.bin rfl rfl BinR.neq_i) ?_
    refine .nil (.tn ?_)
    refine .cn rfl (fun hc2 => ?_) (fun hc2 => ?_)
    · refine .seq (.region ?_)
      refine JO.nilRow 24 1 ?_
      refine JO.all0 ?_
      refine .w (.move rfl) ?_
      refine .w (.assign rfl) ?_
      refine .w (.assign rfl) ?_
      refine .w (.assign rfl) ?_
      refine .nil (.tn (.ret (.then_ret ?_)))
      have he : unE b = rk.fin := by rw [unE, hun]; exact if_neg (fun h1 => hc2 h1.1)
      exact .dn [Res.all (pcRes [])] [Res.row (.slice none 0 0) 0 24 1 []] (res3 rfl (.tmp rfl) (.tmp rfl) (.tmp rfl)) ⟨.slice none 0 0, [], (by rw [unL, if_neg (by rw [he]; first | exact hc2 | decide)]; rfl), (by rw [unH, if_neg (by rw [he]; first | exact hc2 | decide), he]; rfl), rfl, rfl⟩
    · refine .skip (.tn (.seq (.region ?_)))
      refine .w (.move rfl) ?_
      refine .c (f24_spec v5 N) body_24 ?_
      refine .w (.assign rfl) ?_
      refine .nil (.tn (.seq (.seq (.region ?_))))
      refine .w (.move rfl) ?_
      refine .nil (.tn ?_)
      refine .cn rfl (fun hc3 => ?_) (fun hc3 => ?_)
      · refine .seq (.region ?_)
        refine JO.nilRow 24 1 ?_
        refine JO.all0 ?_
        refine .w (.assign rfl) ?_
        refine .w (.assign rfl) ?_
        refine .w (.assign rfl) ?_
        refine .nil (.tn (.ret (.then_ret ?_)))
        have he : unE b = 31 := by rw [unE, hun]; exact if_pos ⟨hc2, .inl hc3⟩
        exact .dn [Res.all (pcRes [])] [Res.row (.slice none 0 0) 0 24 1 []] (res3 rfl (.tmp rfl) (.tmp rfl) (.tmp rfl)) ⟨.slice none 0 0, [], (by rw [unL, if_neg (by rw [he]; first | exact hc2 | decide)]; rfl), (by rw [unH, if_neg (by rw [he]; first | exact hc2 | decide), he]; rfl), rfl, rfl⟩
      · refine .skip (.tn (.seq (.seq (.region ?_))))
        refine .w (.assign rfl) ?_
        refine .nil (.tn (.block ?_))
        refine .lp (ι := Nat) (fun x => x ≤ N.length ∧ ∀ c ∈ (bytesP N).take x, c ≠ []) (fun T x => (12, it (x : Int)) :: T) (fun T _ => T) (fun T _ => T) (fun x => N.length - x) 0 [6, 8, 50, 51] ?_ (fun x hx => ?_)
        · exact ⟨Nat.zero_le _, by simp⟩
        obtain ⟨j, hj⟩ : ∃ j, x = j := ⟨_, rfl⟩
        rw [hj] at hx ⊢
        obtain ⟨hx, hne⟩ := hx
        refine .seq (.seq (.region ?_))
        refine .w (.move rfl) ?_
        refine .w (.move rfl) ?_
        refine .w (.len Tryd.underlying23 rfl) ?_
        refine .w (.bin rfl rfl BinR.lss_i) ?_
        refine .nil (.tn ?_)
        refine .cn rfl (fun hc4 => ?_) (fun hc4 => ?_)
        · refine .skip (.tn (.seq (.block (.seq (.region ?_)))))
          refine JO.open (r := Res.rd (pcAt N j).1 (pcAt N j).2.length 1 ((pcAt N j).2.map u8)) (by repeat (first | exact List.Mem.head _ | refine List.Mem.tail _ ?_)) (pc_res (by omega)) ?_
          refine .w (.move rfl) ?_
          refine .w (.move rfl) ?_
          refine .w (.ix1 Tryd.underlying23 sz_24 rfl rfl) ?_
          refine .w (.ld one_24 rfl (hj := by first | exact pc_get (by omega) | rfl | exact tab_get (by first | omega | (simp; omega)) | exact gm (d := 0) (by first | omega | (simp; omega)))) ?_
          refine .w (.len Tryd.underlying24 rfl) ?_
          refine .w (.bin rfl rfl BinR.eql_i) ?_
          refine .nil (.tn ?_)
          refine .cn rfl (fun hc5 => ?_) (fun hc5 => ?_)
          · refine .seq (.region ?_)
            refine JO.nilRow 24 1 ?_
            refine JO.all0 ?_
            refine .w (.assign rfl) ?_
            refine .w (.assign rfl) ?_
            refine .w (.assign rfl) ?_
            refine .nil (.tn (.ret (.block_ret (.then_ret (.then_ret (.block_ret (.then_ret ?_)))))))
            have he : unE b = 31 := by rw [unE, hun]; exact if_pos ⟨hc2, .inr (by rw [has_mem, decide_eq_true_eq]; exact List.mem_map.2 ⟨_, pc_mem (l := N) (k := j) (by omega), List.eq_nil_of_length_eq_zero (by omega)⟩)⟩
            exact .dn [Res.all (pcRes [])] [Res.row (.slice none 0 0) 0 24 1 []] (res3 rfl (.tmp rfl) (.tmp rfl) (.tmp rfl)) ⟨.slice none 0 0, [], (by rw [unL, if_neg (by rw [he]; first | exact hc2 | decide)]; rfl), (by rw [unH, if_neg (by rw [he]; first | exact hc2 | decide), he]; rfl), rfl, rfl⟩
          · refine .skip (.block_normal (.tn (.region ?_)))
            refine .w (.move rfl) ?_
            refine .w (.bin rfl rfl (BinR.add_i (by first | (constructor <;> omega) | (constructor <;> simp <;> omega)))) ?_
            refine .w (.assign rfl) ?_
            refine .nil ?_
            have hne2 : ∀ c ∈ (bytesP N).take (j + 1), c ≠ [] := by
              rw [bytesP_get (by omega)]
              intro c hc
              rcases List.mem_append.1 hc with h | h
              · exact hne c h
              · rw [List.mem_singleton] at h; subst h; intro e; rw [e] at hc5; exact hc5 rfl
            refine .hd (j + 1) ?_
            exact ⟨⟨by omega, hne2⟩, by omega⟩
        · have hej : j = N.length := by omega
          subst hej
          rw [show (bytesP N).take N.length = bytesP N from List.take_of_length_le (by rw [bytesP_len]; omega)] at hne
          refine .exit (.then_exit (.then_exit (.block_exit (.tn (.seq (.region ?_))))))
          refine .w (.move rfl) ?_
          refine .w (.move rfl) ?_
          refine .w (.assign rfl) ?_
          refine .w (.assign rfl) ?_
          refine .w (.assign rfl) ?_
          refine .nil (.tn (.ret ?_))
          have he : unE b = 0 := by rw [unE, hun]; exact (if_neg (fun h1 => h1.2.elim (fun h2 => absurd (show twB (bytesP N) = true from h2) (by simpa using hc3)) (fun h2 => by rw [has_mem, decide_eq_true_eq] at h2; exact hne _ h2 rfl))).trans hc2
          exact .dn [Res.all (pcRes N)] [Res.row v5 N.length 24 1 (N.map Prod.fst)] (res3 rfl (.tmp rfl) (.tmp rfl) (.tmp rfl)) ⟨v5, N, (by rw [unL, if_pos he, hun]), (by rw [unH, if_pos he, he]), rfl, rfl⟩
end Go.Proofs.YtffgimlkmfjgmaaDoor
