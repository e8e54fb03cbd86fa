/- Walk: PoolOnce. -/
import Derived.Test.YtffgimlkmfjgmaaP10
import Derived.Test.YtffgimlkmfjgmaaP7
import Derived.Test.YtffgimlkmfjgmaaW17
namespace Go.Proofs.Ytffgimlkmfjgmaa
open Go.RowKit
set_option maxRecDepth 100000
set_option linter.unusedVariables false
set_option linter.unusedSimpArgs false
set_option maxHeartbeats 1000000 in
theorem f4_spec (lv : Value) (L : List OpQ) (n : Int) :
    Spec Try.prog 4 #[lv, (it n)] [Res.rd lv L.length 3 (bks oqC L), Res.all (oqRes L)] []
      (fun r Γ' H' => r = .bool true ∧ Γ' = [] ∧ H' = []) := by
  refine Spec.of_args Try.func4 rfl Try.ntmps4 (by simp) fun w => ?_
  refine JC.know (φ := L.length ≤ 9223372036854775807) (fun w hs => by obtain ⟨_, _, _, _, _, _, h⟩ := hs.rdForm (.head _); unfold maxLen at h; omega) fun hll => ?_
  refine .seq (.region ?_)
  refine .w (.assign rfl) ?_
  refine .nil (.tn (.seq (.region ?_)))
  refine .c f6_spec body_6 ?_
  refine .w (.assign rfl) ?_
  refine .nil (.tn (.seq (.region ?_)))
  refine .w (.as (v' := .agg #[.slice none 0 0, .map none]) (.bd bld_39 (hf := .nil _)) rfl) ?_
  refine .bx fun b18 => ?_
  rw [show (Value.agg #[Value.slice none 0 0, .map none]).cells.toList = [.slice none 0 0, .map none] from rfl]
  refine JO.nilRow 24 1 ?_
  refine JO.sp0 ?_
  refine JO.all0 ?_
  refine .w (.assign rfl) ?_
  refine .nil (.tn (.seq (.seq (.region ?_))))
  refine .w (.move rfl) ?_
  refine .w (.len Try.underlying35 rfl) ?_
  refine .w (.bin rfl rfl BinR.gtr_i) ?_
  refine .join 4 25 (.bool (decide (L.length > 80 ∨ n < 0))) ?_ ?_
  · refine .w (.move rfl) ?_
    refine .gn (g := 21) rfl (fun hg11 hg11' => ?_) (fun hg11 hg11' => ?_)
    · refine .gf (g := 22) rfl rfl hg11 (by decide) ?_
      refine .gf (g := 22) rfl rfl hg11 (by decide) ?_
      refine .w (.pick1 rfl hg11 rfl) ?_
      refine .nil ?_
      refine .head () (by first | (refine ⟨by first | rfl | exact congrArg (fun b => some (Value.bool b)) (by first | exact (decide_eq_true (by omega)).symm | exact (decide_eq_false (by omega)).symm | exact decide_eq_decide.2 (by omega)) | (simp [*]; done) | (show some _ = some _; simp [*]; done), ?_⟩; repeat (first | exact trivial | refine ⟨rfl, ?_⟩))) (fun _ h => h) (Picks.perm (by repeat (first | exact Picks.nil _ | apply Picks.cons | exact Pull.here _ _ | apply Pull.there))) ?_
      trivial
    · refine .gt (g := 22) rfl rfl hg11 ?_
      refine .w (.move rfl) ?_
      refine .gt (g := 22) rfl rfl hg11 ?_
      refine .w (.bin rfl rfl BinR.lss_i) ?_
      refine .w (.pick0 rfl hg11 rfl) ?_
      refine .nil ?_
      refine .head () (by first | (refine ⟨by first | rfl | exact congrArg (fun b => some (Value.bool b)) (by first | exact (decide_eq_true (by omega)).symm | exact (decide_eq_false (by omega)).symm | exact decide_eq_decide.2 (by omega)) | (simp [*]; done) | (show some _ = some _; simp [*]; done), ?_⟩; repeat (first | exact trivial | refine ⟨rfl, ?_⟩))) (fun _ h => h) (Picks.perm (by repeat (first | exact Picks.nil _ | apply Picks.cons | exact Pull.here _ _ | apply Pull.there))) ?_
      trivial
  · refine .join 4 29 (.bool (decide (L.length > 80 ∨ n < 0 ∨ n > 40))) ?_ ?_
    · refine .w (.move rfl) ?_
      refine .gn (g := 25) rfl (fun hg15 hg15' => ?_) (fun hg15 hg15' => ?_)
      · refine .gf (g := 26) rfl rfl hg15 (by decide) ?_
        refine .gf (g := 26) rfl rfl hg15 (by decide) ?_
        refine .w (.pick1 rfl hg15 rfl) ?_
        refine .nil ?_
        refine .head () (by first | (refine ⟨by first | rfl | exact congrArg (fun b => some (Value.bool b)) (by first | exact (decide_eq_true (by omega)).symm | exact (decide_eq_false (by omega)).symm | exact decide_eq_decide.2 (by omega)) | (simp [*]; done) | (show some _ = some _; simp [*]; done), ?_⟩; repeat (first | exact trivial | refine ⟨rfl, ?_⟩))) (fun _ h => h) (Picks.perm (by repeat (first | exact Picks.nil _ | apply Picks.cons | exact Pull.here _ _ | apply Pull.there))) ?_
        trivial
      · refine .gt (g := 26) rfl rfl hg15 ?_
        refine .w (.move rfl) ?_
        refine .gt (g := 26) rfl rfl hg15 ?_
        refine .w (.bin rfl rfl BinR.gtr_i) ?_
        refine .w (.pick0 rfl hg15 rfl) ?_
        refine .nil ?_
        refine .head () (by first | (refine ⟨by first | rfl | exact congrArg (fun b => some (Value.bool b)) (by first | exact (decide_eq_true (by omega)).symm | exact (decide_eq_false (by omega)).symm | exact decide_eq_decide.2 (by omega)) | (simp [*]; done) | (show some _ = some _; simp [*]; done), ?_⟩; repeat (first | exact trivial | refine ⟨rfl, ?_⟩))) (fun _ h => h) (Picks.perm (by repeat (first | exact Picks.nil _ | apply Picks.cons | exact Pull.here _ _ | apply Pull.there))) ?_
        trivial
    · refine .nil (.tn ?_)
      refine .cn rfl (fun hc1 => ?_) (fun hc1 => ?_)
      · refine .seq (.region ?_)
        refine .w (.move rfl) ?_
        refine .w (.assign rfl) ?_
        refine .nil (.tn (.ret (.then_ret ?_)))
        exact .dn [] [] (res1 rfl (.tmp rfl)) ⟨rfl, rfl, rfl⟩
      · refine .skip (.tn (.seq (.seq (.region ?_))))
        refine .w (.assign rfl) ?_
        refine .nil (.tn (.block ?_))
        refine .lp (ι := Nat × Value × Value × MM B8 Bool × Pcs) (fun x => x.1 ≤ L.length ∧ Once x.2.2.1 x.2.2.2.1 x.2.2.2.2) (fun T x => (7, it (x.1 : Int)) :: T) (fun T x => Res.all (pcRes x.2.2.2.2) :: T) (fun T x => Res.cells b18 [x.2.1, x.2.2.1] 39 :: dnR x.2.2.1 x.2.2.2.1 :: Res.row x.2.1 x.2.2.2.2.length 24 1 (x.2.2.2.2.map Prod.fst) :: T) (fun x => L.length - x.1) (0, .slice none 0 0, .map none, MM.nil, []) [0, 1, 5, 6, 137] ?_ (fun x hx => ?_)
        · exact ⟨Nat.zero_le _, once_nil⟩
        obtain ⟨k, wv, mv, m, A⟩ := x
        obtain ⟨hk, hI⟩ := hx
        dsimp only at hk hI ⊢
        refine .seq (.seq (.region ?_))
        refine .w (.move rfl) ?_
        refine .w (.move rfl) ?_
        refine .w (.len Try.underlying35 rfl) ?_
        refine .w (.bin rfl rfl BinR.lss_i) ?_
        refine .nil (.tn ?_)
        refine .cn rfl (fun hc2 => ?_) (fun hc2 => ?_)
        · refine .skip (.tn (.seq (.block (.seq (.region ?_)))))
          obtain ⟨o, ho⟩ : ∃ o, oqAt L k = o := ⟨_, rfl⟩
          refine JO.open (r := Res.rd o.v o.P.length 1 (o.P.map Prod.fst)) (by repeat (first | exact List.Mem.head _ | refine List.Mem.tail _ ?_)) (ho ▸ oq_r1 (by omega)) ?_
          refine JO.open (r := Res.all (pcRes o.P)) (.tail _ (by repeat (first | exact List.Mem.head _ | refine List.Mem.tail _ ?_))) (ho ▸ oq_r2 (by omega)) ?_
          refine .w (.move rfl) ?_
          refine .w (.move rfl) ?_
          refine .w (.ix Try.underlying35 sz_41 rfl rfl) ?_
          refine .w (.fieldAddr fa_41_2 rfl) ?_
          refine .w (.ld one_23 rfl (hj := by exact (oq_2 (by omega)).trans (congrArg (fun o : OpQ => some o.v) ho))) ?_
          refine .c (f7_spec o.v o.P) body_7 ?_
          refine .w (.assign rfl) ?_
          refine .nil (.tn (.seq (.seq (.region ?_))))
          refine .w (.move rfl) ?_
          refine .w (.not rfl) ?_
          refine .nil (.tn ?_)
          refine .cn rfl (fun hc3 => ?_) (fun hc3 => ?_)
          · refine .seq (.region ?_)
            refine .w (.move rfl) ?_
            refine .w (.assign rfl) ?_
            refine .nil (.tn (.ret (.then_ret (.block_ret (.then_ret (.then_ret (.block_ret (.then_ret ?_))))))))
            exact .dn [] [] (res1 rfl (.tmp rfl)) ⟨rfl, rfl, rfl⟩
          · have hP12 : o.P.length ≤ 12 := by have := hc3.1; rwa [bytesP_len] at this
            refine .skip (.tn ?_)
            refine .mt (ι := Value × Value × MM B8 Bool × Pcs) (fun x => Once x.2.1 x.2.2.1 x.2.2.2) (fun T _ => T) (fun T x => Res.all (pcRes x.2.2.2) :: T) (fun T x => Res.cells b18 [x.1, x.2.1] 39 :: dnR x.2.1 x.2.2.1 :: Res.row x.1 x.2.2.2.length 24 1 (x.2.2.2.map Prod.fst) :: T) [0, 1, 5, 6, 7, 8, 11, 12, 13, 14, 15, 31, 32, 33, 34, 35, 36, 37, 38, 39, 40, 41, 42, 43, 44, 45, 92, 93, 94, 95, 96, 97, 98, 99, 100, 101, 102, 103, 104, 105, 106, 107, 108, 109, 110, 111, 112, 113, 114, 115, 116, 117, 118, 119, 120, 121, 122, 123, 124, 125, 126, 127, 128, 129, 130, 131, 132, 133, 134, 135, 136, 137] [Res.cells b18 [wv, mv] 39, dnR mv m, Res.row wv A.length 24 1 (A.map Prod.fst)] ?_ (fun x hx => ?_)
            · refine .seq (.region ?_)
              refine .w (.move rfl) ?_
              refine .w (.move rfl) ?_
              refine .w (.ix Try.underlying35 sz_41 rfl rfl) ?_
              refine .w (.fieldAddr fa_41_0 rfl) ?_
              refine .w (.ld one_3 rfl (hj := by exact (oq_0 (by omega)).trans (congrArg (fun o : OpQ => some (it o.d)) ho))) ?_
              refine .nil (.tn (.block (.seq (.region ?_))))
              refine .w (.bin rfl rfl BinR.eql_i) ?_
              refine .w (.assign rfl) ?_
              refine .nil (.tn ?_)
              refine .cn rfl (fun hc4 => ?_) (fun hc4 => ?_)
              · refine .region ?_
                refine .w (.move rfl) ?_
                refine .w (.move rfl) ?_
                refine .w (.move rfl) ?_
                refine .w (.ix Try.underlying35 sz_41 rfl rfl) ?_
                refine .w (.fieldAddr fa_41_2 rfl) ?_
                refine .w (.ld one_23 rfl (hj := by exact (oq_2 (by omega)).trans (congrArg (fun o : OpQ => some o.v) ho))) ?_
                refine JO.openD o.P 0 (by repeat (first | exact List.Mem.head _ | refine List.Mem.tail _ ?_)) ?_
                refine .c (f13_spec o.v o.P) body_13 ?_
                refine .cb (f12_spec b18 wv mv m hI.ok A (by have := hI.le; omega) (pcAt o.P 0).1 (pcAt o.P 0).2) body_12 ?_ (h0 := by rintro _ _ _ ⟨_, _, _, _, h, _⟩; exact h)
                rintro _ _ ⟨w1, N, hN, rfl, _, rfl⟩
                refine .ap ?_
                refine JO.frzP (by repeat (first | exact Pull.here _ _ | apply Pull.there)) ?_
                refine JO.allOf A N (A ++ N) (by repeat (first | exact List.Mem.head _ | refine List.Mem.tail _ ?_)) (by repeat (first | exact List.Mem.head _ | refine List.Mem.tail _ ?_)) (fun z hz => List.mem_append.1 hz) ?_
                have hI2 := hI.add hN
                refine .nil (.block_normal ?_)
                refine .hd (w1, mv, m, A ++ N) ?_
                first | exact hI2 | exact hI
              · refine .seq (.region ?_)
                refine .w (.bin rfl rfl BinR.eql_i) ?_
                refine .w (.assign rfl) ?_
                refine .nil (.tn ?_)
                refine .cn rfl (fun hc5 => ?_) (fun hc5 => ?_)
                · refine .seq (.region ?_)
                  refine .w (.move rfl) ?_
                  refine .w (.move rfl) ?_
                  refine .w (.move rfl) ?_
                  refine .w (.ix Try.underlying35 sz_41 rfl rfl) ?_
                  refine .w (.fieldAddr fa_41_2 rfl) ?_
                  refine .w (.ld one_23 rfl (hj := by exact (oq_2 (by omega)).trans (congrArg (fun o : OpQ => some o.v) ho))) ?_
                  refine .cb (f14A_spec b18 wv mv m hI.ok A (by have := hI.le; omega) o.v o.P) body_14 ?_ (h0 := by rintro _ _ _ ⟨_, _, _, _, h, _⟩; exact h)
                  rintro _ _ ⟨w1, mv1, hm1, rfl, _, rfl⟩
                  refine .ap ?_
                  refine JO.allOf A A (delP A (bytesP o.P)) (by repeat (first | exact List.Mem.head _ | refine List.Mem.tail _ ?_)) (by repeat (first | exact List.Mem.head _ | refine List.Mem.tail _ ?_)) (fun z hz => .inl (delP_sub z hz)) ?_
                  have hI2 := hI.done hm1
                  refine .nil (.tn (.seq (.region ?_)))
                  refine .w (.assign rfl) ?_
                  refine .nil (.tn (.block ?_))
                  refine .lp (ι := Nat) (fun x => x ≤ o.P.length) (fun T x => (9, it (x : Int)) :: T) (fun T _ => T) (fun T _ => T) (fun x => o.P.length - x) 0 [0, 1, 5, 6, 7, 8, 11, 12, 13, 14, 15, 31, 32, 33, 34, 35, 36, 37, 38, 39, 40, 41, 42, 43, 44, 45, 46, 47, 48, 49, 50, 51, 52, 53, 54, 55, 56, 57, 58, 59, 61, 62, 63, 64, 65, 66, 67, 68, 92, 93, 94, 95, 96, 97, 98, 99, 100, 101, 102, 103, 104, 105, 106, 107, 108, 109, 110, 111, 112, 113, 114, 115, 116, 117, 118, 119, 120, 121, 122, 123, 124, 125, 126, 127, 128, 129, 130, 131, 132, 133, 134, 135, 136, 137] ?_ (fun x hx => ?_)
                  · exact Nat.zero_le _
                  obtain ⟨j, hj⟩ : ∃ j, x = j := ⟨_, rfl⟩
                  rw [hj] at hx ⊢
                  refine .seq (.seq (.region ?_))
                  refine .w (.move rfl) ?_
                  refine .w (.move rfl) ?_
                  refine .w (.move rfl) ?_
                  refine .w (.ix Try.underlying35 sz_41 rfl rfl) ?_
                  refine .w (.fieldAddr fa_41_2 rfl) ?_
                  refine .w (.ld one_23 rfl (hj := by exact (oq_2 (by omega)).trans (congrArg (fun o : OpQ => some o.v) ho))) ?_
                  refine .w (.len Try.underlying23 rfl) ?_
                  refine .w (.bin rfl rfl BinR.lss_i) ?_
                  refine .nil (.tn ?_)
                  refine .cn rfl (fun hc6 => ?_) (fun hc6 => ?_)
                  · refine .skip (.tn (.seq (.block (.seq (.region ?_)))))
                    refine JO.openD o.P j (by repeat (first | exact List.Mem.head _ | refine List.Mem.tail _ ?_)) ?_
                    refine .w (.move rfl) ?_
                    refine .w (.move rfl) ?_
                    refine .w (.move rfl) ?_
                    refine .w (.ix Try.underlying35 sz_41 rfl rfl) ?_
                    refine .w (.fieldAddr fa_41_2 rfl) ?_
                    refine .w (.ld one_23 rfl (hj := by exact (oq_2 (by omega)).trans (congrArg (fun o : OpQ => some o.v) ho))) ?_
                    refine .w (.move rfl) ?_
                    refine .w (.ix1 Try.underlying23 sz_24 rfl rfl) ?_
                    refine .w (.ld one_24 rfl (hj := by exact pc_get (by omega))) ?_
                    refine .c (f15A_spec b18 w1 mv1 (putsM m (bytesP o.P)) hm1 (pcAt o.P j).1 (pcAt o.P j).2) body_15 ?_
                    rw [puts_was (by omega)]
                    refine .w (.assign rfl) ?_
                    refine .nil (.tn (.seq (.region ?_)))
                    refine .w (.move rfl) ?_
                    refine .w (.as (v' := .bool false) (.not rfl) rfl) ?_
                    refine .nil (.tn ?_)
                    refine .cf rfl ?_
                    refine .skip (.block_normal (.tn (.region ?_)))
                    refine .w (.move rfl) ?_
                    refine .w (.bin rfl rfl (BinR.add_i (by first | (constructor <;> omega) | (constructor <;> simp <;> omega)))) ?_
                    refine .w (.assign rfl) ?_
                    refine .nil ?_
                    refine .hd (j + 1) ?_
                    exact ⟨by omega, by omega⟩
                  · refine .exit (.then_exit (.then_exit (.block_exit (.block_normal ?_))))
                    refine .hd (w1, mv1, putsM m (bytesP o.P), delP A (bytesP o.P)) ?_
                    first | exact hI2 | exact hI
                · refine .skip (.block_normal ?_)
                  refine .hd (wv, mv, m, A) ?_
                  first | exact hI2 | exact hI
            · obtain ⟨wv3, mv3, m3, A3⟩ := x
              have hI3 : Once mv3 m3 A3 := hx
              dsimp only
              refine .seq (.region ?_)
              refine .w (.move rfl) ?_
              refine .cb (f16_spec b18 wv3 mv3 A3 (by have := hI3.le; omega) hI3.sm) body_16 ?_ (h0 := by rintro _ _ _ ⟨_, _, h, _⟩; exact h)
              rintro ball _ ⟨B, hB, _, rfl⟩
              refine .ap ?_
              refine JO.frzP (by repeat (first | exact Pull.here _ _ | apply Pull.there)) ?_
              refine JO.freeze (v := ball) (by repeat (first | exact Pull.here _ _ | apply Pull.there)) (by decide) ?_
              have hBl : B.length = A3.length := by rw [← bytesP_len, hB, bytesP_len]
              have hBle := hI3.le
              refine .w (.assign rfl) ?_
              refine .nil (.tn (.seq (.seq (.region ?_))))
              refine .w (.assign rfl) ?_
              refine .nil (.tn (.block ?_))
              refine .lp (ι := Nat) (fun x => x ≤ B.length) (fun T x => (12, it (x : Int)) :: T) (fun T _ => T) (fun T _ => T) (fun x => B.length - x) 0 [0, 1, 5, 6, 7, 8, 9, 10, 11, 15, 31, 32, 33, 34, 35, 36, 37, 38, 39, 40, 41, 42, 43, 44, 45, 46, 47, 48, 49, 50, 51, 52, 53, 54, 55, 56, 57, 58, 59, 61, 62, 63, 64, 65, 66, 67, 68, 70, 71, 72, 73, 74, 75, 76, 77, 78, 79, 80, 81, 82, 83, 84, 85, 86, 87, 88, 89, 90, 91, 92, 93, 118, 119, 120, 121, 122, 123, 124, 125, 126, 127, 128, 129, 130, 131, 132, 133, 134, 135, 136, 137] ?_ (fun x hx => ?_)
              · exact Nat.zero_le _
              refine .seq (.seq (.region ?_))
              refine .w (.move rfl) ?_
              refine .w (.move rfl) ?_
              refine .w (.len Try.underlying23 rfl) ?_
              refine .w (.bin rfl rfl BinR.lss_i) ?_
              refine .nil (.tn ?_)
              refine .cn rfl (fun hc8 => ?_) (fun hc8 => ?_)
              · refine .skip (.tn (.seq (.block (.seq (.region ?_)))))
                refine JO.openD B x (by repeat (first | exact List.Mem.head _ | refine List.Mem.tail _ ?_)) ?_
                refine .w (.move rfl) ?_
                refine .w (.move rfl) ?_
                refine .w (.move rfl) ?_
                refine .w (.ix1 Try.underlying23 sz_24 rfl rfl) ?_
                refine .w (.ld one_24 rfl (hj := by exact pc_get (by omega))) ?_
                refine .c (f15A_spec b18 wv3 mv3 m3 hI3.ok (pcAt B x).1 (pcAt B x).2) body_15 ?_
                rw [hI3.no _ (hB ▸ List.mem_map.2 ⟨_, pc_mem (l := B) (k := x) (by omega), rfl⟩)]
                refine .w (.assign rfl) ?_
                refine .nil (.tn (.seq ?_))
                refine JC.draw (.one 0 (.one 1 (.one 2 (.one 3 (.one 4 (.one 5 (.one 6 (.one 7 (.one 8 .nil))))))))) (fun i => ([7] : List Nat).contains i) (fun i => ([7] : List Nat).contains i) (fun i => ([0, 1, 2, 3, 4, 5, 8] : List Nat).contains i) mixed (by kernel_rfl) (by decide) (by kernel_rfl) ?_
                refine JR.cutRd (v := ball) 0 x (by repeat (first | exact List.Mem.head _ | refine List.Mem.tail _ ?_)) (by omega) (by omega) ?_
                rw [rd_preP (by omega)]
                refine JR.allOf B B (B.take x) (by repeat (first | exact List.Mem.head _ | refine List.Mem.tail _ ?_)) (by repeat (first | exact List.Mem.head _ | refine List.Mem.tail _ ?_)) (fun z hz => .inl (List.mem_of_mem_take hz)) ?_
                refine .uw rfl (.move rfl) ?_
                refine .uw rfl (.move rfl) ?_
                refine .uw rfl (.cutRd (l := 0) (h := x) Try.underlying23 sz_24 rfl (by repeat (first | exact List.Mem.head _ | refine List.Mem.tail _ ?_)) rfl ⟨_, rfl⟩ (by first | (simp; done) | omega | (simp; omega)) (by first | (simp; done) | omega | (simp; omega))) ?_
                refine .uw rfl (.move rfl) ?_
                refine .uw rfl (.move rfl) ?_
                refine .uw rfl (.ix1 Try.underlying23 sz_24 rfl rfl) ?_
                refine .w rfl (.ld one_24 rfl (hj := by exact pc_get (by omega))) ?_
                refine .mw rfl (.c (f17_spec _ (pcAt B x).1 (B.take x) (pcAt B x).2) body_17) ?_
                rintro _ _ _ ⟨rfl, rfl, rfl⟩
                rw [decide_eq_false (nodup_at (hB ▸ hI3.nd) (by omega))]
                refine kp ?_
                refine .uw rfl (.assign rfl) ?_
                refine .nil (.tn (.seq (.region ?_)))
                refine .w (.move rfl) ?_
                refine .w (.move rfl) ?_
                refine .gt (g := 115) rfl rfl rfl ?_
                refine .w (.move rfl) ?_
                refine .w (.pick0 rfl rfl rfl) ?_
                refine .nil (.tn ?_)
                refine .cf rfl ?_
                refine .skip (.block_normal (.tn (.region ?_)))
                refine .w (.move rfl) ?_
                refine .w (.bin rfl rfl (BinR.add_i (by first | (constructor <;> omega) | (constructor <;> simp <;> omega)))) ?_
                refine .w (.assign rfl) ?_
                refine .nil ?_
                refine .hd (x + 1) ?_
                exact ⟨by omega, by omega⟩
              · refine .exit (.then_exit (.then_exit (.block_exit (.tn (.seq (.region ?_))))))
                refine .w (.move rfl) ?_
                refine .w (.move rfl) ?_
                refine .cb (f18_spec b18 wv3 mv3 A3 n (by have := hI3.le; omega) hI3.sm) body_18 ?_ (h0 := by rintro _ _ _ ⟨_, _, h, _⟩; exact h)
                rintro v120 _ ⟨D, hD, _, rfl⟩
                refine .ap ?_
                refine JO.frzP (by repeat (first | exact Pull.here _ _ | apply Pull.there)) ?_
                have hq : (max 0 (min n (A3.length : Int))).toNat = (min n (A3.length : Int)).toNat := by omega
                rw [hq] at hD
                have hDl : D.length = (min n (A3.length : Int)).toNat := by rw [← bytesP_len, hD, List.length_take, bytesP_len]; omega
                refine .w (.assign rfl) ?_
                refine .nil (.tn (.seq (.region ?_)))
                refine .w (.move rfl) ?_
                refine .w (.len Try.underlying23 rfl) ?_
                refine .w (.move rfl) ?_
                refine .w (.move rfl) ?_
                refine .w (.len Try.underlying23 rfl) ?_
                refine .w (.min_i rfl rfl) ?_
                refine .w (.asF (.bin rfl rfl BinR.neq_i)) ?_
                refine .w (.move rfl) ?_
                refine .gt (g := 128) rfl rfl rfl ?_
                refine .w (.move rfl) ?_
                refine .gt (g := 128) rfl rfl rfl ?_
                refine .w (.move rfl) ?_
                refine .gt (g := 128) rfl rfl rfl ?_
                refine .w (.move rfl) ?_
                refine .gt (g := 128) rfl rfl rfl ?_
                refine .w (.len Try.underlying23 rfl) ?_
                refine .gt (g := 128) rfl rfl rfl ?_
                refine .ct 0 D.length Try.underlying23 sz_24 (fun v133 => ?_)
                rw [rd_preP (by omega)]
                refine JO.allOf B B (B.take D.length) (by repeat (first | exact List.Mem.head _ | refine List.Mem.tail _ ?_)) (by repeat (first | exact List.Mem.head _ | refine List.Mem.tail _ ?_)) (fun z hz => .inl (List.mem_of_mem_take hz)) ?_
                refine .gt (g := 128) rfl rfl rfl ?_
                refine .c (f10_spec v120 v133 D (B.take D.length)) body_10 ?_
                rw [decide_eq_true (show bytesP D = bytesP (B.take D.length) by rw [hD, hDl, ← hB]; simp [bytesP, List.map_take])]
                refine .gt (g := 128) rfl rfl rfl ?_
                refine .w (.as (v' := .bool false) (.not rfl) rfl) ?_
                refine .w (.pick0 rfl rfl rfl) ?_
                refine .nil (.tn ?_)
                refine .cf rfl ?_
                refine .skip (.block_normal (.tn (.region ?_)))
                refine .w (.move rfl) ?_
                refine .w (.bin rfl rfl (BinR.add_i (by first | (constructor <;> omega) | (constructor <;> simp <;> omega)))) ?_
                refine .w (.assign rfl) ?_
                refine .nil ?_
                refine .hd (k + 1, wv3, mv3, m3, A3) ?_
                exact ⟨⟨by dsimp only; omega, hI3⟩, by dsimp only; omega⟩
        · refine .exit (.then_exit (.then_exit (.block_exit (.tn (.seq (.region ?_))))))
          refine .w (.move rfl) ?_
          refine .w (.assign rfl) ?_
          refine .nil (.tn (.ret ?_))
          exact .dn [] [] (res1 rfl (.tmp rfl)) ⟨rfl, rfl, rfl⟩
end Go.Proofs.Ytffgimlkmfjgmaa
