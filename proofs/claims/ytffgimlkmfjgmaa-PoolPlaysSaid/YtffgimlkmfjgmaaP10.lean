/- Walk: awake. -/
import Derived.Test.YtffgimlkmfjgmaaP4
import Derived.Test.YtffgimlkmfjgmaaP6
import Derived.Test.YtffgimlkmfjgmaaP8
import Derived.Test.YtffgimlkmfjgmaaP9
namespace Go.Proofs.Ytffgimlkmfjgmaa
open Go.RowKit
set_option maxRecDepth 100000
set_option linter.unusedVariables false
set_option linter.unusedSimpArgs false
set_option maxHeartbeats 1000000 in
theorem f6_spec  :
    Spec Try.prog 6 #[] [] []
      (fun r Γ' H' => r = .bool true ∧ Γ' = [] ∧ H' = []) := by
  refine Spec.of_args Try.func6 rfl Try.ntmps6 (by simp) fun w => ?_
  refine .seq (.region ?_)
  refine .w (.assign rfl) ?_
  refine .nil (.tn (.seq (.region ?_)))
  refine .w (.as (v' := .agg #[.slice none 0 0, .map none]) (.bd bld_39 (hf := .nil _)) rfl) ?_
  refine .bx fun b15 => ?_
  rw [show (Value.agg #[Value.slice none 0 0, .map none]).cells.toList = [.slice none 0 0, .map none] from rfl]
  refine JO.nilRow 24 1 ?_
  refine JO.sp0 ?_
  refine JO.all0 ?_
  refine .w (.assign rfl) ?_
  refine .nil (.tn (.seq (.region ?_)))
  refine .w (.move rfl) ?_
  refine .l1 Try.underlying24 info_5 (fun v17 => ?_)
  refine .cb (f12_spec b15 (.slice none 0 0) (.map none) MM.nil (.inl ⟨rfl, rfl⟩) [] (by rw [← bytesP_len, show bytesP [] = [] from rfl]; decide) v17 [97#8]) body_12 ?_ (h0 := by rintro _ _ _ ⟨_, _, _, _, h, _⟩; exact h)
  rintro _ _ ⟨w1, N1, hN1, rfl, _, rfl⟩
  refine .ap ?_
  rw [show bytesP [] = [] from rfl, show addN [] (wasB MM.nil) [97#8] = [[97#8]] from by decide] at hN1
  rw [show bytesP [] = [] from rfl, show addE [] (wasB MM.nil) [97#8] = 0 from by decide]
  refine JO.frzP (by repeat (first | exact Pull.here _ _ | apply Pull.there)) ?_
  refine JO.allOf [] N1 ([] ++ N1) (by repeat (first | exact List.Mem.head _ | refine List.Mem.tail _ ?_)) (by repeat (first | exact List.Mem.head _ | refine List.Mem.tail _ ?_)) (fun z hz => List.mem_append.1 hz) ?_
  obtain ⟨A1, hA1⟩ : ∃ X, [] ++ N1 = X := ⟨_, rfl⟩
  rw [hA1]
  have hBA1 : bytesP A1 = [[97#8]] := by rw [← hA1, show bytesP ([] ++ N1) = bytesP [] ++ bytesP N1 from List.map_append, show bytesP [] = [] from rfl, hN1]; rfl
  refine .w (.assign rfl) ?_
  refine .nil (.tn (.seq (.region ?_)))
  refine .w (.move rfl) ?_
  refine .l1 Try.underlying24 info_5 (fun v20 => ?_)
  refine .cb (f12_spec b15 w1 (.map none) MM.nil (.inl ⟨rfl, rfl⟩) A1 (by rw [← bytesP_len, hBA1]; decide) v20 [98#8]) body_12 ?_ (h0 := by rintro _ _ _ ⟨_, _, _, _, h, _⟩; exact h)
  rintro _ _ ⟨w2, N2, hN2, rfl, _, rfl⟩
  refine .ap ?_
  rw [hBA1, show addN [[97#8]] (wasB MM.nil) [98#8] = [[98#8]] from by decide] at hN2
  rw [hBA1, show addE [[97#8]] (wasB MM.nil) [98#8] = 0 from by decide]
  refine JO.frzP (by repeat (first | exact Pull.here _ _ | apply Pull.there)) ?_
  refine JO.allOf A1 N2 (A1 ++ N2) (by repeat (first | exact List.Mem.head _ | refine List.Mem.tail _ ?_)) (by repeat (first | exact List.Mem.head _ | refine List.Mem.tail _ ?_)) (fun z hz => List.mem_append.1 hz) ?_
  obtain ⟨A2, hA2⟩ : ∃ X, A1 ++ N2 = X := ⟨_, rfl⟩
  rw [hA2]
  have hBA2 : bytesP A2 = [[97#8], [98#8]] := by rw [← hA2, show bytesP (A1 ++ N2) = bytesP A1 ++ bytesP N2 from List.map_append, hBA1, hN2]; rfl
  refine .w (.assign rfl) ?_
  refine .nil (.tn (.seq (.region ?_)))
  refine .w (.move rfl) ?_
  refine .l1 Try.underlying24 info_5 (fun v23 => ?_)
  refine .cb (f12_spec b15 w2 (.map none) MM.nil (.inl ⟨rfl, rfl⟩) A2 (by rw [← bytesP_len, hBA2]; decide) v23 [97#8]) body_12 ?_ (h0 := by rintro _ _ _ ⟨_, _, _, _, h, _⟩; exact h)
  rintro _ _ ⟨w3, N3, hN3, rfl, _, rfl⟩
  refine .ap ?_
  rw [hBA2, show addN [[97#8], [98#8]] (wasB MM.nil) [97#8] = [] from by decide] at hN3
  rw [hBA2, show addE [[97#8], [98#8]] (wasB MM.nil) [97#8] = 13 from by decide]
  refine JO.frzP (by repeat (first | exact Pull.here _ _ | apply Pull.there)) ?_
  refine JO.allOf A2 N3 (A2 ++ N3) (by repeat (first | exact List.Mem.head _ | refine List.Mem.tail _ ?_)) (by repeat (first | exact List.Mem.head _ | refine List.Mem.tail _ ?_)) (fun z hz => List.mem_append.1 hz) ?_
  obtain ⟨A3, hA3⟩ : ∃ X, A2 ++ N3 = X := ⟨_, rfl⟩
  rw [hA3]
  have hBA3 : bytesP A3 = [[97#8], [98#8]] := by rw [← hA3, show bytesP (A2 ++ N3) = bytesP A2 ++ bytesP N3 from List.map_append, hBA2, hN3]; rfl
  refine .w (.assign rfl) ?_
  refine .nil (.tn (.seq (.region ?_)))
  refine .w (.move rfl) ?_
  refine .cb (f18_spec b15 w3 (.map none) A3 1 (by rw [← bytesP_len, hBA3]; decide) (fun b hb => by rw [hBA3] at hb; revert b; decide)) body_18 ?_ (h0 := by rintro _ _ _ ⟨_, _, h, _⟩; exact h)
  rintro v26 _ ⟨B1, hB1, _, rfl⟩
  refine .ap ?_
  rw [show (bytesP A3).take (max 0 (min 1 (A3.length : Int))).toNat = [[97#8]] from by rw [← bytesP_len, hBA3]; decide] at hB1
  refine JO.frzP (by repeat (first | exact Pull.here _ _ | apply Pull.there)) ?_
  refine .w (.assign rfl) ?_
  refine .nil (.tn (.seq (.region ?_)))
  refine .w (.move rfl) ?_
  refine .l1 Try.underlying24 info_5 (fun v28 => ?_)
  refine JO.know (φ := v28.oneCell' = true) (fun w hs => (by obtain ⟨A, c, rfl, _⟩ := row_rd (by decide) (Res.row_ok.1 (hs.hok _ (.head _))); rfl)) fun hv28 => ?_
  refine .l1 Try.underlying24 info_5 (fun v29 => ?_)
  refine JO.know (φ := v29.oneCell' = true) (fun w hs => (by obtain ⟨A, c, rfl, _⟩ := row_rd (by decide) (Res.row_ok.1 (hs.hok _ (.head _))); rfl)) fun hv29 => ?_
  refine .l1 Try.underlying23 info_24 (fun v30 => ?_) (h1 := (by intro a ha; simp only [List.mem_cons, List.not_mem_nil, or_false] at ha; rcases ha with rfl | rfl; exact hv28; exact hv29))
  refine JO.freeze (v := v28) (by repeat (first | exact Pull.here _ _ | apply Pull.there)) (by decide) ?_
  refine JO.freeze (v := v29) (by repeat (first | exact Pull.here _ _ | apply Pull.there)) (by decide) ?_
  refine JO.bundle (pcRes [(v28, [97#8]), (v29, [99#8])]) (Subs.sub (by repeat (first | exact Subs.nil _ | apply Subs.cons | exact List.Mem.head _ | refine List.Mem.tail _ ?_))) ?_
  refine .cb (f14A_spec b15 w3 (.map none) MM.nil (.inl ⟨rfl, rfl⟩) A3 (by rw [← bytesP_len, hBA3]; decide) v30 [(v28, [97#8]), (v29, [99#8])]) body_14 ?_ (h0 := by rintro _ _ _ ⟨_, _, _, _, h, _⟩; exact h)
  rintro _ _ ⟨w4, mv4, hm4, rfl, _, rfl⟩
  refine .ap ?_
  rw [show bytesP [(v28, [97#8]), (v29, [99#8])] = [[97#8], [99#8]] from rfl] at hm4 ⊢
  refine JO.allOf A3 A3 (delP A3 [[97#8], [99#8]]) (by repeat (first | exact List.Mem.head _ | refine List.Mem.tail _ ?_)) (by repeat (first | exact List.Mem.head _ | refine List.Mem.tail _ ?_)) (fun z hz => .inl (delP_sub z hz)) ?_
  have hBd := delP_bytes A3 [[97#8], [99#8]]
  rw [hBA3] at hBd
  obtain ⟨A4, hA4⟩ : ∃ X, delP A3 [[97#8], [99#8]] = X := ⟨_, rfl⟩
  rw [hA4] at hBd ⊢
  have hBA4 : bytesP A4 = [[98#8]] := hBd.trans (by decide)
  rw [show (A3.length : Int) - (A4.length : Int) = 1 from by rw [← bytesP_len, ← bytesP_len, hBA3, hBA4]; decide]
  refine .w (.assign rfl) ?_
  refine .nil (.tn (.seq (.region ?_)))
  refine .w (.move rfl) ?_
  refine .l1 Try.underlying24 info_5 (fun v33 => ?_)
  refine .cb (f12_spec b15 w4 mv4 (putsM MM.nil [[97#8], [99#8]]) hm4 A4 (by rw [← bytesP_len, hBA4]; decide) v33 [99#8]) body_12 ?_ (h0 := by rintro _ _ _ ⟨_, _, _, _, h, _⟩; exact h)
  rintro _ _ ⟨w5, N5, hN5, rfl, _, rfl⟩
  refine .ap ?_
  rw [hBA4, show addN [[98#8]] (wasB (putsM MM.nil [[97#8], [99#8]])) [99#8] = [] from by decide] at hN5
  rw [hBA4, show addE [[98#8]] (wasB (putsM MM.nil [[97#8], [99#8]])) [99#8] = 13 from by decide]
  refine JO.frzP (by repeat (first | exact Pull.here _ _ | apply Pull.there)) ?_
  refine JO.allOf A4 N5 (A4 ++ N5) (by repeat (first | exact List.Mem.head _ | refine List.Mem.tail _ ?_)) (by repeat (first | exact List.Mem.head _ | refine List.Mem.tail _ ?_)) (fun z hz => List.mem_append.1 hz) ?_
  obtain ⟨A5, hA5⟩ : ∃ X, A4 ++ N5 = X := ⟨_, rfl⟩
  rw [hA5]
  have hBA5 : bytesP A5 = [[98#8]] := by rw [← hA5, show bytesP (A4 ++ N5) = bytesP A4 ++ bytesP N5 from List.map_append, hBA4, hN5]; rfl
  refine .w (.assign rfl) ?_
  refine .nil (.tn (.seq (.region ?_)))
  refine .w (.move rfl) ?_
  refine .cb (f18_spec b15 w5 mv4 A5 9 (by rw [← bytesP_len, hBA5]; decide) (fun b hb => by rw [hBA5] at hb; revert b; decide)) body_18 ?_ (h0 := by rintro _ _ _ ⟨_, _, h, _⟩; exact h)
  rintro v36 _ ⟨B2, hB2, _, rfl⟩
  refine .ap ?_
  rw [show (bytesP A5).take (max 0 (min 9 (A5.length : Int))).toNat = [[98#8]] from by rw [← bytesP_len, hBA5]; decide] at hB2
  refine JO.frzP (by repeat (first | exact Pull.here _ _ | apply Pull.there)) ?_
  refine .w (.assign rfl) ?_
  refine .nil (.tn (.seq (.region ?_)))
  refine .l1 Try.underlying24 info_5 (fun v38 => ?_)
  refine JO.know (φ := v38.oneCell' = true) (fun w hs => (by obtain ⟨A, c, rfl, _⟩ := row_rd (by decide) (Res.row_ok.1 (hs.hok _ (.head _))); rfl)) fun hv38 => ?_
  refine .l1 Try.underlying24 info_5 (fun v39 => ?_)
  refine JO.know (φ := v39.oneCell' = true) (fun w hs => (by obtain ⟨A, c, rfl, _⟩ := row_rd (by decide) (Res.row_ok.1 (hs.hok _ (.head _))); rfl)) fun hv39 => ?_
  refine .l1 Try.underlying23 info_24 (fun v40 => ?_) (h1 := (by intro a ha; simp only [List.mem_cons, List.not_mem_nil, or_false] at ha; rcases ha with rfl | rfl; exact hv38; exact hv39))
  refine JO.freeze (v := v38) (by repeat (first | exact Pull.here _ _ | apply Pull.there)) (by decide) ?_
  refine JO.freeze (v := v39) (by repeat (first | exact Pull.here _ _ | apply Pull.there)) (by decide) ?_
  refine JO.bundle (pcRes [(v38, [97#8]), (v39, [98#8])]) (Subs.sub (by repeat (first | exact Subs.nil _ | apply Subs.cons | exact List.Mem.head _ | refine List.Mem.tail _ ?_))) ?_
  refine .cb (f8_spec 7#64 v40 [(v38, [97#8]), (v39, [98#8])]) body_8 ?_ (h0 := by rintro _ _ _ ⟨_, _, h, _⟩; exact h)
  rintro _ _ ⟨x1, rfl, _, rfl⟩
  refine .ap ?_
  have hp : packE (bytesP [(v38, [97#8]), (v39, [98#8])]) = 0 := (show packE [[97#8], [98#8]] = 0 by decide)
  rw [show packO 7#64 (bytesP [(v38, [97#8]), (v39, [98#8])]) = packB 7#64 (bytesP [(v38, [97#8]), (v39, [98#8])]) from if_pos hp, hp]
  refine JO.freeze (v := x1) (by repeat (first | exact Pull.here _ _ | apply Pull.there)) (by decide) ?_
  refine .w (.move rfl) ?_
  refine .w (.extract rfl rfl) ?_
  refine .w (.extract rfl rfl) ?_
  refine .w (.assign rfl) ?_
  refine .w (.assign rfl) ?_
  refine .nil (.tn (.seq (.region ?_)))
  refine .w (.move rfl) ?_
  refine .cs (f9_spec x1 (packB 7#64 (bytesP [(v38, [97#8]), (v39, [98#8])])) (by have := packO_len 7#64 (bytesP [(v38, [97#8]), (v39, [98#8])]); rw [show packO 7#64 (bytesP [(v38, [97#8]), (v39, [98#8])]) = packB 7#64 (bytesP [(v38, [97#8]), (v39, [98#8])]) from if_pos hp] at this; omega)) body_9 ?_
  rintro _ _ _ ⟨x2, N6, hN6, rfl, rfl, rfl⟩
  refine .ap ?_
  refine .ap ?_
  rw [(un_pack hp).2.2] at hN6
  rw [(un_pack hp).1, (un_pack hp).2.1]
  refine .w (.move rfl) ?_
  refine .w (.extract rfl rfl) ?_
  refine .w (.extract rfl rfl) ?_
  refine .w (.extract rfl rfl) ?_
  refine .w (.assign rfl) ?_
  refine .w (.assign rfl) ?_
  refine .w (.assign rfl) ?_
  refine .nil (.tn (.seq (.region ?_)))
  refine .w (.move rfl) ?_
  refine .w (.as (v' := .bool true) (.bin rfl rfl BinR.eql_i) rfl) ?_
  refine .w (.move rfl) ?_
  refine .gt (g := 52) rfl rfl rfl ?_
  refine .w (.move rfl) ?_
  refine .gt (g := 52) rfl rfl rfl ?_
  refine .w (.as (v' := .bool true) (.bin rfl rfl BinR.eql_i) rfl) ?_
  refine .w (.pick1 rfl rfl rfl) ?_
  refine .w (.move rfl) ?_
  refine .gt (g := 56) rfl rfl rfl ?_
  refine .w (.move rfl) ?_
  refine .gt (g := 56) rfl rfl rfl ?_
  refine .w (.as (v' := .bool true) (.bin rfl rfl BinR.eql_i) rfl) ?_
  refine .w (.pick1 rfl rfl rfl) ?_
  refine .w (.move rfl) ?_
  refine .gt (g := 60) rfl rfl rfl ?_
  refine .w (.move rfl) ?_
  refine .gt (g := 60) rfl rfl rfl ?_
  refine .l1 Try.underlying24 info_5 (fun v62 => ?_)
  refine JO.know (φ := v62.oneCell' = true) (fun w hs => (by obtain ⟨A, c, rfl, _⟩ := row_rd (by decide) (Res.row_ok.1 (hs.hok _ (.head _))); rfl)) fun hv62 => ?_
  refine .gt (g := 60) rfl rfl rfl ?_
  refine .l1 Try.underlying23 info_24 (fun v63 => ?_) (h1 := (one_sing hv62))
  refine JO.freeze (v := v62) (by repeat (first | exact Pull.here _ _ | apply Pull.there)) (by decide) ?_
  refine JO.bundle (pcRes [(v62, [97#8])]) (Subs.sub (by repeat (first | exact Subs.nil _ | apply Subs.cons | exact List.Mem.head _ | refine List.Mem.tail _ ?_))) ?_
  refine .gt (g := 60) rfl rfl rfl ?_
  refine .c (f10_spec v26 v63 B1 [(v62, [97#8])]) body_10 ?_
  rw [decide_eq_true (show bytesP B1 = bytesP [(v62, [97#8])] by rw [hB1]; rfl)]
  refine .w (.pick1 rfl rfl rfl) ?_
  refine .w (.move rfl) ?_
  refine .gt (g := 66) rfl rfl rfl ?_
  refine .w (.move rfl) ?_
  refine .gt (g := 66) rfl rfl rfl ?_
  refine .w (.as (v' := .bool true) (.bin rfl rfl BinR.eql_i) rfl) ?_
  refine .w (.pick1 rfl rfl rfl) ?_
  refine .w (.move rfl) ?_
  refine .gt (g := 70) rfl rfl rfl ?_
  refine .w (.move rfl) ?_
  refine .gt (g := 70) rfl rfl rfl ?_
  refine .w (.as (v' := .bool true) (.bin rfl rfl BinR.eql_i) rfl) ?_
  refine .w (.pick1 rfl rfl rfl) ?_
  refine .w (.move rfl) ?_
  refine .gt (g := 74) rfl rfl rfl ?_
  refine .w (.move rfl) ?_
  refine .gt (g := 74) rfl rfl rfl ?_
  refine .l1 Try.underlying24 info_5 (fun v76 => ?_)
  refine JO.know (φ := v76.oneCell' = true) (fun w hs => (by obtain ⟨A, c, rfl, _⟩ := row_rd (by decide) (Res.row_ok.1 (hs.hok _ (.head _))); rfl)) fun hv76 => ?_
  refine .gt (g := 74) rfl rfl rfl ?_
  refine .l1 Try.underlying23 info_24 (fun v77 => ?_) (h1 := (one_sing hv76))
  refine JO.freeze (v := v76) (by repeat (first | exact Pull.here _ _ | apply Pull.there)) (by decide) ?_
  refine JO.bundle (pcRes [(v76, [98#8])]) (Subs.sub (by repeat (first | exact Subs.nil _ | apply Subs.cons | exact List.Mem.head _ | refine List.Mem.tail _ ?_))) ?_
  refine .gt (g := 74) rfl rfl rfl ?_
  refine .c (f10_spec v36 v77 B2 [(v76, [98#8])]) body_10 ?_
  rw [decide_eq_true (show bytesP B2 = bytesP [(v76, [98#8])] by rw [hB2]; rfl)]
  refine .w (.pick1 rfl rfl rfl) ?_
  refine .w (.move rfl) ?_
  refine .gt (g := 80) rfl rfl rfl ?_
  refine .w (.move rfl) ?_
  refine .gt (g := 80) rfl rfl rfl ?_
  refine .w (.as (v' := .bool true) (.bin rfl rfl (BinR.eql_u64 (b := 7#64))) rfl) ?_
  refine .w (.pick1 rfl rfl rfl) ?_
  refine .w (.move rfl) ?_
  refine .gt (g := 84) rfl rfl rfl ?_
  refine .w (.move rfl) ?_
  refine .gt (g := 84) rfl rfl rfl ?_
  refine .w (.as (v' := .bool true) (.bin rfl rfl BinR.eql_i) rfl) ?_
  refine .w (.pick1 rfl rfl rfl) ?_
  refine .w (.move rfl) ?_
  refine .gt (g := 88) rfl rfl rfl ?_
  refine .w (.move rfl) ?_
  refine .gt (g := 88) rfl rfl rfl ?_
  refine .l1 Try.underlying24 info_5 (fun v90 => ?_)
  refine JO.know (φ := v90.oneCell' = true) (fun w hs => (by obtain ⟨A, c, rfl, _⟩ := row_rd (by decide) (Res.row_ok.1 (hs.hok _ (.head _))); rfl)) fun hv90 => ?_
  refine .gt (g := 88) rfl rfl rfl ?_
  refine .l1 Try.underlying24 info_5 (fun v91 => ?_)
  refine JO.know (φ := v91.oneCell' = true) (fun w hs => (by obtain ⟨A, c, rfl, _⟩ := row_rd (by decide) (Res.row_ok.1 (hs.hok _ (.head _))); rfl)) fun hv91 => ?_
  refine .gt (g := 88) rfl rfl rfl ?_
  refine .l1 Try.underlying23 info_24 (fun v92 => ?_) (h1 := (by intro a ha; simp only [List.mem_cons, List.not_mem_nil, or_false] at ha; rcases ha with rfl | rfl; exact hv90; exact hv91))
  refine JO.freeze (v := v90) (by repeat (first | exact Pull.here _ _ | apply Pull.there)) (by decide) ?_
  refine JO.freeze (v := v91) (by repeat (first | exact Pull.here _ _ | apply Pull.there)) (by decide) ?_
  refine JO.bundle (pcRes [(v90, [97#8]), (v91, [98#8])]) (Subs.sub (by repeat (first | exact Subs.nil _ | apply Subs.cons | exact List.Mem.head _ | refine List.Mem.tail _ ?_))) ?_
  refine .gt (g := 88) rfl rfl rfl ?_
  refine .c (f10_spec x2 v92 N6 [(v90, [97#8]), (v91, [98#8])]) body_10 ?_
  rw [decide_eq_true (show bytesP N6 = bytesP [(v90, [97#8]), (v91, [98#8])] by rw [hN6]; rfl)]
  refine .w (.pick1 rfl rfl rfl) ?_
  refine .w (.assign rfl) ?_
  refine .nil (.tn (.ret ?_))
  exact .dn [] [] (res1 rfl (.tmp rfl)) ⟨rfl, rfl, rfl⟩
end Go.Proofs.Ytffgimlkmfjgmaa
