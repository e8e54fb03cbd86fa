/- Texts of ours, gathered: ZC O1 B F1 V1 V2 O2. -/
import Derived.Test.YtmhiapebljfebaaGreatDoorProg
import Derived.Tactics
import Derived.Tactics2
import Derived.Defers
import Derived.Laws.Pointers
import Derived.Laws.LoneSync
import Derived.RegionTactic
import Derived.RegionCalls
import Derived.ChangeAlike
import Derived.KernelRfl
import Derived.Test.YtmhiapebljfebaaGreatDoorRows
import Derived.Test.YtmhiapebljfebaaGreatDoorQ04
/- Numbers of four words, what is decided, steps, a Config, as_ they come in. -/
namespace Go.Proofs.YtmhiapebljfebaaGreatDoor
open Go.ChangeShapes Go.WideShapes Go.ChangeAt Go.RowKit
set_option maxRecDepth 100000
variable {H : Type} {enc : TypeId × Value → H} {w : World}
theorem wd_four (a b c d : W64) : [a, b, c, d] = wd (a.toNat + b.toNat * 18446744073709551616 + c.toNat * 340282366920938463463374607431768211456 + d.toNat * 6277101735386680763835789423207666416102355444464034512896) ∧ a.toNat + b.toNat * 18446744073709551616 + c.toNat * 340282366920938463463374607431768211456 + d.toNat * 6277101735386680763835789423207666416102355444464034512896 < 115792089237316195423570985008687907853269984665640564039457584007913129639936 := by
  have ha := a.isLt; have hb := b.isLt; have hc := c.isLt; have hd := d.isLt
  refine ⟨?_, by omega⟩
  have e : ∀ (x : W64) (n : Nat), n % 18446744073709551616 = x.toNat → x = BitVec.ofNat 64 n := fun x n h => BitVec.eq_of_toNat_eq (by rw [BitVec.toNat_ofNat]; exact h.symm)
  unfold wd
  rw [← e a _ (by omega), ← e b _ (by omega), ← e c _ (by omega), ← e d _ (by omega)]
theorem came_nat {cs : List Value} (h : Came enc Tryz.prog w 40 cs) : ∃ n : Nat, cs = natC n ∧ n < 115792089237316195423570985008687907853269984665640564039457584007913129639936 := by
  obtain ⟨hl, he⟩ := h.array Tryz.underlying40
  have hl : cs.length = 4 := hl.trans (by kernel_rfl)
  have h1 : Tryz.prog.cellsOf 22 = 1 := by kernel_rfl
  rw [h1] at he
  match cs, hl with
  | [c0, c1, c2, c3], _ =>
    obtain ⟨a, ha⟩ := Came.u64 Tryz.underlying22 (he 0 (by decide))
    obtain ⟨b, hb⟩ := Came.u64 Tryz.underlying22 (he 1 (by decide))
    obtain ⟨c, hc⟩ := Came.u64 Tryz.underlying22 (he 2 (by decide))
    obtain ⟨d, hd⟩ := Came.u64 Tryz.underlying22 (he 3 (by decide))
    obtain rfl : c0 = u64 a := by simpa using ha
    obtain rfl : c1 = u64 b := by simpa using hb
    obtain rfl : c2 = u64 c := by simpa using hc
    obtain rfl : c3 = u64 d := by simpa using hd
    obtain ⟨e1, e2⟩ := wd_four a b c d
    exact ⟨_, by unfold natC; rw [← e1]; rfl, e2⟩
theorem came_nats {v : Value} (h : Came enc Tryz.prog w 38 [v]) : ∃ l : List Nat, IsRd w v l.length 4 (bks natC l) ∧ ∀ a ∈ l, a < 115792089237316195423570985008687907853269984665640564039457584007913129639936 := by
  obtain ⟨n, xs, h1, h2⟩ := h.slice (size := 4) Tryz.underlying38 (by kernel_rfl) (by decide)
  obtain ⟨l, rfl, rfl, h3⟩ := pieces (f := natC) (p := fun a => a < 115792089237316195423570985008687907853269984665640564039457584007913129639936) (s := 4) (by decide) n xs (by obtain ⟨_, _, _, hl, _⟩ := h1; exact hl) (fun i hi => came_nat (h2 i hi))
  exact ⟨l, h1, h3⟩
theorem came_tx {cs : List Value} (h : Came enc Tryz.prog w 42 cs) : ∃ s : SX, cs = txC s.tx ∧ s.at_ = 0 ∧ (∀ a ∈ s.com, a < 115792089237316195423570985008687907853269984665640564039457584007913129639936) ∧ s.val < 115792089237316195423570985008687907853269984665640564039457584007913129639936 ∧ IsRd w s.tx.v s.com.length 4 (bks natC s.com) := by
  obtain ⟨hl, hf⟩ := h.struct Tryz.underlying42
  have hl : cs.length = 9 := hl.trans (by kernel_rfl)
  have s1 : Tryz.prog.cellsOf 3 = 1 := by kernel_rfl
  have s2 : Tryz.prog.cellsOf 38 = 1 := by kernel_rfl
  have s4 : Tryz.prog.cellsOf 40 = 4 := by kernel_rfl
  obtain ⟨k0, hk0, _⟩ := Came.it Tryz.underlying3 (by have h0 : Came enc Tryz.prog w 3 ((cs.drop 0).take (Tryz.prog.cellsOf 3)) := hf 0 _ rfl; rw [s1] at h0; exact h0)
  obtain ⟨k1, hk1, _⟩ := Came.it Tryz.underlying3 (by have h0 : Came enc Tryz.prog w 3 ((cs.drop 1).take (Tryz.prog.cellsOf 3)) := hf 1 _ rfl; rw [s1] at h0; exact h0)
  obtain ⟨k2, hk2, _⟩ := Came.it Tryz.underlying3 (by have h0 : Came enc Tryz.prog w 3 ((cs.drop 2).take (Tryz.prog.cellsOf 3)) := hf 2 _ rfl; rw [s1] at h0; exact h0)
  obtain ⟨k3, hk3, _⟩ := Came.it Tryz.underlying3 (by have h0 : Came enc Tryz.prog w 3 ((cs.drop 3).take (Tryz.prog.cellsOf 3)) := hf 3 _ rfl; rw [s1] at h0; exact h0)
  have h4 : Came enc Tryz.prog w 38 ((cs.drop 4).take 1) := by have h0 : Came enc Tryz.prog w 38 ((cs.drop 4).take (Tryz.prog.cellsOf 38)) := hf 4 _ rfl; rw [s2] at h0; exact h0
  obtain ⟨n, hn, hn2⟩ := came_nat (by have h0 : Came enc Tryz.prog w 40 ((cs.drop 5).take (Tryz.prog.cellsOf 40)) := hf 5 _ rfl; rw [s4] at h0; exact h0)
  match cs, hl with
  | [c0, c1, c2, c3, c4, c5, c6, c7, c8], _ =>
    obtain ⟨b, hb, hb2⟩ := came_nats h4
    have hb3 := hb
    obtain ⟨A, c, rfl, _⟩ := hb
    obtain rfl : c0 = it k0 := by simpa using hk0
    obtain rfl : c1 = it k1 := by simpa using hk1
    obtain rfl : c2 = it k2 := by simpa using hk2
    obtain rfl : c3 = it k3 := by simpa using hk3
    have hn' : [c5, c6, c7, c8] = natC n := by simpa using hn
    exact ⟨⟨0, k0, k1, k2, k3, A, b.length, c, b, n⟩, by show _ :: _ :: _ :: _ :: _ :: [c5, c6, c7, c8] = _; rw [hn']; rfl, rfl, hb2, hn2, hb3⟩
theorem came_stps {v : Value} (h : Came enc Tryz.prog w 26 [v]) : ∃ l : { l : List SX // ∀ s ∈ l, SXok s }, Rds w [Res.rd v l.1.length 10 (bks stpC l.1), Res.all (stpRes l.1)] := by
  obtain ⟨n, xs, h1, h2⟩ := h.slice (size := 10) Tryz.underlying26 (by kernel_rfl) (by decide)
  obtain ⟨l, rfl, rfl, h3⟩ := pieces (f := stpC) (p := fun s => SXok s ∧ IsRd w s.tx.v s.com.length 4 (bks natC s.com)) (s := 10) (by decide) n xs (by obtain ⟨_, _, _, hl, _⟩ := h1; exact hl) (fun i hi => by
    obtain ⟨hl, hf⟩ := (h2 i hi).struct Tryz.underlying44
    have hl : ((xs.drop (i * 10)).take 10).length = 10 := hl.trans (by kernel_rfl)
    generalize (xs.drop (i * 10)).take 10 = cs at hl hf
    have s1 : Tryz.prog.cellsOf 3 = 1 := by kernel_rfl
    have s9 : Tryz.prog.cellsOf 42 = 9 := by kernel_rfl
    obtain ⟨k0, hk0, hf0⟩ := Came.it Tryz.underlying3 (by have h0 : Came enc Tryz.prog w 3 ((cs.drop 0).take (Tryz.prog.cellsOf 3)) := hf 0 _ rfl; rw [s1] at h0; exact h0)
    obtain ⟨s, hs, -, hc, hv, hr⟩ := came_tx (by have h0 : Came enc Tryz.prog w 42 ((cs.drop 1).take (Tryz.prog.cellsOf 42)) := hf 1 _ rfl; rw [s9] at h0; exact h0)
    refine ⟨{ s with at_ := k0 }, ?_, ⟨?_, hc, hv⟩, hr⟩
    · have t1 : (cs.drop 1).take 9 = cs.drop 1 := List.take_of_length_le (by rw [List.length_drop]; omega)
      have e : cs = (cs.drop 0).take 1 ++ (cs.drop 1).take 9 := by rw [t1, List.drop_zero, List.take_append_drop]
      rw [e, hk0, hs]; rfl
    · exact hf0.2)
  refine ⟨⟨l, fun s hs => (h3 s hs).1⟩, (Rds.one h1).append (Rds.all fun r hr => ?_)⟩
  obtain ⟨d, hd, rfl⟩ := List.mem_map.1 hr
  exact (Rds.one (h3 d hd).2) _ (.head _)
theorem came_cfg {cs : List Value} (h : Came enc Tryz.prog w 24 cs) : ∃ c : Cfg, cs = cfgC c := by
  obtain ⟨hl, hf⟩ := h.struct Tryz.underlying24
  have hl : cs.length = 7 := hl.trans (by kernel_rfl)
  have s1 : Tryz.prog.cellsOf 3 = 1 := by kernel_rfl
  have s2 : Tryz.prog.cellsOf 22 = 1 := by kernel_rfl
  have hI : ∀ i, i < 6 → ∃ k : Int, (cs.drop i).take 1 = [it k] := fun i hi => by
    have h0 : Came enc Tryz.prog w 3 ((cs.drop i).take (Tryz.prog.cellsOf 3)) := by
      rcases (show i = 0 ∨ i = 1 ∨ i = 2 ∨ i = 3 ∨ i = 4 ∨ i = 5 by omega) with rfl | rfl | rfl | rfl | rfl | rfl
      · exact hf 0 _ rfl
      · exact hf 1 _ rfl
      · exact hf 2 _ rfl
      · exact hf 3 _ rfl
      · exact hf 4 _ rfl
      · exact hf 5 _ rfl
    rw [s1] at h0
    obtain ⟨k, hk, _⟩ := Came.it Tryz.underlying3 h0
    exact ⟨k, hk⟩
  obtain ⟨x, hx⟩ := Came.u64 Tryz.underlying22 (by have h0 : Came enc Tryz.prog w 22 ((cs.drop 6).take (Tryz.prog.cellsOf 22)) := hf 6 _ rfl; rw [s2] at h0; exact h0)
  obtain ⟨k0, h0⟩ := hI 0 (by decide)
  obtain ⟨k1, h1⟩ := hI 1 (by decide)
  obtain ⟨k2, h2⟩ := hI 2 (by decide)
  obtain ⟨k3, h3⟩ := hI 3 (by decide)
  obtain ⟨k4, h4⟩ := hI 4 (by decide)
  obtain ⟨k5, h5⟩ := hI 5 (by decide)
  match cs, hl with
  | [c0, c1, c2, c3, c4, c5, c6], _ =>
    obtain rfl : c0 = it k0 := by simpa using h0
    obtain rfl : c1 = it k1 := by simpa using h1
    obtain rfl : c2 = it k2 := by simpa using h2
    obtain rfl : c3 = it k3 := by simpa using h3
    obtain rfl : c4 = it k4 := by simpa using h4
    obtain rfl : c5 = it k5 := by simpa using h5
    obtain rfl : c6 = u64 x := by simpa using hx
    exact ⟨⟨k0, k1, k2, k3, k4, k5, x⟩, rfl⟩
theorem open_cfg {W : World} {v : Value} {r : Reach} {b0 : Nat} {d : DataW H} {ps : List MemPlace} {base : Nat} {spare : Nat → Bool} {held : Bool} (hval : Value.okWide Tryz.prog W r b0 24 v) (h : DataW.Trod enc Tryz.prog W base spare held 24 v d ps) : ∃ x : Cfg, v = .agg (cfgC x).toArray := by
  simp only [Value.okWide, Tryz.underlying24] at hval
  obtain ⟨cs, rfl, _, _⟩ := hval
  obtain ⟨m, hm⟩ := h
  obtain ⟨x, hx⟩ := came_cfg (cs := cs.toList) ⟨_, _, _, m, _, hm⟩
  exact ⟨x, by show Value.agg cs = Value.agg (cfgC x).toArray; rw [← hx]⟩
end Go.Proofs.YtmhiapebljfebaaGreatDoor

/- sync.Once: who asks first has it done, who asks again finds it done. (Turned from a worked proof: Lazy.) -/
namespace Go.Proofs.YtmhiapebljfebaaGreatDoor
open Go.RowKit
theorem once_disable (w : World) : (callFunc 230 #[]).run Tryz.prog w = .ok (.value (.tuple #[])) w := run_call_mark0 Tryz.func230 (by kernel_rfl) (by kernel_rfl) (by kernel_rfl) .disable (by kernel_rfl) w
theorem once_enable (w : World) : (callFunc 232 #[]).run Tryz.prog w = .ok (.value (.tuple #[])) w := run_call_mark0 Tryz.func232 (by kernel_rfl) (by kernel_rfl) (by kernel_rfl) .enable (by kernel_rfl) w
theorem once_acquire (a : Addr) (w : World) : (callFunc 233 #[.pointer (some a)]).run Tryz.prog w = .ok (.value (.tuple #[])) w := run_call_marked Tryz.func233 (by kernel_rfl) (by kernel_rfl) (by kernel_rfl) .acquire (by kernel_rfl) a w
theorem once_release (a : Addr) (w : World) : (callFunc 235 #[.pointer (some a)]).run Tryz.prog w = .ok (.value (.tuple #[])) w := run_call_marked Tryz.func235 (by kernel_rfl) (by kernel_rfl) (by kernel_rfl) .releaseMerge (by kernel_rfl) a w
theorem once_store (a : Addr) (x : Value) (u : FrameMode) (w : World) (hc : w.cell? a = some x) (hz : w.frozen? a = false) :
    CallsD Tryz.prog 225 #[.pointer (some a), .bool true] u w fun e u' w' => u' = u ∧ (e = .returned (.tuple #[]) ∧ w' = w.drew.setCell a (.int .u32 1)) := by
  have hc' : w.drew.cell? a = some x := by go_simp
  have hz' : w.drew.frozen? a = false := by go_simp
  have hst := run_call_store (P := Tryz.prog) Tryz.func228 (by kernel_rfl) (by kernel_rfl) (by kernel_rfl) (by kernel_rfl) (k := .u32) (y := 1) hc' hz'
  go_enter_d Tryz.func225, Tryz.ntmps225
  go_wp2
  go_region_calls
  all_goals (go_end0; exact ⟨rfl, rfl⟩)
set_option maxRecDepth 100000 in
set_option maxHeartbeats 1600000 in
theorem once_unlock (a : Addr) (u : FrameMode) (w : World) (hc : w.cell? a = some (.int .i32 1)) (hz : w.frozen? a = false) :
    CallsD Tryz.prog 224 #[.pointer (some a)] u w fun e u' w' => u' = u ∧ (e = .returned (.tuple #[]) ∧ w' = w.setCell a (.int .i32 0)) := by
  have hd := once_disable
  have he := once_enable
  have hr := once_release
  have hadd := run_call_add (P := Tryz.prog) Tryz.func236 (by kernel_rfl) (by kernel_rfl) (by kernel_rfl) .i32 (by kernel_rfl) (y := -1) (s := 0) hc hz (by simp [go_sem]; rfl)
  have hcv := run_convert_to_unsafe (P := Tryz.prog) (src := 292) (dst := 296) Tryz.underlying292 Tryz.underlying296 (by kernel_rfl) hc
  go_enter_d Tryz.func224, Tryz.ntmps224
  go_wp2
  go_end0
  go_wp2
  go_end0
  exact ⟨rfl, rfl⟩
set_option maxRecDepth 100000 in
set_option maxHeartbeats 1600000 in
theorem once_lock (a : Addr) (w : World) (hc : w.cell? a = some (.int .i32 0)) (hz : w.frozen? a = false) :
    Calls Tryz.prog 223 #[.pointer (some a)] w fun e w' => e = .returned (.tuple #[]) ∧ w' = w.setCell a (.int .i32 1) := by
  have hd := once_disable
  have he := once_enable
  have ha := once_acquire
  have hcas := run_call_cas_hit (P := Tryz.prog) Tryz.func231 (by kernel_rfl) (by kernel_rfl) (by kernel_rfl) .i32 (by kernel_rfl) (y := 1) hc hz
  have hc' : (w.setCell a (.int .i32 1)).cell? a = some (.int .i32 1) := World.cell?_setCell_same w a _ hc
  have hcv := run_convert_to_unsafe (P := Tryz.prog) (src := 292) (dst := 296) Tryz.underlying292 Tryz.underlying296 (by kernel_rfl) hc'
  go_enter Tryz.func223, Tryz.ntmps223
  go_wp2
  first | go_end0 | (simp only [Exit.inBlock, Exit.then]; refine bodyPost_ret (results_none rfl _ _ _) rfl ?_) | refine bodyPost_ret (results_none rfl _ _ _) rfl ?_
  go_wp2
  go_end0
  exact ⟨rfl, rfl⟩
/-- What the function that is asked once does. -/
def OnceR (b off : Nat) (K : World → Prop) (e : Ending) (w : World) : Prop := e = .returned (.tuple #[]) ∧ K w ∧ w.cell? ⟨b, off, none⟩ = some (.int .u32 0) ∧ w.cell? ⟨b, off + 1, none⟩ = some (.int .i32 1) ∧ w.frozen? ⟨b, off, none⟩ = false ∧ w.frozen? ⟨b, off + 1, none⟩ = false
set_option maxRecDepth 100000 in
set_option maxHeartbeats 1600000 in
theorem once_slow (b off : Nat) (cap : Array Value) (K : World → Prop) (w : World) (h0 : w.cell? ⟨b, off, none⟩ = some (.int .u32 0)) (h1 : w.cell? ⟨b, off + 1, none⟩ = some (.int .i32 0))
    (f0 : w.frozen? ⟨b, off, none⟩ = false) (f1 : w.frozen? ⟨b, off + 1, none⟩ = false)
    (hf : Calls Tryz.prog 211 cap (w.setCell ⟨b, off + 1, none⟩ (.int .i32 1)) (OnceR b off K)) :
    Calls Tryz.prog 220 #[.pointer (some ⟨b, off, none⟩), .func (.func 211) #[] cap] w fun e w' => e = .returned (.tuple #[]) ∧
      ∃ w2, K w2 ∧ w' = (w2.drew.setCell ⟨b, off, none⟩ (.int .u32 1)).setCell ⟨b, off + 1, none⟩ (.int .i32 0) := by
  have hl := run_call_load (P := Tryz.prog) Tryz.func222 (by kernel_rfl) (by kernel_rfl) (by kernel_rfl) .u32 (by kernel_rfl) (w := w.setCell ⟨b, off + 1, none⟩ (.int .i32 1)) (a := ⟨b, off, none⟩) (x := 0) ((World.cell?_setCell_other _ ⟨b, off + 1, none⟩ ⟨b, off, none⟩ _ (by simp)).trans h0)
  have hnot : ∀ (x : Bool) (w : World), (Op.unary .not (.bool x)).run Tryz.prog w = .ok (.bool (!x)) w := fun _ _ => rfl
  go_enter_defers Tryz.func220, Tryz.ntmps220
  go_wp2_with (first | (go_at_call 223; refine (once_lock ⟨b, off + 1, none⟩ _ (by go_simp) (by go_simp)).mono ?_; rintro e w' ⟨rfl, rfl⟩) | (go_at_call 211; refine hf.mono ?_; rintro e w2 ⟨rfl, hK, k0, k1, z0, z1⟩) | (go_at_call 219; go_in))
  refine leaves_cons (f := 225) (args := #[.pointer (some ⟨b, off, none⟩), .bool true]) (by simp) (by simp [go_sem]) ?_
  refine (once_store ⟨b, off, none⟩ (.int .u32 0) .returning _ k0 z0).mono ?_
  rintro e u' w'' ⟨rfl, rfl, rfl⟩
  refine leaves_cons (f := 224) (args := #[.pointer (some ⟨b, off + 1, none⟩)]) (by simp [settle]) (by simp [go_sem]) ?_
  refine (once_unlock ⟨b, off + 1, none⟩ _ _ ?_ ?_).mono ?_
  · refine (World.cell?_setCell_other _ ⟨b, off, none⟩ ⟨b, off + 1, none⟩ _ (by simp)).trans ?_
    rw [World.cell?_drew]; exact k1
  · go_simp
  rintro e u' w'' ⟨rfl, rfl, rfl⟩
  simp [Leaves, settle, results, Tryz.results220]
  exact ⟨w2, hK, rfl⟩
set_option maxRecDepth 100000 in
set_option maxHeartbeats 1600000 in
theorem once_first (b off : Nat) (cap : Array Value) (K : World → Prop) (w : World) (h0 : w.cell? ⟨b, off, none⟩ = some (.int .u32 0)) (h1 : w.cell? ⟨b, off + 1, none⟩ = some (.int .i32 0))
    (f0 : w.frozen? ⟨b, off, none⟩ = false) (f1 : w.frozen? ⟨b, off + 1, none⟩ = false)
    (hf : Calls Tryz.prog 211 cap (w.setCell ⟨b, off + 1, none⟩ (.int .i32 1)) (OnceR b off K)) :
    Calls Tryz.prog 210 #[.pointer (some ⟨b, off, none⟩), .func (.func 211) #[] cap] w fun e w' => e = .returned (.tuple #[]) ∧
      ∃ w2, K w2 ∧ w' = (w2.drew.setCell ⟨b, off, none⟩ (.int .u32 1)).setCell ⟨b, off + 1, none⟩ (.int .i32 0) := by
  have hl := run_call_load (P := Tryz.prog) Tryz.func222 (by kernel_rfl) (by kernel_rfl) (by kernel_rfl) .u32 (by kernel_rfl) h0
  have hnot : ∀ (x : Bool) (w : World), (Op.unary .not (.bool x)).run Tryz.prog w = .ok (.bool (!x)) w := fun _ _ => rfl
  go_enter Tryz.func210, Tryz.ntmps210
  go_wp2_with (first | (go_at_call 220; refine (once_slow b off cap K _ h0 h1 f0 f1 hf).mono ?_; rintro e w' ⟨rfl, hK⟩) | (go_at_call 219; go_in))
  go_end0
  exact ⟨rfl, hK⟩
theorem once_again (a : Addr) (d : Int) (hd : ¬ d = 0) (fv : Value) (w : World) (h0 : w.cell? a = some (.int .u32 d)) :
    Calls Tryz.prog 210 #[.pointer (some a), fv] w fun e w' => e = .returned (.tuple #[]) ∧ w' = w := by
  have hl := run_call_load (P := Tryz.prog) Tryz.func222 (by kernel_rfl) (by kernel_rfl) (by kernel_rfl) .u32 (by kernel_rfl) h0
  have hnot : ∀ (x : Bool) (w : World), (Op.unary .not (.bool x)).run Tryz.prog w = .ok (.bool (!x)) w := fun _ _ => rfl
  have hd' : (d != 0) = true := by simp [hd]
  go_enter Tryz.func210, Tryz.ntmps210
  go_wp2
  go_end0
  exact ⟨rfl, rfl⟩
/-! ### As contracts of ours -/
theorem cells_heap {b : Nat} {cs : List Value} {T : TypeId} {w : World} (h : w.heap[b]? = some (.cells cs.toArray T (0, 0))) (i : Nat) : w.cell? ⟨b, i, none⟩ = cs[i]? ∧ w.frozen? ⟨b, i, none⟩ = false := by
  constructor
  · simp [World.cell?, h]
  · simp [World.frozen?, h]
theorem St.set1 {C : Beg} {Γ H : RL} {w : World} {b : Nat} {cs : List Value} {T : TypeId} (h : St C Γ (Res.cells b cs T :: H) w) (i : Nat) (v : Value) : St C Γ (Res.cells b (cs.set i v) T :: H) (w.setCell ⟨b, i, none⟩ v) := by
  have hb := Res.cells_ok.1 (h.sat.hok _ (.head _))
  refine h.setBlock rfl rfl rfl (by simp [World.setCell]) ?_ fun k hk => ?_
  · simp [World.setCell, Array.getElem?_modify, hb]
  · simp [World.setCell, Array.getElem?_modify, Ne.symm hk]
end Go.Proofs.YtmhiapebljfebaaGreatDoor

/- Closed facts of the loaded program: sizes, places, bodies. Printed by a program of ours. -/
namespace Go.Proofs.YtmhiapebljfebaaGreatDoor
open Go.RowKit
set_option maxRecDepth 100000
theorem sz_22 : (Tryz.prog.info? 22).map (·.size) = some 1 := by kernel_rfl
theorem sz_117 : (Tryz.prog.info? 117).map (·.size) = some 5 := by kernel_rfl
theorem sz_120 : (Tryz.prog.info? 120).map (·.size) = some 9 := by kernel_rfl
theorem mkey_224 : MKey Tryz.prog 40 ntV := mkeyNat Tryz.underlying40 Tryz.underlying22 sz_22
theorem sz_55 : (Tryz.prog.info? 55).map (·.size) = some 12 := by kernel_rfl
theorem mkey_102 : MKey Tryz.prog 3 itK := MKey.int Tryz.underlying3
theorem mkey_103 : MKey Tryz.prog 3 itK := MKey.int Tryz.underlying3
theorem ext_193 (x y c : BitVec 64) (hc : c.toNat ≤ 1) (w : World) : (callFunc 193 #[u64 x, u64 y, u64 c]).run Tryz.prog w = .ok (.value (.tuple #[u64 (x + y + c), u64 (BitVec.ofNat 64 ((x.toNat + y.toNat + c.toNat) / 18446744073709551616))])) w := add64 Tryz.func193 rfl rfl (by kernel_rfl) (by kernel_rfl) x y c hc w
theorem ext_215 (x y c : BitVec 64) (hc : c.toNat ≤ 1) (w : World) : (callFunc 215 #[u64 x, u64 y, u64 c]).run Tryz.prog w = .ok (.value (.tuple #[u64 (x - y - c), u64 (if x.toNat < y.toNat + c.toNat then 1 else 0)])) w := sub64 Tryz.func215 rfl rfl (by kernel_rfl) (by kernel_rfl) x y c hc w
theorem agg_254 : Agg Tryz.prog 254 8 := Agg.mk Tryz.underlying254 rfl (by kernel_rfl)
theorem row_185_Len : Row Tryz.prog 185 "Len" 263 false := by unfold Row; kernel_rfl
theorem row_185_Less : Row Tryz.prog 185 "Less" 264 false := by unfold Row; kernel_rfl
theorem row_185_Swap : Row Tryz.prog 185 "Swap" 265 false := by unfold Row; kernel_rfl
theorem row_185_Pop : Row Tryz.prog 185 "Pop" 266 true := by unfold Row; kernel_rfl
theorem row_185_Push : Row Tryz.prog 185 "Push" 267 true := by unfold Row; kernel_rfl
theorem one_182 : One Tryz.prog 182 := One.mk Tryz.underlying182 rfl
theorem sz_187 : (Tryz.prog.info? 187).map (·.size) = some 5 := by kernel_rfl
theorem info_187 : (Tryz.prog.info? 187).map (fun i => (i.zero, i.size, i.bytes)) = some (some (Value.agg #[Value.int .i64 0, Value.int .u64 0, Value.int .u64 0, Value.int .u64 0, Value.int .u64 0]), 5, 40) := by kernel_rfl
theorem body_176 : Body Tryz.prog 176 := Body.mk Tryz.func176 rfl (by decide)
theorem body_178 : Body Tryz.prog 178 := Body.mk Tryz.func178 rfl (by decide)
theorem body_58 : Body Tryz.prog 58 := Body.mk Tryz.func58 rfl (by decide)
theorem body_59 : Body Tryz.prog 59 := Body.mk Tryz.func59 rfl (by decide)
theorem body_60 : Body Tryz.prog 60 := Body.mk Tryz.func60 rfl (by decide)
theorem body_61 : Body Tryz.prog 61 := Body.mk Tryz.func61 rfl (by decide)
theorem body_62 : Body Tryz.prog 62 := Body.mk Tryz.func62 rfl (by decide)
theorem one_22 : One Tryz.prog 22 := One.mk Tryz.underlying22 rfl
theorem zero_40 : (Tryz.prog.info? 40).map (·.zero) = some (some (Value.agg #[Value.int .u64 0, Value.int .u64 0, Value.int .u64 0, Value.int .u64 0])) := by kernel_rfl
theorem mixed : Tryz.prog.follows .mixedOrders = true := by kernel_rfl
theorem agg_40 : Agg Tryz.prog 40 4 := Agg.mk Tryz.underlying40 rfl (by kernel_rfl)
theorem sz_40 : (Tryz.prog.info? 40).map (·.size) = some 4 := by kernel_rfl
theorem body_214 : Body Tryz.prog 214 := Body.mk Tryz.func214 rfl (by decide)
theorem body_160 : Body Tryz.prog 160 := Body.mk Tryz.func160 rfl (by decide)
theorem body_194 : Body Tryz.prog 194 := Body.mk Tryz.func194 rfl (by decide)
theorem body_52 : Body Tryz.prog 52 := Body.mk Tryz.func52 rfl (by decide)
theorem body_195 : Body Tryz.prog 195 := Body.mk Tryz.func195 rfl (by decide)
theorem body_164 : Body Tryz.prog 164 := Body.mk Tryz.func164 rfl (by decide)
theorem body_165 : Body Tryz.prog 165 := Body.mk Tryz.func165 rfl (by decide)
theorem bld_40 : Bld Tryz.prog 40 (fun i => some (i * 1, 1)) [.int .u64 0, .int .u64 0, .int .u64 0, .int .u64 0] := by intro parts; kernel_rfl
theorem body_163 : Body Tryz.prog 163 := Body.mk Tryz.func163 rfl (by decide)
theorem zero_254 : (Tryz.prog.info? 254).map (·.zero) = some (some (Value.agg #[Value.int .u64 0, Value.int .u64 0, Value.int .u64 0, Value.int .u64 0, Value.int .u64 0, Value.int .u64 0, Value.int .u64 0, Value.int .u64 0])) := by kernel_rfl
theorem sz_254 : (Tryz.prog.info? 254).map (·.size) = some 8 := by kernel_rfl
theorem body_147 : Body Tryz.prog 147 := Body.mk Tryz.func147 rfl (by decide)
theorem one_91 : One Tryz.prog 91 := One.mk Tryz.underlying91 rfl
theorem fa_179_0 : FA Tryz.prog 179 0 0 := FA.mk (m := 3) Tryz.underlying179 rfl rfl (by kernel_rfl)
theorem fa_179_2 : FA Tryz.prog 179 2 7 := FA.mk (m := 0) Tryz.underlying179 rfl rfl (by kernel_rfl)
theorem bld_254 : Bld Tryz.prog 254 (fun i => some (i * 1, 1)) [.int .u64 0, .int .u64 0, .int .u64 0, .int .u64 0, .int .u64 0, .int .u64 0, .int .u64 0, .int .u64 0] := by intro parts; kernel_rfl
theorem body_212 : Body Tryz.prog 212 := Body.mk Tryz.func212 rfl (by decide)
theorem fa_179_3 : FA Tryz.prog 179 3 8 := FA.mk (m := 3) Tryz.underlying179 rfl rfl (by kernel_rfl)
theorem body_213 : Body Tryz.prog 213 := Body.mk Tryz.func213 rfl (by decide)
theorem fa_179_1 : FA Tryz.prog 179 1 4 := FA.mk (m := 2) Tryz.underlying179 rfl rfl (by kernel_rfl)
theorem body_210 : Body Tryz.prog 210 := Body.mk Tryz.func210 rfl (by decide)
theorem body_113 : Body Tryz.prog 113 := Body.mk Tryz.func113 rfl (by decide)
theorem body_190 : Body Tryz.prog 190 := Body.mk Tryz.func190 rfl (by decide)
theorem body_192 : Body Tryz.prog 192 := Body.mk Tryz.func192 rfl (by decide)
theorem body_189 : Body Tryz.prog 189 := Body.mk Tryz.func189 rfl (by decide)
theorem zero_262 : (Tryz.prog.info? 262).map (·.zero) = some (some (Value.agg #[Value.int .u64 0, Value.int .u64 0, Value.int .u64 0, Value.int .u64 0, Value.int .u64 0, Value.int .u64 0])) := by kernel_rfl
theorem body_191 : Body Tryz.prog 191 := Body.mk Tryz.func191 rfl (by decide)
theorem body_161 : Body Tryz.prog 161 := Body.mk Tryz.func161 rfl (by decide)
theorem body_158 : Body Tryz.prog 158 := Body.mk Tryz.func158 rfl (by decide)
theorem body_159 : Body Tryz.prog 159 := Body.mk Tryz.func159 rfl (by decide)
theorem body_162 : Body Tryz.prog 162 := Body.mk Tryz.func162 rfl (by decide)
theorem bld_179 : Bld Tryz.prog 179 (fun i => (#[(0, 4), (4, 3), (7, 1), (8, 4)] : Array (Nat × Nat))[i]?) [.int .u64 0, .int .u64 0, .int .u64 0, .int .u64 0, .int .u32 0, .int .i32 0, .int .u32 0, .int .u64 0, .int .u64 0, .int .u64 0, .int .u64 0, .int .u64 0] := by intro parts; kernel_rfl
theorem agg_117 : Agg Tryz.prog 117 5 := Agg.mk Tryz.underlying117 rfl (by kernel_rfl)
theorem zero_117 : (Tryz.prog.info? 117).map (·.zero) = some (some (Value.agg #[Value.int .u64 0, Value.int .u64 0, Value.int .u64 0, Value.int .u64 0, Value.int .i64 0])) := by kernel_rfl
theorem fa_117_1 : FA Tryz.prog 117 1 4 := FA.mk (m := 0) Tryz.underlying117 rfl rfl (by kernel_rfl)
theorem one_3 : One Tryz.prog 3 := One.mk Tryz.underlying3 rfl
theorem fa_117_0 : FA Tryz.prog 117 0 0 := FA.mk (m := 3) Tryz.underlying117 rfl rfl (by kernel_rfl)
theorem fa_120_2 : FA Tryz.prog 120 2 8 := FA.mk (m := 0) Tryz.underlying120 rfl rfl (by kernel_rfl)
theorem one_118 : One Tryz.prog 118 := One.mk Tryz.underlying118 rfl
theorem body_209 : Body Tryz.prog 209 := Body.mk Tryz.func209 rfl (by decide)
theorem fa_120_0 : FA Tryz.prog 120 0 0 := FA.mk (m := 3) Tryz.underlying120 rfl rfl (by kernel_rfl)
theorem body_110 : Body Tryz.prog 110 := Body.mk Tryz.func110 rfl (by decide)
theorem fa_120_1 : FA Tryz.prog 120 1 4 := FA.mk (m := 3) Tryz.underlying120 rfl rfl (by kernel_rfl)
theorem body_111 : Body Tryz.prog 111 := Body.mk Tryz.func111 rfl (by decide)
theorem zf_3 : (Tryz.prog.info? 3).bind (·.zero) = some (Value.int .i64 0) := by kernel_rfl
theorem agg_120 : Agg Tryz.prog 120 9 := Agg.mk Tryz.underlying120 rfl (by kernel_rfl)
theorem zero_120 : (Tryz.prog.info? 120).map (·.zero) = some (some (Value.agg #[Value.int .u64 0, Value.int .u64 0, Value.int .u64 0, Value.int .u64 0, Value.int .u64 0, Value.int .u64 0, Value.int .u64 0, Value.int .u64 0, Value.slice none 0 0])) := by kernel_rfl
theorem body_157 : Body Tryz.prog 157 := Body.mk Tryz.func157 rfl (by decide)
theorem body_188 : Body Tryz.prog 188 := Body.mk Tryz.func188 rfl (by decide)
theorem body_156 : Body Tryz.prog 156 := Body.mk Tryz.func156 rfl (by decide)
theorem fa_165_2 : FA Tryz.prog 165 2 13 := FA.mk (m := 0) Tryz.underlying165 rfl rfl (by kernel_rfl)
theorem fa_165_0 : FA Tryz.prog 165 0 0 := FA.mk (m := 11) Tryz.underlying165 rfl rfl (by kernel_rfl)
theorem fa_55_0 : FA Tryz.prog 55 0 0 := FA.mk (m := 3) Tryz.underlying55 rfl rfl (by kernel_rfl)
theorem fa_165_1 : FA Tryz.prog 165 1 12 := FA.mk (m := 0) Tryz.underlying165 rfl rfl (by kernel_rfl)
theorem fa_55_1 : FA Tryz.prog 55 1 4 := FA.mk (m := 3) Tryz.underlying55 rfl rfl (by kernel_rfl)
theorem fa_55_2 : FA Tryz.prog 55 2 8 := FA.mk (m := 3) Tryz.underlying55 rfl rfl (by kernel_rfl)
theorem body_182 : Body Tryz.prog 182 := Body.mk Tryz.func182 rfl (by decide)
theorem one_28 : One Tryz.prog 28 := One.mk Tryz.underlying28 rfl
theorem body_120 : Body Tryz.prog 120 := Body.mk Tryz.func120 rfl (by decide)
theorem body_199 : Body Tryz.prog 199 := Body.mk Tryz.func199 rfl (by decide)
theorem body_168 : Body Tryz.prog 168 := Body.mk Tryz.func168 rfl (by decide)
theorem body_118 : Body Tryz.prog 118 := Body.mk Tryz.func118 rfl (by decide)
theorem body_200 : Body Tryz.prog 200 := Body.mk Tryz.func200 rfl (by decide)
theorem body_109 : Body Tryz.prog 109 := Body.mk Tryz.func109 rfl (by decide)
theorem agg_55 : Agg Tryz.prog 55 12 := Agg.mk Tryz.underlying55 rfl (by kernel_rfl)
theorem bld_165 : Bld Tryz.prog 165 (fun i => (#[(0, 12), (12, 1), (13, 1)] : Array (Nat × Nat))[i]?) [.int .u64 0, .int .u64 0, .int .u64 0, .int .u64 0, .int .u64 0, .int .u64 0, .int .u64 0, .int .u64 0, .int .u64 0, .int .u64 0, .int .u64 0, .int .u64 0, .pointer none, .pointer none] := by intro parts; kernel_rfl
theorem fa_187_1 : FA Tryz.prog 187 1 1 := FA.mk (m := 3) Tryz.underlying187 rfl rfl (by kernel_rfl)
theorem fa_187_0 : FA Tryz.prog 187 0 0 := FA.mk (m := 0) Tryz.underlying187 rfl rfl (by kernel_rfl)
theorem agg_187 : Agg Tryz.prog 187 5 := Agg.mk Tryz.underlying187 rfl (by kernel_rfl)
theorem zero_187 : (Tryz.prog.info? 187).map (·.zero) = some (some (Value.agg #[Value.int .i64 0, Value.int .u64 0, Value.int .u64 0, Value.int .u64 0, Value.int .u64 0])) := by kernel_rfl
theorem sz_182 : (Tryz.prog.info? 182).map (·.size) = some 1 := by kernel_rfl
theorem body_264 : Body Tryz.prog 264 := Body.mk Tryz.func264 rfl (by decide)
theorem body_265 : Body Tryz.prog 265 := Body.mk Tryz.func265 rfl (by decide)
theorem body_267 : Body Tryz.prog 267 := Body.mk Tryz.func267 rfl (by decide)
theorem body_263 : Body Tryz.prog 263 := Body.mk Tryz.func263 rfl (by decide)
theorem body_166 : Body Tryz.prog 166 := Body.mk Tryz.func166 rfl (by decide)
theorem body_167 : Body Tryz.prog 167 := Body.mk Tryz.func167 rfl (by decide)
theorem body_266 : Body Tryz.prog 266 := Body.mk Tryz.func266 rfl (by decide)
theorem sz_3 : (Tryz.prog.info? 3).map (·.size) = some 1 := by kernel_rfl
theorem body_117 : Body Tryz.prog 117 := Body.mk Tryz.func117 rfl (by decide)
theorem info_3 : (Tryz.prog.info? 3).map (fun i => (i.zero, i.size, i.bytes)) = some (some (Value.int .i64 0), 1, 8) := by kernel_rfl
theorem body_112 : Body Tryz.prog 112 := Body.mk Tryz.func112 rfl (by decide)
theorem zero_182 : (Tryz.prog.info? 182).map (·.zero) = some (some (Value.slice none 0 0)) := by kernel_rfl
theorem body_114 : Body Tryz.prog 114 := Body.mk Tryz.func114 rfl (by decide)
theorem bld_187 : Bld Tryz.prog 187 (fun i => (#[(0, 1), (1, 4)] : Array (Nat × Nat))[i]?) [.int .i64 0, .int .u64 0, .int .u64 0, .int .u64 0, .int .u64 0] := by intro parts; kernel_rfl
theorem body_115 : Body Tryz.prog 115 := Body.mk Tryz.func115 rfl (by decide)
theorem body_116 : Body Tryz.prog 116 := Body.mk Tryz.func116 rfl (by decide)
theorem body_53 : Body Tryz.prog 53 := Body.mk Tryz.func53 rfl (by decide)
theorem body_54 : Body Tryz.prog 54 := Body.mk Tryz.func54 rfl (by decide)
theorem info_40 : (Tryz.prog.info? 40).map (fun i => (i.zero, i.size, i.bytes)) = some (some (Value.agg #[Value.int .u64 0, Value.int .u64 0, Value.int .u64 0, Value.int .u64 0]), 4, 32) := by kernel_rfl
theorem one_38 : One Tryz.prog 38 := One.mk Tryz.underlying38 rfl
theorem fa_113_0 : FA Tryz.prog 113 0 0 := FA.mk (m := 0) Tryz.underlying113 rfl rfl (by kernel_rfl)
theorem body_177 : Body Tryz.prog 177 := Body.mk Tryz.func177 rfl (by decide)
theorem body_128 : Body Tryz.prog 128 := Body.mk Tryz.func128 rfl (by decide)
theorem body_169 : Body Tryz.prog 169 := Body.mk Tryz.func169 rfl (by decide)
theorem body_180 : Body Tryz.prog 180 := Body.mk Tryz.func180 rfl (by decide)
theorem body_179 : Body Tryz.prog 179 := Body.mk Tryz.func179 rfl (by decide)
theorem fa_113_1 : FA Tryz.prog 113 1 1 := FA.mk (m := 3) Tryz.underlying113 rfl rfl (by kernel_rfl)
theorem body_170 : Body Tryz.prog 170 := Body.mk Tryz.func170 rfl (by decide)
theorem info_156 : (Tryz.prog.info? 156).map (fun i => (i.zero, i.size, i.bytes)) = some (some (Value.nilFunc), 1, 8) := by kernel_rfl
theorem sz_156 : (Tryz.prog.info? 156).map (·.size) = some 1 := by kernel_rfl
theorem one_156 : One Tryz.prog 156 := One.mk Tryz.underlying156 rfl
theorem fa_24_2 : FA Tryz.prog 24 2 2 := FA.mk (m := 0) Tryz.underlying24 rfl rfl (by kernel_rfl)
theorem fa_24_3 : FA Tryz.prog 24 3 3 := FA.mk (m := 0) Tryz.underlying24 rfl rfl (by kernel_rfl)
theorem fa_24_4 : FA Tryz.prog 24 4 4 := FA.mk (m := 0) Tryz.underlying24 rfl rfl (by kernel_rfl)
theorem fa_24_5 : FA Tryz.prog 24 5 5 := FA.mk (m := 0) Tryz.underlying24 rfl rfl (by kernel_rfl)
theorem fa_24_0 : FA Tryz.prog 24 0 0 := FA.mk (m := 0) Tryz.underlying24 rfl rfl (by kernel_rfl)
theorem fa_24_1 : FA Tryz.prog 24 1 1 := FA.mk (m := 0) Tryz.underlying24 rfl rfl (by kernel_rfl)
theorem agg_24 : Agg Tryz.prog 24 7 := Agg.mk Tryz.underlying24 rfl (by kernel_rfl)
theorem body_87 : Body Tryz.prog 87 := Body.mk Tryz.func87 rfl (by decide)
theorem fa_100_1 : FA Tryz.prog 100 1 1 := FA.mk (m := 6) Tryz.underlying100 rfl rfl (by kernel_rfl)
theorem fa_100_7 : FA Tryz.prog 100 7 44 := FA.mk (m := 0) Tryz.underlying100 rfl rfl (by kernel_rfl)
theorem one_98 : One Tryz.prog 98 := One.mk Tryz.underlying98 rfl
theorem fa_100_6 : FA Tryz.prog 100 6 43 := FA.mk (m := 0) Tryz.underlying100 rfl rfl (by kernel_rfl)
theorem one_37 : One Tryz.prog 37 := One.mk Tryz.underlying37 rfl
theorem sz_101 : (Tryz.prog.info? 101).map (·.size) = some 1 := by kernel_rfl
theorem one_101 : One Tryz.prog 101 := One.mk Tryz.underlying101 rfl
theorem fa_105_0 : FA Tryz.prog 105 0 0 := FA.mk (m := 0) Tryz.underlying105 rfl rfl (by kernel_rfl)
theorem fa_105_3 : FA Tryz.prog 105 3 3 := FA.mk (m := 0) Tryz.underlying105 rfl rfl (by kernel_rfl)
theorem one_102 : One Tryz.prog 102 := One.mk Tryz.underlying102 rfl
theorem zf_4 : (Tryz.prog.info? 4).bind (·.zero) = some (Value.bool false) := by kernel_rfl
theorem fa_105_6 : FA Tryz.prog 105 6 6 := FA.mk (m := 0) Tryz.underlying105 rfl rfl (by kernel_rfl)
theorem body_65 : Body Tryz.prog 65 := Body.mk Tryz.func65 rfl (by decide)
theorem one_30 : One Tryz.prog 30 := One.mk Tryz.underlying30 rfl
theorem fa_100_0 : FA Tryz.prog 100 0 0 := FA.mk (m := 0) Tryz.underlying100 rfl rfl (by kernel_rfl)
theorem body_119 : Body Tryz.prog 119 := Body.mk Tryz.func119 rfl (by decide)
theorem bld_113 : Bld Tryz.prog 113 (fun i => (#[(0, 1), (1, 4)] : Array (Nat × Nat))[i]?) [.int .i64 0, .int .u64 0, .int .u64 0, .int .u64 0, .int .u64 0] := by intro parts; kernel_rfl
theorem body_127 : Body Tryz.prog 127 := Body.mk Tryz.func127 rfl (by decide)
theorem fa_42_1 : FA Tryz.prog 42 1 1 := FA.mk (m := 0) Tryz.underlying42 rfl rfl (by kernel_rfl)
theorem fa_100_2 : FA Tryz.prog 100 2 8 := FA.mk (m := 0) Tryz.underlying100 rfl rfl (by kernel_rfl)
theorem one_25 : One Tryz.prog 25 := One.mk Tryz.underlying25 rfl
theorem fa_105_1 : FA Tryz.prog 105 1 1 := FA.mk (m := 0) Tryz.underlying105 rfl rfl (by kernel_rfl)
theorem one_4 : One Tryz.prog 4 := One.mk Tryz.underlying4 rfl
theorem fa_42_4 : FA Tryz.prog 42 4 4 := FA.mk (m := 0) Tryz.underlying42 rfl rfl (by kernel_rfl)
theorem sz_4 : (Tryz.prog.info? 4).map (·.size) = some 1 := by kernel_rfl
theorem body_93 : Body Tryz.prog 93 := Body.mk Tryz.func93 rfl (by decide)
theorem sz_38 : (Tryz.prog.info? 38).map (·.size) = some 1 := by kernel_rfl
theorem fa_42_2 : FA Tryz.prog 42 2 2 := FA.mk (m := 0) Tryz.underlying42 rfl rfl (by kernel_rfl)
theorem fa_100_5 : FA Tryz.prog 100 5 42 := FA.mk (m := 0) Tryz.underlying100 rfl rfl (by kernel_rfl)
theorem fa_105_4 : FA Tryz.prog 105 4 4 := FA.mk (m := 0) Tryz.underlying105 rfl rfl (by kernel_rfl)
theorem fa_42_3 : FA Tryz.prog 42 3 3 := FA.mk (m := 0) Tryz.underlying42 rfl rfl (by kernel_rfl)
theorem fa_42_5 : FA Tryz.prog 42 5 5 := FA.mk (m := 3) Tryz.underlying42 rfl rfl (by kernel_rfl)
theorem body_121 : Body Tryz.prog 121 := Body.mk Tryz.func121 rfl (by decide)
theorem fa_105_2 : FA Tryz.prog 105 2 2 := FA.mk (m := 0) Tryz.underlying105 rfl rfl (by kernel_rfl)
theorem fa_105_5 : FA Tryz.prog 105 5 5 := FA.mk (m := 0) Tryz.underlying105 rfl rfl (by kernel_rfl)
theorem one_103 : One Tryz.prog 103 := One.mk Tryz.underlying103 rfl
theorem zf_40 : (Tryz.prog.info? 40).bind (·.zero) = some (Value.agg #[Value.int .u64 0, Value.int .u64 0, Value.int .u64 0, Value.int .u64 0]) := by kernel_rfl
theorem body_66 : Body Tryz.prog 66 := Body.mk Tryz.func66 rfl (by decide)
theorem fa_105_8 : FA Tryz.prog 105 8 11 := FA.mk (m := 0) Tryz.underlying105 rfl rfl (by kernel_rfl)
theorem body_122 : Body Tryz.prog 122 := Body.mk Tryz.func122 rfl (by decide)
theorem fa_105_7 : FA Tryz.prog 105 7 7 := FA.mk (m := 3) Tryz.underlying105 rfl rfl (by kernel_rfl)
theorem info_106 : (Tryz.prog.info? 106).map (fun i => (i.zero, i.size, i.bytes)) = some (some (Value.nilFunc), 1, 8) := by kernel_rfl
theorem fa_42_0 : FA Tryz.prog 42 0 0 := FA.mk (m := 0) Tryz.underlying42 rfl rfl (by kernel_rfl)
theorem body_63 : Body Tryz.prog 63 := Body.mk Tryz.func63 rfl (by decide)
theorem body_64 : Body Tryz.prog 64 := Body.mk Tryz.func64 rfl (by decide)
theorem body_29 : Body Tryz.prog 29 := Body.mk Tryz.func29 rfl (by decide)
theorem sz_106 : (Tryz.prog.info? 106).map (·.size) = some 1 := by kernel_rfl
theorem one_106 : One Tryz.prog 106 := One.mk Tryz.underlying106 rfl
theorem agg_42 : Agg Tryz.prog 42 9 := Agg.mk Tryz.underlying42 rfl (by kernel_rfl)
theorem body_14 : Body Tryz.prog 14 := Body.mk Tryz.func14 rfl (by decide)
theorem body_16 : Body Tryz.prog 16 := Body.mk Tryz.func16 rfl (by decide)
theorem body_67 : Body Tryz.prog 67 := Body.mk Tryz.func67 rfl (by decide)
theorem info_22 : (Tryz.prog.info? 22).map (fun i => (i.zero, i.size, i.bytes)) = some (some (Value.int .u64 0), 1, 8) := by kernel_rfl
theorem body_48 : Body Tryz.prog 48 := Body.mk Tryz.func48 rfl (by decide)
theorem body_55 : Body Tryz.prog 55 := Body.mk Tryz.func55 rfl (by decide)
theorem body_56 : Body Tryz.prog 56 := Body.mk Tryz.func56 rfl (by decide)
theorem agg_35 : Agg Tryz.prog 35 32 := Agg.mk Tryz.underlying35 rfl (by kernel_rfl)
theorem bld_100 : Bld Tryz.prog 100 (fun i => (#[(0, 1), (1, 7), (8, 1), (9, 1), (10, 32), (42, 1), (43, 1), (44, 1)] : Array (Nat × Nat))[i]?) [.pointer none, .int .i64 0, .int .i64 0, .int .i64 0, .int .i64 0, .int .i64 0, .int .i64 0, .int .u64 0, .slice none 0 0, .int .u64 0, .int .u8 0, .int .u8 0, .int .u8 0, .int .u8 0, .int .u8 0, .int .u8 0, .int .u8 0, .int .u8 0, .int .u8 0, .int .u8 0, .int .u8 0, .int .u8 0, .int .u8 0, .int .u8 0, .int .u8 0, .int .u8 0, .int .u8 0, .int .u8 0, .int .u8 0, .int .u8 0, .int .u8 0, .int .u8 0, .int .u8 0, .int .u8 0, .int .u8 0, .int .u8 0, .int .u8 0, .int .u8 0, .int .u8 0, .int .u8 0, .int .u8 0, .int .u8 0, .slice none 0 0, .slice none 0 0, .slice none 0 0] := by intro parts; kernel_rfl
theorem body_57 : Body Tryz.prog 57 := Body.mk Tryz.func57 rfl (by decide)
theorem bld_105 : Bld Tryz.prog 105 (fun i => (#[(0, 1), (1, 1), (2, 1), (3, 1), (4, 1), (5, 1), (6, 1), (7, 4), (11, 1)] : Array (Nat × Nat))[i]?) [.slice none 0 0, .bool false, .bool false, .map none, .map none, .map none, .map none, .int .u64 0, .int .u64 0, .int .u64 0, .int .u64 0, .bool false] := by intro parts; kernel_rfl
theorem info_101 : (Tryz.prog.info? 101).map (fun i => (i.zero, i.size, i.bytes)) = some (some (Value.pointer none), 1, 8) := by kernel_rfl
theorem sz_98 : (Tryz.prog.info? 98).map (·.size) = some 1 := by kernel_rfl
theorem zero_55 : (Tryz.prog.info? 55).map (·.zero) = some (some (Value.agg #[Value.int .u64 0, Value.int .u64 0, Value.int .u64 0, Value.int .u64 0, Value.int .u64 0, Value.int .u64 0, Value.int .u64 0, Value.int .u64 0, Value.int .u64 0, Value.int .u64 0, Value.int .u64 0, Value.int .u64 0])) := by kernel_rfl
theorem bld_117 : Bld Tryz.prog 117 (fun i => (#[(0, 4), (4, 1)] : Array (Nat × Nat))[i]?) [.int .u64 0, .int .u64 0, .int .u64 0, .int .u64 0, .int .i64 0] := by intro parts; kernel_rfl
theorem info_117 : (Tryz.prog.info? 117).map (fun i => (i.zero, i.size, i.bytes)) = some (some (Value.agg #[Value.int .u64 0, Value.int .u64 0, Value.int .u64 0, Value.int .u64 0, Value.int .i64 0]), 5, 40) := by kernel_rfl
theorem bld_120 : Bld Tryz.prog 120 (fun i => (#[(0, 4), (4, 4), (8, 1)] : Array (Nat × Nat))[i]?) [.int .u64 0, .int .u64 0, .int .u64 0, .int .u64 0, .int .u64 0, .int .u64 0, .int .u64 0, .int .u64 0, .slice none 0 0] := by intro parts; kernel_rfl
theorem bld_55 : Bld Tryz.prog 55 (fun i => (#[(0, 4), (4, 4), (8, 4)] : Array (Nat × Nat))[i]?) [.int .u64 0, .int .u64 0, .int .u64 0, .int .u64 0, .int .u64 0, .int .u64 0, .int .u64 0, .int .u64 0, .int .u64 0, .int .u64 0, .int .u64 0, .int .u64 0] := by intro parts; kernel_rfl
theorem info_120 : (Tryz.prog.info? 120).map (fun i => (i.zero, i.size, i.bytes)) = some (some (Value.agg #[Value.int .u64 0, Value.int .u64 0, Value.int .u64 0, Value.int .u64 0, Value.int .u64 0, Value.int .u64 0, Value.int .u64 0, Value.int .u64 0, Value.slice none 0 0]), 9, 88) := by kernel_rfl
theorem body_18 : Body Tryz.prog 18 := Body.mk Tryz.func18 rfl (by decide)
theorem body_51 : Body Tryz.prog 51 := Body.mk Tryz.func51 rfl (by decide)
theorem zero_24 : (Tryz.prog.info? 24).map (·.zero) = some (some (Value.agg #[Value.int .i64 0, Value.int .i64 0, Value.int .i64 0, Value.int .i64 0, Value.int .i64 0, Value.int .i64 0, Value.int .u64 0])) := by kernel_rfl
theorem bld_24 : Bld Tryz.prog 24 (fun i => (#[(0, 1), (1, 1), (2, 1), (3, 1), (4, 1), (5, 1), (6, 1)] : Array (Nat × Nat))[i]?) [.int .i64 0, .int .i64 0, .int .i64 0, .int .i64 0, .int .i64 0, .int .i64 0, .int .u64 0] := by intro parts; kernel_rfl
theorem sz_24 : (Tryz.prog.info? 24).map (·.size) = some 7 := by kernel_rfl
theorem body_10 : Body Tryz.prog 10 := Body.mk Tryz.func10 rfl (by decide)
theorem body_19 : Body Tryz.prog 19 := Body.mk Tryz.func19 rfl (by decide)
theorem bld_35 : Bld Tryz.prog 35 (fun i => some (i * 1, 1)) [.int .u8 0, .int .u8 0, .int .u8 0, .int .u8 0, .int .u8 0, .int .u8 0, .int .u8 0, .int .u8 0, .int .u8 0, .int .u8 0, .int .u8 0, .int .u8 0, .int .u8 0, .int .u8 0, .int .u8 0, .int .u8 0, .int .u8 0, .int .u8 0, .int .u8 0, .int .u8 0, .int .u8 0, .int .u8 0, .int .u8 0, .int .u8 0, .int .u8 0, .int .u8 0, .int .u8 0, .int .u8 0, .int .u8 0, .int .u8 0, .int .u8 0, .int .u8 0] := by intro parts; kernel_rfl
theorem body_11 : Body Tryz.prog 11 := Body.mk Tryz.func11 rfl (by decide)
theorem bld_42 : Bld Tryz.prog 42 (fun i => (#[(0, 1), (1, 1), (2, 1), (3, 1), (4, 1), (5, 4)] : Array (Nat × Nat))[i]?) [.int .i64 0, .int .i64 0, .int .i64 0, .int .i64 0, .slice none 0 0, .int .u64 0, .int .u64 0, .int .u64 0, .int .u64 0] := by intro parts; kernel_rfl
theorem body_12 : Body Tryz.prog 12 := Body.mk Tryz.func12 rfl (by decide)
theorem body_24 : Body Tryz.prog 24 := Body.mk Tryz.func24 rfl (by decide)
theorem body_13 : Body Tryz.prog 13 := Body.mk Tryz.func13 rfl (by decide)
theorem body_17 : Body Tryz.prog 17 := Body.mk Tryz.func17 rfl (by decide)
theorem body_9 : Body Tryz.prog 9 := Body.mk Tryz.func9 rfl (by decide)
theorem info_4 : (Tryz.prog.info? 4).map (fun i => (i.zero, i.size, i.bytes)) = some (some (Value.bool false), 1, 1) := by kernel_rfl
theorem sz_44 : (Tryz.prog.info? 44).map (·.size) = some 10 := by kernel_rfl
theorem fa_44_1 : FA Tryz.prog 44 1 1 := FA.mk (m := 8) Tryz.underlying44 rfl rfl (by kernel_rfl)
theorem zero_42 : (Tryz.prog.info? 42).map (·.zero) = some (some (Value.agg #[Value.int .i64 0, Value.int .i64 0, Value.int .i64 0, Value.int .i64 0, Value.slice none 0 0, Value.int .u64 0, Value.int .u64 0, Value.int .u64 0, Value.int .u64 0])) := by kernel_rfl
theorem sz_42 : (Tryz.prog.info? 42).map (·.size) = some 9 := by kernel_rfl
theorem fa_44_0 : FA Tryz.prog 44 0 0 := FA.mk (m := 0) Tryz.underlying44 rfl rfl (by kernel_rfl)
theorem zqa {p : Prop} (h : p := by repeat (first | exact List.Mem.head _ | refine List.Mem.tail _ ?_)) : p := h
theorem zqb {p : Prop} (h : p := by first | exact ltb rfl | (simp; done) | (simp; omega) | omega | (simp [*]; omega)) : p := h
theorem zqc {p : Prop} (h : p := by repeat (first | exact Lend.same _ _ | exact Lend.row _ _ _ _ _ _ (by decide) | apply Lend.there)) : p := h
theorem zqd {p : Prop} (h : p := by repeat (first | exact Picks.nil _ | apply Picks.cons | exact Pull.here _ _ | apply Pull.there)) : p := h
theorem zqe {p : Prop} (h : p := by repeat (first | exact Subs.nil _ | apply Subs.cons | exact List.Mem.head _ | refine List.Mem.tail _ ?_)) : p := h
theorem zqf {p : Prop} (h : p := by first | (constructor <;> omega) | (constructor <;> simp <;> omega)) : p := h
theorem zqg {p : Prop} (h : p := by first | omega | (simp; omega)) : p := h
end Go.Proofs.YtmhiapebljfebaaGreatDoor

/- Walks: the codec. -/
namespace Go.Proofs.YtmhiapebljfebaaGreatDoor
open Go.RowKit
set_option maxRecDepth 100000
set_option linter.unusedVariables false
set_option linter.unusedSimpArgs false

theorem f147_spec (x : BitVec 64) :
    Spec Tryz.prog 147 #[u64 x] [] []
      (fun r Γ' H' => r = it (len64 x : Int) ∧ Γ' = [] ∧ H' = []) := by
  refine Spec.of_args Tryz.func147 rfl Tryz.ntmps147 (by simp) fun w => ?_
  refine JC.seq ?_
  refine JC.region ?_
  refine JO.v (Yv.assign rfl) (by decide) ?_
  refine JO.nil ?_
  refine JQ.then_normal ?_
  refine JC.seq ?_
  refine JC.seq ?_
  refine JC.region ?_
  refine JO.v (Yv.move rfl) (by decide) ?_
  refine JO.v (Yv.bin rfl rfl (BinR.geq_u64 (b := 4294967296#64))) (by decide) ?_
  refine JO.nil ?_
  refine JQ.then_normal ?_
  refine JC.cond rfl (fun hc1 => ?_) (fun hc1 => ?_)
  · try simp only [decide_eq_true_eq, decide_eq_false_iff_not, Bool.not_eq_true', Bool.not_eq_false', ne_eq, Decidable.not_not, Bool.not_eq_true, Bool.and_eq_true, Bool.or_eq_true, BitVec.reduceToNat] at hc1
    have e1 := len64_s32 hc1
    refine JC.seq ?_
    refine JC.region ?_
    refine JO.v (Yv.move rfl) (by decide) ?_
    refine JO.v (Yv.as (v' := u64 (x >>> 32)) (Yv.bin rfl rfl (BinR.shr_u64_u64 (n := 32#64))) rfl) (by decide) ?_
    refine JO.v (Yv.assign rfl) (by decide) ?_
    refine JO.nil ?_
    refine JQ.then_normal ?_
    refine JC.region ?_
    refine JO.v (Yv.assign rfl) (by decide) ?_
    refine JO.nil ?_
    refine JQ.then_normal ?_
    refine JC.seq ?_
    refine JC.seq ?_
    refine JC.region ?_
    refine JO.v (Yv.move rfl) (by decide) ?_
    refine JO.v (Yv.bin rfl rfl (BinR.geq_u64 (b := 65536#64))) (by decide) ?_
    refine JO.nil ?_
    refine JQ.then_normal ?_
    refine JC.cond rfl (fun hc2 => ?_) (fun hc2 => ?_)
    · try simp only [decide_eq_true_eq, decide_eq_false_iff_not, Bool.not_eq_true', Bool.not_eq_false', ne_eq, Decidable.not_not, Bool.not_eq_true, Bool.and_eq_true, Bool.or_eq_true, BitVec.reduceToNat] at hc2
      have e2 := len64_s16 hc2
      refine JC.seq ?_
      refine JC.region ?_
      refine JO.v (Yv.move rfl) (by decide) ?_
      refine JO.v (Yv.as (v' := u64 ((_ : BitVec 64) >>> (16 : Nat))) (Yv.bin rfl rfl (BinR.shr_u64_u64 (n := 16#64))) rfl) (by decide) ?_
      refine JO.v (Yv.assign rfl) (by decide) ?_
      refine JO.nil ?_
      refine JQ.then_normal ?_
      refine JC.region ?_
      refine JO.v (Yv.move rfl) (by decide) ?_
      refine JO.v (Yv.bin rfl rfl (BinR.add_i zqf)) (by decide) ?_
      refine JO.v (Yv.assign rfl) (by decide) ?_
      refine JO.nil ?_
      refine JQ.then_normal ?_
      refine JC.seq ?_
      refine JC.seq ?_
      refine JC.region ?_
      refine JO.v (Yv.move rfl) (by decide) ?_
      refine JO.v (Yv.bin rfl rfl (BinR.geq_u64 (b := 256#64))) (by decide) ?_
      refine JO.nil ?_
      refine JQ.then_normal ?_
      refine JC.cond rfl (fun hc3 => ?_) (fun hc3 => ?_)
      · try simp only [decide_eq_true_eq, decide_eq_false_iff_not, Bool.not_eq_true', Bool.not_eq_false', ne_eq, Decidable.not_not, Bool.not_eq_true, Bool.and_eq_true, Bool.or_eq_true, BitVec.reduceToNat] at hc3
        have e3 := len64_s8 hc3
        refine JC.seq ?_
        refine JC.region ?_
        refine JO.v (Yv.move rfl) (by decide) ?_
        refine JO.v (Yv.as (v' := u64 ((_ : BitVec 64) >>> (8 : Nat))) (Yv.bin rfl rfl (BinR.shr_u64_u64 (n := 8#64))) rfl) (by decide) ?_
        refine JO.v (Yv.assign rfl) (by decide) ?_
        refine JO.nil ?_
        refine JQ.then_normal ?_
        refine JC.region ?_
        refine JO.v (Yv.move rfl) (by decide) ?_
        refine JO.v (Yv.bin rfl rfl (BinR.add_i zqf)) (by decide) ?_
        refine JO.v (Yv.assign rfl) (by decide) ?_
        refine JO.nil ?_
        refine JQ.then_normal ?_
        refine JC.seq ?_
        refine JC.region ?_
        refine JO.v (Yv.move rfl) (by decide) ?_
        refine JO.v (Yv.move rfl) (by decide) ?_
        refine JO.v (Yv.conv_u64_u8 Tryz.underlying22 Tryz.underlying5 rfl) (by decide) ?_
        refine JO.v (Yv.as (v' := u8 (BitVec.ofNat 8 (bitlen _))) (Yv.indexStr Tryz.underlying9 rfl rfl (by exact (BitVec.isLt _))) (congrArg u8 (lenTab_get _ _))) (by decide) ?_
        refine JO.v (Yv.conv_u8_i Tryz.underlying5 Tryz.underlying3 rfl) (by decide) ?_
        refine JO.v (Yv.bin rfl rfl (BinR.add_i (fits8 _ (by omega)))) (by decide) ?_
        refine JO.v (Yv.assign rfl) (by decide) ?_
        refine JO.nil ?_
        refine JQ.then_normal ?_
        refine JC.ret ?_
        have hx := x.isLt
        have s32 := shr32 (x)
        have s16 := shr16 (x >>> 32)
        have s8 := shr8 (x >>> 32 >>> 16)
        have e4 := len8v (x >>> 32 >>> 16 >>> 8) (by omega)
        have e5 := len64_le x
        exact JQ.done (.inr rfl) (Γ' := []) (H' := []) (res1 rfl (RV.tmp rfl)) (Subs.sub zqe) (Picks.perm zqd) ⟨congrArg it (by omega), rfl, rfl⟩
      · try simp only [decide_eq_true_eq, decide_eq_false_iff_not, Bool.not_eq_true', Bool.not_eq_false', ne_eq, Decidable.not_not, Bool.not_eq_true, Bool.and_eq_true, Bool.or_eq_true, BitVec.reduceToNat] at hc3
        refine JC.skip ?_
        refine JQ.then_normal ?_
        refine JC.seq ?_
        refine JC.region ?_
        refine JO.v (Yv.move rfl) (by decide) ?_
        refine JO.v (Yv.move rfl) (by decide) ?_
        refine JO.v (Yv.conv_u64_u8 Tryz.underlying22 Tryz.underlying5 rfl) (by decide) ?_
        refine JO.v (Yv.as (v' := u8 (BitVec.ofNat 8 (bitlen _))) (Yv.indexStr Tryz.underlying9 rfl rfl (by exact (BitVec.isLt _))) (congrArg u8 (lenTab_get _ _))) (by decide) ?_
        refine JO.v (Yv.conv_u8_i Tryz.underlying5 Tryz.underlying3 rfl) (by decide) ?_
        refine JO.v (Yv.bin rfl rfl (BinR.add_i (fits8 _ (by omega)))) (by decide) ?_
        refine JO.v (Yv.assign rfl) (by decide) ?_
        refine JO.nil ?_
        refine JQ.then_normal ?_
        refine JC.ret ?_
        have hx := x.isLt
        have s32 := shr32 (x)
        have s16 := shr16 (x >>> 32)
        have e4 := len8v (x >>> 32 >>> 16) (by omega)
        have e5 := len64_le x
        exact JQ.done (.inr rfl) (Γ' := []) (H' := []) (res1 rfl (RV.tmp rfl)) (Subs.sub zqe) (Picks.perm zqd) ⟨congrArg it (by omega), rfl, rfl⟩
    · try simp only [decide_eq_true_eq, decide_eq_false_iff_not, Bool.not_eq_true', Bool.not_eq_false', ne_eq, Decidable.not_not, Bool.not_eq_true, Bool.and_eq_true, Bool.or_eq_true, BitVec.reduceToNat] at hc2
      refine JC.skip ?_
      refine JQ.then_normal ?_
      refine JC.seq ?_
      refine JC.seq ?_
      refine JC.region ?_
      refine JO.v (Yv.move rfl) (by decide) ?_
      refine JO.v (Yv.bin rfl rfl (BinR.geq_u64 (b := 256#64))) (by decide) ?_
      refine JO.nil ?_
      refine JQ.then_normal ?_
      refine JC.cond rfl (fun hc3 => ?_) (fun hc3 => ?_)
      · try simp only [decide_eq_true_eq, decide_eq_false_iff_not, Bool.not_eq_true', Bool.not_eq_false', ne_eq, Decidable.not_not, Bool.not_eq_true, Bool.and_eq_true, Bool.or_eq_true, BitVec.reduceToNat] at hc3
        have e3 := len64_s8 hc3
        refine JC.seq ?_
        refine JC.region ?_
        refine JO.v (Yv.move rfl) (by decide) ?_
        refine JO.v (Yv.as (v' := u64 ((_ : BitVec 64) >>> (8 : Nat))) (Yv.bin rfl rfl (BinR.shr_u64_u64 (n := 8#64))) rfl) (by decide) ?_
        refine JO.v (Yv.assign rfl) (by decide) ?_
        refine JO.nil ?_
        refine JQ.then_normal ?_
        refine JC.region ?_
        refine JO.v (Yv.move rfl) (by decide) ?_
        refine JO.v (Yv.bin rfl rfl (BinR.add_i zqf)) (by decide) ?_
        refine JO.v (Yv.assign rfl) (by decide) ?_
        refine JO.nil ?_
        refine JQ.then_normal ?_
        refine JC.seq ?_
        refine JC.region ?_
        refine JO.v (Yv.move rfl) (by decide) ?_
        refine JO.v (Yv.move rfl) (by decide) ?_
        refine JO.v (Yv.conv_u64_u8 Tryz.underlying22 Tryz.underlying5 rfl) (by decide) ?_
        refine JO.v (Yv.as (v' := u8 (BitVec.ofNat 8 (bitlen _))) (Yv.indexStr Tryz.underlying9 rfl rfl (by exact (BitVec.isLt _))) (congrArg u8 (lenTab_get _ _))) (by decide) ?_
        refine JO.v (Yv.conv_u8_i Tryz.underlying5 Tryz.underlying3 rfl) (by decide) ?_
        refine JO.v (Yv.bin rfl rfl (BinR.add_i (fits8 _ (by omega)))) (by decide) ?_
        refine JO.v (Yv.assign rfl) (by decide) ?_
        refine JO.nil ?_
        refine JQ.then_normal ?_
        refine JC.ret ?_
        have hx := x.isLt
        have s32 := shr32 (x)
        have s8 := shr8 (x >>> 32)
        have e4 := len8v (x >>> 32 >>> 8) (by omega)
        have e5 := len64_le x
        exact JQ.done (.inr rfl) (Γ' := []) (H' := []) (res1 rfl (RV.tmp rfl)) (Subs.sub zqe) (Picks.perm zqd) ⟨congrArg it (by omega), rfl, rfl⟩
      · try simp only [decide_eq_true_eq, decide_eq_false_iff_not, Bool.not_eq_true', Bool.not_eq_false', ne_eq, Decidable.not_not, Bool.not_eq_true, Bool.and_eq_true, Bool.or_eq_true, BitVec.reduceToNat] at hc3
        refine JC.skip ?_
        refine JQ.then_normal ?_
        refine JC.seq ?_
        refine JC.region ?_
        refine JO.v (Yv.move rfl) (by decide) ?_
        refine JO.v (Yv.move rfl) (by decide) ?_
        refine JO.v (Yv.conv_u64_u8 Tryz.underlying22 Tryz.underlying5 rfl) (by decide) ?_
        refine JO.v (Yv.as (v' := u8 (BitVec.ofNat 8 (bitlen _))) (Yv.indexStr Tryz.underlying9 rfl rfl (by exact (BitVec.isLt _))) (congrArg u8 (lenTab_get _ _))) (by decide) ?_
        refine JO.v (Yv.conv_u8_i Tryz.underlying5 Tryz.underlying3 rfl) (by decide) ?_
        refine JO.v (Yv.bin rfl rfl (BinR.add_i (fits8 _ (by omega)))) (by decide) ?_
        refine JO.v (Yv.assign rfl) (by decide) ?_
        refine JO.nil ?_
        refine JQ.then_normal ?_
        refine JC.ret ?_
        have hx := x.isLt
        have s32 := shr32 (x)
        have e4 := len8v (x >>> 32) (by omega)
        have e5 := len64_le x
        exact JQ.done (.inr rfl) (Γ' := []) (H' := []) (res1 rfl (RV.tmp rfl)) (Subs.sub zqe) (Picks.perm zqd) ⟨congrArg it (by omega), rfl, rfl⟩
  · try simp only [decide_eq_true_eq, decide_eq_false_iff_not, Bool.not_eq_true', Bool.not_eq_false', ne_eq, Decidable.not_not, Bool.not_eq_true, Bool.and_eq_true, Bool.or_eq_true, BitVec.reduceToNat] at hc1
    refine JC.skip ?_
    refine JQ.then_normal ?_
    refine JC.seq ?_
    refine JC.seq ?_
    refine JC.region ?_
    refine JO.v (Yv.move rfl) (by decide) ?_
    refine JO.v (Yv.bin rfl rfl (BinR.geq_u64 (b := 65536#64))) (by decide) ?_
    refine JO.nil ?_
    refine JQ.then_normal ?_
    refine JC.cond rfl (fun hc2 => ?_) (fun hc2 => ?_)
    · try simp only [decide_eq_true_eq, decide_eq_false_iff_not, Bool.not_eq_true', Bool.not_eq_false', ne_eq, Decidable.not_not, Bool.not_eq_true, Bool.and_eq_true, Bool.or_eq_true, BitVec.reduceToNat] at hc2
      have e2 := len64_s16 hc2
      refine JC.seq ?_
      refine JC.region ?_
      refine JO.v (Yv.move rfl) (by decide) ?_
      refine JO.v (Yv.as (v' := u64 ((_ : BitVec 64) >>> (16 : Nat))) (Yv.bin rfl rfl (BinR.shr_u64_u64 (n := 16#64))) rfl) (by decide) ?_
      refine JO.v (Yv.assign rfl) (by decide) ?_
      refine JO.nil ?_
      refine JQ.then_normal ?_
      refine JC.region ?_
      refine JO.v (Yv.move rfl) (by decide) ?_
      refine JO.v (Yv.bin rfl rfl (BinR.add_i zqf)) (by decide) ?_
      refine JO.v (Yv.assign rfl) (by decide) ?_
      refine JO.nil ?_
      refine JQ.then_normal ?_
      refine JC.seq ?_
      refine JC.seq ?_
      refine JC.region ?_
      refine JO.v (Yv.move rfl) (by decide) ?_
      refine JO.v (Yv.bin rfl rfl (BinR.geq_u64 (b := 256#64))) (by decide) ?_
      refine JO.nil ?_
      refine JQ.then_normal ?_
      refine JC.cond rfl (fun hc3 => ?_) (fun hc3 => ?_)
      · try simp only [decide_eq_true_eq, decide_eq_false_iff_not, Bool.not_eq_true', Bool.not_eq_false', ne_eq, Decidable.not_not, Bool.not_eq_true, Bool.and_eq_true, Bool.or_eq_true, BitVec.reduceToNat] at hc3
        have e3 := len64_s8 hc3
        refine JC.seq ?_
        refine JC.region ?_
        refine JO.v (Yv.move rfl) (by decide) ?_
        refine JO.v (Yv.as (v' := u64 ((_ : BitVec 64) >>> (8 : Nat))) (Yv.bin rfl rfl (BinR.shr_u64_u64 (n := 8#64))) rfl) (by decide) ?_
        refine JO.v (Yv.assign rfl) (by decide) ?_
        refine JO.nil ?_
        refine JQ.then_normal ?_
        refine JC.region ?_
        refine JO.v (Yv.move rfl) (by decide) ?_
        refine JO.v (Yv.bin rfl rfl (BinR.add_i zqf)) (by decide) ?_
        refine JO.v (Yv.assign rfl) (by decide) ?_
        refine JO.nil ?_
        refine JQ.then_normal ?_
        refine JC.seq ?_
        refine JC.region ?_
        refine JO.v (Yv.move rfl) (by decide) ?_
        refine JO.v (Yv.move rfl) (by decide) ?_
        refine JO.v (Yv.conv_u64_u8 Tryz.underlying22 Tryz.underlying5 rfl) (by decide) ?_
        refine JO.v (Yv.as (v' := u8 (BitVec.ofNat 8 (bitlen _))) (Yv.indexStr Tryz.underlying9 rfl rfl (by exact (BitVec.isLt _))) (congrArg u8 (lenTab_get _ _))) (by decide) ?_
        refine JO.v (Yv.conv_u8_i Tryz.underlying5 Tryz.underlying3 rfl) (by decide) ?_
        refine JO.v (Yv.bin rfl rfl (BinR.add_i (fits8 _ (by omega)))) (by decide) ?_
        refine JO.v (Yv.assign rfl) (by decide) ?_
        refine JO.nil ?_
        refine JQ.then_normal ?_
        refine JC.ret ?_
        have hx := x.isLt
        have s16 := shr16 (x)
        have s8 := shr8 (x >>> 16)
        have e4 := len8v (x >>> 16 >>> 8) (by omega)
        have e5 := len64_le x
        exact JQ.done (.inr rfl) (Γ' := []) (H' := []) (res1 rfl (RV.tmp rfl)) (Subs.sub zqe) (Picks.perm zqd) ⟨congrArg it (by omega), rfl, rfl⟩
      · try simp only [decide_eq_true_eq, decide_eq_false_iff_not, Bool.not_eq_true', Bool.not_eq_false', ne_eq, Decidable.not_not, Bool.not_eq_true, Bool.and_eq_true, Bool.or_eq_true, BitVec.reduceToNat] at hc3
        refine JC.skip ?_
        refine JQ.then_normal ?_
        refine JC.seq ?_
        refine JC.region ?_
        refine JO.v (Yv.move rfl) (by decide) ?_
        refine JO.v (Yv.move rfl) (by decide) ?_
        refine JO.v (Yv.conv_u64_u8 Tryz.underlying22 Tryz.underlying5 rfl) (by decide) ?_
        refine JO.v (Yv.as (v' := u8 (BitVec.ofNat 8 (bitlen _))) (Yv.indexStr Tryz.underlying9 rfl rfl (by exact (BitVec.isLt _))) (congrArg u8 (lenTab_get _ _))) (by decide) ?_
        refine JO.v (Yv.conv_u8_i Tryz.underlying5 Tryz.underlying3 rfl) (by decide) ?_
        refine JO.v (Yv.bin rfl rfl (BinR.add_i (fits8 _ (by omega)))) (by decide) ?_
        refine JO.v (Yv.assign rfl) (by decide) ?_
        refine JO.nil ?_
        refine JQ.then_normal ?_
        refine JC.ret ?_
        have hx := x.isLt
        have s16 := shr16 (x)
        have e4 := len8v (x >>> 16) (by omega)
        have e5 := len64_le x
        exact JQ.done (.inr rfl) (Γ' := []) (H' := []) (res1 rfl (RV.tmp rfl)) (Subs.sub zqe) (Picks.perm zqd) ⟨congrArg it (by omega), rfl, rfl⟩
    · try simp only [decide_eq_true_eq, decide_eq_false_iff_not, Bool.not_eq_true', Bool.not_eq_false', ne_eq, Decidable.not_not, Bool.not_eq_true, Bool.and_eq_true, Bool.or_eq_true, BitVec.reduceToNat] at hc2
      refine JC.skip ?_
      refine JQ.then_normal ?_
      refine JC.seq ?_
      refine JC.seq ?_
      refine JC.region ?_
      refine JO.v (Yv.move rfl) (by decide) ?_
      refine JO.v (Yv.bin rfl rfl (BinR.geq_u64 (b := 256#64))) (by decide) ?_
      refine JO.nil ?_
      refine JQ.then_normal ?_
      refine JC.cond rfl (fun hc3 => ?_) (fun hc3 => ?_)
      · try simp only [decide_eq_true_eq, decide_eq_false_iff_not, Bool.not_eq_true', Bool.not_eq_false', ne_eq, Decidable.not_not, Bool.not_eq_true, Bool.and_eq_true, Bool.or_eq_true, BitVec.reduceToNat] at hc3
        have e3 := len64_s8 hc3
        refine JC.seq ?_
        refine JC.region ?_
        refine JO.v (Yv.move rfl) (by decide) ?_
        refine JO.v (Yv.as (v' := u64 ((_ : BitVec 64) >>> (8 : Nat))) (Yv.bin rfl rfl (BinR.shr_u64_u64 (n := 8#64))) rfl) (by decide) ?_
        refine JO.v (Yv.assign rfl) (by decide) ?_
        refine JO.nil ?_
        refine JQ.then_normal ?_
        refine JC.region ?_
        refine JO.v (Yv.move rfl) (by decide) ?_
        refine JO.v (Yv.bin rfl rfl (BinR.add_i zqf)) (by decide) ?_
        refine JO.v (Yv.assign rfl) (by decide) ?_
        refine JO.nil ?_
        refine JQ.then_normal ?_
        refine JC.seq ?_
        refine JC.region ?_
        refine JO.v (Yv.move rfl) (by decide) ?_
        refine JO.v (Yv.move rfl) (by decide) ?_
        refine JO.v (Yv.conv_u64_u8 Tryz.underlying22 Tryz.underlying5 rfl) (by decide) ?_
        refine JO.v (Yv.as (v' := u8 (BitVec.ofNat 8 (bitlen _))) (Yv.indexStr Tryz.underlying9 rfl rfl (by exact (BitVec.isLt _))) (congrArg u8 (lenTab_get _ _))) (by decide) ?_
        refine JO.v (Yv.conv_u8_i Tryz.underlying5 Tryz.underlying3 rfl) (by decide) ?_
        refine JO.v (Yv.bin rfl rfl (BinR.add_i (fits8 _ (by omega)))) (by decide) ?_
        refine JO.v (Yv.assign rfl) (by decide) ?_
        refine JO.nil ?_
        refine JQ.then_normal ?_
        refine JC.ret ?_
        have hx := x.isLt
        have s8 := shr8 (x)
        have e4 := len8v (x >>> 8) (by omega)
        have e5 := len64_le x
        exact JQ.done (.inr rfl) (Γ' := []) (H' := []) (res1 rfl (RV.tmp rfl)) (Subs.sub zqe) (Picks.perm zqd) ⟨congrArg it (by omega), rfl, rfl⟩
      · try simp only [decide_eq_true_eq, decide_eq_false_iff_not, Bool.not_eq_true', Bool.not_eq_false', ne_eq, Decidable.not_not, Bool.not_eq_true, Bool.and_eq_true, Bool.or_eq_true, BitVec.reduceToNat] at hc3
        refine JC.skip ?_
        refine JQ.then_normal ?_
        refine JC.seq ?_
        refine JC.region ?_
        refine JO.v (Yv.move rfl) (by decide) ?_
        refine JO.v (Yv.move rfl) (by decide) ?_
        refine JO.v (Yv.conv_u64_u8 Tryz.underlying22 Tryz.underlying5 rfl) (by decide) ?_
        refine JO.v (Yv.as (v' := u8 (BitVec.ofNat 8 (bitlen _))) (Yv.indexStr Tryz.underlying9 rfl rfl (by exact (BitVec.isLt _))) (congrArg u8 (lenTab_get _ _))) (by decide) ?_
        refine JO.v (Yv.conv_u8_i Tryz.underlying5 Tryz.underlying3 rfl) (by decide) ?_
        refine JO.v (Yv.bin rfl rfl (BinR.add_i (fits8 _ (by omega)))) (by decide) ?_
        refine JO.v (Yv.assign rfl) (by decide) ?_
        refine JO.nil ?_
        refine JQ.then_normal ?_
        refine JC.ret ?_
        have hx := x.isLt
        have e4 := len8v (x) (by omega)
        have e5 := len64_le x
        exact JQ.done (.inr rfl) (Γ' := []) (H' := []) (res1 rfl (RV.tmp rfl)) (Subs.sub zqe) (Picks.perm zqd) ⟨congrArg it (by omega), rfl, rfl⟩


end Go.Proofs.YtmhiapebljfebaaGreatDoor

/- Walks: numbers of four words, products. -/
namespace Go.Proofs.YtmhiapebljfebaaGreatDoor
open Go.RowKit
set_option maxRecDepth 100000
set_option linter.unusedVariables false
set_option linter.unusedSimpArgs false
theorem eql_nat {x y : Operand} {us vs : List W64} (ha : us.length = 4) (hb : vs.length = 4) : BinR Tryz.prog .eql 40 x y (.agg (us.map u64).toArray) (.agg (vs.map u64).toArray) (.bool (decide (us = vs))) :=
  BinR.eql_arr (f := u64) (g := fun x => (x.toNat : Int)) (k := .u64) Tryz.underlying40 Tryz.underlying22 sz_22 (by kernel_rfl) (fun _ => rfl) (fun x y h => BitVec.eq_of_toNat_eq (by exact Int.ofNat.inj h)) us vs ha hb
theorem neq_nat {x y : Operand} {us vs : List W64} (ha : us.length = 4) (hb : vs.length = 4) : BinR Tryz.prog .neq 40 x y (.agg (us.map u64).toArray) (.agg (vs.map u64).toArray) (.bool (!decide (us = vs))) :=
  BinR.neq_arr (f := u64) (g := fun x => (x.toNat : Int)) (k := .u64) Tryz.underlying40 Tryz.underlying22 sz_22 (by kernel_rfl) (fun _ => rfl) (fun x y h => BitVec.eq_of_toNat_eq (by exact Int.ofNat.inj h)) us vs ha hb

theorem f163_spec (a b : Nat) (ha : a < 115792089237316195423570985008687907853269984665640564039457584007913129639936) (hb : b < 115792089237316195423570985008687907853269984665640564039457584007913129639936) :
    Spec Tryz.prog 163 #[(.agg ((wd a).map u64).toArray), (.agg ((wd b).map u64).toArray)] [] []
      (fun r Γ' H' => r = (.tuple #[.agg ((wd (a + b)).map u64).toArray, u64 (BitVec.ofNat 64 ((a + b) / 115792089237316195423570985008687907853269984665640564039457584007913129639936))]) ∧ Γ' = [] ∧ H' = []) := by
  refine Spec.of_args Tryz.func163 rfl Tryz.ntmps163 (by simp) fun w => ?_
  refine .seq (.region ?_)
  refine .bx fun b2 => ?_
  refine .bx fun b3 => ?_
  refine .al zero_40 fun b4 => ?_
  refine .w (.as (v' := u64 (cry a b 0)) (.assign rfl) (by rw [cry_0]; rfl)) ?_
  refine .nil (.tn (.seq (.seq (.region ?_))))
  refine .w (.move rfl) ?_
  refine .nil (.tn (.block ?_))
  refine .lp (ι := Nat) (fun x => x ≤ 4) (fun T x => (2, ptr b2 0) :: (3, ptr b3 0) :: (4, ptr b4 0) :: (5, u64 (cry a b x)) :: (7, it (x : Int)) :: T) (fun T _ => T) (fun T x => Res.cells b2 ((wd a).map u64) 40 :: Res.cells b3 ((wd b).map u64) 40 :: Res.cells b4 (tw (wat (a + b)) x) 40 :: T) (fun x => 4 - x) 0 [24, 25] ?_ (fun x hx => ?_)
  · exact Nat.zero_le _
  refine .seq (.region ?_)
  refine .w (.bin rfl rfl BinR.lss_i) ?_
  refine .nil (.tn (.seq ?_))
  refine .cn rfl (fun hc1 => ?_) (fun hc1 => ?_)
  · refine .skip (.tn (.seq (.block (.seq (.region ?_)))))
    refine .w (.move rfl) ?_
    refine .w (.assign rfl) ?_
    refine .nil (.tn ?_)
    refine JC.draw (.one 0 (.one 1 (.one 2 (.one 3 (.one 4 (.one 5 (.one 6 (.one 7 (.one 8 (.one 9 (.one 10 (.one 11 (.one 12 (.one 13 (.one 14 .nil))))))))))))))) (fun i => ([13] : List Nat).contains i) (fun i => ([13] : List Nat).contains i) (fun i => ([0, 1, 2, 4, 5, 7, 8, 9, 10, 11, 12, 14] : List Nat).contains i) mixed (by kernel_rfl) (by decide) (by kernel_rfl) ?_
    refine .uw rfl (.move rfl) ?_
    refine .uw rfl (.move rfl) ?_
    refine .uw rfl (.ixA Tryz.underlying40 sz_22 rfl rfl) ?_
    refine .w rfl (.ld one_22 rfl (hj := by first | exact wd_get _ (by omega) | rfl | exact tab_get zqg | exact gm (d := 0) zqg)) ?_
    refine .uw rfl (.move rfl) ?_
    refine .uw rfl (.ixA Tryz.underlying40 sz_22 rfl rfl) ?_
    refine .w rfl (.ld one_22 rfl (hj := by first | exact wd_get _ (by omega) | rfl | exact tab_get zqg | exact gm (d := 0) zqg)) ?_
    refine .uw rfl (.move rfl) ?_
    refine .uw rfl (.as (v' := .tuple #[u64 (wat (a + b) x), u64 (cry a b (x + 1))]) (.ext rfl (ext_193 _ _ _ (cry_le _ _ _))) (by rw [add_word a b (by omega), add_cry a b (by omega)])) ?_
    refine .uw rfl (.move rfl) ?_
    refine .uw rfl (.as (v' := u64 (wat (a + b) x)) (.extract rfl rfl) rfl) ?_
    refine .uw rfl (.as (v' := u64 (cry a b (x + 1))) (.extract rfl rfl) rfl) ?_
    refine .uw rfl (.ixA Tryz.underlying40 sz_22 rfl rfl) ?_
    first | refine .mw0 rfl (.s1 sz_22) ?_ | refine .mw0 rfl (.sr1 sz_22) ?_
    rintro _ _ _ ⟨rfl, rfl⟩
    refine kp ?_
    refine .uw rfl (.assign rfl) ?_
    refine .nil (.block_normal (.tn (.region ?_)))
    refine .w (.bin rfl rfl (BinR.add_i zqf)) ?_
    refine .w (.move rfl) ?_
    refine .nil ?_
    rw [tw_set]
    refine .hd (x + 1) ?_
    exact ⟨by omega, by omega⟩
  · obtain rfl : x = 4 := by omega
    rw [tw_4]
    refine .exit (.then_exit (.then_exit (.block_exit (.tn (.seq (.region ?_))))))
    refine .w (.lda agg_40 rfl) ?_
    refine .w (.as (v' := u64 (BitVec.ofNat 64 ((a + b) / 115792089237316195423570985008687907853269984665640564039457584007913129639936))) (.move rfl) (congrArg u64 (cry_4 ha hb))) ?_
    first | refine .sa sz_40 ?_ | refine .so sz_40 ?_ | refine .sr sz_40 ?_
    refine .w (.assign rfl) ?_
    refine .nil (.tn (.ret ?_))
    exact .dn [] [] (res2 rfl (.cl agg_40) (.tmp rfl)) ⟨rfl, rfl, rfl⟩

theorem f195_spec (a b : Nat) (ha : a < 115792089237316195423570985008687907853269984665640564039457584007913129639936) (hb : b < 115792089237316195423570985008687907853269984665640564039457584007913129639936) :
    Spec Tryz.prog 195 #[(.agg ((wd a).map u64).toArray), (.agg ((wd b).map u64).toArray)] [] []
      (fun r Γ' H' => r = (.tuple #[.agg ((wd (115792089237316195423570985008687907853269984665640564039457584007913129639936 + a - b)).map u64).toArray, u64 (if a < b then 1 else 0)]) ∧ Γ' = [] ∧ H' = []) := by
  refine Spec.of_args Tryz.func195 rfl Tryz.ntmps195 (by simp) fun w => ?_
  refine .seq (.region ?_)
  refine .bx fun b2 => ?_
  refine .bx fun b3 => ?_
  refine .al zero_40 fun b4 => ?_
  refine .w (.as (v' := u64 (brw a b 0)) (.assign rfl) (by rw [brw_0]; rfl)) ?_
  refine .nil (.tn (.seq (.seq (.region ?_))))
  refine .w (.move rfl) ?_
  refine .nil (.tn (.block ?_))
  refine .lp (ι := Nat) (fun x => x ≤ 4) (fun T x => (2, ptr b2 0) :: (3, ptr b3 0) :: (4, ptr b4 0) :: (5, u64 (brw a b x)) :: (7, it (x : Int)) :: T) (fun T _ => T) (fun T x => Res.cells b2 ((wd a).map u64) 40 :: Res.cells b3 ((wd b).map u64) 40 :: Res.cells b4 (tw (wat (115792089237316195423570985008687907853269984665640564039457584007913129639936 + a - b)) x) 40 :: T) (fun x => 4 - x) 0 [24, 25] ?_ (fun x hx => ?_)
  · exact Nat.zero_le _
  refine .seq (.region ?_)
  refine .w (.bin rfl rfl BinR.lss_i) ?_
  refine .nil (.tn (.seq ?_))
  refine .cn rfl (fun hc1 => ?_) (fun hc1 => ?_)
  · refine .skip (.tn (.seq (.block (.seq (.region ?_)))))
    refine .w (.move rfl) ?_
    refine .w (.assign rfl) ?_
    refine .nil (.tn ?_)
    refine JC.draw (.one 0 (.one 1 (.one 2 (.one 3 (.one 4 (.one 5 (.one 6 (.one 7 (.one 8 (.one 9 (.one 10 (.one 11 (.one 12 (.one 13 (.one 14 .nil))))))))))))))) (fun i => ([13] : List Nat).contains i) (fun i => ([13] : List Nat).contains i) (fun i => ([0, 1, 2, 4, 5, 7, 8, 9, 10, 11, 12, 14] : List Nat).contains i) mixed (by kernel_rfl) (by decide) (by kernel_rfl) ?_
    refine .uw rfl (.move rfl) ?_
    refine .uw rfl (.move rfl) ?_
    refine .uw rfl (.ixA Tryz.underlying40 sz_22 rfl rfl) ?_
    refine .w rfl (.ld one_22 rfl (hj := by first | exact wd_get _ (by omega) | rfl | exact tab_get zqg | exact gm (d := 0) zqg)) ?_
    refine .uw rfl (.move rfl) ?_
    refine .uw rfl (.ixA Tryz.underlying40 sz_22 rfl rfl) ?_
    refine .w rfl (.ld one_22 rfl (hj := by first | exact wd_get _ (by omega) | rfl | exact tab_get zqg | exact gm (d := 0) zqg)) ?_
    refine .uw rfl (.move rfl) ?_
    refine .uw rfl (.as (v' := .tuple #[u64 (wat (115792089237316195423570985008687907853269984665640564039457584007913129639936 + a - b) x), u64 (brw a b (x + 1))]) (.ext rfl (ext_215 _ _ _ (brw_le _ _ _))) (by rw [sub_word hb (by omega), sub_brw a b (by omega)])) ?_
    refine .uw rfl (.move rfl) ?_
    refine .uw rfl (.as (v' := u64 (wat (115792089237316195423570985008687907853269984665640564039457584007913129639936 + a - b) x)) (.extract rfl rfl) rfl) ?_
    refine .uw rfl (.as (v' := u64 (brw a b (x + 1))) (.extract rfl rfl) rfl) ?_
    refine .uw rfl (.ixA Tryz.underlying40 sz_22 rfl rfl) ?_
    first | refine .mw0 rfl (.s1 sz_22) ?_ | refine .mw0 rfl (.sr1 sz_22) ?_
    rintro _ _ _ ⟨rfl, rfl⟩
    refine kp ?_
    refine .uw rfl (.assign rfl) ?_
    refine .nil (.block_normal (.tn (.region ?_)))
    refine .w (.bin rfl rfl (BinR.add_i zqf)) ?_
    refine .w (.move rfl) ?_
    refine .nil ?_
    rw [tw_set]
    refine .hd (x + 1) ?_
    exact ⟨by omega, by omega⟩
  · obtain rfl : x = 4 := by omega
    rw [tw_4]
    refine .exit (.then_exit (.then_exit (.block_exit (.tn (.seq (.region ?_))))))
    refine .w (.lda agg_40 rfl) ?_
    refine .w (.as (v' := u64 (if a < b then 1 else 0)) (.move rfl) (congrArg u64 (brw_4 ha hb))) ?_
    first | refine .sa sz_40 ?_ | refine .so sz_40 ?_ | refine .sr sz_40 ?_
    refine .w (.assign rfl) ?_
    refine .nil (.tn (.ret ?_))
    exact .dn [] [] (res2 rfl (.cl agg_40) (.tmp rfl)) ⟨rfl, rfl, rfl⟩

theorem f52_spec (a b : Nat) (ha : a < 115792089237316195423570985008687907853269984665640564039457584007913129639936) (hb : b < 115792089237316195423570985008687907853269984665640564039457584007913129639936) :
    Spec Tryz.prog 52 #[(.agg ((wd a).map u64).toArray), (.agg ((wd b).map u64).toArray)] [] []
      (fun r Γ' H' => r = (it (cmpN a b)) ∧ Γ' = [] ∧ H' = []) := by
  refine Spec.of_args Tryz.func52 rfl Tryz.ntmps52 (by simp) fun w => ?_
  refine .seq (.region ?_)
  refine .bx fun b2 => ?_
  refine .bx fun b3 => ?_
  refine .w (.assign rfl) ?_
  refine .nil (.tn (.scope (.seq (.region ?_))))
  refine .w (.assign rfl) ?_
  refine .nil (.tn (.seq (.label (.tn (.seq (.seq (.region ?_)))))))
  refine .w (.move rfl) ?_
  refine .nil (.tn (.block ?_))
  refine .lp (ι := Nat) (fun x => x ≤ 4 ∧ a / pw (4 - x) = b / pw (4 - x)) (fun T x => (2, ptr b2 0) :: (3, ptr b3 0) :: (5, it 0) :: (8, it (x : Int)) :: T) (fun T _ => T) (fun T x => Res.cells b2 ((wd a).map u64) 40 :: Res.cells b3 ((wd b).map u64) 40 :: T) (fun x => 4 - x) 0 [4, 30] ?_ (fun x hx => ?_)
  · exact ⟨Nat.zero_le _, by show a / pw 4 = b / pw 4; rw [pw_4, Nat.div_eq_of_lt ha, Nat.div_eq_of_lt hb]⟩
  refine .seq (.region ?_)
  refine .w (.bin rfl rfl BinR.lss_i) ?_
  refine .nil (.tn (.seq ?_))
  refine .cn rfl (fun hc1 => ?_) (fun hc1 => ?_)
  · refine .skip (.tn (.seq (.block (.seq (.region ?_)))))
    refine .w (.move rfl) ?_
    refine .w (.assign rfl) ?_
    refine .nil (.tn (.seq (.region ?_)))
    refine .w (.move rfl) ?_
    refine .w (.asI ((3 - x : Nat) : Int) (.bin rfl rfl (BinR.sub_i zqf))) ?_
    refine .w (.assign rfl) ?_
    refine .nil (.tn (.block (.seq ?_)))
    refine JC.draw (.one 0 (.one 1 (.one 2 (.one 3 (.one 4 (.one 5 (.one 6 (.one 7 .nil)))))))) (fun i => ([] : List Nat).contains i) (fun i => ([] : List Nat).contains i) (fun i => ([0, 1, 3, 4, 6, 7] : List Nat).contains i) mixed (by kernel_rfl) (by decide) (by kernel_rfl) ?_
    refine .uw rfl (.move rfl) ?_
    refine .uw rfl (.ixA Tryz.underlying40 sz_22 rfl rfl) ?_
    refine .w rfl (.ld one_22 rfl (hj := by first | exact wd_get _ (by omega) | rfl | exact tab_get zqg | exact gm (d := 0) zqg)) ?_
    refine .uw rfl (.move rfl) ?_
    refine .uw rfl (.ixA Tryz.underlying40 sz_22 rfl rfl) ?_
    refine .w rfl (.ld one_22 rfl (hj := by first | exact wd_get _ (by omega) | rfl | exact tab_get zqg | exact gm (d := 0) zqg)) ?_
    refine .uw rfl (.bin rfl rfl (BinR.lss_u64)) ?_
    refine .uw rfl (.assign rfl) ?_
    refine .nil (.tn ?_)
    refine .cn rfl (fun hc2 => ?_) (fun hc2 => ?_)
    · have hres : cmpN a b = -1 := by simp [cmpN, cmp_step (by omega) hx.2 hc2]
      refine .seq (.region ?_)
      refine .w (.assign rfl) ?_
      refine .nil (.tn (.exit (.block_other (by decide) (.block_other (by decide) (.then_exit (.then_exit (.block_exit (.tn (.seq (.region ?_))))))))))
      refine .w (.as (v' := it (cmpN a b)) (.move rfl) (congrArg it hres.symm)) ?_
      refine .w (.assign rfl) ?_
      refine .nil (.tn (.ret (.scope_ret ?_)))
      exact .dn [] [] (res1 rfl (.tmp rfl)) ⟨rfl, rfl, rfl⟩
    · refine .seq ?_
      refine JC.draw (.one 0 (.one 1 (.one 2 (.one 3 (.one 4 (.one 5 (.one 6 (.one 7 .nil)))))))) (fun i => ([] : List Nat).contains i) (fun i => ([] : List Nat).contains i) (fun i => ([0, 1, 3, 4, 6, 7] : List Nat).contains i) mixed (by kernel_rfl) (by decide) (by kernel_rfl) ?_
      refine .uw rfl (.move rfl) ?_
      refine .uw rfl (.ixA Tryz.underlying40 sz_22 rfl rfl) ?_
      refine .w rfl (.ld one_22 rfl (hj := by first | exact wd_get _ (by omega) | rfl | exact tab_get zqg | exact gm (d := 0) zqg)) ?_
      refine .uw rfl (.move rfl) ?_
      refine .uw rfl (.ixA Tryz.underlying40 sz_22 rfl rfl) ?_
      refine .w rfl (.ld one_22 rfl (hj := by first | exact wd_get _ (by omega) | rfl | exact tab_get zqg | exact gm (d := 0) zqg)) ?_
      refine .uw rfl (.bin rfl rfl (BinR.gtr_u64)) ?_
      refine .uw rfl (.assign rfl) ?_
      refine .nil (.tn ?_)
      refine .cn rfl (fun hc3 => ?_) (fun hc3 => ?_)
      · have hres : cmpN a b = 1 := by have h := cmp_step (by omega) hx.2.symm hc3; rw [cmpN, if_neg (by omega), if_pos h]
        refine .seq (.region ?_)
        refine .w (.assign rfl) ?_
        refine .nil (.tn (.exit (.block_other (by decide) (.block_other (by decide) (.then_exit (.then_exit (.block_exit (.tn (.seq (.region ?_))))))))))
        refine .w (.as (v' := it (cmpN a b)) (.move rfl) (congrArg it hres.symm)) ?_
        refine .w (.assign rfl) ?_
        refine .nil (.tn (.ret (.scope_ret ?_)))
        exact .dn [] [] (res1 rfl (.tmp rfl)) ⟨rfl, rfl, rfl⟩
      · refine .skip (.block_normal (.block_normal (.tn (.region ?_))))
        refine .w (.bin rfl rfl (BinR.add_i zqf)) ?_
        refine .w (.move rfl) ?_
        refine .nil ?_
        refine .hd (x + 1) ?_
        exact ⟨⟨by omega, cmp_next (by omega) hx.2 hc2 (by omega)⟩, by omega⟩
  · obtain rfl : x = 4 := by omega
    have hres : cmpN a b = 0 := by have h := hx.2; simp only [Nat.sub_self, pw_0, Nat.div_one] at h; simp [cmpN, h]
    refine .exit (.then_exit (.then_exit (.block_exit (.tn (.seq (.region ?_))))))
    refine .w (.as (v' := it (cmpN a b)) (.move rfl) (congrArg it hres.symm)) ?_
    refine .w (.assign rfl) ?_
    refine .nil (.tn (.ret (.scope_ret ?_)))
    exact .dn [] [] (res1 rfl (.tmp rfl)) ⟨rfl, rfl, rfl⟩

theorem f160_spec (a i : Nat) (hi : i < 256) :
    Spec Tryz.prog 160 #[(.agg ((wd a).map u64).toArray), (it (i : Int))] [] []
      (fun r Γ' H' => r = (u64 (bitN a i)) ∧ Γ' = [] ∧ H' = []) := by
  refine Spec.of_args Tryz.func160 rfl Tryz.ntmps160 (by simp) fun w => ?_
  refine .seq (.region ?_)
  refine .bx fun b2 => ?_
  refine .w (.assign rfl) ?_
  refine .nil (.tn (.seq (.seq (.region ?_))))
  refine .w (.move rfl) ?_
  refine .w (.asF (.bin rfl rfl BinR.lss_i)) ?_
  refine .w (.move rfl) ?_
  refine .gt (g := 7) rfl rfl rfl ?_
  refine .w (.move rfl) ?_
  refine .gt (g := 7) rfl rfl rfl ?_
  refine .w (.asF (.bin rfl rfl BinR.geq_i)) ?_
  refine .w (.pick0 rfl rfl rfl) ?_
  refine .nil (.tn ?_)
  refine .cn rfl (fun hc1 => ?_) (fun hc1 => ?_)
  · exact absurd hc1 (by decide)
  · refine .skip (.tn (.seq (.region ?_)))
    refine .w (.move rfl) ?_
    refine .w (.asI ((i / 64 : Nat) : Int) (.bin rfl rfl (BinR.quo_i (by first | omega | decide | (simp; omega)) (by first | omega | decide | (simp; omega)) zqf))) ?_
    refine .w (.ixA Tryz.underlying40 sz_22 rfl rfl) ?_
    refine .w (.ld one_22 rfl (hj := by first | exact wd_get _ (by omega) | rfl | exact tab_get zqg | exact gm (d := 0) zqg)) ?_
    refine .w (.move rfl) ?_
    refine .w (.asI ((i % 64 : Nat) : Int) (.bin rfl rfl (BinR.rem_i (by first | omega | decide | (simp; omega)) (by first | omega | decide | (simp; omega))))) ?_
    refine .w (.as (v' := u64 (wat a (i / 64) >>> (i % 64))) (.bin rfl rfl (BinR.shr_u64_i (by first | omega | decide | (simp; omega)))) (congrArg (fun n => u64 (wat a (i / 64) >>> n)) (by omega))) ?_
    refine .w (.as (v' := u64 (bitN a i)) (.bin rfl rfl (BinR.and_u64 (b := 1#64))) (congrArg u64 (bit_at a hi))) ?_
    refine .w (.assign rfl) ?_
    refine .nil (.tn (.ret ?_))
    exact .dn [] [] (res1 rfl (.tmp rfl)) ⟨rfl, rfl, rfl⟩

theorem f214_spec (a : Nat) (i : Int) :
    Spec Tryz.prog 214 #[(.agg ((wd a).map u64).toArray), (it i)] [] []
      (fun r Γ' H' => r = (u64 (wordN a i)) ∧ Γ' = [] ∧ H' = []) := by
  refine Spec.of_args Tryz.func214 rfl Tryz.ntmps214 (by simp) fun w => ?_
  refine .seq (.region ?_)
  refine .bx fun b2 => ?_
  refine .w (.assign rfl) ?_
  refine .nil (.tn (.seq (.seq (.region ?_))))
  refine .w (.move rfl) ?_
  refine .w (.bin rfl rfl BinR.lss_i) ?_
  refine .w (.move rfl) ?_
  refine .join 3 10 (.bool (decide (i < 0 ∨ i ≥ 4))) ?_ ?_
  · refine .gn (g := 6) rfl (fun hg6 hg6' => ?_) (fun hg6 hg6' => ?_)
    · refine .gf (g := 7) rfl rfl hg6 (by decide) ?_
      refine .gf (g := 7) rfl rfl hg6 (by decide) ?_
      refine .w (.pick1 rfl hg6 rfl) ?_
      refine .nil ?_
      refine .head () (by first | (refine ⟨by first | rfl | exact congrArg (fun b => some (Value.bool b)) (by first | exact (decide_eq_true (by omega)).symm | exact (decide_eq_false (by omega)).symm | exact decide_eq_decide.2 (by omega)) | (simp [*]; done) | (show some _ = some _; simp [*]; done), ?_⟩; repeat (first | exact trivial | refine ⟨rfl, ?_⟩))) (fun _ h => h) (Picks.perm zqd) ?_
      trivial
    · refine .gt (g := 7) rfl rfl hg6 ?_
      refine .w (.move rfl) ?_
      refine .gt (g := 7) rfl rfl hg6 ?_
      refine .w (.bin rfl rfl BinR.geq_i) ?_
      refine .w (.pick0 rfl hg6 rfl) ?_
      refine .nil ?_
      refine .head () (by first | (refine ⟨by first | rfl | exact congrArg (fun b => some (Value.bool b)) (by first | exact (decide_eq_true (by omega)).symm | exact (decide_eq_false (by omega)).symm | exact decide_eq_decide.2 (by omega)) | (simp [*]; done) | (show some _ = some _; simp [*]; done), ?_⟩; repeat (first | exact trivial | refine ⟨rfl, ?_⟩))) (fun _ h => h) (Picks.perm zqd) ?_
      trivial
  · refine .nil (.tn ?_)
    refine .cn rfl (fun hc1 => ?_) (fun hc1 => ?_)
    · skip
      refine .seq (.region ?_)
      refine .w (.as (v' := u64 (wordN a i)) (.assign rfl) (by rw [wordN, if_neg (by omega)]; rfl)) ?_
      refine .nil (.tn (.ret (.then_ret ?_)))
      exact .dn [] [] (res1 rfl (.tmp rfl)) ⟨rfl, rfl, rfl⟩
    · obtain ⟨n, rfl⟩ : ∃ n : Nat, i = n := ⟨i.toNat, by omega⟩
      refine .skip (.tn (.seq (.region ?_)))
      refine .w (.move rfl) ?_
      refine .w (.ixA Tryz.underlying40 sz_22 rfl rfl) ?_
      refine .w (.ld one_22 rfl (hj := by first | exact wd_get _ (by omega) | rfl | exact tab_get zqg | exact gm (d := 0) zqg)) ?_
      refine .w (.as (v' := u64 (wordN a n)) (.assign rfl) (by rw [wordN, if_pos (by omega)]; rfl)) ?_
      refine .nil (.tn (.ret ?_))
      exact .dn [] [] (res1 rfl (.tmp rfl)) ⟨rfl, rfl, rfl⟩

theorem f194_spec (a : Nat) :
    Spec Tryz.prog 194 #[(.agg ((wd a).map u64).toArray), (it 1)] [] []
      (fun r Γ' H' => r = (.agg ((wd (2 * a)).map u64).toArray) ∧ Γ' = [] ∧ H' = []) := by
  refine Spec.of_args Tryz.func194 rfl Tryz.ntmps194 (by simp) fun w => ?_
  refine .seq (.region ?_)
  refine .bx fun b2 => ?_
  refine .al zero_40 fun b4 => ?_
  refine .nil (.tn (.seq (.region ?_)))
  refine .al zero_40 fun b5 => ?_
  refine .nil (.tn (.seq (.seq (.region ?_))))
  refine .w (.move rfl) ?_
  refine .w (.asF (.bin rfl rfl BinR.leq_i)) ?_
  refine .w (.move rfl) ?_
  refine .gt (g := 11) rfl rfl rfl ?_
  refine .w (.move rfl) ?_
  refine .gt (g := 11) rfl rfl rfl ?_
  refine .w (.asF (.bin rfl rfl BinR.geq_i)) ?_
  refine .w (.pick0 rfl rfl rfl) ?_
  refine .nil (.tn ?_)
  refine .cn rfl (fun hc1 => ?_) (fun hc1 => ?_)
  · exact absurd hc1 (by decide)
  · refine .skip (.tn (.seq (.region ?_)))
    refine .w (.move rfl) ?_
    refine JO.v (Yv.bin rfl rfl shr_1_6) (by decide) ?_
    refine .w (.move rfl) ?_
    refine JO.v (Yv.bin rfl rfl and_1_63) (by decide) ?_
    refine .w (.assign rfl) ?_
    refine .w (.assign rfl) ?_
    refine .nil (.tn (.seq (.seq (.region ?_))))
    refine .w (.move rfl) ?_
    refine .nil (.tn (.block ?_))
    refine .lp (ι := Nat) (fun x => x ≤ 4) (fun T x => (2, ptr b2 0) :: (4, ptr b4 0) :: (5, ptr b5 0) :: (6, it 0) :: (7, it 1) :: (20, it (x : Int)) :: T) (fun T _ => T) (fun T x => Res.cells b2 ((wd a).map u64) 40 :: Res.cells b4 ((wd 0).map u64) 40 :: Res.cells b5 (tw (wat (2 * a)) x) 40 :: T) (fun x => 4 - x) 0 [44] ?_ (fun x hx => ?_)
    · exact Nat.zero_le _
    refine .seq (.region ?_)
    refine .w (.bin rfl rfl BinR.lss_i) ?_
    refine .nil (.tn (.seq ?_))
    refine .cn rfl (fun hc2 => ?_) (fun hc2 => ?_)
    · refine .skip (.tn (.seq (.block (.seq (.region ?_)))))
      refine .w (.move rfl) ?_
      refine .w (.assign rfl) ?_
      refine .nil (.tn ?_)
      refine JC.draw (.one 0 (.one 1 (.one 2 (.one 3 (.one 4 (.one 6 (.one 8 (.one 9 (.one 10 (.one 11 (.one 12 (.one 15 (.one 16 (.one 5 (.one 7 (.one 13 (.one 14 (.one 17 (.one 18 (.one 19 (.one 20 .nil))))))))))))))))))))) (fun i => ([13, 20] : List Nat).contains i) (fun i => ([5, 13, 20] : List Nat).contains i) (fun i => ([0, 2, 3, 4, 6, 7, 9, 10, 11, 12, 14, 15, 16, 17, 18, 19] : List Nat).contains i) mixed (by kernel_rfl) (by decide) (by kernel_rfl) ?_
      refine .uw rfl (.move rfl) ?_
      refine .w rfl (.lda agg_40 rfl) ?_
      refine .uw rfl (.move rfl) ?_
      refine .uw rfl (.move rfl) ?_
      refine .uw rfl (.asI (x : Int) (.bin rfl rfl (BinR.sub_i zqf))) ?_
      refine .uw rfl (.move rfl) ?_
      refine .w rfl (.lda agg_40 rfl) ?_
      refine .uw rfl (.move rfl) ?_
      refine .uw rfl (.move rfl) ?_
      refine .uw rfl (.asI (x : Int) (.bin rfl rfl (BinR.sub_i zqf))) ?_
      refine .uw rfl (.bin rfl rfl (BinR.sub_i zqf)) ?_
      refine .uw rfl (.move rfl) ?_
      refine .uw rfl (.asI 62 (.bin rfl rfl (BinR.sub_i zqf))) ?_
      refine .mw rfl (.c (f214_spec a (x : Int)) body_214) ?_
      rintro _ _ _ ⟨rfl, rfl, rfl⟩
      refine kp ?_
      refine .uw rfl (.as (v' := u64 (wordN a x <<< 1)) (.bin rfl rfl (BinR.shl_u64_i (by first | omega | decide | (simp; omega)))) rfl) ?_
      refine .mw rfl (.c (f214_spec a ((x : Int) - 1)) body_214) ?_
      rintro _ _ _ ⟨rfl, rfl, rfl⟩
      refine kp ?_
      refine .uw rfl (.as (v' := u64 (wordN a ((x : Int) - 1) >>> 1)) (.bin rfl rfl (BinR.shr_u64_u64 (n := 1#64))) rfl) ?_
      refine .uw rfl (.as (v' := u64 (wordN a ((x : Int) - 1) >>> 1 >>> 62)) (.bin rfl rfl (BinR.shr_u64_i (by first | omega | decide | (simp; omega)))) rfl) ?_
      refine .uw rfl (.as (v' := u64 (wat (2 * a) x)) (.bin rfl rfl (BinR.or_u64)) (congrArg u64 (shift_w a (by omega)))) ?_
      refine .uw rfl (.ixA Tryz.underlying40 sz_22 rfl rfl) ?_
      first | refine .mw0 rfl (.s1 sz_22) ?_ | refine .mw0 rfl (.sr1 sz_22) ?_
      rintro _ _ _ ⟨rfl, rfl⟩
      refine kp ?_
      refine .nil (.block_normal (.tn (.region ?_)))
      refine .w (.bin rfl rfl (BinR.add_i zqf)) ?_
      refine .w (.move rfl) ?_
      refine .nil ?_
      rw [tw_set]
      refine .hd (x + 1) ?_
      exact ⟨by omega, by omega⟩
    · obtain rfl : x = 4 := by omega
      rw [tw_4]
      refine .exit (.then_exit (.then_exit (.block_exit (.tn (.seq (.region ?_))))))
      refine .w (.lda agg_40 rfl) ?_
      first | refine .sa sz_40 ?_ | refine .so sz_40 ?_ | refine .sr sz_40 ?_
      refine .nil (.tn (.ret ?_))
      exact .dn [] [] (res1 rfl (.cl agg_40)) ⟨rfl, rfl, rfl⟩

theorem f164_spec (z m t : Nat) (hr : z < m) (hm : m < 115792089237316195423570985008687907853269984665640564039457584007913129639936) (ht : t < 2) :
    Spec Tryz.prog 164 #[(.agg ((wd z).map u64).toArray), (.agg ((wd m).map u64).toArray), (u64 (BitVec.ofNat 64 t))] [] []
      (fun r Γ' H' => r = (.tuple #[.agg ((wd (brF z m t)).map u64).toArray, u64 (BitVec.ofNat 64 (brG z m t))]) ∧ Γ' = [] ∧ H' = []) := by
  refine Spec.of_args Tryz.func164 rfl Tryz.ntmps164 (by simp) fun w => ?_
  refine .seq (.region ?_)
  refine .bx fun b3 => ?_
  refine .bx fun b4 => ?_
  refine .al zero_40 fun b6 => ?_
  refine .w (.assign rfl) ?_
  refine .nil (.tn (.seq (.region ?_)))
  refine .w (.lda agg_40 rfl) ?_
  refine .c (f160_spec z 255 (by decide)) body_160 ?_
  refine .w (.assign rfl) ?_
  refine .nil (.tn (.seq (.region ?_)))
  refine .w (.lda agg_40 rfl) ?_
  refine .c (f194_spec z) body_194 ?_
  first | refine .sa sz_40 ?_ | refine .so sz_40 ?_ | refine .sr sz_40 ?_
  refine .nil (.tn (.seq (.region ?_)))
  refine .w (.ixA (j := 0) Tryz.underlying40 sz_22 rfl rfl) ?_
  refine .w (.ld one_22 rfl (hj := by first | exact wd_get _ (by omega) | rfl | exact tab_get zqg | exact gm (d := 0) zqg)) ?_
  refine .w (.move rfl) ?_
  refine .w (.bin rfl rfl (BinR.or_u64)) ?_
  refine .w (.ixA (j := 0) Tryz.underlying40 sz_22 rfl rfl) ?_
  first | refine .s1 sz_22 ?_ | refine .sr1 sz_22 ?_
  rw [dbl_or' z ht]
  refine .nil (.tn (.seq (.seq (.region ?_))))
  refine .w (.move rfl) ?_
  refine .w (.bin rfl rfl (BinR.eql_u64 (b := 1#64))) ?_
  refine .w (.move rfl) ?_
  refine .join 5 25 (.bool (decide (m ≤ 2 * z + t))) ?_ ?_
  · refine .gn (g := 19) rfl (fun hg20 hg20' => ?_) (fun hg20 hg20' => ?_)
    · try simp only [BitVec.reduceToNat] at hg20'
      have hle : m ≤ 2 * z + t := over_t hr hm hg20'
      refine .gf (g := 20) rfl rfl hg20 (by decide) ?_
      refine .gf (g := 20) rfl rfl hg20 (by decide) ?_
      refine .gf (g := 20) rfl rfl hg20 (by decide) ?_
      refine .gf (g := 20) rfl rfl hg20 (by decide) ?_
      refine .w (.pick1 rfl hg20 rfl) ?_
      refine .nil ?_
      refine .head () (by first | (refine ⟨by first | rfl | exact congrArg (fun b => some (Value.bool b)) (by first | exact (decide_eq_true (by omega)).symm | exact (decide_eq_false (by omega)).symm | exact decide_eq_decide.2 (by omega)) | (simp [*]; done) | (show some _ = some _; simp [*]; done), ?_⟩; repeat (first | exact trivial | refine ⟨rfl, ?_⟩))) (fun _ h => h) (Picks.perm zqd) ?_
      trivial
    · try simp only [BitVec.reduceToNat] at hg20'
      have hlt : 2 * z + t < 115792089237316195423570985008687907853269984665640564039457584007913129639936 := over_f (by omega) ht hg20'
      refine .gt (g := 20) rfl rfl hg20 ?_
      refine .w (.lda agg_40 rfl) ?_
      refine .gt (g := 20) rfl rfl hg20 ?_
      refine .w (.lda agg_40 rfl) ?_
      refine .gt (g := 20) rfl rfl hg20 ?_
      refine .c (f52_spec (2 * z + t) m hlt hm) body_52 ?_
      refine .gt (g := 20) rfl rfl hg20 ?_
      refine .w (.as (v' := .bool (decide (m ≤ 2 * z + t))) (.bin rfl rfl BinR.geq_i) (congrArg Value.bool (decide_eq_decide.2 (cmp_ge _ _)))) ?_
      refine .w (.pick0 rfl hg20 rfl) ?_
      refine .nil ?_
      refine .head () (by first | (refine ⟨by first | rfl | exact congrArg (fun b => some (Value.bool b)) (by first | exact (decide_eq_true (by omega)).symm | exact (decide_eq_false (by omega)).symm | exact decide_eq_decide.2 (by omega)) | (simp [*]; done) | (show some _ = some _; simp [*]; done), ?_⟩; repeat (first | exact trivial | refine ⟨rfl, ?_⟩))) (fun _ h => h) (Picks.perm zqd) ?_
      trivial
  · refine .nil (.tn ?_)
    refine .cn rfl (fun hc1 => ?_) (fun hc1 => ?_)
    · rw [← wd_mod (2 * z + t)]
      refine .seq (.region ?_)
      refine .w (.lda agg_40 rfl) ?_
      refine .w (.lda agg_40 rfl) ?_
      refine .c (f195_spec ((2 * z + t) % 115792089237316195423570985008687907853269984665640564039457584007913129639936) m (Nat.mod_lt _ (by decide)) hm) body_195 ?_
      rw [sub_br hc1 (by omega) hm]
      refine .w (.move rfl) ?_
      refine .w (.as (v' := .agg ((wd (2 * z + t - m)).map u64).toArray) (.extract rfl rfl) rfl) ?_
      refine .w (.extract rfl rfl) ?_
      first | refine .sa sz_40 ?_ | refine .so sz_40 ?_ | refine .sr sz_40 ?_
      refine .nil (.tn (.seq (.region ?_)))
      refine .w (.lda agg_40 rfl) ?_
      first | refine .sa sz_40 ?_ | refine .so sz_40 ?_ | refine .sr sz_40 ?_
      refine .w (.assign rfl) ?_
      refine .nil (.tn (.ret (.then_ret ?_)))
      exact .dn [] [] (res2 rfl (.cl agg_40) (.tmp rfl)) ⟨by rw [brF, brG, if_pos hc1, if_pos hc1]; rfl, rfl, rfl⟩
    · skip
      refine .skip (.tn (.seq (.region ?_)))
      refine .w (.lda agg_40 rfl) ?_
      first | refine .sa sz_40 ?_ | refine .so sz_40 ?_ | refine .sr sz_40 ?_
      refine .w (.assign rfl) ?_
      refine .nil (.tn (.ret ?_))
      exact .dn [] [] (res2 rfl (.cl agg_40) (.tmp rfl)) ⟨by rw [brF, brG, if_neg hc1, if_neg hc1]; rfl, rfl, rfl⟩

set_option maxHeartbeats 1000000 in
theorem f113_spec (a m : Nat) (ha : a < 115792089237316195423570985008687907853269984665640564039457584007913129639936) (hm : m < 115792089237316195423570985008687907853269984665640564039457584007913129639936) :
    Spec Tryz.prog 113 #[(.agg ((wd a).map u64).toArray), (.agg ((wd m).map u64).toArray)] [] []
      (fun r Γ' H' => r = (.tuple #[.agg ((wd (a / m)).map u64).toArray, .agg ((wd (remF a m)).map u64).toArray, it (if m = 0 then 11 else 0)]) ∧ Γ' = [] ∧ H' = []) := by
  refine Spec.of_args Tryz.func113 rfl Tryz.ntmps113 (by simp) fun w => ?_
  refine .seq (.region ?_)
  refine .bx fun b2 => ?_
  refine .bx fun b3 => ?_
  refine .al zero_40 fun b4 => ?_
  refine .al zero_40 fun b5 => ?_
  refine .w (.assign rfl) ?_
  refine .nil (.tn (.seq (.seq (.region ?_))))
  refine .w (.lda agg_40 rfl) ?_
  refine .w (.as (v' := .agg ((wd 0).map u64).toArray) (.lda agg_40 rfl) rfl) ?_
  refine .w (.as (v' := .bool (decide (m = 0))) (.bin rfl rfl (eql_nat wd_len' wd_len')) (congrArg Value.bool (decide_eq_decide.2 (by rw [wd_eq hm (by decide)])))) ?_
  refine .nil (.tn ?_)
  refine .cn rfl (fun hc1 => ?_) (fun hc1 => ?_)
  · subst hc1
    refine .seq ?_
    refine JC.draw (.one 0 (.one 1 (.one 2 (.one 3 (.one 4 .nil))))) (fun i => ([3] : List Nat).contains i) (fun i => ([2, 3] : List Nat).contains i) (fun i => ([4] : List Nat).contains i) mixed (by kernel_rfl) (by decide) (by kernel_rfl) ?_
    refine .w rfl (.as (v' := .agg ((wd 0).map u64).toArray) (.lda agg_40 rfl) rfl) ?_
    refine .w rfl (.as (v' := .agg ((wd 0).map u64).toArray) (.lda agg_40 rfl) rfl) ?_
    first | refine .mw0 rfl (.sa sz_40) ?_ | refine .mw0 rfl (.so sz_40) ?_ | refine .mw0 rfl (.sr sz_40) ?_
    rintro _ _ _ ⟨rfl, rfl⟩
    refine kp ?_
    first | refine .mw0 rfl (.sa sz_40) ?_ | refine .mw0 rfl (.so sz_40) ?_ | refine .mw0 rfl (.sr sz_40) ?_
    rintro _ _ _ ⟨rfl, rfl⟩
    refine kp ?_
    refine .uw rfl (.assign rfl) ?_
    refine .nil (.tn (.ret (.then_ret ?_)))
    exact .dn [] [] (res3 rfl (.cl agg_40) (.cl agg_40) (.tmp rfl)) ⟨by rw [Nat.div_zero, remF, if_pos rfl, if_pos rfl], rfl, rfl⟩
  · have hm0 : 0 < m := Nat.pos_of_ne_zero hc1
    refine .skip (.tn (.seq (.seq (.region ?_))))
    refine .w (.assign rfl) ?_
    refine .nil (.tn (.block ?_))
    refine .lp (ι := Nat) (fun x => x ≤ 256) (fun T x => (2, ptr b2 0) :: (3, ptr b3 0) :: (4, ptr b4 0) :: (5, ptr b5 0) :: (6, it 0) :: (7, it ((x : Int) - 1)) :: T) (fun T _ => T) (fun T x => Res.cells b2 ((wd a).map u64) 40 :: Res.cells b3 ((wd m).map u64) 40 :: Res.cells b4 ((wd (quoK a m x)).map u64) 40 :: Res.cells b5 ((wd (restK a m x)).map u64) 40 :: T) (fun x => x) 256 [37, 38] ?_ (fun x hx => ?_) (hH := (by rw [quo_top ha, rest_top ha]; repeat (first | exact Picks.nil _ | apply Picks.cons | exact Pull.here _ _ | apply Pull.there)))
    · exact Nat.le_refl _
    refine .seq (.seq (.region ?_))
    refine .w (.move rfl) ?_
    refine .w (.bin rfl rfl BinR.geq_i) ?_
    refine .nil (.tn ?_)
    refine .cn rfl (fun hc2 => ?_) (fun hc2 => ?_)
    · obtain ⟨k, rfl⟩ : ∃ k, x = k + 1 := ⟨x - 1, by omega⟩
      refine .skip (.tn (.seq (.block (.seq (.region ?_)))))
      refine .w (.assign rfl) ?_
      refine .nil (.tn (.seq ?_))
      refine JC.draw (.one 0 (.one 1 (.one 2 (.one 3 (.one 4 (.one 5 (.one 6 (.one 7 (.one 8 (.one 9 (.one 10 .nil))))))))))) (fun i => ([5, 9] : List Nat).contains i) (fun i => ([4, 5, 9] : List Nat).contains i) (fun i => ([3, 6, 7, 8, 10] : List Nat).contains i) mixed (by kernel_rfl) (by decide) (by kernel_rfl) ?_
      refine .w rfl (.lda agg_40 rfl) ?_
      refine .w rfl (.lda agg_40 rfl) ?_
      refine .w rfl (.lda agg_40 rfl) ?_
      refine .uw rfl (.asI (k : Int) (.move rfl)) ?_
      refine .mw rfl (.c (f160_spec a k (by omega)) body_160) ?_
      rintro _ _ _ ⟨rfl, rfl, rfl⟩
      refine kp ?_
      refine .mw rfl (.c (f164_spec (restK a m (k + 1)) m (a / 2 ^ k % 2) (rest_lt hm0) hm (Nat.mod_lt _ (by decide))) body_164) ?_
      rintro _ _ _ ⟨rfl, rfl, rfl⟩
      rw [← rest_step' hm0]
      refine kp ?_
      refine .uw rfl (.move rfl) ?_
      refine .uw rfl (.as (v' := .agg ((wd (restK a m k)).map u64).toArray) (.extract rfl rfl) rfl) ?_
      refine .uw rfl (.as (v' := u64 (BitVec.ofNat 64 (brG (restK a m (k + 1)) m (a / 2 ^ k % 2)))) (.extract rfl rfl) rfl) ?_
      first | refine .mw0 rfl (.sa sz_40) ?_ | refine .mw0 rfl (.so sz_40) ?_ | refine .mw0 rfl (.sr sz_40) ?_
      rintro _ _ _ ⟨rfl, rfl⟩
      refine kp ?_
      refine .uw rfl (.assign rfl) ?_
      refine .nil (.tn ?_)
      refine JC.draw (.one 0 (.one 1 (.one 2 (.one 3 (.one 4 (.one 5 (.one 6 (.one 7 (.one 8 (.one 9 (.one 10 .nil))))))))))) (fun i => ([10] : List Nat).contains i) (fun i => ([10] : List Nat).contains i) (fun i => ([0, 1, 2, 4, 5, 6, 7, 8, 9] : List Nat).contains i) mixed (by kernel_rfl) (by decide) (by kernel_rfl) ?_
      refine .uw rfl (.asI (k : Int) (.move rfl)) ?_
      refine .uw rfl (.asI ((k / 64 : Nat) : Int) (.bin rfl rfl (BinR.quo_i (by first | omega | decide | (simp; omega)) (by first | omega | decide | (simp; omega)) zqf))) ?_
      refine .uw rfl (.ixA Tryz.underlying40 sz_22 rfl rfl) ?_
      refine .w rfl (.ld one_22 rfl (hj := by first | exact wd_get _ (by omega) | rfl | exact tab_get zqg | exact gm (d := 0) zqg)) ?_
      refine .uw rfl (.move rfl) ?_
      refine .uw rfl (.asI (k : Int) (.move rfl)) ?_
      refine .uw rfl (.asI ((k % 64 : Nat) : Int) (.bin rfl rfl (BinR.rem_i (by first | omega | decide | (simp; omega)) (by first | omega | decide | (simp; omega))))) ?_
      refine .uw rfl (.as (v' := u64 (BitVec.ofNat 64 (brG (restK a m (k + 1)) m (a / 2 ^ k % 2)) <<< (k % 64))) (.bin rfl rfl (BinR.shl_u64_i (by first | omega | decide | (simp; omega)))) (congrArg (fun n => u64 (BitVec.ofNat 64 (brG (restK a m (k + 1)) m (a / 2 ^ k % 2)) <<< n)) (by omega))) ?_
      refine .uw rfl (.bin rfl rfl (BinR.or_u64)) ?_
      refine .uw rfl (.ixA Tryz.underlying40 sz_22 rfl rfl) ?_
      first | refine .mw0 rfl (.s1 sz_22) ?_ | refine .mw0 rfl (.sr1 sz_22) ?_
      rintro _ _ _ ⟨rfl, rfl⟩
      refine kp ?_
      refine .nil (.block_normal (.tn (.region ?_)))
      refine .w (.asI (k : Int) (.move rfl)) ?_
      refine .w (.bin rfl rfl (BinR.sub_i zqf)) ?_
      refine .w (.assign rfl) ?_
      refine .nil ?_
      rw [quo_setv hm0 (by omega)]
      refine .hd k ?_
      exact ⟨by omega, by omega⟩
    · obtain rfl : x = 0 := by omega
      rw [rest_0, quo_0]
      refine .exit (.then_exit (.then_exit (.block_exit (.tn (.seq ?_)))))
      refine JC.draw (.one 0 (.one 1 (.one 2 (.one 3 (.one 4 .nil))))) (fun i => ([3] : List Nat).contains i) (fun i => ([2, 3] : List Nat).contains i) (fun i => ([4] : List Nat).contains i) mixed (by kernel_rfl) (by decide) (by kernel_rfl) ?_
      refine .w rfl (.lda agg_40 rfl) ?_
      refine .w rfl (.lda agg_40 rfl) ?_
      first | refine .mw0 rfl (.sa sz_40) ?_ | refine .mw0 rfl (.so sz_40) ?_ | refine .mw0 rfl (.sr sz_40) ?_
      rintro _ _ _ ⟨rfl, rfl⟩
      refine kp ?_
      first | refine .mw0 rfl (.sa sz_40) ?_ | refine .mw0 rfl (.so sz_40) ?_ | refine .mw0 rfl (.sr sz_40) ?_
      rintro _ _ _ ⟨rfl, rfl⟩
      refine kp ?_
      refine .uw rfl (.assign rfl) ?_
      refine .nil (.tn (.ret ?_))
      exact .dn [] [] (res3 rfl (.cl agg_40) (.cl agg_40) (.tmp rfl)) ⟨by rw [remF, if_neg hc1, if_neg hc1], rfl, rfl⟩

theorem f165_spec (x y : W64) :
    Spec Tryz.prog 165 #[u64 x, u64 y] [] []
      (fun r Γ' H' => r = (.tuple #[u64 (BitVec.ofNat 64 (x.toNat * y.toNat / 18446744073709551616)), u64 (x * y)]) ∧ Γ' = [] ∧ H' = []) := by
  refine Spec.of_args Tryz.func165 rfl Tryz.ntmps165 (by simp) fun w => ?_
  refine .seq (.region ?_)
  refine .w (.assign rfl) ?_
  refine .w (.assign rfl) ?_
  refine .nil (.tn (.seq (.region ?_)))
  refine .w (.move rfl) ?_
  refine .w (.bin rfl rfl (BinR.and_u64 (b := 4294967295#64))) ?_
  refine .w (.assign rfl) ?_
  refine .nil (.tn (.seq (.region ?_)))
  refine .w (.move rfl) ?_
  refine .w (.bin rfl rfl (BinR.shr_u64_u64 (n := 32#64))) ?_
  refine .w (.assign rfl) ?_
  refine .nil (.tn (.seq (.region ?_)))
  refine .w (.move rfl) ?_
  refine .w (.bin rfl rfl (BinR.and_u64 (b := 4294967295#64))) ?_
  refine .w (.assign rfl) ?_
  refine .nil (.tn (.seq (.region ?_)))
  refine .w (.move rfl) ?_
  refine .w (.bin rfl rfl (BinR.shr_u64_u64 (n := 32#64))) ?_
  refine .w (.assign rfl) ?_
  refine .nil (.tn (.seq (.region ?_)))
  refine .w (.move rfl) ?_
  refine .w (.move rfl) ?_
  refine .w (.bin rfl rfl (BinR.mul_u64)) ?_
  refine .w (.assign rfl) ?_
  refine .nil (.tn (.seq (.region ?_)))
  refine .w (.move rfl) ?_
  refine .w (.move rfl) ?_
  refine .w (.bin rfl rfl (BinR.mul_u64)) ?_
  refine .w (.move rfl) ?_
  refine .w (.bin rfl rfl (BinR.shr_u64_u64 (n := 32#64))) ?_
  refine .w (.bin rfl rfl (BinR.add_u64)) ?_
  refine .w (.assign rfl) ?_
  refine .nil (.tn (.seq (.region ?_)))
  refine .w (.move rfl) ?_
  refine .w (.bin rfl rfl (BinR.and_u64 (b := 4294967295#64))) ?_
  refine .w (.assign rfl) ?_
  refine .nil (.tn (.seq (.region ?_)))
  refine .w (.move rfl) ?_
  refine .w (.bin rfl rfl (BinR.shr_u64_u64 (n := 32#64))) ?_
  refine .w (.assign rfl) ?_
  refine .nil (.tn (.seq (.region ?_)))
  refine .w (.move rfl) ?_
  refine .w (.move rfl) ?_
  refine .w (.move rfl) ?_
  refine .w (.bin rfl rfl (BinR.mul_u64)) ?_
  refine .w (.bin rfl rfl (BinR.add_u64)) ?_
  refine .w (.assign rfl) ?_
  refine .nil (.tn (.seq (.region ?_)))
  refine .w (.move rfl) ?_
  refine .w (.move rfl) ?_
  refine .w (.bin rfl rfl (BinR.mul_u64)) ?_
  refine .w (.move rfl) ?_
  refine .w (.bin rfl rfl (BinR.add_u64)) ?_
  refine .w (.move rfl) ?_
  refine .w (.bin rfl rfl (BinR.shr_u64_u64 (n := 32#64))) ?_
  refine .w (.bin rfl rfl (BinR.add_u64)) ?_
  refine .w (.as (v' := u64 (BitVec.ofNat 64 (x.toNat * y.toNat / 18446744073709551616))) (.assign rfl) (congrArg u64 (mul64 x y))) ?_
  refine .nil (.tn (.seq (.region ?_)))
  refine .w (.move rfl) ?_
  refine .w (.move rfl) ?_
  refine .w (.bin rfl rfl (BinR.mul_u64)) ?_
  refine .w (.assign rfl) ?_
  refine .nil (.tn (.ret ?_))
  exact .dn [] [] (res2 rfl (.tmp rfl) (.tmp rfl)) ⟨rfl, rfl, rfl⟩

theorem f114_spec (x y : W64) :
    Spec Tryz.prog 114 #[u64 x, u64 y] [] []
      (fun r Γ' H' => r = (.agg ((wd (x.toNat * y.toNat)).map u64).toArray) ∧ Γ' = [] ∧ H' = []) := by
  refine Spec.of_args Tryz.func114 rfl Tryz.ntmps114 (by simp) fun w => ?_
  refine .seq (.region ?_)
  refine .al zero_40 fun b4 => ?_
  refine .nil (.tn (.seq (.region ?_)))
  refine .w (.move rfl) ?_
  refine .w (.move rfl) ?_
  refine .c (f165_spec x y) body_165 ?_
  refine .w (.move rfl) ?_
  refine .w (.extract rfl rfl) ?_
  refine .w (.extract rfl rfl) ?_
  refine .w (.assign rfl) ?_
  refine .w (.assign rfl) ?_
  refine .nil (.tn (.seq (.region ?_)))
  refine .w (.move rfl) ?_
  refine .w (.move rfl) ?_
  refine .w (.as (v' := .agg ((wd (x.toNat * y.toNat)).map u64).toArray) (.build bld_40 rfl rfl) (by rw [wd_prod]; rfl)) ?_
  first | refine .sa sz_40 ?_ | refine .so sz_40 ?_ | refine .sr sz_40 ?_
  refine .nil (.tn (.ret ?_))
  exact .dn [] [] (res1 rfl (.cl agg_40)) ⟨rfl, rfl, rfl⟩

theorem f112_spec (v : Value) (l : List W64) :
    Spec Tryz.prog 112 #[v] [Res.rd v l.length 1 (l.map u64)] []
      (fun r Γ' H' => r = (.agg ((wd (totN l)).map u64).toArray) ∧ Γ' = [] ∧ H' = []) := by
  refine Spec.of_args Tryz.func112 rfl Tryz.ntmps112 (by simp) fun w => ?_
  refine JC.know (φ := l.length ≤ 9223372036854775807) (fun w hs => by obtain ⟨_, _, _, _, _, _, h⟩ := hs.rdForm (.head _); unfold maxLen at h; omega) fun hll => ?_
  refine .seq (.region ?_)
  refine .al zero_40 fun b2 => ?_
  refine .nil (.tn (.seq (.region ?_)))
  refine .al zero_40 fun b3 => ?_
  refine .nil (.tn (.seq (.seq (.region ?_))))
  refine .w (.move rfl) ?_
  refine .w (.len Tryz.underlying25 rfl) ?_
  refine .w (.move rfl) ?_
  refine .nil (.tn (.block ?_))
  refine .lp (ι := Nat) (fun x => x ≤ l.length) (fun T x => (2, ptr b2 0) :: (3, ptr b3 0) :: (6, v) :: (7, it (l.length : Int)) :: (8, it (x : Int)) :: T) (fun T x => Res.rd v l.length 1 (l.map u64) :: T) (fun T x => Res.cells b2 ((wd 0).map u64) 40 :: Res.cells b3 ((wd (totN (l.take x))).map u64) 40 :: T) (fun x => l.length - x) 0 [20] ?_ (fun x hx => ?_) (hH := (by rw [tot_0]; repeat (first | exact Picks.nil _ | apply Picks.cons | exact Pull.here _ _ | apply Pull.there)))
  · exact Nat.zero_le _
  refine .seq (.region ?_)
  refine .w (.bin rfl rfl BinR.lss_i) ?_
  refine .nil (.tn (.seq ?_))
  refine .cn rfl (fun hc1 => ?_) (fun hc1 => ?_)
  · refine .skip (.tn (.seq (.block (.seq (.region ?_)))))
    refine .w (.ix1 Tryz.underlying25 sz_22 rfl rfl) ?_
    refine .w (.ld one_22 rfl) ?_
    refine .w (.assign rfl) ?_
    refine .nil (.tn (.region ?_))
    refine .w (.lda agg_40 rfl) ?_
    refine .w (.move rfl) ?_
    refine .w (.as (v' := .agg ((wd (l.getD x 0).toNat).map u64).toArray) (.build bld_40 rfl rfl) (by rw [wd_small]; rfl)) ?_
    refine .c (f163_spec (totN (l.take x)) (l.getD x 0).toNat (tot_lt _) (w_lt _)) body_163 ?_
    rw [tot_succ (by omega)]
    refine .w (.move rfl) ?_
    refine .w (.as (v' := .agg ((wd (totN (l.take (x + 1)))).map u64).toArray) (.extract rfl rfl) rfl) ?_
    refine .w (.extract rfl rfl) ?_
    first | refine .sa sz_40 ?_ | refine .so sz_40 ?_ | refine .sr sz_40 ?_
    refine .nil (.block_normal (.tn (.region ?_)))
    refine .w (.asI ((x + 1 : Nat) : Int) (.bin rfl rfl (BinR.add_i zqf))) ?_
    refine .w (.move rfl) ?_
    refine .nil ?_
    refine .hd (x + 1) ?_
    exact ⟨by omega, by omega⟩
  · obtain rfl : x = l.length := by omega
    rw [List.take_length]
    refine .exit (.then_exit (.then_exit (.block_exit (.tn (.seq (.region ?_))))))
    refine .w (.lda agg_40 rfl) ?_
    first | refine .sa sz_40 ?_ | refine .so sz_40 ?_ | refine .sr sz_40 ?_
    refine .nil (.tn (.ret ?_))
    exact .dn [] [] (res1 rfl (.cl agg_40)) ⟨rfl, rfl, rfl⟩

theorem f213_spec (a b : Nat) (ha : a < 115792089237316195423570985008687907853269984665640564039457584007913129639936) (hb : b < 115792089237316195423570985008687907853269984665640564039457584007913129639936) :
    Spec Tryz.prog 213 #[(.agg ((wd a).map u64).toArray), (.agg ((wd b).map u64).toArray)] [] []
      (fun r Γ' H' => r = (.agg ((wd8 (a * b)).map u64).toArray) ∧ Γ' = [] ∧ H' = []) := by
  refine Spec.of_args Tryz.func213 rfl Tryz.ntmps213 (by simp) fun w => ?_
  refine .seq (.region ?_)
  refine .bx fun b2 => ?_
  refine .bx fun b3 => ?_
  refine .al zero_254 fun b4 => ?_
  refine .nil (.tn (.seq (.region ?_)))
  refine .al zero_254 fun b5 => ?_
  refine .nil (.tn (.seq (.seq (.region ?_))))
  refine .w (.lda agg_40 rfl) ?_
  refine .w (.move rfl) ?_
  refine .nil (.tn (.block ?_))
  refine .lp (ι := Nat × List W64) (fun x => x.1 ≤ 4 ∧ x.2.length = 8 ∧ val x.2 = (a % pw x.1) * b ∧ ∀ k, x.1 + 4 ≤ k → k < 8 → x.2.getD k 0 = 0) (fun T x => (15, it (x.1 : Int)) :: T) (fun T _ => T) (fun T x => Res.cells b5 (x.2.map u64) 254 :: T) (fun x => 4 - x.1) (0, List.replicate 8 0) [3, 4, 5, 14, 63] ?_ (fun x hx => ?_)
  · exact ⟨by decide, rfl, by simp [pw_0, Nat.mod_one, val, List.replicate], fun k _ h => by rw [List.getD_eq_getElem?_getD, List.getElem?_replicate, if_pos h]; rfl⟩
  obtain ⟨i, ws⟩ := x
  obtain ⟨hi, hw1, hw2, hw3⟩ := hx
  dsimp only at hi hw1 hw2 hw3 ⊢
  refine .seq (.region ?_)
  refine .w (.bin rfl rfl BinR.lss_i) ?_
  refine .nil (.tn (.seq ?_))
  refine .cn rfl (fun hc1 => ?_) (fun hc1 => ?_)
  · skip
    refine .skip (.tn (.seq (.block (.seq (.region ?_)))))
    refine .w (.move rfl) ?_
    refine .w (.as (v' := u64 (wat a i)) (.indexAgg Tryz.underlying40 Tryz.underlying22 sz_22 rfl rfl zqb (by first | rfl | exact gm (d := 0) zqg)) rfl) ?_
    refine .w (.assign rfl) ?_
    refine .w (.assign rfl) ?_
    refine .nil (.tn (.seq (.region ?_)))
    refine .w (.assign rfl) ?_
    refine .nil (.tn (.seq (.seq (.region ?_))))
    refine .w (.lda agg_40 rfl) ?_
    refine .w (.move rfl) ?_
    refine .nil (.tn (.block ?_))
    refine .lp (ι := Nat × W64 × List W64) (fun x => x.1 ≤ 4 ∧ MulI a b i x.1 x.2.1 x.2.2) (fun T x => (20, it (x.1 : Int)) :: (8, u64 x.2.1) :: T) (fun T _ => T) (fun T x => Res.cells b5 (x.2.2.map u64) 254 :: T) (fun x => 4 - x.1) (0, 0, ws) [3, 4, 5, 6, 7, 14, 15, 16, 17, 18, 19, 58, 59, 60, 61, 62, 63] ?_ (fun x hx => ?_)
    · exact ⟨Nat.zero_le _, MulI.start a b hw1 hw2 hw3⟩
    clear hw1 hw2 hw3
    obtain ⟨j, c, ws⟩ := x
    obtain ⟨hj, hI⟩ := hx
    dsimp only at hj hI ⊢
    have hw1 := hI.1
    refine .seq (.region ?_)
    refine .w (.bin rfl rfl BinR.lss_i) ?_
    refine .nil (.tn (.seq ?_))
    refine .cn rfl (fun hc2 => ?_) (fun hc2 => ?_)
    · skip
      refine .skip (.tn (.seq (.block (.seq (.region ?_)))))
      refine .w (.move rfl) ?_
      refine .w (.as (v' := u64 (wat b j)) (.indexAgg Tryz.underlying40 Tryz.underlying22 sz_22 rfl rfl zqb (by first | rfl | exact gm (d := 0) zqg)) rfl) ?_
      refine .w (.assign rfl) ?_
      refine .w (.assign rfl) ?_
      refine .nil (.tn (.seq (.region ?_)))
      refine .w (.move rfl) ?_
      refine .w (.move rfl) ?_
      refine .c (f165_spec (wat a i) (wat b j)) body_165 ?_
      refine .w (.move rfl) ?_
      refine .w (.as (v' := u64 (BitVec.ofNat 64 ((wat a i).toNat * (wat b j).toNat / 18446744073709551616))) (.extract rfl rfl) rfl) ?_
      refine .w (.as (v' := u64 (wat a i * wat b j)) (.extract rfl rfl) rfl) ?_
      refine .w (.assign rfl) ?_
      refine .w (.assign rfl) ?_
      refine .nil (.tn (.seq (.region ?_)))
      refine .w (.assign rfl) ?_
      refine .nil (.tn (.seq (.region ?_)))
      refine .w (.move rfl) ?_
      refine .w (.move rfl) ?_
      refine .w (.move rfl) ?_
      refine .w (.asI ((i + j : Nat) : Int) (.bin rfl rfl (BinR.add_i zqf))) ?_
      refine .w (.ixA Tryz.underlying254 sz_22 rfl rfl) ?_
      refine .w (.ld one_22 rfl (hj := by exact gm (d := 0) (by omega))) ?_
      refine .w (.ext rfl (ext_193 _ _ 0#64 (by decide))) ?_
      refine .w (.move rfl) ?_
      refine .w (.as (v' := u64 (wat a i * wat b j + (ws.getD (i + j) 0) + 0#64)) (.extract rfl rfl) rfl) ?_
      refine .w (.as (v' := u64 (BitVec.ofNat 64 (((wat a i * wat b j).toNat + (ws.getD (i + j) 0).toNat + (0#64).toNat) / 18446744073709551616))) (.extract rfl rfl) rfl) ?_
      refine .w (.assign rfl) ?_
      refine .w (.assign rfl) ?_
      refine .nil (.tn (.seq (.region ?_)))
      refine .w (.move rfl) ?_
      refine .w (.move rfl) ?_
      refine .w (.bin rfl rfl (BinR.add_u64)) ?_
      refine .w (.assign rfl) ?_
      refine .nil (.tn (.seq (.region ?_)))
      refine .w (.move rfl) ?_
      refine .w (.move rfl) ?_
      refine .w (.ext rfl (ext_193 _ _ 0#64 (by decide))) ?_
      refine .w (.move rfl) ?_
      refine .w (.as (v' := u64 (mlo (wat a i) (wat b j) (ws.getD (i + j) 0) c)) (.extract rfl rfl) (congrArg u64 (mlo_eq _ _ _ _))) ?_
      refine .w (.as (v' := u64 (BitVec.ofNat 64 (((wat a i * wat b j + (ws.getD (i + j) 0) + 0#64).toNat + c.toNat + (0#64).toNat) / 18446744073709551616))) (.extract rfl rfl) rfl) ?_
      refine .w (.assign rfl) ?_
      refine .w (.assign rfl) ?_
      refine .nil (.tn (.region ?_))
      refine .w (.move rfl) ?_
      refine .w (.move rfl) ?_
      refine .w (.asI ((i + j : Nat) : Int) (.bin rfl rfl (BinR.add_i zqf))) ?_
      refine .w (.move rfl) ?_
      refine .w (.move rfl) ?_
      refine .w (.move rfl) ?_
      refine .w (.as (v' := u64 (mhi (wat a i) (wat b j) (ws.getD (i + j) 0) c)) (.bin rfl rfl (BinR.add_u64)) (congrArg u64 (mhi_eq _ _ _ _))) ?_
      refine .w (.ixA Tryz.underlying254 sz_22 rfl rfl) ?_
      first | refine .s1 sz_22 ?_ | refine .sr1 sz_22 ?_
      refine .w (.assign rfl) ?_
      refine .nil (.block_normal (.tn (.region ?_)))
      refine .w (.asI ((j + 1 : Nat) : Int) (.bin rfl rfl (BinR.add_i zqf))) ?_
      refine .w (.move rfl) ?_
      refine .nil ?_
      rw [← List.map_set]
      refine .hd (j + 1, mhi (wat a i) (wat b j) (ws.getD (i + j) 0) c, ws.set (i + j) (mlo (wat a i) (wat b j) (ws.getD (i + j) 0) c)) ?_
      exact ⟨⟨by dsimp only; omega, hI.step (by omega) (by omega)⟩, by dsimp only; omega⟩
    · obtain rfl : j = 4 := by omega
      refine .exit (.then_exit (.then_exit (.block_exit (.tn (.region ?_)))))
      refine .w (.move rfl) ?_
      refine .w (.asI ((i + 4 : Nat) : Int) (.bin rfl rfl (BinR.add_i zqf))) ?_
      refine .w (.move rfl) ?_
      refine .w (.ixA Tryz.underlying254 sz_22 rfl rfl) ?_
      first | refine .s1 sz_22 ?_ | refine .sr1 sz_22 ?_
      refine .nil (.block_normal (.tn (.region ?_)))
      refine .w (.asI ((i + 1 : Nat) : Int) (.bin rfl rfl (BinR.add_i zqf))) ?_
      refine .w (.move rfl) ?_
      refine .nil ?_
      rw [← List.map_set]
      refine .hd (i + 1, ws.set (i + 4) c) ?_
      exact ⟨⟨by dsimp only; omega, (hI.row hb (by omega)).1, (hI.row hb (by omega)).2.1, (hI.row hb (by omega)).2.2⟩, by dsimp only; omega⟩
  · obtain rfl : i = 4 := by omega
    obtain rfl : ws = wd8 (a * b) := by rw [val_wd8 hw1, hw2, pw_4, Nat.mod_eq_of_lt ha]
    refine .exit (.then_exit (.then_exit (.block_exit (.tn (.seq (.region ?_))))))
    refine .w (.lda agg_254 rfl) ?_
    first | refine .sa sz_254 ?_ | refine .so sz_254 ?_ | refine .sr sz_254 ?_
    refine .nil (.tn (.ret ?_))
    exact .dn [] [] (res1 rfl (.cl agg_254)) ⟨rfl, rfl, rfl⟩

theorem f212_spec (W m : Nat) (hW : W < 115792089237316195423570985008687907853269984665640564039457584007913129639936 * 115792089237316195423570985008687907853269984665640564039457584007913129639936) (hm : m < 115792089237316195423570985008687907853269984665640564039457584007913129639936) (h0 : 0 < m) :
    Spec Tryz.prog 212 #[(.agg ((wd8 W).map u64).toArray), (.agg ((wd m).map u64).toArray)] [] []
      (fun r Γ' H' => r = (.tuple #[(.agg ((wd (W % m)).map u64).toArray), it 0]) ∧ Γ' = [] ∧ H' = []) := by
  refine Spec.of_args Tryz.func212 rfl Tryz.ntmps212 (by simp) fun w => ?_
  refine .seq (.region ?_)
  refine .bx fun b2 => ?_
  refine .bx fun b3 => ?_
  refine .al zero_40 fun b4 => ?_
  refine .w (.assign rfl) ?_
  refine .nil (.tn (.seq (.region ?_)))
  refine .al zero_40 fun b6 => ?_
  refine .nil (.tn (.seq (.seq (.region ?_))))
  refine .w (.lda agg_40 rfl) ?_
  refine .w (.as (v' := .agg ((wd 0).map u64).toArray) (.lda agg_40 rfl) rfl) ?_
  refine .w (.as (v' := .bool false) (.bin rfl rfl (eql_nat wd_len' wd_len')) (congrArg Value.bool (decide_eq_false (by rw [wd_eq hm (by decide)]; omega)))) ?_
  refine .nil (.tn ?_)
  refine .cf rfl ?_
  refine .skip (.tn (.seq (.seq (.region ?_))))
  refine .w (.move rfl) ?_
  refine .nil (.tn (.block ?_))
  refine .lp (ι := Nat) (fun x => x ≤ 512) (fun T x => (13, it ((512 - x : Nat) : Int)) :: T) (fun T _ => T) (fun T x => Res.cells b6 ((wd (restK W m x)).map u64) 40 :: T) (fun x => x) 512 [2, 3, 4, 5, 6, 33] ?_ (fun x hx => ?_) (hH := (by rw [rest_top8 hW]; repeat (first | exact Picks.nil _ | apply Picks.cons | exact Pull.here _ _ | apply Pull.there)))
  · exact Nat.le_refl _
  refine .seq (.region ?_)
  refine .w (.bin rfl rfl BinR.lss_i) ?_
  refine .nil (.tn (.seq ?_))
  refine .cn rfl (fun hc2 => ?_) (fun hc2 => ?_)
  · obtain ⟨k, rfl⟩ : ∃ k, x = k + 1 := ⟨x - 1, by omega⟩
    refine .skip (.tn (.seq (.block (.seq (.region ?_)))))
    refine .w (.move rfl) ?_
    refine .w (.assign rfl) ?_
    refine .nil (.tn (.seq (.region ?_)))
    refine .w (.move rfl) ?_
    refine .w (.asI (k : Int) (.bin rfl rfl (BinR.sub_i zqf))) ?_
    refine .w (.assign rfl) ?_
    refine .nil (.tn ?_)
    refine JC.draw (.one 0 (.one 1 (.one 2 (.one 3 (.one 4 (.one 5 (.one 6 (.one 7 (.one 8 (.one 9 (.one 10 (.one 11 (.one 12 (.one 13 (.one 14 .nil))))))))))))))) (fun i => ([10, 14] : List Nat).contains i) (fun i => ([10, 14] : List Nat).contains i) (fun i => ([2, 3, 4, 6, 7, 8, 9, 11, 12, 13] : List Nat).contains i) mixed (by kernel_rfl) (by decide) (by kernel_rfl) ?_
    refine .w rfl (.lda agg_40 rfl) ?_
    refine .w rfl (.lda agg_40 rfl) ?_
    refine .uw rfl (.move rfl) ?_
    refine .uw rfl (.asI ((k / 64 : Nat) : Int) (.bin rfl rfl (BinR.quo_i (by first | omega | decide | (simp; omega)) (by first | omega | decide | (simp; omega)) zqf))) ?_
    refine .uw rfl (.ixA Tryz.underlying254 sz_22 rfl rfl) ?_
    refine .w rfl (.as (v' := u64 (wat8 W (k / 64))) (.ld one_22 rfl (hj := by exact wd8_at W (by omega))) rfl) ?_
    refine .uw rfl (.move rfl) ?_
    refine .uw rfl (.asI ((k % 64 : Nat) : Int) (.bin rfl rfl (BinR.rem_i (by first | omega | decide | (simp; omega)) (by first | omega | decide | (simp; omega))))) ?_
    refine .uw rfl (.as (v' := u64 (wat8 W (k / 64) >>> (k % 64))) (.bin rfl rfl (BinR.shr_u64_i (by first | omega | decide | (simp; omega)))) (congrArg (fun n => u64 (wat8 W (k / 64) >>> n)) (by omega))) ?_
    refine .uw rfl (.as (v' := u64 (BitVec.ofNat 64 (W / 2 ^ k % 2))) (.bin rfl rfl (BinR.and_u64 (b := 1#64))) (congrArg u64 (bit8w W (by omega)))) ?_
    refine .mw rfl (.c (f164_spec (restK W m (k + 1)) m (W / 2 ^ k % 2) (rest_lt h0) hm (Nat.mod_lt _ (by decide))) body_164) ?_
    rintro _ _ _ ⟨rfl, rfl, rfl⟩
    rw [← rest_step' h0]
    refine kp ?_
    refine .uw rfl (.move rfl) ?_
    refine .uw rfl (.as (v' := .agg ((wd (restK W m k)).map u64).toArray) (.extract rfl rfl) rfl) ?_
    refine .uw rfl (.extract rfl rfl) ?_
    first | refine .mw0 rfl (.sa sz_40) ?_ | refine .mw0 rfl (.so sz_40) ?_ | refine .mw0 rfl (.sr sz_40) ?_
    rintro _ _ _ ⟨rfl, rfl⟩
    refine kp ?_
    refine .nil (.block_normal (.tn (.region ?_)))
    refine .w (.asI ((512 - k : Nat) : Int) (.bin rfl rfl (BinR.add_i zqf))) ?_
    refine .w (.move rfl) ?_
    refine .nil ?_
    refine .hd k ?_
    exact ⟨by omega, by omega⟩
  · obtain rfl : x = 0 := by omega
    rw [rest_0]
    refine .exit (.then_exit (.then_exit (.block_exit (.tn (.seq (.region ?_))))))
    refine .w (.lda agg_40 rfl) ?_
    first | refine .sa sz_40 ?_ | refine .so sz_40 ?_ | refine .sr sz_40 ?_
    refine .w (.assign rfl) ?_
    refine .nil (.tn (.ret ?_))
    exact .dn [] [] (res2 rfl (.cl agg_40) (.tmp rfl)) ⟨rfl, rfl, rfl⟩
end Go.Proofs.YtmhiapebljfebaaGreatDoor

/- Walks: how many bits; what makes a Mod ready. -/
namespace Go.Proofs.YtmhiapebljfebaaGreatDoor
open Go.RowKit
set_option maxRecDepth 100000
set_option linter.unusedVariables false
set_option linter.unusedSimpArgs false
theorem f159_spec (a : Nat) (ha : a < 115792089237316195423570985008687907853269984665640564039457584007913129639936) :
    Spec Tryz.prog 159 #[(.agg ((wd a).map u64).toArray)] [] []
      (fun r Γ' H' => r = (it (bitlen a : Int)) ∧ Γ' = [] ∧ H' = []) := by
  refine Spec.of_args Tryz.func159 rfl Tryz.ntmps159 (by simp) fun w => ?_
  refine .seq (.region ?_)
  refine .bx fun b1 => ?_
  refine .w (.assign rfl) ?_
  refine .nil (.tn (.seq (.seq (.region ?_))))
  refine .w (.assign rfl) ?_
  refine .nil (.tn (.block ?_))
  refine .lp (ι := Nat) (fun x => x ≤ 4 ∧ a / pw x = 0) (fun T x => (3, it ((x : Int) - 1)) :: T) (fun T _ => T) (fun T _ => T) (fun x => x) 4 [1] ?_ (fun x hx => ?_)
  · exact ⟨Nat.le_refl _, by rw [pw_4]; exact Nat.div_eq_of_lt ha⟩
  obtain ⟨hx, hz⟩ := hx
  refine .seq (.seq (.region ?_))
  refine .w (.move rfl) ?_
  refine .w (.bin rfl rfl BinR.geq_i) ?_
  refine .nil (.tn ?_)
  refine .cn rfl (fun hc1 => ?_) (fun hc1 => ?_)
  · obtain ⟨i, rfl⟩ : ∃ i, x = i + 1 := ⟨x - 1, by omega⟩
    refine .skip (.tn (.seq (.block (.seq (.region ?_)))))
    refine .w (.asI (i : Int) (.move rfl)) ?_
    refine .w (.ixA Tryz.underlying40 sz_22 rfl rfl) ?_
    refine .w (.ld one_22 rfl (hj := by exact wd_get _ (by omega))) ?_
    refine .w (.bin rfl rfl (BinR.neq_u64 (b := 0#64))) ?_
    refine .nil (.tn ?_)
    refine .cn rfl (fun hc2 => ?_) (fun hc2 => ?_)
    · try simp only [BitVec.reduceToNat] at hc2
      have hres := len_word ha (by omega) hz hc2
      have hl64 := len64_le (wat a i)
      refine .seq (.region ?_)
      refine .w (.move rfl) ?_
      refine .w (.bin rfl rfl (BinR.mul_i zqf)) ?_
      refine .w (.asI (i : Int) (.move rfl)) ?_
      refine .w (.ixA Tryz.underlying40 sz_22 rfl rfl) ?_
      refine .w (.ld one_22 rfl (hj := by exact wd_get _ (by omega))) ?_
      refine .c (f147_spec (wat a i)) body_147 ?_
      refine .w (.bin rfl rfl (BinR.add_i zqf)) ?_
      refine .w (.as (v' := it (bitlen a : Int)) (.assign rfl) (congrArg it (by rw [hres]; omega))) ?_
      refine .nil (.tn (.ret (.block_ret (.then_ret (.then_ret (.block_ret (.then_ret ?_)))))))
      exact .dn [] [] (res1 rfl (.tmp rfl)) ⟨rfl, rfl, rfl⟩
    · try simp only [BitVec.reduceToNat] at hc2
      have hw0 : wat a i = 0 := by simpa using hc2
      refine .skip (.block_normal (.tn (.region ?_)))
      refine .w (.move rfl) ?_
      refine .w (.asI ((i : Int) - 1) (.bin rfl rfl (BinR.sub_i zqf))) ?_
      refine .w (.assign rfl) ?_
      refine .nil ?_
      refine .hd i ?_
      exact ⟨⟨by omega, len_next ha (by omega) hz hw0⟩, by omega⟩
  · obtain rfl : x = 0 := by omega
    have hres := len_zero hz
    refine .exit (.then_exit (.then_exit (.block_exit (.tn (.seq (.region ?_))))))
    refine .w (.as (v' := it (bitlen a : Int)) (.assign rfl) (congrArg it (by rw [hres]; rfl))) ?_
    refine .nil (.tn (.ret ?_))
    exact .dn [] [] (res1 rfl (.tmp rfl)) ⟨rfl, rfl, rfl⟩

theorem f211_spec (p bx m : Nat) (hm : m < 115792089237316195423570985008687907853269984665640564039457584007913129639936) (h0 : 0 < m) :
    Spec Tryz.prog 211 #[(ptr bx 0)] [] [Res.cells p (modX m 0 1 0 0) 179, Res.cells bx [ptr p 0] 91]
      (fun r Γ' H' => r = .tuple #[] ∧ Γ' = [] ∧ H' = [Res.cells p (modX m 0 1 (mnsM m) (sqM m)) 179, Res.cells bx [ptr p 0] 91]) := by
  refine Spec.of_args Tryz.func211 rfl Tryz.ntmps211 (by simp) fun w => ?_
  refine .seq (.region ?_)
  refine .w (.assign rfl) ?_
  refine .nil (.tn (.seq (.seq (.region ?_))))
  refine .w (.move rfl) ?_
  refine .nil (.tn (.block ?_))
  refine .lp (ι := Nat) (fun x => x ≤ 6) (fun T x => (4, it (x : Int)) :: (1, u64 (nwt (wat m 0) x)) :: T) (fun T _ => T) (fun T _ => T) (fun x => 6 - x) 0 [0, 2, 17, 18, 19, 20, 21, 22, 23, 24, 25, 26, 27, 28, 29, 30, 31, 32, 33, 34, 35, 36, 37, 38, 39, 40, 41, 43, 44] ?_ (fun x hx => ?_)
  · exact Nat.zero_le _
  refine .seq (.region ?_)
  refine .w (.bin rfl rfl BinR.lss_i) ?_
  refine .nil (.tn (.seq ?_))
  refine .cn rfl (fun hc1 => ?_) (fun hc1 => ?_)
  · skip
    refine .skip (.tn (.seq (.block (.region ?_))))
    refine .w (.move rfl) ?_
    refine .w (.ld one_91 rfl) ?_
    refine .w (.nilCheck rfl) ?_
    refine .w (.fieldAddr fa_179_0 rfl) ?_
    refine .w (.ixA (j := 0) Tryz.underlying40 sz_22 rfl rfl) ?_
    refine .w (.as (v' := u64 (wat m 0)) (.ld one_22 rfl) rfl) ?_
    refine .w (.move rfl) ?_
    refine .w (.bin rfl rfl (BinR.mul_u64)) ?_
    refine .w (.bin rfl rfl (BinR.sub_u64 (a := 2#64))) ?_
    refine .w (.as (v' := u64 (nwt (wat m 0) (x + 1))) (.bin rfl rfl (BinR.mul_u64)) rfl) ?_
    refine .w (.assign rfl) ?_
    refine .nil (.block_normal (.tn (.region ?_)))
    refine .w (.asI ((x + 1 : Nat) : Int) (.bin rfl rfl (BinR.add_i zqf))) ?_
    refine .w (.move rfl) ?_
    refine .nil ?_
    refine .hd (x + 1) ?_
    exact ⟨by omega, by omega⟩
  · obtain rfl : x = 6 := by omega
    refine .exit (.then_exit (.then_exit (.block_exit (.tn (.seq (.region ?_))))))
    refine .w (.ld one_91 rfl) ?_
    refine .w (.move rfl) ?_
    refine .w (.as (v' := u64 (mnsM m)) (.neg_u rfl) rfl) ?_
    refine .w (.nilCheck rfl) ?_
    refine .w (.fieldAddr fa_179_2 rfl) ?_
    first | refine .s1 sz_22 ?_ | refine .sr1 sz_22 ?_
    refine .nil (.tn (.seq (.region ?_)))
    refine .w (.as (v' := .agg ((wd8 (2 ^ 256)).map u64).toArray) (.build bld_254 rfl rfl) (by rw [one_wide]; rfl)) ?_
    refine .w (.ld one_91 rfl) ?_
    refine .w (.nilCheck rfl) ?_
    refine .w (.fieldAddr fa_179_0 rfl) ?_
    refine .w (.as (v' := .agg ((wd m).map u64).toArray) (.lda agg_40 rfl) (by rfl)) ?_
    refine .c (f212_spec (2 ^ 256) m one_512 hm h0) body_212 ?_
    refine .w (.move rfl) ?_
    refine .w (.as (v' := .agg ((wd (2 ^ 256 % m)).map u64).toArray) (.extract rfl rfl) rfl) ?_
    refine .w (.extract rfl rfl) ?_
    refine .al zero_40 fun b2 => ?_
    first | refine .sa sz_40 ?_ | refine .so sz_40 ?_ | refine .sr sz_40 ?_
    refine .w (.assign rfl) ?_
    refine .nil (.tn ?_)
    refine JC.draw (.one 0 (.one 1 (.one 2 (.one 4 (.one 5 (.one 6 (.one 7 (.one 3 (.one 8 (.one 9 (.one 10 (.one 11 (.one 12 (.one 13 (.one 14 .nil))))))))))))))) (fun i => ([14] : List Nat).contains i) (fun i => ([3, 8, 14] : List Nat).contains i) (fun i => ([5, 6, 9, 10, 11, 12, 13] : List Nat).contains i) mixed (by kernel_rfl) (by decide) (by kernel_rfl) ?_
    refine .w rfl (.ld one_91 rfl) ?_
    refine .w rfl (.lda agg_40 rfl) ?_
    refine .w rfl (.lda agg_40 rfl) ?_
    refine .w rfl (.ld one_91 rfl) ?_
    refine .uw rfl (.nilCheck rfl) ?_
    refine .uw rfl (.fieldAddr fa_179_0 rfl) ?_
    refine .w rfl (.as (v' := .agg ((wd m).map u64).toArray) (.lda agg_40 rfl) (by rfl)) ?_
    refine .mw rfl (.c (f213_spec (2 ^ 256 % m) (2 ^ 256 % m) (Nat.lt_trans (Nat.mod_lt _ h0) hm) (Nat.lt_trans (Nat.mod_lt _ h0) hm)) body_213) ?_
    rintro _ _ _ ⟨rfl, rfl, rfl⟩
    refine kp ?_
    refine .mw rfl (.c (f212_spec (2 ^ 256 % m * (2 ^ 256 % m)) m (prod_512 (Nat.lt_trans (Nat.mod_lt _ h0) hm) (Nat.lt_trans (Nat.mod_lt _ h0) hm)) hm h0) body_212) ?_
    rintro _ _ _ ⟨rfl, rfl, rfl⟩
    refine kp ?_
    refine .uw rfl (.move rfl) ?_
    refine .uw rfl (.as (v' := .agg ((wd (sqM m)).map u64).toArray) (.extract rfl rfl) rfl) ?_
    refine .uw rfl (.extract rfl rfl) ?_
    refine .uw rfl (.nilCheck rfl) ?_
    refine .uw rfl (.fieldAddr fa_179_3 rfl) ?_
    first | refine .mw0 rfl (.sa sz_40) ?_ | refine .mw0 rfl (.so sz_40) ?_ | refine .mw0 rfl (.sr sz_40) ?_
    rintro _ _ _ ⟨rfl, rfl⟩
    refine kp ?_
    refine .nil ?_
    exact .dn [] [Res.cells p (modX m 0 1 (mnsM m) (sqM m)) 179, Res.cells bx [ptr p 0] 91] (res_none rfl) ⟨rfl, rfl, rfl⟩
end Go.Proofs.YtmhiapebljfebaaGreatDoor

/- Whoever asks a Mod makes it ready: sync.Once as_ a contract of ours. -/
namespace Go.Proofs.YtmhiapebljfebaaGreatDoor
open Go.RowKit
set_option linter.unusedVariables false
abbrev cVar (b p : Nat) : Res := Res.cells b [ptr p 0] 91
abbrev onceF (bx : Nat) : Value := .func (.func 211) #[] #[ptr bx 0]
/-- Where a call begins does not matter: what it may turn is its own. -/
theorem Stp.pre {H : RL} {S : Nat → Prop} {a b c : World} (h : Stp S a b) (k : Stp S b c) : Stp S a c := h.trans k fun _ _ h => h
theorem do_spec (p bx m : Nat) (hm : m < 115792089237316195423570985008687907853269984665640564039457584007913129639936) (h0 : 0 < m) (d : Bool) :
    Spec Tryz.prog 210 #[ptr p 4, onceF bx] [] [cMod p (modC m d), cVar bx p] (fun r Γ' H' => r = .tuple #[] ∧ Γ' = [] ∧ H' = [cMod p (modC m true), cVar bx p]) := fun w hw => by
  have hst := St.begin hw
  have hb := Res.cells_ok.1 (hw.hok _ (.head _))
  have hc := cells_heap hb
  cases d with
  | true =>
    refine (once_again ⟨p, 4, none⟩ 1 (by decide) (onceF bx) w ((hc 4).1.trans rfl)).mono ?_
    rintro e w' ⟨rfl, rfl⟩
    exact ⟨_, [], _, rfl, ⟨rfl, rfl, rfl⟩, hst⟩
  | false =>
    have h1 := hst.set1 5 (.int .i32 1)
    rw [show (modC m false).set 5 (.int .i32 1) = modX m 0 1 0 0 from rfl] at h1
    have hcall := f211_spec p bx m hm h0 _ h1.sat
    refine (once_first p 4 #[ptr bx 0] (fun w2 => St ⟨w, [], [cMod p (modC m false), cVar bx p]⟩ [] [cMod p (modX m 0 1 (mnsM m) (sqM m)), cVar bx p] w2) w ((hc 4).1.trans rfl) ((hc 5).1.trans rfl) (hc 4).2 (hc 5).2 (hcall.mono ?_)).mono ?_
    · rintro e w2 ⟨r, Γ', H', rfl, ⟨rfl, rfl, rfl⟩, hs⟩
      have hfr := St.frame (G := []) (Γc := []) (by simpa using h1) (by simp) hs
      have hs2 : St ⟨w, [], [cMod p (modC m false), cVar bx p]⟩ [] [cMod p (modX m 0 1 (mnsM m) (sqM m)), cVar bx p] w2 := by simpa using hfr
      have hb2 := Res.cells_ok.1 (hs2.sat.hok _ (.head _))
      have hc2 := cells_heap hb2
      exact ⟨rfl, hs2, (hc2 4).1.trans rfl, (hc2 5).1.trans rfl, (hc2 4).2, (hc2 5).2⟩
    · rintro e w' ⟨rfl, w2, hs2, rfl⟩
      refine ⟨_, [], _, rfl, ⟨rfl, rfl, rfl⟩, ?_⟩
      have h3 := (hs2.drew.set1 4 (.int .u32 1)).set1 5 (.int .i32 0)
      exact h3
end Go.Proofs.YtmhiapebljfebaaGreatDoor
