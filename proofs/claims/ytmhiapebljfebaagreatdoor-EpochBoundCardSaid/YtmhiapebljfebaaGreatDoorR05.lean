/- Texts of ours, gathered: ZC B S1 I7 F1 ST O1. -/
import Derived.Test.YtmhiapebljfebaaGreatDoorRows
import Derived.KernelRfl
import Derived.Test.YtmhiapebljfebaaGreatDoorProg
import Derived.Tactics
import Derived.Tactics2
import Derived.Defers
import Derived.Laws.Pointers
import Derived.Laws.LoneSync
import Derived.RegionTactic
import Derived.RegionCalls
import Derived.ChangeAlike
import Derived.Test.YtmhiapebljfebaaGreatDoorR04
set_option linter.unusedVariables false
set_option linter.unusedSimpArgs false
set_option maxRecDepth 100000
/- Numbers of four words, what is decided, steps, a Config, as_ they come in. -/
namespace Go.Proofs.YtmhiapebljfebaaGreatDoor
open Go.ChangeShapes Go.WideShapes Go.ChangeAt Go.RowKit
set_option maxRecDepth 100000
variable {H : Type} {enc : TypeId × Value → H} {w : World}
theorem wd_four (a b c d : W64) : [a, b, c, d] = wd (a.toNat + b.toNat * 18446744073709551616 + c.toNat * 340282366920938463463374607431768211456 + d.toNat * 6277101735386680763835789423207666416102355444464034512896) ∧ a.toNat + b.toNat * 18446744073709551616 + c.toNat * 340282366920938463463374607431768211456 + d.toNat * 6277101735386680763835789423207666416102355444464034512896 < 115792089237316195423570985008687907853269984665640564039457584007913129639936 := by
 have ha := a.isLt; have hb := b.isLt; have hc := c.isLt; have hd := d.isLt
 refine ⟨?_, by omega⟩
 have e : ∀ (x : W64) (n : Nat), n % 18446744073709551616 = x.toNat → x = BitVec.ofNat 64 n := fun x n h => BitVec.eq_of_toNat_eq (by rw [BitVec.toNat_ofNat]; exact h.symm)
 unfold wd
 rw [← e a _ (by omega), ← e b _ (by omega), ← e c _ (by omega), ← e d _ (by omega)]
theorem came_nat {cs : List Value} (h : Came enc Tryz.prog w 40 cs) : ∃ n : Nat, cs = natC n ∧ n < 115792089237316195423570985008687907853269984665640564039457584007913129639936 := by
 obtain ⟨hl, he⟩ := h.array Tryz.underlying40
 have hl : cs.length = 4 := hl.trans (by kernel_rfl)
 have h1 : Tryz.prog.cellsOf 22 = 1 := by kernel_rfl
 rw [h1] at he
 match cs, hl with
 | [c0, c1, c2, c3], _ =>
  obtain ⟨a, ha⟩ := Came.u64 Tryz.underlying22 (he 0 (by decide))
  obtain ⟨b, hb⟩ := Came.u64 Tryz.underlying22 (he 1 (by decide))
  obtain ⟨c, hc⟩ := Came.u64 Tryz.underlying22 (he 2 (by decide))
  obtain ⟨d, hd⟩ := Came.u64 Tryz.underlying22 (he 3 (by decide))
  obtain rfl : c0 = u64 a := by simpa using ha
  obtain rfl : c1 = u64 b := by simpa using hb
  obtain rfl : c2 = u64 c := by simpa using hc
  obtain rfl : c3 = u64 d := by simpa using hd
  obtain ⟨e1, e2⟩ := wd_four a b c d
  exact ⟨_, by unfold natC; rw [← e1]; rfl, e2⟩
theorem came_nats {v : Value} (h : Came enc Tryz.prog w 38 [v]) : ∃ l : List Nat, IsRd w v l.length 4 (bks natC l) ∧ ∀ a ∈ l, a < 115792089237316195423570985008687907853269984665640564039457584007913129639936 := by
 obtain ⟨n, xs, h1, h2⟩ := h.slice (size := 4) Tryz.underlying38 (by kernel_rfl) (by decide)
 obtain ⟨l, rfl, rfl, h3⟩ := pieces (f := natC) (p := fun a => a < 115792089237316195423570985008687907853269984665640564039457584007913129639936) (s := 4) (by decide) n xs (by obtain ⟨_, _, _, hl, _⟩ := h1; exact hl) (fun i hi => came_nat (h2 i hi))
 exact ⟨l, h1, h3⟩
theorem came_tx {cs : List Value} (h : Came enc Tryz.prog w 42 cs) : ∃ s : SX, cs = txC s.tx ∧ s.at_ = 0 ∧ (∀ a ∈ s.com, a < 115792089237316195423570985008687907853269984665640564039457584007913129639936) ∧ s.val < 115792089237316195423570985008687907853269984665640564039457584007913129639936 ∧ IsRd w s.tx.v s.com.length 4 (bks natC s.com) := by
 obtain ⟨hl, hf⟩ := h.struct Tryz.underlying42
 have hl : cs.length = 9 := hl.trans (by kernel_rfl)
 have s1 : Tryz.prog.cellsOf 3 = 1 := by kernel_rfl
 have s2 : Tryz.prog.cellsOf 38 = 1 := by kernel_rfl
 have s4 : Tryz.prog.cellsOf 40 = 4 := by kernel_rfl
 obtain ⟨k0, hk0, _⟩ := Came.it Tryz.underlying3 (by have h0 : Came enc Tryz.prog w 3 ((cs.drop 0).take (Tryz.prog.cellsOf 3)) := hf 0 _ rfl; rw [s1] at h0; exact h0)
 obtain ⟨k1, hk1, _⟩ := Came.it Tryz.underlying3 (by have h0 : Came enc Tryz.prog w 3 ((cs.drop 1).take (Tryz.prog.cellsOf 3)) := hf 1 _ rfl; rw [s1] at h0; exact h0)
 obtain ⟨k2, hk2, _⟩ := Came.it Tryz.underlying3 (by have h0 : Came enc Tryz.prog w 3 ((cs.drop 2).take (Tryz.prog.cellsOf 3)) := hf 2 _ rfl; rw [s1] at h0; exact h0)
 obtain ⟨k3, hk3, _⟩ := Came.it Tryz.underlying3 (by have h0 : Came enc Tryz.prog w 3 ((cs.drop 3).take (Tryz.prog.cellsOf 3)) := hf 3 _ rfl; rw [s1] at h0; exact h0)
 have h4 : Came enc Tryz.prog w 38 ((cs.drop 4).take 1) := by have h0 : Came enc Tryz.prog w 38 ((cs.drop 4).take (Tryz.prog.cellsOf 38)) := hf 4 _ rfl; rw [s2] at h0; exact h0
 obtain ⟨n, hn, hn2⟩ := came_nat (by have h0 : Came enc Tryz.prog w 40 ((cs.drop 5).take (Tryz.prog.cellsOf 40)) := hf 5 _ rfl; rw [s4] at h0; exact h0)
 match cs, hl with
 | [c0, c1, c2, c3, c4, c5, c6, c7, c8], _ =>
  obtain ⟨b, hb, hb2⟩ := came_nats h4
  have hb3 := hb
  obtain ⟨A, c, rfl, _⟩ := hb
  obtain rfl : c0 = it k0 := by simpa using hk0
  obtain rfl : c1 = it k1 := by simpa using hk1
  obtain rfl : c2 = it k2 := by simpa using hk2
  obtain rfl : c3 = it k3 := by simpa using hk3
  have hn' : [c5, c6, c7, c8] = natC n := by simpa using hn
  exact ⟨⟨0, k0, k1, k2, k3, A, b.length, c, b, n⟩, by show _ :: _ :: _ :: _ :: _ :: [c5, c6, c7, c8] = _; rw [hn']; rfl, rfl, hb2, hn2, hb3⟩
theorem came_stps {v : Value} (h : Came enc Tryz.prog w 26 [v]) : ∃ l : { l : List SX // ∀ s ∈ l, SXok s }, Rds w [Res.rd v l.1.length 10 (bks stpC l.1), Res.all (stpRes l.1)] := by
 obtain ⟨n, xs, h1, h2⟩ := h.slice (size := 10) Tryz.underlying26 (by kernel_rfl) (by decide)
 obtain ⟨l, rfl, rfl, h3⟩ := pieces (f := stpC) (p := fun s => SXok s ∧ IsRd w s.tx.v s.com.length 4 (bks natC s.com)) (s := 10) (by decide) n xs (by obtain ⟨_, _, _, hl, _⟩ := h1; exact hl) (fun i hi => by
  obtain ⟨hl, hf⟩ := (h2 i hi).struct Tryz.underlying44
  have hl : ((xs.drop (i * 10)).take 10).length = 10 := hl.trans (by kernel_rfl)
  generalize (xs.drop (i * 10)).take 10 = cs at hl hf
  have s1 : Tryz.prog.cellsOf 3 = 1 := by kernel_rfl
  have s9 : Tryz.prog.cellsOf 42 = 9 := by kernel_rfl
  obtain ⟨k0, hk0, hf0⟩ := Came.it Tryz.underlying3 (by have h0 : Came enc Tryz.prog w 3 ((cs.drop 0).take (Tryz.prog.cellsOf 3)) := hf 0 _ rfl; rw [s1] at h0; exact h0)
  obtain ⟨s, hs, -, hc, hv, hr⟩ := came_tx (by have h0 : Came enc Tryz.prog w 42 ((cs.drop 1).take (Tryz.prog.cellsOf 42)) := hf 1 _ rfl; rw [s9] at h0; exact h0)
  refine ⟨{ s with at_ := k0 }, ?_, ⟨?_, hc, hv⟩, hr⟩
  ·have t1 : (cs.drop 1).take 9 = cs.drop 1 := List.take_of_length_le (by rw [List.length_drop]; omega)
   have e : cs = (cs.drop 0).take 1 ++ (cs.drop 1).take 9 := by rw [t1, List.drop_zero, List.take_append_drop]
   rw [e, hk0, hs]; rfl
  ·exact hf0.2)
 refine ⟨⟨l, fun s hs => (h3 s hs).1⟩, (Rds.one h1).append (Rds.all fun r hr => ?_)⟩
 obtain ⟨d, hd, rfl⟩ := List.mem_map.1 hr
 exact (Rds.one (h3 d hd).2) _ (.head _)
theorem came_cfg {cs : List Value} (h : Came enc Tryz.prog w 24 cs) : ∃ c : Cfg, cs = cfgC c := by
 obtain ⟨hl, hf⟩ := h.struct Tryz.underlying24
 have hl : cs.length = 7 := hl.trans (by kernel_rfl)
 have s1 : Tryz.prog.cellsOf 3 = 1 := by kernel_rfl
 have s2 : Tryz.prog.cellsOf 22 = 1 := by kernel_rfl
 have hI : ∀ i, i < 6 → ∃ k : Int, (cs.drop i).take 1 = [it k] := fun i hi => by
  have h0 : Came enc Tryz.prog w 3 ((cs.drop i).take (Tryz.prog.cellsOf 3)) := by
   rcases (show i = 0 ∨ i = 1 ∨ i = 2 ∨ i = 3 ∨ i = 4 ∨ i = 5 by omega) with rfl | rfl | rfl | rfl | rfl | rfl
   ·exact hf 0 _ rfl
   ·exact hf 1 _ rfl
   ·exact hf 2 _ rfl
   ·exact hf 3 _ rfl
   ·exact hf 4 _ rfl
   ·exact hf 5 _ rfl
  rw [s1] at h0
  obtain ⟨k, hk, _⟩ := Came.it Tryz.underlying3 h0
  exact ⟨k, hk⟩
 obtain ⟨x, hx⟩ := Came.u64 Tryz.underlying22 (by have h0 : Came enc Tryz.prog w 22 ((cs.drop 6).take (Tryz.prog.cellsOf 22)) := hf 6 _ rfl; rw [s2] at h0; exact h0)
 obtain ⟨k0, h0⟩ := hI 0 (by decide)
 obtain ⟨k1, h1⟩ := hI 1 (by decide)
 obtain ⟨k2, h2⟩ := hI 2 (by decide)
 obtain ⟨k3, h3⟩ := hI 3 (by decide)
 obtain ⟨k4, h4⟩ := hI 4 (by decide)
 obtain ⟨k5, h5⟩ := hI 5 (by decide)
 match cs, hl with
 | [c0, c1, c2, c3, c4, c5, c6], _ =>
  obtain rfl : c0 = it k0 := by simpa using h0
  obtain rfl : c1 = it k1 := by simpa using h1
  obtain rfl : c2 = it k2 := by simpa using h2
  obtain rfl : c3 = it k3 := by simpa using h3
  obtain rfl : c4 = it k4 := by simpa using h4
  obtain rfl : c5 = it k5 := by simpa using h5
  obtain rfl : c6 = u64 x := by simpa using hx
  exact ⟨⟨k0, k1, k2, k3, k4, k5, x⟩, rfl⟩
theorem came_dig {cs : List Value} (h : Came enc Tryz.prog w 35 cs) : ∃ x : D32, cs = prevC x := by
 obtain ⟨hl, hf⟩ := h.array Tryz.underlying35
 have hl : cs.length = 32 := hl.trans (by kernel_rfl)
 have s8 : Tryz.prog.cellsOf 5 = 1 := by kernel_rfl
 obtain ⟨l, h1, h2, _⟩ := pieces (f := fun x : BitVec 8 => [u8 x]) (p := fun _ => True) (s := 1) (by decide) 32 cs (by omega) (fun i hi => by
  obtain ⟨x, hx⟩ := Came.u8 Tryz.underlying5 (show Came enc Tryz.prog w 5 ((cs.drop (i * 1)).take 1) by simpa [s8] using hf i hi)
  exact ⟨x, hx, trivial⟩)
 exact ⟨⟨l, by omega⟩, by rw [prevC_eq, h2]; exact map_flat _ _⟩
theorem open_cfg {W : World} {v : Value} {r : Reach} {b0 : Nat} {d : DataW H} {ps : List MemPlace} {base : Nat} {spare : Nat → Bool} {held : Bool} (hval : Value.okWide Tryz.prog W r b0 24 v) (h : DataW.Trod enc Tryz.prog W base spare held 24 v d ps) : ∃ x : Cfg, v = .agg (cfgC x).toArray := by
 simp only [Value.okWide, Tryz.underlying24] at hval
 obtain ⟨cs, rfl, _, _⟩ := hval
 obtain ⟨m, hm⟩ := h
 obtain ⟨x, hx⟩ := came_cfg (cs := cs.toList) ⟨_, _, _, m, _, hm⟩
 exact ⟨x, by show Value.agg cs = Value.agg (cfgC x).toArray; rw [← hx]⟩
theorem open_dig {W : World} {v : Value} {r : Reach} {b0 : Nat} {d : DataW H} {ps : List MemPlace} {base : Nat} {spare : Nat → Bool} {held : Bool} (hval : Value.okWide Tryz.prog W r b0 35 v) (h : DataW.Trod enc Tryz.prog W base spare held 35 v d ps) : ∃ x : D32, v = .agg (prevC x).toArray := by
 simp only [Value.okWide, Tryz.underlying35] at hval
 obtain ⟨cs, rfl, _, _⟩ := hval
 obtain ⟨m, hm⟩ := h
 obtain ⟨x, hx⟩ := came_dig (cs := cs.toList) ⟨_, _, _, m, _, hm⟩
 exact ⟨x, by show Value.agg cs = Value.agg (prevC x).toArray; rw [← hx]⟩
set_option maxRecDepth 100000
theorem sz_22 : (Tryz.prog.info? 22).map (·.size) = some 1 := by kernel_rfl
theorem sz_117 : (Tryz.prog.info? 117).map (·.size) = some 5 := by kernel_rfl
theorem sz_120 : (Tryz.prog.info? 120).map (·.size) = some 9 := by kernel_rfl
theorem mkey_224 : MKey Tryz.prog 40 ntV := mkeyNat Tryz.underlying40 Tryz.underlying22 sz_22
theorem sz_55 : (Tryz.prog.info? 55).map (·.size) = some 12 := by kernel_rfl
theorem mkey_102 : MKey Tryz.prog 3 itK := MKey.int Tryz.underlying3
theorem mkey_103 : MKey Tryz.prog 3 itK := MKey.int Tryz.underlying3
theorem ext_193 (x y c : BitVec 64) (hc : c.toNat ≤ 1) (w : World) : (callFunc 193 #[u64 x, u64 y, u64 c]).run Tryz.prog w = .ok (.value (.tuple #[u64 (x + y + c), u64 (BitVec.ofNat 64 ((x.toNat + y.toNat + c.toNat) / 18446744073709551616))])) w := add64 Tryz.func193 rfl rfl (by kernel_rfl) (by kernel_rfl) x y c hc w
theorem ext_215 (x y c : BitVec 64) (hc : c.toNat ≤ 1) (w : World) : (callFunc 215 #[u64 x, u64 y, u64 c]).run Tryz.prog w = .ok (.value (.tuple #[u64 (x - y - c), u64 (if x.toNat < y.toNat + c.toNat then 1 else 0)])) w := sub64 Tryz.func215 rfl rfl (by kernel_rfl) (by kernel_rfl) x y c hc w
theorem agg_254 : Agg Tryz.prog 254 8 := Agg.mk Tryz.underlying254 rfl (by kernel_rfl)
theorem row_185_Len : Row Tryz.prog 185 "Len" 263 false := by unfold Row; kernel_rfl
theorem row_185_Less : Row Tryz.prog 185 "Less" 264 false := by unfold Row; kernel_rfl
theorem row_185_Swap : Row Tryz.prog 185 "Swap" 265 false := by unfold Row; kernel_rfl
theorem row_185_Pop : Row Tryz.prog 185 "Pop" 266 true := by unfold Row; kernel_rfl
theorem row_185_Push : Row Tryz.prog 185 "Push" 267 true := by unfold Row; kernel_rfl
theorem one_182 : One Tryz.prog 182 := One.mk Tryz.underlying182 rfl
theorem sz_187 : (Tryz.prog.info? 187).map (·.size) = some 5 := by kernel_rfl
theorem info_187 : (Tryz.prog.info? 187).map (fun i => (i.zero, i.size, i.bytes)) = some (some (Value.agg #[Value.int .i64 0, Value.int .u64 0, Value.int .u64 0, Value.int .u64 0, Value.int .u64 0]), 5, 40) := by kernel_rfl
theorem body_176 : Body Tryz.prog 176 := Body.mk Tryz.func176 rfl (by decide)
theorem body_178 : Body Tryz.prog 178 := Body.mk Tryz.func178 rfl (by decide)
theorem body_58 : Body Tryz.prog 58 := Body.mk Tryz.func58 rfl (by decide)
theorem body_59 : Body Tryz.prog 59 := Body.mk Tryz.func59 rfl (by decide)
theorem body_60 : Body Tryz.prog 60 := Body.mk Tryz.func60 rfl (by decide)
theorem body_61 : Body Tryz.prog 61 := Body.mk Tryz.func61 rfl (by decide)
theorem body_62 : Body Tryz.prog 62 := Body.mk Tryz.func62 rfl (by decide)
theorem sz_3 : (Tryz.prog.info? 3).map (·.size) = some 1 := by kernel_rfl
theorem sz_199 : (Tryz.prog.info? 199).map (·.size) = some 8 := by kernel_rfl
theorem sz_270 : (Tryz.prog.info? 270).map (·.size) = some 73 := by kernel_rfl
theorem sz_5 : (Tryz.prog.info? 5).map (·.size) = some 1 := by kernel_rfl
theorem info_79 : (Tryz.prog.info? 79).map (fun i => (i.zero, i.size, i.bytes)) = some (some (Value.slice none 0 0), 1, 24) := by kernel_rfl
theorem info_5 : (Tryz.prog.info? 5).map (fun i => (i.zero, i.size, i.bytes)) = some (some (Value.int .u8 0), 1, 1) := by kernel_rfl
theorem one_22 : One Tryz.prog 22 := One.mk Tryz.underlying22 rfl
theorem zero_40 : (Tryz.prog.info? 40).map (·.zero) = some (some (Value.agg #[Value.int .u64 0, Value.int .u64 0, Value.int .u64 0, Value.int .u64 0])) := by kernel_rfl
theorem one_5 : One Tryz.prog 5 := One.mk Tryz.underlying5 rfl
theorem mixed : Tryz.prog.follows .mixedOrders = true := by kernel_rfl
theorem agg_40 : Agg Tryz.prog 40 4 := Agg.mk Tryz.underlying40 rfl (by kernel_rfl)
theorem sz_40 : (Tryz.prog.info? 40).map (·.size) = some 4 := by kernel_rfl
theorem sz_79 : (Tryz.prog.info? 79).map (·.size) = some 1 := by kernel_rfl
theorem one_79 : One Tryz.prog 79 := One.mk Tryz.underlying79 rfl
theorem body_214 : Body Tryz.prog 214 := Body.mk Tryz.func214 rfl (by decide)
theorem body_160 : Body Tryz.prog 160 := Body.mk Tryz.func160 rfl (by decide)
theorem body_194 : Body Tryz.prog 194 := Body.mk Tryz.func194 rfl (by decide)
theorem body_52 : Body Tryz.prog 52 := Body.mk Tryz.func52 rfl (by decide)
theorem body_195 : Body Tryz.prog 195 := Body.mk Tryz.func195 rfl (by decide)
theorem body_164 : Body Tryz.prog 164 := Body.mk Tryz.func164 rfl (by decide)
theorem body_165 : Body Tryz.prog 165 := Body.mk Tryz.func165 rfl (by decide)
theorem bld_40 : Bld Tryz.prog 40 (fun i => some (i * 1, 1)) [.int .u64 0, .int .u64 0, .int .u64 0, .int .u64 0] := by intro parts; kernel_rfl
theorem body_163 : Body Tryz.prog 163 := Body.mk Tryz.func163 rfl (by decide)
theorem zero_254 : (Tryz.prog.info? 254).map (·.zero) = some (some (Value.agg #[Value.int .u64 0, Value.int .u64 0, Value.int .u64 0, Value.int .u64 0, Value.int .u64 0, Value.int .u64 0, Value.int .u64 0, Value.int .u64 0])) := by kernel_rfl
theorem sz_254 : (Tryz.prog.info? 254).map (·.size) = some 8 := by kernel_rfl
theorem body_147 : Body Tryz.prog 147 := Body.mk Tryz.func147 rfl (by decide)
theorem one_91 : One Tryz.prog 91 := One.mk Tryz.underlying91 rfl
theorem fa_179_0 : FA Tryz.prog 179 0 0 := FA.mk (m := 3) Tryz.underlying179 rfl rfl (by kernel_rfl)
theorem fa_179_2 : FA Tryz.prog 179 2 7 := FA.mk (m := 0) Tryz.underlying179 rfl rfl (by kernel_rfl)
theorem bld_254 : Bld Tryz.prog 254 (fun i => some (i * 1, 1)) [.int .u64 0, .int .u64 0, .int .u64 0, .int .u64 0, .int .u64 0, .int .u64 0, .int .u64 0, .int .u64 0] := by intro parts; kernel_rfl
theorem body_212 : Body Tryz.prog 212 := Body.mk Tryz.func212 rfl (by decide)
theorem fa_179_3 : FA Tryz.prog 179 3 8 := FA.mk (m := 3) Tryz.underlying179 rfl rfl (by kernel_rfl)
theorem body_213 : Body Tryz.prog 213 := Body.mk Tryz.func213 rfl (by decide)
theorem fa_179_1 : FA Tryz.prog 179 1 4 := FA.mk (m := 2) Tryz.underlying179 rfl rfl (by kernel_rfl)
theorem body_210 : Body Tryz.prog 210 := Body.mk Tryz.func210 rfl (by decide)
theorem body_113 : Body Tryz.prog 113 := Body.mk Tryz.func113 rfl (by decide)
theorem body_190 : Body Tryz.prog 190 := Body.mk Tryz.func190 rfl (by decide)
theorem body_192 : Body Tryz.prog 192 := Body.mk Tryz.func192 rfl (by decide)
theorem body_189 : Body Tryz.prog 189 := Body.mk Tryz.func189 rfl (by decide)
theorem zero_262 : (Tryz.prog.info? 262).map (·.zero) = some (some (Value.agg #[Value.int .u64 0, Value.int .u64 0, Value.int .u64 0, Value.int .u64 0, Value.int .u64 0, Value.int .u64 0])) := by kernel_rfl
theorem body_191 : Body Tryz.prog 191 := Body.mk Tryz.func191 rfl (by decide)
theorem body_161 : Body Tryz.prog 161 := Body.mk Tryz.func161 rfl (by decide)
theorem body_158 : Body Tryz.prog 158 := Body.mk Tryz.func158 rfl (by decide)
theorem body_159 : Body Tryz.prog 159 := Body.mk Tryz.func159 rfl (by decide)
theorem body_162 : Body Tryz.prog 162 := Body.mk Tryz.func162 rfl (by decide)
theorem bld_179 : Bld Tryz.prog 179 (fun i => (#[(0, 4), (4, 3), (7, 1), (8, 4)] : Array (Nat × Nat))[i]?) [.int .u64 0, .int .u64 0, .int .u64 0, .int .u64 0, .int .u32 0, .int .i32 0, .int .u32 0, .int .u64 0, .int .u64 0, .int .u64 0, .int .u64 0, .int .u64 0] := by intro parts; kernel_rfl
theorem agg_117 : Agg Tryz.prog 117 5 := Agg.mk Tryz.underlying117 rfl (by kernel_rfl)
theorem zero_117 : (Tryz.prog.info? 117).map (·.zero) = some (some (Value.agg #[Value.int .u64 0, Value.int .u64 0, Value.int .u64 0, Value.int .u64 0, Value.int .i64 0])) := by kernel_rfl
theorem fa_117_1 : FA Tryz.prog 117 1 4 := FA.mk (m := 0) Tryz.underlying117 rfl rfl (by kernel_rfl)
theorem one_3 : One Tryz.prog 3 := One.mk Tryz.underlying3 rfl
theorem fa_117_0 : FA Tryz.prog 117 0 0 := FA.mk (m := 3) Tryz.underlying117 rfl rfl (by kernel_rfl)
theorem fa_120_2 : FA Tryz.prog 120 2 8 := FA.mk (m := 0) Tryz.underlying120 rfl rfl (by kernel_rfl)
theorem one_118 : One Tryz.prog 118 := One.mk Tryz.underlying118 rfl
theorem body_209 : Body Tryz.prog 209 := Body.mk Tryz.func209 rfl (by decide)
theorem fa_120_0 : FA Tryz.prog 120 0 0 := FA.mk (m := 3) Tryz.underlying120 rfl rfl (by kernel_rfl)
theorem body_110 : Body Tryz.prog 110 := Body.mk Tryz.func110 rfl (by decide)
theorem fa_120_1 : FA Tryz.prog 120 1 4 := FA.mk (m := 3) Tryz.underlying120 rfl rfl (by kernel_rfl)
theorem body_111 : Body Tryz.prog 111 := Body.mk Tryz.func111 rfl (by decide)
theorem zf_3 : (Tryz.prog.info? 3).bind (·.zero) = some (Value.int .i64 0) := by kernel_rfl
theorem agg_120 : Agg Tryz.prog 120 9 := Agg.mk Tryz.underlying120 rfl (by kernel_rfl)
theorem zero_120 : (Tryz.prog.info? 120).map (·.zero) = some (some (Value.agg #[Value.int .u64 0, Value.int .u64 0, Value.int .u64 0, Value.int .u64 0, Value.int .u64 0, Value.int .u64 0, Value.int .u64 0, Value.int .u64 0, Value.slice none 0 0])) := by kernel_rfl
theorem body_157 : Body Tryz.prog 157 := Body.mk Tryz.func157 rfl (by decide)
theorem body_188 : Body Tryz.prog 188 := Body.mk Tryz.func188 rfl (by decide)
theorem body_156 : Body Tryz.prog 156 := Body.mk Tryz.func156 rfl (by decide)
theorem fa_165_2 : FA Tryz.prog 165 2 13 := FA.mk (m := 0) Tryz.underlying165 rfl rfl (by kernel_rfl)
theorem fa_165_0 : FA Tryz.prog 165 0 0 := FA.mk (m := 11) Tryz.underlying165 rfl rfl (by kernel_rfl)
theorem fa_55_0 : FA Tryz.prog 55 0 0 := FA.mk (m := 3) Tryz.underlying55 rfl rfl (by kernel_rfl)
theorem fa_165_1 : FA Tryz.prog 165 1 12 := FA.mk (m := 0) Tryz.underlying165 rfl rfl (by kernel_rfl)
theorem fa_55_1 : FA Tryz.prog 55 1 4 := FA.mk (m := 3) Tryz.underlying55 rfl rfl (by kernel_rfl)
theorem fa_55_2 : FA Tryz.prog 55 2 8 := FA.mk (m := 3) Tryz.underlying55 rfl rfl (by kernel_rfl)
theorem body_182 : Body Tryz.prog 182 := Body.mk Tryz.func182 rfl (by decide)
theorem one_28 : One Tryz.prog 28 := One.mk Tryz.underlying28 rfl
theorem body_120 : Body Tryz.prog 120 := Body.mk Tryz.func120 rfl (by decide)
theorem body_199 : Body Tryz.prog 199 := Body.mk Tryz.func199 rfl (by decide)
theorem body_168 : Body Tryz.prog 168 := Body.mk Tryz.func168 rfl (by decide)
theorem body_118 : Body Tryz.prog 118 := Body.mk Tryz.func118 rfl (by decide)
theorem body_200 : Body Tryz.prog 200 := Body.mk Tryz.func200 rfl (by decide)
theorem body_109 : Body Tryz.prog 109 := Body.mk Tryz.func109 rfl (by decide)
theorem agg_55 : Agg Tryz.prog 55 12 := Agg.mk Tryz.underlying55 rfl (by kernel_rfl)
theorem bld_165 : Bld Tryz.prog 165 (fun i => (#[(0, 12), (12, 1), (13, 1)] : Array (Nat × Nat))[i]?) [.int .u64 0, .int .u64 0, .int .u64 0, .int .u64 0, .int .u64 0, .int .u64 0, .int .u64 0, .int .u64 0, .int .u64 0, .int .u64 0, .int .u64 0, .int .u64 0, .pointer none, .pointer none] := by intro parts; kernel_rfl
theorem fa_187_1 : FA Tryz.prog 187 1 1 := FA.mk (m := 3) Tryz.underlying187 rfl rfl (by kernel_rfl)
theorem fa_187_0 : FA Tryz.prog 187 0 0 := FA.mk (m := 0) Tryz.underlying187 rfl rfl (by kernel_rfl)
theorem agg_187 : Agg Tryz.prog 187 5 := Agg.mk Tryz.underlying187 rfl (by kernel_rfl)
theorem zero_187 : (Tryz.prog.info? 187).map (·.zero) = some (some (Value.agg #[Value.int .i64 0, Value.int .u64 0, Value.int .u64 0, Value.int .u64 0, Value.int .u64 0])) := by kernel_rfl
theorem sz_182 : (Tryz.prog.info? 182).map (·.size) = some 1 := by kernel_rfl
theorem body_264 : Body Tryz.prog 264 := Body.mk Tryz.func264 rfl (by decide)
theorem body_265 : Body Tryz.prog 265 := Body.mk Tryz.func265 rfl (by decide)
theorem body_267 : Body Tryz.prog 267 := Body.mk Tryz.func267 rfl (by decide)
theorem body_263 : Body Tryz.prog 263 := Body.mk Tryz.func263 rfl (by decide)
theorem body_166 : Body Tryz.prog 166 := Body.mk Tryz.func166 rfl (by decide)
theorem body_167 : Body Tryz.prog 167 := Body.mk Tryz.func167 rfl (by decide)
theorem body_266 : Body Tryz.prog 266 := Body.mk Tryz.func266 rfl (by decide)
theorem body_117 : Body Tryz.prog 117 := Body.mk Tryz.func117 rfl (by decide)
theorem info_3 : (Tryz.prog.info? 3).map (fun i => (i.zero, i.size, i.bytes)) = some (some (Value.int .i64 0), 1, 8) := by kernel_rfl
theorem body_112 : Body Tryz.prog 112 := Body.mk Tryz.func112 rfl (by decide)
theorem zero_182 : (Tryz.prog.info? 182).map (·.zero) = some (some (Value.slice none 0 0)) := by kernel_rfl
theorem body_114 : Body Tryz.prog 114 := Body.mk Tryz.func114 rfl (by decide)
theorem bld_187 : Bld Tryz.prog 187 (fun i => (#[(0, 1), (1, 4)] : Array (Nat × Nat))[i]?) [.int .i64 0, .int .u64 0, .int .u64 0, .int .u64 0, .int .u64 0] := by intro parts; kernel_rfl
theorem body_115 : Body Tryz.prog 115 := Body.mk Tryz.func115 rfl (by decide)
theorem body_116 : Body Tryz.prog 116 := Body.mk Tryz.func116 rfl (by decide)
theorem body_53 : Body Tryz.prog 53 := Body.mk Tryz.func53 rfl (by decide)
theorem body_54 : Body Tryz.prog 54 := Body.mk Tryz.func54 rfl (by decide)
theorem info_40 : (Tryz.prog.info? 40).map (fun i => (i.zero, i.size, i.bytes)) = some (some (Value.agg #[Value.int .u64 0, Value.int .u64 0, Value.int .u64 0, Value.int .u64 0]), 4, 32) := by kernel_rfl
theorem one_38 : One Tryz.prog 38 := One.mk Tryz.underlying38 rfl
theorem fa_113_0 : FA Tryz.prog 113 0 0 := FA.mk (m := 0) Tryz.underlying113 rfl rfl (by kernel_rfl)
theorem body_177 : Body Tryz.prog 177 := Body.mk Tryz.func177 rfl (by decide)
theorem body_128 : Body Tryz.prog 128 := Body.mk Tryz.func128 rfl (by decide)
theorem body_169 : Body Tryz.prog 169 := Body.mk Tryz.func169 rfl (by decide)
theorem body_180 : Body Tryz.prog 180 := Body.mk Tryz.func180 rfl (by decide)
theorem body_179 : Body Tryz.prog 179 := Body.mk Tryz.func179 rfl (by decide)
theorem fa_113_1 : FA Tryz.prog 113 1 1 := FA.mk (m := 3) Tryz.underlying113 rfl rfl (by kernel_rfl)
theorem body_170 : Body Tryz.prog 170 := Body.mk Tryz.func170 rfl (by decide)
theorem info_156 : (Tryz.prog.info? 156).map (fun i => (i.zero, i.size, i.bytes)) = some (some (Value.nilFunc), 1, 8) := by kernel_rfl
theorem sz_156 : (Tryz.prog.info? 156).map (·.size) = some 1 := by kernel_rfl
theorem one_156 : One Tryz.prog 156 := One.mk Tryz.underlying156 rfl
theorem fa_24_2 : FA Tryz.prog 24 2 2 := FA.mk (m := 0) Tryz.underlying24 rfl rfl (by kernel_rfl)
theorem fa_24_3 : FA Tryz.prog 24 3 3 := FA.mk (m := 0) Tryz.underlying24 rfl rfl (by kernel_rfl)
theorem fa_24_4 : FA Tryz.prog 24 4 4 := FA.mk (m := 0) Tryz.underlying24 rfl rfl (by kernel_rfl)
theorem fa_24_5 : FA Tryz.prog 24 5 5 := FA.mk (m := 0) Tryz.underlying24 rfl rfl (by kernel_rfl)
theorem fa_24_0 : FA Tryz.prog 24 0 0 := FA.mk (m := 0) Tryz.underlying24 rfl rfl (by kernel_rfl)
theorem fa_24_1 : FA Tryz.prog 24 1 1 := FA.mk (m := 0) Tryz.underlying24 rfl rfl (by kernel_rfl)
theorem agg_24 : Agg Tryz.prog 24 7 := Agg.mk Tryz.underlying24 rfl (by kernel_rfl)
theorem body_87 : Body Tryz.prog 87 := Body.mk Tryz.func87 rfl (by decide)
theorem fa_100_1 : FA Tryz.prog 100 1 1 := FA.mk (m := 6) Tryz.underlying100 rfl rfl (by kernel_rfl)
theorem fa_100_7 : FA Tryz.prog 100 7 44 := FA.mk (m := 0) Tryz.underlying100 rfl rfl (by kernel_rfl)
theorem one_98 : One Tryz.prog 98 := One.mk Tryz.underlying98 rfl
theorem fa_100_6 : FA Tryz.prog 100 6 43 := FA.mk (m := 0) Tryz.underlying100 rfl rfl (by kernel_rfl)
theorem one_37 : One Tryz.prog 37 := One.mk Tryz.underlying37 rfl
theorem sz_101 : (Tryz.prog.info? 101).map (·.size) = some 1 := by kernel_rfl
theorem one_101 : One Tryz.prog 101 := One.mk Tryz.underlying101 rfl
theorem fa_105_0 : FA Tryz.prog 105 0 0 := FA.mk (m := 0) Tryz.underlying105 rfl rfl (by kernel_rfl)
theorem fa_105_3 : FA Tryz.prog 105 3 3 := FA.mk (m := 0) Tryz.underlying105 rfl rfl (by kernel_rfl)
theorem one_102 : One Tryz.prog 102 := One.mk Tryz.underlying102 rfl
theorem zf_4 : (Tryz.prog.info? 4).bind (·.zero) = some (Value.bool false) := by kernel_rfl
theorem fa_105_6 : FA Tryz.prog 105 6 6 := FA.mk (m := 0) Tryz.underlying105 rfl rfl (by kernel_rfl)
theorem body_65 : Body Tryz.prog 65 := Body.mk Tryz.func65 rfl (by decide)
theorem one_30 : One Tryz.prog 30 := One.mk Tryz.underlying30 rfl
theorem fa_100_0 : FA Tryz.prog 100 0 0 := FA.mk (m := 0) Tryz.underlying100 rfl rfl (by kernel_rfl)
theorem body_119 : Body Tryz.prog 119 := Body.mk Tryz.func119 rfl (by decide)
theorem bld_113 : Bld Tryz.prog 113 (fun i => (#[(0, 1), (1, 4)] : Array (Nat × Nat))[i]?) [.int .i64 0, .int .u64 0, .int .u64 0, .int .u64 0, .int .u64 0] := by intro parts; kernel_rfl
theorem body_127 : Body Tryz.prog 127 := Body.mk Tryz.func127 rfl (by decide)
theorem fa_42_1 : FA Tryz.prog 42 1 1 := FA.mk (m := 0) Tryz.underlying42 rfl rfl (by kernel_rfl)
theorem fa_100_2 : FA Tryz.prog 100 2 8 := FA.mk (m := 0) Tryz.underlying100 rfl rfl (by kernel_rfl)
theorem one_25 : One Tryz.prog 25 := One.mk Tryz.underlying25 rfl
theorem fa_105_1 : FA Tryz.prog 105 1 1 := FA.mk (m := 0) Tryz.underlying105 rfl rfl (by kernel_rfl)
theorem one_4 : One Tryz.prog 4 := One.mk Tryz.underlying4 rfl
theorem fa_42_4 : FA Tryz.prog 42 4 4 := FA.mk (m := 0) Tryz.underlying42 rfl rfl (by kernel_rfl)
theorem sz_4 : (Tryz.prog.info? 4).map (·.size) = some 1 := by kernel_rfl
theorem body_93 : Body Tryz.prog 93 := Body.mk Tryz.func93 rfl (by decide)
theorem sz_38 : (Tryz.prog.info? 38).map (·.size) = some 1 := by kernel_rfl
theorem fa_42_2 : FA Tryz.prog 42 2 2 := FA.mk (m := 0) Tryz.underlying42 rfl rfl (by kernel_rfl)
theorem fa_100_5 : FA Tryz.prog 100 5 42 := FA.mk (m := 0) Tryz.underlying100 rfl rfl (by kernel_rfl)
theorem fa_105_4 : FA Tryz.prog 105 4 4 := FA.mk (m := 0) Tryz.underlying105 rfl rfl (by kernel_rfl)
theorem fa_42_3 : FA Tryz.prog 42 3 3 := FA.mk (m := 0) Tryz.underlying42 rfl rfl (by kernel_rfl)
theorem fa_42_5 : FA Tryz.prog 42 5 5 := FA.mk (m := 3) Tryz.underlying42 rfl rfl (by kernel_rfl)
theorem body_121 : Body Tryz.prog 121 := Body.mk Tryz.func121 rfl (by decide)
theorem fa_105_2 : FA Tryz.prog 105 2 2 := FA.mk (m := 0) Tryz.underlying105 rfl rfl (by kernel_rfl)
theorem fa_105_5 : FA Tryz.prog 105 5 5 := FA.mk (m := 0) Tryz.underlying105 rfl rfl (by kernel_rfl)
theorem one_103 : One Tryz.prog 103 := One.mk Tryz.underlying103 rfl
theorem zf_40 : (Tryz.prog.info? 40).bind (·.zero) = some (Value.agg #[Value.int .u64 0, Value.int .u64 0, Value.int .u64 0, Value.int .u64 0]) := by kernel_rfl
theorem body_66 : Body Tryz.prog 66 := Body.mk Tryz.func66 rfl (by decide)
theorem fa_105_8 : FA Tryz.prog 105 8 11 := FA.mk (m := 0) Tryz.underlying105 rfl rfl (by kernel_rfl)
theorem body_122 : Body Tryz.prog 122 := Body.mk Tryz.func122 rfl (by decide)
theorem fa_105_7 : FA Tryz.prog 105 7 7 := FA.mk (m := 3) Tryz.underlying105 rfl rfl (by kernel_rfl)
theorem info_106 : (Tryz.prog.info? 106).map (fun i => (i.zero, i.size, i.bytes)) = some (some (Value.nilFunc), 1, 8) := by kernel_rfl
theorem fa_42_0 : FA Tryz.prog 42 0 0 := FA.mk (m := 0) Tryz.underlying42 rfl rfl (by kernel_rfl)
theorem body_63 : Body Tryz.prog 63 := Body.mk Tryz.func63 rfl (by decide)
theorem body_64 : Body Tryz.prog 64 := Body.mk Tryz.func64 rfl (by decide)
theorem body_29 : Body Tryz.prog 29 := Body.mk Tryz.func29 rfl (by decide)
theorem sz_106 : (Tryz.prog.info? 106).map (·.size) = some 1 := by kernel_rfl
theorem one_106 : One Tryz.prog 106 := One.mk Tryz.underlying106 rfl
theorem agg_42 : Agg Tryz.prog 42 9 := Agg.mk Tryz.underlying42 rfl (by kernel_rfl)
theorem body_14 : Body Tryz.prog 14 := Body.mk Tryz.func14 rfl (by decide)
theorem body_16 : Body Tryz.prog 16 := Body.mk Tryz.func16 rfl (by decide)
theorem body_67 : Body Tryz.prog 67 := Body.mk Tryz.func67 rfl (by decide)
theorem info_22 : (Tryz.prog.info? 22).map (fun i => (i.zero, i.size, i.bytes)) = some (some (Value.int .u64 0), 1, 8) := by kernel_rfl
theorem body_48 : Body Tryz.prog 48 := Body.mk Tryz.func48 rfl (by decide)
theorem body_55 : Body Tryz.prog 55 := Body.mk Tryz.func55 rfl (by decide)
theorem body_56 : Body Tryz.prog 56 := Body.mk Tryz.func56 rfl (by decide)
theorem agg_35 : Agg Tryz.prog 35 32 := Agg.mk Tryz.underlying35 rfl (by kernel_rfl)
theorem bld_100 : Bld Tryz.prog 100 (fun i => (#[(0, 1), (1, 7), (8, 1), (9, 1), (10, 32), (42, 1), (43, 1), (44, 1)] : Array (Nat × Nat))[i]?) [.pointer none, .int .i64 0, .int .i64 0, .int .i64 0, .int .i64 0, .int .i64 0, .int .i64 0, .int .u64 0, .slice none 0 0, .int .u64 0, .int .u8 0, .int .u8 0, .int .u8 0, .int .u8 0, .int .u8 0, .int .u8 0, .int .u8 0, .int .u8 0, .int .u8 0, .int .u8 0, .int .u8 0, .int .u8 0, .int .u8 0, .int .u8 0, .int .u8 0, .int .u8 0, .int .u8 0, .int .u8 0, .int .u8 0, .int .u8 0, .int .u8 0, .int .u8 0, .int .u8 0, .int .u8 0, .int .u8 0, .int .u8 0, .int .u8 0, .int .u8 0, .int .u8 0, .int .u8 0, .int .u8 0, .int .u8 0, .slice none 0 0, .slice none 0 0, .slice none 0 0] := by intro parts; kernel_rfl
theorem body_57 : Body Tryz.prog 57 := Body.mk Tryz.func57 rfl (by decide)
theorem bld_105 : Bld Tryz.prog 105 (fun i => (#[(0, 1), (1, 1), (2, 1), (3, 1), (4, 1), (5, 1), (6, 1), (7, 4), (11, 1)] : Array (Nat × Nat))[i]?) [.slice none 0 0, .bool false, .bool false, .map none, .map none, .map none, .map none, .int .u64 0, .int .u64 0, .int .u64 0, .int .u64 0, .bool false] := by intro parts; kernel_rfl
theorem info_101 : (Tryz.prog.info? 101).map (fun i => (i.zero, i.size, i.bytes)) = some (some (Value.pointer none), 1, 8) := by kernel_rfl
theorem sz_98 : (Tryz.prog.info? 98).map (·.size) = some 1 := by kernel_rfl
theorem zero_55 : (Tryz.prog.info? 55).map (·.zero) = some (some (Value.agg #[Value.int .u64 0, Value.int .u64 0, Value.int .u64 0, Value.int .u64 0, Value.int .u64 0, Value.int .u64 0, Value.int .u64 0, Value.int .u64 0, Value.int .u64 0, Value.int .u64 0, Value.int .u64 0, Value.int .u64 0])) := by kernel_rfl
theorem bld_117 : Bld Tryz.prog 117 (fun i => (#[(0, 4), (4, 1)] : Array (Nat × Nat))[i]?) [.int .u64 0, .int .u64 0, .int .u64 0, .int .u64 0, .int .i64 0] := by intro parts; kernel_rfl
theorem info_117 : (Tryz.prog.info? 117).map (fun i => (i.zero, i.size, i.bytes)) = some (some (Value.agg #[Value.int .u64 0, Value.int .u64 0, Value.int .u64 0, Value.int .u64 0, Value.int .i64 0]), 5, 40) := by kernel_rfl
theorem bld_120 : Bld Tryz.prog 120 (fun i => (#[(0, 4), (4, 4), (8, 1)] : Array (Nat × Nat))[i]?) [.int .u64 0, .int .u64 0, .int .u64 0, .int .u64 0, .int .u64 0, .int .u64 0, .int .u64 0, .int .u64 0, .slice none 0 0] := by intro parts; kernel_rfl
theorem bld_55 : Bld Tryz.prog 55 (fun i => (#[(0, 4), (4, 4), (8, 4)] : Array (Nat × Nat))[i]?) [.int .u64 0, .int .u64 0, .int .u64 0, .int .u64 0, .int .u64 0, .int .u64 0, .int .u64 0, .int .u64 0, .int .u64 0, .int .u64 0, .int .u64 0, .int .u64 0] := by intro parts; kernel_rfl
theorem info_120 : (Tryz.prog.info? 120).map (fun i => (i.zero, i.size, i.bytes)) = some (some (Value.agg #[Value.int .u64 0, Value.int .u64 0, Value.int .u64 0, Value.int .u64 0, Value.int .u64 0, Value.int .u64 0, Value.int .u64 0, Value.int .u64 0, Value.slice none 0 0]), 9, 88) := by kernel_rfl
theorem body_18 : Body Tryz.prog 18 := Body.mk Tryz.func18 rfl (by decide)
theorem body_51 : Body Tryz.prog 51 := Body.mk Tryz.func51 rfl (by decide)
theorem zero_24 : (Tryz.prog.info? 24).map (·.zero) = some (some (Value.agg #[Value.int .i64 0, Value.int .i64 0, Value.int .i64 0, Value.int .i64 0, Value.int .i64 0, Value.int .i64 0, Value.int .u64 0])) := by kernel_rfl
theorem bld_24 : Bld Tryz.prog 24 (fun i => (#[(0, 1), (1, 1), (2, 1), (3, 1), (4, 1), (5, 1), (6, 1)] : Array (Nat × Nat))[i]?) [.int .i64 0, .int .i64 0, .int .i64 0, .int .i64 0, .int .i64 0, .int .i64 0, .int .u64 0] := by intro parts; kernel_rfl
theorem sz_24 : (Tryz.prog.info? 24).map (·.size) = some 7 := by kernel_rfl
theorem body_10 : Body Tryz.prog 10 := Body.mk Tryz.func10 rfl (by decide)
theorem body_19 : Body Tryz.prog 19 := Body.mk Tryz.func19 rfl (by decide)
theorem bld_35 : Bld Tryz.prog 35 (fun i => some (i * 1, 1)) [.int .u8 0, .int .u8 0, .int .u8 0, .int .u8 0, .int .u8 0, .int .u8 0, .int .u8 0, .int .u8 0, .int .u8 0, .int .u8 0, .int .u8 0, .int .u8 0, .int .u8 0, .int .u8 0, .int .u8 0, .int .u8 0, .int .u8 0, .int .u8 0, .int .u8 0, .int .u8 0, .int .u8 0, .int .u8 0, .int .u8 0, .int .u8 0, .int .u8 0, .int .u8 0, .int .u8 0, .int .u8 0, .int .u8 0, .int .u8 0, .int .u8 0, .int .u8 0] := by intro parts; kernel_rfl
theorem body_11 : Body Tryz.prog 11 := Body.mk Tryz.func11 rfl (by decide)
theorem bld_42 : Bld Tryz.prog 42 (fun i => (#[(0, 1), (1, 1), (2, 1), (3, 1), (4, 1), (5, 4)] : Array (Nat × Nat))[i]?) [.int .i64 0, .int .i64 0, .int .i64 0, .int .i64 0, .slice none 0 0, .int .u64 0, .int .u64 0, .int .u64 0, .int .u64 0] := by intro parts; kernel_rfl
theorem body_12 : Body Tryz.prog 12 := Body.mk Tryz.func12 rfl (by decide)
theorem body_24 : Body Tryz.prog 24 := Body.mk Tryz.func24 rfl (by decide)
theorem body_13 : Body Tryz.prog 13 := Body.mk Tryz.func13 rfl (by decide)
theorem body_17 : Body Tryz.prog 17 := Body.mk Tryz.func17 rfl (by decide)
theorem body_9 : Body Tryz.prog 9 := Body.mk Tryz.func9 rfl (by decide)
theorem sz_44 : (Tryz.prog.info? 44).map (·.size) = some 10 := by kernel_rfl
theorem fa_44_1 : FA Tryz.prog 44 1 1 := FA.mk (m := 8) Tryz.underlying44 rfl rfl (by kernel_rfl)
theorem fa_44_0 : FA Tryz.prog 44 0 0 := FA.mk (m := 0) Tryz.underlying44 rfl rfl (by kernel_rfl)
theorem body_125 : Body Tryz.prog 125 := Body.mk Tryz.func125 rfl (by decide)
theorem body_175 : Body Tryz.prog 175 := Body.mk Tryz.func175 rfl (by decide)
theorem body_201 : Body Tryz.prog 201 := Body.mk Tryz.func201 rfl (by decide)
theorem body_218 : Body Tryz.prog 218 := Body.mk Tryz.func218 rfl (by decide)
theorem body_202 : Body Tryz.prog 202 := Body.mk Tryz.func202 rfl (by decide)
theorem agg_199 : Agg Tryz.prog 199 8 := Agg.mk Tryz.underlying199 rfl (by kernel_rfl)
theorem zero_199 : (Tryz.prog.info? 199).map (·.zero) = some (some (Value.agg #[Value.int .u64 0, Value.int .u64 0, Value.int .u64 0, Value.int .u64 0, Value.int .u64 0, Value.int .u64 0, Value.int .u64 0, Value.int .u64 0])) := by kernel_rfl
theorem fa_199_0 : FA Tryz.prog 199 0 0 := FA.mk (m := 3) Tryz.underlying199 rfl rfl (by kernel_rfl)
theorem body_181 : Body Tryz.prog 181 := Body.mk Tryz.func181 rfl (by decide)
theorem fa_199_1 : FA Tryz.prog 199 1 4 := FA.mk (m := 3) Tryz.underlying199 rfl rfl (by kernel_rfl)
theorem body_126 : Body Tryz.prog 126 := Body.mk Tryz.func126 rfl (by decide)
theorem sz_113 : (Tryz.prog.info? 113).map (·.size) = some 5 := by kernel_rfl
theorem agg_113 : Agg Tryz.prog 113 5 := Agg.mk Tryz.underlying113 rfl (by kernel_rfl)
theorem zero_113 : (Tryz.prog.info? 113).map (·.zero) = some (some (Value.agg #[Value.int .i64 0, Value.int .u64 0, Value.int .u64 0, Value.int .u64 0, Value.int .u64 0])) := by kernel_rfl
theorem bld_199 : Bld Tryz.prog 199 (fun i => (#[(0, 4), (4, 4)] : Array (Nat × Nat))[i]?) [.int .u64 0, .int .u64 0, .int .u64 0, .int .u64 0, .int .u64 0, .int .u64 0, .int .u64 0, .int .u64 0] := by intro parts; kernel_rfl
theorem info_199 : (Tryz.prog.info? 199).map (fun i => (i.zero, i.size, i.bytes)) = some (some (Value.agg #[Value.int .u64 0, Value.int .u64 0, Value.int .u64 0, Value.int .u64 0, Value.int .u64 0, Value.int .u64 0, Value.int .u64 0, Value.int .u64 0]), 8, 64) := by kernel_rfl
theorem body_130 : Body Tryz.prog 130 := Body.mk Tryz.func130 rfl (by decide)
theorem body_129 : Body Tryz.prog 129 := Body.mk Tryz.func129 rfl (by decide)
theorem body_70 : Body Tryz.prog 70 := Body.mk Tryz.func70 rfl (by decide)
theorem info_113 : (Tryz.prog.info? 113).map (fun i => (i.zero, i.size, i.bytes)) = some (some (Value.agg #[Value.int .i64 0, Value.int .u64 0, Value.int .u64 0, Value.int .u64 0, Value.int .u64 0]), 5, 40) := by kernel_rfl
theorem body_221 : Body Tryz.prog 221 := Body.mk Tryz.func221 rfl (by decide)
theorem zero_256 : (Tryz.prog.info? 256).map (·.zero) = some (some (Value.agg #[Value.int .u32 0, Value.int .u32 0, Value.int .u32 0, Value.int .u32 0, Value.int .u32 0, Value.int .u32 0, Value.int .u32 0, Value.int .u32 0])) := by kernel_rfl
theorem fa_270_0 : FA Tryz.prog 270 0 0 := FA.mk (m := 7) Tryz.underlying270 rfl rfl (by kernel_rfl)
theorem agg_256 : Agg Tryz.prog 256 8 := Agg.mk Tryz.underlying256 rfl (by kernel_rfl)
theorem sz_256 : (Tryz.prog.info? 256).map (·.size) = some 8 := by kernel_rfl
theorem sz_169 : (Tryz.prog.info? 169).map (·.size) = some 1 := by kernel_rfl
theorem one_169 : One Tryz.prog 169 := One.mk Tryz.underlying169 rfl
theorem agg_270 : Agg Tryz.prog 270 73 := Agg.mk Tryz.underlying270 rfl (by kernel_rfl)
theorem zero_270 : (Tryz.prog.info? 270).map (·.zero) = some (some (Value.agg #[Value.int .u32 0, Value.int .u32 0, Value.int .u32 0, Value.int .u32 0, Value.int .u32 0, Value.int .u32 0, Value.int .u32 0, Value.int .u32 0, Value.int .u8 0, Value.int .u8 0, Value.int .u8 0, Value.int .u8 0, Value.int .u8 0, Value.int .u8 0, Value.int .u8 0, Value.int .u8 0, Value.int .u8 0, Value.int .u8 0, Value.int .u8 0, Value.int .u8 0, Value.int .u8 0, Value.int .u8 0, Value.int .u8 0, Value.int .u8 0, Value.int .u8 0, Value.int .u8 0, Value.int .u8 0, Value.int .u8 0, Value.int .u8 0, Value.int .u8 0, Value.int .u8 0, Value.int .u8 0, Value.int .u8 0, Value.int .u8 0, Value.int .u8 0, Value.int .u8 0, Value.int .u8 0, Value.int .u8 0, Value.int .u8 0, Value.int .u8 0, Value.int .u8 0, Value.int .u8 0, Value.int .u8 0, Value.int .u8 0, Value.int .u8 0, Value.int .u8 0, Value.int .u8 0, Value.int .u8 0, Value.int .u8 0, Value.int .u8 0, Value.int .u8 0, Value.int .u8 0, Value.int .u8 0, Value.int .u8 0, Value.int .u8 0, Value.int .u8 0, Value.int .u8 0, Value.int .u8 0, Value.int .u8 0, Value.int .u8 0, Value.int .u8 0, Value.int .u8 0, Value.int .u8 0, Value.int .u8 0, Value.int .u8 0, Value.int .u8 0, Value.int .u8 0, Value.int .u8 0, Value.int .u8 0, Value.int .u8 0, Value.int .u8 0, Value.int .u8 0, Value.int .u64 0])) := by kernel_rfl
theorem zero_277 : (Tryz.prog.info? 277).map (·.zero) = some (some (Value.agg #[Value.int .u32 0, Value.int .u32 0, Value.int .u32 0, Value.int .u32 0, Value.int .u32 0, Value.int .u32 0, Value.int .u32 0, Value.int .u32 0, Value.int .u32 0, Value.int .u32 0, Value.int .u32 0, Value.int .u32 0, Value.int .u32 0, Value.int .u32 0, Value.int .u32 0, Value.int .u32 0, Value.int .u32 0, Value.int .u32 0, Value.int .u32 0, Value.int .u32 0, Value.int .u32 0, Value.int .u32 0, Value.int .u32 0, Value.int .u32 0, Value.int .u32 0, Value.int .u32 0, Value.int .u32 0, Value.int .u32 0, Value.int .u32 0, Value.int .u32 0, Value.int .u32 0, Value.int .u32 0, Value.int .u32 0, Value.int .u32 0, Value.int .u32 0, Value.int .u32 0, Value.int .u32 0, Value.int .u32 0, Value.int .u32 0, Value.int .u32 0, Value.int .u32 0, Value.int .u32 0, Value.int .u32 0, Value.int .u32 0, Value.int .u32 0, Value.int .u32 0, Value.int .u32 0, Value.int .u32 0, Value.int .u32 0, Value.int .u32 0, Value.int .u32 0, Value.int .u32 0, Value.int .u32 0, Value.int .u32 0, Value.int .u32 0, Value.int .u32 0, Value.int .u32 0, Value.int .u32 0, Value.int .u32 0, Value.int .u32 0, Value.int .u32 0, Value.int .u32 0, Value.int .u32 0, Value.int .u32 0])) := by kernel_rfl
theorem fa_270_1 : FA Tryz.prog 270 1 8 := FA.mk (m := 63) Tryz.underlying270 rfl rfl (by kernel_rfl)
theorem body_216 : Body Tryz.prog 216 := Body.mk Tryz.func216 rfl (by decide)
theorem body_198 : Body Tryz.prog 198 := Body.mk Tryz.func198 rfl (by decide)
theorem body_217 : Body Tryz.prog 217 := Body.mk Tryz.func217 rfl (by decide)
theorem bld_256 : Bld Tryz.prog 256 (fun i => some (i * 1, 1)) [.int .u32 0, .int .u32 0, .int .u32 0, .int .u32 0, .int .u32 0, .int .u32 0, .int .u32 0, .int .u32 0] := by intro parts; kernel_rfl
theorem fa_270_2 : FA Tryz.prog 270 2 72 := FA.mk (m := 0) Tryz.underlying270 rfl rfl (by kernel_rfl)
theorem body_196 : Body Tryz.prog 196 := Body.mk Tryz.func196 rfl (by decide)
theorem bld_270 : Bld Tryz.prog 270 (fun i => (#[(0, 8), (8, 64), (72, 1)] : Array (Nat × Nat))[i]?) [.int .u32 0, .int .u32 0, .int .u32 0, .int .u32 0, .int .u32 0, .int .u32 0, .int .u32 0, .int .u32 0, .int .u8 0, .int .u8 0, .int .u8 0, .int .u8 0, .int .u8 0, .int .u8 0, .int .u8 0, .int .u8 0, .int .u8 0, .int .u8 0, .int .u8 0, .int .u8 0, .int .u8 0, .int .u8 0, .int .u8 0, .int .u8 0, .int .u8 0, .int .u8 0, .int .u8 0, .int .u8 0, .int .u8 0, .int .u8 0, .int .u8 0, .int .u8 0, .int .u8 0, .int .u8 0, .int .u8 0, .int .u8 0, .int .u8 0, .int .u8 0, .int .u8 0, .int .u8 0, .int .u8 0, .int .u8 0, .int .u8 0, .int .u8 0, .int .u8 0, .int .u8 0, .int .u8 0, .int .u8 0, .int .u8 0, .int .u8 0, .int .u8 0, .int .u8 0, .int .u8 0, .int .u8 0, .int .u8 0, .int .u8 0, .int .u8 0, .int .u8 0, .int .u8 0, .int .u8 0, .int .u8 0, .int .u8 0, .int .u8 0, .int .u8 0, .int .u8 0, .int .u8 0, .int .u8 0, .int .u8 0, .int .u8 0, .int .u8 0, .int .u8 0, .int .u8 0, .int .u64 0] := by intro parts; kernel_rfl
theorem zero_35 : (Tryz.prog.info? 35).map (·.zero) = some (some (Value.agg #[Value.int .u8 0, Value.int .u8 0, Value.int .u8 0, Value.int .u8 0, Value.int .u8 0, Value.int .u8 0, Value.int .u8 0, Value.int .u8 0, Value.int .u8 0, Value.int .u8 0, Value.int .u8 0, Value.int .u8 0, Value.int .u8 0, Value.int .u8 0, Value.int .u8 0, Value.int .u8 0, Value.int .u8 0, Value.int .u8 0, Value.int .u8 0, Value.int .u8 0, Value.int .u8 0, Value.int .u8 0, Value.int .u8 0, Value.int .u8 0, Value.int .u8 0, Value.int .u8 0, Value.int .u8 0, Value.int .u8 0, Value.int .u8 0, Value.int .u8 0, Value.int .u8 0, Value.int .u8 0])) := by kernel_rfl
theorem body_197 : Body Tryz.prog 197 := Body.mk Tryz.func197 rfl (by decide)
theorem body_172 : Body Tryz.prog 172 := Body.mk Tryz.func172 rfl (by decide)
theorem zero_271 : (Tryz.prog.info? 271).map (·.zero) = some (some (Value.agg #[Value.int .u8 0, Value.int .u8 0, Value.int .u8 0, Value.int .u8 0, Value.int .u8 0, Value.int .u8 0, Value.int .u8 0, Value.int .u8 0])) := by kernel_rfl
theorem sz_35 : (Tryz.prog.info? 35).map (·.size) = some 32 := by kernel_rfl
theorem body_171 : Body Tryz.prog 171 := Body.mk Tryz.func171 rfl (by decide)
theorem body_173 : Body Tryz.prog 173 := Body.mk Tryz.func173 rfl (by decide)
theorem body_174 : Body Tryz.prog 174 := Body.mk Tryz.func174 rfl (by decide)
theorem body_123 : Body Tryz.prog 123 := Body.mk Tryz.func123 rfl (by decide)
theorem body_124 : Body Tryz.prog 124 := Body.mk Tryz.func124 rfl (by decide)
theorem fa_100_3 : FA Tryz.prog 100 3 9 := FA.mk (m := 0) Tryz.underlying100 rfl rfl (by kernel_rfl)
theorem fa_100_4 : FA Tryz.prog 100 4 10 := FA.mk (m := 31) Tryz.underlying100 rfl rfl (by kernel_rfl)
theorem body_69 : Body Tryz.prog 69 := Body.mk Tryz.func69 rfl (by decide)
theorem body_68 : Body Tryz.prog 68 := Body.mk Tryz.func68 rfl (by decide)
theorem body_15 : Body Tryz.prog 15 := Body.mk Tryz.func15 rfl (by decide)
set_option maxRecDepth 100000
theorem zq0 {p : Prop} (h : p := by repeat (first | exact Subs.nil _ | apply Subs.cons | exact List.Mem.head _ | refine List.Mem.tail _ ?_)) : p := h
theorem zq1 {p : Prop} (h : p := by repeat (first | exact Picks.nil _ | apply Picks.cons | exact Pull.here _ _ | apply Pull.there)) : p := h
theorem zq3 {p : Prop} (h : p := by first | (constructor <;> omega) | (constructor <;> simp <;> omega)) : p := h
theorem zq4 {p : Prop} (h : p := by repeat (first | exact Lends.nil _ | apply Lends.cons | exact Lend.same _ _ | exact Lend.row _ _ _ _ _ _ (by decide) | apply Lend.there)) : p := h
theorem zq6 {p : Prop} (h : p := by first | exact ltb rfl | (simp; done) | (simp; omega) | omega | (simp [*]; omega)) : p := h
theorem zq7 {p : Prop} (h : p := by repeat (first | exact List.Mem.head _ | refine List.Mem.tail _ ?_)) : p := h
theorem zq8 {p : Prop} (h : p := by repeat (first | exact Lend.same _ _ | exact Lend.row _ _ _ _ _ _ (by decide) | apply Lend.there)) : p := h
theorem zq9 {p : Prop} (h : p := by repeat (first | exact trivial | refine ⟨by first | rfl | (simp; done), ?_⟩)) : p := h
theorem zq10 {p : Prop} (h : p := by first | omega | (simp; omega)) : p := h
theorem zq11 {p : Prop} (h : p := by repeat (first | exact Upd.here _ _ _ | apply Upd.there)) : p := h
theorem zq12 {p : Prop} (h : p := by repeat (first | exact Pull.here _ _ | apply Pull.there)) : p := h
theorem zq13 {p : Prop} (h : p := by first | rfl | (simp; done) | (simp; omega)) : p := h
theorem zq14 {p : Prop} (h : p := by rintro _ _ _ ⟨_, h, _⟩; exact h) : p := h
theorem zq17 {p : Prop} (h : p := by first | omega | decide | (simp; omega)) : p := h
theorem zq18 {p : Prop} (h : p := by first | rfl | (simp; done) | (simp; omega) | (simp [*]; done)) : p := h

theorem f221_spec (x : W32) (a : Nat) (h0 : 0 < a) (ha : a < 32) :
  Spec Tryz.prog 221 #[u32 x, (it (-(a : Int)))] [] []
   (fun r Γ' H' => r = u32 (rr x a) ∧ Γ' = [] ∧ H' = []) := by
 refine Spec.of_args Tryz.func221 rfl Tryz.ntmps221 (by simp) fun w => ?_
 refine JC.seq (JC.region (JO.v (Yv.assign rfl) (by decide) (JO.nil (JQ.then_normal (JC.seq (JC.region ?_))))))
 refine JO.v (Yv.move rfl) (by decide) (JO.v (Yv.conv_i_u64 Tryz.underlying3 Tryz.underlying259 rfl) (by decide) (JO.v (Yv.as (v' := u64 (BitVec.ofNat 64 (32 - a))) (Yv.bin rfl rfl (BinR.and_u64 (b := 31#64))) (congrArg u64 (rot_and a h0 ha))) (by decide) (JO.v (Yv.assign rfl) (by decide) (JO.nil (JQ.then_normal (JC.seq ?_))))))
 refine JC.region (JO.v (Yv.move rfl) (by decide) (JO.v (Yv.move rfl) (by decide) (JO.v (Yv.as (v' := u32 (x <<< (32 - a))) (Yv.bin rfl rfl (BinR.shl_u32_u64)) (congrArg (fun n => u32 (x <<< n)) (by rw [BitVec.toNat_ofNat]; omega))) (by decide) (JO.v (Yv.move rfl) (by decide) (JO.v (Yv.move rfl) (by decide) (JO.v (Yv.as (v' := u64 (BitVec.ofNat 64 a)) (Yv.bin rfl rfl (BinR.sub_u64 (a := 32#64))) (congrArg u64 (rot_sub a h0 ha))) (by decide) ?_))))))
 refine JO.v (Yv.as (v' := u32 (x >>> a)) (Yv.bin rfl rfl (BinR.shr_u32_u64)) (congrArg (fun n => u32 (x >>> n)) (by rw [BitVec.toNat_ofNat]; omega))) (by decide) (JO.v (Yv.as (v' := u32 (rr x a)) (Yv.bin rfl rfl (BinR.or_u32)) (congrArg u32 (BitVec.or_comm _ _))) (by decide) (JO.v (Yv.assign rfl) (by decide) (JO.nil (JQ.then_normal ?_))))
 refine JC.ret ?_
 exact JQ.done (.inr rfl) (Γ' := []) (H' := []) (res1 rfl (RV.tmp rfl)) (Subs.sub zq0) (Picks.perm zq1) ⟨rfl, rfl, rfl⟩


theorem f217_spec (x : W32) (a b c : Nat) (ha : 0 < a ∧ a < 32) (hb : 0 < b ∧ b < 32) (hc : 0 < c ∧ c < 32) :
  Spec Tryz.prog 217 #[u32 x, (it (a : Int)), (it (b : Int)), (it (c : Int))] [] []
   (fun r Γ' H' => r = u32 (rr x a ^^^ rr x b ^^^ rr x c) ∧ Γ' = [] ∧ H' = []) := by
 refine Spec.of_args Tryz.func217 rfl Tryz.ntmps217 (by simp) fun w => ?_
 refine JC.seq (JC.region (JO.v (Yv.assign rfl) (by decide) (JO.nil (JQ.then_normal (JC.seq (JC.region ?_))))))
 refine JO.v (Yv.move rfl) (by decide) (JO.v (Yv.move rfl) (by decide) (JO.v (Yv.neg_i rfl zq3) (by decide) ?_))
 refine JO.callB (f221_spec x a ha.1 ha.2) body_221 rfl zq1 zq4 zq14 (by decide) ?_
 rintro _ _ ⟨_, ⟨rfl, _, rfl⟩, hH⟩
 simp only [List.cons_append, List.nil_append] at hH; subst hH
 refine JO.v (Yv.move rfl) (by decide) (JO.v (Yv.move rfl) (by decide) (JO.v (Yv.neg_i rfl zq3) (by decide) ?_))
 refine JO.callB (f221_spec x b hb.1 hb.2) body_221 rfl zq1 zq4 zq14 (by decide) ?_
 rintro _ _ ⟨_, ⟨rfl, _, rfl⟩, hH⟩
 simp only [List.cons_append, List.nil_append] at hH; subst hH
 refine JO.v (Yv.bin rfl rfl (BinR.xor_u32)) (by decide) (JO.v (Yv.move rfl) (by decide) (JO.v (Yv.move rfl) (by decide) (JO.v (Yv.neg_i rfl zq3) (by decide) ?_)))
 refine JO.callB (f221_spec x c hc.1 hc.2) body_221 rfl zq1 zq4 zq14 (by decide) ?_
 rintro _ _ ⟨_, ⟨rfl, _, rfl⟩, hH⟩
 simp only [List.cons_append, List.nil_append] at hH; subst hH
 refine JO.v (Yv.bin rfl rfl (BinR.xor_u32)) (by decide) (JO.v (Yv.assign rfl) (by decide) (JO.nil (JQ.then_normal ?_)))
 refine JC.ret ?_
 exact JQ.done (.inr rfl) (Γ' := []) (H' := []) (res1 rfl (RV.tmp rfl)) (Subs.sub zq0) (Picks.perm zq1) ⟨rfl, rfl, rfl⟩


theorem f216_spec (x : W32) (a b c : Nat) (ha : 0 < a ∧ a < 32) (hb : 0 < b ∧ b < 32) (hc : 0 < c ∧ c < 32) :
  Spec Tryz.prog 216 #[u32 x, (it (a : Int)), (it (b : Int)), (it (c : Int))] [] []
   (fun r Γ' H' => r = u32 (rr x a ^^^ rr x b ^^^ x >>> c) ∧ Γ' = [] ∧ H' = []) := by
 refine Spec.of_args Tryz.func216 rfl Tryz.ntmps216 (by simp) fun w => ?_
 refine JC.seq (JC.region (JO.v (Yv.assign rfl) (by decide) (JO.nil (JQ.then_normal (JC.seq ?_)))))
 refine JC.draw (.one 0 (.one 1 (.one 2 (.one 4 (.one 5 (.one 6 (.one 9 (.one 10 (.one 11 (.one 3 (.one 7 (.one 8 (.one 12 (.one 13 .nil)))))))))))))) (fun i => ([3, 7] : List Nat).contains i) (fun i => ([3, 7] : List Nat).contains i) (fun i => ([0, 1, 2, 4, 5, 6, 8, 9, 10, 11, 12, 13] : List Nat).contains i) mixed (by kernel_rfl) (by decide) (by kernel_rfl) ?_
 refine JR.u rfl rfl rfl (Yv.move rfl) (by decide) (JR.u rfl rfl rfl (Yv.move rfl) (by decide) (JR.u rfl rfl rfl (Yv.neg_i rfl zq3) (by decide) (JR.u rfl rfl rfl (Yv.move rfl) (by decide) (JR.u rfl rfl rfl (Yv.move rfl) (by decide) (JR.u rfl rfl rfl (Yv.neg_i rfl zq3) (by decide) (JR.u rfl rfl rfl (Yv.move rfl) (by decide) ?_))))))
 refine JR.u rfl rfl rfl (Yv.move rfl) (by decide) (JR.u rfl rfl rfl (Yv.as (v' := u32 (x >>> c)) (Yv.bin rfl rfl (BinR.shr_u32_i zq17)) (congrArg (fun n => u32 (x >>> n)) (by simp))) (by decide) ?_)
 refine JR.m rfl rfl (Mv.callB body_221 rfl (f221_spec x a ha.1 ha.2) zq1 zq4 zq14) (by decide) ?_
 rintro _ _ _ ⟨_, ⟨rfl, _, rfl⟩, hΓ, hH⟩
 simp only [List.cons_append, List.nil_append] at hH; subst hΓ hH
 refine ⟨⟨Subs.sub zq0, .inl rfl⟩, ?_⟩
 refine JR.m rfl rfl (Mv.callB body_221 rfl (f221_spec x b hb.1 hb.2) zq1 zq4 zq14) (by decide) ?_
 rintro _ _ _ ⟨_, ⟨rfl, _, rfl⟩, hΓ, hH⟩
 simp only [List.cons_append, List.nil_append] at hH; subst hΓ hH
 refine ⟨⟨Subs.sub zq0, .inl rfl⟩, ?_⟩
 refine JR.u rfl rfl rfl (Yv.bin rfl rfl (BinR.xor_u32)) (by decide) (JR.u rfl rfl rfl (Yv.bin rfl rfl (BinR.xor_u32)) (by decide) (JR.u rfl rfl rfl (Yv.assign rfl) (by decide) ?_))
 refine JR.nil ?_
 refine JQ.then_normal ?_
 refine JC.ret ?_
 exact JQ.done (.inr rfl) (Γ' := []) (H' := []) (res1 rfl (RV.tmp rfl)) (Subs.sub zq0) (Picks.perm zq1) ⟨rfl, rfl, rfl⟩


theorem f198_spec (p : Nat) (s : List W32) (bs : B8) (n : BitVec 64) (hs : s.length = 8) (hb : bs.length = 64) :
  Spec Tryz.prog 198 #[(ptr p 0)] [Res.var 5 (sqr.map u32), Res.var 4 (cub.map u32)] [Res.cells p (hcells s bs n) 270]
   (fun r Γ' H' => r = .agg (s.map u32).toArray ∧ Γ' = [] ∧ H' = [Res.cells p (hcells s bs n) 270]) := by
 refine Spec.of_args Tryz.func198 rfl Tryz.ntmps198 (by simp) fun w => ?_
 refine JC.seq (JC.region ?_)
 refine JO.alloc _ zero_256 rfl (by decide) fun b2 => ?_
 refine JO.nil (JQ.then_normal (JC.seq (JC.region (JO.v (Yv.move rfl) (by decide) (JO.v (Yv.nilCheck rfl) (by decide) (JO.v (Yv.fieldAddr fa_270_0 rfl) (by decide) ?_))))))
 refine JO.v (Yv.as (v' := .agg (nowT s 0).toArray) (Yv.loadOwnAt agg_256 zq7 rfl (by rw [hcells_len hb]; omega)) (congrArg (fun l : List Value => Value.agg l.toArray) (hc_words s bs n))) (by decide) ?_
 refine JO.alloc _ zero_256 rfl (by decide) fun b3 => ?_
 refine JO.storeAll sz_256 rfl rfl rfl zq13 (by exact one_map (fun _ => rfl)) zq11 zq13 ?_
 refine JO.nil (JQ.then_normal (JC.seq (JC.seq (JC.region (JO.v (Yv.move rfl) (by decide) (JO.nil ?_))))))
 refine JQ.then_normal (JC.block ?_)
 refine JC.loop (ι := Nat) (fun x => x ≤ 8) (fun x => [(9, it (x : Int)), (3, ptr b3 0), (2, ptr b2 0)]) (fun x => [Res.var 5 (sqr.map u32), Res.var 4 (cub.map u32)]) (fun x => [Res.cells p (hcells s bs n) 270, Res.cells b3 (nowT s x) 256, Res.cells b2 (List.replicate 8 (u32 0)) 256]) (fun x => 8 - x) 0 zq9 (Subs.sub zq0) (Picks.perm zq1) ?_ (fun x hx => ?_)
 ·exact Nat.zero_le _
 refine JC.seq (JC.region (JO.v (Yv.bin rfl rfl BinR.lss_i) (by decide) (JO.nil (JQ.then_normal (JC.seq (JC.cond rfl (fun hc1 => ?_) (fun hc1 => ?_)))))))
 ·try simp only [decide_eq_true_eq, decide_eq_false_iff_not, Bool.not_eq_true', Bool.not_eq_false', ne_eq, Decidable.not_not, Bool.not_eq_true, Bool.and_eq_true, Bool.or_eq_true, BitVec.reduceToNat] at hc1
  refine JC.skip (JQ.then_normal (JC.seq (JC.block (JC.seq (JC.region (JO.v (Yv.move rfl) (by decide) ?_))))))
  refine JO.v (Yv.assign rfl) (by decide) (JO.nil (JQ.then_normal ?_))
  refine JC.draw (.one 0 (.one 1 (.one 2 (.one 3 (.one 4 (.one 5 (.one 6 (.one 7 (.one 8 .nil))))))))) (fun i => ([8] : List Nat).contains i) (fun i => ([8] : List Nat).contains i) (fun i => ([0, 1, 3, 4, 5, 6, 7] : List Nat).contains i) mixed (by kernel_rfl) (by decide) (by kernel_rfl) ?_
  refine JR.u rfl rfl rfl (Yv.move rfl) (by decide) (JR.u rfl rfl rfl (Yv.indexArr1 Tryz.underlying256 sz_169 rfl rfl zq6) (by decide) (JR.v rfl rfl rfl (Yv.load1 one_169 rfl (by exact Kn.own zq7 (by first | first | exact nowT_get s (by omega) | rfl | exact tab_get zq10 | exact gm (d := 0) zq10))) (by decide) (JR.u rfl rfl rfl (Yv.move rfl) (by decide) (JR.u rfl rfl rfl (Yv.indexArr1 Tryz.underlying256 sz_169 rfl rfl zq6) (by decide) (JR.u rfl rfl rfl (Yv.load1 one_169 rfl (by exact Kn.var zq7 (by first | first | exact nowT_get s (by omega) | rfl | exact tab_get zq10 | exact gm (d := 0) zq10))) (by decide) (JR.u rfl rfl rfl (Yv.as (v' := u32 (s.getD x 0)) (Yv.bin rfl rfl (BinR.xor_u32)) (congrArg u32 (xor_back _ _))) (by decide) ?_))))))
  refine JR.u rfl rfl rfl (Yv.indexArr1 Tryz.underlying256 sz_169 rfl rfl zq6) (by decide) ?_
  refine JR.m0 rfl rfl (Mv.store1 sz_169 rfl rfl rfl zq11 zq6) ?_
  rintro _ _ _ ⟨rfl, rfl⟩
  refine ⟨⟨Subs.sub zq0, .inl rfl⟩, ?_⟩
  refine JR.nil ?_
  refine JQ.block_normal ?_
  refine JQ.then_normal (JC.region (JO.v (Yv.bin rfl rfl (BinR.add_i zq3)) (by decide) (JO.v (Yv.move rfl) (by decide) (JO.nil ?_))))
  rw [nowT_set]
  refine JQ.head (x + 1) zq9 (Subs.sub zq0) (Picks.perm zq1) ?_
  exact ⟨by omega, by omega⟩
 ·try simp only [decide_eq_true_eq, decide_eq_false_iff_not, Bool.not_eq_true', Bool.not_eq_false', ne_eq, Decidable.not_not, Bool.not_eq_true, Bool.and_eq_true, Bool.or_eq_true, BitVec.reduceToNat] at hc1
  obtain rfl : x = 8 := by omega
  refine JC.exit ?_
  refine JQ.then_exit ?_
  refine JQ.then_exit ?_
  refine JQ.block_exit ?_
  refine JQ.then_normal (JC.seq (JC.region (JO.v (Yv.as (v' := .agg (s.map u32).toArray) (Yv.loadOwn agg_256 zq7 rfl zq18) (congrArg (fun l : List Value => Value.agg l.toArray) (nowT_8 hs))) (by decide) ?_)))
  refine JO.storeAll sz_256 rfl rfl rfl zq13 (by first | (simp; done) | exact one_map (fun _ => rfl) | exact one_tab (fun _ => rfl) | exact one_tab (fun _ => by split <;> rfl)) zq11 zq13 ?_
  refine JO.nil (JQ.then_normal ?_)
  refine JC.ret ?_
  exact JQ.done (.inr rfl) (Γ' := []) (H' := [Res.cells p (hcells s bs n) 270]) (res1 rfl (RV.cell agg_256 zq7 rfl (by simp [hs]))) (Subs.sub zq0) (Picks.perm zq1) ⟨rfl, rfl, rfl⟩


theorem f197_spec (p : Nat) (s : List W32) (bs : B8) (n : BitVec 64) (hs : s.length = 8) (hb : bs.length = 64) :
  Spec Tryz.prog 197 #[(ptr p 0)] [] [Res.cells p (hcells s bs n) 270]
   (fun r Γ' H' => ∃ q, r = ptr q 0 ∧ Γ' = [] ∧ H' = [Res.cells q (hcells s bs n) 270, Res.cells p (hcells s bs n) 270]) := by
 refine Spec.of_args Tryz.func197 rfl Tryz.ntmps197 (by simp) fun w => ?_
 refine JC.seq (JC.region (JO.v (Yv.assign rfl) (by decide) (JO.nil (JQ.then_normal (JC.seq (JC.region ?_))))))
 refine JO.v (Yv.move rfl) (by decide) (JO.v (Yv.nilCheck rfl) (by decide) (JO.v (Yv.loadOwn agg_270 zq7 rfl (hcells_len hb)) (by decide) ?_))
 refine JO.alloc _ zero_270 rfl (by decide) fun b3 => ?_
 refine JO.storeAll sz_270 rfl rfl rfl (hcells_len hb) (hcells_one s bs n) zq11 (by first | rfl | (simp; done)) ?_
 refine JO.nil (JQ.then_normal (JC.seq (JC.region (JO.v (Yv.assign rfl) (by decide) (JO.nil (JQ.then_normal ?_))))))
 refine JC.ret ?_
 exact JQ.done (.inr rfl) (Γ' := []) (H' := [Res.cells _ (hcells s bs n) 270, Res.cells p (hcells s bs n) 270]) (res1 rfl (RV.tmp rfl)) (Subs.sub zq0) (Picks.perm zq1) ⟨_, rfl, rfl, rfl⟩

set_option maxHeartbeats 400000 in
theorem f196_spec (p : Nat) (s : List W32) (bs : B8) (n : BitVec 64) (hs : s.length = 8) (hb : bs.length = 64) :
  Spec Tryz.prog 196 #[(ptr p 0)] [Res.var 5 (sqr.map u32), Res.var 4 (cub.map u32)] [Res.cells p (hcells s bs n) 270]
   (fun r Γ' H' => r = .tuple #[] ∧ Γ' = [] ∧ H' = [Res.cells p (hcells (comp s bs) bs n) 270]) := by
 refine Spec.of_args Tryz.func196 rfl Tryz.ntmps196 (by simp) fun w => ?_
 refine JC.seq (JC.region ?_)
 refine JO.alloc _ zero_277 rfl (by decide) fun b2 => ?_
 refine JO.nil (JQ.then_normal (JC.seq (JC.seq (JC.region (JO.v (Yv.move rfl) (by decide) (JO.nil ?_))))))
 refine JQ.then_normal (JC.block ?_)
 refine JC.loop (ι := Nat) (fun x => x ≤ 64) (fun x => [(0, ptr p 0), (18, it (x : Int)), (2, ptr b2 0)]) (fun x => [Res.var 5 (sqr.map u32), Res.var 4 (cub.map u32)]) (fun x => [Res.cells p (hcells s bs n) 270, Res.cells b2 (schT bs x) 277]) (fun x => 64 - x) 0 zq9 (Subs.sub zq0) (Picks.perm zq1) ?_ (fun x hx => ?_)
 ·exact Nat.zero_le _
 refine JC.seq (JC.region (JO.v (Yv.bin rfl rfl BinR.lss_i) (by decide) (JO.nil (JQ.then_normal (JC.seq (JC.cond rfl (fun hc1 => ?_) (fun hc1 => ?_)))))))
 ·try simp only [decide_eq_true_eq, decide_eq_false_iff_not, Bool.not_eq_true', Bool.not_eq_false', ne_eq, Decidable.not_not, Bool.not_eq_true, Bool.and_eq_true, Bool.or_eq_true, BitVec.reduceToNat] at hc1
  refine JC.skip (JQ.then_normal (JC.seq (JC.block (JC.seq (JC.region (JO.v (Yv.move rfl) (by decide) ?_))))))
  refine JO.v (Yv.assign rfl) (by decide) (JO.nil (JQ.then_normal (JC.seq (JC.region (JO.v (Yv.move rfl) (by decide) (JO.v (Yv.bin rfl rfl BinR.lss_i) (by decide) ?_))))))
  refine JO.nil (JQ.then_normal (JC.cond rfl (fun hc2 => ?_) (fun hc2 => ?_)))
  ·try simp only [decide_eq_true_eq, decide_eq_false_iff_not, Bool.not_eq_true', Bool.not_eq_false', ne_eq, Decidable.not_not, Bool.not_eq_true, Bool.and_eq_true, Bool.or_eq_true, BitVec.reduceToNat] at hc2
   refine JC.draw (.one 0 (.one 1 (.one 2 (.one 3 (.one 4 (.one 5 (.one 6 (.one 7 (.one 8 (.one 9 (.one 10 (.one 11 (.one 12 (.one 13 (.one 14 (.one 15 (.one 16 (.one 17 (.one 18 (.one 19 (.one 20 (.one 21 (.one 22 (.one 23 (.one 24 (.one 25 (.one 26 (.one 27 (.one 28 (.one 29 (.one 30 (.one 31 (.one 32 (.one 33 (.one 34 (.one 35 (.one 36 (.one 37 (.one 38 (.one 39 (.one 40 (.one 41 (.one 42 (.one 43 .nil)))))))))))))))))))))))))))))))))))))))))))) (fun i => ([43] : List Nat).contains i) (fun i => ([43] : List Nat).contains i) (fun i => ([0, 1, 2, 3, 4, 5, 6, 8, 9, 10, 11, 12, 13, 14, 15, 16, 18, 19, 20, 21, 22, 23, 24, 25, 26, 27, 29, 30, 31, 32, 33, 34, 35, 36, 37, 38, 40, 41, 42] : List Nat).contains i) mixed (by kernel_rfl) (by decide) (by kernel_rfl) ?_
   refine JR.u rfl rfl rfl (Yv.move rfl) (by decide) (JR.u rfl rfl rfl (Yv.move rfl) (by decide) (JR.u rfl rfl rfl (Yv.move rfl) (by decide) (JR.u rfl rfl rfl (Yv.as (v' := it ((4 * x : Nat) : Int)) (Yv.bin rfl rfl (BinR.mul_i zq3)) (congrArg it (by omega))) (by decide) (JR.u rfl rfl rfl (Yv.nilCheck rfl) (by decide) (JR.u rfl rfl rfl (Yv.fieldAddr fa_270_1 rfl) (by decide) (JR.u rfl rfl rfl (Yv.indexArr1o Tryz.underlying268 sz_5 rfl rfl zq6) (by decide) ?_))))))
   refine JR.v rfl rfl rfl (Yv.load1 one_5 rfl (by exact Kn.own zq7 (by first | first | exact hc_b hb (by omega) | exact schT_get bs (by omega) (by omega) | rfl | exact tab_get zq10 | exact gm (d := 0) zq10))) (by decide) (JR.u rfl rfl rfl (Yv.conv_u8_u32 Tryz.underlying5 Tryz.underlying169 rfl) (by decide) (JR.u rfl rfl rfl (Yv.bin rfl rfl (BinR.shl_u32_u64 (n := 24#64))) (by decide) (JR.u rfl rfl rfl (Yv.move rfl) (by decide) (JR.u rfl rfl rfl (Yv.move rfl) (by decide) (JR.u rfl rfl rfl (Yv.bin rfl rfl (BinR.mul_i zq3)) (by decide) (JR.u rfl rfl rfl (Yv.as (v' := it ((4 * x + 1 : Nat) : Int)) (Yv.bin rfl rfl (BinR.add_i zq3)) (congrArg it (by omega))) (by decide) ?_))))))
   refine JR.u rfl rfl rfl (Yv.nilCheck rfl) (by decide) (JR.u rfl rfl rfl (Yv.fieldAddr fa_270_1 rfl) (by decide) (JR.u rfl rfl rfl (Yv.indexArr1o Tryz.underlying268 sz_5 rfl rfl zq6) (by decide) (JR.v rfl rfl rfl (Yv.load1 one_5 rfl (by exact Kn.own zq7 (by first | first | exact hc_b hb (by omega) | exact schT_get bs (by omega) (by omega) | rfl | exact tab_get zq10 | exact gm (d := 0) zq10))) (by decide) (JR.u rfl rfl rfl (Yv.conv_u8_u32 Tryz.underlying5 Tryz.underlying169 rfl) (by decide) (JR.u rfl rfl rfl (Yv.bin rfl rfl (BinR.shl_u32_u64 (n := 16#64))) (by decide) (JR.u rfl rfl rfl (Yv.bin rfl rfl (BinR.or_u32)) (by decide) ?_))))))
   refine JR.u rfl rfl rfl (Yv.move rfl) (by decide) (JR.u rfl rfl rfl (Yv.move rfl) (by decide) (JR.u rfl rfl rfl (Yv.bin rfl rfl (BinR.mul_i zq3)) (by decide) (JR.u rfl rfl rfl (Yv.as (v' := it ((4 * x + 2 : Nat) : Int)) (Yv.bin rfl rfl (BinR.add_i zq3)) (congrArg it (by omega))) (by decide) (JR.u rfl rfl rfl (Yv.nilCheck rfl) (by decide) (JR.u rfl rfl rfl (Yv.fieldAddr fa_270_1 rfl) (by decide) (JR.u rfl rfl rfl (Yv.indexArr1o Tryz.underlying268 sz_5 rfl rfl zq6) (by decide) ?_))))))
   refine JR.v rfl rfl rfl (Yv.load1 one_5 rfl (by exact Kn.own zq7 (by first | first | exact hc_b hb (by omega) | exact schT_get bs (by omega) (by omega) | rfl | exact tab_get zq10 | exact gm (d := 0) zq10))) (by decide) (JR.u rfl rfl rfl (Yv.conv_u8_u32 Tryz.underlying5 Tryz.underlying169 rfl) (by decide) (JR.u rfl rfl rfl (Yv.bin rfl rfl (BinR.shl_u32_u64 (n := 8#64))) (by decide) (JR.u rfl rfl rfl (Yv.bin rfl rfl (BinR.or_u32)) (by decide) (JR.u rfl rfl rfl (Yv.move rfl) (by decide) (JR.u rfl rfl rfl (Yv.move rfl) (by decide) (JR.u rfl rfl rfl (Yv.bin rfl rfl (BinR.mul_i zq3)) (by decide) ?_))))))
   refine JR.u rfl rfl rfl (Yv.as (v' := it ((4 * x + 3 : Nat) : Int)) (Yv.bin rfl rfl (BinR.add_i zq3)) (congrArg it (by omega))) (by decide) (JR.u rfl rfl rfl (Yv.nilCheck rfl) (by decide) (JR.u rfl rfl rfl (Yv.fieldAddr fa_270_1 rfl) (by decide) (JR.u rfl rfl rfl (Yv.indexArr1o Tryz.underlying268 sz_5 rfl rfl zq6) (by decide) (JR.v rfl rfl rfl (Yv.load1 one_5 rfl (by exact Kn.own zq7 (by first | first | exact hc_b hb (by omega) | exact schT_get bs (by omega) (by omega) | rfl | exact tab_get zq10 | exact gm (d := 0) zq10))) (by decide) (JR.u rfl rfl rfl (Yv.conv_u8_u32 Tryz.underlying5 Tryz.underlying169 rfl) (by decide) (JR.u rfl rfl rfl (Yv.as (v' := u32 (W bs x)) (Yv.bin rfl rfl (BinR.or_u32)) (congrArg u32 (by rw [W_lo bs (by omega)]; rfl))) (by decide) ?_))))))
   refine JR.u rfl rfl rfl (Yv.indexArr1 Tryz.underlying277 sz_169 rfl rfl zq6) (by decide) ?_
   refine JR.m0 rfl rfl (Mv.store1 sz_169 rfl rfl rfl zq11 zq6) ?_
   rintro _ _ _ ⟨rfl, rfl⟩
   refine ⟨⟨Subs.sub zq0, .inl rfl⟩, ?_⟩
   refine JR.nil ?_
   refine JQ.block_normal ?_
   refine JQ.then_normal (JC.region (JO.v (Yv.bin rfl rfl (BinR.add_i zq3)) (by decide) (JO.v (Yv.move rfl) (by decide) (JO.nil ?_))))
   rw [schT_set]
   refine JQ.head (x + 1) zq9 (Subs.sub zq0) (Picks.perm zq1) ?_
   exact ⟨by omega, by omega⟩
  ·try simp only [decide_eq_true_eq, decide_eq_false_iff_not, Bool.not_eq_true', Bool.not_eq_false', ne_eq, Decidable.not_not, Bool.not_eq_true, Bool.and_eq_true, Bool.or_eq_true, BitVec.reduceToNat] at hc2
   refine JC.draw (.one 0 (.one 1 (.one 2 (.one 3 (.one 4 (.one 5 (.one 6 (.one 7 (.one 8 (.one 9 (.one 10 (.one 11 (.one 12 (.one 13 (.one 16 (.one 17 (.one 18 (.one 19 (.one 14 (.one 15 (.one 20 (.one 21 (.one 22 (.one 23 .nil)))))))))))))))))))))))) (fun i => ([23] : List Nat).contains i) (fun i => ([14, 20, 23] : List Nat).contains i) (fun i => ([0, 1, 2, 3, 5, 6, 7, 9, 10, 11, 12, 15, 16, 17, 18, 21, 22] : List Nat).contains i) mixed (by kernel_rfl) (by decide) (by kernel_rfl) ?_
   refine JR.u rfl rfl rfl (Yv.move rfl) (by decide) (JR.u rfl rfl rfl (Yv.move rfl) (by decide) (JR.u rfl rfl rfl (Yv.as (v' := it ((x - 16 : Nat) : Int)) (Yv.bin rfl rfl (BinR.sub_i zq3)) (congrArg it (by omega))) (by decide) (JR.u rfl rfl rfl (Yv.indexArr1 Tryz.underlying277 sz_169 rfl rfl zq6) (by decide) (JR.v rfl rfl rfl (Yv.load1 one_169 rfl (by exact Kn.own zq7 (by first | first | exact hc_b hb (by omega) | exact schT_get bs (by omega) (by omega) | rfl | exact tab_get zq10 | exact gm (d := 0) zq10))) (by decide) (JR.u rfl rfl rfl (Yv.move rfl) (by decide) (JR.u rfl rfl rfl (Yv.as (v' := it ((x - 7 : Nat) : Int)) (Yv.bin rfl rfl (BinR.sub_i zq3)) (congrArg it (by omega))) (by decide) ?_))))))
   refine JR.u rfl rfl rfl (Yv.indexArr1 Tryz.underlying277 sz_169 rfl rfl zq6) (by decide) (JR.v rfl rfl rfl (Yv.load1 one_169 rfl (by exact Kn.own zq7 (by first | first | exact hc_b hb (by omega) | exact schT_get bs (by omega) (by omega) | rfl | exact tab_get zq10 | exact gm (d := 0) zq10))) (by decide) (JR.u rfl rfl rfl (Yv.bin rfl rfl (BinR.add_u32)) (by decide) (JR.u rfl rfl rfl (Yv.move rfl) (by decide) (JR.u rfl rfl rfl (Yv.as (v' := it ((x - 15 : Nat) : Int)) (Yv.bin rfl rfl (BinR.sub_i zq3)) (congrArg it (by omega))) (by decide) (JR.u rfl rfl rfl (Yv.indexArr1 Tryz.underlying277 sz_169 rfl rfl zq6) (by decide) (JR.v rfl rfl rfl (Yv.load1 one_169 rfl (by exact Kn.own zq7 (by first | first | exact hc_b hb (by omega) | exact schT_get bs (by omega) (by omega) | rfl | exact tab_get zq10 | exact gm (d := 0) zq10))) (by decide) ?_))))))
   refine JR.u rfl rfl rfl (Yv.move rfl) (by decide) (JR.u rfl rfl rfl (Yv.as (v' := it ((x - 2 : Nat) : Int)) (Yv.bin rfl rfl (BinR.sub_i zq3)) (congrArg it (by omega))) (by decide) (JR.u rfl rfl rfl (Yv.indexArr1 Tryz.underlying277 sz_169 rfl rfl zq6) (by decide) (JR.v rfl rfl rfl (Yv.load1 one_169 rfl (by exact Kn.own zq7 (by first | first | exact hc_b hb (by omega) | exact schT_get bs (by omega) (by omega) | rfl | exact tab_get zq10 | exact gm (d := 0) zq10))) (by decide) ?_)))
   refine JR.m rfl rfl (Mv.callB body_216 rfl (f216_spec (W bs (x - 15)) 7 18 3 (by decide) (by decide) (by decide)) zq1 zq4 zq14) (by decide) ?_
   rintro _ _ _ ⟨_, ⟨rfl, _, rfl⟩, hΓ, hH⟩
   simp only [List.cons_append, List.nil_append] at hH; subst hΓ hH
   refine ⟨⟨Subs.sub zq0, .inr (St.keep zq0 zq1)⟩, ?_⟩
   refine JR.u rfl rfl rfl (Yv.bin rfl rfl (BinR.add_u32)) (by decide) ?_
   refine JR.m rfl rfl (Mv.callB body_216 rfl (f216_spec (W bs (x - 2)) 17 19 10 (by decide) (by decide) (by decide)) zq1 zq4 zq14) (by decide) ?_
   rintro _ _ _ ⟨_, ⟨rfl, _, rfl⟩, hΓ, hH⟩
   simp only [List.cons_append, List.nil_append] at hH; subst hΓ hH
   refine ⟨⟨Subs.sub zq0, .inr (St.keep zq0 zq1)⟩, ?_⟩
   refine JR.u rfl rfl rfl (Yv.as (v' := u32 (W bs x)) (Yv.bin rfl rfl (BinR.add_u32)) (congrArg u32 (W_hi (j := x) bs (by omega)).symm)) (by decide) (JR.u rfl rfl rfl (Yv.indexArr1 Tryz.underlying277 sz_169 rfl rfl zq6) (by decide) ?_)
   refine JR.m0 rfl rfl (Mv.store1 sz_169 rfl rfl rfl zq11 zq6) ?_
   rintro _ _ _ ⟨rfl, rfl⟩
   refine ⟨⟨Subs.sub zq0, .inl rfl⟩, ?_⟩
   refine JR.nil ?_
   refine JQ.block_normal ?_
   refine JQ.then_normal (JC.region (JO.v (Yv.bin rfl rfl (BinR.add_i zq3)) (by decide) (JO.v (Yv.move rfl) (by decide) (JO.nil ?_))))
   rw [schT_set]
   refine JQ.head (x + 1) zq9 (Subs.sub zq0) (Picks.perm zq1) ?_
   exact ⟨by omega, by omega⟩
 ·try simp only [decide_eq_true_eq, decide_eq_false_iff_not, Bool.not_eq_true', Bool.not_eq_false', ne_eq, Decidable.not_not, Bool.not_eq_true, Bool.and_eq_true, Bool.or_eq_true, BitVec.reduceToNat] at hc1
  obtain rfl : x = 64 := by omega
  refine JC.exit ?_
  refine JQ.then_exit ?_
  refine JQ.then_exit ?_
  refine JQ.block_exit ?_
  refine JQ.then_normal (JC.seq (JC.region (JO.v (Yv.move rfl) (by decide) ?_)))
  refine JO.callB (f198_spec p s bs n hs hb) body_198 rfl zq1 zq4 zq14 (by decide) ?_
  rintro _ _ ⟨_, ⟨rfl, _, rfl⟩, hH⟩
  simp only [List.cons_append, List.nil_append] at hH; subst hH
  refine JO.alloc _ zero_256 rfl (by decide) fun b4 => ?_
  refine JO.storeAll sz_256 rfl rfl rfl zq13 (by first | (simp; done) | exact one_map (fun _ => rfl) | exact one_tab (fun _ => rfl) | exact one_tab (fun _ => by split <;> rfl)) zq11 zq13 ?_
  refine JO.nil (JQ.then_normal (JC.seq ?_))
  refine JC.draw (.one 0 (.one 1 (.one 2 (.one 3 (.one 4 (.one 5 (.one 6 (.one 7 (.one 8 (.one 9 (.one 10 (.one 11 (.one 12 (.one 13 (.one 14 (.one 15 (.one 16 (.one 17 (.one 18 (.one 19 (.one 20 (.one 21 (.one 22 (.one 23 .nil)))))))))))))))))))))))) (fun i => ([] : List Nat).contains i) (fun i => ([] : List Nat).contains i) (fun i => ([0, 2, 4, 6, 8, 10, 12, 14, 16, 17, 18, 19, 20, 21, 22, 23] : List Nat).contains i) mixed (by kernel_rfl) (by decide) (by kernel_rfl) ?_
  refine JR.u rfl rfl rfl (Yv.indexArr1 (j := 0) Tryz.underlying256 sz_169 rfl rfl zq6) (by decide) (JR.v rfl rfl rfl (Yv.load1 one_169 rfl (by exact Kn.own zq7 (by first | first | exact hc_b hb (by omega) | exact schT_get bs (by omega) (by omega) | rfl | exact tab_get zq10 | exact gm (d := 0) zq10))) (by decide) (JR.u rfl rfl rfl (Yv.indexArr1 (j := 1) Tryz.underlying256 sz_169 rfl rfl zq6) (by decide) (JR.v rfl rfl rfl (Yv.load1 one_169 rfl (by exact Kn.own zq7 (by first | first | exact hc_b hb (by omega) | exact schT_get bs (by omega) (by omega) | rfl | exact tab_get zq10 | exact gm (d := 0) zq10))) (by decide) (JR.u rfl rfl rfl (Yv.indexArr1 (j := 2) Tryz.underlying256 sz_169 rfl rfl zq6) (by decide) (JR.v rfl rfl rfl (Yv.load1 one_169 rfl (by exact Kn.own zq7 (by first | first | exact hc_b hb (by omega) | exact schT_get bs (by omega) (by omega) | rfl | exact tab_get zq10 | exact gm (d := 0) zq10))) (by decide) (JR.u rfl rfl rfl (Yv.indexArr1 (j := 3) Tryz.underlying256 sz_169 rfl rfl zq6) (by decide) ?_))))))
  refine JR.v rfl rfl rfl (Yv.load1 one_169 rfl (by exact Kn.own zq7 (by first | first | exact hc_b hb (by omega) | exact schT_get bs (by omega) (by omega) | rfl | exact tab_get zq10 | exact gm (d := 0) zq10))) (by decide) (JR.u rfl rfl rfl (Yv.indexArr1 (j := 4) Tryz.underlying256 sz_169 rfl rfl zq6) (by decide) (JR.v rfl rfl rfl (Yv.load1 one_169 rfl (by exact Kn.own zq7 (by first | first | exact hc_b hb (by omega) | exact schT_get bs (by omega) (by omega) | rfl | exact tab_get zq10 | exact gm (d := 0) zq10))) (by decide) (JR.u rfl rfl rfl (Yv.indexArr1 (j := 5) Tryz.underlying256 sz_169 rfl rfl zq6) (by decide) (JR.v rfl rfl rfl (Yv.load1 one_169 rfl (by exact Kn.own zq7 (by first | first | exact hc_b hb (by omega) | exact schT_get bs (by omega) (by omega) | rfl | exact tab_get zq10 | exact gm (d := 0) zq10))) (by decide) (JR.u rfl rfl rfl (Yv.indexArr1 (j := 6) Tryz.underlying256 sz_169 rfl rfl zq6) (by decide) (JR.v rfl rfl rfl (Yv.load1 one_169 rfl (by exact Kn.own zq7 (by first | first | exact hc_b hb (by omega) | exact schT_get bs (by omega) (by omega) | rfl | exact tab_get zq10 | exact gm (d := 0) zq10))) (by decide) ?_))))))
  refine JR.u rfl rfl rfl (Yv.indexArr1 (j := 7) Tryz.underlying256 sz_169 rfl rfl zq6) (by decide) (JR.v rfl rfl rfl (Yv.load1 one_169 rfl (by exact Kn.own zq7 (by first | first | exact hc_b hb (by omega) | exact schT_get bs (by omega) (by omega) | rfl | exact tab_get zq10 | exact gm (d := 0) zq10))) (by decide) (JR.u rfl rfl rfl (Yv.assign rfl) (by decide) (JR.u rfl rfl rfl (Yv.assign rfl) (by decide) (JR.u rfl rfl rfl (Yv.assign rfl) (by decide) (JR.u rfl rfl rfl (Yv.assign rfl) (by decide) (JR.u rfl rfl rfl (Yv.assign rfl) (by decide) ?_))))))
  refine JR.u rfl rfl rfl (Yv.assign rfl) (by decide) (JR.u rfl rfl rfl (Yv.assign rfl) (by decide) (JR.u rfl rfl rfl (Yv.assign rfl) (by decide) ?_))
  refine JR.nil ?_
  refine JQ.then_normal (JC.seq (JC.seq (JC.region (JO.v (Yv.move rfl) (by decide) (JO.nil (JQ.then_normal ?_))))))
  refine JC.block ?_
  refine JC.loop (ι := Nat) (fun x => x ≤ 64) (fun x => [(0, ptr p 0), (2, ptr b2 0), (4, ptr b4 0), (108, it (x : Int)), (5, u32 ((rnds (sch bs 64) s x).getD 0 0)), (6, u32 ((rnds (sch bs 64) s x).getD 1 0)), (7, u32 ((rnds (sch bs 64) s x).getD 2 0)), (8, u32 ((rnds (sch bs 64) s x).getD 3 0)), (9, u32 ((rnds (sch bs 64) s x).getD 4 0)), (10, u32 ((rnds (sch bs 64) s x).getD 5 0)), (11, u32 ((rnds (sch bs 64) s x).getD 6 0)), (12, u32 ((rnds (sch bs 64) s x).getD 7 0))]) (fun x => [Res.var 5 (sqr.map u32), Res.var 4 (cub.map u32)]) (fun x => [Res.cells p (hcells s bs n) 270, Res.cells b2 (schT bs 64) 277, Res.cells b4 (s.map u32) 256]) (fun x => 64 - x) 0 zq9 (Subs.sub zq0) (Picks.perm zq1) ?_ (fun x hx => ?_)
  ·exact Nat.zero_le _
  refine JC.seq (JC.region (JO.v (Yv.bin rfl rfl BinR.lss_i) (by decide) (JO.nil (JQ.then_normal (JC.seq (JC.cond rfl (fun hc3 => ?_) (fun hc3 => ?_)))))))
  ·try simp only [decide_eq_true_eq, decide_eq_false_iff_not, Bool.not_eq_true', Bool.not_eq_false', ne_eq, Decidable.not_not, Bool.not_eq_true, Bool.and_eq_true, Bool.or_eq_true, BitVec.reduceToNat] at hc3
   refine JC.skip (JQ.then_normal (JC.seq (JC.block (JC.seq (JC.region (JO.v (Yv.move rfl) (by decide) ?_))))))
   refine JO.v (Yv.assign rfl) (by decide) (JO.nil (JQ.then_normal (JC.seq ?_)))
   refine JC.draw (.one 0 (.one 1 (.one 4 (.one 5 (.one 6 (.one 7 (.one 8 (.one 9 (.one 10 (.one 12 (.one 13 (.one 14 (.one 16 (.one 17 (.one 18 (.one 2 (.one 3 (.one 11 (.one 15 (.one 19 (.one 20 .nil))))))))))))))))))))) (fun i => ([] : List Nat).contains i) (fun i => ([2] : List Nat).contains i) (fun i => ([0, 1, 3, 4, 5, 6, 7, 8, 9, 10, 11, 12, 13, 14, 15, 16, 17, 19, 20] : List Nat).contains i) mixed (by kernel_rfl) (by decide) (by kernel_rfl) ?_
   refine JR.u rfl rfl rfl (Yv.move rfl) (by decide) (JR.u rfl rfl rfl (Yv.move rfl) (by decide) (JR.u rfl rfl rfl (Yv.move rfl) (by decide) (JR.u rfl rfl rfl (Yv.move rfl) (by decide) (JR.u rfl rfl rfl (Yv.move rfl) (by decide) (JR.u rfl rfl rfl (Yv.move rfl) (by decide) (JR.u rfl rfl rfl (Yv.bin rfl rfl (BinR.xor_u32)) (by decide) ?_))))))
   refine JR.u rfl rfl rfl (Yv.bin rfl rfl (BinR.and_u32)) (by decide) (JR.u rfl rfl rfl (Yv.bin rfl rfl (BinR.xor_u32)) (by decide) (JR.u rfl rfl rfl (Yv.move rfl) (by decide) (JR.u rfl rfl rfl (Yv.indexArr1 Tryz.underlying277 sz_169 rfl rfl zq6) (by decide) (JR.u rfl rfl rfl (Yv.load1 one_169 rfl (by exact Kn.var zq7 (by first | first | exact hc_b hb (by omega) | exact schT_get bs (by omega) (by omega) | rfl | exact tab_get zq10 | exact gm (d := 0) zq10))) (by decide) (JR.u rfl rfl rfl (Yv.move rfl) (by decide) (JR.u rfl rfl rfl (Yv.indexArr1 Tryz.underlying277 sz_169 rfl rfl zq6) (by decide) ?_))))))
   refine JR.v rfl rfl rfl (Yv.as (v' := u32 ((sch bs 64).getD x 0)) (Yv.load1 one_169 rfl (by exact Kn.own zq7 (by first | first | exact hc_b hb (by omega) | exact schT_get bs (by omega) (by omega) | rfl | exact tab_get zq10 | exact gm (d := 0) zq10))) (congrArg u32 (sch_W bs (by omega)).symm)) (by decide) ?_
   refine JR.m rfl rfl (Mv.callB body_217 rfl (f217_spec ((rnds (sch bs 64) s x).getD 4 0) 6 11 25 (by decide) (by decide) (by decide)) zq1 zq4 zq14) (by decide) ?_
   rintro _ _ _ ⟨_, ⟨rfl, _, rfl⟩, hΓ, hH⟩
   simp only [List.cons_append, List.nil_append] at hH; subst hΓ hH
   refine ⟨⟨Subs.sub zq0, .inr (St.keep zq0 zq1)⟩, ?_⟩
   refine JR.u rfl rfl rfl (Yv.bin rfl rfl (BinR.add_u32)) (by decide) (JR.u rfl rfl rfl (Yv.bin rfl rfl (BinR.add_u32)) (by decide) (JR.u rfl rfl rfl (Yv.bin rfl rfl (BinR.add_u32)) (by decide) (JR.u rfl rfl rfl (Yv.as (v' := u32 (rx (sch bs 64) (rnds (sch bs 64) s x) x)) (Yv.bin rfl rfl (BinR.add_u32)) rfl) (by decide) (JR.u rfl rfl rfl (Yv.assign rfl) (by decide) ?_))))
   refine JR.nil ?_
   refine JQ.then_normal (JC.seq (JC.region (JO.v (Yv.move rfl) (by decide) ?_)))
   refine JO.callB (f217_spec ((rnds (sch bs 64) s x).getD 0 0) 2 13 22 (by decide) (by decide) (by decide)) body_217 rfl zq1 zq4 zq14 (by decide) ?_
   rintro _ _ ⟨_, ⟨rfl, _, rfl⟩, hH⟩
   simp only [List.cons_append, List.nil_append] at hH; subst hH
   refine JO.v (Yv.move rfl) (by decide) (JO.v (Yv.move rfl) (by decide) (JO.v (Yv.bin rfl rfl (BinR.and_u32)) (by decide) (JO.v (Yv.move rfl) (by decide) (JO.v (Yv.move rfl) (by decide) (JO.v (Yv.move rfl) (by decide) (JO.v (Yv.bin rfl rfl (BinR.or_u32)) (by decide) ?_))))))
   refine JO.v (Yv.bin rfl rfl (BinR.and_u32)) (by decide) (JO.v (Yv.bin rfl rfl (BinR.or_u32)) (by decide) (JO.v (Yv.as (v' := u32 (ry (rnds (sch bs 64) s x))) (Yv.bin rfl rfl (BinR.add_u32)) rfl) (by decide) (JO.v (Yv.assign rfl) (by decide) (JO.nil (JQ.then_normal (JC.region ?_))))))
   refine JO.v (Yv.move rfl) (by decide) (JO.v (Yv.move rfl) (by decide) (JO.v (Yv.as (v' := u32 ((rnds (sch bs 64) s (x + 1)).getD 0 0)) (Yv.bin rfl rfl (BinR.add_u32)) (congrArg u32 (rs0 (sch bs 64) s x).symm)) (by decide) (JO.v (Yv.as (v' := u32 ((rnds (sch bs 64) s (x + 1)).getD 1 0)) (Yv.move rfl) (congrArg u32 (rs1 (sch bs 64) s x).symm)) (by decide) (JO.v (Yv.as (v' := u32 ((rnds (sch bs 64) s (x + 1)).getD 2 0)) (Yv.move rfl) (congrArg u32 (rs2 (sch bs 64) s x).symm)) (by decide) (JO.v (Yv.as (v' := u32 ((rnds (sch bs 64) s (x + 1)).getD 3 0)) (Yv.move rfl) (congrArg u32 (rs3 (sch bs 64) s x).symm)) (by decide) (JO.v (Yv.move rfl) (by decide) ?_))))))
   refine JO.v (Yv.move rfl) (by decide) (JO.v (Yv.as (v' := u32 ((rnds (sch bs 64) s (x + 1)).getD 4 0)) (Yv.bin rfl rfl (BinR.add_u32)) (congrArg u32 (rs4 (sch bs 64) s x).symm)) (by decide) (JO.v (Yv.as (v' := u32 ((rnds (sch bs 64) s (x + 1)).getD 5 0)) (Yv.move rfl) (congrArg u32 (rs5 (sch bs 64) s x).symm)) (by decide) (JO.v (Yv.as (v' := u32 ((rnds (sch bs 64) s (x + 1)).getD 6 0)) (Yv.move rfl) (congrArg u32 (rs6 (sch bs 64) s x).symm)) (by decide) (JO.v (Yv.as (v' := u32 ((rnds (sch bs 64) s (x + 1)).getD 7 0)) (Yv.move rfl) (congrArg u32 (rs7 (sch bs 64) s x).symm)) (by decide) (JO.v (Yv.assign rfl) (by decide) (JO.v (Yv.assign rfl) (by decide) ?_))))))
   refine JO.v (Yv.assign rfl) (by decide) (JO.v (Yv.assign rfl) (by decide) (JO.v (Yv.assign rfl) (by decide) (JO.v (Yv.assign rfl) (by decide) (JO.v (Yv.assign rfl) (by decide) (JO.v (Yv.assign rfl) (by decide) (JO.nil ?_))))))
   refine JQ.block_normal ?_
   refine JQ.then_normal (JC.region (JO.v (Yv.bin rfl rfl (BinR.add_i zq3)) (by decide) (JO.v (Yv.move rfl) (by decide) (JO.nil ?_))))
   refine JQ.head (x + 1) zq9 (Subs.sub zq0) (Picks.perm zq1) ?_
   exact ⟨by omega, by omega⟩
  ·try simp only [decide_eq_true_eq, decide_eq_false_iff_not, Bool.not_eq_true', Bool.not_eq_false', ne_eq, Decidable.not_not, Bool.not_eq_true, Bool.and_eq_true, Bool.or_eq_true, BitVec.reduceToNat] at hc3
   obtain rfl : x = 64 := by omega
   generalize hv : rnds (sch bs 64) s 64 = v
   have hvl : v.length = 8 := by rw [← hv]; exact rnds_len _ _ hs 64
   refine JC.exit ?_
   refine JQ.then_exit ?_
   refine JQ.then_exit ?_
   refine JQ.block_exit ?_
   refine JQ.then_normal (JC.seq (JC.region (JO.v (Yv.move rfl) (by decide) (JO.v (Yv.move rfl) (by decide) (JO.v (Yv.move rfl) (by decide) (JO.v (Yv.move rfl) (by decide) ?_))))))
   refine JO.v (Yv.move rfl) (by decide) (JO.v (Yv.move rfl) (by decide) (JO.v (Yv.move rfl) (by decide) (JO.v (Yv.move rfl) (by decide) (JO.v (Yv.as (v' := .agg (v.map u32).toArray) (Yv.build (cs := [u32 (v.getD 0 0), u32 (v.getD 1 0), u32 (v.getD 2 0), u32 (v.getD 3 0), u32 (v.getD 4 0), u32 (v.getD 5 0), u32 (v.getD 6 0), u32 (v.getD 7 0)]) bld_256 rfl (by kernel_rfl)) (congrArg (fun l : List Value => Value.agg l.toArray) (list8 hvl))) (by decide) (JO.v (Yv.move rfl) (by decide) (JO.nil ?_))))))
   refine JQ.then_normal (JC.block ?_)
   refine JC.loop (ι := Nat) (fun x => x ≤ 8) (fun x => [(0, ptr p 0), (4, ptr b4 0), (164, .agg (v.map u32).toArray), (165, it (x : Int))]) (fun x => [Res.var 5 (sqr.map u32), Res.var 4 (cub.map u32)]) (fun x => [Res.cells p ((mixT s (comp s bs) x).map u32 ++ (bs.map u8 ++ [u64 n])) 270, Res.cells b4 (s.map u32) 256]) (fun x => 8 - x) 0 zq9 (Subs.sub zq0) (Picks.perm (by rw [mixT_0, ← List.append_assoc]; repeat (first | exact Picks.nil _ | apply Picks.cons | exact Pull.here _ _ | apply Pull.there))) ?_ (fun x hx => ?_)
   ·exact Nat.zero_le _
   refine JC.seq (JC.region (JO.v (Yv.bin rfl rfl BinR.lss_i) (by decide) (JO.nil (JQ.then_normal (JC.seq (JC.cond rfl (fun hc4 => ?_) (fun hc4 => ?_)))))))
   ·try simp only [decide_eq_true_eq, decide_eq_false_iff_not, Bool.not_eq_true', Bool.not_eq_false', ne_eq, Decidable.not_not, Bool.not_eq_true, Bool.and_eq_true, Bool.or_eq_true, BitVec.reduceToNat] at hc4
    refine JC.skip (JQ.then_normal (JC.seq (JC.block (JC.seq (JC.region (JO.v (Yv.move rfl) (by decide) ?_))))))
    refine JO.v (Yv.indexAgg Tryz.underlying256 Tryz.underlying169 sz_169 rfl rfl zq6 (gm (d := 0) (by omega))) (by decide) (JO.v (Yv.assign rfl) (by decide) (JO.v (Yv.assign rfl) (by decide) (JO.nil (JQ.then_normal ?_))))
    refine JC.draw (.one 0 (.one 1 (.one 2 (.one 3 (.one 4 (.one 5 (.one 6 (.one 7 (.one 8 (.one 9 (.one 10 (.one 11 (.one 12 (.one 13 (.one 14 .nil))))))))))))))) (fun i => ([14] : List Nat).contains i) (fun i => ([14] : List Nat).contains i) (fun i => ([0, 1, 2, 3, 5, 6, 7, 8, 9, 10, 11, 12, 13] : List Nat).contains i) mixed (by kernel_rfl) (by decide) (by kernel_rfl) ?_
    refine JR.u rfl rfl rfl (Yv.move rfl) (by decide) (JR.u rfl rfl rfl (Yv.move rfl) (by decide) (JR.u rfl rfl rfl (Yv.move rfl) (by decide) (JR.u rfl rfl rfl (Yv.indexArr1 Tryz.underlying256 sz_169 rfl rfl zq6) (by decide) (JR.v rfl rfl rfl (Yv.load1 one_169 rfl (by exact Kn.own zq7 (by first | first | exact hc_b hb (by omega) | exact schT_get bs (by omega) (by omega) | rfl | exact tab_get zq10 | exact gm (d := 0) zq10))) (by decide) (JR.u rfl rfl rfl (Yv.move rfl) (by decide) (JR.u rfl rfl rfl (Yv.bin rfl rfl (BinR.add_u32)) (by decide) ?_))))))
    refine JR.u rfl rfl rfl (Yv.move rfl) (by decide) (JR.u rfl rfl rfl (Yv.indexArr1 Tryz.underlying256 sz_169 rfl rfl zq6) (by decide) (JR.u rfl rfl rfl (Yv.load1 one_169 rfl (by exact Kn.var zq7 (by first | first | exact hc_b hb (by omega) | exact schT_get bs (by omega) (by omega) | rfl | exact tab_get zq10 | exact gm (d := 0) zq10))) (by decide) (JR.u rfl rfl rfl (Yv.as (v' := u32 ((comp s bs).getD x 0 ^^^ sqr.getD x 0)) (Yv.bin rfl rfl (BinR.xor_u32)) (by rw [comp_get s bs (by omega), hv])) (by decide) (JR.u rfl rfl rfl (Yv.nilCheck rfl) (by decide) (JR.u rfl rfl rfl (Yv.fieldAddr fa_270_0 rfl) (by decide) (JR.u rfl rfl rfl (Yv.indexArr1 Tryz.underlying256 sz_169 rfl rfl zq6) (by decide) ?_))))))
    refine JR.m0 rfl rfl (Mv.store1 sz_169 rfl rfl rfl zq11 zq6) ?_
    rintro _ _ _ ⟨rfl, rfl⟩
    refine ⟨⟨Subs.sub zq0, .inl rfl⟩, ?_⟩
    refine JR.nil ?_
    refine JQ.block_normal ?_
    refine JQ.then_normal (JC.region (JO.v (Yv.bin rfl rfl (BinR.add_i zq3)) (by decide) (JO.v (Yv.move rfl) (by decide) (JO.nil ?_))))
    rw [mixT_set _ _ _ _ (by omega)]
    refine JQ.head (x + 1) zq9 (Subs.sub zq0) (Picks.perm zq1) ?_
    exact ⟨by omega, by omega⟩
   ·try simp only [decide_eq_true_eq, decide_eq_false_iff_not, Bool.not_eq_true', Bool.not_eq_false', ne_eq, Decidable.not_not, Bool.not_eq_true, Bool.and_eq_true, Bool.or_eq_true, BitVec.reduceToNat] at hc4
    obtain rfl : x = 8 := by omega
    rw [mixT_8, ← List.append_assoc]
    refine JC.exit ?_
    refine JQ.then_exit ?_
    refine JQ.then_exit ?_
    refine JQ.block_exit ?_
    exact JQ.done (.inl rfl) (Γ' := []) (H' := [Res.cells p ((mix (comp s bs)).map u32 ++ bs.map u8 ++ [u64 n]) 270]) (res_none rfl) (Subs.sub zq0) (Picks.perm zq1) ⟨rfl, rfl, rfl⟩


theorem f172_spec (p : Nat) (xs bs0 : B8) (hok0 : HOK xs bs0) (v : Value) (b : B8) :
  Spec Tryz.prog 172 #[(ptr p 0), v] [Res.var 5 (sqr.map u32), Res.var 4 (cub.map u32), Res.rd v b.length 1 (b.map u8)] [Res.cells p (hst xs bs0) 270]
   (fun r Γ' H' => ∃ bs', r = .tuple #[] ∧ HOK (xs ++ b) bs' ∧ Γ' = [] ∧ H' = [Res.cells p (hst (xs ++ b) bs') 270]) := by
 refine Spec.of_args Tryz.func172 rfl Tryz.ntmps172 (by simp) fun w => ?_
 refine JC.know (φ := b.length ≤ 9223372036854775807) (fun w hs => by obtain ⟨_, _, _, _, _, _, h⟩ := hs.rdForm (.tail _ (.tail _ (.head _))); unfold maxLen at h; omega) fun hbl => ?_
 refine JC.block ?_
 refine JC.loop (ι := (B8 × B8) × B8 × Value) (fun x => b = x.1.1 ++ x.1.2 ∧ HOK (xs ++ x.1.1) x.2.1) (fun x => [(0, ptr p 0), (1, x.2.2)]) (fun x => [Res.var 5 (sqr.map u32), Res.var 4 (cub.map u32), Res.rd x.2.2 x.1.2.length 1 (x.1.2.map u8)]) (fun x => [Res.cells p (hst (xs ++ x.1.1) x.2.1) 270]) (fun x => x.1.2.length) (([], b), bs0, v) zq9 (Subs.sub zq0) (Picks.perm (by rw [List.append_nil]; repeat (first | exact Picks.nil _ | apply Picks.cons | exact Pull.here _ _ | apply Pull.there))) ?_ (fun x hx => ?_)
 ·exact ⟨rfl, by dsimp only; rw [List.append_nil]; exact hok0⟩
 obtain ⟨⟨c0, r⟩, bs, v1⟩ := x
 obtain ⟨hbc, hok⟩ := hx
 dsimp only at hbc hok ⊢
 have hb := hok.1
 have hlen : (hst (xs ++ c0) bs).length = 73 := hcells_len hb
 have hrl : b.length = c0.length + r.length := by rw [hbc, List.length_append]
 refine JC.seq (JC.seq (JC.region (JO.v (Yv.move rfl) (by decide) (JO.v (Yv.lenRd Tryz.underlying79 rfl zq8) (by decide) (JO.v (Yv.bin rfl rfl BinR.gtr_i) (by decide) (JO.nil ?_))))))
 refine JQ.then_normal (JC.cond rfl (fun hc1 => ?_) (fun hc1 => ?_))
 ·try simp only [decide_eq_true_eq, decide_eq_false_iff_not, Bool.not_eq_true', Bool.not_eq_false', ne_eq, Decidable.not_not, Bool.not_eq_true, Bool.and_eq_true, Bool.or_eq_true, BitVec.reduceToNat] at hc1
  have ha64 : (xs ++ c0).length % 64 < 64 := Nat.mod_lt _ (by decide)
  have hcm : (r.take (64 - (xs ++ c0).length % 64)).length = min (64 - (xs ++ c0).length % 64) r.length := List.length_take
  have hcl : (xs ++ c0).length % 64 + (r.take (64 - (xs ++ c0).length % 64)).length ≤ 64 := by omega
  have hcr : (r.take (64 - (xs ++ c0).length % 64)) ++ r.drop (r.take (64 - (xs ++ c0).length % 64)).length = r := take_rest _ _
  refine JC.skip (JQ.then_normal (JC.block (JC.seq (JC.region (JO.v (Yv.move rfl) (by decide) (JO.v (Yv.nilCheck rfl) (by decide) ?_))))))
  refine JO.v (Yv.fieldAddr fa_270_2 rfl) (by decide) (JO.v (Yv.load1 one_22 rfl (by exact Kn.own zq7 (by first | first | exact hc_n hb | exact hc_n (putB_len hb hcl) | rfl | exact tab_get zq10 | exact gm (d := 0) zq10))) (by decide) (JO.v (Yv.bin rfl rfl (BinR.rem_u64 (b := 64#64) (by decide))) (by decide) (JO.v (Yv.as (v' := it (((xs ++ c0).length % 64 : Nat) : Int)) (Yv.conv_u64_i Tryz.underlying22 Tryz.underlying3 rfl zq17) (congrArg (fun n : Nat => it (n : Int)) (mod64 _))) (by decide) (JO.v (Yv.assign rfl) (by decide) (JO.nil (JQ.then_normal ?_))))))
  refine JC.seq (JC.region (JO.v (Yv.move rfl) (by decide) (JO.v (Yv.nilCheck rfl) (by decide) (JO.v (Yv.fieldAddr fa_270_1 rfl) (by decide) (JO.v (Yv.move rfl) (by decide) (JO.v (Yv.as (v' := .slice (some ⟨p, 8 + (xs ++ c0).length % 64, none⟩) (64 - (xs ++ c0).length % 64) (64 - (xs ++ c0).length % 64)) (Yv.cutArr (l := (xs ++ c0).length % 64) (h := 64) Tryz.underlying268 sz_5 rfl ⟨_, rfl⟩ rfl zq6 zq6 zq6) (by simp)) (by decide) ?_))))))
  refine JO.v (Yv.move rfl) (by decide) ?_
  refine JO.copy Tryz.underlying79 sz_5 rfl rfl (by exact Src.rd zq8 (by decide)) (by (simp; done)) zq11 (by first | (simp; done) | omega | (simp; omega)) (by decide) ?_
  rw [← List.map_take, show hst (xs ++ c0) bs = hcells (hashN (xs ++ c0) ((xs ++ c0).length / 64)) bs (BitVec.ofNat 64 (xs ++ c0).length) from rfl, hc_splice hb hcl]
  refine JO.v (Yv.as (v' := it (((r.take (64 - (xs ++ c0).length % 64)).length : Nat) : Int)) (Yv.assign rfl) (congrArg it (by rw [hcm]; omega))) (by decide) (JO.nil (JQ.then_normal (JC.seq (JC.region (JO.v (Yv.move rfl) (by decide) (JO.v (Yv.move rfl) (by decide) ?_))))))
  refine JO.cut ((r.take (64 - (xs ++ c0).length % 64)).length) (r.length) Tryz.underlying79 sz_5 rfl zq7 ⟨_, rfl⟩ rfl (by first | (simp; done) | omega | (simp; omega)) (by first | (simp; done) | omega | (simp; omega)) (by decide) fun v24 => ?_
  rw [rd_drop]
  refine JO.v (Yv.assign rfl) (by decide) (JO.nil (JQ.then_normal (JC.seq (JC.region (JO.v (Yv.move rfl) (by decide) (JO.v (Yv.nilCheck rfl) (by decide) ?_))))))
  refine JO.v (Yv.fieldAddr fa_270_2 rfl) (by decide) (JO.v (Yv.load1 one_22 rfl (by exact Kn.own zq7 (by first | first | exact hc_n hb | exact hc_n (putB_len hb hcl) | rfl | exact tab_get zq10 | exact gm (d := 0) zq10))) (by decide) (JO.v (Yv.move rfl) (by decide) (JO.v (Yv.as (v' := u64 (BitVec.ofNat 64 (r.take (64 - (xs ++ c0).length % 64)).length)) (Yv.conv_i_u64 Tryz.underlying3 Tryz.underlying22 rfl) (congrArg u64 (by simp))) (by decide) (JO.v (Yv.as (v' := u64 (BitVec.ofNat 64 ((xs ++ c0).length + (r.take (64 - (xs ++ c0).length % 64)).length))) (Yv.bin rfl rfl (BinR.add_u64)) (congrArg u64 (by apply BitVec.eq_of_toNat_eq; simp))) (by decide) (JO.v (Yv.nilCheck rfl) (by decide) (JO.v (Yv.fieldAddr fa_270_2 rfl) (by decide) ?_))))))
  refine JO.store1 sz_22 rfl rfl rfl zq11 (by rw [hcells_len (putB_len hb hcl)]; omega) ?_
  rw [show (0 + 72 : Nat) = 72 from rfl, hc_setn (putB_len hb hcl)]
  refine JO.nil (JQ.then_normal (JC.seq (JC.region (JO.v (Yv.move rfl) (by decide) (JO.v (Yv.move rfl) (by decide) (JO.v (Yv.bin rfl rfl (BinR.add_i zq3)) (by decide) ?_))))))
  refine JO.v (Yv.bin rfl rfl BinR.eql_i) (by decide) (JO.nil (JQ.then_normal (JC.cond rfl (fun hc2 => ?_) (fun hc2 => ?_))))
  ·try simp only [decide_eq_true_eq, decide_eq_false_iff_not, Bool.not_eq_true', Bool.not_eq_false', ne_eq, Decidable.not_not, Bool.not_eq_true, Bool.and_eq_true, Bool.or_eq_true, BitVec.reduceToNat] at hc2
   obtain ⟨hok2, hfin⟩ := write_hi (c := (r.take (64 - (xs ++ c0).length % 64))) hok hcl (by omega)
   refine JC.region (JO.v (Yv.move rfl) (by decide) ?_)
   refine JO.callB (f196_spec p (hashN (xs ++ c0) ((xs ++ c0).length / 64)) (putB bs ((xs ++ c0).length % 64) (r.take (64 - (xs ++ c0).length % 64))) (BitVec.ofNat 64 ((xs ++ c0).length + (r.take (64 - (xs ++ c0).length % 64)).length)) (hashN_len _ _) (putB_len hb hcl)) body_196 rfl zq1 zq4 zq14 (by decide) ?_
   rintro _ _ ⟨_, ⟨rfl, _, rfl⟩, hH⟩
   simp only [List.cons_append, List.nil_append] at hH; subst hH
   refine JO.nil ?_
   refine JQ.block_normal ?_
   rw [hfin, List.append_assoc]
   refine JQ.head ((c0 ++ (r.take (64 - (xs ++ c0).length % 64)), r.drop (r.take (64 - (xs ++ c0).length % 64)).length), (putB bs ((xs ++ c0).length % 64) (r.take (64 - (xs ++ c0).length % 64))), _) zq9 (Subs.sub zq0) (Picks.perm zq1) ?_
   exact ⟨⟨by dsimp only; rw [hbc, List.append_assoc, hcr], by dsimp only; rw [← List.append_assoc]; exact hok2⟩, by dsimp only; rw [List.length_drop]; omega⟩
  ·try simp only [decide_eq_true_eq, decide_eq_false_iff_not, Bool.not_eq_true', Bool.not_eq_false', ne_eq, Decidable.not_not, Bool.not_eq_true, Bool.and_eq_true, Bool.or_eq_true, BitVec.reduceToNat] at hc2
   obtain ⟨hok2, hfin⟩ := write_lo (c := (r.take (64 - (xs ++ c0).length % 64))) hok hcl (by omega)
   refine JC.skip ?_
   refine JQ.block_normal ?_
   rw [hfin, List.append_assoc]
   refine JQ.head ((c0 ++ (r.take (64 - (xs ++ c0).length % 64)), r.drop (r.take (64 - (xs ++ c0).length % 64)).length), (putB bs ((xs ++ c0).length % 64) (r.take (64 - (xs ++ c0).length % 64))), _) zq9 (Subs.sub zq0) (Picks.perm zq1) ?_
   exact ⟨⟨by dsimp only; rw [hbc, List.append_assoc, hcr], by dsimp only; rw [← List.append_assoc]; exact hok2⟩, by dsimp only; rw [List.length_drop]; omega⟩
 ·try simp only [decide_eq_true_eq, decide_eq_false_iff_not, Bool.not_eq_true', Bool.not_eq_false', ne_eq, Decidable.not_not, Bool.not_eq_true, Bool.and_eq_true, Bool.or_eq_true, BitVec.reduceToNat] at hc1
  obtain rfl : r = [] := List.length_eq_zero_iff.1 (by omega)
  rw [List.append_nil] at hbc
  subst hbc
  refine JC.exit ?_
  refine JQ.then_exit ?_
  refine JQ.then_exit ?_
  refine JQ.block_exit ?_
  exact JQ.done (.inl rfl) (Γ' := []) (H' := [Res.cells p (hst _ _) 270]) (res_none rfl) (Subs.sub zq0) (Picks.perm zq1) ⟨_, rfl, hok, rfl, rfl⟩


theorem f171_spec  :
  Spec Tryz.prog 171 #[] [] []
   (fun r Γ' H' => ∃ q, r = ptr q 0 ∧ Γ' = [] ∧ H' = [Res.cells q (hcells sqr (List.replicate 64 0) 0) 270]) := by
 refine Spec.of_args Tryz.func171 rfl Tryz.ntmps171 (by simp) fun w => ?_
 refine JC.seq (JC.region (JO.v (Yv.assign rfl) (by decide) (JO.nil (JQ.then_normal (JC.seq (JC.region ?_))))))
 refine JO.v (Yv.build bld_270 rfl rfl) (by decide) ?_
 refine JO.box rfl _ rfl (by decide) fun b2 => ?_
 refine JO.v (Yv.assign rfl) (by decide) (JO.nil (JQ.then_normal ?_))
 refine JC.ret ?_
 exact JQ.done (.inr rfl) (Γ' := []) (H' := [Res.cells _ (hcells sqr (List.replicate 64 0) 0) 270]) (res1 rfl (RV.tmp rfl)) (Subs.sub zq0) (Picks.perm zq1) ⟨_, rfl, rfl, rfl⟩


theorem f174_spec (p : Nat) (xs bs : B8) (hok : HOK xs bs) :
  Spec Tryz.prog 174 #[(ptr p 0)] [Res.var 5 (sqr.map u32), Res.var 4 (cub.map u32)] [Res.cells p (hst xs bs) 270]
   (fun r Γ' H' => r = .agg ((sha xs).map u8).toArray ∧ Γ' = [] ∧ H' = [Res.cells p (hst xs bs) 270]) := by
 refine Spec.of_args Tryz.func174 rfl Tryz.ntmps174 (by simp) fun w => ?_
 have hzl := zeros_lt xs.length
 have hpl := padded_len xs
 have hpm := padded_mod xs
 refine JC.seq (JC.region ?_)
 refine JO.alloc _ zero_35 rfl (by decide) fun b2 => ?_
 refine JO.nil (JQ.then_normal (JC.seq (JC.region (JO.v (Yv.move rfl) (by decide) ?_))))
 refine JO.callB (f197_spec p (hashN xs (xs.length / 64)) bs (BitVec.ofNat 64 xs.length) (hashN_len _ _) hok.1) body_197 rfl zq1 zq4 (by rintro _ _ _ ⟨_, _, h, _⟩; exact h) (by decide) ?_
 rintro _ _ ⟨_, ⟨q, rfl, _, rfl⟩, hH⟩
 simp only [List.cons_append, List.nil_append] at hH; subst hH
 refine JO.v (Yv.assign rfl) (by decide) (JO.nil (JQ.then_normal (JC.seq (JC.region (JO.v (Yv.move rfl) (by decide) (JO.v (Yv.nilCheck rfl) (by decide) ?_))))))
 refine JO.v (Yv.fieldAddr fa_270_2 rfl) (by decide) (JO.v (Yv.load1 one_22 rfl (by exact Kn.own zq7 (by first | first | exact hc_n hok.1 | exact hc_n hok'.1 | rfl | exact tab_get zq10 | exact gm (d := 0) zq10))) (by decide) (JO.v (Yv.bin rfl rfl (BinR.mul_u64 (b := 8#64))) (by decide) (JO.v (Yv.assign rfl) (by decide) (JO.nil (JQ.then_normal (JC.seq ?_))))))
 refine JC.region (JO.v (Yv.move rfl) (by decide) ?_)
 refine JO.lit1 Tryz.underlying79 info_5 rfl rfl (by simp) (by decide) (by decide) (by decide) fun v19 => ?_
 refine JO.callB (f172_spec q xs bs hok v19 [128#8]) body_172 rfl zq1 zq4 (by rintro _ _ _ ⟨_, _, _, h, _⟩; exact h) (by decide) ?_
 rintro _ _ ⟨_, ⟨bs1, rfl, hok1, _, rfl⟩, hH⟩
 simp only [List.cons_append, List.nil_append] at hH; subst hH
 refine JO.nil (JQ.then_normal (JC.seq (JC.block ?_)))
 refine JC.loop (ι := Nat × B8) (fun x => x.1 ≤ zeros xs.length ∧ HOK (padZ xs x.1) x.2) (fun x => [(2, ptr b2 0), (3, ptr q 0), (4, u64 (BitVec.ofNat 64 xs.length * 8#64))]) (fun x => [Res.var 5 (sqr.map u32), Res.var 4 (cub.map u32)]) (fun x => [Res.cells p (hst xs bs) 270, Res.cells b2 (List.replicate 32 (u8 0)) 35, Res.cells q (hst (padZ xs x.1) x.2) 270]) (fun x => zeros xs.length - x.1) (0, bs1) zq9 (Subs.sub zq0) (Picks.perm (by rw [padZ_0]; repeat (first | exact Picks.nil _ | apply Picks.cons | exact Pull.here _ _ | apply Pull.there))) ?_ (fun x hx => ?_)
 ·exact ⟨Nat.zero_le _, by dsimp only; rw [padZ_0]; exact hok1⟩
 obtain ⟨z, bs'⟩ := x
 obtain ⟨hz, hok'⟩ := hx
 dsimp only at hz hok' ⊢
 have hpz := padZ_len xs z
 refine JC.seq (JC.seq (JC.region (JO.v (Yv.move rfl) (by decide) (JO.v (Yv.nilCheck rfl) (by decide) (JO.v (Yv.fieldAddr fa_270_2 rfl) (by decide) (JO.v (Yv.load1 one_22 rfl (by exact Kn.own zq7 (by first | first | exact hc_n hok.1 | exact hc_n hok'.1 | rfl | exact tab_get zq10 | exact gm (d := 0) zq10))) (by decide) ?_))))))
 refine JO.v (Yv.bin rfl rfl (BinR.rem_u64 (b := 64#64) (by decide))) (by decide) (JO.v (Yv.bin rfl rfl (BinR.neq_u64 (b := 56#64))) (by decide) (JO.nil (JQ.then_normal (JC.cond rfl (fun hc1 => ?_) (fun hc1 => ?_)))))
 ·try simp only [decide_eq_true_eq, decide_eq_false_iff_not, Bool.not_eq_true', Bool.not_eq_false', ne_eq, Decidable.not_not, Bool.not_eq_true, Bool.and_eq_true, Bool.or_eq_true, BitVec.reduceToNat] at hc1
  have hlt : z < zeros xs.length := by rw [pad56] at hc1; unfold zeros at hz ⊢; omega
  refine JC.skip (JQ.then_normal (JC.block (JC.region (JO.v (Yv.move rfl) (by decide) ?_))))
  refine JO.lit1 Tryz.underlying79 info_5 rfl rfl (by simp) (by decide) (by decide) (by decide) fun v28 => ?_
  refine JO.callB (f172_spec q (padZ xs z) bs' hok' v28 [0#8]) body_172 rfl zq1 zq4 (by rintro _ _ _ ⟨_, _, _, h, _⟩; exact h) (by decide) ?_
  rintro _ _ ⟨_, ⟨bs2, rfl, hok2, _, rfl⟩, hH⟩
  simp only [List.cons_append, List.nil_append] at hH; subst hH
  rw [padZ_succ]
  refine JO.nil ?_
  refine JQ.block_normal ?_
  refine JQ.head (z + 1, bs2) zq9 (Subs.sub zq0) (Picks.perm zq1) ?_
  exact ⟨⟨by dsimp only; omega, by dsimp only; rw [← padZ_succ]; exact hok2⟩, by dsimp only; omega⟩
 ·try simp only [decide_eq_true_eq, decide_eq_false_iff_not, Bool.not_eq_true', Bool.not_eq_false', ne_eq, Decidable.not_not, Bool.not_eq_true, Bool.and_eq_true, Bool.or_eq_true, BitVec.reduceToNat] at hc1
  obtain rfl : z = zeros xs.length := by rw [pad56] at hc1; unfold zeros at hz ⊢; omega
  refine JC.exit ?_
  refine JQ.then_exit ?_
  refine JQ.then_exit ?_
  refine JQ.block_exit ?_
  refine JQ.then_normal (JC.seq (JC.region ?_))
  refine JO.alloc _ zero_271 rfl (by decide) fun b5 => ?_
  refine JO.nil (JQ.then_normal (JC.seq (JC.seq (JC.region (JO.v (Yv.move rfl) (by decide) (JO.nil ?_))))))
  refine JQ.then_normal (JC.block ?_)
  refine JC.loop (ι := Nat) (fun x => x ≤ 8) (fun x => [(2, ptr b2 0), (3, ptr q 0), (4, u64 (BitVec.ofNat 64 xs.length * 8#64)), (5, ptr b5 0), (30, it (x : Int))]) (fun x => [Res.var 5 (sqr.map u32), Res.var 4 (cub.map u32)]) (fun x => [Res.cells p (hst xs bs) 270, Res.cells b2 (List.replicate 32 (u8 0)) 35, Res.cells q (hst (padZ xs (zeros xs.length)) bs') 270, Res.cells b5 (sizeT xs.length x) 271]) (fun x => 8 - x) 0 zq9 (Subs.sub zq0) (Picks.perm zq1) ?_ (fun x hx => ?_)
  ·exact Nat.zero_le _
  refine JC.seq (JC.region (JO.v (Yv.bin rfl rfl BinR.lss_i) (by decide) (JO.nil (JQ.then_normal (JC.seq (JC.cond rfl (fun hc2 => ?_) (fun hc2 => ?_)))))))
  ·try simp only [decide_eq_true_eq, decide_eq_false_iff_not, Bool.not_eq_true', Bool.not_eq_false', ne_eq, Decidable.not_not, Bool.not_eq_true, Bool.and_eq_true, Bool.or_eq_true, BitVec.reduceToNat] at hc2
   refine JC.skip (JQ.then_normal (JC.seq (JC.block (JC.seq (JC.region (JO.v (Yv.move rfl) (by decide) ?_))))))
   refine JO.v (Yv.assign rfl) (by decide) (JO.nil (JQ.then_normal (JC.region (JO.v (Yv.move rfl) (by decide) (JO.v (Yv.move rfl) (by decide) (JO.v (Yv.move rfl) (by decide) ?_))))))
   refine JO.v (Yv.bin rfl rfl (BinR.mul_i zq3)) (by decide) (JO.v (Yv.as (v' := it ((56 - 8 * x : Nat) : Int)) (Yv.bin rfl rfl (BinR.sub_i zq3)) (congrArg it (by omega))) (by decide) (JO.v (Yv.as (v' := u64 ((BitVec.ofNat 64 xs.length * 8#64) >>> (56 - 8 * x))) (Yv.bin rfl rfl (BinR.shr_u64_i zq17)) (congrArg (fun n => u64 ((BitVec.ofNat 64 xs.length * 8#64) >>> n)) (by simp))) (by decide) (JO.v (Yv.conv_u64_u8 Tryz.underlying22 Tryz.underlying5 rfl) (by decide) (JO.v (Yv.indexArr1 Tryz.underlying271 sz_5 rfl rfl zq6) (by decide) ?_))))
   refine JO.store1 sz_5 rfl rfl rfl zq11 zq6 ?_
   refine JO.nil ?_
   refine JQ.block_normal ?_
   refine JQ.then_normal (JC.region (JO.v (Yv.bin rfl rfl (BinR.add_i zq3)) (by decide) (JO.v (Yv.move rfl) (by decide) (JO.nil ?_))))
   rw [sizeT_set]
   refine JQ.head (x + 1) zq9 (Subs.sub zq0) (Picks.perm zq1) ?_
   exact ⟨by omega, by omega⟩
  ·try simp only [decide_eq_true_eq, decide_eq_false_iff_not, Bool.not_eq_true', Bool.not_eq_false', ne_eq, Decidable.not_not, Bool.not_eq_true, Bool.and_eq_true, Bool.or_eq_true, BitVec.reduceToNat] at hc2
   obtain rfl : x = 8 := by omega
   rw [sizeT_8]
   refine JC.exit ?_
   refine JQ.then_exit ?_
   refine JQ.then_exit ?_
   refine JQ.block_exit ?_
   refine JQ.then_normal (JC.seq (JC.region (JO.v (Yv.move rfl) (by decide) (JO.v (Yv.as (v' := .slice (some ⟨b5, 0, none⟩) 8 8) (Yv.cutArr (l := 0) (h := 8) Tryz.underlying271 sz_5 rfl rfl rfl zq6 zq6 zq6) rfl) (by decide) ?_))))
   refine JO.frz (r := Res.cells b5 ((size8 xs.length).map u8) 271) zq12 ?_
   refine JO.rdCells (n := 8) (List.Mem.head _) (by simp) (by unfold maxLen; omega) ?_
   refine JO.callB (f172_spec q (padZ xs (zeros xs.length)) bs' hok' (.slice (some ⟨b5, 0, none⟩) 8 8) (size8 xs.length)) body_172 rfl zq1 zq4 (by rintro _ _ _ ⟨_, _, _, h, _⟩; exact h) (by decide) ?_
   rintro _ _ ⟨_, ⟨bs3, rfl, hok3, _, rfl⟩, hH⟩
   simp only [List.cons_append, List.nil_append] at hH; subst hH
   rw [← padded_eq] at hok3 ⊢
   refine JO.nil (JQ.then_normal (JC.seq (JC.region ?_)))
   refine JO.alloc _ zero_35 rfl (by decide) fun b7 => ?_
   refine JO.nil (JQ.then_normal (JC.seq (JC.seq (JC.region (JO.v (Yv.move rfl) (by decide) ?_)))))
   refine JO.callB (f198_spec q (hashN (padded xs) ((padded xs).length / 64)) bs3 (BitVec.ofNat 64 (padded xs).length) (hashN_len _ _) hok3.1) body_198 rfl zq1 zq4 zq14 (by decide) ?_
   rintro _ _ ⟨_, ⟨rfl, _, rfl⟩, hH⟩
   simp only [List.cons_append, List.nil_append] at hH; subst hH
   have hvl := hashN_len (padded xs) ((padded xs).length / 64)
   rw [show sha xs = outB (hashN (padded xs) ((padded xs).length / 64)) from rfl]
   generalize hashN (padded xs) ((padded xs).length / 64) = hv at hvl ⊢
   refine JO.v (Yv.move rfl) (by decide) (JO.nil (JQ.then_normal (JC.block ?_)))
   refine JC.loop (ι := Nat) (fun x => x ≤ 8) (fun x => [(2, ptr b2 0), (7, ptr b7 0), (46, .agg (hv.map u32).toArray), (47, it (x : Int))]) (fun x => [Res.var 5 (sqr.map u32), Res.var 4 (cub.map u32)]) (fun x => [Res.cells p (hst xs bs) 270, Res.cells b2 (List.replicate 32 (u8 0)) 35, Res.cells b7 (outT hv (4 * x)) 35]) (fun x => 8 - x) 0 zq9 (Subs.sub zq0) (Picks.perm zq1) ?_ (fun x hx => ?_)
   ·exact Nat.zero_le _
   revert hx
   generalize x = i
   intro hi
   refine JC.seq (JC.region (JO.v (Yv.bin rfl rfl BinR.lss_i) (by decide) (JO.nil (JQ.then_normal (JC.seq (JC.cond rfl (fun hc3 => ?_) (fun hc3 => ?_)))))))
   ·try simp only [decide_eq_true_eq, decide_eq_false_iff_not, Bool.not_eq_true', Bool.not_eq_false', ne_eq, Decidable.not_not, Bool.not_eq_true, Bool.and_eq_true, Bool.or_eq_true, BitVec.reduceToNat] at hc3
    refine JC.skip (JQ.then_normal (JC.seq (JC.block (JC.seq (JC.region (JO.v (Yv.move rfl) (by decide) ?_))))))
    refine JO.v (Yv.indexAgg Tryz.underlying256 Tryz.underlying169 sz_169 rfl rfl zq6 (gm (d := 0) (by omega))) (by decide) (JO.v (Yv.assign rfl) (by decide) (JO.v (Yv.assign rfl) (by decide) (JO.nil (JQ.then_normal (JC.seq (JC.region ?_))))))
    refine JO.v (Yv.move rfl) (by decide) (JO.nil (JQ.then_normal (JC.block ?_)))
    refine JC.loop (ι := Nat) (fun x => x ≤ 4) (fun x => [(2, ptr b2 0), (7, ptr b7 0), (46, .agg (hv.map u32).toArray), (47, it (i : Int)), (8, it (i : Int)), (9, u32 (hv.getD i 0)), (51, it (x : Int))]) (fun x => [Res.var 5 (sqr.map u32), Res.var 4 (cub.map u32)]) (fun x => [Res.cells p (hst xs bs) 270, Res.cells b2 (List.replicate 32 (u8 0)) 35, Res.cells b7 (outT hv (4 * i + x)) 35]) (fun x => 4 - x) 0 zq9 (Subs.sub zq0) (Picks.perm zq1) ?_ (fun x hx => ?_)
    ·exact Nat.zero_le _
    refine JC.seq (JC.region (JO.v (Yv.bin rfl rfl BinR.lss_i) (by decide) (JO.nil (JQ.then_normal (JC.seq (JC.cond rfl (fun hc4 => ?_) (fun hc4 => ?_)))))))
    ·try simp only [decide_eq_true_eq, decide_eq_false_iff_not, Bool.not_eq_true', Bool.not_eq_false', ne_eq, Decidable.not_not, Bool.not_eq_true, Bool.and_eq_true, Bool.or_eq_true, BitVec.reduceToNat] at hc4
     refine JC.skip (JQ.then_normal (JC.seq (JC.block (JC.seq (JC.region (JO.v (Yv.move rfl) (by decide) ?_))))))
     refine JO.v (Yv.assign rfl) (by decide) (JO.nil (JQ.then_normal (JC.region (JO.v (Yv.move rfl) (by decide) (JO.v (Yv.bin rfl rfl (BinR.mul_i zq3)) (by decide) (JO.v (Yv.move rfl) (by decide) ?_))))))
     refine JO.v (Yv.as (v' := it ((4 * i + x : Nat) : Int)) (Yv.bin rfl rfl (BinR.add_i zq3)) (congrArg it (by omega))) (by decide) (JO.v (Yv.move rfl) (by decide) (JO.v (Yv.move rfl) (by decide) (JO.v (Yv.bin rfl rfl (BinR.mul_i zq3)) (by decide) (JO.v (Yv.as (v' := it ((24 - 8 * x : Nat) : Int)) (Yv.bin rfl rfl (BinR.sub_i zq3)) (congrArg it (by omega))) (by decide) (JO.v (Yv.as (v' := u32 (hv.getD i 0 >>> (24 - 8 * x))) (Yv.bin rfl rfl (BinR.shr_u32_i zq17)) (congrArg (fun n => u32 (hv.getD i 0 >>> n)) (by simp))) (by decide) (JO.v (Yv.as (v' := u8 (ob hv (4 * i + x))) (Yv.conv_u32_u8 Tryz.underlying169 Tryz.underlying5 rfl) (congrArg u8 (ob_at hv (by omega)))) (by decide) ?_))))))
     refine JO.v (Yv.indexArr1 Tryz.underlying35 sz_5 rfl rfl zq6) (by decide) ?_
     refine JO.store1 sz_5 rfl rfl rfl zq11 zq6 ?_
     refine JO.nil ?_
     refine JQ.block_normal ?_
     refine JQ.then_normal (JC.region (JO.v (Yv.bin rfl rfl (BinR.add_i zq3)) (by decide) (JO.v (Yv.move rfl) (by decide) (JO.nil ?_))))
     rw [outT_set]
     refine JQ.head (x + 1) zq9 (Subs.sub zq0) (Picks.perm zq1) ?_
     exact ⟨by omega, by omega⟩
    ·try simp only [decide_eq_true_eq, decide_eq_false_iff_not, Bool.not_eq_true', Bool.not_eq_false', ne_eq, Decidable.not_not, Bool.not_eq_true, Bool.and_eq_true, Bool.or_eq_true, BitVec.reduceToNat] at hc4
     obtain rfl : x = 4 := by omega
     rw [show 4 * i + 4 = 4 * (i + 1) by omega]
     refine JC.exit ?_
     refine JQ.then_exit ?_
     refine JQ.then_exit ?_
     refine JQ.block_exit ?_
     refine JQ.block_normal ?_
     refine JQ.then_normal (JC.region (JO.v (Yv.bin rfl rfl (BinR.add_i zq3)) (by decide) (JO.v (Yv.move rfl) (by decide) (JO.nil ?_))))
     refine JQ.head (i + 1) zq9 (Subs.sub zq0) (Picks.perm zq1) ?_
     exact ⟨by omega, by omega⟩
   ·try simp only [decide_eq_true_eq, decide_eq_false_iff_not, Bool.not_eq_true', Bool.not_eq_false', ne_eq, Decidable.not_not, Bool.not_eq_true, Bool.and_eq_true, Bool.or_eq_true, BitVec.reduceToNat] at hc3
    obtain rfl : i = 8 := by omega
    rw [show 4 * 8 = 32 from rfl, outT_32]
    refine JC.exit ?_
    refine JQ.then_exit ?_
    refine JQ.then_exit ?_
    refine JQ.block_exit ?_
    refine JQ.then_normal (JC.seq (JC.region (JO.v (Yv.as (v' := .agg ((outB hv).map u8).toArray) (Yv.loadOwn agg_35 zq7 rfl zq18) (congrArg (fun l : List Value => Value.agg l.toArray) (by simp))) (by decide) ?_)))
    refine JO.storeAll sz_35 rfl rfl rfl zq13 (by first | (simp; done) | exact one_map (fun _ => rfl) | exact one_tab (fun _ => rfl) | exact one_tab (fun _ => by split <;> rfl)) zq11 zq13 ?_
    refine JO.nil (JQ.then_normal ?_)
    refine JC.ret ?_
    exact JQ.done (.inr rfl) (Γ' := []) (H' := [Res.cells p (hst xs bs) 270]) (res1 rfl (RV.cell agg_35 zq7 rfl (by simp))) (Subs.sub zq0) (Picks.perm zq1) ⟨rfl, rfl, rfl⟩
def n8 (n : Nat) : B8 := digs (BitVec.ofNat 64 n) 8
@[simp] theorem digs_len (n : BitVec 64) (k : Nat) : (digs n k).length = k := by simp [digs]
@[simp] theorem n8_len (n : Nat) : (n8 n).length = 8 := digs_len _ _
def itB (b : B8) : B8 := n8 b.length ++ b
def inB (tg : B8) (l : List B8) : B8 := n8 tg.length ++ tg ++ l.flatMap itB
theorem in_snoc {tg : B8} {L : Pcs} {k : Nat} (h : k < L.length) : n8 tg.length ++ tg ++ ((bytesP L).take k).flatMap itB ++ n8 (pcAt L k).2.length ++ (pcAt L k).2 = n8 tg.length ++ tg ++ ((bytesP L).take (k + 1)).flatMap itB := by
 rw [bytesP_get h, List.flatMap_append]
 simp [itB, List.append_assoc]
theorem rd_num {v : Value} {n : BitVec 64} : Res.rd v (32 - 24) 1 (((((natBytes [n, 0, 0, 0]).map u8).drop (24 * 1))).take ((32 - 24) * 1)) = Res.rd v (digs n 8).length 1 ((digs n 8).map u8) := by
 have h := natBytes_drop n 8 (by decide)
 rw [digs_len, ← h, List.map_drop]
 rw [List.take_of_length_le (by simp)]
set_option maxRecDepth 100000
theorem zq21 {p : Prop} (h : p := by first  | rfl | exact tab_get zq10 | exact gm (d := 0) zq10) : p := h

theorem f125_spec (ws : W4) (h4 : ws.length = 4) :
  Spec Tryz.prog 125 #[natV ws] [] []
   (fun v Γ' H' => True ∧ Γ' = [] ∧ H' = [Res.row v (natBytes ws).length 5 1 ((natBytes ws).map u8)]) := by
 refine Spec.of_args Tryz.func125 rfl Tryz.ntmps125 (by simp) fun w => ?_
 refine JC.seq (JC.region ?_)
 refine JO.box rfl _ rfl (by decide) fun b1 => ?_
 refine JO.v (Yv.assign rfl) (by decide) (JO.nil (JQ.then_normal (JC.seq (JC.region ?_))))
 refine JO.make (z := _) (bytes := _) 32 Tryz.underlying79 info_5 rfl rfl rfl (by first | decide | (simp; done) | (simp; omega) | omega | (simp [*]; omega)) (by unfold maxLen; omega) (by decide) fun v6 => ?_
 refine JO.v (Yv.assign rfl) (by decide) (JO.nil (JQ.then_normal (JC.seq (JC.seq (JC.region (JO.v (Yv.move rfl) (by decide) ?_))))))
 refine JO.v (Yv.lenRd Tryz.underlying79 rfl zq8) (by decide) (JO.v (Yv.move rfl) (by decide) (JO.nil (JQ.then_normal (JC.block ?_))))
 refine JC.loop (ι := Nat × List Value) (fun x => x.1 ≤ 32 ∧ x.2 = tab 32 (fun j => if 32 - x.1 ≤ j then u8 (byteOf ws (31 - j)) else u8 0)) (fun x => [(3, v6), (9, it (x.1 : Int)), (8, it 32), (1, ptr b1 0)]) (fun x => []) (fun x => [Res.row v6 32 5 1 x.2, Res.cells b1 (ws.map u64) 40]) (fun x => 32 - x.1) (0, _) zq9 (Subs.sub zq0) (Picks.perm zq1) ?_ (fun x hx => ?_)
 ·exact ⟨by decide, by rfl⟩
 obtain ⟨k, xs⟩ := x
 obtain ⟨hk, hxs⟩ := hx
 dsimp only at hk hxs ⊢
 refine JC.seq (JC.region (JO.v (Yv.bin rfl rfl BinR.lss_i) (by decide) (JO.nil (JQ.then_normal (JC.seq (JC.cond rfl (fun hc1 => ?_) (fun hc1 => ?_)))))))
 ·try simp only [decide_eq_true_eq, decide_eq_false_iff_not, Bool.not_eq_true', Bool.not_eq_false', ne_eq, Decidable.not_not, Bool.not_eq_true, Bool.and_eq_true, Bool.or_eq_true, BitVec.reduceToNat] at hc1
  refine JC.skip (JQ.then_normal (JC.seq (JC.block (JC.seq (JC.region (JO.v (Yv.move rfl) (by decide) ?_))))))
  refine JO.v (Yv.assign rfl) (by decide) (JO.nil (JQ.then_normal (JC.seq (JC.region (JO.v (Yv.move rfl) (by decide) (JO.v (Yv.lenRd Tryz.underlying79 rfl zq8) (by decide) ?_))))))
  refine JO.v (Yv.bin rfl rfl (BinR.sub_i zq3)) (by decide) (JO.v (Yv.move rfl) (by decide) (JO.v (Yv.bin rfl rfl (BinR.sub_i zq3)) (by decide) (JO.v (Yv.as (v' := it ((31 - k : Nat) : Int)) (Yv.assign rfl) (congrArg it (by omega))) (by decide) (JO.nil (JQ.then_normal (JC.region ?_))))))
  refine JO.v (Yv.move rfl) (by decide) (JO.v (Yv.move rfl) (by decide) (JO.v (Yv.move rfl) (by decide) (JO.v (Yv.as (v' := it ((k / 8 : Nat) : Int)) (Yv.bin rfl rfl (BinR.quo_i zq17 zq17 zq3)) (congrArg it (by omega))) (by decide) (JO.v (Yv.indexArr1 Tryz.underlying40 sz_22 rfl rfl zq6) (by decide) (JO.v (Yv.load1 one_22 rfl (by exact Kn.own zq7 zq21)) (by decide) (JO.v (Yv.move rfl) (by decide) ?_))))))
  refine JO.v (Yv.bin rfl rfl (BinR.rem_i zq17 zq17)) (by decide) (JO.v (Yv.as (v' := it ((8 * (k % 8) : Nat) : Int)) (Yv.bin rfl rfl (BinR.mul_i zq3)) (congrArg it (by omega))) (by decide) (JO.v (Yv.bin rfl rfl (BinR.shr_u64_i zq17)) (by decide) (JO.v (Yv.conv_u64_u8 Tryz.underlying22 Tryz.underlying5 rfl) (by decide) (JO.v (Yv.indexRow1 Tryz.underlying79 sz_5 rfl rfl zq7 zq6) (by decide) ?_))))
  refine JO.storeRow1 sz_5 rfl rfl rfl zq11 zq6 (by rw [hxs, tab_len]) ?_
  refine JO.nil ?_
  refine JQ.block_normal ?_
  refine JQ.then_normal (JC.region (JO.v (Yv.bin rfl rfl (BinR.add_i zq3)) (by decide) (JO.v (Yv.move rfl) (by decide) (JO.nil ?_))))
  refine JQ.head (k + 1, _) zq9 (Subs.sub zq0) (Picks.perm zq1) ?_
  refine ⟨⟨by dsimp only; omega, ?_⟩, by dsimp only; omega⟩
  dsimp only
  rw [hxs, tab_set]
  refine tab_congr fun j hj => ?_
  by_cases h1 : j = 31 - k
  ·subst h1; rw [if_pos rfl, if_pos (by omega), show 31 - (31 - k) = k by omega]; rfl
  ·rw [if_neg h1]
   by_cases h2 : 32 - k ≤ j
   ·rw [if_pos h2, if_pos (by omega)]
   ·rw [if_neg h2, if_neg (by omega)]
 ·try simp only [decide_eq_true_eq, decide_eq_false_iff_not, Bool.not_eq_true', Bool.not_eq_false', ne_eq, Decidable.not_not, Bool.not_eq_true, Bool.and_eq_true, Bool.or_eq_true, BitVec.reduceToNat] at hc1
  refine JC.exit ?_
  refine JQ.then_exit ?_
  refine JQ.then_exit ?_
  refine JQ.block_exit ?_
  refine JQ.then_normal (JC.seq (JC.region (JO.v (Yv.move rfl) (by decide) (JO.v (Yv.assign rfl) (by decide) (JO.nil (JQ.then_normal ?_))))))
  refine JC.ret ?_
  refine JQ.done (.inr rfl) (Γ' := []) (H' := [Res.row v6 32 5 1 xs]) (res1 rfl (RV.tmp rfl)) (Subs.sub zq0) (Picks.perm zq1) ⟨trivial, rfl, ?_⟩
  rw [hxs, natBytes_length, natBytes_map]
  rw [show tab 32 (fun j => if 32 - k ≤ j then u8 (byteOf ws (31 - j)) else u8 0) = tab 32 (fun j => u8 (byteOf ws (31 - j))) from tab_congr fun j hj => if_pos (by omega)]


theorem f147_spec (x : BitVec 64) :
  Spec Tryz.prog 147 #[u64 x] [] []
   (fun r Γ' H' => r = it (len64 x : Int) ∧ Γ' = [] ∧ H' = []) := by
 refine Spec.of_args Tryz.func147 rfl Tryz.ntmps147 (by simp) fun w => ?_
 refine JC.seq (JC.region (JO.v (Yv.assign rfl) (by decide) (JO.nil (JQ.then_normal (JC.seq (JC.seq ?_))))))
 refine JC.region (JO.v (Yv.move rfl) (by decide) (JO.v (Yv.bin rfl rfl (BinR.geq_u64 (b := 4294967296#64))) (by decide) (JO.nil (JQ.then_normal (JC.cond rfl (fun hc1 => ?_) (fun hc1 => ?_))))))
 ·try simp only [decide_eq_true_eq, decide_eq_false_iff_not, Bool.not_eq_true', Bool.not_eq_false', ne_eq, Decidable.not_not, Bool.not_eq_true, Bool.and_eq_true, Bool.or_eq_true, BitVec.reduceToNat] at hc1
  have e1 := len64_s32 hc1
  refine JC.seq (JC.region (JO.v (Yv.move rfl) (by decide) (JO.v (Yv.as (v' := u64 (x >>> 32)) (Yv.bin rfl rfl (BinR.shr_u64_u64 (n := 32#64))) rfl) (by decide) (JO.v (Yv.assign rfl) (by decide) (JO.nil (JQ.then_normal ?_))))))
  refine JC.region (JO.v (Yv.assign rfl) (by decide) (JO.nil (JQ.then_normal (JC.seq (JC.seq (JC.region ?_))))))
  refine JO.v (Yv.move rfl) (by decide) (JO.v (Yv.bin rfl rfl (BinR.geq_u64 (b := 65536#64))) (by decide) (JO.nil (JQ.then_normal (JC.cond rfl (fun hc2 => ?_) (fun hc2 => ?_)))))
  ·try simp only [decide_eq_true_eq, decide_eq_false_iff_not, Bool.not_eq_true', Bool.not_eq_false', ne_eq, Decidable.not_not, Bool.not_eq_true, Bool.and_eq_true, Bool.or_eq_true, BitVec.reduceToNat] at hc2
   have e2 := len64_s16 hc2
   refine JC.seq (JC.region (JO.v (Yv.move rfl) (by decide) (JO.v (Yv.as (v' := u64 ((_ : BitVec 64) >>> (16 : Nat))) (Yv.bin rfl rfl (BinR.shr_u64_u64 (n := 16#64))) rfl) (by decide) (JO.v (Yv.assign rfl) (by decide) (JO.nil (JQ.then_normal ?_))))))
   refine JC.region (JO.v (Yv.move rfl) (by decide) (JO.v (Yv.bin rfl rfl (BinR.add_i zq3)) (by decide) (JO.v (Yv.assign rfl) (by decide) (JO.nil (JQ.then_normal (JC.seq ?_))))))
   refine JC.seq (JC.region (JO.v (Yv.move rfl) (by decide) (JO.v (Yv.bin rfl rfl (BinR.geq_u64 (b := 256#64))) (by decide) (JO.nil (JQ.then_normal (JC.cond rfl (fun hc3 => ?_) (fun hc3 => ?_)))))))
   ·try simp only [decide_eq_true_eq, decide_eq_false_iff_not, Bool.not_eq_true', Bool.not_eq_false', ne_eq, Decidable.not_not, Bool.not_eq_true, Bool.and_eq_true, Bool.or_eq_true, BitVec.reduceToNat] at hc3
    have e3 := len64_s8 hc3
    refine JC.seq (JC.region (JO.v (Yv.move rfl) (by decide) (JO.v (Yv.as (v' := u64 ((_ : BitVec 64) >>> (8 : Nat))) (Yv.bin rfl rfl (BinR.shr_u64_u64 (n := 8#64))) rfl) (by decide) (JO.v (Yv.assign rfl) (by decide) (JO.nil (JQ.then_normal ?_))))))
    refine JC.region (JO.v (Yv.move rfl) (by decide) (JO.v (Yv.bin rfl rfl (BinR.add_i zq3)) (by decide) (JO.v (Yv.assign rfl) (by decide) (JO.nil (JQ.then_normal (JC.seq ?_))))))
    refine JC.region (JO.v (Yv.move rfl) (by decide) (JO.v (Yv.move rfl) (by decide) (JO.v (Yv.conv_u64_u8 Tryz.underlying22 Tryz.underlying5 rfl) (by decide) (JO.v (Yv.as (v' := u8 (BitVec.ofNat 8 (bitlen _))) (Yv.indexStr Tryz.underlying9 rfl rfl (by exact (BitVec.isLt _))) (congrArg u8 (lenTab_get _ _))) (by decide) (JO.v (Yv.conv_u8_i Tryz.underlying5 Tryz.underlying3 rfl) (by decide) (JO.v (Yv.bin rfl rfl (BinR.add_i (fits8 _ (by omega)))) (by decide) ?_))))))
    refine JO.v (Yv.assign rfl) (by decide) (JO.nil (JQ.then_normal ?_))
    refine JC.ret ?_
    have hx := x.isLt
    have s32 := shr32 (x)
    have s16 := shr16 (x >>> 32)
    have s8 := shr8 (x >>> 32 >>> 16)
    have e4 := len8v (x >>> 32 >>> 16 >>> 8) (by omega)
    have e5 := len64_le x
    exact JQ.done (.inr rfl) (Γ' := []) (H' := []) (res1 rfl (RV.tmp rfl)) (Subs.sub zq0) (Picks.perm zq1) ⟨congrArg it (by omega), rfl, rfl⟩
   ·try simp only [decide_eq_true_eq, decide_eq_false_iff_not, Bool.not_eq_true', Bool.not_eq_false', ne_eq, Decidable.not_not, Bool.not_eq_true, Bool.and_eq_true, Bool.or_eq_true, BitVec.reduceToNat] at hc3
    refine JC.skip (JQ.then_normal (JC.seq (JC.region (JO.v (Yv.move rfl) (by decide) (JO.v (Yv.move rfl) (by decide) (JO.v (Yv.conv_u64_u8 Tryz.underlying22 Tryz.underlying5 rfl) (by decide) ?_))))))
    refine JO.v (Yv.as (v' := u8 (BitVec.ofNat 8 (bitlen _))) (Yv.indexStr Tryz.underlying9 rfl rfl (by exact (BitVec.isLt _))) (congrArg u8 (lenTab_get _ _))) (by decide) (JO.v (Yv.conv_u8_i Tryz.underlying5 Tryz.underlying3 rfl) (by decide) (JO.v (Yv.bin rfl rfl (BinR.add_i (fits8 _ (by omega)))) (by decide) (JO.v (Yv.assign rfl) (by decide) (JO.nil (JQ.then_normal ?_)))))
    refine JC.ret ?_
    have hx := x.isLt
    have s32 := shr32 (x)
    have s16 := shr16 (x >>> 32)
    have e4 := len8v (x >>> 32 >>> 16) (by omega)
    have e5 := len64_le x
    exact JQ.done (.inr rfl) (Γ' := []) (H' := []) (res1 rfl (RV.tmp rfl)) (Subs.sub zq0) (Picks.perm zq1) ⟨congrArg it (by omega), rfl, rfl⟩
  ·try simp only [decide_eq_true_eq, decide_eq_false_iff_not, Bool.not_eq_true', Bool.not_eq_false', ne_eq, Decidable.not_not, Bool.not_eq_true, Bool.and_eq_true, Bool.or_eq_true, BitVec.reduceToNat] at hc2
   refine JC.skip (JQ.then_normal (JC.seq (JC.seq (JC.region (JO.v (Yv.move rfl) (by decide) (JO.v (Yv.bin rfl rfl (BinR.geq_u64 (b := 256#64))) (by decide) ?_))))))
   refine JO.nil (JQ.then_normal (JC.cond rfl (fun hc3 => ?_) (fun hc3 => ?_)))
   ·try simp only [decide_eq_true_eq, decide_eq_false_iff_not, Bool.not_eq_true', Bool.not_eq_false', ne_eq, Decidable.not_not, Bool.not_eq_true, Bool.and_eq_true, Bool.or_eq_true, BitVec.reduceToNat] at hc3
    have e3 := len64_s8 hc3
    refine JC.seq (JC.region (JO.v (Yv.move rfl) (by decide) (JO.v (Yv.as (v' := u64 ((_ : BitVec 64) >>> (8 : Nat))) (Yv.bin rfl rfl (BinR.shr_u64_u64 (n := 8#64))) rfl) (by decide) (JO.v (Yv.assign rfl) (by decide) (JO.nil (JQ.then_normal ?_))))))
    refine JC.region (JO.v (Yv.move rfl) (by decide) (JO.v (Yv.bin rfl rfl (BinR.add_i zq3)) (by decide) (JO.v (Yv.assign rfl) (by decide) (JO.nil (JQ.then_normal (JC.seq ?_))))))
    refine JC.region (JO.v (Yv.move rfl) (by decide) (JO.v (Yv.move rfl) (by decide) (JO.v (Yv.conv_u64_u8 Tryz.underlying22 Tryz.underlying5 rfl) (by decide) (JO.v (Yv.as (v' := u8 (BitVec.ofNat 8 (bitlen _))) (Yv.indexStr Tryz.underlying9 rfl rfl (by exact (BitVec.isLt _))) (congrArg u8 (lenTab_get _ _))) (by decide) (JO.v (Yv.conv_u8_i Tryz.underlying5 Tryz.underlying3 rfl) (by decide) (JO.v (Yv.bin rfl rfl (BinR.add_i (fits8 _ (by omega)))) (by decide) ?_))))))
    refine JO.v (Yv.assign rfl) (by decide) (JO.nil (JQ.then_normal ?_))
    refine JC.ret ?_
    have hx := x.isLt
    have s32 := shr32 (x)
    have s8 := shr8 (x >>> 32)
    have e4 := len8v (x >>> 32 >>> 8) (by omega)
    have e5 := len64_le x
    exact JQ.done (.inr rfl) (Γ' := []) (H' := []) (res1 rfl (RV.tmp rfl)) (Subs.sub zq0) (Picks.perm zq1) ⟨congrArg it (by omega), rfl, rfl⟩
   ·try simp only [decide_eq_true_eq, decide_eq_false_iff_not, Bool.not_eq_true', Bool.not_eq_false', ne_eq, Decidable.not_not, Bool.not_eq_true, Bool.and_eq_true, Bool.or_eq_true, BitVec.reduceToNat] at hc3
    refine JC.skip (JQ.then_normal (JC.seq (JC.region (JO.v (Yv.move rfl) (by decide) (JO.v (Yv.move rfl) (by decide) (JO.v (Yv.conv_u64_u8 Tryz.underlying22 Tryz.underlying5 rfl) (by decide) ?_))))))
    refine JO.v (Yv.as (v' := u8 (BitVec.ofNat 8 (bitlen _))) (Yv.indexStr Tryz.underlying9 rfl rfl (by exact (BitVec.isLt _))) (congrArg u8 (lenTab_get _ _))) (by decide) (JO.v (Yv.conv_u8_i Tryz.underlying5 Tryz.underlying3 rfl) (by decide) (JO.v (Yv.bin rfl rfl (BinR.add_i (fits8 _ (by omega)))) (by decide) (JO.v (Yv.assign rfl) (by decide) (JO.nil (JQ.then_normal ?_)))))
    refine JC.ret ?_
    have hx := x.isLt
    have s32 := shr32 (x)
    have e4 := len8v (x >>> 32) (by omega)
    have e5 := len64_le x
    exact JQ.done (.inr rfl) (Γ' := []) (H' := []) (res1 rfl (RV.tmp rfl)) (Subs.sub zq0) (Picks.perm zq1) ⟨congrArg it (by omega), rfl, rfl⟩
 ·try simp only [decide_eq_true_eq, decide_eq_false_iff_not, Bool.not_eq_true', Bool.not_eq_false', ne_eq, Decidable.not_not, Bool.not_eq_true, Bool.and_eq_true, Bool.or_eq_true, BitVec.reduceToNat] at hc1
  refine JC.skip (JQ.then_normal (JC.seq (JC.seq (JC.region (JO.v (Yv.move rfl) (by decide) (JO.v (Yv.bin rfl rfl (BinR.geq_u64 (b := 65536#64))) (by decide) ?_))))))
  refine JO.nil (JQ.then_normal (JC.cond rfl (fun hc2 => ?_) (fun hc2 => ?_)))
  ·try simp only [decide_eq_true_eq, decide_eq_false_iff_not, Bool.not_eq_true', Bool.not_eq_false', ne_eq, Decidable.not_not, Bool.not_eq_true, Bool.and_eq_true, Bool.or_eq_true, BitVec.reduceToNat] at hc2
   have e2 := len64_s16 hc2
   refine JC.seq (JC.region (JO.v (Yv.move rfl) (by decide) (JO.v (Yv.as (v' := u64 ((_ : BitVec 64) >>> (16 : Nat))) (Yv.bin rfl rfl (BinR.shr_u64_u64 (n := 16#64))) rfl) (by decide) (JO.v (Yv.assign rfl) (by decide) (JO.nil (JQ.then_normal ?_))))))
   refine JC.region (JO.v (Yv.move rfl) (by decide) (JO.v (Yv.bin rfl rfl (BinR.add_i zq3)) (by decide) (JO.v (Yv.assign rfl) (by decide) (JO.nil (JQ.then_normal (JC.seq ?_))))))
   refine JC.seq (JC.region (JO.v (Yv.move rfl) (by decide) (JO.v (Yv.bin rfl rfl (BinR.geq_u64 (b := 256#64))) (by decide) (JO.nil (JQ.then_normal (JC.cond rfl (fun hc3 => ?_) (fun hc3 => ?_)))))))
   ·try simp only [decide_eq_true_eq, decide_eq_false_iff_not, Bool.not_eq_true', Bool.not_eq_false', ne_eq, Decidable.not_not, Bool.not_eq_true, Bool.and_eq_true, Bool.or_eq_true, BitVec.reduceToNat] at hc3
    have e3 := len64_s8 hc3
    refine JC.seq (JC.region (JO.v (Yv.move rfl) (by decide) (JO.v (Yv.as (v' := u64 ((_ : BitVec 64) >>> (8 : Nat))) (Yv.bin rfl rfl (BinR.shr_u64_u64 (n := 8#64))) rfl) (by decide) (JO.v (Yv.assign rfl) (by decide) (JO.nil (JQ.then_normal ?_))))))
    refine JC.region (JO.v (Yv.move rfl) (by decide) (JO.v (Yv.bin rfl rfl (BinR.add_i zq3)) (by decide) (JO.v (Yv.assign rfl) (by decide) (JO.nil (JQ.then_normal (JC.seq ?_))))))
    refine JC.region (JO.v (Yv.move rfl) (by decide) (JO.v (Yv.move rfl) (by decide) (JO.v (Yv.conv_u64_u8 Tryz.underlying22 Tryz.underlying5 rfl) (by decide) (JO.v (Yv.as (v' := u8 (BitVec.ofNat 8 (bitlen _))) (Yv.indexStr Tryz.underlying9 rfl rfl (by exact (BitVec.isLt _))) (congrArg u8 (lenTab_get _ _))) (by decide) (JO.v (Yv.conv_u8_i Tryz.underlying5 Tryz.underlying3 rfl) (by decide) (JO.v (Yv.bin rfl rfl (BinR.add_i (fits8 _ (by omega)))) (by decide) ?_))))))
    refine JO.v (Yv.assign rfl) (by decide) (JO.nil (JQ.then_normal ?_))
    refine JC.ret ?_
    have hx := x.isLt
    have s16 := shr16 (x)
    have s8 := shr8 (x >>> 16)
    have e4 := len8v (x >>> 16 >>> 8) (by omega)
    have e5 := len64_le x
    exact JQ.done (.inr rfl) (Γ' := []) (H' := []) (res1 rfl (RV.tmp rfl)) (Subs.sub zq0) (Picks.perm zq1) ⟨congrArg it (by omega), rfl, rfl⟩
   ·try simp only [decide_eq_true_eq, decide_eq_false_iff_not, Bool.not_eq_true', Bool.not_eq_false', ne_eq, Decidable.not_not, Bool.not_eq_true, Bool.and_eq_true, Bool.or_eq_true, BitVec.reduceToNat] at hc3
    refine JC.skip (JQ.then_normal (JC.seq (JC.region (JO.v (Yv.move rfl) (by decide) (JO.v (Yv.move rfl) (by decide) (JO.v (Yv.conv_u64_u8 Tryz.underlying22 Tryz.underlying5 rfl) (by decide) ?_))))))
    refine JO.v (Yv.as (v' := u8 (BitVec.ofNat 8 (bitlen _))) (Yv.indexStr Tryz.underlying9 rfl rfl (by exact (BitVec.isLt _))) (congrArg u8 (lenTab_get _ _))) (by decide) (JO.v (Yv.conv_u8_i Tryz.underlying5 Tryz.underlying3 rfl) (by decide) (JO.v (Yv.bin rfl rfl (BinR.add_i (fits8 _ (by omega)))) (by decide) (JO.v (Yv.assign rfl) (by decide) (JO.nil (JQ.then_normal ?_)))))
    refine JC.ret ?_
    have hx := x.isLt
    have s16 := shr16 (x)
    have e4 := len8v (x >>> 16) (by omega)
    have e5 := len64_le x
    exact JQ.done (.inr rfl) (Γ' := []) (H' := []) (res1 rfl (RV.tmp rfl)) (Subs.sub zq0) (Picks.perm zq1) ⟨congrArg it (by omega), rfl, rfl⟩
  ·try simp only [decide_eq_true_eq, decide_eq_false_iff_not, Bool.not_eq_true', Bool.not_eq_false', ne_eq, Decidable.not_not, Bool.not_eq_true, Bool.and_eq_true, Bool.or_eq_true, BitVec.reduceToNat] at hc2
   refine JC.skip (JQ.then_normal (JC.seq (JC.seq (JC.region (JO.v (Yv.move rfl) (by decide) (JO.v (Yv.bin rfl rfl (BinR.geq_u64 (b := 256#64))) (by decide) ?_))))))
   refine JO.nil (JQ.then_normal (JC.cond rfl (fun hc3 => ?_) (fun hc3 => ?_)))
   ·try simp only [decide_eq_true_eq, decide_eq_false_iff_not, Bool.not_eq_true', Bool.not_eq_false', ne_eq, Decidable.not_not, Bool.not_eq_true, Bool.and_eq_true, Bool.or_eq_true, BitVec.reduceToNat] at hc3
    have e3 := len64_s8 hc3
    refine JC.seq (JC.region (JO.v (Yv.move rfl) (by decide) (JO.v (Yv.as (v' := u64 ((_ : BitVec 64) >>> (8 : Nat))) (Yv.bin rfl rfl (BinR.shr_u64_u64 (n := 8#64))) rfl) (by decide) (JO.v (Yv.assign rfl) (by decide) (JO.nil (JQ.then_normal ?_))))))
    refine JC.region (JO.v (Yv.move rfl) (by decide) (JO.v (Yv.bin rfl rfl (BinR.add_i zq3)) (by decide) (JO.v (Yv.assign rfl) (by decide) (JO.nil (JQ.then_normal (JC.seq ?_))))))
    refine JC.region (JO.v (Yv.move rfl) (by decide) (JO.v (Yv.move rfl) (by decide) (JO.v (Yv.conv_u64_u8 Tryz.underlying22 Tryz.underlying5 rfl) (by decide) (JO.v (Yv.as (v' := u8 (BitVec.ofNat 8 (bitlen _))) (Yv.indexStr Tryz.underlying9 rfl rfl (by exact (BitVec.isLt _))) (congrArg u8 (lenTab_get _ _))) (by decide) (JO.v (Yv.conv_u8_i Tryz.underlying5 Tryz.underlying3 rfl) (by decide) (JO.v (Yv.bin rfl rfl (BinR.add_i (fits8 _ (by omega)))) (by decide) ?_))))))
    refine JO.v (Yv.assign rfl) (by decide) (JO.nil (JQ.then_normal ?_))
    refine JC.ret ?_
    have hx := x.isLt
    have s8 := shr8 (x)
    have e4 := len8v (x >>> 8) (by omega)
    have e5 := len64_le x
    exact JQ.done (.inr rfl) (Γ' := []) (H' := []) (res1 rfl (RV.tmp rfl)) (Subs.sub zq0) (Picks.perm zq1) ⟨congrArg it (by omega), rfl, rfl⟩
   ·try simp only [decide_eq_true_eq, decide_eq_false_iff_not, Bool.not_eq_true', Bool.not_eq_false', ne_eq, Decidable.not_not, Bool.not_eq_true, Bool.and_eq_true, Bool.or_eq_true, BitVec.reduceToNat] at hc3
    refine JC.skip (JQ.then_normal (JC.seq (JC.region (JO.v (Yv.move rfl) (by decide) (JO.v (Yv.move rfl) (by decide) (JO.v (Yv.conv_u64_u8 Tryz.underlying22 Tryz.underlying5 rfl) (by decide) ?_))))))
    refine JO.v (Yv.as (v' := u8 (BitVec.ofNat 8 (bitlen _))) (Yv.indexStr Tryz.underlying9 rfl rfl (by exact (BitVec.isLt _))) (congrArg u8 (lenTab_get _ _))) (by decide) (JO.v (Yv.conv_u8_i Tryz.underlying5 Tryz.underlying3 rfl) (by decide) (JO.v (Yv.bin rfl rfl (BinR.add_i (fits8 _ (by omega)))) (by decide) (JO.v (Yv.assign rfl) (by decide) (JO.nil (JQ.then_normal ?_)))))
    refine JC.ret ?_
    have hx := x.isLt
    have e4 := len8v (x) (by omega)
    have e5 := len64_le x
    exact JQ.done (.inr rfl) (Γ' := []) (H' := []) (res1 rfl (RV.tmp rfl)) (Subs.sub zq0) (Picks.perm zq1) ⟨congrArg it (by omega), rfl, rfl⟩


set_option maxRecDepth 100000
theorem f173_spec (n : BitVec 64) :
  Spec Tryz.prog 173 #[(u64 n)] [] []
   (fun r Γ' H' => True ∧ Γ' = [Res.rd r (digs n 8).length 1 ((digs n 8).map u8)] ∧ H' = []) := by
 refine Spec.of_args Tryz.func173 rfl Tryz.ntmps173 (by simp) fun w => ?_
 refine .seq (.region ?_)
 refine .w (.assign rfl) ?_
 refine .nil (.tn (.seq (.region ?_)))
 refine .w (.move rfl) (.w (.as (v' := natV [n, 0, 0, 0]) (.build bld_40 rfl rfl) rfl) (.cb (f125_spec [n, 0, 0, 0] rfl) body_125 ?_))
 rintro v5 _ ⟨_, _, rfl⟩
 refine .ap ?_
 refine .cf 24 32 Tryz.underlying79 sz_5 (fun v6 => ?_) (hn := (by rw [natBytes_length]; decide))
 rw [rd_num]
 refine .w (.assign rfl) ?_
 refine .nil (.tn (.ret ?_))
 exact .dn [Res.rd v6 (digs n 8).length 1 ((digs n 8).map u8)] [] (res1 rfl (.tmp rfl)) ⟨trivial, rfl, rfl⟩

theorem f124_spec (tg : B8) (htg : tg.length ≤ 1000000) (lv : Value) (L : Pcs) :
  Spec Tryz.prog 124 #[(.string (strOf tg)), lv] [Res.var 5 (sqr.map u32), Res.var 4 (cub.map u32), Res.rd lv L.length 1 (L.map Prod.fst), Res.all (pcRes L)] []
   (fun r Γ' H' => r = (.agg ((sha (inB tg (bytesP L))).map u8).toArray) ∧ Γ' = [] ∧ H' = []) := by
 refine Spec.of_args Tryz.func124 rfl Tryz.ntmps124 (by simp) fun w => ?_
 refine JC.know (φ := L.length ≤ 9223372036854775807) (fun w hs => by obtain ⟨_, _, _, _, _, _, h⟩ := hs.rdForm (.tail _ (.tail _ (.head _))); unfold maxLen at h; omega) fun hla => ?_
 refine .seq (.region ?_)
 refine .al zero_35 fun b4 => ?_
 obtain ⟨zd, hzd⟩ : ∃ z, (Value.agg #[.int .u8 0, .int .u8 0, .int .u8 0, .int .u8 0, .int .u8 0, .int .u8 0, .int .u8 0, .int .u8 0, .int .u8 0, .int .u8 0, .int .u8 0, .int .u8 0, .int .u8 0, .int .u8 0, .int .u8 0, .int .u8 0, .int .u8 0, .int .u8 0, .int .u8 0, .int .u8 0, .int .u8 0, .int .u8 0, .int .u8 0, .int .u8 0, .int .u8 0, .int .u8 0, .int .u8 0, .int .u8 0, .int .u8 0, .int .u8 0, .int .u8 0, .int .u8 0]).cells.toList = z := ⟨_, rfl⟩
 have hzl : zd.length = 32 := by rw [← hzd]; rfl
 rw [hzd]
 refine .nil (.tn (.seq (.region ?_)))
 refine .cb f171_spec body_171 ?_ (h0 := by rintro _ _ _ ⟨_, _, h, _⟩; exact h)
 rintro _ _ ⟨q, rfl, _, rfl⟩
 refine .ap ?_
 rw [show hcells sqr (List.replicate 64 0) 0 = hst [] (List.replicate 64 0) from rfl]
 refine .w (.assign rfl) ?_
 refine .nil (.tn (.seq (.region ?_)))
 refine .w (.move rfl) (.w (.move rfl) (.w (.len_st Tryz.underlying9 rfl) (.w (.as (v' := u64 (BitVec.ofNat 64 tg.length)) (.conv_i_u64 Tryz.underlying3 Tryz.underlying22 rfl) (congrArg u64 (BitVec.ofInt_natCast _ _))) (.cs (f173_spec (BitVec.ofNat 64 tg.length)) body_173 ?_))))
 rintro v12 _ _ ⟨_, rfl, rfl⟩
 refine .ap ?_
 refine .ap ?_
 refine .cb (f172_spec q [] (List.replicate 64 0) hok_nil v12 (n8 tg.length)) body_172 ?_ (h0 := by rintro _ _ _ ⟨_, _, _, h, _⟩; exact h)
 rintro _ _ ⟨bs1, rfl, hok1, _, rfl⟩
 refine .ap ?_
 rw [List.nil_append] at hok1 ⊢
 refine .nil (.tn (.seq (.region ?_)))
 refine .w (.move rfl) (.w (.move rfl) ?_)
 refine JO.cvb Tryz.underlying9 Tryz.underlying79 Tryz.underlying5 rfl (by omega) (by decide) fun v17 => ?_
 refine .cb (f172_spec q (n8 tg.length) bs1 hok1 v17 tg) body_172 ?_ (h0 := by rintro _ _ _ ⟨_, _, _, h, _⟩; exact h)
 rintro _ _ ⟨bs2, rfl, hok2, _, rfl⟩
 refine .ap ?_
 refine .nil (.tn (.seq (.seq (.region ?_))))
 refine .w (.move rfl) (.w (.len Tryz.underlying135 rfl) (.w (.move rfl) ?_))
 refine .nil (.tn (.block ?_))
 refine .lp (ι := Nat × B8) (fun x => x.1 ≤ L.length ∧ HOK (n8 tg.length ++ tg ++ ((bytesP L).take x.1).flatMap itB) x.2) (fun T x => (21, it (x.1 : Int)) :: T) (fun T _ => T) (fun T x => Res.cells q (hst (n8 tg.length ++ tg ++ ((bytesP L).take x.1).flatMap itB) x.2) 270 :: T) (fun x => L.length - x.1) (0, bs2) [4, 5, 19, 20, 35, 36] ?_ (fun x hx => ?_) (hH := (by dsimp only; rw [List.take_zero, List.flatMap_nil, List.append_nil]; repeat (first | exact Picks.nil _ | apply Picks.cons | exact Pull.here _ _ | apply Pull.there)))
 ·exact ⟨Nat.zero_le _, by simpa using hok2⟩
 obtain ⟨k, bs⟩ := x
 obtain ⟨hk, hok⟩ := hx
 dsimp only at hk hok ⊢
 refine .seq (.region ?_)
 refine .w (.bin rfl rfl BinR.lss_i) ?_
 refine .nil (.tn (.seq ?_))
 refine .cn rfl (fun hc1 => ?_) (fun hc1 => ?_)
 ·refine .skip (.tn (.seq (.block (.seq (.region ?_)))))
  refine JO.open (r := Res.rd (pcAt L k).1 (pcAt L k).2.length 1 ((pcAt L k).2.map u8)) zq7 (pc_res (by omega)) ?_
  refine .w (.ix1 Tryz.underlying135 sz_79 rfl rfl) (.w (.ld one_79 rfl (hj := by first | exact pc_get (by omega) | rfl | exact tab_get zq10 | exact gm (d := 0) zq10)) (.w (.assign rfl) ?_))
  refine .nil (.tn (.seq (.region ?_)))
  refine .w (.move rfl) (.w (.move rfl) (.w (.len Tryz.underlying79 rfl) (.w (.as (v' := u64 (BitVec.ofNat 64 (pcAt L k).2.length)) (.conv_i_u64 Tryz.underlying3 Tryz.underlying22 rfl) (congrArg u64 (BitVec.ofInt_natCast _ _))) (.cs (f173_spec (BitVec.ofNat 64 (pcAt L k).2.length)) body_173 ?_))))
  rintro v29 _ _ ⟨_, rfl, rfl⟩
  refine .ap ?_
  refine .ap ?_
  refine .cb (f172_spec q (n8 tg.length ++ tg ++ ((bytesP L).take k).flatMap itB) bs hok v29 (n8 (pcAt L k).2.length)) body_172 ?_ (h0 := by rintro _ _ _ ⟨_, _, _, h, _⟩; exact h)
  rintro _ _ ⟨bs3, rfl, hok3, _, rfl⟩
  refine .ap ?_
  refine .nil (.tn (.region ?_))
  refine .w (.move rfl) (.w (.move rfl) (.cb (f172_spec q ((n8 tg.length ++ tg ++ ((bytesP L).take k).flatMap itB) ++ n8 (pcAt L k).2.length) bs3 hok3 (pcAt L k).1 (pcAt L k).2) body_172 ?_ (h0 := by rintro _ _ _ ⟨_, _, _, h, _⟩; exact h)))
  rintro _ _ ⟨bs4, rfl, hok4, _, rfl⟩
  refine .ap ?_
  rw [in_snoc (by omega)] at hok4 ⊢
  refine .nil (.block_normal (.tn (.region ?_)))
  refine .w (.bin rfl rfl (BinR.add_i zq3)) (.w (.move rfl) (.nil ?_))
  refine .hd (k + 1, bs4) ?_
  exact ⟨⟨by dsimp only; omega, hok4⟩, by dsimp only; omega⟩
 ·have he : k = L.length := by omega
  subst he
  rw [show (bytesP L).take L.length = bytesP L from List.take_of_length_le (by rw [bytesP_len]; omega)] at hok ⊢
  rw [show n8 tg.length ++ tg ++ (bytesP L).flatMap itB = inB tg (bytesP L) from rfl] at hok ⊢
  refine .exit (.then_exit (.then_exit (.block_exit (.tn (.seq (.region ?_))))))
  refine .w (.move rfl) (.c (f174_spec q (inB tg (bytesP L)) bs hok) body_174 ?_)
  refine .sa sz_35 ?_
  refine .nil (.tn (.ret ?_))
  exact .dn [] [] (res1 rfl (.cl agg_35)) ⟨rfl, rfl, rfl⟩
theorem once_disable (w : World) : (callFunc 230 #[]).run Tryz.prog w = .ok (.value (.tuple #[])) w := run_call_mark0 Tryz.func230 (by kernel_rfl) (by kernel_rfl) (by kernel_rfl) .disable (by kernel_rfl) w
theorem once_enable (w : World) : (callFunc 232 #[]).run Tryz.prog w = .ok (.value (.tuple #[])) w := run_call_mark0 Tryz.func232 (by kernel_rfl) (by kernel_rfl) (by kernel_rfl) .enable (by kernel_rfl) w
theorem once_acquire (a : Addr) (w : World) : (callFunc 233 #[.pointer (some a)]).run Tryz.prog w = .ok (.value (.tuple #[])) w := run_call_marked Tryz.func233 (by kernel_rfl) (by kernel_rfl) (by kernel_rfl) .acquire (by kernel_rfl) a w
theorem once_release (a : Addr) (w : World) : (callFunc 235 #[.pointer (some a)]).run Tryz.prog w = .ok (.value (.tuple #[])) w := run_call_marked Tryz.func235 (by kernel_rfl) (by kernel_rfl) (by kernel_rfl) .releaseMerge (by kernel_rfl) a w
theorem once_store (a : Addr) (x : Value) (u : FrameMode) (w : World) (hc : w.cell? a = some x) (hz : w.frozen? a = false) :
  CallsD Tryz.prog 225 #[.pointer (some a), .bool true] u w fun e u' w' => u' = u ∧ (e = .returned (.tuple #[]) ∧ w' = w.drew.setCell a (.int .u32 1)) := by
 have hc' : w.drew.cell? a = some x := by go_simp
 have hz' : w.drew.frozen? a = false := by go_simp
 have hst := run_call_store (P := Tryz.prog) Tryz.func228 (by kernel_rfl) (by kernel_rfl) (by kernel_rfl) (by kernel_rfl) (k := .u32) (y := 1) hc' hz'
 go_enter_d Tryz.func225, Tryz.ntmps225
 go_wp2
 go_region_calls
 all_goals (go_end0; exact ⟨rfl, rfl⟩)
set_option maxRecDepth 100000 in
set_option maxHeartbeats 1600000 in
theorem once_unlock (a : Addr) (u : FrameMode) (w : World) (hc : w.cell? a = some (.int .i32 1)) (hz : w.frozen? a = false) :
  CallsD Tryz.prog 224 #[.pointer (some a)] u w fun e u' w' => u' = u ∧ (e = .returned (.tuple #[]) ∧ w' = w.setCell a (.int .i32 0)) := by
 have hd := once_disable
 have he := once_enable
 have hr := once_release
 have hadd := run_call_add (P := Tryz.prog) Tryz.func236 (by kernel_rfl) (by kernel_rfl) (by kernel_rfl) .i32 (by kernel_rfl) (y := -1) (s := 0) hc hz (by simp [go_sem]; rfl)
 have hcv := run_convert_to_unsafe (P := Tryz.prog) (src := 292) (dst := 296) Tryz.underlying292 Tryz.underlying296 (by kernel_rfl) hc
 go_enter_d Tryz.func224, Tryz.ntmps224
 go_wp2
 go_end0
 go_wp2
 go_end0
 exact ⟨rfl, rfl⟩
set_option maxRecDepth 100000 in
set_option maxHeartbeats 1600000 in
theorem once_lock (a : Addr) (w : World) (hc : w.cell? a = some (.int .i32 0)) (hz : w.frozen? a = false) :
  Calls Tryz.prog 223 #[.pointer (some a)] w fun e w' => e = .returned (.tuple #[]) ∧ w' = w.setCell a (.int .i32 1) := by
 have hd := once_disable
 have he := once_enable
 have ha := once_acquire
 have hcas := run_call_cas_hit (P := Tryz.prog) Tryz.func231 (by kernel_rfl) (by kernel_rfl) (by kernel_rfl) .i32 (by kernel_rfl) (y := 1) hc hz
 have hc' : (w.setCell a (.int .i32 1)).cell? a = some (.int .i32 1) := World.cell?_setCell_same w a _ hc
 have hcv := run_convert_to_unsafe (P := Tryz.prog) (src := 292) (dst := 296) Tryz.underlying292 Tryz.underlying296 (by kernel_rfl) hc'
 go_enter Tryz.func223, Tryz.ntmps223
 go_wp2
 first | go_end0 | (simp only [Exit.inBlock, Exit.then]; refine bodyPost_ret (results_none rfl _ _ _) rfl ?_) | refine bodyPost_ret (results_none rfl _ _ _) rfl ?_
 go_wp2
 go_end0
 exact ⟨rfl, rfl⟩
def OnceR (b off : Nat) (K : World → Prop) (e : Ending) (w : World) : Prop := e = .returned (.tuple #[]) ∧ K w ∧ w.cell? ⟨b, off, none⟩ = some (.int .u32 0) ∧ w.cell? ⟨b, off + 1, none⟩ = some (.int .i32 1) ∧ w.frozen? ⟨b, off, none⟩ = false ∧ w.frozen? ⟨b, off + 1, none⟩ = false
set_option maxRecDepth 100000 in
set_option maxHeartbeats 1600000 in
theorem once_slow (b off : Nat) (cap : Array Value) (K : World → Prop) (w : World) (h0 : w.cell? ⟨b, off, none⟩ = some (.int .u32 0)) (h1 : w.cell? ⟨b, off + 1, none⟩ = some (.int .i32 0))
  (f0 : w.frozen? ⟨b, off, none⟩ = false) (f1 : w.frozen? ⟨b, off + 1, none⟩ = false)
  (hf : Calls Tryz.prog 211 cap (w.setCell ⟨b, off + 1, none⟩ (.int .i32 1)) (OnceR b off K)) :
  Calls Tryz.prog 220 #[.pointer (some ⟨b, off, none⟩), .func (.func 211) #[] cap] w fun e w' => e = .returned (.tuple #[]) ∧
   ∃ w2, K w2 ∧ w' = (w2.drew.setCell ⟨b, off, none⟩ (.int .u32 1)).setCell ⟨b, off + 1, none⟩ (.int .i32 0) := by
 have hl := run_call_load (P := Tryz.prog) Tryz.func222 (by kernel_rfl) (by kernel_rfl) (by kernel_rfl) .u32 (by kernel_rfl) (w := w.setCell ⟨b, off + 1, none⟩ (.int .i32 1)) (a := ⟨b, off, none⟩) (x := 0) ((World.cell?_setCell_other _ ⟨b, off + 1, none⟩ ⟨b, off, none⟩ _ (by simp)).trans h0)
 have hnot : ∀ (x : Bool) (w : World), (Op.unary .not (.bool x)).run Tryz.prog w = .ok (.bool (!x)) w := fun _ _ => rfl
 go_enter_defers Tryz.func220, Tryz.ntmps220
 go_wp2_with (first | (go_at_call 223; refine (once_lock ⟨b, off + 1, none⟩ _ (by go_simp) (by go_simp)).mono ?_; rintro e w' ⟨rfl, rfl⟩) | (go_at_call 211; refine hf.mono ?_; rintro e w2 ⟨rfl, hK, k0, k1, z0, z1⟩) | (go_at_call 219; go_in))
 refine leaves_cons (f := 225) (args := #[.pointer (some ⟨b, off, none⟩), .bool true]) (by simp) (by simp [go_sem]) ?_
 refine (once_store ⟨b, off, none⟩ (.int .u32 0) .returning _ k0 z0).mono ?_
 rintro e u' w'' ⟨rfl, rfl, rfl⟩
 refine leaves_cons (f := 224) (args := #[.pointer (some ⟨b, off + 1, none⟩)]) (by simp [settle]) (by simp [go_sem]) ?_
 refine (once_unlock ⟨b, off + 1, none⟩ _ _ ?_ ?_).mono ?_
 ·refine (World.cell?_setCell_other _ ⟨b, off, none⟩ ⟨b, off + 1, none⟩ _ (by simp)).trans ?_
  rw [World.cell?_drew]; exact k1
 ·go_simp
 rintro e u' w'' ⟨rfl, rfl, rfl⟩
 simp [Leaves, settle, results, Tryz.results220]
 exact ⟨w2, hK, rfl⟩
set_option maxRecDepth 100000 in
set_option maxHeartbeats 1600000 in
theorem once_first (b off : Nat) (cap : Array Value) (K : World → Prop) (w : World) (h0 : w.cell? ⟨b, off, none⟩ = some (.int .u32 0)) (h1 : w.cell? ⟨b, off + 1, none⟩ = some (.int .i32 0))
  (f0 : w.frozen? ⟨b, off, none⟩ = false) (f1 : w.frozen? ⟨b, off + 1, none⟩ = false)
  (hf : Calls Tryz.prog 211 cap (w.setCell ⟨b, off + 1, none⟩ (.int .i32 1)) (OnceR b off K)) :
  Calls Tryz.prog 210 #[.pointer (some ⟨b, off, none⟩), .func (.func 211) #[] cap] w fun e w' => e = .returned (.tuple #[]) ∧
   ∃ w2, K w2 ∧ w' = (w2.drew.setCell ⟨b, off, none⟩ (.int .u32 1)).setCell ⟨b, off + 1, none⟩ (.int .i32 0) := by
 have hl := run_call_load (P := Tryz.prog) Tryz.func222 (by kernel_rfl) (by kernel_rfl) (by kernel_rfl) .u32 (by kernel_rfl) h0
 have hnot : ∀ (x : Bool) (w : World), (Op.unary .not (.bool x)).run Tryz.prog w = .ok (.bool (!x)) w := fun _ _ => rfl
 go_enter Tryz.func210, Tryz.ntmps210
 go_wp2_with (first | (go_at_call 220; refine (once_slow b off cap K _ h0 h1 f0 f1 hf).mono ?_; rintro e w' ⟨rfl, hK⟩) | (go_at_call 219; go_in))
 go_end0
 exact ⟨rfl, hK⟩
theorem once_again (a : Addr) (d : Int) (hd : ¬ d = 0) (fv : Value) (w : World) (h0 : w.cell? a = some (.int .u32 d)) :
  Calls Tryz.prog 210 #[.pointer (some a), fv] w fun e w' => e = .returned (.tuple #[]) ∧ w' = w := by
 have hl := run_call_load (P := Tryz.prog) Tryz.func222 (by kernel_rfl) (by kernel_rfl) (by kernel_rfl) .u32 (by kernel_rfl) h0
 have hnot : ∀ (x : Bool) (w : World), (Op.unary .not (.bool x)).run Tryz.prog w = .ok (.bool (!x)) w := fun _ _ => rfl
 have hd' : (d != 0) = true := by simp [hd]
 go_enter Tryz.func210, Tryz.ntmps210
 go_wp2
 go_end0
 exact ⟨rfl, rfl⟩
theorem cells_heap {b : Nat} {cs : List Value} {T : TypeId} {w : World} (h : w.heap[b]? = some (.cells cs.toArray T (0, 0))) (i : Nat) : w.cell? ⟨b, i, none⟩ = cs[i]? ∧ w.frozen? ⟨b, i, none⟩ = false := by
 constructor
 ·simp [World.cell?, h]
 ·simp [World.frozen?, h]
theorem St.set1 {C : Beg} {Γ H : RL} {w : World} {b : Nat} {cs : List Value} {T : TypeId} (h : St C Γ (Res.cells b cs T :: H) w) (i : Nat) (v : Value) : St C Γ (Res.cells b (cs.set i v) T :: H) (w.setCell ⟨b, i, none⟩ v) := by
 have hb := Res.cells_ok.1 (h.sat.hok _ (.head _))
 refine h.setBlock rfl rfl rfl (by simp [World.setCell]) ?_ fun k hk => ?_
 ·simp [World.setCell, Array.getElem?_modify, hb]
 ·simp [World.setCell, Array.getElem?_modify, Ne.symm hk]
end Go.Proofs.YtmhiapebljfebaaGreatDoor
