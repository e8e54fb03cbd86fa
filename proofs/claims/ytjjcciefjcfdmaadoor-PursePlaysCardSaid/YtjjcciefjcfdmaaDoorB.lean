/- Closed facts of the loaded program: sizes, places, bodies. Printed by a program of ours. -/
import Derived.Test.YtjjcciefjcfdmaaDoorA10
import Derived.Test.YtjjcciefjcfdmaaDoorRows
import Derived.KernelRfl
namespace Go.Proofs.YtjjcciefjcfdmaaDoor
open Go.RowKit
set_option maxRecDepth 100000
theorem sz_23 : (Tryd.prog.info? 23).map (·.size) = some 1 := by kernel_rfl
theorem ext_42 (x y c : BitVec 64) (hc : c.toNat ≤ 1) (w : World) : (callFunc 42 #[u64 x, u64 y, u64 c]).run Tryd.prog w = .ok (.value (.tuple #[u64 (x + y + c), u64 (BitVec.ofNat 64 ((x.toNat + y.toNat + c.toNat) / 18446744073709551616))])) w := add64 Tryd.func42 rfl rfl (by kernel_rfl) (by kernel_rfl) x y c hc w
theorem ext_55 (x y c : BitVec 64) (hc : c.toNat ≤ 1) (w : World) : (callFunc 55 #[u64 x, u64 y, u64 c]).run Tryd.prog w = .ok (.value (.tuple #[u64 (x - y - c), u64 (if x.toNat < y.toNat + c.toNat then 1 else 0)])) w := sub64 Tryd.func55 rfl rfl (by kernel_rfl) (by kernel_rfl) x y c hc w
theorem sz_40 : (Tryd.prog.info? 40).map (·.size) = some 5 := by kernel_rfl
theorem sz_3 : (Tryd.prog.info? 3).map (·.size) = some 1 := by kernel_rfl
theorem zero_51 : (Tryd.prog.info? 51).map (·.zero) = some (some (Value.agg #[Value.int .u64 0, Value.int .u64 0, Value.int .u64 0, Value.int .u64 0])) := by kernel_rfl
theorem one_23 : One Tryd.prog 23 := One.mk Tryd.underlying23 rfl
theorem mixed : Tryd.prog.follows .mixedOrders = true := by kernel_rfl
theorem agg_51 : Agg Tryd.prog 51 4 := Agg.mk Tryd.underlying51 rfl (by kernel_rfl)
theorem sz_51 : (Tryd.prog.info? 51).map (·.size) = some 4 := by kernel_rfl
theorem body_54 : Body Tryd.prog 54 := Body.mk Tryd.func54 rfl (by decide)
theorem body_45 : Body Tryd.prog 45 := Body.mk Tryd.func45 rfl (by decide)
theorem body_49 : Body Tryd.prog 49 := Body.mk Tryd.func49 rfl (by decide)
theorem body_25 : Body Tryd.prog 25 := Body.mk Tryd.func25 rfl (by decide)
theorem body_50 : Body Tryd.prog 50 := Body.mk Tryd.func50 rfl (by decide)
theorem body_44 : Body Tryd.prog 44 := Body.mk Tryd.func44 rfl (by decide)
theorem body_46 : Body Tryd.prog 46 := Body.mk Tryd.func46 rfl (by decide)
theorem bld_51 : Bld Tryd.prog 51 (fun i => some (i * 1, 1)) [.int .u64 0, .int .u64 0, .int .u64 0, .int .u64 0] := by intro parts; kernel_rfl
theorem body_36 : Body Tryd.prog 36 := Body.mk Tryd.func36 rfl (by decide)
theorem body_35 : Body Tryd.prog 35 := Body.mk Tryd.func35 rfl (by decide)
theorem body_32 : Body Tryd.prog 32 := Body.mk Tryd.func32 rfl (by decide)
theorem one_25 : One Tryd.prog 25 := One.mk Tryd.underlying25 rfl
theorem fa_57_0 : FA Tryd.prog 57 0 0 := FA.mk (m := 0) Tryd.underlying57 rfl rfl (by kernel_rfl)
theorem one_22 : One Tryd.prog 22 := One.mk Tryd.underlying22 rfl
theorem one_3 : One Tryd.prog 3 := One.mk Tryd.underlying3 rfl
theorem body_34 : Body Tryd.prog 34 := Body.mk Tryd.func34 rfl (by decide)
theorem body_43 : Body Tryd.prog 43 := Body.mk Tryd.func43 rfl (by decide)
theorem body_33 : Body Tryd.prog 33 := Body.mk Tryd.func33 rfl (by decide)
theorem info_23 : (Tryd.prog.info? 23).map (fun i => (i.zero, i.size, i.bytes)) = some (some (Value.int .u64 0), 1, 8) := by kernel_rfl
theorem body_27 : Body Tryd.prog 27 := Body.mk Tryd.func27 rfl (by decide)
theorem body_26 : Body Tryd.prog 26 := Body.mk Tryd.func26 rfl (by decide)
theorem info_3 : (Tryd.prog.info? 3).map (fun i => (i.zero, i.size, i.bytes)) = some (some (Value.int .i64 0), 1, 8) := by kernel_rfl
theorem body_28 : Body Tryd.prog 28 := Body.mk Tryd.func28 rfl (by decide)
theorem body_14 : Body Tryd.prog 14 := Body.mk Tryd.func14 rfl (by decide)
theorem body_12 : Body Tryd.prog 12 := Body.mk Tryd.func12 rfl (by decide)
theorem body_29 : Body Tryd.prog 29 := Body.mk Tryd.func29 rfl (by decide)
theorem bld_57 : Bld Tryd.prog 57 (fun i => (#[(0, 1)] : Array (Nat × Nat))[i]?) [.slice none 0 0] := by intro parts; kernel_rfl
theorem body_9 : Body Tryd.prog 9 := Body.mk Tryd.func9 rfl (by decide)
theorem body_15 : Body Tryd.prog 15 := Body.mk Tryd.func15 rfl (by decide)
theorem body_11 : Body Tryd.prog 11 := Body.mk Tryd.func11 rfl (by decide)
theorem body_10 : Body Tryd.prog 10 := Body.mk Tryd.func10 rfl (by decide)
theorem body_13 : Body Tryd.prog 13 := Body.mk Tryd.func13 rfl (by decide)
theorem body_8 : Body Tryd.prog 8 := Body.mk Tryd.func8 rfl (by decide)
theorem body_16 : Body Tryd.prog 16 := Body.mk Tryd.func16 rfl (by decide)
theorem agg_40 : Agg Tryd.prog 40 5 := Agg.mk Tryd.underlying40 rfl (by kernel_rfl)
theorem zero_40 : (Tryd.prog.info? 40).map (·.zero) = some (some (Value.agg #[Value.int .i64 0, Value.int .i64 0, Value.int .i64 0, Value.int .u64 0, Value.slice none 0 0])) := by kernel_rfl
theorem fa_40_4 : FA Tryd.prog 40 4 4 := FA.mk (m := 0) Tryd.underlying40 rfl rfl (by kernel_rfl)
theorem fa_40_0 : FA Tryd.prog 40 0 0 := FA.mk (m := 0) Tryd.underlying40 rfl rfl (by kernel_rfl)
theorem fa_40_1 : FA Tryd.prog 40 1 1 := FA.mk (m := 0) Tryd.underlying40 rfl rfl (by kernel_rfl)
theorem fa_40_2 : FA Tryd.prog 40 2 2 := FA.mk (m := 0) Tryd.underlying40 rfl rfl (by kernel_rfl)
theorem fa_40_3 : FA Tryd.prog 40 3 3 := FA.mk (m := 0) Tryd.underlying40 rfl rfl (by kernel_rfl)
theorem zero_69 : (Tryd.prog.info? 69).map (·.zero) = some (some (Value.agg #[Value.int .i64 0, Value.int .i64 0, Value.int .i64 0, Value.int .i64 0, Value.int .i64 0, Value.int .i64 0, Value.int .i64 0, Value.int .i64 0, Value.int .i64 0, Value.int .i64 0, Value.int .i64 0, Value.int .i64 0, Value.int .i64 0, Value.int .i64 0, Value.int .i64 0, Value.int .i64 0, Value.int .i64 0, Value.int .i64 0, Value.int .i64 0, Value.int .i64 0, Value.int .i64 0, Value.int .i64 0, Value.int .i64 0, Value.int .i64 0, Value.int .i64 0, Value.int .i64 0, Value.int .i64 0, Value.int .i64 0, Value.int .i64 0, Value.int .i64 0, Value.int .i64 0, Value.int .i64 0, Value.int .i64 0, Value.int .i64 0, Value.int .i64 0, Value.int .i64 0, Value.int .i64 0, Value.int .i64 0, Value.int .i64 0, Value.int .i64 0, Value.int .i64 0, Value.int .i64 0, Value.int .i64 0, Value.int .i64 0, Value.int .i64 0, Value.int .i64 0, Value.int .i64 0, Value.int .i64 0, Value.int .i64 0, Value.int .i64 0, Value.int .i64 0, Value.int .i64 0, Value.int .i64 0, Value.int .i64 0, Value.int .i64 0, Value.int .i64 0, Value.int .i64 0, Value.int .i64 0, Value.int .i64 0, Value.int .i64 0, Value.int .i64 0, Value.int .i64 0, Value.int .i64 0, Value.int .i64 0])) := by kernel_rfl
theorem agg_69 : Agg Tryd.prog 69 64 := Agg.mk Tryd.underlying69 rfl (by kernel_rfl)
theorem sz_69 : (Tryd.prog.info? 69).map (·.size) = some 64 := by kernel_rfl
theorem body_40 : Body Tryd.prog 40 := Body.mk Tryd.func40 rfl (by decide)
theorem body_39 : Body Tryd.prog 39 := Body.mk Tryd.func39 rfl (by decide)
theorem body_41 : Body Tryd.prog 41 := Body.mk Tryd.func41 rfl (by decide)
theorem body_31 : Body Tryd.prog 31 := Body.mk Tryd.func31 rfl (by decide)
theorem body_22 : Body Tryd.prog 22 := Body.mk Tryd.func22 rfl (by decide)
theorem body_23 : Body Tryd.prog 23 := Body.mk Tryd.func23 rfl (by decide)
theorem body_24 : Body Tryd.prog 24 := Body.mk Tryd.func24 rfl (by decide)
theorem body_51 : Body Tryd.prog 51 := Body.mk Tryd.func51 rfl (by decide)
theorem body_47 : Body Tryd.prog 47 := Body.mk Tryd.func47 rfl (by decide)
theorem zero_82 : (Tryd.prog.info? 82).map (·.zero) = some (some (Value.agg #[Value.int .u64 0, Value.int .u64 0, Value.int .u64 0, Value.int .u64 0, Value.int .u64 0, Value.int .u64 0, Value.int .u64 0, Value.int .u64 0])) := by kernel_rfl
theorem bld_82 : Bld Tryd.prog 82 (fun i => some (i * 1, 1)) [.int .u64 0, .int .u64 0, .int .u64 0, .int .u64 0, .int .u64 0, .int .u64 0, .int .u64 0, .int .u64 0] := by intro parts; kernel_rfl
theorem sz_82 : (Tryd.prog.info? 82).map (·.size) = some 8 := by kernel_rfl
theorem agg_82 : Agg Tryd.prog 82 8 := Agg.mk Tryd.underlying82 rfl (by kernel_rfl)
theorem body_53 : Body Tryd.prog 53 := Body.mk Tryd.func53 rfl (by decide)
theorem body_52 : Body Tryd.prog 52 := Body.mk Tryd.func52 rfl (by decide)
theorem body_48 : Body Tryd.prog 48 := Body.mk Tryd.func48 rfl (by decide)
theorem body_38 : Body Tryd.prog 38 := Body.mk Tryd.func38 rfl (by decide)
theorem body_37 : Body Tryd.prog 37 := Body.mk Tryd.func37 rfl (by decide)
theorem body_18 : Body Tryd.prog 18 := Body.mk Tryd.func18 rfl (by decide)
theorem body_30 : Body Tryd.prog 30 := Body.mk Tryd.func30 rfl (by decide)
theorem body_17 : Body Tryd.prog 17 := Body.mk Tryd.func17 rfl (by decide)
theorem body_19 : Body Tryd.prog 19 := Body.mk Tryd.func19 rfl (by decide)
theorem body_20 : Body Tryd.prog 20 := Body.mk Tryd.func20 rfl (by decide)
theorem body_21 : Body Tryd.prog 21 := Body.mk Tryd.func21 rfl (by decide)
end Go.Proofs.YtjjcciefjcfdmaaDoor
