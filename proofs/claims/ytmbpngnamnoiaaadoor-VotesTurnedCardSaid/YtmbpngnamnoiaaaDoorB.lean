/- Closed facts of the loaded program: sizes, places, bodies. Printed by a program of ours. -/
import Derived.Test.YtmbpngnamnoiaaaDoorK3
import Derived.Test.YtmbpngnamnoiaaaDoorRows
import Derived.KernelRfl
namespace Go.Proofs.YtmbpngnamnoiaaaDoor
open Go.RowKit
set_option maxRecDepth 100000
theorem sz_34 : (Tryd.prog.info? 34).map (·.size) = some 1 := by kernel_rfl
theorem sz_5 : (Tryd.prog.info? 5).map (·.size) = some 1 := by kernel_rfl
theorem mkey_64 : MKey Tryd.prog 3 itK := MKey.int Tryd.underlying3
theorem mkey_65 : MKey Tryd.prog 3 itK := MKey.int Tryd.underlying3
theorem ext_47 (x y c : BitVec 64) (hc : c.toNat ≤ 1) (w : World) : (callFunc 47 #[u64 x, u64 y, u64 c]).run Tryd.prog w = .ok (.value (.tuple #[u64 (x + y + c), u64 (BitVec.ofNat 64 ((x.toNat + y.toNat + c.toNat) / 18446744073709551616))])) w := add64 Tryd.func47 rfl rfl (by kernel_rfl) (by kernel_rfl) x y c hc w
theorem agg_75 : Agg Tryd.prog 75 8 := Agg.mk Tryd.underlying75 rfl (by kernel_rfl)
theorem agg_31 : Agg Tryd.prog 31 32 := Agg.mk Tryd.underlying31 rfl (by kernel_rfl)
theorem sz_3 : (Tryd.prog.info? 3).map (·.size) = some 1 := by kernel_rfl
theorem zero_60 : (Tryd.prog.info? 60).map (·.zero) = some (some (Value.agg #[Value.int .u64 0, Value.int .u64 0, Value.int .u64 0, Value.int .u64 0])) := by kernel_rfl
theorem one_34 : One Tryd.prog 34 := One.mk Tryd.underlying34 rfl
theorem mixed : Tryd.prog.follows .mixedOrders = true := by kernel_rfl
theorem agg_60 : Agg Tryd.prog 60 4 := Agg.mk Tryd.underlying60 rfl (by kernel_rfl)
theorem sz_60 : (Tryd.prog.info? 60).map (·.size) = some 4 := by kernel_rfl
theorem bld_60 : Bld Tryd.prog 60 (fun i => some (i * 1, 1)) [.int .u64 0, .int .u64 0, .int .u64 0, .int .u64 0] := by intro parts; kernel_rfl
theorem body_42 : Body Tryd.prog 42 := Body.mk Tryd.func42 rfl (by decide)
theorem zero_75 : (Tryd.prog.info? 75).map (·.zero) = some (some (Value.agg #[Value.int .u64 0, Value.int .u64 0, Value.int .u64 0, Value.int .u64 0, Value.int .u64 0, Value.int .u64 0, Value.int .u64 0, Value.int .u64 0])) := by kernel_rfl
theorem body_46 : Body Tryd.prog 46 := Body.mk Tryd.func46 rfl (by decide)
theorem sz_75 : (Tryd.prog.info? 75).map (·.size) = some 8 := by kernel_rfl
theorem body_38 : Body Tryd.prog 38 := Body.mk Tryd.func38 rfl (by decide)
theorem body_31 : Body Tryd.prog 31 := Body.mk Tryd.func31 rfl (by decide)
theorem info_34 : (Tryd.prog.info? 34).map (fun i => (i.zero, i.size, i.bytes)) = some (some (Value.int .u64 0), 1, 8) := by kernel_rfl
theorem one_25 : One Tryd.prog 25 := One.mk Tryd.underlying25 rfl
theorem fa_67_0 : FA Tryd.prog 67 0 0 := FA.mk (m := 0) Tryd.underlying67 rfl rfl (by kernel_rfl)
theorem one_22 : One Tryd.prog 22 := One.mk Tryd.underlying22 rfl
theorem zero_31 : (Tryd.prog.info? 31).map (·.zero) = some (some (Value.agg #[Value.int .u8 0, Value.int .u8 0, Value.int .u8 0, Value.int .u8 0, Value.int .u8 0, Value.int .u8 0, Value.int .u8 0, Value.int .u8 0, Value.int .u8 0, Value.int .u8 0, Value.int .u8 0, Value.int .u8 0, Value.int .u8 0, Value.int .u8 0, Value.int .u8 0, Value.int .u8 0, Value.int .u8 0, Value.int .u8 0, Value.int .u8 0, Value.int .u8 0, Value.int .u8 0, Value.int .u8 0, Value.int .u8 0, Value.int .u8 0, Value.int .u8 0, Value.int .u8 0, Value.int .u8 0, Value.int .u8 0, Value.int .u8 0, Value.int .u8 0, Value.int .u8 0, Value.int .u8 0])) := by kernel_rfl
theorem sz_31 : (Tryd.prog.info? 31).map (·.size) = some 32 := by kernel_rfl
theorem body_34 : Body Tryd.prog 34 := Body.mk Tryd.func34 rfl (by decide)
theorem body_35 : Body Tryd.prog 35 := Body.mk Tryd.func35 rfl (by decide)
theorem fa_67_2 : FA Tryd.prog 67 2 2 := FA.mk (m := 0) Tryd.underlying67 rfl rfl (by kernel_rfl)
theorem one_64 : One Tryd.prog 64 := One.mk Tryd.underlying64 rfl
theorem body_33 : Body Tryd.prog 33 := Body.mk Tryd.func33 rfl (by decide)
theorem zf_31 : (Tryd.prog.info? 31).bind (·.zero) = some (Value.agg #[Value.int .u8 0, Value.int .u8 0, Value.int .u8 0, Value.int .u8 0, Value.int .u8 0, Value.int .u8 0, Value.int .u8 0, Value.int .u8 0, Value.int .u8 0, Value.int .u8 0, Value.int .u8 0, Value.int .u8 0, Value.int .u8 0, Value.int .u8 0, Value.int .u8 0, Value.int .u8 0, Value.int .u8 0, Value.int .u8 0, Value.int .u8 0, Value.int .u8 0, Value.int .u8 0, Value.int .u8 0, Value.int .u8 0, Value.int .u8 0, Value.int .u8 0, Value.int .u8 0, Value.int .u8 0, Value.int .u8 0, Value.int .u8 0, Value.int .u8 0, Value.int .u8 0, Value.int .u8 0]) := by kernel_rfl
theorem bld_31 : Bld Tryd.prog 31 (fun i => some (i * 1, 1)) [.int .u8 0, .int .u8 0, .int .u8 0, .int .u8 0, .int .u8 0, .int .u8 0, .int .u8 0, .int .u8 0, .int .u8 0, .int .u8 0, .int .u8 0, .int .u8 0, .int .u8 0, .int .u8 0, .int .u8 0, .int .u8 0, .int .u8 0, .int .u8 0, .int .u8 0, .int .u8 0, .int .u8 0, .int .u8 0, .int .u8 0, .int .u8 0, .int .u8 0, .int .u8 0, .int .u8 0, .int .u8 0, .int .u8 0, .int .u8 0, .int .u8 0, .int .u8 0] := by intro parts; kernel_rfl
theorem fa_67_1 : FA Tryd.prog 67 1 1 := FA.mk (m := 0) Tryd.underlying67 rfl rfl (by kernel_rfl)
theorem body_12 : Body Tryd.prog 12 := Body.mk Tryd.func12 rfl (by decide)
theorem body_20 : Body Tryd.prog 20 := Body.mk Tryd.func20 rfl (by decide)
theorem body_13 : Body Tryd.prog 13 := Body.mk Tryd.func13 rfl (by decide)
theorem fa_67_3 : FA Tryd.prog 67 3 3 := FA.mk (m := 0) Tryd.underlying67 rfl rfl (by kernel_rfl)
theorem one_65 : One Tryd.prog 65 := One.mk Tryd.underlying65 rfl
theorem body_30 : Body Tryd.prog 30 := Body.mk Tryd.func30 rfl (by decide)
theorem bld_67 : Bld Tryd.prog 67 (fun i => (#[(0, 1), (1, 1), (2, 1), (3, 1)] : Array (Nat × Nat))[i]?) [.slice none 0 0, .int .u64 0, .map none, .map none] := by intro parts; kernel_rfl
theorem body_32 : Body Tryd.prog 32 := Body.mk Tryd.func32 rfl (by decide)
theorem zero_78 : (Tryd.prog.info? 78).map (·.zero) = some (some (Value.agg #[Value.int .i64 0, Value.int .i64 0, Value.int .i64 0, Value.int .i64 0, Value.int .i64 0, Value.int .i64 0, Value.int .i64 0, Value.int .i64 0, Value.int .i64 0, Value.int .i64 0, Value.int .i64 0, Value.int .i64 0, Value.int .i64 0, Value.int .i64 0, Value.int .i64 0, Value.int .i64 0, Value.int .i64 0, Value.int .i64 0, Value.int .i64 0, Value.int .i64 0, Value.int .i64 0, Value.int .i64 0, Value.int .i64 0, Value.int .i64 0, Value.int .i64 0, Value.int .i64 0, Value.int .i64 0, Value.int .i64 0, Value.int .i64 0, Value.int .i64 0, Value.int .i64 0, Value.int .i64 0, Value.int .i64 0, Value.int .i64 0, Value.int .i64 0, Value.int .i64 0, Value.int .i64 0, Value.int .i64 0, Value.int .i64 0, Value.int .i64 0, Value.int .i64 0, Value.int .i64 0, Value.int .i64 0, Value.int .i64 0, Value.int .i64 0, Value.int .i64 0, Value.int .i64 0, Value.int .i64 0, Value.int .i64 0, Value.int .i64 0, Value.int .i64 0, Value.int .i64 0, Value.int .i64 0, Value.int .i64 0, Value.int .i64 0, Value.int .i64 0, Value.int .i64 0, Value.int .i64 0, Value.int .i64 0, Value.int .i64 0, Value.int .i64 0, Value.int .i64 0, Value.int .i64 0, Value.int .i64 0])) := by kernel_rfl
theorem one_3 : One Tryd.prog 3 := One.mk Tryd.underlying3 rfl
theorem agg_78 : Agg Tryd.prog 78 64 := Agg.mk Tryd.underlying78 rfl (by kernel_rfl)
theorem sz_78 : (Tryd.prog.info? 78).map (·.size) = some 64 := by kernel_rfl
theorem body_49 : Body Tryd.prog 49 := Body.mk Tryd.func49 rfl (by decide)
theorem body_66 : Body Tryd.prog 66 := Body.mk Tryd.func66 rfl (by decide)
theorem body_67 : Body Tryd.prog 67 := Body.mk Tryd.func67 rfl (by decide)
theorem body_54 : Body Tryd.prog 54 := Body.mk Tryd.func54 rfl (by decide)
theorem body_48 : Body Tryd.prog 48 := Body.mk Tryd.func48 rfl (by decide)
theorem body_40 : Body Tryd.prog 40 := Body.mk Tryd.func40 rfl (by decide)
theorem body_39 : Body Tryd.prog 39 := Body.mk Tryd.func39 rfl (by decide)
theorem body_50 : Body Tryd.prog 50 := Body.mk Tryd.func50 rfl (by decide)
theorem body_41 : Body Tryd.prog 41 := Body.mk Tryd.func41 rfl (by decide)
theorem bld_56 : Bld Tryd.prog 56 (fun i => (#[(0, 1), (1, 1), (2, 1), (3, 1)] : Array (Nat × Nat))[i]?) [.slice none 0 0, .slice none 0 0, .slice none 0 0, .slice none 0 0] := by intro parts; kernel_rfl
theorem info_4 : (Tryd.prog.info? 4).map (fun i => (i.zero, i.size, i.bytes)) = some (some (Value.bool false), 1, 1) := by kernel_rfl
theorem info_31 : (Tryd.prog.info? 31).map (fun i => (i.zero, i.size, i.bytes)) = some (some (Value.agg #[Value.int .u8 0, Value.int .u8 0, Value.int .u8 0, Value.int .u8 0, Value.int .u8 0, Value.int .u8 0, Value.int .u8 0, Value.int .u8 0, Value.int .u8 0, Value.int .u8 0, Value.int .u8 0, Value.int .u8 0, Value.int .u8 0, Value.int .u8 0, Value.int .u8 0, Value.int .u8 0, Value.int .u8 0, Value.int .u8 0, Value.int .u8 0, Value.int .u8 0, Value.int .u8 0, Value.int .u8 0, Value.int .u8 0, Value.int .u8 0, Value.int .u8 0, Value.int .u8 0, Value.int .u8 0, Value.int .u8 0, Value.int .u8 0, Value.int .u8 0, Value.int .u8 0, Value.int .u8 0]), 32, 32) := by kernel_rfl
theorem fa_56_0 : FA Tryd.prog 56 0 0 := FA.mk (m := 0) Tryd.underlying56 rfl rfl (by kernel_rfl)
theorem fa_56_1 : FA Tryd.prog 56 1 1 := FA.mk (m := 0) Tryd.underlying56 rfl rfl (by kernel_rfl)
theorem one_53 : One Tryd.prog 53 := One.mk Tryd.underlying53 rfl
theorem sz_4 : (Tryd.prog.info? 4).map (·.size) = some 1 := by kernel_rfl
theorem one_4 : One Tryd.prog 4 := One.mk Tryd.underlying4 rfl
theorem fa_56_2 : FA Tryd.prog 56 2 2 := FA.mk (m := 0) Tryd.underlying56 rfl rfl (by kernel_rfl)
theorem one_54 : One Tryd.prog 54 := One.mk Tryd.underlying54 rfl
theorem fa_56_3 : FA Tryd.prog 56 3 3 := FA.mk (m := 0) Tryd.underlying56 rfl rfl (by kernel_rfl)
theorem body_17 : Body Tryd.prog 17 := Body.mk Tryd.func17 rfl (by decide)
theorem body_26 : Body Tryd.prog 26 := Body.mk Tryd.func26 rfl (by decide)
theorem body_21 : Body Tryd.prog 21 := Body.mk Tryd.func21 rfl (by decide)
theorem info_3 : (Tryd.prog.info? 3).map (fun i => (i.zero, i.size, i.bytes)) = some (some (Value.int .i64 0), 1, 8) := by kernel_rfl
theorem body_16 : Body Tryd.prog 16 := Body.mk Tryd.func16 rfl (by decide)
theorem body_37 : Body Tryd.prog 37 := Body.mk Tryd.func37 rfl (by decide)
theorem body_36 : Body Tryd.prog 36 := Body.mk Tryd.func36 rfl (by decide)
theorem body_9 : Body Tryd.prog 9 := Body.mk Tryd.func9 rfl (by decide)
theorem body_10 : Body Tryd.prog 10 := Body.mk Tryd.func10 rfl (by decide)
theorem body_11 : Body Tryd.prog 11 := Body.mk Tryd.func11 rfl (by decide)
theorem body_14 : Body Tryd.prog 14 := Body.mk Tryd.func14 rfl (by decide)
theorem body_28 : Body Tryd.prog 28 := Body.mk Tryd.func28 rfl (by decide)
theorem body_8 : Body Tryd.prog 8 := Body.mk Tryd.func8 rfl (by decide)
theorem body_18 : Body Tryd.prog 18 := Body.mk Tryd.func18 rfl (by decide)
theorem sz_42 : (Tryd.prog.info? 42).map (·.size) = some 33 := by kernel_rfl
theorem fa_42_0 : FA Tryd.prog 42 0 0 := FA.mk (m := 0) Tryd.underlying42 rfl rfl (by kernel_rfl)
theorem fa_42_1 : FA Tryd.prog 42 1 1 := FA.mk (m := 31) Tryd.underlying42 rfl rfl (by kernel_rfl)
theorem body_19 : Body Tryd.prog 19 := Body.mk Tryd.func19 rfl (by decide)
theorem body_15 : Body Tryd.prog 15 := Body.mk Tryd.func15 rfl (by decide)
theorem one_5 : One Tryd.prog 5 := One.mk Tryd.underlying5 rfl
theorem body_22 : Body Tryd.prog 22 := Body.mk Tryd.func22 rfl (by decide)
theorem body_23 : Body Tryd.prog 23 := Body.mk Tryd.func23 rfl (by decide)
theorem body_24 : Body Tryd.prog 24 := Body.mk Tryd.func24 rfl (by decide)
theorem body_25 : Body Tryd.prog 25 := Body.mk Tryd.func25 rfl (by decide)
theorem body_27 : Body Tryd.prog 27 := Body.mk Tryd.func27 rfl (by decide)
theorem body_29 : Body Tryd.prog 29 := Body.mk Tryd.func29 rfl (by decide)
end Go.Proofs.YtmbpngnamnoiaaaDoor
