/- Closed facts of the loaded program: sizes, places, bodies. Printed by a program of ours. -/
import Derived.Test.YtganfkmkapogmaaDoorK3
import Derived.Test.YtganfkmkapogmaaDoorRows
import Derived.KernelRfl
namespace Go.Proofs.YtganfkmkapogmaaDoor
open Go.RowKit
set_option maxRecDepth 100000
theorem sz_68 : (Tryd.prog.info? 68).map (·.size) = some 73 := by kernel_rfl
theorem sz_57 : (Tryd.prog.info? 57).map (·.size) = some 1 := by kernel_rfl
theorem sz_5 : (Tryd.prog.info? 5).map (·.size) = some 1 := by kernel_rfl
theorem info_22 : (Tryd.prog.info? 22).map (fun i => (i.zero, i.size, i.bytes)) = some (some (Value.slice none 0 0), 1, 24) := by kernel_rfl
theorem bld_51 : Bld Tryd.prog 51 (fun i => (#[(0, 1)] : Array (Nat × Nat))[i]?) [.slice none 0 0] := by intro parts; kernel_rfl
theorem mixed : Tryd.prog.follows .mixedOrders = true := by kernel_rfl
theorem body_39 : Body Tryd.prog 39 := Body.mk Tryd.func39 rfl (by decide)
theorem zero_59 : (Tryd.prog.info? 59).map (·.zero) = some (some (Value.agg #[Value.int .u32 0, Value.int .u32 0, Value.int .u32 0, Value.int .u32 0, Value.int .u32 0, Value.int .u32 0, Value.int .u32 0, Value.int .u32 0])) := by kernel_rfl
theorem fa_68_0 : FA Tryd.prog 68 0 0 := FA.mk (m := 7) Tryd.underlying68 rfl rfl (by kernel_rfl)
theorem agg_59 : Agg Tryd.prog 59 8 := Agg.mk Tryd.underlying59 rfl (by kernel_rfl)
theorem sz_59 : (Tryd.prog.info? 59).map (·.size) = some 8 := by kernel_rfl
theorem sz_58 : (Tryd.prog.info? 58).map (·.size) = some 1 := by kernel_rfl
theorem one_58 : One Tryd.prog 58 := One.mk Tryd.underlying58 rfl
theorem agg_68 : Agg Tryd.prog 68 73 := Agg.mk Tryd.underlying68 rfl (by kernel_rfl)
theorem zero_68 : (Tryd.prog.info? 68).map (·.zero) = some (some (Value.agg #[Value.int .u32 0, Value.int .u32 0, Value.int .u32 0, Value.int .u32 0, Value.int .u32 0, Value.int .u32 0, Value.int .u32 0, Value.int .u32 0, Value.int .u8 0, Value.int .u8 0, Value.int .u8 0, Value.int .u8 0, Value.int .u8 0, Value.int .u8 0, Value.int .u8 0, Value.int .u8 0, Value.int .u8 0, Value.int .u8 0, Value.int .u8 0, Value.int .u8 0, Value.int .u8 0, Value.int .u8 0, Value.int .u8 0, Value.int .u8 0, Value.int .u8 0, Value.int .u8 0, Value.int .u8 0, Value.int .u8 0, Value.int .u8 0, Value.int .u8 0, Value.int .u8 0, Value.int .u8 0, Value.int .u8 0, Value.int .u8 0, Value.int .u8 0, Value.int .u8 0, Value.int .u8 0, Value.int .u8 0, Value.int .u8 0, Value.int .u8 0, Value.int .u8 0, Value.int .u8 0, Value.int .u8 0, Value.int .u8 0, Value.int .u8 0, Value.int .u8 0, Value.int .u8 0, Value.int .u8 0, Value.int .u8 0, Value.int .u8 0, Value.int .u8 0, Value.int .u8 0, Value.int .u8 0, Value.int .u8 0, Value.int .u8 0, Value.int .u8 0, Value.int .u8 0, Value.int .u8 0, Value.int .u8 0, Value.int .u8 0, Value.int .u8 0, Value.int .u8 0, Value.int .u8 0, Value.int .u8 0, Value.int .u8 0, Value.int .u8 0, Value.int .u8 0, Value.int .u8 0, Value.int .u8 0, Value.int .u8 0, Value.int .u8 0, Value.int .u8 0, Value.int .u64 0])) := by kernel_rfl
theorem zero_64 : (Tryd.prog.info? 64).map (·.zero) = some (some (Value.agg #[Value.int .u32 0, Value.int .u32 0, Value.int .u32 0, Value.int .u32 0, Value.int .u32 0, Value.int .u32 0, Value.int .u32 0, Value.int .u32 0, Value.int .u32 0, Value.int .u32 0, Value.int .u32 0, Value.int .u32 0, Value.int .u32 0, Value.int .u32 0, Value.int .u32 0, Value.int .u32 0, Value.int .u32 0, Value.int .u32 0, Value.int .u32 0, Value.int .u32 0, Value.int .u32 0, Value.int .u32 0, Value.int .u32 0, Value.int .u32 0, Value.int .u32 0, Value.int .u32 0, Value.int .u32 0, Value.int .u32 0, Value.int .u32 0, Value.int .u32 0, Value.int .u32 0, Value.int .u32 0, Value.int .u32 0, Value.int .u32 0, Value.int .u32 0, Value.int .u32 0, Value.int .u32 0, Value.int .u32 0, Value.int .u32 0, Value.int .u32 0, Value.int .u32 0, Value.int .u32 0, Value.int .u32 0, Value.int .u32 0, Value.int .u32 0, Value.int .u32 0, Value.int .u32 0, Value.int .u32 0, Value.int .u32 0, Value.int .u32 0, Value.int .u32 0, Value.int .u32 0, Value.int .u32 0, Value.int .u32 0, Value.int .u32 0, Value.int .u32 0, Value.int .u32 0, Value.int .u32 0, Value.int .u32 0, Value.int .u32 0, Value.int .u32 0, Value.int .u32 0, Value.int .u32 0, Value.int .u32 0])) := by kernel_rfl
theorem fa_68_1 : FA Tryd.prog 68 1 8 := FA.mk (m := 63) Tryd.underlying68 rfl rfl (by kernel_rfl)
theorem one_5 : One Tryd.prog 5 := One.mk Tryd.underlying5 rfl
theorem body_37 : Body Tryd.prog 37 := Body.mk Tryd.func37 rfl (by decide)
theorem body_36 : Body Tryd.prog 36 := Body.mk Tryd.func36 rfl (by decide)
theorem body_38 : Body Tryd.prog 38 := Body.mk Tryd.func38 rfl (by decide)
theorem bld_59 : Bld Tryd.prog 59 (fun i => some (i * 1, 1)) [.int .u32 0, .int .u32 0, .int .u32 0, .int .u32 0, .int .u32 0, .int .u32 0, .int .u32 0, .int .u32 0] := by intro parts; kernel_rfl
theorem fa_68_2 : FA Tryd.prog 68 2 72 := FA.mk (m := 0) Tryd.underlying68 rfl rfl (by kernel_rfl)
theorem one_57 : One Tryd.prog 57 := One.mk Tryd.underlying57 rfl
theorem body_34 : Body Tryd.prog 34 := Body.mk Tryd.func34 rfl (by decide)
theorem bld_64 : Bld Tryd.prog 64 (fun i => some (i * 1, 1)) [.int .u32 0, .int .u32 0, .int .u32 0, .int .u32 0, .int .u32 0, .int .u32 0, .int .u32 0, .int .u32 0, .int .u32 0, .int .u32 0, .int .u32 0, .int .u32 0, .int .u32 0, .int .u32 0, .int .u32 0, .int .u32 0, .int .u32 0, .int .u32 0, .int .u32 0, .int .u32 0, .int .u32 0, .int .u32 0, .int .u32 0, .int .u32 0, .int .u32 0, .int .u32 0, .int .u32 0, .int .u32 0, .int .u32 0, .int .u32 0, .int .u32 0, .int .u32 0, .int .u32 0, .int .u32 0, .int .u32 0, .int .u32 0, .int .u32 0, .int .u32 0, .int .u32 0, .int .u32 0, .int .u32 0, .int .u32 0, .int .u32 0, .int .u32 0, .int .u32 0, .int .u32 0, .int .u32 0, .int .u32 0, .int .u32 0, .int .u32 0, .int .u32 0, .int .u32 0, .int .u32 0, .int .u32 0, .int .u32 0, .int .u32 0, .int .u32 0, .int .u32 0, .int .u32 0, .int .u32 0, .int .u32 0, .int .u32 0, .int .u32 0, .int .u32 0] := by intro parts; kernel_rfl
theorem sz_64 : (Tryd.prog.info? 64).map (·.size) = some 64 := by kernel_rfl
theorem body_31 : Body Tryd.prog 31 := Body.mk Tryd.func31 rfl (by decide)
theorem zero_53 : (Tryd.prog.info? 53).map (·.zero) = some (some (Value.agg #[Value.int .u8 0, Value.int .u8 0, Value.int .u8 0, Value.int .u8 0, Value.int .u8 0, Value.int .u8 0, Value.int .u8 0, Value.int .u8 0, Value.int .u8 0, Value.int .u8 0, Value.int .u8 0, Value.int .u8 0, Value.int .u8 0, Value.int .u8 0, Value.int .u8 0, Value.int .u8 0, Value.int .u8 0, Value.int .u8 0, Value.int .u8 0, Value.int .u8 0, Value.int .u8 0, Value.int .u8 0, Value.int .u8 0, Value.int .u8 0, Value.int .u8 0, Value.int .u8 0, Value.int .u8 0, Value.int .u8 0, Value.int .u8 0, Value.int .u8 0, Value.int .u8 0, Value.int .u8 0])) := by kernel_rfl
theorem info_5 : (Tryd.prog.info? 5).map (fun i => (i.zero, i.size, i.bytes)) = some (some (Value.int .u8 0), 1, 1) := by kernel_rfl
theorem body_28 : Body Tryd.prog 28 := Body.mk Tryd.func28 rfl (by decide)
theorem bld_53 : Bld Tryd.prog 53 (fun i => some (i * 1, 1)) [.int .u8 0, .int .u8 0, .int .u8 0, .int .u8 0, .int .u8 0, .int .u8 0, .int .u8 0, .int .u8 0, .int .u8 0, .int .u8 0, .int .u8 0, .int .u8 0, .int .u8 0, .int .u8 0, .int .u8 0, .int .u8 0, .int .u8 0, .int .u8 0, .int .u8 0, .int .u8 0, .int .u8 0, .int .u8 0, .int .u8 0, .int .u8 0, .int .u8 0, .int .u8 0, .int .u8 0, .int .u8 0, .int .u8 0, .int .u8 0, .int .u8 0, .int .u8 0] := by intro parts; kernel_rfl
theorem sz_53 : (Tryd.prog.info? 53).map (·.size) = some 32 := by kernel_rfl
theorem agg_53 : Agg Tryd.prog 53 32 := Agg.mk Tryd.underlying53 rfl (by kernel_rfl)
theorem body_35 : Body Tryd.prog 35 := Body.mk Tryd.func35 rfl (by decide)
theorem body_32 : Body Tryd.prog 32 := Body.mk Tryd.func32 rfl (by decide)
theorem zero_73 : (Tryd.prog.info? 73).map (·.zero) = some (some (Value.agg #[Value.int .u8 0, Value.int .u8 0, Value.int .u8 0, Value.int .u8 0, Value.int .u8 0, Value.int .u8 0, Value.int .u8 0, Value.int .u8 0])) := by kernel_rfl
theorem sz_22 : (Tryd.prog.info? 22).map (·.size) = some 1 := by kernel_rfl
theorem one_22 : One Tryd.prog 22 := One.mk Tryd.underlying22 rfl
theorem body_33 : Body Tryd.prog 33 := Body.mk Tryd.func33 rfl (by decide)
theorem body_16 : Body Tryd.prog 16 := Body.mk Tryd.func16 rfl (by decide)
theorem body_29 : Body Tryd.prog 29 := Body.mk Tryd.func29 rfl (by decide)
theorem body_30 : Body Tryd.prog 30 := Body.mk Tryd.func30 rfl (by decide)
theorem body_24 : Body Tryd.prog 24 := Body.mk Tryd.func24 rfl (by decide)
theorem body_23 : Body Tryd.prog 23 := Body.mk Tryd.func23 rfl (by decide)
theorem body_26 : Body Tryd.prog 26 := Body.mk Tryd.func26 rfl (by decide)
theorem body_27 : Body Tryd.prog 27 := Body.mk Tryd.func27 rfl (by decide)
theorem zero_24 : (Tryd.prog.info? 24).map (·.zero) = some (some (Value.slice none 0 0)) := by kernel_rfl
theorem zero_3 : (Tryd.prog.info? 3).map (·.zero) = some (some (Value.int .i64 0)) := by kernel_rfl
theorem body_21 : Body Tryd.prog 21 := Body.mk Tryd.func21 rfl (by decide)
theorem body_25 : Body Tryd.prog 25 := Body.mk Tryd.func25 rfl (by decide)
theorem one_24 : One Tryd.prog 24 := One.mk Tryd.underlying24 rfl
theorem body_22 : Body Tryd.prog 22 := Body.mk Tryd.func22 rfl (by decide)
theorem sz_24 : (Tryd.prog.info? 24).map (·.size) = some 1 := by kernel_rfl
theorem sz_3 : (Tryd.prog.info? 3).map (·.size) = some 1 := by kernel_rfl
theorem one_3 : One Tryd.prog 3 := One.mk Tryd.underlying3 rfl
theorem body_17 : Body Tryd.prog 17 := Body.mk Tryd.func17 rfl (by decide)
theorem body_9 : Body Tryd.prog 9 := Body.mk Tryd.func9 rfl (by decide)
theorem fa_51_0 : FA Tryd.prog 51 0 0 := FA.mk (m := 0) Tryd.underlying51 rfl rfl (by kernel_rfl)
theorem body_12 : Body Tryd.prog 12 := Body.mk Tryd.func12 rfl (by decide)
theorem body_18 : Body Tryd.prog 18 := Body.mk Tryd.func18 rfl (by decide)
theorem body_19 : Body Tryd.prog 19 := Body.mk Tryd.func19 rfl (by decide)
theorem body_11 : Body Tryd.prog 11 := Body.mk Tryd.func11 rfl (by decide)
theorem body_20 : Body Tryd.prog 20 := Body.mk Tryd.func20 rfl (by decide)
theorem body_13 : Body Tryd.prog 13 := Body.mk Tryd.func13 rfl (by decide)
theorem body_14 : Body Tryd.prog 14 := Body.mk Tryd.func14 rfl (by decide)
theorem body_15 : Body Tryd.prog 15 := Body.mk Tryd.func15 rfl (by decide)
theorem body_8 : Body Tryd.prog 8 := Body.mk Tryd.func8 rfl (by decide)
theorem body_10 : Body Tryd.prog 10 := Body.mk Tryd.func10 rfl (by decide)
theorem info_3 : (Tryd.prog.info? 3).map (fun i => (i.zero, i.size, i.bytes)) = some (some (Value.int .i64 0), 1, 8) := by kernel_rfl
theorem sz_37 : (Tryd.prog.info? 37).map (·.size) = some 4 := by kernel_rfl
theorem agg_37 : Agg Tryd.prog 37 4 := Agg.mk Tryd.underlying37 rfl (by kernel_rfl)
theorem zero_37 : (Tryd.prog.info? 37).map (·.zero) = some (some (Value.agg #[Value.slice none 0 0, Value.int .i64 0, Value.bool false, Value.bool false])) := by kernel_rfl
theorem fa_37_0 : FA Tryd.prog 37 0 0 := FA.mk (m := 0) Tryd.underlying37 rfl rfl (by kernel_rfl)
theorem fa_37_2 : FA Tryd.prog 37 2 2 := FA.mk (m := 0) Tryd.underlying37 rfl rfl (by kernel_rfl)
theorem one_4 : One Tryd.prog 4 := One.mk Tryd.underlying4 rfl
theorem fa_37_1 : FA Tryd.prog 37 1 1 := FA.mk (m := 0) Tryd.underlying37 rfl rfl (by kernel_rfl)
theorem fa_37_3 : FA Tryd.prog 37 3 3 := FA.mk (m := 0) Tryd.underlying37 rfl rfl (by kernel_rfl)
end Go.Proofs.YtganfkmkapogmaaDoor
