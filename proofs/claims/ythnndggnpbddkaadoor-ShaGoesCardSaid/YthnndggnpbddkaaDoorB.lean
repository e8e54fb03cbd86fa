/- Closed facts of the loaded program: sizes, places, bodies. Printed by a program of ours. -/
import Derived.Test.YthnndggnpbddkaaDoorA8
import Derived.Test.YthnndggnpbddkaaDoorRows
import Derived.KernelRfl
namespace Go.Proofs.YthnndggnpbddkaaDoor
open Go.RowKit
set_option maxRecDepth 100000
theorem sz_31 : (Tryd.prog.info? 31).map (·.size) = some 73 := by kernel_rfl
theorem sz_29 : (Tryd.prog.info? 29).map (·.size) = some 1 := by kernel_rfl
theorem sz_5 : (Tryd.prog.info? 5).map (·.size) = some 1 := by kernel_rfl
theorem info_32 : (Tryd.prog.info? 32).map (fun i => (i.zero, i.size, i.bytes)) = some (some (Value.slice none 0 0), 1, 24) := by kernel_rfl
theorem mixed : Tryd.prog.follows .mixedOrders = true := by kernel_rfl
theorem body_21 : Body Tryd.prog 21 := Body.mk Tryd.func21 rfl (by decide)
theorem zero_27 : (Tryd.prog.info? 27).map (·.zero) = some (some (Value.agg #[Value.int .u32 0, Value.int .u32 0, Value.int .u32 0, Value.int .u32 0, Value.int .u32 0, Value.int .u32 0, Value.int .u32 0, Value.int .u32 0])) := by kernel_rfl
theorem fa_31_0 : FA Tryd.prog 31 0 0 := FA.mk (m := 7) Tryd.underlying31 rfl rfl (by kernel_rfl)
theorem agg_27 : Agg Tryd.prog 27 8 := Agg.mk Tryd.underlying27 rfl (by kernel_rfl)
theorem sz_27 : (Tryd.prog.info? 27).map (·.size) = some 8 := by kernel_rfl
theorem sz_26 : (Tryd.prog.info? 26).map (·.size) = some 1 := by kernel_rfl
theorem one_26 : One Tryd.prog 26 := One.mk Tryd.underlying26 rfl
theorem agg_31 : Agg Tryd.prog 31 73 := Agg.mk Tryd.underlying31 rfl (by kernel_rfl)
theorem zero_31 : (Tryd.prog.info? 31).map (·.zero) = some (some (Value.agg #[Value.int .u32 0, Value.int .u32 0, Value.int .u32 0, Value.int .u32 0, Value.int .u32 0, Value.int .u32 0, Value.int .u32 0, Value.int .u32 0, Value.int .u8 0, Value.int .u8 0, Value.int .u8 0, Value.int .u8 0, Value.int .u8 0, Value.int .u8 0, Value.int .u8 0, Value.int .u8 0, Value.int .u8 0, Value.int .u8 0, Value.int .u8 0, Value.int .u8 0, Value.int .u8 0, Value.int .u8 0, Value.int .u8 0, Value.int .u8 0, Value.int .u8 0, Value.int .u8 0, Value.int .u8 0, Value.int .u8 0, Value.int .u8 0, Value.int .u8 0, Value.int .u8 0, Value.int .u8 0, Value.int .u8 0, Value.int .u8 0, Value.int .u8 0, Value.int .u8 0, Value.int .u8 0, Value.int .u8 0, Value.int .u8 0, Value.int .u8 0, Value.int .u8 0, Value.int .u8 0, Value.int .u8 0, Value.int .u8 0, Value.int .u8 0, Value.int .u8 0, Value.int .u8 0, Value.int .u8 0, Value.int .u8 0, Value.int .u8 0, Value.int .u8 0, Value.int .u8 0, Value.int .u8 0, Value.int .u8 0, Value.int .u8 0, Value.int .u8 0, Value.int .u8 0, Value.int .u8 0, Value.int .u8 0, Value.int .u8 0, Value.int .u8 0, Value.int .u8 0, Value.int .u8 0, Value.int .u8 0, Value.int .u8 0, Value.int .u8 0, Value.int .u8 0, Value.int .u8 0, Value.int .u8 0, Value.int .u8 0, Value.int .u8 0, Value.int .u8 0, Value.int .u64 0])) := by kernel_rfl
theorem bld_31 : Bld Tryd.prog 31 (fun i => (#[(0, 8), (8, 64), (72, 1)] : Array (Nat × Nat))[i]?) [.int .u32 0, .int .u32 0, .int .u32 0, .int .u32 0, .int .u32 0, .int .u32 0, .int .u32 0, .int .u32 0, .int .u8 0, .int .u8 0, .int .u8 0, .int .u8 0, .int .u8 0, .int .u8 0, .int .u8 0, .int .u8 0, .int .u8 0, .int .u8 0, .int .u8 0, .int .u8 0, .int .u8 0, .int .u8 0, .int .u8 0, .int .u8 0, .int .u8 0, .int .u8 0, .int .u8 0, .int .u8 0, .int .u8 0, .int .u8 0, .int .u8 0, .int .u8 0, .int .u8 0, .int .u8 0, .int .u8 0, .int .u8 0, .int .u8 0, .int .u8 0, .int .u8 0, .int .u8 0, .int .u8 0, .int .u8 0, .int .u8 0, .int .u8 0, .int .u8 0, .int .u8 0, .int .u8 0, .int .u8 0, .int .u8 0, .int .u8 0, .int .u8 0, .int .u8 0, .int .u8 0, .int .u8 0, .int .u8 0, .int .u8 0, .int .u8 0, .int .u8 0, .int .u8 0, .int .u8 0, .int .u8 0, .int .u8 0, .int .u8 0, .int .u8 0, .int .u8 0, .int .u8 0, .int .u8 0, .int .u8 0, .int .u8 0, .int .u8 0, .int .u8 0, .int .u8 0, .int .u64 0] := by intro parts; kernel_rfl
theorem fa_31_2 : FA Tryd.prog 31 2 72 := FA.mk (m := 0) Tryd.underlying31 rfl rfl (by kernel_rfl)
theorem one_29 : One Tryd.prog 29 := One.mk Tryd.underlying29 rfl
theorem zero_47 : (Tryd.prog.info? 47).map (·.zero) = some (some (Value.agg #[Value.int .u32 0, Value.int .u32 0, Value.int .u32 0, Value.int .u32 0, Value.int .u32 0, Value.int .u32 0, Value.int .u32 0, Value.int .u32 0, Value.int .u32 0, Value.int .u32 0, Value.int .u32 0, Value.int .u32 0, Value.int .u32 0, Value.int .u32 0, Value.int .u32 0, Value.int .u32 0, Value.int .u32 0, Value.int .u32 0, Value.int .u32 0, Value.int .u32 0, Value.int .u32 0, Value.int .u32 0, Value.int .u32 0, Value.int .u32 0, Value.int .u32 0, Value.int .u32 0, Value.int .u32 0, Value.int .u32 0, Value.int .u32 0, Value.int .u32 0, Value.int .u32 0, Value.int .u32 0, Value.int .u32 0, Value.int .u32 0, Value.int .u32 0, Value.int .u32 0, Value.int .u32 0, Value.int .u32 0, Value.int .u32 0, Value.int .u32 0, Value.int .u32 0, Value.int .u32 0, Value.int .u32 0, Value.int .u32 0, Value.int .u32 0, Value.int .u32 0, Value.int .u32 0, Value.int .u32 0, Value.int .u32 0, Value.int .u32 0, Value.int .u32 0, Value.int .u32 0, Value.int .u32 0, Value.int .u32 0, Value.int .u32 0, Value.int .u32 0, Value.int .u32 0, Value.int .u32 0, Value.int .u32 0, Value.int .u32 0, Value.int .u32 0, Value.int .u32 0, Value.int .u32 0, Value.int .u32 0])) := by kernel_rfl
theorem fa_31_1 : FA Tryd.prog 31 1 8 := FA.mk (m := 63) Tryd.underlying31 rfl rfl (by kernel_rfl)
theorem one_5 : One Tryd.prog 5 := One.mk Tryd.underlying5 rfl
theorem body_18 : Body Tryd.prog 18 := Body.mk Tryd.func18 rfl (by decide)
theorem body_15 : Body Tryd.prog 15 := Body.mk Tryd.func15 rfl (by decide)
theorem body_19 : Body Tryd.prog 19 := Body.mk Tryd.func19 rfl (by decide)
theorem bld_27 : Bld Tryd.prog 27 (fun i => some (i * 1, 1)) [.int .u32 0, .int .u32 0, .int .u32 0, .int .u32 0, .int .u32 0, .int .u32 0, .int .u32 0, .int .u32 0] := by intro parts; kernel_rfl
theorem body_16 : Body Tryd.prog 16 := Body.mk Tryd.func16 rfl (by decide)
theorem bld_47 : Bld Tryd.prog 47 (fun i => some (i * 1, 1)) [.int .u32 0, .int .u32 0, .int .u32 0, .int .u32 0, .int .u32 0, .int .u32 0, .int .u32 0, .int .u32 0, .int .u32 0, .int .u32 0, .int .u32 0, .int .u32 0, .int .u32 0, .int .u32 0, .int .u32 0, .int .u32 0, .int .u32 0, .int .u32 0, .int .u32 0, .int .u32 0, .int .u32 0, .int .u32 0, .int .u32 0, .int .u32 0, .int .u32 0, .int .u32 0, .int .u32 0, .int .u32 0, .int .u32 0, .int .u32 0, .int .u32 0, .int .u32 0, .int .u32 0, .int .u32 0, .int .u32 0, .int .u32 0, .int .u32 0, .int .u32 0, .int .u32 0, .int .u32 0, .int .u32 0, .int .u32 0, .int .u32 0, .int .u32 0, .int .u32 0, .int .u32 0, .int .u32 0, .int .u32 0, .int .u32 0, .int .u32 0, .int .u32 0, .int .u32 0, .int .u32 0, .int .u32 0, .int .u32 0, .int .u32 0, .int .u32 0, .int .u32 0, .int .u32 0, .int .u32 0, .int .u32 0, .int .u32 0, .int .u32 0, .int .u32 0] := by intro parts; kernel_rfl
theorem sz_47 : (Tryd.prog.info? 47).map (·.size) = some 64 := by kernel_rfl
theorem body_20 : Body Tryd.prog 20 := Body.mk Tryd.func20 rfl (by decide)
theorem zero_34 : (Tryd.prog.info? 34).map (·.zero) = some (some (Value.agg #[Value.int .u8 0, Value.int .u8 0, Value.int .u8 0, Value.int .u8 0, Value.int .u8 0, Value.int .u8 0, Value.int .u8 0, Value.int .u8 0, Value.int .u8 0, Value.int .u8 0, Value.int .u8 0, Value.int .u8 0, Value.int .u8 0, Value.int .u8 0, Value.int .u8 0, Value.int .u8 0, Value.int .u8 0, Value.int .u8 0, Value.int .u8 0, Value.int .u8 0, Value.int .u8 0, Value.int .u8 0, Value.int .u8 0, Value.int .u8 0, Value.int .u8 0, Value.int .u8 0, Value.int .u8 0, Value.int .u8 0, Value.int .u8 0, Value.int .u8 0, Value.int .u8 0, Value.int .u8 0])) := by kernel_rfl
theorem info_5 : (Tryd.prog.info? 5).map (fun i => (i.zero, i.size, i.bytes)) = some (some (Value.int .u8 0), 1, 1) := by kernel_rfl
theorem body_17 : Body Tryd.prog 17 := Body.mk Tryd.func17 rfl (by decide)
theorem bld_34 : Bld Tryd.prog 34 (fun i => some (i * 1, 1)) [.int .u8 0, .int .u8 0, .int .u8 0, .int .u8 0, .int .u8 0, .int .u8 0, .int .u8 0, .int .u8 0, .int .u8 0, .int .u8 0, .int .u8 0, .int .u8 0, .int .u8 0, .int .u8 0, .int .u8 0, .int .u8 0, .int .u8 0, .int .u8 0, .int .u8 0, .int .u8 0, .int .u8 0, .int .u8 0, .int .u8 0, .int .u8 0, .int .u8 0, .int .u8 0, .int .u8 0, .int .u8 0, .int .u8 0, .int .u8 0, .int .u8 0, .int .u8 0] := by intro parts; kernel_rfl
theorem sz_34 : (Tryd.prog.info? 34).map (·.size) = some 32 := by kernel_rfl
theorem agg_34 : Agg Tryd.prog 34 32 := Agg.mk Tryd.underlying34 rfl (by kernel_rfl)
theorem body_9 : Body Tryd.prog 9 := Body.mk Tryd.func9 rfl (by decide)
theorem body_11 : Body Tryd.prog 11 := Body.mk Tryd.func11 rfl (by decide)
theorem zero_44 : (Tryd.prog.info? 44).map (·.zero) = some (some (Value.agg #[Value.int .u8 0, Value.int .u8 0, Value.int .u8 0, Value.int .u8 0, Value.int .u8 0, Value.int .u8 0, Value.int .u8 0, Value.int .u8 0])) := by kernel_rfl
theorem body_8 : Body Tryd.prog 8 := Body.mk Tryd.func8 rfl (by decide)
theorem body_10 : Body Tryd.prog 10 := Body.mk Tryd.func10 rfl (by decide)
theorem sz_32 : (Tryd.prog.info? 32).map (·.size) = some 1 := by kernel_rfl
theorem one_32 : One Tryd.prog 32 := One.mk Tryd.underlying32 rfl
theorem body_7 : Body Tryd.prog 7 := Body.mk Tryd.func7 rfl (by decide)
theorem body_14 : Body Tryd.prog 14 := Body.mk Tryd.func14 rfl (by decide)
theorem body_13 : Body Tryd.prog 13 := Body.mk Tryd.func13 rfl (by decide)
theorem body_12 : Body Tryd.prog 12 := Body.mk Tryd.func12 rfl (by decide)
end Go.Proofs.YthnndggnpbddkaaDoor
