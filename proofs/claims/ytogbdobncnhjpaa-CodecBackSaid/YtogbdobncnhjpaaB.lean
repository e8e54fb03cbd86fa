/- Closed facts of the loaded program: sizes, places, bodies. Printed by a program of ours. -/
import Derived.Test.YtogbdobncnhjpaaA8
import Derived.Test.YtogbdobncnhjpaaRows
import Derived.KernelRfl
namespace Go.Proofs.Ytogbdobncnhjpaa
open Go.RowKit
set_option maxRecDepth 100000
theorem sz_22 : (Try.prog.info? 22).map (·.size) = some 1 := by kernel_rfl
theorem info_5 : (Try.prog.info? 5).map (fun i => (i.zero, i.size, i.bytes)) = some (some (Value.int .u8 0), 1, 1) := by kernel_rfl
theorem one_22 : One Try.prog 22 := One.mk Try.underlying22 rfl
theorem sz_5 : (Try.prog.info? 5).map (·.size) = some 1 := by kernel_rfl
theorem zero_44 : (Try.prog.info? 44).map (·.zero) = some (some (Value.agg #[Value.int .u64 0, Value.int .u64 0, Value.int .u64 0, Value.int .u64 0])) := by kernel_rfl
theorem one_5 : One Try.prog 5 := One.mk Try.underlying5 rfl
theorem mixed : Try.prog.follows .mixedOrders = true := by kernel_rfl
theorem agg_44 : Agg Try.prog 44 4 := Agg.mk Try.underlying44 rfl (by kernel_rfl)
theorem sz_44 : (Try.prog.info? 44).map (·.size) = some 4 := by kernel_rfl
theorem zero_71 : (Try.prog.info? 71).map (·.zero) = some (some (Value.agg #[Value.int .i64 0, Value.int .i64 0, Value.int .i64 0, Value.int .i64 0, Value.int .i64 0, Value.int .i64 0, Value.int .i64 0, Value.int .i64 0, Value.int .i64 0, Value.int .i64 0, Value.int .i64 0, Value.int .i64 0, Value.int .i64 0, Value.int .i64 0, Value.int .i64 0, Value.int .i64 0, Value.int .i64 0, Value.int .i64 0, Value.int .i64 0, Value.int .i64 0, Value.int .i64 0, Value.int .i64 0, Value.int .i64 0, Value.int .i64 0, Value.int .i64 0, Value.int .i64 0, Value.int .i64 0, Value.int .i64 0, Value.int .i64 0, Value.int .i64 0, Value.int .i64 0, Value.int .i64 0, Value.int .i64 0, Value.int .i64 0, Value.int .i64 0, Value.int .i64 0, Value.int .i64 0, Value.int .i64 0, Value.int .i64 0, Value.int .i64 0, Value.int .i64 0, Value.int .i64 0, Value.int .i64 0, Value.int .i64 0, Value.int .i64 0, Value.int .i64 0, Value.int .i64 0, Value.int .i64 0, Value.int .i64 0, Value.int .i64 0, Value.int .i64 0, Value.int .i64 0, Value.int .i64 0, Value.int .i64 0, Value.int .i64 0, Value.int .i64 0, Value.int .i64 0, Value.int .i64 0, Value.int .i64 0, Value.int .i64 0, Value.int .i64 0, Value.int .i64 0, Value.int .i64 0, Value.int .i64 0])) := by kernel_rfl
theorem sz_3 : (Try.prog.info? 3).map (·.size) = some 1 := by kernel_rfl
theorem agg_71 : Agg Try.prog 71 64 := Agg.mk Try.underlying71 rfl (by kernel_rfl)
theorem sz_71 : (Try.prog.info? 71).map (·.size) = some 64 := by kernel_rfl
theorem body_35 : Body Try.prog 35 := Body.mk Try.func35 rfl (by decide)
theorem one_3 : One Try.prog 3 := One.mk Try.underlying3 rfl
theorem body_27 : Body Try.prog 27 := Body.mk Try.func27 rfl (by decide)
theorem body_24 : Body Try.prog 24 := Body.mk Try.func24 rfl (by decide)
theorem fa_27_0 : FA Try.prog 27 0 0 := FA.mk (m := 0) Try.underlying27 rfl rfl (by kernel_rfl)
theorem one_25 : One Try.prog 25 := One.mk Try.underlying25 rfl
theorem sz_25 : (Try.prog.info? 25).map (·.size) = some 1 := by kernel_rfl
theorem bld_44 : Bld Try.prog 44 (fun i => some (i * 1, 1)) [.int .u64 0, .int .u64 0, .int .u64 0, .int .u64 0] := by intro parts; kernel_rfl
theorem body_25 : Body Try.prog 25 := Body.mk Try.func25 rfl (by decide)
theorem body_26 : Body Try.prog 26 := Body.mk Try.func26 rfl (by decide)
theorem body_9 : Body Try.prog 9 := Body.mk Try.func9 rfl (by decide)
theorem body_21 : Body Try.prog 21 := Body.mk Try.func21 rfl (by decide)
theorem body_28 : Body Try.prog 28 := Body.mk Try.func28 rfl (by decide)
theorem bld_64 : Bld Try.prog 64 (fun i => (#[(0, 1), (1, 1)] : Array (Nat × Nat))[i]?) [.slice none 0 0, .int .i64 0] := by intro parts; kernel_rfl
theorem fa_64_1 : FA Try.prog 64 1 1 := FA.mk (m := 0) Try.underlying64 rfl rfl (by kernel_rfl)
theorem one_39 : One Try.prog 39 := One.mk Try.underlying39 rfl
theorem fa_64_0 : FA Try.prog 64 0 0 := FA.mk (m := 0) Try.underlying64 rfl rfl (by kernel_rfl)
theorem sz_39 : (Try.prog.info? 39).map (·.size) = some 1 := by kernel_rfl
theorem body_33 : Body Try.prog 33 := Body.mk Try.func33 rfl (by decide)
theorem body_31 : Body Try.prog 31 := Body.mk Try.func31 rfl (by decide)
theorem body_32 : Body Try.prog 32 := Body.mk Try.func32 rfl (by decide)
theorem body_15 : Body Try.prog 15 := Body.mk Try.func15 rfl (by decide)
theorem body_34 : Body Try.prog 34 := Body.mk Try.func34 rfl (by decide)
theorem body_16 : Body Try.prog 16 := Body.mk Try.func16 rfl (by decide)
theorem info_44 : (Try.prog.info? 44).map (fun i => (i.zero, i.size, i.bytes)) = some (some (Value.agg #[Value.int .u64 0, Value.int .u64 0, Value.int .u64 0, Value.int .u64 0]), 4, 32) := by kernel_rfl
theorem bld_27 : Bld Try.prog 27 (fun i => (#[(0, 1)] : Array (Nat × Nat))[i]?) [.slice none 0 0] := by intro parts; kernel_rfl
theorem body_22 : Body Try.prog 22 := Body.mk Try.func22 rfl (by decide)
theorem body_10 : Body Try.prog 10 := Body.mk Try.func10 rfl (by decide)
theorem body_14 : Body Try.prog 14 := Body.mk Try.func14 rfl (by decide)
theorem body_19 : Body Try.prog 19 := Body.mk Try.func19 rfl (by decide)
theorem body_11 : Body Try.prog 11 := Body.mk Try.func11 rfl (by decide)
theorem body_8 : Body Try.prog 8 := Body.mk Try.func8 rfl (by decide)
theorem sz_41 : (Try.prog.info? 41).map (·.size) = some 3 := by kernel_rfl
theorem fa_41_0 : FA Try.prog 41 0 0 := FA.mk (m := 0) Try.underlying41 rfl rfl (by kernel_rfl)
theorem fa_41_2 : FA Try.prog 41 2 2 := FA.mk (m := 0) Try.underlying41 rfl rfl (by kernel_rfl)
theorem fa_41_1 : FA Try.prog 41 1 1 := FA.mk (m := 0) Try.underlying41 rfl rfl (by kernel_rfl)
theorem body_17 : Body Try.prog 17 := Body.mk Try.func17 rfl (by decide)
theorem body_18 : Body Try.prog 18 := Body.mk Try.func18 rfl (by decide)
theorem body_23 : Body Try.prog 23 := Body.mk Try.func23 rfl (by decide)
theorem sz_52 : (Try.prog.info? 52).map (·.size) = some 8 := by kernel_rfl
theorem fa_52_3 : FA Try.prog 52 3 6 := FA.mk (m := 0) Try.underlying52 rfl rfl (by kernel_rfl)
theorem fa_52_4 : FA Try.prog 52 4 7 := FA.mk (m := 0) Try.underlying52 rfl rfl (by kernel_rfl)
theorem one_47 : One Try.prog 47 := One.mk Try.underlying47 rfl
theorem fa_52_0 : FA Try.prog 52 0 0 := FA.mk (m := 0) Try.underlying52 rfl rfl (by kernel_rfl)
theorem fa_52_1 : FA Try.prog 52 1 1 := FA.mk (m := 0) Try.underlying52 rfl rfl (by kernel_rfl)
theorem fa_52_2 : FA Try.prog 52 2 2 := FA.mk (m := 3) Try.underlying52 rfl rfl (by kernel_rfl)
theorem body_29 : Body Try.prog 29 := Body.mk Try.func29 rfl (by decide)
theorem body_30 : Body Try.prog 30 := Body.mk Try.func30 rfl (by decide)
theorem body_12 : Body Try.prog 12 := Body.mk Try.func12 rfl (by decide)
theorem body_13 : Body Try.prog 13 := Body.mk Try.func13 rfl (by decide)
theorem body_20 : Body Try.prog 20 := Body.mk Try.func20 rfl (by decide)
end Go.Proofs.Ytogbdobncnhjpaa
