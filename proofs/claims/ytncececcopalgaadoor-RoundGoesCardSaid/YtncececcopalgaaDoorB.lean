/- Closed facts of the loaded program: sizes, places, bodies. Printed by a program of ours. -/
import Derived.Test.YtncececcopalgaaDoorK3
import Derived.Test.YtncececcopalgaaDoorRows
import Derived.KernelRfl
namespace Go.Proofs.YtncececcopalgaaDoor
open Go.RowKit
set_option maxRecDepth 100000
theorem sz_48 : (Tryd.prog.info? 48).map (·.size) = some 1 := by kernel_rfl
theorem sz_5 : (Tryd.prog.info? 5).map (·.size) = some 1 := by kernel_rfl
theorem mkey_91 : MKey Tryd.prog 3 itK := MKey.int Tryd.underlying3
theorem mkey_92 : MKey Tryd.prog 3 itK := MKey.int Tryd.underlying3
theorem sz_3 : (Tryd.prog.info? 3).map (·.size) = some 1 := by kernel_rfl
theorem mkey_73 : MKey Tryd.prog 3 itK := MKey.int Tryd.underlying3
theorem mkey_74 : MKey Tryd.prog 103 k2V := MKey.two Tryd.underlying103 Tryd.underlying3 Tryd.underlying3 rfl rfl (by decide) (by decide) (by kernel_rfl)
theorem mkey_75 : MKey Tryd.prog 103 k2V := MKey.two Tryd.underlying103 Tryd.underlying3 Tryd.underlying3 rfl rfl (by decide) (by decide) (by kernel_rfl)
theorem ext_50 (x y c : BitVec 64) (hc : c.toNat ≤ 1) (w : World) : (callFunc 50 #[u64 x, u64 y, u64 c]).run Tryd.prog w = .ok (.value (.tuple #[u64 (x + y + c), u64 (BitVec.ofNat 64 ((x.toNat + y.toNat + c.toNat) / 18446744073709551616))])) w := add64 Tryd.func50 rfl rfl (by kernel_rfl) (by kernel_rfl) x y c hc w
theorem agg_105 : Agg Tryd.prog 105 8 := Agg.mk Tryd.underlying105 rfl (by kernel_rfl)
theorem agg_24 : Agg Tryd.prog 24 32 := Agg.mk Tryd.underlying24 rfl (by kernel_rfl)
theorem body_42 : Body Tryd.prog 42 := Body.mk Tryd.func42 rfl (by decide)
theorem body_43 : Body Tryd.prog 43 := Body.mk Tryd.func43 rfl (by decide)
theorem body_44 : Body Tryd.prog 44 := Body.mk Tryd.func44 rfl (by decide)
theorem body_45 : Body Tryd.prog 45 := Body.mk Tryd.func45 rfl (by decide)
theorem body_46 : Body Tryd.prog 46 := Body.mk Tryd.func46 rfl (by decide)
theorem body_47 : Body Tryd.prog 47 := Body.mk Tryd.func47 rfl (by decide)
theorem body_48 : Body Tryd.prog 48 := Body.mk Tryd.func48 rfl (by decide)
theorem zero_88 : (Tryd.prog.info? 88).map (·.zero) = some (some (Value.agg #[Value.int .u64 0, Value.int .u64 0, Value.int .u64 0, Value.int .u64 0])) := by kernel_rfl
theorem one_48 : One Tryd.prog 48 := One.mk Tryd.underlying48 rfl
theorem mixed : Tryd.prog.follows .mixedOrders = true := by kernel_rfl
theorem agg_88 : Agg Tryd.prog 88 4 := Agg.mk Tryd.underlying88 rfl (by kernel_rfl)
theorem sz_88 : (Tryd.prog.info? 88).map (·.size) = some 4 := by kernel_rfl
theorem bld_88 : Bld Tryd.prog 88 (fun i => some (i * 1, 1)) [.int .u64 0, .int .u64 0, .int .u64 0, .int .u64 0] := by intro parts; kernel_rfl
theorem body_41 : Body Tryd.prog 41 := Body.mk Tryd.func41 rfl (by decide)
theorem zero_105 : (Tryd.prog.info? 105).map (·.zero) = some (some (Value.agg #[Value.int .u64 0, Value.int .u64 0, Value.int .u64 0, Value.int .u64 0, Value.int .u64 0, Value.int .u64 0, Value.int .u64 0, Value.int .u64 0])) := by kernel_rfl
theorem body_49 : Body Tryd.prog 49 := Body.mk Tryd.func49 rfl (by decide)
theorem sz_105 : (Tryd.prog.info? 105).map (·.size) = some 8 := by kernel_rfl
theorem body_40 : Body Tryd.prog 40 := Body.mk Tryd.func40 rfl (by decide)
theorem body_37 : Body Tryd.prog 37 := Body.mk Tryd.func37 rfl (by decide)
theorem info_48 : (Tryd.prog.info? 48).map (fun i => (i.zero, i.size, i.bytes)) = some (some (Value.int .u64 0), 1, 8) := by kernel_rfl
theorem one_67 : One Tryd.prog 67 := One.mk Tryd.underlying67 rfl
theorem fa_94_0 : FA Tryd.prog 94 0 0 := FA.mk (m := 0) Tryd.underlying94 rfl rfl (by kernel_rfl)
theorem one_22 : One Tryd.prog 22 := One.mk Tryd.underlying22 rfl
theorem zero_24 : (Tryd.prog.info? 24).map (·.zero) = some (some (Value.agg #[Value.int .u8 0, Value.int .u8 0, Value.int .u8 0, Value.int .u8 0, Value.int .u8 0, Value.int .u8 0, Value.int .u8 0, Value.int .u8 0, Value.int .u8 0, Value.int .u8 0, Value.int .u8 0, Value.int .u8 0, Value.int .u8 0, Value.int .u8 0, Value.int .u8 0, Value.int .u8 0, Value.int .u8 0, Value.int .u8 0, Value.int .u8 0, Value.int .u8 0, Value.int .u8 0, Value.int .u8 0, Value.int .u8 0, Value.int .u8 0, Value.int .u8 0, Value.int .u8 0, Value.int .u8 0, Value.int .u8 0, Value.int .u8 0, Value.int .u8 0, Value.int .u8 0, Value.int .u8 0])) := by kernel_rfl
theorem sz_24 : (Tryd.prog.info? 24).map (·.size) = some 32 := by kernel_rfl
theorem body_62 : Body Tryd.prog 62 := Body.mk Tryd.func62 rfl (by decide)
theorem body_61 : Body Tryd.prog 61 := Body.mk Tryd.func61 rfl (by decide)
theorem fa_94_2 : FA Tryd.prog 94 2 2 := FA.mk (m := 0) Tryd.underlying94 rfl rfl (by kernel_rfl)
theorem one_91 : One Tryd.prog 91 := One.mk Tryd.underlying91 rfl
theorem body_60 : Body Tryd.prog 60 := Body.mk Tryd.func60 rfl (by decide)
theorem zf_24 : (Tryd.prog.info? 24).bind (·.zero) = some (Value.agg #[Value.int .u8 0, Value.int .u8 0, Value.int .u8 0, Value.int .u8 0, Value.int .u8 0, Value.int .u8 0, Value.int .u8 0, Value.int .u8 0, Value.int .u8 0, Value.int .u8 0, Value.int .u8 0, Value.int .u8 0, Value.int .u8 0, Value.int .u8 0, Value.int .u8 0, Value.int .u8 0, Value.int .u8 0, Value.int .u8 0, Value.int .u8 0, Value.int .u8 0, Value.int .u8 0, Value.int .u8 0, Value.int .u8 0, Value.int .u8 0, Value.int .u8 0, Value.int .u8 0, Value.int .u8 0, Value.int .u8 0, Value.int .u8 0, Value.int .u8 0, Value.int .u8 0, Value.int .u8 0]) := by kernel_rfl
theorem bld_24 : Bld Tryd.prog 24 (fun i => some (i * 1, 1)) [.int .u8 0, .int .u8 0, .int .u8 0, .int .u8 0, .int .u8 0, .int .u8 0, .int .u8 0, .int .u8 0, .int .u8 0, .int .u8 0, .int .u8 0, .int .u8 0, .int .u8 0, .int .u8 0, .int .u8 0, .int .u8 0, .int .u8 0, .int .u8 0, .int .u8 0, .int .u8 0, .int .u8 0, .int .u8 0, .int .u8 0, .int .u8 0, .int .u8 0, .int .u8 0, .int .u8 0, .int .u8 0, .int .u8 0, .int .u8 0, .int .u8 0, .int .u8 0] := by intro parts; kernel_rfl
theorem fa_94_1 : FA Tryd.prog 94 1 1 := FA.mk (m := 0) Tryd.underlying94 rfl rfl (by kernel_rfl)
theorem body_59 : Body Tryd.prog 59 := Body.mk Tryd.func59 rfl (by decide)
theorem body_57 : Body Tryd.prog 57 := Body.mk Tryd.func57 rfl (by decide)
theorem body_58 : Body Tryd.prog 58 := Body.mk Tryd.func58 rfl (by decide)
theorem fa_94_3 : FA Tryd.prog 94 3 3 := FA.mk (m := 0) Tryd.underlying94 rfl rfl (by kernel_rfl)
theorem one_92 : One Tryd.prog 92 := One.mk Tryd.underlying92 rfl
theorem body_36 : Body Tryd.prog 36 := Body.mk Tryd.func36 rfl (by decide)
theorem bld_94 : Bld Tryd.prog 94 (fun i => (#[(0, 1), (1, 1), (2, 1), (3, 1)] : Array (Nat × Nat))[i]?) [.slice none 0 0, .int .u64 0, .map none, .map none] := by intro parts; kernel_rfl
theorem body_26 : Body Tryd.prog 26 := Body.mk Tryd.func26 rfl (by decide)
theorem fa_77_4 : FA Tryd.prog 77 4 35 := FA.mk (m := 0) Tryd.underlying77 rfl rfl (by kernel_rfl)
theorem one_3 : One Tryd.prog 3 := One.mk Tryd.underlying3 rfl
theorem fa_77_5 : FA Tryd.prog 77 5 36 := FA.mk (m := 0) Tryd.underlying77 rfl rfl (by kernel_rfl)
theorem fa_77_6 : FA Tryd.prog 77 6 37 := FA.mk (m := 32) Tryd.underlying77 rfl rfl (by kernel_rfl)
theorem fa_71_0 : FA Tryd.prog 71 0 0 := FA.mk (m := 31) Tryd.underlying71 rfl rfl (by kernel_rfl)
theorem fa_71_1 : FA Tryd.prog 71 1 32 := FA.mk (m := 0) Tryd.underlying71 rfl rfl (by kernel_rfl)
theorem fa_77_7 : FA Tryd.prog 77 7 70 := FA.mk (m := 32) Tryd.underlying77 rfl rfl (by kernel_rfl)
theorem fa_77_8 : FA Tryd.prog 77 8 103 := FA.mk (m := 32) Tryd.underlying77 rfl rfl (by kernel_rfl)
theorem body_29 : Body Tryd.prog 29 := Body.mk Tryd.func29 rfl (by decide)
theorem fa_77_0 : FA Tryd.prog 77 0 0 := FA.mk (m := 0) Tryd.underlying77 rfl rfl (by kernel_rfl)
theorem fa_77_2 : FA Tryd.prog 77 2 2 := FA.mk (m := 0) Tryd.underlying77 rfl rfl (by kernel_rfl)
theorem bld_41 : Bld Tryd.prog 41 (fun i => (#[(0, 1), (1, 1), (2, 32), (34, 1)] : Array (Nat × Nat))[i]?) [.int .i64 0, .int .i64 0, .int .u8 0, .int .u8 0, .int .u8 0, .int .u8 0, .int .u8 0, .int .u8 0, .int .u8 0, .int .u8 0, .int .u8 0, .int .u8 0, .int .u8 0, .int .u8 0, .int .u8 0, .int .u8 0, .int .u8 0, .int .u8 0, .int .u8 0, .int .u8 0, .int .u8 0, .int .u8 0, .int .u8 0, .int .u8 0, .int .u8 0, .int .u8 0, .int .u8 0, .int .u8 0, .int .u8 0, .int .u8 0, .int .u8 0, .int .u8 0, .int .u8 0, .int .u8 0, .int .i64 0] := by intro parts; kernel_rfl
theorem info_41 : (Tryd.prog.info? 41).map (fun i => (i.zero, i.size, i.bytes)) = some (some (Value.agg #[Value.int .i64 0, Value.int .i64 0, Value.int .u8 0, Value.int .u8 0, Value.int .u8 0, Value.int .u8 0, Value.int .u8 0, Value.int .u8 0, Value.int .u8 0, Value.int .u8 0, Value.int .u8 0, Value.int .u8 0, Value.int .u8 0, Value.int .u8 0, Value.int .u8 0, Value.int .u8 0, Value.int .u8 0, Value.int .u8 0, Value.int .u8 0, Value.int .u8 0, Value.int .u8 0, Value.int .u8 0, Value.int .u8 0, Value.int .u8 0, Value.int .u8 0, Value.int .u8 0, Value.int .u8 0, Value.int .u8 0, Value.int .u8 0, Value.int .u8 0, Value.int .u8 0, Value.int .u8 0, Value.int .u8 0, Value.int .u8 0, Value.int .i64 0]), 35, 56) := by kernel_rfl
theorem fa_77_1 : FA Tryd.prog 77 1 1 := FA.mk (m := 0) Tryd.underlying77 rfl rfl (by kernel_rfl)
theorem body_21 : Body Tryd.prog 21 := Body.mk Tryd.func21 rfl (by decide)
theorem body_39 : Body Tryd.prog 39 := Body.mk Tryd.func39 rfl (by decide)
theorem fa_77_3 : FA Tryd.prog 77 3 3 := FA.mk (m := 31) Tryd.underlying77 rfl rfl (by kernel_rfl)
theorem bld_71 : Bld Tryd.prog 71 (fun i => (#[(0, 32), (32, 1)] : Array (Nat × Nat))[i]?) [.int .u8 0, .int .u8 0, .int .u8 0, .int .u8 0, .int .u8 0, .int .u8 0, .int .u8 0, .int .u8 0, .int .u8 0, .int .u8 0, .int .u8 0, .int .u8 0, .int .u8 0, .int .u8 0, .int .u8 0, .int .u8 0, .int .u8 0, .int .u8 0, .int .u8 0, .int .u8 0, .int .u8 0, .int .u8 0, .int .u8 0, .int .u8 0, .int .u8 0, .int .u8 0, .int .u8 0, .int .u8 0, .int .u8 0, .int .u8 0, .int .u8 0, .int .u8 0, .int .i64 0] := by intro parts; kernel_rfl
theorem zero_71 : (Tryd.prog.info? 71).map (·.zero) = some (some (Value.agg #[Value.int .u8 0, Value.int .u8 0, Value.int .u8 0, Value.int .u8 0, Value.int .u8 0, Value.int .u8 0, Value.int .u8 0, Value.int .u8 0, Value.int .u8 0, Value.int .u8 0, Value.int .u8 0, Value.int .u8 0, Value.int .u8 0, Value.int .u8 0, Value.int .u8 0, Value.int .u8 0, Value.int .u8 0, Value.int .u8 0, Value.int .u8 0, Value.int .u8 0, Value.int .u8 0, Value.int .u8 0, Value.int .u8 0, Value.int .u8 0, Value.int .u8 0, Value.int .u8 0, Value.int .u8 0, Value.int .u8 0, Value.int .u8 0, Value.int .u8 0, Value.int .u8 0, Value.int .u8 0, Value.int .i64 0])) := by kernel_rfl
theorem sz_71 : (Tryd.prog.info? 71).map (·.size) = some 33 := by kernel_rfl
theorem agg_71 : Agg Tryd.prog 71 33 := Agg.mk Tryd.underlying71 rfl (by kernel_rfl)
theorem bld_103 : Bld Tryd.prog 103 (fun i => (#[(0, 1), (1, 1)] : Array (Nat × Nat))[i]?) [.int .i64 0, .int .i64 0] := by intro parts; kernel_rfl
theorem zero_103 : (Tryd.prog.info? 103).map (·.zero) = some (some (Value.agg #[Value.int .i64 0, Value.int .i64 0])) := by kernel_rfl
theorem sz_103 : (Tryd.prog.info? 103).map (·.size) = some 2 := by kernel_rfl
theorem fa_77_10 : FA Tryd.prog 77 10 137 := FA.mk (m := 0) Tryd.underlying77 rfl rfl (by kernel_rfl)
theorem one_74 : One Tryd.prog 74 := One.mk Tryd.underlying74 rfl
theorem agg_103 : Agg Tryd.prog 103 2 := Agg.mk Tryd.underlying103 rfl (by kernel_rfl)
theorem zf_67 : (Tryd.prog.info? 67).bind (·.zero) = some (Value.pointer none) := by kernel_rfl
theorem body_25 : Body Tryd.prog 25 := Body.mk Tryd.func25 rfl (by decide)
theorem body_31 : Body Tryd.prog 31 := Body.mk Tryd.func31 rfl (by decide)
theorem body_55 : Body Tryd.prog 55 := Body.mk Tryd.func55 rfl (by decide)
theorem fa_77_11 : FA Tryd.prog 77 11 138 := FA.mk (m := 0) Tryd.underlying77 rfl rfl (by kernel_rfl)
theorem one_75 : One Tryd.prog 75 := One.mk Tryd.underlying75 rfl
theorem zf_4 : (Tryd.prog.info? 4).bind (·.zero) = some (Value.bool false) := by kernel_rfl
theorem body_53 : Body Tryd.prog 53 := Body.mk Tryd.func53 rfl (by decide)
theorem body_54 : Body Tryd.prog 54 := Body.mk Tryd.func54 rfl (by decide)
theorem body_51 : Body Tryd.prog 51 := Body.mk Tryd.func51 rfl (by decide)
theorem body_33 : Body Tryd.prog 33 := Body.mk Tryd.func33 rfl (by decide)
theorem fa_77_9 : FA Tryd.prog 77 9 136 := FA.mk (m := 0) Tryd.underlying77 rfl rfl (by kernel_rfl)
theorem one_73 : One Tryd.prog 73 := One.mk Tryd.underlying73 rfl
theorem zf_100 : (Tryd.prog.info? 100).bind (·.zero) = some (Value.agg #[Value.int .u8 0, Value.int .u8 0, Value.int .u8 0, Value.int .u8 0, Value.int .u8 0, Value.int .u8 0, Value.int .u8 0, Value.int .u8 0, Value.int .u8 0, Value.int .u8 0, Value.int .u8 0, Value.int .u8 0, Value.int .u8 0, Value.int .u8 0, Value.int .u8 0, Value.int .u8 0, Value.int .u8 0, Value.int .u8 0, Value.int .u8 0, Value.int .u8 0, Value.int .u8 0, Value.int .u8 0, Value.int .u8 0, Value.int .u8 0, Value.int .u8 0, Value.int .u8 0, Value.int .u8 0, Value.int .u8 0, Value.int .u8 0, Value.int .u8 0, Value.int .u8 0, Value.int .u8 0, Value.int .i64 0, Value.bool false]) := by kernel_rfl
theorem zero_100 : (Tryd.prog.info? 100).map (·.zero) = some (some (Value.agg #[Value.int .u8 0, Value.int .u8 0, Value.int .u8 0, Value.int .u8 0, Value.int .u8 0, Value.int .u8 0, Value.int .u8 0, Value.int .u8 0, Value.int .u8 0, Value.int .u8 0, Value.int .u8 0, Value.int .u8 0, Value.int .u8 0, Value.int .u8 0, Value.int .u8 0, Value.int .u8 0, Value.int .u8 0, Value.int .u8 0, Value.int .u8 0, Value.int .u8 0, Value.int .u8 0, Value.int .u8 0, Value.int .u8 0, Value.int .u8 0, Value.int .u8 0, Value.int .u8 0, Value.int .u8 0, Value.int .u8 0, Value.int .u8 0, Value.int .u8 0, Value.int .u8 0, Value.int .u8 0, Value.int .i64 0, Value.bool false])) := by kernel_rfl
theorem sz_100 : (Tryd.prog.info? 100).map (·.size) = some 34 := by kernel_rfl
theorem fa_100_1 : FA Tryd.prog 100 1 32 := FA.mk (m := 0) Tryd.underlying100 rfl rfl (by kernel_rfl)
theorem fa_100_0 : FA Tryd.prog 100 0 0 := FA.mk (m := 31) Tryd.underlying100 rfl rfl (by kernel_rfl)
theorem fa_100_2 : FA Tryd.prog 100 2 33 := FA.mk (m := 0) Tryd.underlying100 rfl rfl (by kernel_rfl)
theorem one_4 : One Tryd.prog 4 := One.mk Tryd.underlying4 rfl
theorem body_56 : Body Tryd.prog 56 := Body.mk Tryd.func56 rfl (by decide)
theorem body_52 : Body Tryd.prog 52 := Body.mk Tryd.func52 rfl (by decide)
theorem body_34 : Body Tryd.prog 34 := Body.mk Tryd.func34 rfl (by decide)
theorem body_28 : Body Tryd.prog 28 := Body.mk Tryd.func28 rfl (by decide)
theorem info_97 : (Tryd.prog.info? 97).map (fun i => (i.zero, i.size, i.bytes)) = some (some (Value.nilFunc), 1, 8) := by kernel_rfl
theorem body_38 : Body Tryd.prog 38 := Body.mk Tryd.func38 rfl (by decide)
theorem sz_97 : (Tryd.prog.info? 97).map (·.size) = some 1 := by kernel_rfl
theorem one_97 : One Tryd.prog 97 := One.mk Tryd.underlying97 rfl
theorem body_27 : Body Tryd.prog 27 := Body.mk Tryd.func27 rfl (by decide)
theorem fa_33_1 : FA Tryd.prog 33 1 1 := FA.mk (m := 0) Tryd.underlying33 rfl rfl (by kernel_rfl)
theorem fa_33_4 : FA Tryd.prog 33 4 35 := FA.mk (m := 0) Tryd.underlying33 rfl rfl (by kernel_rfl)
theorem fa_33_2 : FA Tryd.prog 33 2 2 := FA.mk (m := 0) Tryd.underlying33 rfl rfl (by kernel_rfl)
theorem fa_33_3 : FA Tryd.prog 33 3 3 := FA.mk (m := 31) Tryd.underlying33 rfl rfl (by kernel_rfl)
theorem bld_100 : Bld Tryd.prog 100 (fun i => (#[(0, 32), (32, 1), (33, 1)] : Array (Nat × Nat))[i]?) [.int .u8 0, .int .u8 0, .int .u8 0, .int .u8 0, .int .u8 0, .int .u8 0, .int .u8 0, .int .u8 0, .int .u8 0, .int .u8 0, .int .u8 0, .int .u8 0, .int .u8 0, .int .u8 0, .int .u8 0, .int .u8 0, .int .u8 0, .int .u8 0, .int .u8 0, .int .u8 0, .int .u8 0, .int .u8 0, .int .u8 0, .int .u8 0, .int .u8 0, .int .u8 0, .int .u8 0, .int .u8 0, .int .u8 0, .int .u8 0, .int .u8 0, .int .u8 0, .int .i64 0, .bool false] := by intro parts; kernel_rfl
theorem fa_33_0 : FA Tryd.prog 33 0 0 := FA.mk (m := 0) Tryd.underlying33 rfl rfl (by kernel_rfl)
theorem agg_33 : Agg Tryd.prog 33 36 := Agg.mk Tryd.underlying33 rfl (by kernel_rfl)
theorem body_30 : Body Tryd.prog 30 := Body.mk Tryd.func30 rfl (by decide)
theorem body_32 : Body Tryd.prog 32 := Body.mk Tryd.func32 rfl (by decide)
theorem bld_77 : Bld Tryd.prog 77 (fun i => (#[(0, 1), (1, 1), (2, 1), (3, 32), (35, 1), (36, 1), (37, 33), (70, 33), (103, 33), (136, 1), (137, 1), (138, 1)] : Array (Nat × Nat))[i]?) [.slice none 0 0, .int .i64 0, .int .i64 0, .int .u8 0, .int .u8 0, .int .u8 0, .int .u8 0, .int .u8 0, .int .u8 0, .int .u8 0, .int .u8 0, .int .u8 0, .int .u8 0, .int .u8 0, .int .u8 0, .int .u8 0, .int .u8 0, .int .u8 0, .int .u8 0, .int .u8 0, .int .u8 0, .int .u8 0, .int .u8 0, .int .u8 0, .int .u8 0, .int .u8 0, .int .u8 0, .int .u8 0, .int .u8 0, .int .u8 0, .int .u8 0, .int .u8 0, .int .u8 0, .int .u8 0, .int .u8 0, .int .i64 0, .int .i64 0, .int .u8 0, .int .u8 0, .int .u8 0, .int .u8 0, .int .u8 0, .int .u8 0, .int .u8 0, .int .u8 0, .int .u8 0, .int .u8 0, .int .u8 0, .int .u8 0, .int .u8 0, .int .u8 0, .int .u8 0, .int .u8 0, .int .u8 0, .int .u8 0, .int .u8 0, .int .u8 0, .int .u8 0, .int .u8 0, .int .u8 0, .int .u8 0, .int .u8 0, .int .u8 0, .int .u8 0, .int .u8 0, .int .u8 0, .int .u8 0, .int .u8 0, .int .u8 0, .int .i64 0, .int .u8 0, .int .u8 0, .int .u8 0, .int .u8 0, .int .u8 0, .int .u8 0, .int .u8 0, .int .u8 0, .int .u8 0, .int .u8 0, .int .u8 0, .int .u8 0, .int .u8 0, .int .u8 0, .int .u8 0, .int .u8 0, .int .u8 0, .int .u8 0, .int .u8 0, .int .u8 0, .int .u8 0, .int .u8 0, .int .u8 0, .int .u8 0, .int .u8 0, .int .u8 0, .int .u8 0, .int .u8 0, .int .u8 0, .int .u8 0, .int .u8 0, .int .u8 0, .int .i64 0, .int .u8 0, .int .u8 0, .int .u8 0, .int .u8 0, .int .u8 0, .int .u8 0, .int .u8 0, .int .u8 0, .int .u8 0, .int .u8 0, .int .u8 0, .int .u8 0, .int .u8 0, .int .u8 0, .int .u8 0, .int .u8 0, .int .u8 0, .int .u8 0, .int .u8 0, .int .u8 0, .int .u8 0, .int .u8 0, .int .u8 0, .int .u8 0, .int .u8 0, .int .u8 0, .int .u8 0, .int .u8 0, .int .u8 0, .int .u8 0, .int .u8 0, .int .u8 0, .int .i64 0, .map none, .map none, .map none] := by intro parts; kernel_rfl
theorem sz_41 : (Tryd.prog.info? 41).map (·.size) = some 35 := by kernel_rfl
theorem agg_41 : Agg Tryd.prog 41 35 := Agg.mk Tryd.underlying41 rfl (by kernel_rfl)
theorem body_9 : Body Tryd.prog 9 := Body.mk Tryd.func9 rfl (by decide)
theorem body_10 : Body Tryd.prog 10 := Body.mk Tryd.func10 rfl (by decide)
theorem bld_33 : Bld Tryd.prog 33 (fun i => (#[(0, 1), (1, 1), (2, 1), (3, 32), (35, 1)] : Array (Nat × Nat))[i]?) [.int .i64 0, .int .i64 0, .int .i64 0, .int .u8 0, .int .u8 0, .int .u8 0, .int .u8 0, .int .u8 0, .int .u8 0, .int .u8 0, .int .u8 0, .int .u8 0, .int .u8 0, .int .u8 0, .int .u8 0, .int .u8 0, .int .u8 0, .int .u8 0, .int .u8 0, .int .u8 0, .int .u8 0, .int .u8 0, .int .u8 0, .int .u8 0, .int .u8 0, .int .u8 0, .int .u8 0, .int .u8 0, .int .u8 0, .int .u8 0, .int .u8 0, .int .u8 0, .int .u8 0, .int .u8 0, .int .u8 0, .int .i64 0] := by intro parts; kernel_rfl
theorem body_11 : Body Tryd.prog 11 := Body.mk Tryd.func11 rfl (by decide)
theorem body_24 : Body Tryd.prog 24 := Body.mk Tryd.func24 rfl (by decide)
theorem body_8 : Body Tryd.prog 8 := Body.mk Tryd.func8 rfl (by decide)
theorem sz_35 : (Tryd.prog.info? 35).map (·.size) = some 40 := by kernel_rfl
theorem fa_35_0 : FA Tryd.prog 35 0 0 := FA.mk (m := 0) Tryd.underlying35 rfl rfl (by kernel_rfl)
theorem fa_35_3 : FA Tryd.prog 35 3 3 := FA.mk (m := 35) Tryd.underlying35 rfl rfl (by kernel_rfl)
theorem fa_35_4 : FA Tryd.prog 35 4 39 := FA.mk (m := 0) Tryd.underlying35 rfl rfl (by kernel_rfl)
theorem fa_35_1 : FA Tryd.prog 35 1 1 := FA.mk (m := 0) Tryd.underlying35 rfl rfl (by kernel_rfl)
theorem fa_35_2 : FA Tryd.prog 35 2 2 := FA.mk (m := 0) Tryd.underlying35 rfl rfl (by kernel_rfl)
theorem body_12 : Body Tryd.prog 12 := Body.mk Tryd.func12 rfl (by decide)
theorem fa_41_0 : FA Tryd.prog 41 0 0 := FA.mk (m := 0) Tryd.underlying41 rfl rfl (by kernel_rfl)
theorem fa_41_1 : FA Tryd.prog 41 1 1 := FA.mk (m := 0) Tryd.underlying41 rfl rfl (by kernel_rfl)
theorem body_13 : Body Tryd.prog 13 := Body.mk Tryd.func13 rfl (by decide)
theorem body_14 : Body Tryd.prog 14 := Body.mk Tryd.func14 rfl (by decide)
theorem fa_41_2 : FA Tryd.prog 41 2 2 := FA.mk (m := 31) Tryd.underlying41 rfl rfl (by kernel_rfl)
theorem body_18 : Body Tryd.prog 18 := Body.mk Tryd.func18 rfl (by decide)
theorem body_22 : Body Tryd.prog 22 := Body.mk Tryd.func22 rfl (by decide)
theorem body_23 : Body Tryd.prog 23 := Body.mk Tryd.func23 rfl (by decide)
theorem one_5 : One Tryd.prog 5 := One.mk Tryd.underlying5 rfl
theorem sz_4 : (Tryd.prog.info? 4).map (·.size) = some 1 := by kernel_rfl
theorem body_20 : Body Tryd.prog 20 := Body.mk Tryd.func20 rfl (by decide)
theorem bld_59 : Bld Tryd.prog 59 (fun i => (#[(0, 1), (1, 1)] : Array (Nat × Nat))[i]?) [.slice none 0 0, .slice none 0 0] := by intro parts; kernel_rfl
theorem fa_59_0 : FA Tryd.prog 59 0 0 := FA.mk (m := 0) Tryd.underlying59 rfl rfl (by kernel_rfl)
theorem one_56 : One Tryd.prog 56 := One.mk Tryd.underlying56 rfl
theorem info_27 : (Tryd.prog.info? 27).map (fun i => (i.zero, i.size, i.bytes)) = some (some (Value.pointer none), 1, 8) := by kernel_rfl
theorem sz_56 : (Tryd.prog.info? 56).map (·.size) = some 1 := by kernel_rfl
theorem fa_59_1 : FA Tryd.prog 59 1 1 := FA.mk (m := 0) Tryd.underlying59 rfl rfl (by kernel_rfl)
theorem one_57 : One Tryd.prog 57 := One.mk Tryd.underlying57 rfl
theorem fa_41_3 : FA Tryd.prog 41 3 34 := FA.mk (m := 0) Tryd.underlying41 rfl rfl (by kernel_rfl)
theorem zero_33 : (Tryd.prog.info? 33).map (·.zero) = some (some (Value.agg #[Value.int .i64 0, Value.int .i64 0, Value.int .i64 0, Value.int .u8 0, Value.int .u8 0, Value.int .u8 0, Value.int .u8 0, Value.int .u8 0, Value.int .u8 0, Value.int .u8 0, Value.int .u8 0, Value.int .u8 0, Value.int .u8 0, Value.int .u8 0, Value.int .u8 0, Value.int .u8 0, Value.int .u8 0, Value.int .u8 0, Value.int .u8 0, Value.int .u8 0, Value.int .u8 0, Value.int .u8 0, Value.int .u8 0, Value.int .u8 0, Value.int .u8 0, Value.int .u8 0, Value.int .u8 0, Value.int .u8 0, Value.int .u8 0, Value.int .u8 0, Value.int .u8 0, Value.int .u8 0, Value.int .u8 0, Value.int .u8 0, Value.int .u8 0, Value.int .i64 0])) := by kernel_rfl
theorem sz_33 : (Tryd.prog.info? 33).map (·.size) = some 36 := by kernel_rfl
theorem info_33 : (Tryd.prog.info? 33).map (fun i => (i.zero, i.size, i.bytes)) = some (some (Value.agg #[Value.int .i64 0, Value.int .i64 0, Value.int .i64 0, Value.int .u8 0, Value.int .u8 0, Value.int .u8 0, Value.int .u8 0, Value.int .u8 0, Value.int .u8 0, Value.int .u8 0, Value.int .u8 0, Value.int .u8 0, Value.int .u8 0, Value.int .u8 0, Value.int .u8 0, Value.int .u8 0, Value.int .u8 0, Value.int .u8 0, Value.int .u8 0, Value.int .u8 0, Value.int .u8 0, Value.int .u8 0, Value.int .u8 0, Value.int .u8 0, Value.int .u8 0, Value.int .u8 0, Value.int .u8 0, Value.int .u8 0, Value.int .u8 0, Value.int .u8 0, Value.int .u8 0, Value.int .u8 0, Value.int .u8 0, Value.int .u8 0, Value.int .u8 0, Value.int .i64 0]), 36, 64) := by kernel_rfl
theorem sz_57 : (Tryd.prog.info? 57).map (·.size) = some 1 := by kernel_rfl
theorem sz_27 : (Tryd.prog.info? 27).map (·.size) = some 1 := by kernel_rfl
theorem one_27 : One Tryd.prog 27 := One.mk Tryd.underlying27 rfl
theorem body_19 : Body Tryd.prog 19 := Body.mk Tryd.func19 rfl (by decide)
theorem fa_53_1 : FA Tryd.prog 53 1 1 := FA.mk (m := 0) Tryd.underlying53 rfl rfl (by kernel_rfl)
theorem fa_53_0 : FA Tryd.prog 53 0 0 := FA.mk (m := 0) Tryd.underlying53 rfl rfl (by kernel_rfl)
theorem body_35 : Body Tryd.prog 35 := Body.mk Tryd.func35 rfl (by decide)
theorem fa_53_2 : FA Tryd.prog 53 2 2 := FA.mk (m := 0) Tryd.underlying53 rfl rfl (by kernel_rfl)
theorem fa_53_4 : FA Tryd.prog 53 4 4 := FA.mk (m := 35) Tryd.underlying53 rfl rfl (by kernel_rfl)
theorem fa_53_3 : FA Tryd.prog 53 3 3 := FA.mk (m := 0) Tryd.underlying53 rfl rfl (by kernel_rfl)
theorem body_15 : Body Tryd.prog 15 := Body.mk Tryd.func15 rfl (by decide)
theorem body_16 : Body Tryd.prog 16 := Body.mk Tryd.func16 rfl (by decide)
theorem sz_53 : (Tryd.prog.info? 53).map (·.size) = some 40 := by kernel_rfl
theorem agg_53 : Agg Tryd.prog 53 40 := Agg.mk Tryd.underlying53 rfl (by kernel_rfl)
theorem body_17 : Body Tryd.prog 17 := Body.mk Tryd.func17 rfl (by decide)
theorem bld_53 : Bld Tryd.prog 53 (fun i => (#[(0, 1), (1, 1), (2, 1), (3, 1), (4, 36)] : Array (Nat × Nat))[i]?) [.int .i64 0, .int .i64 0, .int .i64 0, .int .i64 0, .int .i64 0, .int .i64 0, .int .i64 0, .int .u8 0, .int .u8 0, .int .u8 0, .int .u8 0, .int .u8 0, .int .u8 0, .int .u8 0, .int .u8 0, .int .u8 0, .int .u8 0, .int .u8 0, .int .u8 0, .int .u8 0, .int .u8 0, .int .u8 0, .int .u8 0, .int .u8 0, .int .u8 0, .int .u8 0, .int .u8 0, .int .u8 0, .int .u8 0, .int .u8 0, .int .u8 0, .int .u8 0, .int .u8 0, .int .u8 0, .int .u8 0, .int .u8 0, .int .u8 0, .int .u8 0, .int .u8 0, .int .i64 0] := by intro parts; kernel_rfl
end Go.Proofs.YtncececcopalgaaDoor
