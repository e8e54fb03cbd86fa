/-
  DERIVED. GIVEN WITH THE SEED: THE PROGRAM's TIES (one call each: nine closed facts by the kernel) AND EACH ROW's TIE, after the 31st guide's Derived/Test/Toyas{Tie, Card}.lean. No idea stands in it: it is a product of the set-up. Laid BY PROGRAM, IN A SANDBOX (cutbox-door.mjs). By AI agents, Wed Nov 11 2026. No macro, syntax, notation, axiom, sorry.
-/
import Derived.Test.YtmhiapebljfebaaGreatDoorRows
import Derived.LaidByTextLater
import Derived.SevenTiedAt
import Derived.LaidSub
import Derived.LaidOnce
namespace Go.Proofs.YtmhiapebljfebaaGreatDoor
open Go
set_option maxRecDepth 100000
theorem seatTie1 : Tryz.prog.laidByTextLater [("sortition/sha.cubes", Rows.laid_sortition_sha_cubes), ("sortition/sha.squares", Rows.laid_sortition_sha_squares), ("sortition/pratt.least", Rows.laid_sortition_pratt_least), ("sortition/group.one", Rows.laid_sortition_group_one), ("sortition/group.two", Rows.laid_sortition_group_two), ("sortition/group.low", Rows.laid_sortition_group_low)] [.data, .data, .data, .data, .data, .data] true :=
  Program.laidByTextLater_by_one 39 8 65 (by kernel_rfl) (by kernel_rfl) (by kernel_rfl) (by kernel_rfl) (by kernel_rfl) (by kernel_rfl) (fun _ _ => by kernel_rfl)
theorem noOwnUnsafe : Tryz.pinned.checked.prog.headLifts.contains "ownunsafe" = false := by kernel_rfl
theorem tie : Tryz.prog.laidByTextLater [("sortition/pratt.least", Rows.laid_sortition_pratt_least), ("sortition/group.one", Rows.laid_sortition_group_one), ("sortition/group.two", Rows.laid_sortition_group_two), ("sortition/group.low", Rows.laid_sortition_group_low)] [.data, .data, .data, .data] true :=
  Program.laidByTextLater.sub seatTie1 ["sortition/pratt.least", "sortition/group.one", "sortition/group.two", "sortition/group.low"] (by kernel_rfl) (by kernel_rfl)
theorem epochFaults_row_tie : Rows.epochFaultsRow.laidByTextAt .later Tryz.pinned [.data, .data, .data, .data] true :=
  OpenClaim.laidByTextAt_later rfl rfl tie noOwnUnsafe
theorem epochTxs_row_tie : Rows.epochTxsRow.laidByTextAt .later Tryz.pinned [.data, .data, .data, .data] true :=
  OpenClaim.laidByTextAt_later rfl rfl tie noOwnUnsafe
theorem tie2 : Tryz.prog.laidByTextLater [("sortition/sha.cubes", Rows.laid_sortition_sha_cubes), ("sortition/sha.squares", Rows.laid_sortition_sha_squares), ("sortition/pratt.least", Rows.laid_sortition_pratt_least), ("sortition/group.one", Rows.laid_sortition_group_one), ("sortition/group.two", Rows.laid_sortition_group_two), ("sortition/group.low", Rows.laid_sortition_group_low)] [.data, .data, .data, .data, .data, .data] true :=
  Program.laidByTextLater.sub seatTie1 ["sortition/sha.cubes", "sortition/sha.squares", "sortition/pratt.least", "sortition/group.one", "sortition/group.two", "sortition/group.low"] (by kernel_rfl) (by kernel_rfl)
theorem epochBound_row_tie : Rows.epochBoundRow.laidByTextAt .later Tryz.pinned [.data, .data, .data, .data, .data, .data] true :=
  OpenClaim.laidByTextAt_later rfl rfl tie2 noOwnUnsafe
theorem epochQuiet_row_tie : Rows.epochQuietRow.laidByTextAt .later Tryz.pinned [.data, .data, .data, .data, .data, .data] true :=
  OpenClaim.laidByTextAt_later rfl rfl tie2 noOwnUnsafe
theorem epochHonest_row_tie : Rows.epochHonestRow.laidByTextAt .later Tryz.pinned [.data, .data, .data, .data, .data, .data] true :=
  OpenClaim.laidByTextAt_later rfl rfl tie2 noOwnUnsafe
theorem epochPlays_row_tie : Rows.epochPlaysRow.laidByTextAt .later Tryz.pinned [.data, .data, .data, .data, .data, .data] true :=
  OpenClaim.laidByTextAt_later rfl rfl tie2 noOwnUnsafe
theorem epochFaultsUpto_row_tie : Rows.epochFaultsUptoRow.laidByTextAt .later Tryz.pinned [.data, .data, .data, .data] true :=
  OpenClaim.laidByTextAt_later rfl rfl tie noOwnUnsafe
theorem epochBoundUpto_row_tie : Rows.epochBoundUptoRow.laidByTextAt .later Tryz.pinned [.data, .data, .data, .data, .data, .data] true :=
  OpenClaim.laidByTextAt_later rfl rfl tie2 noOwnUnsafe
theorem epochQuietUpto_row_tie : Rows.epochQuietUptoRow.laidByTextAt .later Tryz.pinned [.data, .data, .data, .data, .data, .data] true :=
  OpenClaim.laidByTextAt_later rfl rfl tie2 noOwnUnsafe
theorem epochHonestUpto_row_tie : Rows.epochHonestUptoRow.laidByTextAt .later Tryz.pinned [.data, .data, .data, .data, .data, .data] true :=
  OpenClaim.laidByTextAt_later rfl rfl tie2 noOwnUnsafe
theorem epochPlaysUpto_row_tie : Rows.epochPlaysUptoRow.laidByTextAt .later Tryz.pinned [.data, .data, .data, .data, .data, .data] true :=
  OpenClaim.laidByTextAt_later rfl rfl tie2 noOwnUnsafe
theorem epochTxsUpto_row_tie : Rows.epochTxsUptoRow.laidByTextAt .later Tryz.pinned [.data, .data, .data, .data] true :=
  OpenClaim.laidByTextAt_later rfl rfl tie noOwnUnsafe
end Go.Proofs.YtmhiapebljfebaaGreatDoor
