/-
  DERIVED. GIVEN WITH THE SEED: THE PROGRAM's TIES (one call each: nine closed facts by the kernel) AND EACH ROW's TIE, after the 31st guide's Derived/Test/Toyas{Tie, Card}.lean. No idea stands in it: it is a product of the set-up. Laid BY PROGRAM, IN A SANDBOX (cutbox-door.mjs). By AI agents, Wed Nov 11 2026. No macro, syntax, notation, axiom, sorry.
-/
import Derived.Test.YtjikpomndbkfgaaGreatDoorRows
import Derived.LaidByTextLater
import Derived.SevenTiedAt
import Derived.LaidSub
import Derived.LaidOnce
namespace Go.Proofs.YtjikpomndbkfgaaGreatDoor
open Go
set_option maxRecDepth 100000
theorem seatTie1 : Tryz.prog.laidByTextLater [("drumlin/node.self", Rows.laid_drumlin_node_self), ("drumlin/node.single", Rows.laid_drumlin_node_single), ("drumlin/node.double", Rows.laid_drumlin_node_double)] [.data, .data, .data] true :=
  Program.laidByTextLater_by_one 24 8 3 (by kernel_rfl) (by kernel_rfl) (by kernel_rfl) (by kernel_rfl) (by kernel_rfl) (by kernel_rfl) (fun _ _ => by kernel_rfl)
theorem noOwnUnsafe : Tryz.pinned.checked.prog.headLifts.contains "ownunsafe" = false := by kernel_rfl
theorem tie : Tryz.prog.laidByTextLater [("drumlin/node.self", Rows.laid_drumlin_node_self), ("drumlin/node.single", Rows.laid_drumlin_node_single), ("drumlin/node.double", Rows.laid_drumlin_node_double)] [.data, .data, .data] true :=
  Program.laidByTextLater.sub seatTie1 ["drumlin/node.self", "drumlin/node.single", "drumlin/node.double"] (by kernel_rfl) (by kernel_rfl)
theorem nodeElsewhere_row_tie : Rows.nodeElsewhereRow.laidByTextAt .later Tryz.pinned [.data, .data, .data] true :=
  OpenClaim.laidByTextAt_later rfl rfl tie noOwnUnsafe
theorem nodeCosts_row_tie : Rows.nodeCostsRow.laidByTextAt .later Tryz.pinned [.data, .data, .data] true :=
  OpenClaim.laidByTextAt_later rfl rfl tie noOwnUnsafe
theorem nodeFails_row_tie : Rows.nodeFailsRow.laidByTextAt .later Tryz.pinned [.data, .data, .data] true :=
  OpenClaim.laidByTextAt_later rfl rfl tie noOwnUnsafe
theorem nodeElsewhereUpto_row_tie : Rows.nodeElsewhereUptoRow.laidByTextAt .later Tryz.pinned [.data, .data, .data] true :=
  OpenClaim.laidByTextAt_later rfl rfl tie noOwnUnsafe
theorem nodeCostsUpto_row_tie : Rows.nodeCostsUptoRow.laidByTextAt .later Tryz.pinned [.data, .data, .data] true :=
  OpenClaim.laidByTextAt_later rfl rfl tie noOwnUnsafe
theorem nodeFailsUpto_row_tie : Rows.nodeFailsUptoRow.laidByTextAt .later Tryz.pinned [.data, .data, .data] true :=
  OpenClaim.laidByTextAt_later rfl rfl tie noOwnUnsafe
end Go.Proofs.YtjikpomndbkfgaaGreatDoor
