/-
  DERIVED. GIVEN WITH THE SEED: THE CARDS: each row of YtjikpomndbkfgaaGreatDoorRows.lean that lists a variable, with what it lists TIED to the program's text (the seventh form; the later family's looks); each row that meets fmt, with fmt's text TOLD by the authors' own Lean function (tested against real Go, not proved from fmt's source: count such statements apart). THE CARD IS WHAT COUNTS. Prove the row's statement (the work); the ties are given (YtjikpomndbkfgaaGreatDoorTie.lean); close each card by the builder's one call (the guide's Derived/Test/ToyasCard.lean, 'card_holds'). Laid BY PROGRAM, IN A SANDBOX (cutbox-door.mjs). By AI agents, Wed Nov 11 2026. No macro, syntax, notation, axiom, sorry.
-/
import Derived.Test.YtjikpomndbkfgaaGreatDoorRows
import GoSem.ClaimSeven
namespace Go.Proofs.YtjikpomndbkfgaaGreatDoor
namespace Rows

/-- THE TIED CARD OF 'drumlinlaw13.NodeElsewhere'. -/
def nodeElsewhereCard : Claim7 := { stood := { row := nodeElsewhereRow, standIns := [], harness := (true, "2c26ad9126d44e359378a4d7e32ef6c34f7e5eb91ab38820adcb41158b47475a"), looks := true }, kinds := [], alts := [], laidByText := true, laidKinds := [.data, .data, .data], laidTests := true, laidLooks := .later }
def NodeElsewhereCardSaid : Prop := Claim7.holds Tryz.pinned (.plain (OpenSpec.ofChange nodeElsewhereSpec)) nodeElsewhereCard

/-- THE TIED CARD OF 'drumlinlaw13.NodeCosts'. -/
def nodeCostsCard : Claim7 := { stood := { row := nodeCostsRow, standIns := [], harness := (true, "2c26ad9126d44e359378a4d7e32ef6c34f7e5eb91ab38820adcb41158b47475a"), looks := true }, kinds := [], alts := [], laidByText := true, laidKinds := [.data, .data, .data], laidTests := true, laidLooks := .later }
def NodeCostsCardSaid : Prop := Claim7.holds Tryz.pinned (.plain (OpenSpec.ofChange nodeCostsSpec)) nodeCostsCard

/-- THE TIED CARD OF 'drumlinlaw13.NodeFails'. -/
def nodeFailsCard : Claim7 := { stood := { row := nodeFailsRow, standIns := [], harness := (true, "2c26ad9126d44e359378a4d7e32ef6c34f7e5eb91ab38820adcb41158b47475a"), looks := true }, kinds := [], alts := [], laidByText := true, laidKinds := [.data, .data, .data], laidTests := true, laidLooks := .later }
def NodeFailsCardSaid : Prop := Claim7.holds Tryz.pinned (.plain (OpenSpec.ofChange nodeFailsSpec)) nodeFailsCard

/-- THE SECOND FORM's CARD OF 'drumlinlaw13.NodeElsewhere'. -/
def nodeElsewhereUptoCard : Claim7 := { stood := { row := nodeElsewhereUptoRow, standIns := [], harness := (true, "2c26ad9126d44e359378a4d7e32ef6c34f7e5eb91ab38820adcb41158b47475a"), looks := true }, kinds := [], alts := [], laidByText := true, laidKinds := [.data, .data, .data], laidTests := true, laidLooks := .later }
def NodeElsewhereUptoCardSaid : Prop := Claim7.holds Tryz.pinned (.plain (OpenSpec.upto nodeElsewhereSpec)) nodeElsewhereUptoCard

/-- THE SECOND FORM's CARD OF 'drumlinlaw13.NodeCosts'. -/
def nodeCostsUptoCard : Claim7 := { stood := { row := nodeCostsUptoRow, standIns := [], harness := (true, "2c26ad9126d44e359378a4d7e32ef6c34f7e5eb91ab38820adcb41158b47475a"), looks := true }, kinds := [], alts := [], laidByText := true, laidKinds := [.data, .data, .data], laidTests := true, laidLooks := .later }
def NodeCostsUptoCardSaid : Prop := Claim7.holds Tryz.pinned (.plain (OpenSpec.upto nodeCostsSpec)) nodeCostsUptoCard

/-- THE SECOND FORM's CARD OF 'drumlinlaw13.NodeFails'. -/
def nodeFailsUptoCard : Claim7 := { stood := { row := nodeFailsUptoRow, standIns := [], harness := (true, "2c26ad9126d44e359378a4d7e32ef6c34f7e5eb91ab38820adcb41158b47475a"), looks := true }, kinds := [], alts := [], laidByText := true, laidKinds := [.data, .data, .data], laidTests := true, laidLooks := .later }
def NodeFailsUptoCardSaid : Prop := Claim7.holds Tryz.pinned (.plain (OpenSpec.upto nodeFailsSpec)) nodeFailsUptoCard
end Rows
end Go.Proofs.YtjikpomndbkfgaaGreatDoor
