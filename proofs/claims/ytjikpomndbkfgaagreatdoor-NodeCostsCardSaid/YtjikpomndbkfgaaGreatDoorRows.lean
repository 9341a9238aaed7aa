/-
  NARROWER THAN 'FOR EVERY INPUT', by the rows' own cells (each row's printed sentence says how): NodeElsewhere: laid · NodeCosts: laid · NodeFails: laid.
  DERIVED. THE GIVEN ROWS OF THIS SEAT. 3 by the template 'for every input the law returns true; each argument reads behind the call as it read before'; 0 by the template 'total and deterministic' (their statements: YtjikpomndbkfgaaGreatDoorTotals.lean).
  GIVEN WITH THE SEED: the statements are not yours to turn. If you find one false, say at which input.
  Laid BY PROGRAM, IN A SANDBOX (cutbox-rows.mjs): the forced cells as the released guide's own fill.sh prints them over the translation 26378b016b39322d… (all of the seat's roots in one cut). By AI agents, Wed Nov 11 2026. No macro, syntax, notation, axiom, sorry.
-/
import Derived.Test.YtjikpomndbkfgaaGreatDoorChecked
import GoSem.Claim
import GoSem.ClaimJoined
import GoSem.ClaimMapViews
import Derived.JoinedTies
import Derived.KernelRfl
namespace Go.Proofs.YtjikpomndbkfgaaGreatDoor
/- THE CELL 'sum', in the pinned program and in every row, IS THE sha256 OF THE DUMP (.gsa) THAT YtjikpomndbkfgaaGreatDoorProg.lean LOADS. Nothing in Lean hashes anything: it is a label: what it is worth is what the hold of that sum in a sandbox is worth. -/
noncomputable def Tryz.pinned : Pinned := { name := "ytjikpomndbkfgaagreatdoor", sum := "26378b016b39322db0524b1eba19d6257597295997166d3afdc8873c419118cf", checked := Tryz.checked }
namespace Rows
def none {H : Type} : Left H := { results := [], args := [] }

/- WHAT THE LISTED PACKAGE-LEVEL VARIABLES READ AS WHEN THE CALL BEGINS. Each datum BY PROGRAM (the guide's laid-datum.mjs) off the statement by which the dump's own 'gosem.cut.vars' lays the variable. In a bare row this is a premise. The card (YtjikpomndbkfgaaGreatDoorCards.lean) ties it to the program's text. -/
def laid_drumlin_node_self {H : Type} : DataW H := .agg [.lit (.int .i64 2), .lit (.int .i64 0)]
def laid_drumlin_node_single {H : Type} : DataW H := .agg [.lit (.int .i64 3), .lit (.int .i64 0)]
def laid_drumlin_node_double {H : Type} : DataW H := .agg [.lit (.int .i64 4), .lit (.int .i64 0)]

/-- 'drumlinlaw13.NodeElsewhere': WHATEVER THE INPUT: true; the input reads as it did. -/
def nodeElsewhereSpec : ChangeSpec := { name := "nodeElsewhere", fn := fun _ => fun
  | [d1, d2, d3] => { results := [.lit (.bool true)], args := [d1, d2, d3] }
  | _ => none }
def nodeElsewhereRow : OpenClaim := { program := "ytjikpomndbkfgaagreatdoor", sum := "26378b016b39322db0524b1eba19d6257597295997166d3afdc8873c419118cf", func := "drumlin/drumlinlaw13.NodeElsewhere", spec := "nodeElsewhere", inPlace := ["maps.clone"], unfollowed := true, recurses := true, named := ["drumlin/node.self", "drumlin/node.double", "drumlin/node.single"], plainKeys := false, apart := false, laid := [("drumlin/node.self", laid_drumlin_node_self), ("drumlin/node.single", laid_drumlin_node_single), ("drumlin/node.double", laid_drumlin_node_double)] }
def NodeElsewhereSaid : Prop := nodeElsewhereRow.holds Tryz.pinned (OpenSpec.ofChange nodeElsewhereSpec)

/-- ITS FALSE NEIGHBOUR: 'it returns false'. Refute it at one input. -/
def nodeElsewhereWrong : ChangeSpec := { name := "nodeElsewhere", fn := fun _ => fun
  | [d1, d2, d3] => { results := [.lit (.bool false)], args := [d1, d2, d3] }
  | _ => none }
def NodeElsewhereWrongFalsely : Prop := nodeElsewhereRow.holds Tryz.pinned (OpenSpec.ofChange nodeElsewhereWrong)

/-- 'drumlinlaw13.NodeCosts': WHATEVER THE INPUT: true; the input reads as it did. -/
def nodeCostsSpec : ChangeSpec := { name := "nodeCosts", fn := fun _ => fun
  | [d] => { results := [.lit (.bool true)], args := [d] }
  | _ => none }
def nodeCostsRow : OpenClaim := { program := "ytjikpomndbkfgaagreatdoor", sum := "26378b016b39322db0524b1eba19d6257597295997166d3afdc8873c419118cf", func := "drumlin/drumlinlaw13.NodeCosts", spec := "nodeCosts", inPlace := ["maps.clone"], unfollowed := true, recurses := true, named := ["drumlin/node.self", "drumlin/node.double", "drumlin/node.single"], plainKeys := false, apart := false, laid := [("drumlin/node.self", laid_drumlin_node_self), ("drumlin/node.single", laid_drumlin_node_single), ("drumlin/node.double", laid_drumlin_node_double)] }
def NodeCostsSaid : Prop := nodeCostsRow.holds Tryz.pinned (OpenSpec.ofChange nodeCostsSpec)

/-- ITS FALSE NEIGHBOUR: 'it returns false'. Refute it at one input. -/
def nodeCostsWrong : ChangeSpec := { name := "nodeCosts", fn := fun _ => fun
  | [d] => { results := [.lit (.bool false)], args := [d] }
  | _ => none }
def NodeCostsWrongFalsely : Prop := nodeCostsRow.holds Tryz.pinned (OpenSpec.ofChange nodeCostsWrong)

/-- 'drumlinlaw13.NodeFails': WHATEVER THE INPUT: true; the input reads as it did. -/
def nodeFailsSpec : ChangeSpec := { name := "nodeFails", fn := fun _ => fun
  | [d1, d2] => { results := [.lit (.bool true)], args := [d1, d2] }
  | _ => none }
def nodeFailsRow : OpenClaim := { program := "ytjikpomndbkfgaagreatdoor", sum := "26378b016b39322db0524b1eba19d6257597295997166d3afdc8873c419118cf", func := "drumlin/drumlinlaw13.NodeFails", spec := "nodeFails", inPlace := ["maps.clone"], unfollowed := true, recurses := true, named := ["drumlin/node.self", "drumlin/node.double", "drumlin/node.single"], plainKeys := false, apart := false, laid := [("drumlin/node.self", laid_drumlin_node_self), ("drumlin/node.single", laid_drumlin_node_single), ("drumlin/node.double", laid_drumlin_node_double)] }
def NodeFailsSaid : Prop := nodeFailsRow.holds Tryz.pinned (OpenSpec.ofChange nodeFailsSpec)

/-- ITS FALSE NEIGHBOUR: 'it returns false'. Refute it at one input. -/
def nodeFailsWrong : ChangeSpec := { name := "nodeFails", fn := fun _ => fun
  | [d1, d2] => { results := [.lit (.bool false)], args := [d1, d2] }
  | _ => none }
def NodeFailsWrongFalsely : Prop := nodeFailsRow.holds Tryz.pinned (OpenSpec.ofChange nodeFailsWrong)

/- THE SECOND FORM. 'bulk': how many values and letters a reading holds, each counted each time it is reached (what is shared counts as often as it is met; a slice's spare places count too). A statement '..UptoSaid' is the law's where the arguments, and the package variables that the reading takes, are together of bulk at most 1048576: NARROWER than '..Said'. Prove '..Said' where nothing that the law and all that it calls make is longer than what came in: it says more and counts as full. Else prove '..UptoSaid'. A law counts once. -/
mutual
def uptoBulk {H : Type} : DataW H → Nat
  | .lit (.string bytes) => bytes.length + 1
  | .lit _ => 1
  | .nil => 1
  | .ptr d => uptoBulk d + 1
  | .slice elems spare => uptoBulkAll elems + uptoBulkAll spare + 1
  | .agg parts => uptoBulkAll parts + 1
  | .iface _ d => uptoBulk d + 1
  | .map entries => uptoBulkEntries entries + 1
  | .held _ => 1
def uptoBulkAll {H : Type} : List (DataW H) → Nat
  | [] => 0
  | d :: r => uptoBulk d + uptoBulkAll r
def uptoBulkEntries {H : Type} : List (Lit × DataW H) → Nat
  | [] => 0
  | x :: r => uptoBulkEntry x + uptoBulkEntries r
def uptoBulkEntry {H : Type} : Lit × DataW H → Nat
  | (.string bytes, d) => bytes.length + uptoBulk d + 1
  | (_, d) => uptoBulk d + 1
 end
def uptoSmall : (H : Type) → List (DataW H) → Bool := fun _ ds => decide (uptoBulkAll ds ≤ 1048576)
def OpenSpec.upto (s : _root_.Go.ChangeSpec) : _root_.Go.OpenSpec := { _root_.Go.OpenSpec.ofChange s with cond := some uptoSmall }

/-- 'drumlinlaw13.NodeElsewhere', WHERE WHAT IT READS IS OF BULK AT MOST 1048576: true; the input reads as it did. -/
def nodeElsewhereUptoRow : OpenClaim := { program := "ytjikpomndbkfgaagreatdoor", sum := "26378b016b39322db0524b1eba19d6257597295997166d3afdc8873c419118cf", func := "drumlin/drumlinlaw13.NodeElsewhere", spec := "nodeElsewhere", inPlace := ["maps.clone"], unfollowed := true, recurses := true, named := ["drumlin/node.self", "drumlin/node.double", "drumlin/node.single"], plainKeys := false, apart := false, laid := [("drumlin/node.self", laid_drumlin_node_self), ("drumlin/node.single", laid_drumlin_node_single), ("drumlin/node.double", laid_drumlin_node_double)], narrowed := true }
def NodeElsewhereUptoSaid : Prop := nodeElsewhereUptoRow.holds Tryz.pinned (OpenSpec.upto nodeElsewhereSpec)

/-- 'drumlinlaw13.NodeCosts', WHERE WHAT IT READS IS OF BULK AT MOST 1048576: true; the input reads as it did. -/
def nodeCostsUptoRow : OpenClaim := { program := "ytjikpomndbkfgaagreatdoor", sum := "26378b016b39322db0524b1eba19d6257597295997166d3afdc8873c419118cf", func := "drumlin/drumlinlaw13.NodeCosts", spec := "nodeCosts", inPlace := ["maps.clone"], unfollowed := true, recurses := true, named := ["drumlin/node.self", "drumlin/node.double", "drumlin/node.single"], plainKeys := false, apart := false, laid := [("drumlin/node.self", laid_drumlin_node_self), ("drumlin/node.single", laid_drumlin_node_single), ("drumlin/node.double", laid_drumlin_node_double)], narrowed := true }
def NodeCostsUptoSaid : Prop := nodeCostsUptoRow.holds Tryz.pinned (OpenSpec.upto nodeCostsSpec)

/-- 'drumlinlaw13.NodeFails', WHERE WHAT IT READS IS OF BULK AT MOST 1048576: true; the input reads as it did. -/
def nodeFailsUptoRow : OpenClaim := { program := "ytjikpomndbkfgaagreatdoor", sum := "26378b016b39322db0524b1eba19d6257597295997166d3afdc8873c419118cf", func := "drumlin/drumlinlaw13.NodeFails", spec := "nodeFails", inPlace := ["maps.clone"], unfollowed := true, recurses := true, named := ["drumlin/node.self", "drumlin/node.double", "drumlin/node.single"], plainKeys := false, apart := false, laid := [("drumlin/node.self", laid_drumlin_node_self), ("drumlin/node.single", laid_drumlin_node_single), ("drumlin/node.double", laid_drumlin_node_double)], narrowed := true }
def NodeFailsUptoSaid : Prop := nodeFailsUptoRow.holds Tryz.pinned (OpenSpec.upto nodeFailsSpec)

end Rows
end Go.Proofs.YtjikpomndbkfgaaGreatDoor
