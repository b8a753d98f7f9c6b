/-
  No cell of these rows narrows 'for every input' (looked for: loops, veiled, ifaces, maps, wideKeys, modest, calm, conditions, laid).
  DERIVED. THE GIVEN ROWS OF THIS SEAT. 12 by the template 'for every input the law returns true; each argument reads behind the call as it read before'; 0 by the template 'total and deterministic' (their statements: YthbdngfnbpkefaaTotals.lean).
  GIVEN WITH THE SEED: the statements are not yours to turn. If you find one false, say at which input.
  Laid BY PROGRAM, IN A SANDBOX (cutbox-rows.mjs): the forced cells as the released guide's own fill.sh prints them over the translation 8a6712c817713f82… (all of the seat's roots in one cut). By AI agents, Wed Nov 11 2026. No macro, syntax, notation, axiom, sorry.
-/
import Derived.Test.YthbdngfnbpkefaaChecked
import GoSem.Claim
import GoSem.ClaimJoined
import GoSem.ClaimMapViews
import Derived.JoinedTies
import Derived.KernelRfl
namespace Go.Proofs.Ythbdngfnbpkefaa
/- THE CELL 'sum', in the pinned program and in every row, IS THE sha256 OF THE DUMP (.gsa) THAT YthbdngfnbpkefaaProg.lean LOADS. Nothing in Lean hashes anything: it is a label: what it is worth is what the hold of that sum in a sandbox is worth. -/
noncomputable def Try.pinned : Pinned := { name := "ythbdngfnbpkefaa", sum := "8a6712c817713f825552696e722c51dff946744ec86b110c78fb5091787e3960", checked := Try.checked }
namespace Rows
def none {H : Type} : Left H := { results := [], args := [] }

/-- 'exchangepointlaw13.FabricValid': WHATEVER THE INPUT: true; the input reads as it did. -/
def fabricValidSpec : ChangeSpec := { name := "fabricValid", fn := fun _ => fun
  | [d1, d2, d3, d4, d5] => { results := [.lit (.bool true)], args := [d1, d2, d3, d4, d5] }
  | _ => none }
def fabricValidRow : OpenClaim := { program := "ythbdngfnbpkefaa", sum := "8a6712c817713f825552696e722c51dff946744ec86b110c78fb5091787e3960", func := "exchangepoint/exchangepointlaw13.FabricValid", spec := "fabricValid", apart := false }
def FabricValidSaid : Prop := fabricValidRow.holds Try.pinned (OpenSpec.ofChange fabricValidSpec)

/-- ITS FALSE NEIGHBOUR: 'it returns false'. Refute it at one input. -/
def fabricValidWrong : ChangeSpec := { name := "fabricValid", fn := fun _ => fun
  | [d1, d2, d3, d4, d5] => { results := [.lit (.bool false)], args := [d1, d2, d3, d4, d5] }
  | _ => none }
def FabricValidWrongFalsely : Prop := fabricValidRow.holds Try.pinned (OpenSpec.ofChange fabricValidWrong)

/-- 'exchangepointlaw13.FabricFlows': WHATEVER THE INPUT: true; the input reads as it did. -/
def fabricFlowsSpec : ChangeSpec := { name := "fabricFlows", fn := fun _ => fun
  | [d1, d2, d3] => { results := [.lit (.bool true)], args := [d1, d2, d3] }
  | _ => none }
def fabricFlowsRow : OpenClaim := { program := "ythbdngfnbpkefaa", sum := "8a6712c817713f825552696e722c51dff946744ec86b110c78fb5091787e3960", func := "exchangepoint/exchangepointlaw13.FabricFlows", spec := "fabricFlows", apart := false }
def FabricFlowsSaid : Prop := fabricFlowsRow.holds Try.pinned (OpenSpec.ofChange fabricFlowsSpec)

/-- ITS FALSE NEIGHBOUR: 'it returns false'. Refute it at one input. -/
def fabricFlowsWrong : ChangeSpec := { name := "fabricFlows", fn := fun _ => fun
  | [d1, d2, d3] => { results := [.lit (.bool false)], args := [d1, d2, d3] }
  | _ => none }
def FabricFlowsWrongFalsely : Prop := fabricFlowsRow.holds Try.pinned (OpenSpec.ofChange fabricFlowsWrong)

/-- 'exchangepointlaw14.ForwardWays': WHATEVER THE INPUT: true; the input reads as it did. -/
def forwardWaysSpec : ChangeSpec := { name := "forwardWays", fn := fun _ => fun
  | [d1, d2, d3, d4, d5, d6] => { results := [.lit (.bool true)], args := [d1, d2, d3, d4, d5, d6] }
  | _ => none }
def forwardWaysRow : OpenClaim := { program := "ythbdngfnbpkefaa", sum := "8a6712c817713f825552696e722c51dff946744ec86b110c78fb5091787e3960", func := "exchangepoint/exchangepointlaw14.ForwardWays", spec := "forwardWays", apart := false }
def ForwardWaysSaid : Prop := forwardWaysRow.holds Try.pinned (OpenSpec.ofChange forwardWaysSpec)

/-- ITS FALSE NEIGHBOUR: 'it returns false'. Refute it at one input. -/
def forwardWaysWrong : ChangeSpec := { name := "forwardWays", fn := fun _ => fun
  | [d1, d2, d3, d4, d5, d6] => { results := [.lit (.bool false)], args := [d1, d2, d3, d4, d5, d6] }
  | _ => none }
def ForwardWaysWrongFalsely : Prop := forwardWaysRow.holds Try.pinned (OpenSpec.ofChange forwardWaysWrong)

/-- 'exchangepointlaw14.ForwardShortest': WHATEVER THE INPUT: true; the input reads as it did. -/
def forwardShortestSpec : ChangeSpec := { name := "forwardShortest", fn := fun _ => fun
  | [d1, d2, d3, d4] => { results := [.lit (.bool true)], args := [d1, d2, d3, d4] }
  | _ => none }
def forwardShortestRow : OpenClaim := { program := "ythbdngfnbpkefaa", sum := "8a6712c817713f825552696e722c51dff946744ec86b110c78fb5091787e3960", func := "exchangepoint/exchangepointlaw14.ForwardShortest", spec := "forwardShortest", apart := false }
def ForwardShortestSaid : Prop := forwardShortestRow.holds Try.pinned (OpenSpec.ofChange forwardShortestSpec)

/-- ITS FALSE NEIGHBOUR: 'it returns false'. Refute it at one input. -/
def forwardShortestWrong : ChangeSpec := { name := "forwardShortest", fn := fun _ => fun
  | [d1, d2, d3, d4] => { results := [.lit (.bool false)], args := [d1, d2, d3, d4] }
  | _ => none }
def ForwardShortestWrongFalsely : Prop := forwardShortestRow.holds Try.pinned (OpenSpec.ofChange forwardShortestWrong)

/-- 'exchangepointlaw14.ForwardBack': WHATEVER THE INPUT: true; the input reads as it did. -/
def forwardBackSpec : ChangeSpec := { name := "forwardBack", fn := fun _ => fun
  | [d1, d2, d3, d4] => { results := [.lit (.bool true)], args := [d1, d2, d3, d4] }
  | _ => none }
def forwardBackRow : OpenClaim := { program := "ythbdngfnbpkefaa", sum := "8a6712c817713f825552696e722c51dff946744ec86b110c78fb5091787e3960", func := "exchangepoint/exchangepointlaw14.ForwardBack", spec := "forwardBack", apart := false }
def ForwardBackSaid : Prop := forwardBackRow.holds Try.pinned (OpenSpec.ofChange forwardBackSpec)

/-- ITS FALSE NEIGHBOUR: 'it returns false'. Refute it at one input. -/
def forwardBackWrong : ChangeSpec := { name := "forwardBack", fn := fun _ => fun
  | [d1, d2, d3, d4] => { results := [.lit (.bool false)], args := [d1, d2, d3, d4] }
  | _ => none }
def ForwardBackWrongFalsely : Prop := forwardBackRow.holds Try.pinned (OpenSpec.ofChange forwardBackWrong)

/-- 'exchangepointlaw13.FabricSteps': WHATEVER THE INPUT: true; the input reads as it did. -/
def fabricStepsSpec : ChangeSpec := { name := "fabricSteps", fn := fun _ => fun
  | [d1, d2] => { results := [.lit (.bool true)], args := [d1, d2] }
  | _ => none }
def fabricStepsRow : OpenClaim := { program := "ythbdngfnbpkefaa", sum := "8a6712c817713f825552696e722c51dff946744ec86b110c78fb5091787e3960", func := "exchangepoint/exchangepointlaw13.FabricSteps", spec := "fabricSteps", apart := false }
def FabricStepsSaid : Prop := fabricStepsRow.holds Try.pinned (OpenSpec.ofChange fabricStepsSpec)

/-- ITS FALSE NEIGHBOUR: 'it returns false'. Refute it at one input. -/
def fabricStepsWrong : ChangeSpec := { name := "fabricSteps", fn := fun _ => fun
  | [d1, d2] => { results := [.lit (.bool false)], args := [d1, d2] }
  | _ => none }
def FabricStepsWrongFalsely : Prop := fabricStepsRow.holds Try.pinned (OpenSpec.ofChange fabricStepsWrong)

/-- 'exchangepointlaw13.FabricFails': WHATEVER THE INPUT: true; the input reads as it did. -/
def fabricFailsSpec : ChangeSpec := { name := "fabricFails", fn := fun _ => fun
  | [d1, d2, d3, d4] => { results := [.lit (.bool true)], args := [d1, d2, d3, d4] }
  | _ => none }
def fabricFailsRow : OpenClaim := { program := "ythbdngfnbpkefaa", sum := "8a6712c817713f825552696e722c51dff946744ec86b110c78fb5091787e3960", func := "exchangepoint/exchangepointlaw13.FabricFails", spec := "fabricFails", apart := false }
def FabricFailsSaid : Prop := fabricFailsRow.holds Try.pinned (OpenSpec.ofChange fabricFailsSpec)

/-- ITS FALSE NEIGHBOUR: 'it returns false'. Refute it at one input. -/
def fabricFailsWrong : ChangeSpec := { name := "fabricFails", fn := fun _ => fun
  | [d1, d2, d3, d4] => { results := [.lit (.bool false)], args := [d1, d2, d3, d4] }
  | _ => none }
def FabricFailsWrongFalsely : Prop := fabricFailsRow.holds Try.pinned (OpenSpec.ofChange fabricFailsWrong)

/-- 'exchangepointlaw13.FabricThrough': WHATEVER THE INPUT: true; the input reads as it did. -/
def fabricThroughSpec : ChangeSpec := { name := "fabricThrough", fn := fun _ => fun
  | [d1, d2, d3] => { results := [.lit (.bool true)], args := [d1, d2, d3] }
  | _ => none }
def fabricThroughRow : OpenClaim := { program := "ythbdngfnbpkefaa", sum := "8a6712c817713f825552696e722c51dff946744ec86b110c78fb5091787e3960", func := "exchangepoint/exchangepointlaw13.FabricThrough", spec := "fabricThrough", apart := false }
def FabricThroughSaid : Prop := fabricThroughRow.holds Try.pinned (OpenSpec.ofChange fabricThroughSpec)

/-- ITS FALSE NEIGHBOUR: 'it returns false'. Refute it at one input. -/
def fabricThroughWrong : ChangeSpec := { name := "fabricThrough", fn := fun _ => fun
  | [d1, d2, d3] => { results := [.lit (.bool false)], args := [d1, d2, d3] }
  | _ => none }
def FabricThroughWrongFalsely : Prop := fabricThroughRow.holds Try.pinned (OpenSpec.ofChange fabricThroughWrong)

/-- 'exchangepointlaw13.FabricWays': WHATEVER THE INPUT: true; the input reads as it did. -/
def fabricWaysSpec : ChangeSpec := { name := "fabricWays", fn := fun _ => fun
  | [d1, d2] => { results := [.lit (.bool true)], args := [d1, d2] }
  | _ => none }
def fabricWaysRow : OpenClaim := { program := "ythbdngfnbpkefaa", sum := "8a6712c817713f825552696e722c51dff946744ec86b110c78fb5091787e3960", func := "exchangepoint/exchangepointlaw13.FabricWays", spec := "fabricWays", apart := false }
def FabricWaysSaid : Prop := fabricWaysRow.holds Try.pinned (OpenSpec.ofChange fabricWaysSpec)

/-- ITS FALSE NEIGHBOUR: 'it returns false'. Refute it at one input. -/
def fabricWaysWrong : ChangeSpec := { name := "fabricWays", fn := fun _ => fun
  | [d1, d2] => { results := [.lit (.bool false)], args := [d1, d2] }
  | _ => none }
def FabricWaysWrongFalsely : Prop := fabricWaysRow.holds Try.pinned (OpenSpec.ofChange fabricWaysWrong)

/-- 'exchangepointlaw13.FabricCuts': WHATEVER THE INPUT: true; the input reads as it did. -/
def fabricCutsSpec : ChangeSpec := { name := "fabricCuts", fn := fun _ => fun
  | [d] => { results := [.lit (.bool true)], args := [d] }
  | _ => none }
def fabricCutsRow : OpenClaim := { program := "ythbdngfnbpkefaa", sum := "8a6712c817713f825552696e722c51dff946744ec86b110c78fb5091787e3960", func := "exchangepoint/exchangepointlaw13.FabricCuts", spec := "fabricCuts", apart := false }
def FabricCutsSaid : Prop := fabricCutsRow.holds Try.pinned (OpenSpec.ofChange fabricCutsSpec)

/-- ITS FALSE NEIGHBOUR: 'it returns false'. Refute it at one input. -/
def fabricCutsWrong : ChangeSpec := { name := "fabricCuts", fn := fun _ => fun
  | [d] => { results := [.lit (.bool false)], args := [d] }
  | _ => none }
def FabricCutsWrongFalsely : Prop := fabricCutsRow.holds Try.pinned (OpenSpec.ofChange fabricCutsWrong)

/-- 'exchangepointlaw13.FabricAlone': WHATEVER THE INPUT: true; the input reads as it did. -/
def fabricAloneSpec : ChangeSpec := { name := "fabricAlone", fn := fun _ => fun
  | [d1, d2] => { results := [.lit (.bool true)], args := [d1, d2] }
  | _ => none }
def fabricAloneRow : OpenClaim := { program := "ythbdngfnbpkefaa", sum := "8a6712c817713f825552696e722c51dff946744ec86b110c78fb5091787e3960", func := "exchangepoint/exchangepointlaw13.FabricAlone", spec := "fabricAlone", apart := false }
def FabricAloneSaid : Prop := fabricAloneRow.holds Try.pinned (OpenSpec.ofChange fabricAloneSpec)

/-- ITS FALSE NEIGHBOUR: 'it returns false'. Refute it at one input. -/
def fabricAloneWrong : ChangeSpec := { name := "fabricAlone", fn := fun _ => fun
  | [d1, d2] => { results := [.lit (.bool false)], args := [d1, d2] }
  | _ => none }
def FabricAloneWrongFalsely : Prop := fabricAloneRow.holds Try.pinned (OpenSpec.ofChange fabricAloneWrong)

/-- 'exchangepointlaw14.ForwardLoads': WHATEVER THE INPUT: true; the input reads as it did. -/
def forwardLoadsSpec : ChangeSpec := { name := "forwardLoads", fn := fun _ => fun
  | [d1, d2, d3] => { results := [.lit (.bool true)], args := [d1, d2, d3] }
  | _ => none }
def forwardLoadsRow : OpenClaim := { program := "ythbdngfnbpkefaa", sum := "8a6712c817713f825552696e722c51dff946744ec86b110c78fb5091787e3960", func := "exchangepoint/exchangepointlaw14.ForwardLoads", spec := "forwardLoads", apart := false }
def ForwardLoadsSaid : Prop := forwardLoadsRow.holds Try.pinned (OpenSpec.ofChange forwardLoadsSpec)

/-- ITS FALSE NEIGHBOUR: 'it returns false'. Refute it at one input. -/
def forwardLoadsWrong : ChangeSpec := { name := "forwardLoads", fn := fun _ => fun
  | [d1, d2, d3] => { results := [.lit (.bool false)], args := [d1, d2, d3] }
  | _ => none }
def ForwardLoadsWrongFalsely : Prop := forwardLoadsRow.holds Try.pinned (OpenSpec.ofChange forwardLoadsWrong)

/- THE SECOND FORM. 'bulk': how many values and letters a reading holds, each counted each time it is reached (what is shared counts as often as it is met; a slice's spare places count too). A statement '..UptoSaid' is the law's where the arguments, and the package variables that the reading takes, are together of bulk at most 1048576: NARROWER than '..Said'. Prove '..Said' where nothing that the law and all that it calls make is longer than what came in: it says more and counts as full. Else prove '..UptoSaid'. A law counts once. -/
mutual
def uptoBulk {H : Type} : DataW H → Nat
  | .lit (.string bytes) => bytes.length + 1
  | .lit _ => 1
  | .nil => 1
  | .ptr d => uptoBulk d + 1
  | .slice elems spare => uptoBulkAll elems + uptoBulkAll spare + 1
  | .agg parts => uptoBulkAll parts + 1
  | .iface _ d => uptoBulk d + 1
  | .map entries => uptoBulkEntries entries + 1
  | .held _ => 1
def uptoBulkAll {H : Type} : List (DataW H) → Nat
  | [] => 0
  | d :: r => uptoBulk d + uptoBulkAll r
def uptoBulkEntries {H : Type} : List (Lit × DataW H) → Nat
  | [] => 0
  | x :: r => uptoBulkEntry x + uptoBulkEntries r
def uptoBulkEntry {H : Type} : Lit × DataW H → Nat
  | (.string bytes, d) => bytes.length + uptoBulk d + 1
  | (_, d) => uptoBulk d + 1
 end
def uptoSmall : (H : Type) → List (DataW H) → Bool := fun _ ds => decide (uptoBulkAll ds ≤ 1048576)
def OpenSpec.upto (s : _root_.Go.ChangeSpec) : _root_.Go.OpenSpec := { _root_.Go.OpenSpec.ofChange s with cond := some uptoSmall }

/-- 'exchangepointlaw13.FabricValid', WHERE WHAT IT READS IS OF BULK AT MOST 1048576: true; the input reads as it did. -/
def fabricValidUptoRow : OpenClaim := { program := "ythbdngfnbpkefaa", sum := "8a6712c817713f825552696e722c51dff946744ec86b110c78fb5091787e3960", func := "exchangepoint/exchangepointlaw13.FabricValid", spec := "fabricValid", apart := false, narrowed := true }
def FabricValidUptoSaid : Prop := fabricValidUptoRow.holds Try.pinned (OpenSpec.upto fabricValidSpec)

/-- 'exchangepointlaw13.FabricFlows', WHERE WHAT IT READS IS OF BULK AT MOST 1048576: true; the input reads as it did. -/
def fabricFlowsUptoRow : OpenClaim := { program := "ythbdngfnbpkefaa", sum := "8a6712c817713f825552696e722c51dff946744ec86b110c78fb5091787e3960", func := "exchangepoint/exchangepointlaw13.FabricFlows", spec := "fabricFlows", apart := false, narrowed := true }
def FabricFlowsUptoSaid : Prop := fabricFlowsUptoRow.holds Try.pinned (OpenSpec.upto fabricFlowsSpec)

/-- 'exchangepointlaw14.ForwardWays', WHERE WHAT IT READS IS OF BULK AT MOST 1048576: true; the input reads as it did. -/
def forwardWaysUptoRow : OpenClaim := { program := "ythbdngfnbpkefaa", sum := "8a6712c817713f825552696e722c51dff946744ec86b110c78fb5091787e3960", func := "exchangepoint/exchangepointlaw14.ForwardWays", spec := "forwardWays", apart := false, narrowed := true }
def ForwardWaysUptoSaid : Prop := forwardWaysUptoRow.holds Try.pinned (OpenSpec.upto forwardWaysSpec)

/-- 'exchangepointlaw14.ForwardShortest', WHERE WHAT IT READS IS OF BULK AT MOST 1048576: true; the input reads as it did. -/
def forwardShortestUptoRow : OpenClaim := { program := "ythbdngfnbpkefaa", sum := "8a6712c817713f825552696e722c51dff946744ec86b110c78fb5091787e3960", func := "exchangepoint/exchangepointlaw14.ForwardShortest", spec := "forwardShortest", apart := false, narrowed := true }
def ForwardShortestUptoSaid : Prop := forwardShortestUptoRow.holds Try.pinned (OpenSpec.upto forwardShortestSpec)

/-- 'exchangepointlaw14.ForwardBack', WHERE WHAT IT READS IS OF BULK AT MOST 1048576: true; the input reads as it did. -/
def forwardBackUptoRow : OpenClaim := { program := "ythbdngfnbpkefaa", sum := "8a6712c817713f825552696e722c51dff946744ec86b110c78fb5091787e3960", func := "exchangepoint/exchangepointlaw14.ForwardBack", spec := "forwardBack", apart := false, narrowed := true }
def ForwardBackUptoSaid : Prop := forwardBackUptoRow.holds Try.pinned (OpenSpec.upto forwardBackSpec)

/-- 'exchangepointlaw13.FabricSteps', WHERE WHAT IT READS IS OF BULK AT MOST 1048576: true; the input reads as it did. -/
def fabricStepsUptoRow : OpenClaim := { program := "ythbdngfnbpkefaa", sum := "8a6712c817713f825552696e722c51dff946744ec86b110c78fb5091787e3960", func := "exchangepoint/exchangepointlaw13.FabricSteps", spec := "fabricSteps", apart := false, narrowed := true }
def FabricStepsUptoSaid : Prop := fabricStepsUptoRow.holds Try.pinned (OpenSpec.upto fabricStepsSpec)

/-- 'exchangepointlaw13.FabricFails', WHERE WHAT IT READS IS OF BULK AT MOST 1048576: true; the input reads as it did. -/
def fabricFailsUptoRow : OpenClaim := { program := "ythbdngfnbpkefaa", sum := "8a6712c817713f825552696e722c51dff946744ec86b110c78fb5091787e3960", func := "exchangepoint/exchangepointlaw13.FabricFails", spec := "fabricFails", apart := false, narrowed := true }
def FabricFailsUptoSaid : Prop := fabricFailsUptoRow.holds Try.pinned (OpenSpec.upto fabricFailsSpec)

/-- 'exchangepointlaw13.FabricThrough', WHERE WHAT IT READS IS OF BULK AT MOST 1048576: true; the input reads as it did. -/
def fabricThroughUptoRow : OpenClaim := { program := "ythbdngfnbpkefaa", sum := "8a6712c817713f825552696e722c51dff946744ec86b110c78fb5091787e3960", func := "exchangepoint/exchangepointlaw13.FabricThrough", spec := "fabricThrough", apart := false, narrowed := true }
def FabricThroughUptoSaid : Prop := fabricThroughUptoRow.holds Try.pinned (OpenSpec.upto fabricThroughSpec)

/-- 'exchangepointlaw13.FabricWays', WHERE WHAT IT READS IS OF BULK AT MOST 1048576: true; the input reads as it did. -/
def fabricWaysUptoRow : OpenClaim := { program := "ythbdngfnbpkefaa", sum := "8a6712c817713f825552696e722c51dff946744ec86b110c78fb5091787e3960", func := "exchangepoint/exchangepointlaw13.FabricWays", spec := "fabricWays", apart := false, narrowed := true }
def FabricWaysUptoSaid : Prop := fabricWaysUptoRow.holds Try.pinned (OpenSpec.upto fabricWaysSpec)

/-- 'exchangepointlaw13.FabricCuts', WHERE WHAT IT READS IS OF BULK AT MOST 1048576: true; the input reads as it did. -/
def fabricCutsUptoRow : OpenClaim := { program := "ythbdngfnbpkefaa", sum := "8a6712c817713f825552696e722c51dff946744ec86b110c78fb5091787e3960", func := "exchangepoint/exchangepointlaw13.FabricCuts", spec := "fabricCuts", apart := false, narrowed := true }
def FabricCutsUptoSaid : Prop := fabricCutsUptoRow.holds Try.pinned (OpenSpec.upto fabricCutsSpec)

/-- 'exchangepointlaw13.FabricAlone', WHERE WHAT IT READS IS OF BULK AT MOST 1048576: true; the input reads as it did. -/
def fabricAloneUptoRow : OpenClaim := { program := "ythbdngfnbpkefaa", sum := "8a6712c817713f825552696e722c51dff946744ec86b110c78fb5091787e3960", func := "exchangepoint/exchangepointlaw13.FabricAlone", spec := "fabricAlone", apart := false, narrowed := true }
def FabricAloneUptoSaid : Prop := fabricAloneUptoRow.holds Try.pinned (OpenSpec.upto fabricAloneSpec)

/-- 'exchangepointlaw14.ForwardLoads', WHERE WHAT IT READS IS OF BULK AT MOST 1048576: true; the input reads as it did. -/
def forwardLoadsUptoRow : OpenClaim := { program := "ythbdngfnbpkefaa", sum := "8a6712c817713f825552696e722c51dff946744ec86b110c78fb5091787e3960", func := "exchangepoint/exchangepointlaw14.ForwardLoads", spec := "forwardLoads", apart := false, narrowed := true }
def ForwardLoadsUptoSaid : Prop := forwardLoadsUptoRow.holds Try.pinned (OpenSpec.upto forwardLoadsSpec)

end Rows
end Go.Proofs.Ythbdngfnbpkefaa
