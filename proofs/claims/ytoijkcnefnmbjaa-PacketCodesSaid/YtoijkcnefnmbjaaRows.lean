/-
  No cell of these rows narrows 'for every input' (looked for: loops, veiled, ifaces, maps, wideKeys, modest, calm, conditions, laid).
  DERIVED. THE GIVEN ROWS OF THIS SEAT. 6 by the template 'for every input the law returns true; each argument reads behind the call as it read before'; 0 by the template 'total and deterministic' (their statements: YtoijkcnefnmbjaaTotals.lean).
  GIVEN WITH THE SEED: the statements are not yours to turn. If you find one false, say at which input.
  Laid BY PROGRAM, IN A SANDBOX (cutbox-rows.mjs): the forced cells as the released guide's own fill.sh prints them over the translation a4a4adbf5b74c61b… (all of the seat's roots in one cut). By AI agents, Wed Nov 11 2026. No macro, syntax, notation, axiom, sorry.
-/
import Derived.Test.YtoijkcnefnmbjaaChecked
import GoSem.Claim
import GoSem.ClaimJoined
import GoSem.ClaimMapViews
import Derived.JoinedTies
import Derived.KernelRfl
namespace Go.Proofs.Ytoijkcnefnmbjaa
/- THE CELL 'sum', in the pinned program and in every row, IS THE sha256 OF THE DUMP (.gsa) THAT YtoijkcnefnmbjaaProg.lean LOADS. Nothing in Lean hashes anything: it is a label: what it is worth is what the hold of that sum in a sandbox is worth. -/
noncomputable def Try.pinned : Pinned := { name := "ytoijkcnefnmbjaa", sum := "a4a4adbf5b74c61b51b6ef6b25b0a54daa6183ca82e8e18f92dbfa6ad73f9746", checked := Try.checked }
namespace Rows
def none {H : Type} : Left H := { results := [], args := [] }

/-- 'exchangepointlaw06.PacketCodes': WHATEVER THE INPUT: true; the input reads as it did. -/
def packetCodesSpec : ChangeSpec := { name := "packetCodes", fn := fun _ => fun
  | [d1, d2, d3, d4, d5] => { results := [.lit (.bool true)], args := [d1, d2, d3, d4, d5] }
  | _ => none }
def packetCodesRow : OpenClaim := { program := "ytoijkcnefnmbjaa", sum := "a4a4adbf5b74c61b51b6ef6b25b0a54daa6183ca82e8e18f92dbfa6ad73f9746", func := "exchangepoint/exchangepointlaw06.PacketCodes", spec := "packetCodes", apart := false }
def PacketCodesSaid : Prop := packetCodesRow.holds Try.pinned (OpenSpec.ofChange packetCodesSpec)

/-- ITS FALSE NEIGHBOUR: 'it returns false'. Refute it at one input. -/
def packetCodesWrong : ChangeSpec := { name := "packetCodes", fn := fun _ => fun
  | [d1, d2, d3, d4, d5] => { results := [.lit (.bool false)], args := [d1, d2, d3, d4, d5] }
  | _ => none }
def PacketCodesWrongFalsely : Prop := packetCodesRow.holds Try.pinned (OpenSpec.ofChange packetCodesWrong)

/-- 'exchangepointlaw07.NeighborCodes': WHATEVER THE INPUT: true; the input reads as it did. -/
def neighborCodesSpec : ChangeSpec := { name := "neighborCodes", fn := fun _ => fun
  | [d1, d2, d3, d4] => { results := [.lit (.bool true)], args := [d1, d2, d3, d4] }
  | _ => none }
def neighborCodesRow : OpenClaim := { program := "ytoijkcnefnmbjaa", sum := "a4a4adbf5b74c61b51b6ef6b25b0a54daa6183ca82e8e18f92dbfa6ad73f9746", func := "exchangepoint/exchangepointlaw07.NeighborCodes", spec := "neighborCodes", inPlace := ["internal/bytealg.MakeNoZero"], apart := false }
def NeighborCodesSaid : Prop := neighborCodesRow.holds Try.pinned (OpenSpec.ofChange neighborCodesSpec)

/-- ITS FALSE NEIGHBOUR: 'it returns false'. Refute it at one input. -/
def neighborCodesWrong : ChangeSpec := { name := "neighborCodes", fn := fun _ => fun
  | [d1, d2, d3, d4] => { results := [.lit (.bool false)], args := [d1, d2, d3, d4] }
  | _ => none }
def NeighborCodesWrongFalsely : Prop := neighborCodesRow.holds Try.pinned (OpenSpec.ofChange neighborCodesWrong)

/-- 'exchangepointlaw07.NeighborReads': WHATEVER THE INPUT: true; the input reads as it did. -/
def neighborReadsSpec : ChangeSpec := { name := "neighborReads", fn := fun _ => fun
  | [d1, d2, d3, d4, d5] => { results := [.lit (.bool true)], args := [d1, d2, d3, d4, d5] }
  | _ => none }
def neighborReadsRow : OpenClaim := { program := "ytoijkcnefnmbjaa", sum := "a4a4adbf5b74c61b51b6ef6b25b0a54daa6183ca82e8e18f92dbfa6ad73f9746", func := "exchangepoint/exchangepointlaw07.NeighborReads", spec := "neighborReads", inPlace := ["internal/bytealg.MakeNoZero"], apart := false }
def NeighborReadsSaid : Prop := neighborReadsRow.holds Try.pinned (OpenSpec.ofChange neighborReadsSpec)

/-- ITS FALSE NEIGHBOUR: 'it returns false'. Refute it at one input. -/
def neighborReadsWrong : ChangeSpec := { name := "neighborReads", fn := fun _ => fun
  | [d1, d2, d3, d4, d5] => { results := [.lit (.bool false)], args := [d1, d2, d3, d4, d5] }
  | _ => none }
def NeighborReadsWrongFalsely : Prop := neighborReadsRow.holds Try.pinned (OpenSpec.ofChange neighborReadsWrong)

/-- 'exchangepointlaw07.NeighborBack': WHATEVER THE INPUT: true; the input reads as it did. -/
def neighborBackSpec : ChangeSpec := { name := "neighborBack", fn := fun _ => fun
  | [d] => { results := [.lit (.bool true)], args := [d] }
  | _ => none }
def neighborBackRow : OpenClaim := { program := "ytoijkcnefnmbjaa", sum := "a4a4adbf5b74c61b51b6ef6b25b0a54daa6183ca82e8e18f92dbfa6ad73f9746", func := "exchangepoint/exchangepointlaw07.NeighborBack", spec := "neighborBack", inPlace := ["internal/bytealg.MakeNoZero"], apart := false }
def NeighborBackSaid : Prop := neighborBackRow.holds Try.pinned (OpenSpec.ofChange neighborBackSpec)

/-- ITS FALSE NEIGHBOUR: 'it returns false'. Refute it at one input. -/
def neighborBackWrong : ChangeSpec := { name := "neighborBack", fn := fun _ => fun
  | [d] => { results := [.lit (.bool false)], args := [d] }
  | _ => none }
def NeighborBackWrongFalsely : Prop := neighborBackRow.holds Try.pinned (OpenSpec.ofChange neighborBackWrong)

/-- 'exchangepointlaw07.NeighborFar': WHATEVER THE INPUT: true; the input reads as it did. -/
def neighborFarSpec : ChangeSpec := { name := "neighborFar", fn := fun _ => fun
  | [d1, d2, d3] => { results := [.lit (.bool true)], args := [d1, d2, d3] }
  | _ => none }
def neighborFarRow : OpenClaim := { program := "ytoijkcnefnmbjaa", sum := "a4a4adbf5b74c61b51b6ef6b25b0a54daa6183ca82e8e18f92dbfa6ad73f9746", func := "exchangepoint/exchangepointlaw07.NeighborFar", spec := "neighborFar", inPlace := ["internal/bytealg.MakeNoZero"], apart := false }
def NeighborFarSaid : Prop := neighborFarRow.holds Try.pinned (OpenSpec.ofChange neighborFarSpec)

/-- ITS FALSE NEIGHBOUR: 'it returns false'. Refute it at one input. -/
def neighborFarWrong : ChangeSpec := { name := "neighborFar", fn := fun _ => fun
  | [d1, d2, d3] => { results := [.lit (.bool false)], args := [d1, d2, d3] }
  | _ => none }
def NeighborFarWrongFalsely : Prop := neighborFarRow.holds Try.pinned (OpenSpec.ofChange neighborFarWrong)

/-- 'exchangepointlaw07.NeighborMore': WHATEVER THE INPUT: true; the input reads as it did. -/
def neighborMoreSpec : ChangeSpec := { name := "neighborMore", fn := fun _ => fun
  | [d1, d2, d3] => { results := [.lit (.bool true)], args := [d1, d2, d3] }
  | _ => none }
def neighborMoreRow : OpenClaim := { program := "ytoijkcnefnmbjaa", sum := "a4a4adbf5b74c61b51b6ef6b25b0a54daa6183ca82e8e18f92dbfa6ad73f9746", func := "exchangepoint/exchangepointlaw07.NeighborMore", spec := "neighborMore", inPlace := ["internal/bytealg.MakeNoZero"], apart := false }
def NeighborMoreSaid : Prop := neighborMoreRow.holds Try.pinned (OpenSpec.ofChange neighborMoreSpec)

/-- ITS FALSE NEIGHBOUR: 'it returns false'. Refute it at one input. -/
def neighborMoreWrong : ChangeSpec := { name := "neighborMore", fn := fun _ => fun
  | [d1, d2, d3] => { results := [.lit (.bool false)], args := [d1, d2, d3] }
  | _ => none }
def NeighborMoreWrongFalsely : Prop := neighborMoreRow.holds Try.pinned (OpenSpec.ofChange neighborMoreWrong)

/- THE SECOND FORM. 'bulk': how many values and letters a reading holds, each counted each time it is reached (what is shared counts as often as it is met; a slice's spare places count too). A statement '..UptoSaid' is the law's where the arguments, and the package variables that the reading takes, are together of bulk at most 1048576: NARROWER than '..Said'. Prove '..Said' where nothing that the law and all that it calls make is longer than what came in: it says more and counts as full. Else prove '..UptoSaid'. A law counts once. -/
mutual
def uptoBulk {H : Type} : DataW H → Nat
  | .lit (.string bytes) => bytes.length + 1
  | .lit _ => 1
  | .nil => 1
  | .ptr d => uptoBulk d + 1
  | .slice elems spare => uptoBulkAll elems + uptoBulkAll spare + 1
  | .agg parts => uptoBulkAll parts + 1
  | .iface _ d => uptoBulk d + 1
  | .map entries => uptoBulkEntries entries + 1
  | .held _ => 1
def uptoBulkAll {H : Type} : List (DataW H) → Nat
  | [] => 0
  | d :: r => uptoBulk d + uptoBulkAll r
def uptoBulkEntries {H : Type} : List (Lit × DataW H) → Nat
  | [] => 0
  | x :: r => uptoBulkEntry x + uptoBulkEntries r
def uptoBulkEntry {H : Type} : Lit × DataW H → Nat
  | (.string bytes, d) => bytes.length + uptoBulk d + 1
  | (_, d) => uptoBulk d + 1
 end
def uptoSmall : (H : Type) → List (DataW H) → Bool := fun _ ds => decide (uptoBulkAll ds ≤ 1048576)
def OpenSpec.upto (s : _root_.Go.ChangeSpec) : _root_.Go.OpenSpec := { _root_.Go.OpenSpec.ofChange s with cond := some uptoSmall }

/-- 'exchangepointlaw06.PacketCodes', WHERE WHAT IT READS IS OF BULK AT MOST 1048576: true; the input reads as it did. -/
def packetCodesUptoRow : OpenClaim := { program := "ytoijkcnefnmbjaa", sum := "a4a4adbf5b74c61b51b6ef6b25b0a54daa6183ca82e8e18f92dbfa6ad73f9746", func := "exchangepoint/exchangepointlaw06.PacketCodes", spec := "packetCodes", apart := false, narrowed := true }
def PacketCodesUptoSaid : Prop := packetCodesUptoRow.holds Try.pinned (OpenSpec.upto packetCodesSpec)

/-- 'exchangepointlaw07.NeighborCodes', WHERE WHAT IT READS IS OF BULK AT MOST 1048576: true; the input reads as it did. -/
def neighborCodesUptoRow : OpenClaim := { program := "ytoijkcnefnmbjaa", sum := "a4a4adbf5b74c61b51b6ef6b25b0a54daa6183ca82e8e18f92dbfa6ad73f9746", func := "exchangepoint/exchangepointlaw07.NeighborCodes", spec := "neighborCodes", inPlace := ["internal/bytealg.MakeNoZero"], apart := false, narrowed := true }
def NeighborCodesUptoSaid : Prop := neighborCodesUptoRow.holds Try.pinned (OpenSpec.upto neighborCodesSpec)

/-- 'exchangepointlaw07.NeighborReads', WHERE WHAT IT READS IS OF BULK AT MOST 1048576: true; the input reads as it did. -/
def neighborReadsUptoRow : OpenClaim := { program := "ytoijkcnefnmbjaa", sum := "a4a4adbf5b74c61b51b6ef6b25b0a54daa6183ca82e8e18f92dbfa6ad73f9746", func := "exchangepoint/exchangepointlaw07.NeighborReads", spec := "neighborReads", inPlace := ["internal/bytealg.MakeNoZero"], apart := false, narrowed := true }
def NeighborReadsUptoSaid : Prop := neighborReadsUptoRow.holds Try.pinned (OpenSpec.upto neighborReadsSpec)

/-- 'exchangepointlaw07.NeighborBack', WHERE WHAT IT READS IS OF BULK AT MOST 1048576: true; the input reads as it did. -/
def neighborBackUptoRow : OpenClaim := { program := "ytoijkcnefnmbjaa", sum := "a4a4adbf5b74c61b51b6ef6b25b0a54daa6183ca82e8e18f92dbfa6ad73f9746", func := "exchangepoint/exchangepointlaw07.NeighborBack", spec := "neighborBack", inPlace := ["internal/bytealg.MakeNoZero"], apart := false, narrowed := true }
def NeighborBackUptoSaid : Prop := neighborBackUptoRow.holds Try.pinned (OpenSpec.upto neighborBackSpec)

/-- 'exchangepointlaw07.NeighborFar', WHERE WHAT IT READS IS OF BULK AT MOST 1048576: true; the input reads as it did. -/
def neighborFarUptoRow : OpenClaim := { program := "ytoijkcnefnmbjaa", sum := "a4a4adbf5b74c61b51b6ef6b25b0a54daa6183ca82e8e18f92dbfa6ad73f9746", func := "exchangepoint/exchangepointlaw07.NeighborFar", spec := "neighborFar", inPlace := ["internal/bytealg.MakeNoZero"], apart := false, narrowed := true }
def NeighborFarUptoSaid : Prop := neighborFarUptoRow.holds Try.pinned (OpenSpec.upto neighborFarSpec)

/-- 'exchangepointlaw07.NeighborMore', WHERE WHAT IT READS IS OF BULK AT MOST 1048576: true; the input reads as it did. -/
def neighborMoreUptoRow : OpenClaim := { program := "ytoijkcnefnmbjaa", sum := "a4a4adbf5b74c61b51b6ef6b25b0a54daa6183ca82e8e18f92dbfa6ad73f9746", func := "exchangepoint/exchangepointlaw07.NeighborMore", spec := "neighborMore", inPlace := ["internal/bytealg.MakeNoZero"], apart := false, narrowed := true }
def NeighborMoreUptoSaid : Prop := neighborMoreUptoRow.holds Try.pinned (OpenSpec.upto neighborMoreSpec)

end Rows
end Go.Proofs.Ytoijkcnefnmbjaa
