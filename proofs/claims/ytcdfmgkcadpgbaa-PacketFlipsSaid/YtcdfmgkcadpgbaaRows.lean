/-
  No cell of these rows narrows 'for every input' (looked for: loops, veiled, ifaces, maps, wideKeys, modest, calm, conditions, laid).
  DERIVED. THE GIVEN ROWS OF THIS SEAT. 6 by the template 'for every input the law returns true; each argument reads behind the call as it read before'; 0 by the template 'total and deterministic' (their statements: YtcdfmgkcadpgbaaTotals.lean).
  GIVEN WITH THE SEED: the statements are not yours to turn. If you find one false, say at which input.
  Laid BY PROGRAM, IN A SANDBOX (cutbox-rows.mjs): the forced cells as the released guide's own fill.sh prints them over the translation 3c1af312af001089… (all of the seat's roots in one cut). By AI agents, Wed Nov 11 2026. No macro, syntax, notation, axiom, sorry.
-/
import Derived.Test.YtcdfmgkcadpgbaaChecked
import GoSem.Claim
import GoSem.ClaimJoined
import GoSem.ClaimMapViews
import Derived.JoinedTies
import Derived.KernelRfl
namespace Go.Proofs.Ytcdfmgkcadpgbaa
/- THE CELL 'sum', in the pinned program and in every row, IS THE sha256 OF THE DUMP (.gsa) THAT YtcdfmgkcadpgbaaProg.lean LOADS. Nothing in Lean hashes anything: it is a label: what it is worth is what the hold of that sum in a sandbox is worth. -/
noncomputable def Try.pinned : Pinned := { name := "ytcdfmgkcadpgbaa", sum := "3c1af312af0010897ecff6dad46ad21d38238d8bce93bfff081f5f28448ef904", checked := Try.checked }
namespace Rows
def none {H : Type} : Left H := { results := [], args := [] }

/-- 'exchangepointlaw06.PacketSelf': WHATEVER THE INPUT: true; the input reads as it did. -/
def packetSelfSpec : ChangeSpec := { name := "packetSelf", fn := fun _ => fun
  | [d1, d2, d3] => { results := [.lit (.bool true)], args := [d1, d2, d3] }
  | _ => none }
def packetSelfRow : OpenClaim := { program := "ytcdfmgkcadpgbaa", sum := "3c1af312af0010897ecff6dad46ad21d38238d8bce93bfff081f5f28448ef904", func := "exchangepoint/exchangepointlaw06.PacketSelf", spec := "packetSelf", apart := false }
def PacketSelfSaid : Prop := packetSelfRow.holds Try.pinned (OpenSpec.ofChange packetSelfSpec)

/-- ITS FALSE NEIGHBOUR: 'it returns false'. Refute it at one input. -/
def packetSelfWrong : ChangeSpec := { name := "packetSelf", fn := fun _ => fun
  | [d1, d2, d3] => { results := [.lit (.bool false)], args := [d1, d2, d3] }
  | _ => none }
def PacketSelfWrongFalsely : Prop := packetSelfRow.holds Try.pinned (OpenSpec.ofChange packetSelfWrong)

/-- 'exchangepointlaw06.PacketHops': WHATEVER THE INPUT: true; the input reads as it did. -/
def packetHopsSpec : ChangeSpec := { name := "packetHops", fn := fun _ => fun
  | [d1, d2] => { results := [.lit (.bool true)], args := [d1, d2] }
  | _ => none }
def packetHopsRow : OpenClaim := { program := "ytcdfmgkcadpgbaa", sum := "3c1af312af0010897ecff6dad46ad21d38238d8bce93bfff081f5f28448ef904", func := "exchangepoint/exchangepointlaw06.PacketHops", spec := "packetHops", apart := false }
def PacketHopsSaid : Prop := packetHopsRow.holds Try.pinned (OpenSpec.ofChange packetHopsSpec)

/-- ITS FALSE NEIGHBOUR: 'it returns false'. Refute it at one input. -/
def packetHopsWrong : ChangeSpec := { name := "packetHops", fn := fun _ => fun
  | [d1, d2] => { results := [.lit (.bool false)], args := [d1, d2] }
  | _ => none }
def PacketHopsWrongFalsely : Prop := packetHopsRow.holds Try.pinned (OpenSpec.ofChange packetHopsWrong)

/-- 'exchangepointlaw06.PacketSums': WHATEVER THE INPUT: true; the input reads as it did. -/
def packetSumsSpec : ChangeSpec := { name := "packetSums", fn := fun _ => fun
  | [d1, d2, d3] => { results := [.lit (.bool true)], args := [d1, d2, d3] }
  | _ => none }
def packetSumsRow : OpenClaim := { program := "ytcdfmgkcadpgbaa", sum := "3c1af312af0010897ecff6dad46ad21d38238d8bce93bfff081f5f28448ef904", func := "exchangepoint/exchangepointlaw06.PacketSums", spec := "packetSums", inPlace := ["internal/bytealg.MakeNoZero"], apart := false }
def PacketSumsSaid : Prop := packetSumsRow.holds Try.pinned (OpenSpec.ofChange packetSumsSpec)

/-- ITS FALSE NEIGHBOUR: 'it returns false'. Refute it at one input. -/
def packetSumsWrong : ChangeSpec := { name := "packetSums", fn := fun _ => fun
  | [d1, d2, d3] => { results := [.lit (.bool false)], args := [d1, d2, d3] }
  | _ => none }
def PacketSumsWrongFalsely : Prop := packetSumsRow.holds Try.pinned (OpenSpec.ofChange packetSumsWrong)

/-- 'exchangepointlaw06.PacketCodes': WHATEVER THE INPUT: true; the input reads as it did. -/
def packetCodesSpec : ChangeSpec := { name := "packetCodes", fn := fun _ => fun
  | [d1, d2, d3, d4, d5] => { results := [.lit (.bool true)], args := [d1, d2, d3, d4, d5] }
  | _ => none }
def packetCodesRow : OpenClaim := { program := "ytcdfmgkcadpgbaa", sum := "3c1af312af0010897ecff6dad46ad21d38238d8bce93bfff081f5f28448ef904", func := "exchangepoint/exchangepointlaw06.PacketCodes", spec := "packetCodes", apart := false }
def PacketCodesSaid : Prop := packetCodesRow.holds Try.pinned (OpenSpec.ofChange packetCodesSpec)

/-- ITS FALSE NEIGHBOUR: 'it returns false'. Refute it at one input. -/
def packetCodesWrong : ChangeSpec := { name := "packetCodes", fn := fun _ => fun
  | [d1, d2, d3, d4, d5] => { results := [.lit (.bool false)], args := [d1, d2, d3, d4, d5] }
  | _ => none }
def PacketCodesWrongFalsely : Prop := packetCodesRow.holds Try.pinned (OpenSpec.ofChange packetCodesWrong)

/-- 'exchangepointlaw06.PacketBack': WHATEVER THE INPUT: true; the input reads as it did. -/
def packetBackSpec : ChangeSpec := { name := "packetBack", fn := fun _ => fun
  | [d1, d2] => { results := [.lit (.bool true)], args := [d1, d2] }
  | _ => none }
def packetBackRow : OpenClaim := { program := "ytcdfmgkcadpgbaa", sum := "3c1af312af0010897ecff6dad46ad21d38238d8bce93bfff081f5f28448ef904", func := "exchangepoint/exchangepointlaw06.PacketBack", spec := "packetBack", apart := false }
def PacketBackSaid : Prop := packetBackRow.holds Try.pinned (OpenSpec.ofChange packetBackSpec)

/-- ITS FALSE NEIGHBOUR: 'it returns false'. Refute it at one input. -/
def packetBackWrong : ChangeSpec := { name := "packetBack", fn := fun _ => fun
  | [d1, d2] => { results := [.lit (.bool false)], args := [d1, d2] }
  | _ => none }
def PacketBackWrongFalsely : Prop := packetBackRow.holds Try.pinned (OpenSpec.ofChange packetBackWrong)

/-- 'exchangepointlaw06.PacketFlips': WHATEVER THE INPUT: true; the input reads as it did. -/
def packetFlipsSpec : ChangeSpec := { name := "packetFlips", fn := fun _ => fun
  | [d1, d2] => { results := [.lit (.bool true)], args := [d1, d2] }
  | _ => none }
def packetFlipsRow : OpenClaim := { program := "ytcdfmgkcadpgbaa", sum := "3c1af312af0010897ecff6dad46ad21d38238d8bce93bfff081f5f28448ef904", func := "exchangepoint/exchangepointlaw06.PacketFlips", spec := "packetFlips", apart := false }
def PacketFlipsSaid : Prop := packetFlipsRow.holds Try.pinned (OpenSpec.ofChange packetFlipsSpec)

/-- ITS FALSE NEIGHBOUR: 'it returns false'. Refute it at one input. -/
def packetFlipsWrong : ChangeSpec := { name := "packetFlips", fn := fun _ => fun
  | [d1, d2] => { results := [.lit (.bool false)], args := [d1, d2] }
  | _ => none }
def PacketFlipsWrongFalsely : Prop := packetFlipsRow.holds Try.pinned (OpenSpec.ofChange packetFlipsWrong)

/- THE SECOND FORM. 'bulk': how many values and letters a reading holds, each counted each time it is reached (what is shared counts as often as it is met; a slice's spare places count too). A statement '..UptoSaid' is the law's where the arguments, and the package variables that the reading takes, are together of bulk at most 1048576: NARROWER than '..Said'. Prove '..Said' where nothing that the law and all that it calls make is longer than what came in: it says more and counts as full. Else prove '..UptoSaid'. A law counts once. -/
mutual
def uptoBulk {H : Type} : DataW H → Nat
  | .lit (.string bytes) => bytes.length + 1
  | .lit _ => 1
  | .nil => 1
  | .ptr d => uptoBulk d + 1
  | .slice elems spare => uptoBulkAll elems + uptoBulkAll spare + 1
  | .agg parts => uptoBulkAll parts + 1
  | .iface _ d => uptoBulk d + 1
  | .map entries => uptoBulkEntries entries + 1
  | .held _ => 1
def uptoBulkAll {H : Type} : List (DataW H) → Nat
  | [] => 0
  | d :: r => uptoBulk d + uptoBulkAll r
def uptoBulkEntries {H : Type} : List (Lit × DataW H) → Nat
  | [] => 0
  | x :: r => uptoBulkEntry x + uptoBulkEntries r
def uptoBulkEntry {H : Type} : Lit × DataW H → Nat
  | (.string bytes, d) => bytes.length + uptoBulk d + 1
  | (_, d) => uptoBulk d + 1
 end
def uptoSmall : (H : Type) → List (DataW H) → Bool := fun _ ds => decide (uptoBulkAll ds ≤ 1048576)
def OpenSpec.upto (s : _root_.Go.ChangeSpec) : _root_.Go.OpenSpec := { _root_.Go.OpenSpec.ofChange s with cond := some uptoSmall }

/-- 'exchangepointlaw06.PacketSelf', WHERE WHAT IT READS IS OF BULK AT MOST 1048576: true; the input reads as it did. -/
def packetSelfUptoRow : OpenClaim := { program := "ytcdfmgkcadpgbaa", sum := "3c1af312af0010897ecff6dad46ad21d38238d8bce93bfff081f5f28448ef904", func := "exchangepoint/exchangepointlaw06.PacketSelf", spec := "packetSelf", apart := false, narrowed := true }
def PacketSelfUptoSaid : Prop := packetSelfUptoRow.holds Try.pinned (OpenSpec.upto packetSelfSpec)

/-- 'exchangepointlaw06.PacketHops', WHERE WHAT IT READS IS OF BULK AT MOST 1048576: true; the input reads as it did. -/
def packetHopsUptoRow : OpenClaim := { program := "ytcdfmgkcadpgbaa", sum := "3c1af312af0010897ecff6dad46ad21d38238d8bce93bfff081f5f28448ef904", func := "exchangepoint/exchangepointlaw06.PacketHops", spec := "packetHops", apart := false, narrowed := true }
def PacketHopsUptoSaid : Prop := packetHopsUptoRow.holds Try.pinned (OpenSpec.upto packetHopsSpec)

/-- 'exchangepointlaw06.PacketSums', WHERE WHAT IT READS IS OF BULK AT MOST 1048576: true; the input reads as it did. -/
def packetSumsUptoRow : OpenClaim := { program := "ytcdfmgkcadpgbaa", sum := "3c1af312af0010897ecff6dad46ad21d38238d8bce93bfff081f5f28448ef904", func := "exchangepoint/exchangepointlaw06.PacketSums", spec := "packetSums", inPlace := ["internal/bytealg.MakeNoZero"], apart := false, narrowed := true }
def PacketSumsUptoSaid : Prop := packetSumsUptoRow.holds Try.pinned (OpenSpec.upto packetSumsSpec)

/-- 'exchangepointlaw06.PacketCodes', WHERE WHAT IT READS IS OF BULK AT MOST 1048576: true; the input reads as it did. -/
def packetCodesUptoRow : OpenClaim := { program := "ytcdfmgkcadpgbaa", sum := "3c1af312af0010897ecff6dad46ad21d38238d8bce93bfff081f5f28448ef904", func := "exchangepoint/exchangepointlaw06.PacketCodes", spec := "packetCodes", apart := false, narrowed := true }
def PacketCodesUptoSaid : Prop := packetCodesUptoRow.holds Try.pinned (OpenSpec.upto packetCodesSpec)

/-- 'exchangepointlaw06.PacketBack', WHERE WHAT IT READS IS OF BULK AT MOST 1048576: true; the input reads as it did. -/
def packetBackUptoRow : OpenClaim := { program := "ytcdfmgkcadpgbaa", sum := "3c1af312af0010897ecff6dad46ad21d38238d8bce93bfff081f5f28448ef904", func := "exchangepoint/exchangepointlaw06.PacketBack", spec := "packetBack", apart := false, narrowed := true }
def PacketBackUptoSaid : Prop := packetBackUptoRow.holds Try.pinned (OpenSpec.upto packetBackSpec)

/-- 'exchangepointlaw06.PacketFlips', WHERE WHAT IT READS IS OF BULK AT MOST 1048576: true; the input reads as it did. -/
def packetFlipsUptoRow : OpenClaim := { program := "ytcdfmgkcadpgbaa", sum := "3c1af312af0010897ecff6dad46ad21d38238d8bce93bfff081f5f28448ef904", func := "exchangepoint/exchangepointlaw06.PacketFlips", spec := "packetFlips", apart := false, narrowed := true }
def PacketFlipsUptoSaid : Prop := packetFlipsUptoRow.holds Try.pinned (OpenSpec.upto packetFlipsSpec)

end Rows
end Go.Proofs.Ytcdfmgkcadpgbaa
