/-
  NARROWER THAN 'FOR EVERY INPUT', by the rows' own cells (each row's printed sentence says how): ResolveDelivers: laid.
  DERIVED. THE GIVEN ROWS OF THIS SEAT. 1 by the template 'for every input the law returns true; each argument reads behind the call as it read before'; 0 by the template 'total and deterministic' (their statements: YtcidmiacfjdepaaGreatDoorTotals.lean).
  GIVEN WITH THE SEED: the statements are not yours to turn. If you find one false, say at which input.
  Laid BY PROGRAM, IN A SANDBOX (cutbox-rows.mjs): the forced cells as the released guide's own fill.sh prints them over the translation b0759b06c5b62ee1… (all of the seat's roots in one cut). By AI agents, Wed Nov 11 2026. No macro, syntax, notation, axiom, sorry.
-/
import Derived.Test.YtcidmiacfjdepaaGreatDoorChecked
import GoSem.Claim
import GoSem.ClaimJoined
import GoSem.ClaimMapViews
import Derived.JoinedTies
import Derived.KernelRfl
namespace Go.Proofs.YtcidmiacfjdepaaGreatDoor
/- THE CELL 'sum', in the pinned program and in every row, IS THE sha256 OF THE DUMP (.gsa) THAT YtcidmiacfjdepaaGreatDoorProg.lean LOADS. Nothing in Lean hashes anything: it is a label: what it is worth is what the hold of that sum in a sandbox is worth. -/
noncomputable def Tryz.pinned : Pinned := { name := "ytcidmiacfjdepaagreatdoor", sum := "b0759b06c5b62ee141b4d98d7bb72f67cf3908a8c42404cdd4057158be14ecee", checked := Tryz.checked }
namespace Rows
def none {H : Type} : Left H := { results := [], args := [] }

/- WHAT THE LISTED PACKAGE-LEVEL VARIABLES READ AS WHEN THE CALL BEGINS. Each datum BY PROGRAM (the guide's laid-datum.mjs) off the statement by which the dump's own 'gosem.cut.vars' lays the variable. In a bare row this is a premise. The card (YtcidmiacfjdepaaGreatDoorCards.lean) ties it to the program's text. -/
def laid_exchangepoint_arp_head {H : Type} : DataW H := .agg [.lit (.int .u8 0), .lit (.int .u8 1), .lit (.int .u8 8), .lit (.int .u8 0), .lit (.int .u8 6), .lit (.int .u8 4)]

/-- 'exchangepointlaw11.ResolveDelivers': WHATEVER THE INPUT: true; the input reads as it did. -/
def resolveDeliversSpec : ChangeSpec := { name := "resolveDelivers", fn := fun _ => fun
  | [d1, d2, d3, d4, d5] => { results := [.lit (.bool true)], args := [d1, d2, d3, d4, d5] }
  | _ => none }
def resolveDeliversRow : OpenClaim := { program := "ytcidmiacfjdepaagreatdoor", sum := "b0759b06c5b62ee141b4d98d7bb72f67cf3908a8c42404cdd4057158be14ecee", func := "exchangepoint/exchangepointlaw11.ResolveDelivers", spec := "resolveDelivers", inPlace := ["internal/bytealg.MakeNoZero"], named := ["exchangepoint/arp.head"], plainKeys := false, apart := false, laid := [("exchangepoint/arp.head", laid_exchangepoint_arp_head)] }
def ResolveDeliversSaid : Prop := resolveDeliversRow.holds Tryz.pinned (OpenSpec.ofChange resolveDeliversSpec)

/-- ITS FALSE NEIGHBOUR: 'it returns false'. Refute it at one input. -/
def resolveDeliversWrong : ChangeSpec := { name := "resolveDelivers", fn := fun _ => fun
  | [d1, d2, d3, d4, d5] => { results := [.lit (.bool false)], args := [d1, d2, d3, d4, d5] }
  | _ => none }
def ResolveDeliversWrongFalsely : Prop := resolveDeliversRow.holds Tryz.pinned (OpenSpec.ofChange resolveDeliversWrong)

/- THE SECOND FORM. 'bulk': how many values and letters a reading holds, each counted each time it is reached (what is shared counts as often as it is met; a slice's spare places count too). A statement '..UptoSaid' is the law's where the arguments, and the package variables that the reading takes, are together of bulk at most 1048576: NARROWER than '..Said'. Prove '..Said' where nothing that the law and all that it calls make is longer than what came in: it says more and counts as full. Else prove '..UptoSaid'. A law counts once. -/
mutual
def uptoBulk {H : Type} : DataW H → Nat
  | .lit (.string bytes) => bytes.length + 1
  | .lit _ => 1
  | .nil => 1
  | .ptr d => uptoBulk d + 1
  | .slice elems spare => uptoBulkAll elems + uptoBulkAll spare + 1
  | .agg parts => uptoBulkAll parts + 1
  | .iface _ d => uptoBulk d + 1
  | .map entries => uptoBulkEntries entries + 1
  | .held _ => 1
def uptoBulkAll {H : Type} : List (DataW H) → Nat
  | [] => 0
  | d :: r => uptoBulk d + uptoBulkAll r
def uptoBulkEntries {H : Type} : List (Lit × DataW H) → Nat
  | [] => 0
  | x :: r => uptoBulkEntry x + uptoBulkEntries r
def uptoBulkEntry {H : Type} : Lit × DataW H → Nat
  | (.string bytes, d) => bytes.length + uptoBulk d + 1
  | (_, d) => uptoBulk d + 1
 end
def uptoSmall : (H : Type) → List (DataW H) → Bool := fun _ ds => decide (uptoBulkAll ds ≤ 1048576)
def OpenSpec.upto (s : _root_.Go.ChangeSpec) : _root_.Go.OpenSpec := { _root_.Go.OpenSpec.ofChange s with cond := some uptoSmall }

/-- 'exchangepointlaw11.ResolveDelivers', WHERE WHAT IT READS IS OF BULK AT MOST 1048576: true; the input reads as it did. -/
def resolveDeliversUptoRow : OpenClaim := { program := "ytcidmiacfjdepaagreatdoor", sum := "b0759b06c5b62ee141b4d98d7bb72f67cf3908a8c42404cdd4057158be14ecee", func := "exchangepoint/exchangepointlaw11.ResolveDelivers", spec := "resolveDelivers", inPlace := ["internal/bytealg.MakeNoZero"], named := ["exchangepoint/arp.head"], plainKeys := false, apart := false, laid := [("exchangepoint/arp.head", laid_exchangepoint_arp_head)], narrowed := true }
def ResolveDeliversUptoSaid : Prop := resolveDeliversUptoRow.holds Tryz.pinned (OpenSpec.upto resolveDeliversSpec)

end Rows
end Go.Proofs.YtcidmiacfjdepaaGreatDoor
