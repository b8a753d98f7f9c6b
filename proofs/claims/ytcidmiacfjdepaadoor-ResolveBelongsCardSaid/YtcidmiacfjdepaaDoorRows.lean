/-
  NARROWER THAN 'FOR EVERY INPUT', by the rows' own cells (each row's printed sentence says how): ResolveFinds: laid · ResolveNobody: laid · ResolveBelongs: laid.
  DERIVED. THE GIVEN ROWS OF THIS SEAT. 3 by the template 'for every input the law returns true; each argument reads behind the call as it read before'; 0 by the template 'total and deterministic' (their statements: YtcidmiacfjdepaaDoorTotals.lean).
  GIVEN WITH THE SEED: the statements are not yours to turn. If you find one false, say at which input.
  Laid BY PROGRAM, IN A SANDBOX (cutbox-rows.mjs): the forced cells as the released guide's own fill.sh prints them over the translation 525063bc0a2a628c… (all of the seat's roots in one cut). By AI agents, Wed Nov 11 2026. No macro, syntax, notation, axiom, sorry.
-/
import Derived.Test.YtcidmiacfjdepaaDoorChecked
import GoSem.Claim
import GoSem.ClaimJoined
import GoSem.ClaimMapViews
import Derived.JoinedTies
import Derived.KernelRfl
namespace Go.Proofs.YtcidmiacfjdepaaDoor
/- THE CELL 'sum', in the pinned program and in every row, IS THE sha256 OF THE DUMP (.gsa) THAT YtcidmiacfjdepaaDoorProg.lean LOADS. Nothing in Lean hashes anything: it is a label: what it is worth is what the hold of that sum in a sandbox is worth. -/
noncomputable def Tryd.pinned : Pinned := { name := "ytcidmiacfjdepaadoor", sum := "525063bc0a2a628cc9bf4980e3ae743c6b8d505d52dfcc9d22385331992f5c2a", checked := Tryd.checked }
namespace Rows
def none {H : Type} : Left H := { results := [], args := [] }

/- WHAT THE LISTED PACKAGE-LEVEL VARIABLES READ AS WHEN THE CALL BEGINS. Each datum BY PROGRAM (the guide's laid-datum.mjs) off the statement by which the dump's own 'gosem.cut.vars' lays the variable. In a bare row this is a premise. The card (YtcidmiacfjdepaaDoorCards.lean) ties it to the program's text. -/
def laid_exchangepoint_arp_head {H : Type} : DataW H := .agg [.lit (.int .u8 0), .lit (.int .u8 1), .lit (.int .u8 8), .lit (.int .u8 0), .lit (.int .u8 6), .lit (.int .u8 4)]

/-- 'exchangepointlaw11.ResolveFinds': WHATEVER THE INPUT: true; the input reads as it did. -/
def resolveFindsSpec : ChangeSpec := { name := "resolveFinds", fn := fun _ => fun
  | [d1, d2, d3] => { results := [.lit (.bool true)], args := [d1, d2, d3] }
  | _ => none }
def resolveFindsRow : OpenClaim := { program := "ytcidmiacfjdepaadoor", sum := "525063bc0a2a628cc9bf4980e3ae743c6b8d505d52dfcc9d22385331992f5c2a", func := "exchangepoint/exchangepointlaw11.ResolveFinds", spec := "resolveFinds", inPlace := ["internal/bytealg.MakeNoZero"], named := ["exchangepoint/arp.head"], plainKeys := false, apart := false, laid := [("exchangepoint/arp.head", laid_exchangepoint_arp_head)] }
def ResolveFindsSaid : Prop := resolveFindsRow.holds Tryd.pinned (OpenSpec.ofChange resolveFindsSpec)

/-- ITS FALSE NEIGHBOUR: 'it returns false'. Refute it at one input. -/
def resolveFindsWrong : ChangeSpec := { name := "resolveFinds", fn := fun _ => fun
  | [d1, d2, d3] => { results := [.lit (.bool false)], args := [d1, d2, d3] }
  | _ => none }
def ResolveFindsWrongFalsely : Prop := resolveFindsRow.holds Tryd.pinned (OpenSpec.ofChange resolveFindsWrong)

/-- 'exchangepointlaw11.ResolveNobody': WHATEVER THE INPUT: true; the input reads as it did. -/
def resolveNobodySpec : ChangeSpec := { name := "resolveNobody", fn := fun _ => fun
  | [d1, d2, d3] => { results := [.lit (.bool true)], args := [d1, d2, d3] }
  | _ => none }
def resolveNobodyRow : OpenClaim := { program := "ytcidmiacfjdepaadoor", sum := "525063bc0a2a628cc9bf4980e3ae743c6b8d505d52dfcc9d22385331992f5c2a", func := "exchangepoint/exchangepointlaw11.ResolveNobody", spec := "resolveNobody", inPlace := ["internal/bytealg.MakeNoZero"], named := ["exchangepoint/arp.head"], plainKeys := false, apart := false, laid := [("exchangepoint/arp.head", laid_exchangepoint_arp_head)] }
def ResolveNobodySaid : Prop := resolveNobodyRow.holds Tryd.pinned (OpenSpec.ofChange resolveNobodySpec)

/-- ITS FALSE NEIGHBOUR: 'it returns false'. Refute it at one input. -/
def resolveNobodyWrong : ChangeSpec := { name := "resolveNobody", fn := fun _ => fun
  | [d1, d2, d3] => { results := [.lit (.bool false)], args := [d1, d2, d3] }
  | _ => none }
def ResolveNobodyWrongFalsely : Prop := resolveNobodyRow.holds Tryd.pinned (OpenSpec.ofChange resolveNobodyWrong)

/-- 'exchangepointlaw11.ResolveBelongs': WHATEVER THE INPUT: true; the input reads as it did. -/
def resolveBelongsSpec : ChangeSpec := { name := "resolveBelongs", fn := fun _ => fun
  | [d] => { results := [.lit (.bool true)], args := [d] }
  | _ => none }
def resolveBelongsRow : OpenClaim := { program := "ytcidmiacfjdepaadoor", sum := "525063bc0a2a628cc9bf4980e3ae743c6b8d505d52dfcc9d22385331992f5c2a", func := "exchangepoint/exchangepointlaw11.ResolveBelongs", spec := "resolveBelongs", inPlace := ["internal/bytealg.MakeNoZero"], named := ["exchangepoint/arp.head"], plainKeys := false, apart := false, laid := [("exchangepoint/arp.head", laid_exchangepoint_arp_head)] }
def ResolveBelongsSaid : Prop := resolveBelongsRow.holds Tryd.pinned (OpenSpec.ofChange resolveBelongsSpec)

/-- ITS FALSE NEIGHBOUR: 'it returns false'. Refute it at one input. -/
def resolveBelongsWrong : ChangeSpec := { name := "resolveBelongs", fn := fun _ => fun
  | [d] => { results := [.lit (.bool false)], args := [d] }
  | _ => none }
def ResolveBelongsWrongFalsely : Prop := resolveBelongsRow.holds Tryd.pinned (OpenSpec.ofChange resolveBelongsWrong)

/- THE SECOND FORM. 'bulk': how many values and letters a reading holds, each counted each time it is reached (what is shared counts as often as it is met; a slice's spare places count too). A statement '..UptoSaid' is the law's where the arguments, and the package variables that the reading takes, are together of bulk at most 1048576: NARROWER than '..Said'. Prove '..Said' where nothing that the law and all that it calls make is longer than what came in: it says more and counts as full. Else prove '..UptoSaid'. A law counts once. -/
mutual
def uptoBulk {H : Type} : DataW H → Nat
  | .lit (.string bytes) => bytes.length + 1
  | .lit _ => 1
  | .nil => 1
  | .ptr d => uptoBulk d + 1
  | .slice elems spare => uptoBulkAll elems + uptoBulkAll spare + 1
  | .agg parts => uptoBulkAll parts + 1
  | .iface _ d => uptoBulk d + 1
  | .map entries => uptoBulkEntries entries + 1
  | .held _ => 1
def uptoBulkAll {H : Type} : List (DataW H) → Nat
  | [] => 0
  | d :: r => uptoBulk d + uptoBulkAll r
def uptoBulkEntries {H : Type} : List (Lit × DataW H) → Nat
  | [] => 0
  | x :: r => uptoBulkEntry x + uptoBulkEntries r
def uptoBulkEntry {H : Type} : Lit × DataW H → Nat
  | (.string bytes, d) => bytes.length + uptoBulk d + 1
  | (_, d) => uptoBulk d + 1
 end
def uptoSmall : (H : Type) → List (DataW H) → Bool := fun _ ds => decide (uptoBulkAll ds ≤ 1048576)
def OpenSpec.upto (s : _root_.Go.ChangeSpec) : _root_.Go.OpenSpec := { _root_.Go.OpenSpec.ofChange s with cond := some uptoSmall }

/-- 'exchangepointlaw11.ResolveFinds', WHERE WHAT IT READS IS OF BULK AT MOST 1048576: true; the input reads as it did. -/
def resolveFindsUptoRow : OpenClaim := { program := "ytcidmiacfjdepaadoor", sum := "525063bc0a2a628cc9bf4980e3ae743c6b8d505d52dfcc9d22385331992f5c2a", func := "exchangepoint/exchangepointlaw11.ResolveFinds", spec := "resolveFinds", inPlace := ["internal/bytealg.MakeNoZero"], named := ["exchangepoint/arp.head"], plainKeys := false, apart := false, laid := [("exchangepoint/arp.head", laid_exchangepoint_arp_head)], narrowed := true }
def ResolveFindsUptoSaid : Prop := resolveFindsUptoRow.holds Tryd.pinned (OpenSpec.upto resolveFindsSpec)

/-- 'exchangepointlaw11.ResolveNobody', WHERE WHAT IT READS IS OF BULK AT MOST 1048576: true; the input reads as it did. -/
def resolveNobodyUptoRow : OpenClaim := { program := "ytcidmiacfjdepaadoor", sum := "525063bc0a2a628cc9bf4980e3ae743c6b8d505d52dfcc9d22385331992f5c2a", func := "exchangepoint/exchangepointlaw11.ResolveNobody", spec := "resolveNobody", inPlace := ["internal/bytealg.MakeNoZero"], named := ["exchangepoint/arp.head"], plainKeys := false, apart := false, laid := [("exchangepoint/arp.head", laid_exchangepoint_arp_head)], narrowed := true }
def ResolveNobodyUptoSaid : Prop := resolveNobodyUptoRow.holds Tryd.pinned (OpenSpec.upto resolveNobodySpec)

/-- 'exchangepointlaw11.ResolveBelongs', WHERE WHAT IT READS IS OF BULK AT MOST 1048576: true; the input reads as it did. -/
def resolveBelongsUptoRow : OpenClaim := { program := "ytcidmiacfjdepaadoor", sum := "525063bc0a2a628cc9bf4980e3ae743c6b8d505d52dfcc9d22385331992f5c2a", func := "exchangepoint/exchangepointlaw11.ResolveBelongs", spec := "resolveBelongs", inPlace := ["internal/bytealg.MakeNoZero"], named := ["exchangepoint/arp.head"], plainKeys := false, apart := false, laid := [("exchangepoint/arp.head", laid_exchangepoint_arp_head)], narrowed := true }
def ResolveBelongsUptoSaid : Prop := resolveBelongsUptoRow.holds Tryd.pinned (OpenSpec.upto resolveBelongsSpec)

end Rows
end Go.Proofs.YtcidmiacfjdepaaDoor
