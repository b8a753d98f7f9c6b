/-
  NARROWER THAN 'FOR EVERY INPUT', by the rows' own cells (each row's printed sentence says how): ArpAnswers: laid · ArpCodes: laid · ArpBack: laid.
  DERIVED. THE GIVEN ROWS OF THIS SEAT. 3 by the template 'for every input the law returns true; each argument reads behind the call as it read before'; 0 by the template 'total and deterministic' (their statements: YtopkbpigaengeaaDoorTotals.lean).
  GIVEN WITH THE SEED: the statements are not yours to turn. If you find one false, say at which input.
  Laid BY PROGRAM, IN A SANDBOX (cutbox-rows.mjs): the forced cells as the released guide's own fill.sh prints them over the translation 36676cf83cd34200… (all of the seat's roots in one cut). By AI agents, Wed Nov 11 2026. No macro, syntax, notation, axiom, sorry.
-/
import Derived.Test.YtopkbpigaengeaaDoorChecked
import GoSem.Claim
import GoSem.ClaimJoined
import GoSem.ClaimMapViews
import Derived.JoinedTies
import Derived.KernelRfl
namespace Go.Proofs.YtopkbpigaengeaaDoor
/- THE CELL 'sum', in the pinned program and in every row, IS THE sha256 OF THE DUMP (.gsa) THAT YtopkbpigaengeaaDoorProg.lean LOADS. Nothing in Lean hashes anything: it is a label: what it is worth is what the hold of that sum in a sandbox is worth. -/
noncomputable def Tryd.pinned : Pinned := { name := "ytopkbpigaengeaadoor", sum := "36676cf83cd342003c70d16167a3c4f9066584bd91bce72cc727e8fa981e647a", checked := Tryd.checked }
namespace Rows
def none {H : Type} : Left H := { results := [], args := [] }

/- WHAT THE LISTED PACKAGE-LEVEL VARIABLES READ AS WHEN THE CALL BEGINS. Each datum BY PROGRAM (the guide's laid-datum.mjs) off the statement by which the dump's own 'gosem.cut.vars' lays the variable. In a bare row this is a premise. The card (YtopkbpigaengeaaDoorCards.lean) ties it to the program's text. -/
def laid_exchangepoint_arp_head {H : Type} : DataW H := .agg [.lit (.int .u8 0), .lit (.int .u8 1), .lit (.int .u8 8), .lit (.int .u8 0), .lit (.int .u8 6), .lit (.int .u8 4)]

/-- 'exchangepointlaw05.ArpAnswers': WHATEVER THE INPUT: true; the input reads as it did. -/
def arpAnswersSpec : ChangeSpec := { name := "arpAnswers", fn := fun _ => fun
  | [d1, d2, d3, d4, d5] => { results := [.lit (.bool true)], args := [d1, d2, d3, d4, d5] }
  | _ => none }
def arpAnswersRow : OpenClaim := { program := "ytopkbpigaengeaadoor", sum := "36676cf83cd342003c70d16167a3c4f9066584bd91bce72cc727e8fa981e647a", func := "exchangepoint/exchangepointlaw05.ArpAnswers", spec := "arpAnswers", inPlace := ["internal/bytealg.MakeNoZero"], named := ["exchangepoint/arp.head"], apart := false, laid := [("exchangepoint/arp.head", laid_exchangepoint_arp_head)] }
def ArpAnswersSaid : Prop := arpAnswersRow.holds Tryd.pinned (OpenSpec.ofChange arpAnswersSpec)

/-- ITS FALSE NEIGHBOUR: 'it returns false'. Refute it at one input. -/
def arpAnswersWrong : ChangeSpec := { name := "arpAnswers", fn := fun _ => fun
  | [d1, d2, d3, d4, d5] => { results := [.lit (.bool false)], args := [d1, d2, d3, d4, d5] }
  | _ => none }
def ArpAnswersWrongFalsely : Prop := arpAnswersRow.holds Tryd.pinned (OpenSpec.ofChange arpAnswersWrong)

/-- 'exchangepointlaw05.ArpCodes': WHATEVER THE INPUT: true; the input reads as it did. -/
def arpCodesSpec : ChangeSpec := { name := "arpCodes", fn := fun _ => fun
  | [d1, d2, d3, d4, d5] => { results := [.lit (.bool true)], args := [d1, d2, d3, d4, d5] }
  | _ => none }
def arpCodesRow : OpenClaim := { program := "ytopkbpigaengeaadoor", sum := "36676cf83cd342003c70d16167a3c4f9066584bd91bce72cc727e8fa981e647a", func := "exchangepoint/exchangepointlaw05.ArpCodes", spec := "arpCodes", inPlace := ["internal/bytealg.MakeNoZero"], named := ["exchangepoint/arp.head"], apart := false, laid := [("exchangepoint/arp.head", laid_exchangepoint_arp_head)] }
def ArpCodesSaid : Prop := arpCodesRow.holds Tryd.pinned (OpenSpec.ofChange arpCodesSpec)

/-- ITS FALSE NEIGHBOUR: 'it returns false'. Refute it at one input. -/
def arpCodesWrong : ChangeSpec := { name := "arpCodes", fn := fun _ => fun
  | [d1, d2, d3, d4, d5] => { results := [.lit (.bool false)], args := [d1, d2, d3, d4, d5] }
  | _ => none }
def ArpCodesWrongFalsely : Prop := arpCodesRow.holds Tryd.pinned (OpenSpec.ofChange arpCodesWrong)

/-- 'exchangepointlaw05.ArpBack': WHATEVER THE INPUT: true; the input reads as it did. -/
def arpBackSpec : ChangeSpec := { name := "arpBack", fn := fun _ => fun
  | [d1, d2] => { results := [.lit (.bool true)], args := [d1, d2] }
  | _ => none }
def arpBackRow : OpenClaim := { program := "ytopkbpigaengeaadoor", sum := "36676cf83cd342003c70d16167a3c4f9066584bd91bce72cc727e8fa981e647a", func := "exchangepoint/exchangepointlaw05.ArpBack", spec := "arpBack", inPlace := ["internal/bytealg.MakeNoZero"], named := ["exchangepoint/arp.head"], apart := false, laid := [("exchangepoint/arp.head", laid_exchangepoint_arp_head)] }
def ArpBackSaid : Prop := arpBackRow.holds Tryd.pinned (OpenSpec.ofChange arpBackSpec)

/-- ITS FALSE NEIGHBOUR: 'it returns false'. Refute it at one input. -/
def arpBackWrong : ChangeSpec := { name := "arpBack", fn := fun _ => fun
  | [d1, d2] => { results := [.lit (.bool false)], args := [d1, d2] }
  | _ => none }
def ArpBackWrongFalsely : Prop := arpBackRow.holds Tryd.pinned (OpenSpec.ofChange arpBackWrong)

/- THE SECOND FORM. 'bulk': how many values and letters a reading holds, each counted each time it is reached (what is shared counts as often as it is met; a slice's spare places count too). A statement '..UptoSaid' is the law's where the arguments, and the package variables that the reading takes, are together of bulk at most 1048576: NARROWER than '..Said'. Prove '..Said' where nothing that the law and all that it calls make is longer than what came in: it says more and counts as full. Else prove '..UptoSaid'. A law counts once. -/
mutual
def uptoBulk {H : Type} : DataW H → Nat
  | .lit (.string bytes) => bytes.length + 1
  | .lit _ => 1
  | .nil => 1
  | .ptr d => uptoBulk d + 1
  | .slice elems spare => uptoBulkAll elems + uptoBulkAll spare + 1
  | .agg parts => uptoBulkAll parts + 1
  | .iface _ d => uptoBulk d + 1
  | .map entries => uptoBulkEntries entries + 1
  | .held _ => 1
def uptoBulkAll {H : Type} : List (DataW H) → Nat
  | [] => 0
  | d :: r => uptoBulk d + uptoBulkAll r
def uptoBulkEntries {H : Type} : List (Lit × DataW H) → Nat
  | [] => 0
  | x :: r => uptoBulkEntry x + uptoBulkEntries r
def uptoBulkEntry {H : Type} : Lit × DataW H → Nat
  | (.string bytes, d) => bytes.length + uptoBulk d + 1
  | (_, d) => uptoBulk d + 1
 end
def uptoSmall : (H : Type) → List (DataW H) → Bool := fun _ ds => decide (uptoBulkAll ds ≤ 1048576)
def OpenSpec.upto (s : _root_.Go.ChangeSpec) : _root_.Go.OpenSpec := { _root_.Go.OpenSpec.ofChange s with cond := some uptoSmall }

/-- 'exchangepointlaw05.ArpAnswers', WHERE WHAT IT READS IS OF BULK AT MOST 1048576: true; the input reads as it did. -/
def arpAnswersUptoRow : OpenClaim := { program := "ytopkbpigaengeaadoor", sum := "36676cf83cd342003c70d16167a3c4f9066584bd91bce72cc727e8fa981e647a", func := "exchangepoint/exchangepointlaw05.ArpAnswers", spec := "arpAnswers", inPlace := ["internal/bytealg.MakeNoZero"], named := ["exchangepoint/arp.head"], apart := false, laid := [("exchangepoint/arp.head", laid_exchangepoint_arp_head)], narrowed := true }
def ArpAnswersUptoSaid : Prop := arpAnswersUptoRow.holds Tryd.pinned (OpenSpec.upto arpAnswersSpec)

/-- 'exchangepointlaw05.ArpCodes', WHERE WHAT IT READS IS OF BULK AT MOST 1048576: true; the input reads as it did. -/
def arpCodesUptoRow : OpenClaim := { program := "ytopkbpigaengeaadoor", sum := "36676cf83cd342003c70d16167a3c4f9066584bd91bce72cc727e8fa981e647a", func := "exchangepoint/exchangepointlaw05.ArpCodes", spec := "arpCodes", inPlace := ["internal/bytealg.MakeNoZero"], named := ["exchangepoint/arp.head"], apart := false, laid := [("exchangepoint/arp.head", laid_exchangepoint_arp_head)], narrowed := true }
def ArpCodesUptoSaid : Prop := arpCodesUptoRow.holds Tryd.pinned (OpenSpec.upto arpCodesSpec)

/-- 'exchangepointlaw05.ArpBack', WHERE WHAT IT READS IS OF BULK AT MOST 1048576: true; the input reads as it did. -/
def arpBackUptoRow : OpenClaim := { program := "ytopkbpigaengeaadoor", sum := "36676cf83cd342003c70d16167a3c4f9066584bd91bce72cc727e8fa981e647a", func := "exchangepoint/exchangepointlaw05.ArpBack", spec := "arpBack", inPlace := ["internal/bytealg.MakeNoZero"], named := ["exchangepoint/arp.head"], apart := false, laid := [("exchangepoint/arp.head", laid_exchangepoint_arp_head)], narrowed := true }
def ArpBackUptoSaid : Prop := arpBackUptoRow.holds Tryd.pinned (OpenSpec.upto arpBackSpec)

end Rows
end Go.Proofs.YtopkbpigaengeaaDoor
