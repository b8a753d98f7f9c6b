/-
  NARROWER THAN 'FOR EVERY INPUT', by the rows' own cells (each row's printed sentence says how): ForwardSends: laid · ForwardBelongs: laid · ForwardQuiet: laid · ForwardStable: laid · GuardChecks: laid · GuardHonest: laid · GuardGroups: laid · GuardStrangers: laid · GuardProbes: laid · GuardRouters: laid.
  DERIVED. THE GIVEN ROWS OF THIS SEAT. 10 by the template 'for every input the law returns true; each argument reads behind the call as it read before'; 0 by the template 'total and deterministic' (their statements: YtlcndmciognneaaGreatDoorTotals.lean).
  GIVEN WITH THE SEED: the statements are not yours to turn. If you find one false, say at which input.
  Laid BY PROGRAM, IN A SANDBOX (cutbox-rows.mjs): the forced cells as the released guide's own fill.sh prints them over the translation 8b36e0993cdffab3… (all of the seat's roots in one cut). By AI agents, Wed Nov 11 2026. No macro, syntax, notation, axiom, sorry.
-/
import Derived.Test.YtlcndmciognneaaGreatDoorChecked
import GoSem.PinnedTables
import GoSem.Claim
import GoSem.ClaimJoined
import GoSem.ClaimMapViews
import Derived.JoinedTies
import Derived.KernelRfl
namespace Go.Proofs.YtlcndmciognneaaGreatDoor
/- THE CELL 'sum', in the pinned program and in every row, IS THE sha256 OF THE DUMP (.gsa) THAT YtlcndmciognneaaGreatDoorProg.lean LOADS. Nothing in Lean hashes anything: it is a label: what it is worth is what the hold of that sum in a sandbox is worth. -/
noncomputable def Tryz.pinned : Pinned := { name := "ytlcndmciognneaagreatdoor", sum := "8b36e0993cdffab31d2a529ab64d44389e5a1f26da48d6baff35b6473186e630", checked := Tryz.checked }
namespace Rows
def none {H : Type} : Left H := { results := [], args := [] }

/- WHAT THE LISTED PACKAGE-LEVEL VARIABLES READ AS WHEN THE CALL BEGINS. Each datum BY PROGRAM (the guide's laid-datum.mjs) off the statement by which the dump's own 'gosem.cut.vars' lays the variable. In a bare row this is a premise. The card (YtlcndmciognneaaGreatDoorCards.lean) ties it to the program's text. -/
def laid_exchangepoint_arp_head {H : Type} : DataW H := .agg [.lit (.int .u8 0), .lit (.int .u8 1), .lit (.int .u8 8), .lit (.int .u8 0), .lit (.int .u8 6), .lit (.int .u8 4)]
def laid_unicode_utf8_acceptRanges {H : Type} : DataW H := .agg [.agg [.lit (.int .u8 128), .lit (.int .u8 191)], .agg [.lit (.int .u8 160), .lit (.int .u8 191)], .agg [.lit (.int .u8 128), .lit (.int .u8 159)], .agg [.lit (.int .u8 144), .lit (.int .u8 191)], .agg [.lit (.int .u8 128), .lit (.int .u8 143)], .agg [.lit (.int .u8 0), .lit (.int .u8 0)], .agg [.lit (.int .u8 0), .lit (.int .u8 0)], .agg [.lit (.int .u8 0), .lit (.int .u8 0)], .agg [.lit (.int .u8 0), .lit (.int .u8 0)], .agg [.lit (.int .u8 0), .lit (.int .u8 0)], .agg [.lit (.int .u8 0), .lit (.int .u8 0)], .agg [.lit (.int .u8 0), .lit (.int .u8 0)], .agg [.lit (.int .u8 0), .lit (.int .u8 0)], .agg [.lit (.int .u8 0), .lit (.int .u8 0)], .agg [.lit (.int .u8 0), .lit (.int .u8 0)], .agg [.lit (.int .u8 0), .lit (.int .u8 0)]]
/-- One of Go's own tables, pinned by name: the form's constant. -/
def laid_unicode_utf8_first : DataW Unit := Go.Pinned.utf8First

/-- 'exchangepointlaw14.ForwardSends': WHATEVER THE INPUT: true; the input reads as it did. -/
def forwardSendsSpec : ChangeSpec := { name := "forwardSends", fn := fun _ => fun
  | [d1, d2, d3, d4] => { results := [.lit (.bool true)], args := [d1, d2, d3, d4] }
  | _ => none }
def forwardSendsRow : OpenClaim := { program := "ytlcndmciognneaagreatdoor", sum := "8b36e0993cdffab31d2a529ab64d44389e5a1f26da48d6baff35b6473186e630", func := "exchangepoint/exchangepointlaw14.ForwardSends", spec := "forwardSends", inPlace := ["internal/bytealg.MakeNoZero"], named := ["exchangepoint/arp.head"], plainKeys := false, apart := false, laid := [("exchangepoint/arp.head", laid_exchangepoint_arp_head)] }
def ForwardSendsSaid : Prop := forwardSendsRow.holds Tryz.pinned (OpenSpec.ofChange forwardSendsSpec)

/-- ITS FALSE NEIGHBOUR: 'it returns false'. Refute it at one input. -/
def forwardSendsWrong : ChangeSpec := { name := "forwardSends", fn := fun _ => fun
  | [d1, d2, d3, d4] => { results := [.lit (.bool false)], args := [d1, d2, d3, d4] }
  | _ => none }
def ForwardSendsWrongFalsely : Prop := forwardSendsRow.holds Tryz.pinned (OpenSpec.ofChange forwardSendsWrong)

/-- 'exchangepointlaw14.ForwardBelongs': WHATEVER THE INPUT: true; the input reads as it did. -/
def forwardBelongsSpec : ChangeSpec := { name := "forwardBelongs", fn := fun _ => fun
  | [d1, d2] => { results := [.lit (.bool true)], args := [d1, d2] }
  | _ => none }
def forwardBelongsRow : OpenClaim := { program := "ytlcndmciognneaagreatdoor", sum := "8b36e0993cdffab31d2a529ab64d44389e5a1f26da48d6baff35b6473186e630", func := "exchangepoint/exchangepointlaw14.ForwardBelongs", spec := "forwardBelongs", inPlace := ["internal/bytealg.MakeNoZero"], named := ["exchangepoint/arp.head"], plainKeys := false, apart := false, laid := [("exchangepoint/arp.head", laid_exchangepoint_arp_head)] }
def ForwardBelongsSaid : Prop := forwardBelongsRow.holds Tryz.pinned (OpenSpec.ofChange forwardBelongsSpec)

/-- ITS FALSE NEIGHBOUR: 'it returns false'. Refute it at one input. -/
def forwardBelongsWrong : ChangeSpec := { name := "forwardBelongs", fn := fun _ => fun
  | [d1, d2] => { results := [.lit (.bool false)], args := [d1, d2] }
  | _ => none }
def ForwardBelongsWrongFalsely : Prop := forwardBelongsRow.holds Tryz.pinned (OpenSpec.ofChange forwardBelongsWrong)

/-- 'exchangepointlaw14.ForwardQuiet': WHATEVER THE INPUT: true; the input reads as it did. -/
def forwardQuietSpec : ChangeSpec := { name := "forwardQuiet", fn := fun _ => fun
  | [d1, d2, d3] => { results := [.lit (.bool true)], args := [d1, d2, d3] }
  | _ => none }
def forwardQuietRow : OpenClaim := { program := "ytlcndmciognneaagreatdoor", sum := "8b36e0993cdffab31d2a529ab64d44389e5a1f26da48d6baff35b6473186e630", func := "exchangepoint/exchangepointlaw14.ForwardQuiet", spec := "forwardQuiet", inPlace := ["internal/bytealg.MakeNoZero"], named := ["exchangepoint/arp.head"], plainKeys := false, apart := false, laid := [("exchangepoint/arp.head", laid_exchangepoint_arp_head)] }
def ForwardQuietSaid : Prop := forwardQuietRow.holds Tryz.pinned (OpenSpec.ofChange forwardQuietSpec)

/-- ITS FALSE NEIGHBOUR: 'it returns false'. Refute it at one input. -/
def forwardQuietWrong : ChangeSpec := { name := "forwardQuiet", fn := fun _ => fun
  | [d1, d2, d3] => { results := [.lit (.bool false)], args := [d1, d2, d3] }
  | _ => none }
def ForwardQuietWrongFalsely : Prop := forwardQuietRow.holds Tryz.pinned (OpenSpec.ofChange forwardQuietWrong)

/-- 'exchangepointlaw14.ForwardStable': WHATEVER THE INPUT: true; the input reads as it did. -/
def forwardStableSpec : ChangeSpec := { name := "forwardStable", fn := fun _ => fun
  | [d1, d2] => { results := [.lit (.bool true)], args := [d1, d2] }
  | _ => none }
def forwardStableRow : OpenClaim := { program := "ytlcndmciognneaagreatdoor", sum := "8b36e0993cdffab31d2a529ab64d44389e5a1f26da48d6baff35b6473186e630", func := "exchangepoint/exchangepointlaw14.ForwardStable", spec := "forwardStable", inPlace := ["internal/bytealg.MakeNoZero"], named := ["exchangepoint/arp.head"], plainKeys := false, apart := false, laid := [("exchangepoint/arp.head", laid_exchangepoint_arp_head)] }
def ForwardStableSaid : Prop := forwardStableRow.holds Tryz.pinned (OpenSpec.ofChange forwardStableSpec)

/-- ITS FALSE NEIGHBOUR: 'it returns false'. Refute it at one input. -/
def forwardStableWrong : ChangeSpec := { name := "forwardStable", fn := fun _ => fun
  | [d1, d2] => { results := [.lit (.bool false)], args := [d1, d2] }
  | _ => none }
def ForwardStableWrongFalsely : Prop := forwardStableRow.holds Tryz.pinned (OpenSpec.ofChange forwardStableWrong)

/-- 'exchangepointlaw10.GuardChecks': WHATEVER THE INPUT: true; the input reads as it did. -/
def guardChecksSpec : ChangeSpec := { name := "guardChecks", fn := fun _ => fun
  | [d1, d2, d3, d4, d5] => { results := [.lit (.bool true)], args := [d1, d2, d3, d4, d5] }
  | _ => none }
def guardChecksRow : OpenClaim := { program := "ytlcndmciognneaagreatdoor", sum := "8b36e0993cdffab31d2a529ab64d44389e5a1f26da48d6baff35b6473186e630", func := "exchangepoint/exchangepointlaw10.GuardChecks", spec := "guardChecks", inPlace := ["internal/bytealg.IndexByteString", "internal/bytealg.IndexString", "internal/bytealg.MakeNoZero"], unfollowed := true, recurses := true, named := ["unicode/utf8.first", "unicode/utf8.acceptRanges", "exchangepoint/arp.head", "internal/bytealg.MaxLen"], plainKeys := false, apart := false, laid := [("unicode/utf8.acceptRanges", laid_unicode_utf8_acceptRanges), ("exchangepoint/arp.head", laid_exchangepoint_arp_head), ("unicode/utf8.first", laid_unicode_utf8_first)] }
def GuardChecksSaid : Prop := guardChecksRow.holds Tryz.pinned (OpenSpec.ofChange guardChecksSpec)

/-- ITS FALSE NEIGHBOUR: 'it returns false'. Refute it at one input. -/
def guardChecksWrong : ChangeSpec := { name := "guardChecks", fn := fun _ => fun
  | [d1, d2, d3, d4, d5] => { results := [.lit (.bool false)], args := [d1, d2, d3, d4, d5] }
  | _ => none }
def GuardChecksWrongFalsely : Prop := guardChecksRow.holds Tryz.pinned (OpenSpec.ofChange guardChecksWrong)

/-- 'exchangepointlaw10.GuardHonest': WHATEVER THE INPUT: true; the input reads as it did. -/
def guardHonestSpec : ChangeSpec := { name := "guardHonest", fn := fun _ => fun
  | [d1, d2, d3] => { results := [.lit (.bool true)], args := [d1, d2, d3] }
  | _ => none }
def guardHonestRow : OpenClaim := { program := "ytlcndmciognneaagreatdoor", sum := "8b36e0993cdffab31d2a529ab64d44389e5a1f26da48d6baff35b6473186e630", func := "exchangepoint/exchangepointlaw10.GuardHonest", spec := "guardHonest", inPlace := ["internal/bytealg.IndexByteString", "internal/bytealg.IndexString", "internal/bytealg.MakeNoZero"], unfollowed := true, recurses := true, named := ["unicode/utf8.first", "unicode/utf8.acceptRanges", "exchangepoint/arp.head", "internal/bytealg.MaxLen"], plainKeys := false, apart := false, laid := [("unicode/utf8.acceptRanges", laid_unicode_utf8_acceptRanges), ("exchangepoint/arp.head", laid_exchangepoint_arp_head), ("unicode/utf8.first", laid_unicode_utf8_first)] }
def GuardHonestSaid : Prop := guardHonestRow.holds Tryz.pinned (OpenSpec.ofChange guardHonestSpec)

/-- ITS FALSE NEIGHBOUR: 'it returns false'. Refute it at one input. -/
def guardHonestWrong : ChangeSpec := { name := "guardHonest", fn := fun _ => fun
  | [d1, d2, d3] => { results := [.lit (.bool false)], args := [d1, d2, d3] }
  | _ => none }
def GuardHonestWrongFalsely : Prop := guardHonestRow.holds Tryz.pinned (OpenSpec.ofChange guardHonestWrong)

/-- 'exchangepointlaw10.GuardGroups': WHATEVER THE INPUT: true; the input reads as it did. -/
def guardGroupsSpec : ChangeSpec := { name := "guardGroups", fn := fun _ => fun
  | [d1, d2, d3] => { results := [.lit (.bool true)], args := [d1, d2, d3] }
  | _ => none }
def guardGroupsRow : OpenClaim := { program := "ytlcndmciognneaagreatdoor", sum := "8b36e0993cdffab31d2a529ab64d44389e5a1f26da48d6baff35b6473186e630", func := "exchangepoint/exchangepointlaw10.GuardGroups", spec := "guardGroups", inPlace := ["internal/bytealg.IndexByteString", "internal/bytealg.IndexString", "internal/bytealg.MakeNoZero"], unfollowed := true, recurses := true, named := ["unicode/utf8.first", "unicode/utf8.acceptRanges", "exchangepoint/arp.head", "internal/bytealg.MaxLen"], plainKeys := false, apart := false, laid := [("unicode/utf8.acceptRanges", laid_unicode_utf8_acceptRanges), ("exchangepoint/arp.head", laid_exchangepoint_arp_head), ("unicode/utf8.first", laid_unicode_utf8_first)] }
def GuardGroupsSaid : Prop := guardGroupsRow.holds Tryz.pinned (OpenSpec.ofChange guardGroupsSpec)

/-- ITS FALSE NEIGHBOUR: 'it returns false'. Refute it at one input. -/
def guardGroupsWrong : ChangeSpec := { name := "guardGroups", fn := fun _ => fun
  | [d1, d2, d3] => { results := [.lit (.bool false)], args := [d1, d2, d3] }
  | _ => none }
def GuardGroupsWrongFalsely : Prop := guardGroupsRow.holds Tryz.pinned (OpenSpec.ofChange guardGroupsWrong)

/-- 'exchangepointlaw10.GuardStrangers': WHATEVER THE INPUT: true; the input reads as it did. -/
def guardStrangersSpec : ChangeSpec := { name := "guardStrangers", fn := fun _ => fun
  | [d] => { results := [.lit (.bool true)], args := [d] }
  | _ => none }
def guardStrangersRow : OpenClaim := { program := "ytlcndmciognneaagreatdoor", sum := "8b36e0993cdffab31d2a529ab64d44389e5a1f26da48d6baff35b6473186e630", func := "exchangepoint/exchangepointlaw10.GuardStrangers", spec := "guardStrangers", inPlace := ["internal/bytealg.IndexByteString", "internal/bytealg.IndexString", "internal/bytealg.MakeNoZero"], unfollowed := true, recurses := true, named := ["unicode/utf8.first", "unicode/utf8.acceptRanges", "exchangepoint/arp.head", "internal/bytealg.MaxLen"], plainKeys := false, apart := false, laid := [("unicode/utf8.acceptRanges", laid_unicode_utf8_acceptRanges), ("exchangepoint/arp.head", laid_exchangepoint_arp_head), ("unicode/utf8.first", laid_unicode_utf8_first)] }
def GuardStrangersSaid : Prop := guardStrangersRow.holds Tryz.pinned (OpenSpec.ofChange guardStrangersSpec)

/-- ITS FALSE NEIGHBOUR: 'it returns false'. Refute it at one input. -/
def guardStrangersWrong : ChangeSpec := { name := "guardStrangers", fn := fun _ => fun
  | [d] => { results := [.lit (.bool false)], args := [d] }
  | _ => none }
def GuardStrangersWrongFalsely : Prop := guardStrangersRow.holds Tryz.pinned (OpenSpec.ofChange guardStrangersWrong)

/-- 'exchangepointlaw10.GuardProbes': WHATEVER THE INPUT: true; the input reads as it did. -/
def guardProbesSpec : ChangeSpec := { name := "guardProbes", fn := fun _ => fun
  | [d1, d2, d3] => { results := [.lit (.bool true)], args := [d1, d2, d3] }
  | _ => none }
def guardProbesRow : OpenClaim := { program := "ytlcndmciognneaagreatdoor", sum := "8b36e0993cdffab31d2a529ab64d44389e5a1f26da48d6baff35b6473186e630", func := "exchangepoint/exchangepointlaw10.GuardProbes", spec := "guardProbes", inPlace := ["internal/bytealg.IndexByteString", "internal/bytealg.IndexString", "internal/bytealg.MakeNoZero"], unfollowed := true, recurses := true, named := ["unicode/utf8.first", "unicode/utf8.acceptRanges", "exchangepoint/arp.head", "internal/bytealg.MaxLen"], plainKeys := false, apart := false, laid := [("unicode/utf8.acceptRanges", laid_unicode_utf8_acceptRanges), ("exchangepoint/arp.head", laid_exchangepoint_arp_head), ("unicode/utf8.first", laid_unicode_utf8_first)] }
def GuardProbesSaid : Prop := guardProbesRow.holds Tryz.pinned (OpenSpec.ofChange guardProbesSpec)

/-- ITS FALSE NEIGHBOUR: 'it returns false'. Refute it at one input. -/
def guardProbesWrong : ChangeSpec := { name := "guardProbes", fn := fun _ => fun
  | [d1, d2, d3] => { results := [.lit (.bool false)], args := [d1, d2, d3] }
  | _ => none }
def GuardProbesWrongFalsely : Prop := guardProbesRow.holds Tryz.pinned (OpenSpec.ofChange guardProbesWrong)

/-- 'exchangepointlaw10.GuardRouters': WHATEVER THE INPUT: true; the input reads as it did. -/
def guardRoutersSpec : ChangeSpec := { name := "guardRouters", fn := fun _ => fun
  | [d1, d2, d3] => { results := [.lit (.bool true)], args := [d1, d2, d3] }
  | _ => none }
def guardRoutersRow : OpenClaim := { program := "ytlcndmciognneaagreatdoor", sum := "8b36e0993cdffab31d2a529ab64d44389e5a1f26da48d6baff35b6473186e630", func := "exchangepoint/exchangepointlaw10.GuardRouters", spec := "guardRouters", inPlace := ["internal/bytealg.IndexByteString", "internal/bytealg.IndexString", "internal/bytealg.MakeNoZero"], unfollowed := true, recurses := true, named := ["unicode/utf8.first", "unicode/utf8.acceptRanges", "exchangepoint/arp.head", "internal/bytealg.MaxLen"], plainKeys := false, apart := false, laid := [("unicode/utf8.acceptRanges", laid_unicode_utf8_acceptRanges), ("exchangepoint/arp.head", laid_exchangepoint_arp_head), ("unicode/utf8.first", laid_unicode_utf8_first)] }
def GuardRoutersSaid : Prop := guardRoutersRow.holds Tryz.pinned (OpenSpec.ofChange guardRoutersSpec)

/-- ITS FALSE NEIGHBOUR: 'it returns false'. Refute it at one input. -/
def guardRoutersWrong : ChangeSpec := { name := "guardRouters", fn := fun _ => fun
  | [d1, d2, d3] => { results := [.lit (.bool false)], args := [d1, d2, d3] }
  | _ => none }
def GuardRoutersWrongFalsely : Prop := guardRoutersRow.holds Tryz.pinned (OpenSpec.ofChange guardRoutersWrong)

/- THE SECOND FORM. 'bulk': how many values and letters a reading holds, each counted each time it is reached (what is shared counts as often as it is met; a slice's spare places count too). A statement '..UptoSaid' is the law's where the arguments, and the package variables that the reading takes, are together of bulk at most 1048576: NARROWER than '..Said'. Prove '..Said' where nothing that the law and all that it calls make is longer than what came in: it says more and counts as full. Else prove '..UptoSaid'. A law counts once. -/
mutual
def uptoBulk {H : Type} : DataW H → Nat
  | .lit (.string bytes) => bytes.length + 1
  | .lit _ => 1
  | .nil => 1
  | .ptr d => uptoBulk d + 1
  | .slice elems spare => uptoBulkAll elems + uptoBulkAll spare + 1
  | .agg parts => uptoBulkAll parts + 1
  | .iface _ d => uptoBulk d + 1
  | .map entries => uptoBulkEntries entries + 1
  | .held _ => 1
def uptoBulkAll {H : Type} : List (DataW H) → Nat
  | [] => 0
  | d :: r => uptoBulk d + uptoBulkAll r
def uptoBulkEntries {H : Type} : List (Lit × DataW H) → Nat
  | [] => 0
  | x :: r => uptoBulkEntry x + uptoBulkEntries r
def uptoBulkEntry {H : Type} : Lit × DataW H → Nat
  | (.string bytes, d) => bytes.length + uptoBulk d + 1
  | (_, d) => uptoBulk d + 1
 end
def uptoSmall : (H : Type) → List (DataW H) → Bool := fun _ ds => decide (uptoBulkAll ds ≤ 1048576)
def OpenSpec.upto (s : _root_.Go.ChangeSpec) : _root_.Go.OpenSpec := { _root_.Go.OpenSpec.ofChange s with cond := some uptoSmall }

/-- 'exchangepointlaw14.ForwardSends', WHERE WHAT IT READS IS OF BULK AT MOST 1048576: true; the input reads as it did. -/
def forwardSendsUptoRow : OpenClaim := { program := "ytlcndmciognneaagreatdoor", sum := "8b36e0993cdffab31d2a529ab64d44389e5a1f26da48d6baff35b6473186e630", func := "exchangepoint/exchangepointlaw14.ForwardSends", spec := "forwardSends", inPlace := ["internal/bytealg.MakeNoZero"], named := ["exchangepoint/arp.head"], plainKeys := false, apart := false, laid := [("exchangepoint/arp.head", laid_exchangepoint_arp_head)], narrowed := true }
def ForwardSendsUptoSaid : Prop := forwardSendsUptoRow.holds Tryz.pinned (OpenSpec.upto forwardSendsSpec)

/-- 'exchangepointlaw14.ForwardBelongs', WHERE WHAT IT READS IS OF BULK AT MOST 1048576: true; the input reads as it did. -/
def forwardBelongsUptoRow : OpenClaim := { program := "ytlcndmciognneaagreatdoor", sum := "8b36e0993cdffab31d2a529ab64d44389e5a1f26da48d6baff35b6473186e630", func := "exchangepoint/exchangepointlaw14.ForwardBelongs", spec := "forwardBelongs", inPlace := ["internal/bytealg.MakeNoZero"], named := ["exchangepoint/arp.head"], plainKeys := false, apart := false, laid := [("exchangepoint/arp.head", laid_exchangepoint_arp_head)], narrowed := true }
def ForwardBelongsUptoSaid : Prop := forwardBelongsUptoRow.holds Tryz.pinned (OpenSpec.upto forwardBelongsSpec)

/-- 'exchangepointlaw14.ForwardQuiet', WHERE WHAT IT READS IS OF BULK AT MOST 1048576: true; the input reads as it did. -/
def forwardQuietUptoRow : OpenClaim := { program := "ytlcndmciognneaagreatdoor", sum := "8b36e0993cdffab31d2a529ab64d44389e5a1f26da48d6baff35b6473186e630", func := "exchangepoint/exchangepointlaw14.ForwardQuiet", spec := "forwardQuiet", inPlace := ["internal/bytealg.MakeNoZero"], named := ["exchangepoint/arp.head"], plainKeys := false, apart := false, laid := [("exchangepoint/arp.head", laid_exchangepoint_arp_head)], narrowed := true }
def ForwardQuietUptoSaid : Prop := forwardQuietUptoRow.holds Tryz.pinned (OpenSpec.upto forwardQuietSpec)

/-- 'exchangepointlaw14.ForwardStable', WHERE WHAT IT READS IS OF BULK AT MOST 1048576: true; the input reads as it did. -/
def forwardStableUptoRow : OpenClaim := { program := "ytlcndmciognneaagreatdoor", sum := "8b36e0993cdffab31d2a529ab64d44389e5a1f26da48d6baff35b6473186e630", func := "exchangepoint/exchangepointlaw14.ForwardStable", spec := "forwardStable", inPlace := ["internal/bytealg.MakeNoZero"], named := ["exchangepoint/arp.head"], plainKeys := false, apart := false, laid := [("exchangepoint/arp.head", laid_exchangepoint_arp_head)], narrowed := true }
def ForwardStableUptoSaid : Prop := forwardStableUptoRow.holds Tryz.pinned (OpenSpec.upto forwardStableSpec)

/-- 'exchangepointlaw10.GuardChecks', WHERE WHAT IT READS IS OF BULK AT MOST 1048576: true; the input reads as it did. -/
def guardChecksUptoRow : OpenClaim := { program := "ytlcndmciognneaagreatdoor", sum := "8b36e0993cdffab31d2a529ab64d44389e5a1f26da48d6baff35b6473186e630", func := "exchangepoint/exchangepointlaw10.GuardChecks", spec := "guardChecks", inPlace := ["internal/bytealg.IndexByteString", "internal/bytealg.IndexString", "internal/bytealg.MakeNoZero"], unfollowed := true, recurses := true, named := ["unicode/utf8.first", "unicode/utf8.acceptRanges", "exchangepoint/arp.head", "internal/bytealg.MaxLen"], plainKeys := false, apart := false, laid := [("unicode/utf8.acceptRanges", laid_unicode_utf8_acceptRanges), ("exchangepoint/arp.head", laid_exchangepoint_arp_head), ("unicode/utf8.first", laid_unicode_utf8_first)], narrowed := true }
def GuardChecksUptoSaid : Prop := guardChecksUptoRow.holds Tryz.pinned (OpenSpec.upto guardChecksSpec)

/-- 'exchangepointlaw10.GuardHonest', WHERE WHAT IT READS IS OF BULK AT MOST 1048576: true; the input reads as it did. -/
def guardHonestUptoRow : OpenClaim := { program := "ytlcndmciognneaagreatdoor", sum := "8b36e0993cdffab31d2a529ab64d44389e5a1f26da48d6baff35b6473186e630", func := "exchangepoint/exchangepointlaw10.GuardHonest", spec := "guardHonest", inPlace := ["internal/bytealg.IndexByteString", "internal/bytealg.IndexString", "internal/bytealg.MakeNoZero"], unfollowed := true, recurses := true, named := ["unicode/utf8.first", "unicode/utf8.acceptRanges", "exchangepoint/arp.head", "internal/bytealg.MaxLen"], plainKeys := false, apart := false, laid := [("unicode/utf8.acceptRanges", laid_unicode_utf8_acceptRanges), ("exchangepoint/arp.head", laid_exchangepoint_arp_head), ("unicode/utf8.first", laid_unicode_utf8_first)], narrowed := true }
def GuardHonestUptoSaid : Prop := guardHonestUptoRow.holds Tryz.pinned (OpenSpec.upto guardHonestSpec)

/-- 'exchangepointlaw10.GuardGroups', WHERE WHAT IT READS IS OF BULK AT MOST 1048576: true; the input reads as it did. -/
def guardGroupsUptoRow : OpenClaim := { program := "ytlcndmciognneaagreatdoor", sum := "8b36e0993cdffab31d2a529ab64d44389e5a1f26da48d6baff35b6473186e630", func := "exchangepoint/exchangepointlaw10.GuardGroups", spec := "guardGroups", inPlace := ["internal/bytealg.IndexByteString", "internal/bytealg.IndexString", "internal/bytealg.MakeNoZero"], unfollowed := true, recurses := true, named := ["unicode/utf8.first", "unicode/utf8.acceptRanges", "exchangepoint/arp.head", "internal/bytealg.MaxLen"], plainKeys := false, apart := false, laid := [("unicode/utf8.acceptRanges", laid_unicode_utf8_acceptRanges), ("exchangepoint/arp.head", laid_exchangepoint_arp_head), ("unicode/utf8.first", laid_unicode_utf8_first)], narrowed := true }
def GuardGroupsUptoSaid : Prop := guardGroupsUptoRow.holds Tryz.pinned (OpenSpec.upto guardGroupsSpec)

/-- 'exchangepointlaw10.GuardStrangers', WHERE WHAT IT READS IS OF BULK AT MOST 1048576: true; the input reads as it did. -/
def guardStrangersUptoRow : OpenClaim := { program := "ytlcndmciognneaagreatdoor", sum := "8b36e0993cdffab31d2a529ab64d44389e5a1f26da48d6baff35b6473186e630", func := "exchangepoint/exchangepointlaw10.GuardStrangers", spec := "guardStrangers", inPlace := ["internal/bytealg.IndexByteString", "internal/bytealg.IndexString", "internal/bytealg.MakeNoZero"], unfollowed := true, recurses := true, named := ["unicode/utf8.first", "unicode/utf8.acceptRanges", "exchangepoint/arp.head", "internal/bytealg.MaxLen"], plainKeys := false, apart := false, laid := [("unicode/utf8.acceptRanges", laid_unicode_utf8_acceptRanges), ("exchangepoint/arp.head", laid_exchangepoint_arp_head), ("unicode/utf8.first", laid_unicode_utf8_first)], narrowed := true }
def GuardStrangersUptoSaid : Prop := guardStrangersUptoRow.holds Tryz.pinned (OpenSpec.upto guardStrangersSpec)

/-- 'exchangepointlaw10.GuardProbes', WHERE WHAT IT READS IS OF BULK AT MOST 1048576: true; the input reads as it did. -/
def guardProbesUptoRow : OpenClaim := { program := "ytlcndmciognneaagreatdoor", sum := "8b36e0993cdffab31d2a529ab64d44389e5a1f26da48d6baff35b6473186e630", func := "exchangepoint/exchangepointlaw10.GuardProbes", spec := "guardProbes", inPlace := ["internal/bytealg.IndexByteString", "internal/bytealg.IndexString", "internal/bytealg.MakeNoZero"], unfollowed := true, recurses := true, named := ["unicode/utf8.first", "unicode/utf8.acceptRanges", "exchangepoint/arp.head", "internal/bytealg.MaxLen"], plainKeys := false, apart := false, laid := [("unicode/utf8.acceptRanges", laid_unicode_utf8_acceptRanges), ("exchangepoint/arp.head", laid_exchangepoint_arp_head), ("unicode/utf8.first", laid_unicode_utf8_first)], narrowed := true }
def GuardProbesUptoSaid : Prop := guardProbesUptoRow.holds Tryz.pinned (OpenSpec.upto guardProbesSpec)

/-- 'exchangepointlaw10.GuardRouters', WHERE WHAT IT READS IS OF BULK AT MOST 1048576: true; the input reads as it did. -/
def guardRoutersUptoRow : OpenClaim := { program := "ytlcndmciognneaagreatdoor", sum := "8b36e0993cdffab31d2a529ab64d44389e5a1f26da48d6baff35b6473186e630", func := "exchangepoint/exchangepointlaw10.GuardRouters", spec := "guardRouters", inPlace := ["internal/bytealg.IndexByteString", "internal/bytealg.IndexString", "internal/bytealg.MakeNoZero"], unfollowed := true, recurses := true, named := ["unicode/utf8.first", "unicode/utf8.acceptRanges", "exchangepoint/arp.head", "internal/bytealg.MaxLen"], plainKeys := false, apart := false, laid := [("unicode/utf8.acceptRanges", laid_unicode_utf8_acceptRanges), ("exchangepoint/arp.head", laid_exchangepoint_arp_head), ("unicode/utf8.first", laid_unicode_utf8_first)], narrowed := true }
def GuardRoutersUptoSaid : Prop := guardRoutersUptoRow.holds Tryz.pinned (OpenSpec.upto guardRoutersSpec)

end Rows
end Go.Proofs.YtlcndmciognneaaGreatDoor
