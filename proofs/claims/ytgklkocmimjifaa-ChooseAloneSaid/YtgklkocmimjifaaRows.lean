/-
  No cell of these rows narrows 'for every input' (looked for: loops, veiled, ifaces, maps, wideKeys, modest, calm, conditions, laid).
  DERIVED. THE GIVEN ROWS OF THIS SEAT. 4 by the template 'for every input the law returns true; each argument reads behind the call as it read before'; 0 by the template 'total and deterministic' (their statements: YtgklkocmimjifaaTotals.lean).
  GIVEN WITH THE SEED: the statements are not yours to turn. If you find one false, say at which input.
  Laid BY PROGRAM, IN A SANDBOX (cutbox-rows.mjs): the forced cells as the released guide's own fill.sh prints them over the translation caab7aa5173a2b93… (all of the seat's roots in one cut). By AI agents, Wed Nov 11 2026. No macro, syntax, notation, axiom, sorry.
-/
import Derived.Test.YtgklkocmimjifaaChecked
import GoSem.Claim
import GoSem.ClaimJoined
import GoSem.ClaimMapViews
import Derived.JoinedTies
import Derived.KernelRfl
namespace Go.Proofs.Ytgklkocmimjifaa
/- THE CELL 'sum', in the pinned program and in every row, IS THE sha256 OF THE DUMP (.gsa) THAT YtgklkocmimjifaaProg.lean LOADS. Nothing in Lean hashes anything: it is a label: what it is worth is what the hold of that sum in a sandbox is worth. -/
noncomputable def Try.pinned : Pinned := { name := "ytgklkocmimjifaa", sum := "caab7aa5173a2b93a0d3482b2357160fae8876ffbf40fbec85785729f455aaca", checked := Try.checked }
namespace Rows
def none {H : Type} : Left H := { results := [], args := [] }

/-- 'exchangepointlaw27.ChooseCompares': WHATEVER THE INPUT: true; the input reads as it did. -/
def chooseComparesSpec : ChangeSpec := { name := "chooseCompares", fn := fun _ => fun
  | [d] => { results := [.lit (.bool true)], args := [d] }
  | _ => none }
def chooseComparesRow : OpenClaim := { program := "ytgklkocmimjifaa", sum := "caab7aa5173a2b93a0d3482b2357160fae8876ffbf40fbec85785729f455aaca", func := "exchangepoint/exchangepointlaw27.ChooseCompares", spec := "chooseCompares", apart := false }
def ChooseComparesSaid : Prop := chooseComparesRow.holds Try.pinned (OpenSpec.ofChange chooseComparesSpec)

/-- ITS FALSE NEIGHBOUR: 'it returns false'. Refute it at one input. -/
def chooseComparesWrong : ChangeSpec := { name := "chooseCompares", fn := fun _ => fun
  | [d] => { results := [.lit (.bool false)], args := [d] }
  | _ => none }
def ChooseComparesWrongFalsely : Prop := chooseComparesRow.holds Try.pinned (OpenSpec.ofChange chooseComparesWrong)

/-- 'exchangepointlaw27.ChooseTotal': WHATEVER THE INPUT: true; the input reads as it did. -/
def chooseTotalSpec : ChangeSpec := { name := "chooseTotal", fn := fun _ => fun
  | [d] => { results := [.lit (.bool true)], args := [d] }
  | _ => none }
def chooseTotalRow : OpenClaim := { program := "ytgklkocmimjifaa", sum := "caab7aa5173a2b93a0d3482b2357160fae8876ffbf40fbec85785729f455aaca", func := "exchangepoint/exchangepointlaw27.ChooseTotal", spec := "chooseTotal", apart := false }
def ChooseTotalSaid : Prop := chooseTotalRow.holds Try.pinned (OpenSpec.ofChange chooseTotalSpec)

/-- ITS FALSE NEIGHBOUR: 'it returns false'. Refute it at one input. -/
def chooseTotalWrong : ChangeSpec := { name := "chooseTotal", fn := fun _ => fun
  | [d] => { results := [.lit (.bool false)], args := [d] }
  | _ => none }
def ChooseTotalWrongFalsely : Prop := chooseTotalRow.holds Try.pinned (OpenSpec.ofChange chooseTotalWrong)

/-- 'exchangepointlaw27.ChooseAlone': WHATEVER THE INPUT: true; the input reads as it did. -/
def chooseAloneSpec : ChangeSpec := { name := "chooseAlone", fn := fun _ => fun
  | [d1, d2, d3] => { results := [.lit (.bool true)], args := [d1, d2, d3] }
  | _ => none }
def chooseAloneRow : OpenClaim := { program := "ytgklkocmimjifaa", sum := "caab7aa5173a2b93a0d3482b2357160fae8876ffbf40fbec85785729f455aaca", func := "exchangepoint/exchangepointlaw27.ChooseAlone", spec := "chooseAlone", apart := false }
def ChooseAloneSaid : Prop := chooseAloneRow.holds Try.pinned (OpenSpec.ofChange chooseAloneSpec)

/-- ITS FALSE NEIGHBOUR: 'it returns false'. Refute it at one input. -/
def chooseAloneWrong : ChangeSpec := { name := "chooseAlone", fn := fun _ => fun
  | [d1, d2, d3] => { results := [.lit (.bool false)], args := [d1, d2, d3] }
  | _ => none }
def ChooseAloneWrongFalsely : Prop := chooseAloneRow.holds Try.pinned (OpenSpec.ofChange chooseAloneWrong)

/-- 'exchangepointlaw27.ChooseRanks': WHATEVER THE INPUT: true; the input reads as it did. -/
def chooseRanksSpec : ChangeSpec := { name := "chooseRanks", fn := fun _ => fun
  | [d] => { results := [.lit (.bool true)], args := [d] }
  | _ => none }
def chooseRanksRow : OpenClaim := { program := "ytgklkocmimjifaa", sum := "caab7aa5173a2b93a0d3482b2357160fae8876ffbf40fbec85785729f455aaca", func := "exchangepoint/exchangepointlaw27.ChooseRanks", spec := "chooseRanks", unfollowed := true, recurses := true, apart := false }
def ChooseRanksSaid : Prop := chooseRanksRow.holds Try.pinned (OpenSpec.ofChange chooseRanksSpec)

/-- ITS FALSE NEIGHBOUR: 'it returns false'. Refute it at one input. -/
def chooseRanksWrong : ChangeSpec := { name := "chooseRanks", fn := fun _ => fun
  | [d] => { results := [.lit (.bool false)], args := [d] }
  | _ => none }
def ChooseRanksWrongFalsely : Prop := chooseRanksRow.holds Try.pinned (OpenSpec.ofChange chooseRanksWrong)

/- THE SECOND FORM. 'bulk': how many values and letters a reading holds, each counted each time it is reached (what is shared counts as often as it is met; a slice's spare places count too). A statement '..UptoSaid' is the law's where the arguments, and the package variables that the reading takes, are together of bulk at most 1048576: NARROWER than '..Said'. Prove '..Said' where nothing that the law and all that it calls make is longer than what came in: it says more and counts as full. Else prove '..UptoSaid'. A law counts once. -/
mutual
def uptoBulk {H : Type} : DataW H → Nat
  | .lit (.string bytes) => bytes.length + 1
  | .lit _ => 1
  | .nil => 1
  | .ptr d => uptoBulk d + 1
  | .slice elems spare => uptoBulkAll elems + uptoBulkAll spare + 1
  | .agg parts => uptoBulkAll parts + 1
  | .iface _ d => uptoBulk d + 1
  | .map entries => uptoBulkEntries entries + 1
  | .held _ => 1
def uptoBulkAll {H : Type} : List (DataW H) → Nat
  | [] => 0
  | d :: r => uptoBulk d + uptoBulkAll r
def uptoBulkEntries {H : Type} : List (Lit × DataW H) → Nat
  | [] => 0
  | x :: r => uptoBulkEntry x + uptoBulkEntries r
def uptoBulkEntry {H : Type} : Lit × DataW H → Nat
  | (.string bytes, d) => bytes.length + uptoBulk d + 1
  | (_, d) => uptoBulk d + 1
 end
def uptoSmall : (H : Type) → List (DataW H) → Bool := fun _ ds => decide (uptoBulkAll ds ≤ 1048576)
def OpenSpec.upto (s : _root_.Go.ChangeSpec) : _root_.Go.OpenSpec := { _root_.Go.OpenSpec.ofChange s with cond := some uptoSmall }

/-- 'exchangepointlaw27.ChooseCompares', WHERE WHAT IT READS IS OF BULK AT MOST 1048576: true; the input reads as it did. -/
def chooseComparesUptoRow : OpenClaim := { program := "ytgklkocmimjifaa", sum := "caab7aa5173a2b93a0d3482b2357160fae8876ffbf40fbec85785729f455aaca", func := "exchangepoint/exchangepointlaw27.ChooseCompares", spec := "chooseCompares", apart := false, narrowed := true }
def ChooseComparesUptoSaid : Prop := chooseComparesUptoRow.holds Try.pinned (OpenSpec.upto chooseComparesSpec)

/-- 'exchangepointlaw27.ChooseTotal', WHERE WHAT IT READS IS OF BULK AT MOST 1048576: true; the input reads as it did. -/
def chooseTotalUptoRow : OpenClaim := { program := "ytgklkocmimjifaa", sum := "caab7aa5173a2b93a0d3482b2357160fae8876ffbf40fbec85785729f455aaca", func := "exchangepoint/exchangepointlaw27.ChooseTotal", spec := "chooseTotal", apart := false, narrowed := true }
def ChooseTotalUptoSaid : Prop := chooseTotalUptoRow.holds Try.pinned (OpenSpec.upto chooseTotalSpec)

/-- 'exchangepointlaw27.ChooseAlone', WHERE WHAT IT READS IS OF BULK AT MOST 1048576: true; the input reads as it did. -/
def chooseAloneUptoRow : OpenClaim := { program := "ytgklkocmimjifaa", sum := "caab7aa5173a2b93a0d3482b2357160fae8876ffbf40fbec85785729f455aaca", func := "exchangepoint/exchangepointlaw27.ChooseAlone", spec := "chooseAlone", apart := false, narrowed := true }
def ChooseAloneUptoSaid : Prop := chooseAloneUptoRow.holds Try.pinned (OpenSpec.upto chooseAloneSpec)

/-- 'exchangepointlaw27.ChooseRanks', WHERE WHAT IT READS IS OF BULK AT MOST 1048576: true; the input reads as it did. -/
def chooseRanksUptoRow : OpenClaim := { program := "ytgklkocmimjifaa", sum := "caab7aa5173a2b93a0d3482b2357160fae8876ffbf40fbec85785729f455aaca", func := "exchangepoint/exchangepointlaw27.ChooseRanks", spec := "chooseRanks", unfollowed := true, recurses := true, apart := false, narrowed := true }
def ChooseRanksUptoSaid : Prop := chooseRanksUptoRow.holds Try.pinned (OpenSpec.upto chooseRanksSpec)

end Rows
end Go.Proofs.Ytgklkocmimjifaa
