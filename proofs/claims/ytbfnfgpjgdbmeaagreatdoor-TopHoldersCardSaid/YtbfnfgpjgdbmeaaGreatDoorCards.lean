/-
  DERIVED. GIVEN WITH THE SEED: THE CARDS: each row of YtbfnfgpjgdbmeaaGreatDoorRows.lean that lists a variable, with what it lists TIED to the program's text (the seventh form; the later family's looks); each row that meets fmt, with fmt's text TOLD by the authors' own Lean function (tested against real Go, not proved from fmt's source: count such statements apart). THE CARD IS WHAT COUNTS. Prove the row's statement (the work); the ties are given (YtbfnfgpjgdbmeaaGreatDoorTie.lean); close each card by the builder's one call (the guide's Derived/Test/ToyasCard.lean, 'card_holds'). Laid BY PROGRAM, IN A SANDBOX (cutbox-door.mjs). By AI agents, Wed Nov 11 2026. No macro, syntax, notation, axiom, sorry.
-/
import Derived.Test.YtbfnfgpjgdbmeaaGreatDoorRows
import GoSem.ClaimSeven
namespace Go.Proofs.YtbfnfgpjgdbmeaaGreatDoor
namespace Rows

/-- THE TIED CARD OF 'exchangepointtop.TopHolders'. -/
def topHoldersCard : Claim7 := { stood := { row := topHoldersRow, standIns := [], harness := (true, "55ed4bc5cb46549916ee12fd94794c0f282f50afff18506032a7f0fe1dfdbad6"), looks := true }, kinds := [], alts := [], laidByText := true, laidKinds := [.data, .data, .data, .data, .sentinel, .sentinel, .widerDeep, .funcs, .funcs, .pinned], laidTests := true, laidLooks := .later }
def TopHoldersCardSaid : Prop := Claim7.holds Tryz.pinned (.plain (OpenSpec.ofChange topHoldersSpec)) topHoldersCard

/-- THE TIED CARD OF 'exchangepointtop.TopCoverage'. -/
def topCoverageCard : Claim7 := { stood := { row := topCoverageRow, standIns := [], harness := (true, "55ed4bc5cb46549916ee12fd94794c0f282f50afff18506032a7f0fe1dfdbad6"), looks := true }, kinds := [], alts := [], laidByText := true, laidKinds := [.data, .data, .data, .data, .sentinel, .sentinel, .widerDeep, .funcs, .funcs, .pinned], laidTests := true, laidLooks := .later }
def TopCoverageCardSaid : Prop := Claim7.holds Tryz.pinned (.plain (OpenSpec.ofChange topCoverageSpec)) topCoverageCard

/-- THE SECOND FORM's CARD OF 'exchangepointtop.TopHolders'. -/
def topHoldersUptoCard : Claim7 := { stood := { row := topHoldersUptoRow, standIns := [], harness := (true, "55ed4bc5cb46549916ee12fd94794c0f282f50afff18506032a7f0fe1dfdbad6"), looks := true }, kinds := [], alts := [], laidByText := true, laidKinds := [.data, .data, .data, .data, .sentinel, .sentinel, .widerDeep, .funcs, .funcs, .pinned], laidTests := true, laidLooks := .later }
def TopHoldersUptoCardSaid : Prop := Claim7.holds Tryz.pinned (.plain (OpenSpec.upto topHoldersSpec)) topHoldersUptoCard

/-- THE SECOND FORM's CARD OF 'exchangepointtop.TopCoverage'. -/
def topCoverageUptoCard : Claim7 := { stood := { row := topCoverageUptoRow, standIns := [], harness := (true, "55ed4bc5cb46549916ee12fd94794c0f282f50afff18506032a7f0fe1dfdbad6"), looks := true }, kinds := [], alts := [], laidByText := true, laidKinds := [.data, .data, .data, .data, .sentinel, .sentinel, .widerDeep, .funcs, .funcs, .pinned], laidTests := true, laidLooks := .later }
def TopCoverageUptoCardSaid : Prop := Claim7.holds Tryz.pinned (.plain (OpenSpec.upto topCoverageSpec)) topCoverageUptoCard
end Rows
end Go.Proofs.YtbfnfgpjgdbmeaaGreatDoor
