/-
  DERIVED. GIVEN WITH THE SEED: THE CARDS: each row of YtdflnmfjpoodlaaGreatDoorRows.lean that lists a variable, with what it lists TIED to the program's text (the seventh form; the later family's looks); each row that meets fmt, with fmt's text TOLD by the authors' own Lean function (tested against real Go, not proved from fmt's source: count such statements apart). THE CARD IS WHAT COUNTS. Prove the row's statement (the work); the ties are given (YtdflnmfjpoodlaaGreatDoorTie.lean); close each card by the builder's one call (the guide's Derived/Test/ToyasCard.lean, 'card_holds'). Laid BY PROGRAM, IN A SANDBOX (cutbox-door.mjs). By AI agents, Wed Nov 11 2026. No macro, syntax, notation, axiom, sorry.
-/
import Derived.Test.YtdflnmfjpoodlaaGreatDoorRows
import GoSem.ClaimSeven
namespace Go.Proofs.YtdflnmfjpoodlaaGreatDoor
namespace Rows

/-- THE TIED CARD OF 'exchangepointtop.TopSpare'. -/
def topSpareCard : Claim7 := { stood := { row := topSpareRow, standIns := [], harness := (true, "45d93196284056720f7f203abde95579ee0013c933897d5a43b54db3ed69dcef"), looks := true }, kinds := [], alts := [], laidByText := true, laidKinds := [.data, .data, .data, .data, .sentinel, .sentinel, .widerDeep, .pinned], laidTests := true, laidLooks := .later }
def TopSpareCardSaid : Prop := Claim7.holds Tryz.pinned (.plain (OpenSpec.ofChange topSpareSpec)) topSpareCard

/-- THE TIED CARD OF 'exchangepointtop.TopLoads'. -/
def topLoadsCard : Claim7 := { stood := { row := topLoadsRow, standIns := [], harness := (true, "45d93196284056720f7f203abde95579ee0013c933897d5a43b54db3ed69dcef"), looks := true }, kinds := [], alts := [], laidByText := true, laidKinds := [.data, .data, .data, .data, .sentinel, .sentinel, .widerDeep, .pinned], laidTests := true, laidLooks := .later }
def TopLoadsCardSaid : Prop := Claim7.holds Tryz.pinned (.plain (OpenSpec.ofChange topLoadsSpec)) topLoadsCard

/-- THE SECOND FORM's CARD OF 'exchangepointtop.TopSpare'. -/
def topSpareUptoCard : Claim7 := { stood := { row := topSpareUptoRow, standIns := [], harness := (true, "45d93196284056720f7f203abde95579ee0013c933897d5a43b54db3ed69dcef"), looks := true }, kinds := [], alts := [], laidByText := true, laidKinds := [.data, .data, .data, .data, .sentinel, .sentinel, .widerDeep, .pinned], laidTests := true, laidLooks := .later }
def TopSpareUptoCardSaid : Prop := Claim7.holds Tryz.pinned (.plain (OpenSpec.upto topSpareSpec)) topSpareUptoCard

/-- THE SECOND FORM's CARD OF 'exchangepointtop.TopLoads'. -/
def topLoadsUptoCard : Claim7 := { stood := { row := topLoadsUptoRow, standIns := [], harness := (true, "45d93196284056720f7f203abde95579ee0013c933897d5a43b54db3ed69dcef"), looks := true }, kinds := [], alts := [], laidByText := true, laidKinds := [.data, .data, .data, .data, .sentinel, .sentinel, .widerDeep, .pinned], laidTests := true, laidLooks := .later }
def TopLoadsUptoCardSaid : Prop := Claim7.holds Tryz.pinned (.plain (OpenSpec.upto topLoadsSpec)) topLoadsUptoCard
end Rows
end Go.Proofs.YtdflnmfjpoodlaaGreatDoor
