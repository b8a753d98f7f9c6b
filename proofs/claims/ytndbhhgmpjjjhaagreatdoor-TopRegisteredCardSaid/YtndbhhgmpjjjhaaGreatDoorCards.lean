/-
  DERIVED. GIVEN WITH THE SEED: THE CARDS: each row of YtndbhhgmpjjjhaaGreatDoorRows.lean that lists a variable, with what it lists TIED to the program's text (the seventh form; the later family's looks); each row that meets fmt, with fmt's text TOLD by the authors' own Lean function (tested against real Go, not proved from fmt's source: count such statements apart). THE CARD IS WHAT COUNTS. Prove the row's statement (the work); the ties are given (YtndbhhgmpjjjhaaGreatDoorTie.lean); close each card by the builder's one call (the guide's Derived/Test/ToyasCard.lean, 'card_holds'). Laid BY PROGRAM, IN A SANDBOX (cutbox-door.mjs). By AI agents, Wed Nov 11 2026. No macro, syntax, notation, axiom, sorry.
-/
import Derived.Test.YtndbhhgmpjjjhaaGreatDoorRows
import GoSem.ClaimSeven
namespace Go.Proofs.YtndbhhgmpjjjhaaGreatDoor
namespace Rows

/-- THE TIED CARD OF 'exchangepointtop.TopObjects'. -/
def topObjectsCard : Claim7 := { stood := { row := topObjectsRow, standIns := [], harness := (true, "ca1e827454015ad8b48e427332b658539a1cee6f06d60fd205611a383fbc0e54"), looks := true }, kinds := [], alts := [], laidByText := true, laidKinds := [.data, .data, .data, .data, .sentinel, .sentinel, .widerDeep, .pinned], laidTests := true, laidLooks := .later }
def TopObjectsCardSaid : Prop := Claim7.holds Tryz.pinned (.plain (OpenSpec.ofChange topObjectsSpec)) topObjectsCard

/-- THE TIED CARD OF 'exchangepointtop.TopRegistered'. -/
def topRegisteredCard : Claim7 := { stood := { row := topRegisteredRow, standIns := [], harness := (true, "ca1e827454015ad8b48e427332b658539a1cee6f06d60fd205611a383fbc0e54"), looks := true }, kinds := [], alts := [], laidByText := true, laidKinds := [.data, .data, .data, .data, .sentinel, .sentinel, .widerDeep, .pinned], laidTests := true, laidLooks := .later }
def TopRegisteredCardSaid : Prop := Claim7.holds Tryz.pinned (.plain (OpenSpec.ofChange topRegisteredSpec)) topRegisteredCard

/-- THE SECOND FORM's CARD OF 'exchangepointtop.TopObjects'. -/
def topObjectsUptoCard : Claim7 := { stood := { row := topObjectsUptoRow, standIns := [], harness := (true, "ca1e827454015ad8b48e427332b658539a1cee6f06d60fd205611a383fbc0e54"), looks := true }, kinds := [], alts := [], laidByText := true, laidKinds := [.data, .data, .data, .data, .sentinel, .sentinel, .widerDeep, .pinned], laidTests := true, laidLooks := .later }
def TopObjectsUptoCardSaid : Prop := Claim7.holds Tryz.pinned (.plain (OpenSpec.upto topObjectsSpec)) topObjectsUptoCard

/-- THE SECOND FORM's CARD OF 'exchangepointtop.TopRegistered'. -/
def topRegisteredUptoCard : Claim7 := { stood := { row := topRegisteredUptoRow, standIns := [], harness := (true, "ca1e827454015ad8b48e427332b658539a1cee6f06d60fd205611a383fbc0e54"), looks := true }, kinds := [], alts := [], laidByText := true, laidKinds := [.data, .data, .data, .data, .sentinel, .sentinel, .widerDeep, .pinned], laidTests := true, laidLooks := .later }
def TopRegisteredUptoCardSaid : Prop := Claim7.holds Tryz.pinned (.plain (OpenSpec.upto topRegisteredSpec)) topRegisteredUptoCard
end Rows
end Go.Proofs.YtndbhhgmpjjjhaaGreatDoor
