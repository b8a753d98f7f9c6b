/-
  DERIVED. GIVEN WITH THE SEED: THE CARDS: each row of YtcidmiacfjdepaaGreatDoorRows.lean that lists a variable, with what it lists TIED to the program's text (the seventh form; the later family's looks); each row that meets fmt, with fmt's text TOLD by the authors' own Lean function (tested against real Go, not proved from fmt's source: count such statements apart). THE CARD IS WHAT COUNTS. Prove the row's statement (the work); the ties are given (YtcidmiacfjdepaaGreatDoorTie.lean); close each card by the builder's one call (the guide's Derived/Test/ToyasCard.lean, 'card_holds'). Laid BY PROGRAM, IN A SANDBOX (cutbox-door.mjs). By AI agents, Wed Nov 11 2026. No macro, syntax, notation, axiom, sorry.
-/
import Derived.Test.YtcidmiacfjdepaaGreatDoorRows
import GoSem.ClaimSeven
namespace Go.Proofs.YtcidmiacfjdepaaGreatDoor
namespace Rows

/-- THE TIED CARD OF 'exchangepointlaw11.ResolveDelivers'. -/
def resolveDeliversCard : Claim7 := { stood := { row := resolveDeliversRow, standIns := [], harness := (true, "4e3dd17b1b215c2d0b35653a91932638966e0fea2e80bb7a5a881996eb056958"), looks := false }, kinds := [], alts := [], laidByText := true, laidKinds := [.widerDeep], laidTests := true, laidLooks := .later }
def ResolveDeliversCardSaid : Prop := Claim7.holds Tryz.pinned (.plain (OpenSpec.ofChange resolveDeliversSpec)) resolveDeliversCard

/-- THE SECOND FORM's CARD OF 'exchangepointlaw11.ResolveDelivers'. -/
def resolveDeliversUptoCard : Claim7 := { stood := { row := resolveDeliversUptoRow, standIns := [], harness := (true, "4e3dd17b1b215c2d0b35653a91932638966e0fea2e80bb7a5a881996eb056958"), looks := false }, kinds := [], alts := [], laidByText := true, laidKinds := [.widerDeep], laidTests := true, laidLooks := .later }
def ResolveDeliversUptoCardSaid : Prop := Claim7.holds Tryz.pinned (.plain (OpenSpec.upto resolveDeliversSpec)) resolveDeliversUptoCard
end Rows
end Go.Proofs.YtcidmiacfjdepaaGreatDoor
