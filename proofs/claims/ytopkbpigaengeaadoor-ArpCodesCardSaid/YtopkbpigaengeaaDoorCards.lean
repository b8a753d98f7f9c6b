/-
  DERIVED. GIVEN WITH THE SEED: THE CARDS: each row of YtopkbpigaengeaaDoorRows.lean that lists a variable, with what it lists TIED to the program's text (the seventh form; the later family's looks); each row that meets fmt, with fmt's text TOLD by the authors' own Lean function (tested against real Go, not proved from fmt's source: count such statements apart). THE CARD IS WHAT COUNTS. Prove the row's statement (the work); the ties are given (YtopkbpigaengeaaDoorTie.lean); close each card by the builder's one call (the guide's Derived/Test/ToyasCard.lean, 'card_holds'). Laid BY PROGRAM, IN A SANDBOX (cutbox-door.mjs). By AI agents, Wed Nov 11 2026. No macro, syntax, notation, axiom, sorry.
-/
import Derived.Test.YtopkbpigaengeaaDoorRows
import GoSem.ClaimSeven
namespace Go.Proofs.YtopkbpigaengeaaDoor
namespace Rows

/-- THE TIED CARD OF 'exchangepointlaw05.ArpAnswers'. -/
def arpAnswersCard : Claim7 := { stood := { row := arpAnswersRow, standIns := [], harness := (true, "faafc3efb51e71193dfc3ba292965164099c1ce47b526df171c45b742d552228"), looks := false }, kinds := [], alts := [], laidByText := true, laidKinds := [.widerDeep], laidTests := true, laidLooks := .later }
def ArpAnswersCardSaid : Prop := Claim7.holds Tryd.pinned (.plain (OpenSpec.ofChange arpAnswersSpec)) arpAnswersCard

/-- THE TIED CARD OF 'exchangepointlaw05.ArpCodes'. -/
def arpCodesCard : Claim7 := { stood := { row := arpCodesRow, standIns := [], harness := (true, "faafc3efb51e71193dfc3ba292965164099c1ce47b526df171c45b742d552228"), looks := false }, kinds := [], alts := [], laidByText := true, laidKinds := [.widerDeep], laidTests := true, laidLooks := .later }
def ArpCodesCardSaid : Prop := Claim7.holds Tryd.pinned (.plain (OpenSpec.ofChange arpCodesSpec)) arpCodesCard

/-- THE TIED CARD OF 'exchangepointlaw05.ArpBack'. -/
def arpBackCard : Claim7 := { stood := { row := arpBackRow, standIns := [], harness := (true, "faafc3efb51e71193dfc3ba292965164099c1ce47b526df171c45b742d552228"), looks := false }, kinds := [], alts := [], laidByText := true, laidKinds := [.widerDeep], laidTests := true, laidLooks := .later }
def ArpBackCardSaid : Prop := Claim7.holds Tryd.pinned (.plain (OpenSpec.ofChange arpBackSpec)) arpBackCard

/-- THE SECOND FORM's CARD OF 'exchangepointlaw05.ArpAnswers'. -/
def arpAnswersUptoCard : Claim7 := { stood := { row := arpAnswersUptoRow, standIns := [], harness := (true, "faafc3efb51e71193dfc3ba292965164099c1ce47b526df171c45b742d552228"), looks := false }, kinds := [], alts := [], laidByText := true, laidKinds := [.widerDeep], laidTests := true, laidLooks := .later }
def ArpAnswersUptoCardSaid : Prop := Claim7.holds Tryd.pinned (.plain (OpenSpec.upto arpAnswersSpec)) arpAnswersUptoCard

/-- THE SECOND FORM's CARD OF 'exchangepointlaw05.ArpCodes'. -/
def arpCodesUptoCard : Claim7 := { stood := { row := arpCodesUptoRow, standIns := [], harness := (true, "faafc3efb51e71193dfc3ba292965164099c1ce47b526df171c45b742d552228"), looks := false }, kinds := [], alts := [], laidByText := true, laidKinds := [.widerDeep], laidTests := true, laidLooks := .later }
def ArpCodesUptoCardSaid : Prop := Claim7.holds Tryd.pinned (.plain (OpenSpec.upto arpCodesSpec)) arpCodesUptoCard

/-- THE SECOND FORM's CARD OF 'exchangepointlaw05.ArpBack'. -/
def arpBackUptoCard : Claim7 := { stood := { row := arpBackUptoRow, standIns := [], harness := (true, "faafc3efb51e71193dfc3ba292965164099c1ce47b526df171c45b742d552228"), looks := false }, kinds := [], alts := [], laidByText := true, laidKinds := [.widerDeep], laidTests := true, laidLooks := .later }
def ArpBackUptoCardSaid : Prop := Claim7.holds Tryd.pinned (.plain (OpenSpec.upto arpBackSpec)) arpBackUptoCard
end Rows
end Go.Proofs.YtopkbpigaengeaaDoor
