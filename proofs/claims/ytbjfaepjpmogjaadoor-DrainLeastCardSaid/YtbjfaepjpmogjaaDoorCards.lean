/-
  DERIVED. GIVEN WITH THE SEED: THE CARDS: each row of YtbjfaepjpmogjaaDoorRows.lean that lists a variable, with what it lists TIED to the program's text (the seventh form; the later family's looks); each row that meets fmt, with fmt's text TOLD by the authors' own Lean function (tested against real Go, not proved from fmt's source: count such statements apart). THE CARD IS WHAT COUNTS. Prove the row's statement (the work); the ties are given (YtbjfaepjpmogjaaDoorTie.lean); close each card by the builder's one call (the guide's Derived/Test/ToyasCard.lean, 'card_holds'). Laid BY PROGRAM, IN A SANDBOX (cutbox-door.mjs). By AI agents, Wed Nov 11 2026. No macro, syntax, notation, axiom, sorry.
-/
import Derived.Test.YtbjfaepjpmogjaaDoorRows
import GoSem.ClaimSeven
namespace Go.Proofs.YtbjfaepjpmogjaaDoor
namespace Rows

/-- THE TIED CARD OF 'exchangepointlaw42.DrainRounds'. -/
def drainRoundsCard : Claim7 := { stood := { row := drainRoundsRow, standIns := [], harness := (true, "0688e7c9a11115ed0169b9e134ca02090259ad90278c8a0fd7818771b6ea57e2"), looks := false }, kinds := [], alts := [], laidByText := true, laidKinds := [.data, .data], laidTests := true, laidLooks := .later }
def DrainRoundsCardSaid : Prop := Claim7.holds Tryd.pinned (.plain (OpenSpec.ofChange drainRoundsSpec)) drainRoundsCard

/-- THE TIED CARD OF 'exchangepointlaw42.DrainSafe'. -/
def drainSafeCard : Claim7 := { stood := { row := drainSafeRow, standIns := [], harness := (true, "0688e7c9a11115ed0169b9e134ca02090259ad90278c8a0fd7818771b6ea57e2"), looks := false }, kinds := [], alts := [], laidByText := true, laidKinds := [.data, .data], laidTests := true, laidLooks := .later }
def DrainSafeCardSaid : Prop := Claim7.holds Tryd.pinned (.plain (OpenSpec.ofChange drainSafeSpec)) drainSafeCard

/-- THE TIED CARD OF 'exchangepointlaw42.DrainLeast'. -/
def drainLeastCard : Claim7 := { stood := { row := drainLeastRow, standIns := [], harness := (true, "0688e7c9a11115ed0169b9e134ca02090259ad90278c8a0fd7818771b6ea57e2"), looks := false }, kinds := [], alts := [], laidByText := true, laidKinds := [.data, .data], laidTests := true, laidLooks := .later }
def DrainLeastCardSaid : Prop := Claim7.holds Tryd.pinned (.plain (OpenSpec.ofChange drainLeastSpec)) drainLeastCard

/-- THE TIED CARD OF 'exchangepointlaw42.DrainCarries'. -/
def drainCarriesCard : Claim7 := { stood := { row := drainCarriesRow, standIns := [], harness := (true, "0688e7c9a11115ed0169b9e134ca02090259ad90278c8a0fd7818771b6ea57e2"), looks := false }, kinds := [], alts := [], laidByText := true, laidKinds := [.data, .data], laidTests := true, laidLooks := .later }
def DrainCarriesCardSaid : Prop := Claim7.holds Tryd.pinned (.plain (OpenSpec.ofChange drainCarriesSpec)) drainCarriesCard

/-- THE TIED CARD OF 'exchangepointlaw42.DrainFits'. -/
def drainFitsCard : Claim7 := { stood := { row := drainFitsRow, standIns := [], harness := (true, "0688e7c9a11115ed0169b9e134ca02090259ad90278c8a0fd7818771b6ea57e2"), looks := false }, kinds := [], alts := [], laidByText := true, laidKinds := [.data, .data], laidTests := true, laidLooks := .later }
def DrainFitsCardSaid : Prop := Claim7.holds Tryd.pinned (.plain (OpenSpec.ofChange drainFitsSpec)) drainFitsCard

/-- THE SECOND FORM's CARD OF 'exchangepointlaw42.DrainRounds'. -/
def drainRoundsUptoCard : Claim7 := { stood := { row := drainRoundsUptoRow, standIns := [], harness := (true, "0688e7c9a11115ed0169b9e134ca02090259ad90278c8a0fd7818771b6ea57e2"), looks := false }, kinds := [], alts := [], laidByText := true, laidKinds := [.data, .data], laidTests := true, laidLooks := .later }
def DrainRoundsUptoCardSaid : Prop := Claim7.holds Tryd.pinned (.plain (OpenSpec.upto drainRoundsSpec)) drainRoundsUptoCard

/-- THE SECOND FORM's CARD OF 'exchangepointlaw42.DrainSafe'. -/
def drainSafeUptoCard : Claim7 := { stood := { row := drainSafeUptoRow, standIns := [], harness := (true, "0688e7c9a11115ed0169b9e134ca02090259ad90278c8a0fd7818771b6ea57e2"), looks := false }, kinds := [], alts := [], laidByText := true, laidKinds := [.data, .data], laidTests := true, laidLooks := .later }
def DrainSafeUptoCardSaid : Prop := Claim7.holds Tryd.pinned (.plain (OpenSpec.upto drainSafeSpec)) drainSafeUptoCard

/-- THE SECOND FORM's CARD OF 'exchangepointlaw42.DrainLeast'. -/
def drainLeastUptoCard : Claim7 := { stood := { row := drainLeastUptoRow, standIns := [], harness := (true, "0688e7c9a11115ed0169b9e134ca02090259ad90278c8a0fd7818771b6ea57e2"), looks := false }, kinds := [], alts := [], laidByText := true, laidKinds := [.data, .data], laidTests := true, laidLooks := .later }
def DrainLeastUptoCardSaid : Prop := Claim7.holds Tryd.pinned (.plain (OpenSpec.upto drainLeastSpec)) drainLeastUptoCard

/-- THE SECOND FORM's CARD OF 'exchangepointlaw42.DrainCarries'. -/
def drainCarriesUptoCard : Claim7 := { stood := { row := drainCarriesUptoRow, standIns := [], harness := (true, "0688e7c9a11115ed0169b9e134ca02090259ad90278c8a0fd7818771b6ea57e2"), looks := false }, kinds := [], alts := [], laidByText := true, laidKinds := [.data, .data], laidTests := true, laidLooks := .later }
def DrainCarriesUptoCardSaid : Prop := Claim7.holds Tryd.pinned (.plain (OpenSpec.upto drainCarriesSpec)) drainCarriesUptoCard

/-- THE SECOND FORM's CARD OF 'exchangepointlaw42.DrainFits'. -/
def drainFitsUptoCard : Claim7 := { stood := { row := drainFitsUptoRow, standIns := [], harness := (true, "0688e7c9a11115ed0169b9e134ca02090259ad90278c8a0fd7818771b6ea57e2"), looks := false }, kinds := [], alts := [], laidByText := true, laidKinds := [.data, .data], laidTests := true, laidLooks := .later }
def DrainFitsUptoCardSaid : Prop := Claim7.holds Tryd.pinned (.plain (OpenSpec.upto drainFitsSpec)) drainFitsUptoCard
end Rows
end Go.Proofs.YtbjfaepjpmogjaaDoor
