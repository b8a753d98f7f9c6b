/-
  DERIVED. GIVEN WITH THE SEED: THE CARDS: each row of YtlcndmciognneaaGreatDoorRows.lean that lists a variable, with what it lists TIED to the program's text (the seventh form; the later family's looks); each row that meets fmt, with fmt's text TOLD by the authors' own Lean function (tested against real Go, not proved from fmt's source: count such statements apart). THE CARD IS WHAT COUNTS. Prove the row's statement (the work); the ties are given (YtlcndmciognneaaGreatDoorTie.lean); close each card by the builder's one call (the guide's Derived/Test/ToyasCard.lean, 'card_holds'). Laid BY PROGRAM, IN A SANDBOX (cutbox-door.mjs). By AI agents, Wed Nov 11 2026. No macro, syntax, notation, axiom, sorry.
-/
import Derived.Test.YtlcndmciognneaaGreatDoorRows
import GoSem.ClaimSeven
namespace Go.Proofs.YtlcndmciognneaaGreatDoor
namespace Rows

/-- THE TIED CARD OF 'exchangepointlaw14.ForwardSends'. -/
def forwardSendsCard : Claim7 := { stood := { row := forwardSendsRow, standIns := [], harness := (true, "ea8deb373a4417d17e6ad0f446a910648265d9de5e8ffdf1f581835c1e917f77"), looks := false }, kinds := [], alts := [], laidByText := true, laidKinds := [.widerDeep], laidTests := true, laidLooks := .later }
def ForwardSendsCardSaid : Prop := Claim7.holds Tryz.pinned (.plain (OpenSpec.ofChange forwardSendsSpec)) forwardSendsCard

/-- THE TIED CARD OF 'exchangepointlaw14.ForwardBelongs'. -/
def forwardBelongsCard : Claim7 := { stood := { row := forwardBelongsRow, standIns := [], harness := (true, "ea8deb373a4417d17e6ad0f446a910648265d9de5e8ffdf1f581835c1e917f77"), looks := false }, kinds := [], alts := [], laidByText := true, laidKinds := [.widerDeep], laidTests := true, laidLooks := .later }
def ForwardBelongsCardSaid : Prop := Claim7.holds Tryz.pinned (.plain (OpenSpec.ofChange forwardBelongsSpec)) forwardBelongsCard

/-- THE TIED CARD OF 'exchangepointlaw14.ForwardQuiet'. -/
def forwardQuietCard : Claim7 := { stood := { row := forwardQuietRow, standIns := [], harness := (true, "ea8deb373a4417d17e6ad0f446a910648265d9de5e8ffdf1f581835c1e917f77"), looks := false }, kinds := [], alts := [], laidByText := true, laidKinds := [.widerDeep], laidTests := true, laidLooks := .later }
def ForwardQuietCardSaid : Prop := Claim7.holds Tryz.pinned (.plain (OpenSpec.ofChange forwardQuietSpec)) forwardQuietCard

/-- THE TIED CARD OF 'exchangepointlaw14.ForwardStable'. -/
def forwardStableCard : Claim7 := { stood := { row := forwardStableRow, standIns := [], harness := (true, "ea8deb373a4417d17e6ad0f446a910648265d9de5e8ffdf1f581835c1e917f77"), looks := false }, kinds := [], alts := [], laidByText := true, laidKinds := [.widerDeep], laidTests := true, laidLooks := .later }
def ForwardStableCardSaid : Prop := Claim7.holds Tryz.pinned (.plain (OpenSpec.ofChange forwardStableSpec)) forwardStableCard

/-- THE TIED CARD OF 'exchangepointlaw10.GuardChecks'. -/
def guardChecksCard : Claim7 := { stood := { row := guardChecksRow, standIns := [], harness := (true, "ea8deb373a4417d17e6ad0f446a910648265d9de5e8ffdf1f581835c1e917f77"), looks := false }, kinds := [], alts := [], laidByText := true, laidKinds := [.data, .widerDeep, .pinned], laidTests := true, laidLooks := .later }
def GuardChecksCardSaid : Prop := Claim7.holds Tryz.pinned (.plain (OpenSpec.ofChange guardChecksSpec)) guardChecksCard

/-- THE TIED CARD OF 'exchangepointlaw10.GuardHonest'. -/
def guardHonestCard : Claim7 := { stood := { row := guardHonestRow, standIns := [], harness := (true, "ea8deb373a4417d17e6ad0f446a910648265d9de5e8ffdf1f581835c1e917f77"), looks := false }, kinds := [], alts := [], laidByText := true, laidKinds := [.data, .widerDeep, .pinned], laidTests := true, laidLooks := .later }
def GuardHonestCardSaid : Prop := Claim7.holds Tryz.pinned (.plain (OpenSpec.ofChange guardHonestSpec)) guardHonestCard

/-- THE TIED CARD OF 'exchangepointlaw10.GuardGroups'. -/
def guardGroupsCard : Claim7 := { stood := { row := guardGroupsRow, standIns := [], harness := (true, "ea8deb373a4417d17e6ad0f446a910648265d9de5e8ffdf1f581835c1e917f77"), looks := false }, kinds := [], alts := [], laidByText := true, laidKinds := [.data, .widerDeep, .pinned], laidTests := true, laidLooks := .later }
def GuardGroupsCardSaid : Prop := Claim7.holds Tryz.pinned (.plain (OpenSpec.ofChange guardGroupsSpec)) guardGroupsCard

/-- THE TIED CARD OF 'exchangepointlaw10.GuardStrangers'. -/
def guardStrangersCard : Claim7 := { stood := { row := guardStrangersRow, standIns := [], harness := (true, "ea8deb373a4417d17e6ad0f446a910648265d9de5e8ffdf1f581835c1e917f77"), looks := false }, kinds := [], alts := [], laidByText := true, laidKinds := [.data, .widerDeep, .pinned], laidTests := true, laidLooks := .later }
def GuardStrangersCardSaid : Prop := Claim7.holds Tryz.pinned (.plain (OpenSpec.ofChange guardStrangersSpec)) guardStrangersCard

/-- THE TIED CARD OF 'exchangepointlaw10.GuardProbes'. -/
def guardProbesCard : Claim7 := { stood := { row := guardProbesRow, standIns := [], harness := (true, "ea8deb373a4417d17e6ad0f446a910648265d9de5e8ffdf1f581835c1e917f77"), looks := false }, kinds := [], alts := [], laidByText := true, laidKinds := [.data, .widerDeep, .pinned], laidTests := true, laidLooks := .later }
def GuardProbesCardSaid : Prop := Claim7.holds Tryz.pinned (.plain (OpenSpec.ofChange guardProbesSpec)) guardProbesCard

/-- THE TIED CARD OF 'exchangepointlaw10.GuardRouters'. -/
def guardRoutersCard : Claim7 := { stood := { row := guardRoutersRow, standIns := [], harness := (true, "ea8deb373a4417d17e6ad0f446a910648265d9de5e8ffdf1f581835c1e917f77"), looks := false }, kinds := [], alts := [], laidByText := true, laidKinds := [.data, .widerDeep, .pinned], laidTests := true, laidLooks := .later }
def GuardRoutersCardSaid : Prop := Claim7.holds Tryz.pinned (.plain (OpenSpec.ofChange guardRoutersSpec)) guardRoutersCard

/-- THE SECOND FORM's CARD OF 'exchangepointlaw14.ForwardSends'. -/
def forwardSendsUptoCard : Claim7 := { stood := { row := forwardSendsUptoRow, standIns := [], harness := (true, "ea8deb373a4417d17e6ad0f446a910648265d9de5e8ffdf1f581835c1e917f77"), looks := false }, kinds := [], alts := [], laidByText := true, laidKinds := [.widerDeep], laidTests := true, laidLooks := .later }
def ForwardSendsUptoCardSaid : Prop := Claim7.holds Tryz.pinned (.plain (OpenSpec.upto forwardSendsSpec)) forwardSendsUptoCard

/-- THE SECOND FORM's CARD OF 'exchangepointlaw14.ForwardBelongs'. -/
def forwardBelongsUptoCard : Claim7 := { stood := { row := forwardBelongsUptoRow, standIns := [], harness := (true, "ea8deb373a4417d17e6ad0f446a910648265d9de5e8ffdf1f581835c1e917f77"), looks := false }, kinds := [], alts := [], laidByText := true, laidKinds := [.widerDeep], laidTests := true, laidLooks := .later }
def ForwardBelongsUptoCardSaid : Prop := Claim7.holds Tryz.pinned (.plain (OpenSpec.upto forwardBelongsSpec)) forwardBelongsUptoCard

/-- THE SECOND FORM's CARD OF 'exchangepointlaw14.ForwardQuiet'. -/
def forwardQuietUptoCard : Claim7 := { stood := { row := forwardQuietUptoRow, standIns := [], harness := (true, "ea8deb373a4417d17e6ad0f446a910648265d9de5e8ffdf1f581835c1e917f77"), looks := false }, kinds := [], alts := [], laidByText := true, laidKinds := [.widerDeep], laidTests := true, laidLooks := .later }
def ForwardQuietUptoCardSaid : Prop := Claim7.holds Tryz.pinned (.plain (OpenSpec.upto forwardQuietSpec)) forwardQuietUptoCard

/-- THE SECOND FORM's CARD OF 'exchangepointlaw14.ForwardStable'. -/
def forwardStableUptoCard : Claim7 := { stood := { row := forwardStableUptoRow, standIns := [], harness := (true, "ea8deb373a4417d17e6ad0f446a910648265d9de5e8ffdf1f581835c1e917f77"), looks := false }, kinds := [], alts := [], laidByText := true, laidKinds := [.widerDeep], laidTests := true, laidLooks := .later }
def ForwardStableUptoCardSaid : Prop := Claim7.holds Tryz.pinned (.plain (OpenSpec.upto forwardStableSpec)) forwardStableUptoCard

/-- THE SECOND FORM's CARD OF 'exchangepointlaw10.GuardChecks'. -/
def guardChecksUptoCard : Claim7 := { stood := { row := guardChecksUptoRow, standIns := [], harness := (true, "ea8deb373a4417d17e6ad0f446a910648265d9de5e8ffdf1f581835c1e917f77"), looks := false }, kinds := [], alts := [], laidByText := true, laidKinds := [.data, .widerDeep, .pinned], laidTests := true, laidLooks := .later }
def GuardChecksUptoCardSaid : Prop := Claim7.holds Tryz.pinned (.plain (OpenSpec.upto guardChecksSpec)) guardChecksUptoCard

/-- THE SECOND FORM's CARD OF 'exchangepointlaw10.GuardHonest'. -/
def guardHonestUptoCard : Claim7 := { stood := { row := guardHonestUptoRow, standIns := [], harness := (true, "ea8deb373a4417d17e6ad0f446a910648265d9de5e8ffdf1f581835c1e917f77"), looks := false }, kinds := [], alts := [], laidByText := true, laidKinds := [.data, .widerDeep, .pinned], laidTests := true, laidLooks := .later }
def GuardHonestUptoCardSaid : Prop := Claim7.holds Tryz.pinned (.plain (OpenSpec.upto guardHonestSpec)) guardHonestUptoCard

/-- THE SECOND FORM's CARD OF 'exchangepointlaw10.GuardGroups'. -/
def guardGroupsUptoCard : Claim7 := { stood := { row := guardGroupsUptoRow, standIns := [], harness := (true, "ea8deb373a4417d17e6ad0f446a910648265d9de5e8ffdf1f581835c1e917f77"), looks := false }, kinds := [], alts := [], laidByText := true, laidKinds := [.data, .widerDeep, .pinned], laidTests := true, laidLooks := .later }
def GuardGroupsUptoCardSaid : Prop := Claim7.holds Tryz.pinned (.plain (OpenSpec.upto guardGroupsSpec)) guardGroupsUptoCard

/-- THE SECOND FORM's CARD OF 'exchangepointlaw10.GuardStrangers'. -/
def guardStrangersUptoCard : Claim7 := { stood := { row := guardStrangersUptoRow, standIns := [], harness := (true, "ea8deb373a4417d17e6ad0f446a910648265d9de5e8ffdf1f581835c1e917f77"), looks := false }, kinds := [], alts := [], laidByText := true, laidKinds := [.data, .widerDeep, .pinned], laidTests := true, laidLooks := .later }
def GuardStrangersUptoCardSaid : Prop := Claim7.holds Tryz.pinned (.plain (OpenSpec.upto guardStrangersSpec)) guardStrangersUptoCard

/-- THE SECOND FORM's CARD OF 'exchangepointlaw10.GuardProbes'. -/
def guardProbesUptoCard : Claim7 := { stood := { row := guardProbesUptoRow, standIns := [], harness := (true, "ea8deb373a4417d17e6ad0f446a910648265d9de5e8ffdf1f581835c1e917f77"), looks := false }, kinds := [], alts := [], laidByText := true, laidKinds := [.data, .widerDeep, .pinned], laidTests := true, laidLooks := .later }
def GuardProbesUptoCardSaid : Prop := Claim7.holds Tryz.pinned (.plain (OpenSpec.upto guardProbesSpec)) guardProbesUptoCard

/-- THE SECOND FORM's CARD OF 'exchangepointlaw10.GuardRouters'. -/
def guardRoutersUptoCard : Claim7 := { stood := { row := guardRoutersUptoRow, standIns := [], harness := (true, "ea8deb373a4417d17e6ad0f446a910648265d9de5e8ffdf1f581835c1e917f77"), looks := false }, kinds := [], alts := [], laidByText := true, laidKinds := [.data, .widerDeep, .pinned], laidTests := true, laidLooks := .later }
def GuardRoutersUptoCardSaid : Prop := Claim7.holds Tryz.pinned (.plain (OpenSpec.upto guardRoutersSpec)) guardRoutersUptoCard
end Rows
end Go.Proofs.YtlcndmciognneaaGreatDoor
