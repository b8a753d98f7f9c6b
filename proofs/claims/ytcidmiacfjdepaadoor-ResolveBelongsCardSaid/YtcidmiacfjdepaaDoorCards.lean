/-
  DERIVED. GIVEN WITH THE SEED: THE CARDS: each row of YtcidmiacfjdepaaDoorRows.lean that lists a variable, with what it lists TIED to the program's text (the seventh form; the later family's looks); each row that meets fmt, with fmt's text TOLD by the authors' own Lean function (tested against real Go, not proved from fmt's source: count such statements apart). THE CARD IS WHAT COUNTS. Prove the row's statement (the work); the ties are given (YtcidmiacfjdepaaDoorTie.lean); close each card by the builder's one call (the guide's Derived/Test/ToyasCard.lean, 'card_holds'). Laid BY PROGRAM, IN A SANDBOX (cutbox-door.mjs). By AI agents, Wed Nov 11 2026. No macro, syntax, notation, axiom, sorry.
-/
import Derived.Test.YtcidmiacfjdepaaDoorRows
import GoSem.ClaimSeven
namespace Go.Proofs.YtcidmiacfjdepaaDoor
namespace Rows

/-- THE TIED CARD OF 'exchangepointlaw11.ResolveFinds'. -/
def resolveFindsCard : Claim7 := { stood := { row := resolveFindsRow, standIns := [], harness := (true, "e0c231aae7d526de9db208163e3fa5aac350eff96e8d3ea85537723d73c560d2"), looks := false }, kinds := [], alts := [], laidByText := true, laidKinds := [.widerDeep], laidTests := true, laidLooks := .later }
def ResolveFindsCardSaid : Prop := Claim7.holds Tryd.pinned (.plain (OpenSpec.ofChange resolveFindsSpec)) resolveFindsCard

/-- THE TIED CARD OF 'exchangepointlaw11.ResolveNobody'. -/
def resolveNobodyCard : Claim7 := { stood := { row := resolveNobodyRow, standIns := [], harness := (true, "e0c231aae7d526de9db208163e3fa5aac350eff96e8d3ea85537723d73c560d2"), looks := false }, kinds := [], alts := [], laidByText := true, laidKinds := [.widerDeep], laidTests := true, laidLooks := .later }
def ResolveNobodyCardSaid : Prop := Claim7.holds Tryd.pinned (.plain (OpenSpec.ofChange resolveNobodySpec)) resolveNobodyCard

/-- THE TIED CARD OF 'exchangepointlaw11.ResolveBelongs'. -/
def resolveBelongsCard : Claim7 := { stood := { row := resolveBelongsRow, standIns := [], harness := (true, "e0c231aae7d526de9db208163e3fa5aac350eff96e8d3ea85537723d73c560d2"), looks := false }, kinds := [], alts := [], laidByText := true, laidKinds := [.widerDeep], laidTests := true, laidLooks := .later }
def ResolveBelongsCardSaid : Prop := Claim7.holds Tryd.pinned (.plain (OpenSpec.ofChange resolveBelongsSpec)) resolveBelongsCard

/-- THE SECOND FORM's CARD OF 'exchangepointlaw11.ResolveFinds'. -/
def resolveFindsUptoCard : Claim7 := { stood := { row := resolveFindsUptoRow, standIns := [], harness := (true, "e0c231aae7d526de9db208163e3fa5aac350eff96e8d3ea85537723d73c560d2"), looks := false }, kinds := [], alts := [], laidByText := true, laidKinds := [.widerDeep], laidTests := true, laidLooks := .later }
def ResolveFindsUptoCardSaid : Prop := Claim7.holds Tryd.pinned (.plain (OpenSpec.upto resolveFindsSpec)) resolveFindsUptoCard

/-- THE SECOND FORM's CARD OF 'exchangepointlaw11.ResolveNobody'. -/
def resolveNobodyUptoCard : Claim7 := { stood := { row := resolveNobodyUptoRow, standIns := [], harness := (true, "e0c231aae7d526de9db208163e3fa5aac350eff96e8d3ea85537723d73c560d2"), looks := false }, kinds := [], alts := [], laidByText := true, laidKinds := [.widerDeep], laidTests := true, laidLooks := .later }
def ResolveNobodyUptoCardSaid : Prop := Claim7.holds Tryd.pinned (.plain (OpenSpec.upto resolveNobodySpec)) resolveNobodyUptoCard

/-- THE SECOND FORM's CARD OF 'exchangepointlaw11.ResolveBelongs'. -/
def resolveBelongsUptoCard : Claim7 := { stood := { row := resolveBelongsUptoRow, standIns := [], harness := (true, "e0c231aae7d526de9db208163e3fa5aac350eff96e8d3ea85537723d73c560d2"), looks := false }, kinds := [], alts := [], laidByText := true, laidKinds := [.widerDeep], laidTests := true, laidLooks := .later }
def ResolveBelongsUptoCardSaid : Prop := Claim7.holds Tryd.pinned (.plain (OpenSpec.upto resolveBelongsSpec)) resolveBelongsUptoCard
end Rows
end Go.Proofs.YtcidmiacfjdepaaDoor
