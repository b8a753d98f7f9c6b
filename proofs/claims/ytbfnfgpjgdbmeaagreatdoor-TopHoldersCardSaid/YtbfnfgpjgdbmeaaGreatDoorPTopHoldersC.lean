/-
  A fact about the program that the card of TopHolders asks for, in a text of its own (the kernel's memory).
-/
import Derived.Test.YtbfnfgpjgdbmeaaGreatDoorCards
import Derived.KernelRfl
namespace Go.Proofs.YtbfnfgpjgdbmeaaGreatDoor
theorem topHolders_c4 : false = Rows.topHoldersRow.goesBy Tryz.pinned.checked.prog := by kernel_rfl
end Go.Proofs.YtbfnfgpjgdbmeaaGreatDoor
