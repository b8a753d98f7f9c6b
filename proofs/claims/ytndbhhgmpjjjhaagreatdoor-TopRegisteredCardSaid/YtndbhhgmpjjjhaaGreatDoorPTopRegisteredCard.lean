/-
  A member's filter is exact: a prefix is permitted for a member exactly if it is covered by an object, long enough for it, of one of the AS numbers that the member's set leads to or of its own, and this AS is the origin; and longer or uncovered ones are refused with their reason: for every input, no condition; the listed variables are tied to the program's text.
-/
import Derived.Test.YtndbhhgmpjjjhaaGreatDoorPTopRegisteredB
namespace Go.Proofs.YtndbhhgmpjjjhaaGreatDoor
open Go.ChangeShapes Go.WideShapes Go.ChangeAt Go.RowKit

theorem topRegistered_c1 : Rows.topRegisteredRow.wfByText (OpenSpec.ofChange Rows.topRegisteredSpec) = true := by kernel_rfl
theorem topRegistered_c2 : Tryz.pinned.checked.prog.mainIs = some (true, "ca1e827454015ad8b48e427332b658539a1cee6f06d60fd205611a383fbc0e54".toList) := by kernel_rfl
theorem topRegistered_c3 : true = Tryz.pinned.checked.prog.looks [] := by kernel_rfl
theorem topRegistered_c4 : false = Rows.topRegisteredRow.goesBy Tryz.pinned.checked.prog := by kernel_rfl
theorem topRegistered_holds : Rows.TopRegisteredCardSaid :=
  Claim7.holds_tied_plain_at .later [] [.data, .data, .data, .data, .sentinel, .sentinel, .widerDeep, .pinned] true (true, "ca1e827454015ad8b48e427332b658539a1cee6f06d60fd205611a383fbc0e54") true
    topRegistered_row (fun _ h => by cases h) topRegistered_c1 (fun _ h => by cases h) topRegistered_row_tie rfl ⟨rfl, rfl⟩ topRegistered_c2 rfl
    (fun f fn hf hfn => by
      obtain rfl : f = 4 := Option.some.inj ((show Tryz.prog.funcNamed "exchangepoint/exchangepointtop.TopRegistered" = some 4 by kernel_rfl).symm.trans hf) |>.symm
      obtain rfl : fn = Tryz.f4 := (Option.some.inj (Tryz.func4.symm.trans hfn)).symm
      exact ⟨topRegistered_c3, fun j t ht => by
        rw [Tryz.params4] at ht
        have hm : t ∈ [22, 3, 3] := by simpa using Array.mem_of_getElem? ht
        have hall : ([22, 3, 3].all fun u => !Tryz.prog.wantsStandIn u) = true := by kernel_rfl
        exact (show Tryz.prog.wantsStandIn t = false by simpa using List.all_eq_true.1 hall t hm)⟩)
    topRegistered_c4

end Go.Proofs.YtndbhhgmpjjjhaaGreatDoor
