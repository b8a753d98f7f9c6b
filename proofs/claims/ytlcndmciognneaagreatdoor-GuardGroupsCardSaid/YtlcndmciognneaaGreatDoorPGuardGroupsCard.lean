/-
  Of frames to groups only address resolution to all and solicitations to the group of their target pass, for addresses of the exchange: for every input, no condition; the listed variables are tied to the program's text.
-/
import Derived.Test.YtlcndmciognneaaGreatDoorPGuardGroupsB
namespace Go.Proofs.YtlcndmciognneaaGreatDoor
open Go.ChangeShapes Go.WideShapes Go.ChangeAt Go.RowKit

theorem guardGroups_c1 : Rows.guardGroupsRow.wfByText (OpenSpec.ofChange Rows.guardGroupsSpec) = true := by kernel_rfl
theorem guardGroups_c2 : Tryz.pinned.checked.prog.mainIs = some (true, "ea8deb373a4417d17e6ad0f446a910648265d9de5e8ffdf1f581835c1e917f77".toList) := by kernel_rfl
theorem guardGroups_c3 : false = Tryz.pinned.checked.prog.looks [] := by kernel_rfl
theorem guardGroups_c4 : false = Rows.guardGroupsRow.goesBy Tryz.pinned.checked.prog := by kernel_rfl
theorem guardGroups_holds : Rows.GuardGroupsCardSaid :=
  Claim7.holds_tied_plain_at .later [] [.data, .widerDeep, .pinned] true (true, "ea8deb373a4417d17e6ad0f446a910648265d9de5e8ffdf1f581835c1e917f77") false
    guardGroups_row (fun _ h => by cases h) guardGroups_c1 (fun _ h => by cases h) guardGroups_row_tie rfl ⟨rfl, rfl⟩ guardGroups_c2 rfl
    (fun f fn hf hfn => by
      obtain rfl : f = 9 := Option.some.inj ((show Tryz.prog.funcNamed "exchangepoint/exchangepointlaw10.GuardGroups" = some 9 by kernel_rfl).symm.trans hf) |>.symm
      obtain rfl : fn = Tryz.f9 := (Option.some.inj (Tryz.func9.symm.trans hfn)).symm
      exact ⟨guardGroups_c3, fun j t ht => by
        rw [Tryz.params9] at ht
        have hm : t ∈ [27, 23, 3] := by simpa using Array.mem_of_getElem? ht
        have hall : ([27, 23, 3].all fun u => !Tryz.prog.wantsStandIn u) = true := by kernel_rfl
        exact (show Tryz.prog.wantsStandIn t = false by simpa using List.all_eq_true.1 hall t hm)⟩)
    guardGroups_c4

end Go.Proofs.YtlcndmciognneaaGreatDoor
