/-
  Nobody passes as a router: advertisements, solicitations and redirects are dropped, from whichever address of the port they come: for every input, no condition; the listed variables are tied to the program's text.
-/
import Derived.Test.YtlcndmciognneaaGreatDoorPGuardRoutersB
namespace Go.Proofs.YtlcndmciognneaaGreatDoor
open Go.ChangeShapes Go.WideShapes Go.ChangeAt Go.RowKit

theorem guardRouters_c1 : Rows.guardRoutersRow.wfByText (OpenSpec.ofChange Rows.guardRoutersSpec) = true := by kernel_rfl
theorem guardRouters_c2 : Tryz.pinned.checked.prog.mainIs = some (true, "ea8deb373a4417d17e6ad0f446a910648265d9de5e8ffdf1f581835c1e917f77".toList) := by kernel_rfl
theorem guardRouters_c3 : false = Tryz.pinned.checked.prog.looks [] := by kernel_rfl
theorem guardRouters_c4 : false = Rows.guardRoutersRow.goesBy Tryz.pinned.checked.prog := by kernel_rfl
theorem guardRouters_holds : Rows.GuardRoutersCardSaid :=
  Claim7.holds_tied_plain_at .later [] [.data, .widerDeep, .pinned] true (true, "ea8deb373a4417d17e6ad0f446a910648265d9de5e8ffdf1f581835c1e917f77") false
    guardRouters_row (fun _ h => by cases h) guardRouters_c1 (fun _ h => by cases h) guardRouters_row_tie rfl ⟨rfl, rfl⟩ guardRouters_c2 rfl
    (fun f fn hf hfn => by
      obtain rfl : f = 12 := Option.some.inj ((show Tryz.prog.funcNamed "exchangepoint/exchangepointlaw10.GuardRouters" = some 12 by kernel_rfl).symm.trans hf) |>.symm
      obtain rfl : fn = Tryz.f12 := (Option.some.inj (Tryz.func12.symm.trans hfn)).symm
      exact ⟨guardRouters_c3, fun j t ht => by
        rw [Tryz.params12] at ht
        have hm : t ∈ [27, 3, 3] := by simpa using Array.mem_of_getElem? ht
        have hall : ([27, 3, 3].all fun u => !Tryz.prog.wantsStandIn u) = true := by kernel_rfl
        exact (show Tryz.prog.wantsStandIn t = false by simpa using List.all_eq_true.1 hall t hm)⟩)
    guardRouters_c4

end Go.Proofs.YtlcndmciognneaaGreatDoor
