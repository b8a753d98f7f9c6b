/-
  The verdict on frames of a port, right ones, wrong ones, and changed ones: for every input, no condition; the listed variables are tied to the program's text.
-/
import Derived.Test.YtlcndmciognneaaGreatDoorPGuardChecksB
namespace Go.Proofs.YtlcndmciognneaaGreatDoor
open Go.ChangeShapes Go.WideShapes Go.ChangeAt Go.RowKit

theorem guardChecks_c1 : Rows.guardChecksRow.wfByText (OpenSpec.ofChange Rows.guardChecksSpec) = true := by kernel_rfl
theorem guardChecks_c2 : Tryz.pinned.checked.prog.mainIs = some (true, "ea8deb373a4417d17e6ad0f446a910648265d9de5e8ffdf1f581835c1e917f77".toList) := by kernel_rfl
theorem guardChecks_c3 : false = Tryz.pinned.checked.prog.looks [] := by kernel_rfl
theorem guardChecks_c4 : false = Rows.guardChecksRow.goesBy Tryz.pinned.checked.prog := by kernel_rfl
theorem guardChecks_holds : Rows.GuardChecksCardSaid :=
  Claim7.holds_tied_plain_at .later [] [.data, .widerDeep, .pinned] true (true, "ea8deb373a4417d17e6ad0f446a910648265d9de5e8ffdf1f581835c1e917f77") false
    guardChecks_row (fun _ h => by cases h) guardChecks_c1 (fun _ h => by cases h) guardChecks_row_tie rfl ⟨rfl, rfl⟩ guardChecks_c2 rfl
    (fun f fn hf hfn => by
      obtain rfl : f = 7 := Option.some.inj ((show Tryz.prog.funcNamed "exchangepoint/exchangepointlaw10.GuardChecks" = some 7 by kernel_rfl).symm.trans hf) |>.symm
      obtain rfl : fn = Tryz.f7 := (Option.some.inj (Tryz.func7.symm.trans hfn)).symm
      exact ⟨guardChecks_c3, fun j t ht => by
        rw [Tryz.params7] at ht
        have hm : t ∈ [26, 39, 27, 3, 3] := by simpa using Array.mem_of_getElem? ht
        have hall : ([26, 39, 27, 3, 3].all fun u => !Tryz.prog.wantsStandIn u) = true := by kernel_rfl
        exact (show Tryz.prog.wantsStandIn t = false by simpa using List.all_eq_true.1 hall t hm)⟩)
    guardChecks_c4

end Go.Proofs.YtlcndmciognneaaGreatDoor
