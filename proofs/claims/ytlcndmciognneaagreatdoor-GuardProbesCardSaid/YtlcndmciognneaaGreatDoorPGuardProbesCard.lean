/-
  A port may ask whether its own address is in use, from the unspecified address, and nobody may ask so for another one's: for every input, no condition; the listed variables are tied to the program's text.
-/
import Derived.Test.YtlcndmciognneaaGreatDoorPGuardProbesB
namespace Go.Proofs.YtlcndmciognneaaGreatDoor
open Go.ChangeShapes Go.WideShapes Go.ChangeAt Go.RowKit

theorem guardProbes_c1 : Rows.guardProbesRow.wfByText (OpenSpec.ofChange Rows.guardProbesSpec) = true := by kernel_rfl
theorem guardProbes_c2 : Tryz.pinned.checked.prog.mainIs = some (true, "ea8deb373a4417d17e6ad0f446a910648265d9de5e8ffdf1f581835c1e917f77".toList) := by kernel_rfl
theorem guardProbes_c3 : false = Tryz.pinned.checked.prog.looks [] := by kernel_rfl
theorem guardProbes_c4 : false = Rows.guardProbesRow.goesBy Tryz.pinned.checked.prog := by kernel_rfl
theorem guardProbes_holds : Rows.GuardProbesCardSaid :=
  Claim7.holds_tied_plain_at .later [] [.data, .widerDeep, .pinned] true (true, "ea8deb373a4417d17e6ad0f446a910648265d9de5e8ffdf1f581835c1e917f77") false
    guardProbes_row (fun _ h => by cases h) guardProbes_c1 (fun _ h => by cases h) guardProbes_row_tie rfl ⟨rfl, rfl⟩ guardProbes_c2 rfl
    (fun f fn hf hfn => by
      obtain rfl : f = 11 := Option.some.inj ((show Tryz.prog.funcNamed "exchangepoint/exchangepointlaw10.GuardProbes" = some 11 by kernel_rfl).symm.trans hf) |>.symm
      obtain rfl : fn = Tryz.f11 := (Option.some.inj (Tryz.func11.symm.trans hfn)).symm
      exact ⟨guardProbes_c3, fun j t ht => by
        rw [Tryz.params11] at ht
        have hm : t ∈ [27, 3, 3] := by simpa using Array.mem_of_getElem? ht
        have hall : ([27, 3, 3].all fun u => !Tryz.prog.wantsStandIn u) = true := by kernel_rfl
        exact (show Tryz.prog.wantsStandIn t = false by simpa using List.all_eq_true.1 hall t hm)⟩)
    guardProbes_c4

end Go.Proofs.YtlcndmciognneaaGreatDoor
