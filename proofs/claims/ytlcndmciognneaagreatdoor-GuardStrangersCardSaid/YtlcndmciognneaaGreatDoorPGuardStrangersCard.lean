/-
  A frame that passes for one port of a database passes for no other one: for every input, no condition; the listed variables are tied to the program's text.
-/
import Derived.Test.YtlcndmciognneaaGreatDoorPGuardStrangersB
namespace Go.Proofs.YtlcndmciognneaaGreatDoor
open Go.ChangeShapes Go.WideShapes Go.ChangeAt Go.RowKit

theorem guardStrangers_c1 : Rows.guardStrangersRow.wfByText (OpenSpec.ofChange Rows.guardStrangersSpec) = true := by kernel_rfl
theorem guardStrangers_c2 : Tryz.pinned.checked.prog.mainIs = some (true, "ea8deb373a4417d17e6ad0f446a910648265d9de5e8ffdf1f581835c1e917f77".toList) := by kernel_rfl
theorem guardStrangers_c3 : false = Tryz.pinned.checked.prog.looks [] := by kernel_rfl
theorem guardStrangers_c4 : false = Rows.guardStrangersRow.goesBy Tryz.pinned.checked.prog := by kernel_rfl
theorem guardStrangers_holds : Rows.GuardStrangersCardSaid :=
  Claim7.holds_tied_plain_at .later [] [.data, .widerDeep, .pinned] true (true, "ea8deb373a4417d17e6ad0f446a910648265d9de5e8ffdf1f581835c1e917f77") false
    guardStrangers_row (fun _ h => by cases h) guardStrangers_c1 (fun _ h => by cases h) guardStrangers_row_tie rfl ⟨rfl, rfl⟩ guardStrangers_c2 rfl
    (fun f fn hf hfn => by
      obtain rfl : f = 10 := Option.some.inj ((show Tryz.prog.funcNamed "exchangepoint/exchangepointlaw10.GuardStrangers" = some 10 by kernel_rfl).symm.trans hf) |>.symm
      obtain rfl : fn = Tryz.f10 := (Option.some.inj (Tryz.func10.symm.trans hfn)).symm
      exact ⟨guardStrangers_c3, fun j t ht => by
        rw [Tryz.params10] at ht
        have hm : t ∈ [27] := by simpa using Array.mem_of_getElem? ht
        have hall : ([27].all fun u => !Tryz.prog.wantsStandIn u) = true := by kernel_rfl
        exact (show Tryz.prog.wantsStandIn t = false by simpa using List.all_eq_true.1 hall t hm)⟩)
    guardStrangers_c4

end Go.Proofs.YtlcndmciognneaaGreatDoor
