/-
  What passes has a source of the port, and claims no address that is not the port's, neither in address resolution nor in neighbour discovery: for every input, no condition; the listed variables are tied to the program's text.
-/
import Derived.Test.YtlcndmciognneaaGreatDoorPGuardHonestB
namespace Go.Proofs.YtlcndmciognneaaGreatDoor
open Go.ChangeShapes Go.WideShapes Go.ChangeAt Go.RowKit

theorem guardHonest_c1 : Rows.guardHonestRow.wfByText (OpenSpec.ofChange Rows.guardHonestSpec) = true := by kernel_rfl
theorem guardHonest_c2 : Tryz.pinned.checked.prog.mainIs = some (true, "ea8deb373a4417d17e6ad0f446a910648265d9de5e8ffdf1f581835c1e917f77".toList) := by kernel_rfl
theorem guardHonest_c3 : false = Tryz.pinned.checked.prog.looks [] := by kernel_rfl
theorem guardHonest_c4 : false = Rows.guardHonestRow.goesBy Tryz.pinned.checked.prog := by kernel_rfl
theorem guardHonest_holds : Rows.GuardHonestCardSaid :=
  Claim7.holds_tied_plain_at .later [] [.data, .widerDeep, .pinned] true (true, "ea8deb373a4417d17e6ad0f446a910648265d9de5e8ffdf1f581835c1e917f77") false
    guardHonest_row (fun _ h => by cases h) guardHonest_c1 (fun _ h => by cases h) guardHonest_row_tie rfl ⟨rfl, rfl⟩ guardHonest_c2 rfl
    (fun f fn hf hfn => by
      obtain rfl : f = 8 := Option.some.inj ((show Tryz.prog.funcNamed "exchangepoint/exchangepointlaw10.GuardHonest" = some 8 by kernel_rfl).symm.trans hf) |>.symm
      obtain rfl : fn = Tryz.f8 := (Option.some.inj (Tryz.func8.symm.trans hfn)).symm
      exact ⟨guardHonest_c3, fun j t ht => by
        rw [Tryz.params8] at ht
        have hm : t ∈ [27, 3, 3] := by simpa using Array.mem_of_getElem? ht
        have hall : ([27, 3, 3].all fun u => !Tryz.prog.wantsStandIn u) = true := by kernel_rfl
        exact (show Tryz.prog.wantsStandIn t = false by simpa using List.all_eq_true.1 hall t hm)⟩)
    guardHonest_c4

end Go.Proofs.YtlcndmciognneaaGreatDoor
