/-
  What objects permit for an AS number is what a table of prefixes says: of the objects that cover a prefix, the greatest Max decides: for every input, no condition; the listed variables are tied to the program's text.
-/
import Derived.Test.YtndbhhgmpjjjhaaGreatDoorPTopObjectsB
namespace Go.Proofs.YtndbhhgmpjjjhaaGreatDoor
open Go.ChangeShapes Go.WideShapes Go.ChangeAt Go.RowKit

theorem topObjects_c1 : Rows.topObjectsRow.wfByText (OpenSpec.ofChange Rows.topObjectsSpec) = true := by kernel_rfl
theorem topObjects_c2 : Tryz.pinned.checked.prog.mainIs = some (true, "ca1e827454015ad8b48e427332b658539a1cee6f06d60fd205611a383fbc0e54".toList) := by kernel_rfl
theorem topObjects_c3 : true = Tryz.pinned.checked.prog.looks [] := by kernel_rfl
theorem topObjects_c4 : false = Rows.topObjectsRow.goesBy Tryz.pinned.checked.prog := by kernel_rfl
theorem topObjects_holds : Rows.TopObjectsCardSaid :=
  Claim7.holds_tied_plain_at .later [] [.data, .data, .data, .data, .sentinel, .sentinel, .widerDeep, .pinned] true (true, "ca1e827454015ad8b48e427332b658539a1cee6f06d60fd205611a383fbc0e54") true
    topObjects_row (fun _ h => by cases h) topObjects_c1 (fun _ h => by cases h) topObjects_row_tie rfl ⟨rfl, rfl⟩ topObjects_c2 rfl
    (fun f fn hf hfn => by
      obtain rfl : f = 3 := Option.some.inj ((show Tryz.prog.funcNamed "exchangepoint/exchangepointtop.TopObjects" = some 3 by kernel_rfl).symm.trans hf) |>.symm
      obtain rfl : fn = Tryz.f3 := (Option.some.inj (Tryz.func3.symm.trans hfn)).symm
      exact ⟨topObjects_c3, fun j t ht => by
        rw [Tryz.params3] at ht
        have hm : t ∈ [22, 3] := by simpa using Array.mem_of_getElem? ht
        have hall : ([22, 3].all fun u => !Tryz.prog.wantsStandIn u) = true := by kernel_rfl
        exact (show Tryz.prog.wantsStandIn t = false by simpa using List.all_eq_true.1 hall t hm)⟩)
    topObjects_c4

end Go.Proofs.YtndbhhgmpjjjhaaGreatDoor
