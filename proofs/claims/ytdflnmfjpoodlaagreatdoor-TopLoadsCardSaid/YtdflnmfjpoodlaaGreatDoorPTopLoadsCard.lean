/-
  Traffic is counted exactly: the loads of all links together are each amount times the distance of its ends, only working links carry anything, and where there is a way, something can flow: for every input, no condition; the listed variables are tied to the program's text.
-/
import Derived.Test.YtdflnmfjpoodlaaGreatDoorPTopLoadsB
namespace Go.Proofs.YtdflnmfjpoodlaaGreatDoor
open Go.ChangeShapes Go.WideShapes Go.ChangeAt Go.RowKit

theorem topLoads_c1 : Rows.topLoadsRow.wfByText (OpenSpec.ofChange Rows.topLoadsSpec) = true := by kernel_rfl
theorem topLoads_c2 : Tryz.pinned.checked.prog.mainIs = some (true, "45d93196284056720f7f203abde95579ee0013c933897d5a43b54db3ed69dcef".toList) := by kernel_rfl
theorem topLoads_c3 : true = Tryz.pinned.checked.prog.looks [] := by kernel_rfl
theorem topLoads_c4 : false = Rows.topLoadsRow.goesBy Tryz.pinned.checked.prog := by kernel_rfl
theorem topLoads_holds : Rows.TopLoadsCardSaid :=
  Claim7.holds_tied_plain_at .later [] [.data, .data, .data, .data, .sentinel, .sentinel, .widerDeep, .pinned] true (true, "45d93196284056720f7f203abde95579ee0013c933897d5a43b54db3ed69dcef") true
    topLoads_row (fun _ h => by cases h) topLoads_c1 (fun _ h => by cases h) topLoads_row_tie rfl ⟨rfl, rfl⟩ topLoads_c2 rfl
    (fun f fn hf hfn => by
      obtain rfl : f = 4 := Option.some.inj ((show Tryz.prog.funcNamed "exchangepoint/exchangepointtop.TopLoads" = some 4 by kernel_rfl).symm.trans hf) |>.symm
      obtain rfl : fn = Tryz.f4 := (Option.some.inj (Tryz.func4.symm.trans hfn)).symm
      exact ⟨topLoads_c3, fun j t ht => by
        rw [Tryz.params4] at ht
        have hm : t ∈ [22] := by simpa using Array.mem_of_getElem? ht
        have hall : ([22].all fun u => !Tryz.prog.wantsStandIn u) = true := by kernel_rfl
        exact (show Tryz.prog.wantsStandIn t = false by simpa using List.all_eq_true.1 hall t hm)⟩)
    topLoads_c4

end Go.Proofs.YtdflnmfjpoodlaaGreatDoor
