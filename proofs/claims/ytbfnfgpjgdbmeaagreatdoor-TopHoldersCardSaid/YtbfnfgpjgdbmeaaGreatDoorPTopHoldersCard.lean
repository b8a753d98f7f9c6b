/-
  A payload stands exactly where a signed object, in its days, backed by a certificate of the chain, lists it: for every input, no condition; the listed variables are tied to the program's text.
-/
import Derived.Test.YtbfnfgpjgdbmeaaGreatDoorPTopHoldersB
import Derived.Test.YtbfnfgpjgdbmeaaGreatDoorPTopHoldersC
namespace Go.Proofs.YtbfnfgpjgdbmeaaGreatDoor
open Go.ChangeShapes Go.WideShapes Go.ChangeAt Go.RowKit

theorem topHolders_c1 : Rows.topHoldersRow.wfByText (OpenSpec.ofChange Rows.topHoldersSpec) = true := by kernel_rfl
theorem topHolders_c2 : Tryz.pinned.checked.prog.mainIs = some (true, "55ed4bc5cb46549916ee12fd94794c0f282f50afff18506032a7f0fe1dfdbad6".toList) := by kernel_rfl
theorem topHolders_c3 : true = Tryz.pinned.checked.prog.looks [] := by kernel_rfl
theorem topHolders_holds : Rows.TopHoldersCardSaid :=
  Claim7.holds_tied_plain_at .later [] [.data, .data, .data, .data, .sentinel, .sentinel, .widerDeep, .funcs, .funcs, .pinned] true (true, "55ed4bc5cb46549916ee12fd94794c0f282f50afff18506032a7f0fe1dfdbad6") true
    topHolders_row (fun _ h => by cases h) topHolders_c1 (fun _ h => by cases h) topHolders_row_tie rfl ⟨rfl, rfl⟩ topHolders_c2 rfl
    (fun f fn hf hfn => by
      obtain rfl : f = 3 := Option.some.inj ((show Tryz.prog.funcNamed "exchangepoint/exchangepointtop.TopHolders" = some 3 by kernel_rfl).symm.trans hf) |>.symm
      obtain rfl : fn = Tryz.f3 := (Option.some.inj (Tryz.func3.symm.trans hfn)).symm
      exact ⟨topHolders_c3, fun j t ht => by
        rw [Tryz.params3] at ht
        have hm : t ∈ [22, 3] := by simpa using Array.mem_of_getElem? ht
        have hall : ([22, 3].all fun u => !Tryz.prog.wantsStandIn u) = true := by kernel_rfl
        exact (show Tryz.prog.wantsStandIn t = false by simpa using List.all_eq_true.1 hall t hm)⟩)
    topHolders_c4

end Go.Proofs.YtbfnfgpjgdbmeaaGreatDoor
