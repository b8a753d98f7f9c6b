/-
  What becomes of a frame from a port: the verdict, the delivery, and the budget: for every input, no condition; the listed variable is tied to the program's text.
-/
import Derived.Test.YtlcndmciognneaaGreatDoorPForwardSendsB
namespace Go.Proofs.YtlcndmciognneaaGreatDoor
open Go.ChangeShapes Go.WideShapes Go.ChangeAt Go.RowKit

theorem forwardSends_holds : Rows.ForwardSendsCardSaid :=
  Claim7.holds_tied_plain_at .later [] [.widerDeep] true (true, "ea8deb373a4417d17e6ad0f446a910648265d9de5e8ffdf1f581835c1e917f77") false
    forwardSends_row (fun _ h => by cases h) (by kernel_rfl) (fun _ h => by cases h) forwardSends_row_tie rfl ⟨rfl, rfl⟩ (by kernel_rfl) rfl
    (fun f fn hf hfn => by
      obtain rfl : f = 3 := Option.some.inj ((show Tryz.prog.funcNamed "exchangepoint/exchangepointlaw14.ForwardSends" = some 3 by kernel_rfl).symm.trans hf) |>.symm
      obtain rfl : fn = Tryz.f3 := (Option.some.inj (Tryz.func3.symm.trans hfn)).symm
      exact ⟨by kernel_rfl, fun j t ht => by
        rw [Tryz.params3] at ht
        have hm : t ∈ [26, 27, 3, 3] := by simpa using Array.mem_of_getElem? ht
        have hall : ([26, 27, 3, 3].all fun u => !Tryz.prog.wantsStandIn u) = true := by kernel_rfl
        exact (show Tryz.prog.wantsStandIn t = false by simpa using List.all_eq_true.1 hall t hm)⟩)
    (by kernel_rfl)

end Go.Proofs.YtlcndmciognneaaGreatDoor
