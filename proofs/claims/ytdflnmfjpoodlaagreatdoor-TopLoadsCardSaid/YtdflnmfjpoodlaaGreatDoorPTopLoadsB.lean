/-
  Traffic is counted exactly: the loads of all links together are each amount times the distance of its ends, only working links carry anything, and where there is a way, something can flow: for every input, no condition; the listed variables are tied to the program's text.
-/
import Derived.Test.YtdflnmfjpoodlaaGreatDoorPTopLoadsA
namespace Go.Proofs.YtdflnmfjpoodlaaGreatDoor
open Go.ChangeShapes Go.WideShapes Go.ChangeAt Go.RowKit

set_option maxHeartbeats 20000000 in
theorem topLoads_closed : joinedFacts Tryz.pinned.checked.prog 4 Tryz.f4 Rows.topLoadsSpec Rows.topLoadsRow = true := by
  unfold joinedFacts
  simp only [Bool.and_eq_true]
  repeat' (apply And.intro)
  all_goals (as_aux_lemma => kernel_rfl)

theorem topLoads_row : Rows.TopLoadsSaid :=
  OpenClaim.holds_of_wide 4 Tryz.f4 rfl rfl rfl rfl rfl rfl rfl ⟨rfl, rfl, rfl, rfl, rfl⟩ rfl rfl rfl rfl rfl (by as_aux_lemma => kernel_rfl) Tryz.func4 topLoads_closed
    (of_decide_eq_true (by as_aux_lemma => kernel_rfl)) (by unfold Func.isWrapper; first | (rw [if_pos (by decide +kernel)]; kernel_rfl) | (rw [if_neg (by decide +kernel)]; exact ⟨rfl, rfl⟩))
    (fun os started H enc _ => topLoads_lifted os started H enc)

end Go.Proofs.YtdflnmfjpoodlaaGreatDoor
