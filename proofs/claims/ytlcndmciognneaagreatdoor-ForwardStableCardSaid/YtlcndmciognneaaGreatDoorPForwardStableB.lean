/-
  Frames between the same two stations take the same links: for every input, no condition; the listed variable is tied to the program's text.
-/
import Derived.Test.YtlcndmciognneaaGreatDoorPForwardStableA
namespace Go.Proofs.YtlcndmciognneaaGreatDoor
open Go.ChangeShapes Go.WideShapes Go.ChangeAt Go.RowKit

set_option maxHeartbeats 20000000 in
theorem forwardStable_closed : joinedFacts Tryz.pinned.checked.prog 6 Tryz.f6 Rows.forwardStableSpec Rows.forwardStableRow = true := by
  unfold joinedFacts
  simp only [Bool.and_eq_true]
  repeat' (apply And.intro)
  all_goals (as_aux_lemma => kernel_rfl)

theorem forwardStable_row : Rows.ForwardStableSaid :=
  OpenClaim.holds_of_wide 6 Tryz.f6 rfl rfl rfl rfl rfl rfl rfl ⟨rfl, rfl, rfl, rfl, rfl⟩ rfl rfl rfl rfl rfl (by as_aux_lemma => kernel_rfl) Tryz.func6 forwardStable_closed
    (of_decide_eq_true (by as_aux_lemma => kernel_rfl)) (by unfold Func.isWrapper; first | (rw [if_pos (by decide +kernel)]; kernel_rfl) | (rw [if_neg (by decide +kernel)]; exact ⟨rfl, rfl⟩))
    (fun os started H enc _ => forwardStable_lifted os started H enc)

end Go.Proofs.YtlcndmciognneaaGreatDoor
