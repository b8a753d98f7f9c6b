/-
  What a port has delivered to groups stays within its budget: for every input, no condition; the listed variable is tied to the program's text.
-/
import Derived.Test.YtlcndmciognneaaGreatDoorPForwardQuietA
namespace Go.Proofs.YtlcndmciognneaaGreatDoor
open Go.ChangeShapes Go.WideShapes Go.ChangeAt Go.RowKit

set_option maxHeartbeats 20000000 in
theorem forwardQuiet_closed : joinedFacts Tryz.pinned.checked.prog 5 Tryz.f5 Rows.forwardQuietSpec Rows.forwardQuietRow = true := by
  unfold joinedFacts
  simp only [Bool.and_eq_true]
  repeat' (apply And.intro)
  all_goals (as_aux_lemma => kernel_rfl)

theorem forwardQuiet_row : Rows.ForwardQuietSaid :=
  OpenClaim.holds_of_wide 5 Tryz.f5 rfl rfl rfl rfl rfl rfl rfl ⟨rfl, rfl, rfl, rfl, rfl⟩ rfl rfl rfl rfl rfl (by as_aux_lemma => kernel_rfl) Tryz.func5 forwardQuiet_closed
    (of_decide_eq_true (by as_aux_lemma => kernel_rfl)) (by unfold Func.isWrapper; first | (rw [if_pos (by decide +kernel)]; kernel_rfl) | (rw [if_neg (by decide +kernel)]; exact ⟨rfl, rfl⟩))
    (fun os started H enc _ => forwardQuiet_lifted os started H enc)

end Go.Proofs.YtlcndmciognneaaGreatDoor
