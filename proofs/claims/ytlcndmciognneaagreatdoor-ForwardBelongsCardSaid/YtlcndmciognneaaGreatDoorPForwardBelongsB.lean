/-
  A frame sent from a port is delivered only as its own: for every input, no condition; the listed variable is tied to the program's text.
-/
import Derived.Test.YtlcndmciognneaaGreatDoorPForwardBelongsA
namespace Go.Proofs.YtlcndmciognneaaGreatDoor
open Go.ChangeShapes Go.WideShapes Go.ChangeAt Go.RowKit

set_option maxHeartbeats 20000000 in
theorem forwardBelongs_closed : joinedFacts Tryz.pinned.checked.prog 4 Tryz.f4 Rows.forwardBelongsSpec Rows.forwardBelongsRow = true := by
  unfold joinedFacts
  simp only [Bool.and_eq_true]
  repeat' (apply And.intro)
  all_goals (as_aux_lemma => kernel_rfl)

theorem forwardBelongs_row : Rows.ForwardBelongsSaid :=
  OpenClaim.holds_of_wide 4 Tryz.f4 rfl rfl rfl rfl rfl rfl rfl ⟨rfl, rfl, rfl, rfl, rfl⟩ rfl rfl rfl rfl rfl (by as_aux_lemma => kernel_rfl) Tryz.func4 forwardBelongs_closed
    (of_decide_eq_true (by as_aux_lemma => kernel_rfl)) (by unfold Func.isWrapper; first | (rw [if_pos (by decide +kernel)]; kernel_rfl) | (rw [if_neg (by decide +kernel)]; exact ⟨rfl, rfl⟩))
    (fun os started H enc _ => forwardBelongs_lifted os started H enc)

end Go.Proofs.YtlcndmciognneaaGreatDoor
