/-
  The verdict on frames of a port, right ones, wrong ones, and changed ones: for every input, no condition; the listed variables are tied to the program's text.
-/
import Derived.Test.YtlcndmciognneaaGreatDoorPGuardChecksA
namespace Go.Proofs.YtlcndmciognneaaGreatDoor
open Go.ChangeShapes Go.WideShapes Go.ChangeAt Go.RowKit

set_option maxHeartbeats 20000000 in
theorem guardChecks_closed : joinedFacts Tryz.pinned.checked.prog 7 Tryz.f7 Rows.guardChecksSpec Rows.guardChecksRow = true := by
  unfold joinedFacts
  simp only [Bool.and_eq_true]
  repeat' (apply And.intro)
  all_goals (as_aux_lemma => kernel_rfl)

theorem guardChecks_row : Rows.GuardChecksSaid :=
  OpenClaim.holds_of_wide 7 Tryz.f7 rfl rfl rfl rfl rfl rfl rfl ⟨rfl, rfl, rfl, rfl, rfl⟩ rfl rfl rfl rfl rfl (by as_aux_lemma => kernel_rfl) Tryz.func7 guardChecks_closed
    (of_decide_eq_true (by as_aux_lemma => kernel_rfl)) (by unfold Func.isWrapper; first | (rw [if_pos (by decide +kernel)]; kernel_rfl) | (rw [if_neg (by decide +kernel)]; exact ⟨rfl, rfl⟩))
    (fun os started H enc _ => guardChecks_lifted os started H enc)

end Go.Proofs.YtlcndmciognneaaGreatDoor
