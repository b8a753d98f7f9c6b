/-
  A member's filter is exact: a prefix is permitted for a member exactly if it is covered by an object, long enough for it, of one of the AS numbers that the member's set leads to or of its own, and this AS is the origin; and longer or uncovered ones are refused with their reason: for every input, no condition; the listed variables are tied to the program's text.
-/
import Derived.Test.YtndbhhgmpjjjhaaGreatDoorPTopRegisteredA
namespace Go.Proofs.YtndbhhgmpjjjhaaGreatDoor
open Go.ChangeShapes Go.WideShapes Go.ChangeAt Go.RowKit

set_option maxHeartbeats 20000000 in
theorem topRegistered_closed : joinedFacts Tryz.pinned.checked.prog 4 Tryz.f4 Rows.topRegisteredSpec Rows.topRegisteredRow = true := by
  unfold joinedFacts
  simp only [Bool.and_eq_true]
  repeat' (apply And.intro)
  all_goals (as_aux_lemma => kernel_rfl)

theorem topRegistered_row : Rows.TopRegisteredSaid :=
  OpenClaim.holds_of_wide 4 Tryz.f4 rfl rfl rfl rfl rfl rfl rfl ⟨rfl, rfl, rfl, rfl, rfl⟩ rfl rfl rfl rfl rfl (by as_aux_lemma => kernel_rfl) Tryz.func4 topRegistered_closed
    (of_decide_eq_true (by as_aux_lemma => kernel_rfl)) (by unfold Func.isWrapper; first | (rw [if_pos (by decide +kernel)]; kernel_rfl) | (rw [if_neg (by decide +kernel)]; exact ⟨rfl, rfl⟩))
    (fun os started H enc _ => topRegistered_lifted os started H enc)

end Go.Proofs.YtndbhhgmpjjjhaaGreatDoor
