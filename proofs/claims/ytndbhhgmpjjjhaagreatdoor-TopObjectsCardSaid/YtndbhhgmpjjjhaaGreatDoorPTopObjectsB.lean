/-
  What objects permit for an AS number is what a table of prefixes says: of the objects that cover a prefix, the greatest Max decides: for every input, no condition; the listed variables are tied to the program's text.
-/
import Derived.Test.YtndbhhgmpjjjhaaGreatDoorPTopObjectsA
namespace Go.Proofs.YtndbhhgmpjjjhaaGreatDoor
open Go.ChangeShapes Go.WideShapes Go.ChangeAt Go.RowKit

set_option maxHeartbeats 20000000 in
theorem topObjects_closed : joinedFacts Tryz.pinned.checked.prog 3 Tryz.f3 Rows.topObjectsSpec Rows.topObjectsRow = true := by
  unfold joinedFacts
  simp only [Bool.and_eq_true]
  repeat' (apply And.intro)
  all_goals (as_aux_lemma => kernel_rfl)

theorem topObjects_row : Rows.TopObjectsSaid :=
  OpenClaim.holds_of_wide 3 Tryz.f3 rfl rfl rfl rfl rfl rfl rfl ⟨rfl, rfl, rfl, rfl, rfl⟩ rfl rfl rfl rfl rfl (by as_aux_lemma => kernel_rfl) Tryz.func3 topObjects_closed
    (of_decide_eq_true (by as_aux_lemma => kernel_rfl)) (by unfold Func.isWrapper; first | (rw [if_pos (by decide +kernel)]; kernel_rfl) | (rw [if_neg (by decide +kernel)]; exact ⟨rfl, rfl⟩))
    (fun os started H enc _ => topObjects_lifted os started H enc)

end Go.Proofs.YtndbhhgmpjjjhaaGreatDoor
