/-
  A payload stands exactly where a signed object, in its days, backed by a certificate of the chain, lists it: for every input, no condition; the listed variables are tied to the program's text.
-/
import Derived.Test.YtbfnfgpjgdbmeaaGreatDoorPTopHoldersA
namespace Go.Proofs.YtbfnfgpjgdbmeaaGreatDoor
open Go.ChangeShapes Go.WideShapes Go.ChangeAt Go.RowKit

set_option maxHeartbeats 20000000 in
theorem topHolders_closed : joinedFacts Tryz.pinned.checked.prog 3 Tryz.f3 Rows.topHoldersSpec Rows.topHoldersRow = true := by
  unfold joinedFacts
  simp only [Bool.and_eq_true]
  repeat' (apply And.intro)
  all_goals (as_aux_lemma => kernel_rfl)

theorem topHolders_row : Rows.TopHoldersSaid :=
  OpenClaim.holds_of_wide 3 Tryz.f3 rfl rfl rfl rfl rfl rfl rfl ⟨rfl, rfl, rfl, rfl, rfl⟩ rfl rfl rfl rfl rfl (by as_aux_lemma => kernel_rfl) Tryz.func3 topHolders_closed
    (of_decide_eq_true (by as_aux_lemma => kernel_rfl)) (by unfold Func.isWrapper; first | (rw [if_pos (by decide +kernel)]; kernel_rfl) | (rw [if_neg (by decide +kernel)]; exact ⟨rfl, rfl⟩))
    (fun os started H enc _ => topHolders_lifted os started H enc)

end Go.Proofs.YtbfnfgpjgdbmeaaGreatDoor
