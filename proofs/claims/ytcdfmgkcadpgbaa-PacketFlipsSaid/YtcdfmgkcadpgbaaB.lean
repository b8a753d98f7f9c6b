/-
  The sanity check of the statements on packets.
-/
import Derived.Test.YtcdfmgkcadpgbaaA
namespace Go.Proofs.Ytcdfmgkcadpgbaa
open Go.RowKit

set_option maxHeartbeats 400000 in
theorem awake_any (w : World) :
    Calls Try.prog 10 #[] w fun e w' => e = .returned (.bool true) ∧ Below w.heap.size w w' := by
  have hs1 : (sumL [0, 1, 242, 3, 244, 245, 246, 247] == 8717) = true := by decide
  have hs2 : (sumL [] == 65535) = true := by decide
  go_enter Try.func10, Try.ntmps10
  go_wp2_with fail
  refine (sum_any _ _ _ (w.heap.size + 1) [0, 1, 242, 3, 244, 245, 246, 247] _ (by omega) (by unfold IsB; decide) (reads_new w 5 (bytesV [0, 1, 242, 3, 244, 245, 246, 247]) 1 8 rfl)).mono ?_
  rintro e w' ⟨rfl, rfl⟩
  go_wp2_with fail
  refine (sum_any _ _ _ 0 [] _ (by omega) (by unfold IsB; decide) Reads.none_).mono ?_
  rintro e w' ⟨rfl, rfl⟩
  go_wp2
  go_ret
  exact ⟨rfl, (Below.refl _ _).alloc (Nat.le_refl _) _⟩

end Go.Proofs.Ytcdfmgkcadpgbaa
