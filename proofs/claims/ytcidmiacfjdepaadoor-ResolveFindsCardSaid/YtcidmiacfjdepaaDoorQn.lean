/-
  Numbers from the list: a number of a range, an address.
-/
import Derived.Test.YtcidmiacfjdepaaDoorQm
import Derived.Test.YtcidmiacfjdepaaDoorDk
namespace Go.Proofs.YtcidmiacfjdepaaDoor
open Go.RowKit
theorem nextV_bd (l : List Int) (at_ : Nat) (n : Int) (hn : 1 ≤ n) : 0 ≤ nextV l at_ n ∧ nextV l at_ n < n := by
  unfold nextV
  split
  · exact ⟨Int.emod_nonneg _ (by omega), Int.emod_lt_of_pos _ (by omega)⟩
  · omega
theorem nextN (l : List Int) (at_ : Nat) (n : Nat) (hn : 1 ≤ n) : ∃ k : Nat, nextV l at_ n = (k : Int) ∧ k < n := by
  have h := nextV_bd l at_ n (by omega)
  exact ⟨(nextV l at_ n).toNat, by omega, by omega⟩
theorem u64w (x : Int) : U64 (IntKind.u64.wrap x) := by unfold U64; rw [IntKind.wrap_u64]; omega
def four5 : List Int := [0, 1, 4294967295, 2147483647, 2147483648]
def six4 : List Int := [0, 1, 18446744073709551615, 9223372036854775808]
theorem f5_at {r : Nat} (h : r < 5) : ∃ y : Int, (0 ≤ y ∧ y < 4294967296) ∧ ((four5.map fun z => AV.base (.int .u64 z)) : List AV)[0 + r * 1]? = some (.base (.int .u64 y)) := by
  match r, h with
  | 0, _ => exact ⟨_, by decide, rfl⟩
  | 1, _ => exact ⟨_, by decide, rfl⟩
  | 2, _ => exact ⟨_, by decide, rfl⟩
  | 3, _ => exact ⟨_, by decide, rfl⟩
  | 4, _ => exact ⟨_, by decide, rfl⟩
theorem s4_at {r : Nat} (h : r < 4) : ∃ y : Int, U64 y ∧ ((six4.map fun z => AV.base (.int .u64 z)) : List AV)[0 + r * 1]? = some (.base (.int .u64 y)) := by
  match r, h with
  | 0, _ => exact ⟨_, ⟨by decide, by decide⟩, rfl⟩
  | 1, _ => exact ⟨_, ⟨by decide, by decide⟩, rfl⟩
  | 2, _ => exact ⟨_, ⟨by decide, by decide⟩, rfl⟩
  | 3, _ => exact ⟨_, ⟨by decide, by decide⟩, rfl⟩
theorem v4_lo {x : Int} (h : 0 ≤ x ∧ x < 4294967296) : validA false 0 x = true ∧ U64 0 ∧ U64 x := by
  refine ⟨?_, ⟨by decide, by decide⟩, ?_, ?_⟩
  · unfold validA; simp; omega
  · omega
  · omega
end Go.Proofs.YtcidmiacfjdepaaDoor
