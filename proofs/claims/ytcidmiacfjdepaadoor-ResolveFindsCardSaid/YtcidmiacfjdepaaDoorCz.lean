/-
  Small facts on packets and bytes.
-/
import Derived.Test.YtcidmiacfjdepaaDoorQm
namespace Go.Proofs.YtcidmiacfjdepaaDoor
open Go.RowKit
theorem pkC_pure (p : Pk) : (pkC p).all AV.pure1 = true := by
  unfold pkC adC
  rfl
theorem pk_pure (p : Pk) (e : Int) : AV.pure (.tup [.agg (pkC p), .base (.int .i64 e)]) = true := by
  show (AV.pure2 (.agg (pkC p)) && true) = true
  rw [Bool.and_true]; exact pkC_pure p
theorem nbt_pure (n : Nb) (e : Int) : AV.pure (.tup [.agg (nbC n), .base (.int .i64 e)]) = true := by
  show (AV.pure2 (.agg (nbC n)) && true) = true
  rw [Bool.and_true]; exact nbC_pure n
theorem pk_tk (p : Pk) : Tk (pkC p) 0 9 (pkC p) := Tk.all (pkC p)
theorem bytesC_1 (x : Int) : bytesC [x] = [.base (.int .u8 x)] := rfl
theorem by_take {l : List Int} {k : Nat} (hk : k ≤ l.length) : Tk (bytesC l) 0 (k * 1) (bytesC (l.take k)) := by
  refine ⟨by rw [bytesC_len, List.length_take]; omega, fun j c hj => ?_⟩
  simp only [bytesC, List.map_take, List.getElem?_take] at hj
  split at hj
  · rw [Nat.zero_add]; exact hj
  · cases hj
theorem by_from {l : List Int} {k m : Nat} (h : l.length = k + m) : Tk (bytesC l) (0 + k * 1) (m * 1) (bytesC (l.drop k)) := by
  rw [Nat.zero_add]
  have := by_drop (l := l) (k := k) (n := k + m) h
  rwa [Nat.add_sub_cancel_left] at this
end Go.Proofs.YtcidmiacfjdepaaDoor
