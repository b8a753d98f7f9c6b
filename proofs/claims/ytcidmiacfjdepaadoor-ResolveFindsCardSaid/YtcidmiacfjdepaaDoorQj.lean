/-
  The packet with a message, by the program.
-/
import Derived.Test.YtcidmiacfjdepaaDoorQi
import Derived.Test.YtcidmiacfjdepaaDoorMab
namespace Go.Proofs.YtcidmiacfjdepaaDoor
open Go.RowKit
theorem by_sp2 {l : List Int} {k : Nat} {v : Int} (h : k < l.length) : Sp (bytesC l) (0 + k) [.base (.int .u8 v)] (bytesC (l.set k v)) := by
  have := by_sp (v := v) h
  rwa [Nat.mul_one] at this
theorem nbC_pure (n : Nb) : (nbC n).all AV.pure1 = true := by
  unfold nbC adC
  rw [List.all_append, bytesC_pure]; rfl
theorem tk_len {cs : List AV} {n : Nat} (h : cs.length = n * 1) : Tk cs 0 (n * 1) cs := by rw [← h]; exact Tk.all cs
theorem sumL2_len (c : Int) (l : List Int) : (sumL2 c l).length = l.length := by simp [sumL2]
/-- what a message is encoded to -/
def encV (n : Nb) (s d : Ad) : AV := .tup [.agg (pkC (if okN n s d then encN n s d else zPk)), .base (.int .i64 (if okN n s d then 0 else 1))]
end Go.Proofs.YtcidmiacfjdepaaDoor
