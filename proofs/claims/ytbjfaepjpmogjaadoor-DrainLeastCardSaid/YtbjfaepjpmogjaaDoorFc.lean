/-
  Failed, cuts of both texts, comparing lists of numbers.
-/
import Derived.Test.YtbjfaepjpmogjaaDoorFp
namespace Go.Proofs.YtbjfaepjpmogjaaDoor
open Go.RowKit

theorem bools_tk {l : List Bool} {n : Nat} (h : l.length = n) : Tk (boolsC l) 0 (n * 1) (boolsC l) := by
  have := Tk.all (boolsC l)
  have e : (boolsC l).length = n * 1 := by simp [boolsC, h]
  rwa [e] at this
theorem bs_at {l : List Bool} {x : Int} {b : Bool} (h0 : 0 ≤ x) (h1 : x < l.length) : Sp (boolsC l) (0 + x.toNat * 1) [.base (.bool b)] (boolsC (l.set x.toNat b)) := by
  have := Sp.set (boolsC l) x.toNat (.base (.bool b)) (by simp [boolsC]; omega)
  rw [show boolsC (l.set x.toNat b) = (boolsC l).set x.toNat (.base (.bool b)) from by simp [boolsC, List.map_set]]
  rwa [show 0 + x.toNat * 1 = x.toNat from by omega]
end Go.Proofs.YtbjfaepjpmogjaaDoor
