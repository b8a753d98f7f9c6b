/-
  Lists of numbers, as they come in.
-/
import Derived.Test.YtbjfaepjpmogjaaDoorLy
namespace Go.Proofs.YtbjfaepjpmogjaaDoor
open Go.ChangeShapes Go.WideShapes Go.ChangeAt Go.RowKit
section
variable {H : Type} {enc : TypeId × Value → H}
theorem opInt : Opens enc Tryd.prog 3 (fun (z : Int) => [.base (.int .i64 z)]) (fun z => (Lit.int .i64 z).wf = true) := .int Tryd.underlying3
theorem opInts : Opens enc Tryd.prog 23 (fun (l : List Int) => [.isl (intsC l) l.length]) (fun l => l.length ≤ 9223372036854775807) :=
  (Opens.slice (n := 1) Tryd.underlying23 opInt (by kernel_rfl) (by decide) (fun _ _ => rfl)).map id (fun l _ => by unfold intsC; rw [List.map_eq_flatMap]; rfl) (fun l h => by have := h.1; unfold maxLen at this; simp only [id]; omega)
end
end Go.Proofs.YtbjfaepjpmogjaaDoor
