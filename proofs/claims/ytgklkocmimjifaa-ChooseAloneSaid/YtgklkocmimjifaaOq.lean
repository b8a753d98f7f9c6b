/-
  Lists of numbers, as they come in.
-/
import Derived.Test.YtgklkocmimjifaaMab
import Derived.Test.YtgklkocmimjifaaCa
import Derived.Test.YtgklkocmimjifaaLw
namespace Go.Proofs.Ytgklkocmimjifaa
open Go.ChangeShapes Go.WideShapes Go.ChangeAt Go.RowKit
section
variable {H : Type} {enc : TypeId × Value → H}
theorem opInt : Opens enc Try.prog 3 (fun (z : Int) => [.base (.int .i64 z)]) (fun z => (Lit.int .i64 z).wf = true) := .int Try.underlying3
theorem opInts : Opens enc Try.prog 22 (fun (l : List Int) => [.isl (intsC l) l.length]) (fun l => l.length ≤ 9223372036854775807) :=
  (Opens.slice (n := 1) Try.underlying22 opInt (by kernel_rfl) (by decide) (fun _ _ => rfl)).map id (fun l _ => by unfold intsC; rw [List.map_eq_flatMap]; rfl) (fun l h => by have := h.1; unfold maxLen at this; simp only [id]; omega)
end
end Go.Proofs.Ytgklkocmimjifaa
