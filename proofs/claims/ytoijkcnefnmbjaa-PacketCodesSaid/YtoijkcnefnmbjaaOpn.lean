/-
  Lists of numbers, bytes, addresses, messages, packets, as they come in.
-/
import Derived.Test.YtoijkcnefnmbjaaMab
import Derived.Test.YtoijkcnefnmbjaaQr
import Derived.Test.YtoijkcnefnmbjaaLw
namespace Go.Proofs.Ytoijkcnefnmbjaa
open Go.ChangeShapes Go.WideShapes Go.ChangeAt Go.RowKit
section
variable {H : Type} {enc : TypeId × Value → H}
theorem opInt : Opens enc Try.prog 3 (fun (z : Int) => [.base (.int .i64 z)]) (fun z => (Lit.int .i64 z).wf = true) := .int Try.underlying3
theorem opInts : Opens enc Try.prog 28 (fun (l : List Int) => [.isl (intsC l) l.length]) (fun l => l.length ≤ 9223372036854775807) :=
  (Opens.slice (n := 1) Try.underlying28 opInt (by kernel_rfl) (by decide) (fun _ _ => rfl)).map id (fun l _ => by unfold intsC; rw [List.map_eq_flatMap]; rfl) (fun l h => by have := h.1; unfold maxLen at this; simp only [id]; omega)
end
end Go.Proofs.Ytoijkcnefnmbjaa
