/-
  Lists of numbers, lists of lists, stations, as they come in.
-/
import Derived.Test.YthbdngfnbpkefaaMab
import Derived.Test.YthbdngfnbpkefaaIb
import Derived.Test.YthbdngfnbpkefaaLw
namespace Go.Proofs.Ythbdngfnbpkefaa
open Go.ChangeShapes Go.WideShapes Go.ChangeAt Go.RowKit
section
variable {H : Type} {enc : TypeId × Value → H}
theorem opInt : Opens enc Try.prog 3 (fun (z : Int) => [.base (.int .i64 z)]) (fun z => (Lit.int .i64 z).wf = true) := .int Try.underlying3
theorem opU8 : Opens enc Try.prog 5 (fun (z : Int) => [.base (.int .u8 z)]) (fun z => 0 ≤ z ∧ z ≤ 255) := (Opens.int Try.underlying5).map id (fun _ _ => rfl) (fun _ h => bounds_u8 h)
theorem opInts : Opens enc Try.prog 26 (fun (l : List Int) => [.isl (intsC l) l.length]) (fun l => l.length ≤ 9223372036854775807) :=
  (Opens.slice (n := 1) Try.underlying26 opInt (by kernel_rfl) (by decide) (fun _ _ => rfl)).map id (fun l _ => by unfold intsC; rw [List.map_eq_flatMap]; rfl) (fun l h => by have := h.1; unfold maxLen at this; simp only [id]; omega)
theorem opMac : Opens enc Try.prog 42 (fun (l : List Int) => bytesC l) (fun l => l.length = 6 ∧ IsBy l) :=
  (Opens.array (n := 6) (m := 1) Try.underlying42 (by kernel_rfl) (by kernel_rfl) opU8).map id (fun l _ => by unfold bytesC; rw [List.map_eq_flatMap]; rfl) (fun l h => ⟨h.1, h.2⟩)
theorem opIntss : Opens enc Try.prog 60 (fun (l : List (List Int)) => [.isl (l.map fun x => .isl (intsC x) x.length) l.length]) (fun l => l.length ≤ 9223372036854775807 ∧ ∀ x ∈ l, x.length ≤ 9223372036854775807) :=
  (Opens.slice (n := 1) Try.underlying60 opInts (by kernel_rfl) (by decide) (fun _ _ => rfl)).map id (fun l _ => by rw [List.map_eq_flatMap]; rfl) (fun l h => ⟨by have := h.1; unfold maxLen at this; simp only [id]; omega, h.2⟩)
end
end Go.Proofs.Ythbdngfnbpkefaa
