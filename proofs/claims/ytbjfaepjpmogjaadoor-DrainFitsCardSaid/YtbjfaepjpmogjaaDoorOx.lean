/-
  Items, loads and fabrics, as they come in.
-/
import Derived.Test.YtbjfaepjpmogjaaDoorOw
namespace Go.Proofs.YtbjfaepjpmogjaaDoor
open Go.ChangeShapes Go.WideShapes Go.ChangeAt Go.RowKit
section
variable {H : Type} {enc : TypeId × Value → H}
theorem opIt : Opens enc Tryd.prog 45 itC (fun _ => True) :=
  (Opens.struct (fs := [_, _]) (total := 2) Tryd.underlying45 (by kernel_rfl) (OpensFs.cons (n := 1) (Opens.bool Tryd.underlying4) rfl (by kernel_rfl) (OpensFs.cons (n := 1) opInt rfl (by kernel_rfl) (OpensFs.nil rfl)))).map
    (fun z => (⟨z.1, z.2.1⟩ : Itm)) (fun _ _ => rfl) (fun _ _ => trivial)
theorem opIts : Opens enc Tryd.prog 22 (fun (l : List Itm) => [.isl (itsC l) l.length]) (fun l => l.length ≤ 9223372036854775807) :=
  (Opens.slice (n := 2) Tryd.underlying22 opIt (by kernel_rfl) (by decide) (fun _ _ => rfl)).map id (fun l _ => rfl) (fun l h => by have := h.1; unfold maxLen at this; simp only [id]; omega)
theorem opLd : Opens enc Tryd.prog 51 ldC (fun _ => True) :=
  (Opens.struct (fs := [_, _, _]) (total := 3) Tryd.underlying51 (by kernel_rfl) (OpensFs.cons (n := 1) opInt rfl (by kernel_rfl) (OpensFs.cons (n := 1) opInt rfl (by kernel_rfl) (OpensFs.cons (n := 1) opInt rfl (by kernel_rfl) (OpensFs.nil rfl))))).map
    (fun z => (⟨z.1, z.2.1, z.2.2.1⟩ : Ld)) (fun _ _ => rfl) (fun _ _ => trivial)
theorem opLds : Opens enc Tryd.prog 29 (fun (l : List Ld) => [.isl (ldsC l) l.length]) (fun l => l.length ≤ 9223372036854775807) :=
  (Opens.slice (n := 3) Tryd.underlying29 opLd (by kernel_rfl) (by decide) (fun _ _ => rfl)).map id (fun l _ => rfl) (fun l h => by have := h.1; unfold maxLen at this; simp only [id]; omega)
theorem opLnk : Opens enc Tryd.prog 56 lnkC (fun _ => True) :=
  (Opens.struct (fs := [_, _, _]) (total := 3) Tryd.underlying56 (by kernel_rfl) (OpensFs.cons (n := 1) opInt rfl (by kernel_rfl) (OpensFs.cons (n := 1) opInt rfl (by kernel_rfl) (OpensFs.cons (n := 1) opInt rfl (by kernel_rfl) (OpensFs.nil rfl))))).map
    (fun z => (⟨z.1, z.2.1, z.2.2.1⟩ : Lnk)) (fun _ _ => rfl) (fun _ _ => trivial)
theorem opLnks : Opens enc Tryd.prog 25 (fun (l : List Lnk) => [.isl (lnksC l) l.length]) (fun l => l.length ≤ 9223372036854775807) :=
  (Opens.slice (n := 3) Tryd.underlying25 opLnk (by kernel_rfl) (by decide) (fun _ _ => rfl)).map id (fun l _ => rfl) (fun l h => by have := h.1; unfold maxLen at this; simp only [id]; omega)
theorem opBools : Opens enc Tryd.prog 26 (fun (l : List Bool) => [.isl (boolsC l) l.length]) (fun l => l.length ≤ 9223372036854775807) :=
  (Opens.slice (n := 1) Tryd.underlying26 (Opens.bool Tryd.underlying4) (by kernel_rfl) (by decide) (fun _ _ => rfl)).map id (fun l _ => by unfold boolsC; rw [List.map_eq_flatMap]; rfl) (fun l h => by have := h.1; unfold maxLen at this; simp only [id]; omega)
theorem opFab : Opens enc Tryd.prog 28 fabC (fun f => f.links.length ≤ 9223372036854775807 ∧ f.down.length ≤ 9223372036854775807 ∧ f.dead.length ≤ 9223372036854775807) :=
  (Opens.struct (fs := [_, _, _, _]) (total := 4) Tryd.underlying28 (by kernel_rfl) (OpensFs.cons (n := 1) opInt rfl (by kernel_rfl) (OpensFs.cons (n := 1) opLnks rfl (by kernel_rfl) (OpensFs.cons (n := 1) opBools rfl (by kernel_rfl) (OpensFs.cons (n := 1) opBools rfl (by kernel_rfl) (OpensFs.nil rfl)))))).map
    (fun z => (⟨z.1, z.2.1, z.2.2.1, z.2.2.2.1⟩ : Fab)) (fun _ _ => rfl) (fun _ h => ⟨h.2.1, h.2.2.1, h.2.2.2.1⟩)
end
end Go.Proofs.YtbjfaepjpmogjaaDoor
