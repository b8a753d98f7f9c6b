/-
  Packets, as they come in.
-/
import Derived.Test.YtoijkcnefnmbjaaOpm
namespace Go.Proofs.Ytoijkcnefnmbjaa
open Go.ChangeShapes Go.WideShapes Go.ChangeAt Go.RowKit
section
variable {H : Type} {enc : TypeId × Value → H}
theorem opPk : Opens enc Try.prog 27 pkC (fun p => GoodA p.s ∧ GoodA p.d ∧ IsB p.bs) :=
  (Opens.struct (fs := [_, _, _, _, _]) (total := 9) Try.underlying27 (by kernel_rfl) (OpensFs.cons (n := 3) opAd rfl (by kernel_rfl) (OpensFs.cons (n := 3) opAd rfl (by kernel_rfl) (OpensFs.cons (n := 1) opInt rfl (by kernel_rfl) (OpensFs.cons (n := 1) opInt rfl (by kernel_rfl) (OpensFs.cons (n := 1) opBytes rfl (by kernel_rfl) (OpensFs.nil rfl))))))).map
    (fun z => (⟨z.1, z.2.1, z.2.2.1, z.2.2.2.1, z.2.2.2.2.1⟩ : Pk)) (fun z _ => by simp [pkC]) (fun _ h => ⟨h.1, h.2.1, h.2.2.2.2.1⟩)
end
end Go.Proofs.Ytoijkcnefnmbjaa
