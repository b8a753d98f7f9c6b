/-
  Addresses, messages, bytes, packets, as they come in.
-/
import Derived.Test.YtoijkcnefnmbjaaOpn
namespace Go.Proofs.Ytoijkcnefnmbjaa
open Go.ChangeShapes Go.WideShapes Go.ChangeAt Go.RowKit
section
variable {H : Type} {enc : TypeId × Value → H}
theorem opU8 : Opens enc Try.prog 5 (fun (z : Int) => [.base (.int .u8 z)]) (fun z => 0 ≤ z ∧ z ≤ 255) := (Opens.int Try.underlying5).map id (fun _ _ => rfl) (fun _ h => by have := bounds_u8 h; simp only [id]; omega)
theorem opU64 : Opens enc Try.prog 22 (fun (z : Int) => [.base (.int .u64 z)]) U64 := (Opens.int Try.underlying22).map id (fun _ _ => rfl) (fun _ h => by have := bounds_u64 h; unfold U64; simp only [id]; omega)
theorem opMac : Opens enc Try.prog 50 (fun (l : List Int) => bytesC l) (fun l => l.length = 6 ∧ IsB l) :=
  (Opens.array (n := 6) (m := 1) Try.underlying50 (by kernel_rfl) (by kernel_rfl) opU8).map id (fun l _ => by unfold bytesC; rw [List.map_eq_flatMap]; rfl) (fun l h => ⟨h.1, h.2⟩)
theorem opBytes : Opens enc Try.prog 25 (fun (l : List Int) => [.isl (bytesC l) l.length]) (fun l => IsB l) :=
  (Opens.slice (n := 1) Try.underlying25 opU8 (by kernel_rfl) (by decide) (fun _ _ => rfl)).map id (fun l _ => by unfold bytesC; rw [List.map_eq_flatMap]; rfl) (fun l h => h.2)
theorem opAd : Opens enc Try.prog 24 adC GoodA :=
  (Opens.struct (fs := [_, _, _]) (total := 3) Try.underlying24 (by kernel_rfl) (OpensFs.cons (n := 1) (Opens.bool Try.underlying4) rfl (by kernel_rfl) (OpensFs.cons (n := 1) opU64 rfl (by kernel_rfl) (OpensFs.cons (n := 1) opU64 rfl (by kernel_rfl) (OpensFs.nil rfl))))).map
    (fun z => (⟨z.1, z.2.1, z.2.2.1⟩ : Ad)) (fun _ _ => rfl) (fun _ h => ⟨h.2.1, h.2.2.1⟩)
theorem opNb : Opens enc Try.prog 52 nbC GoodN :=
  (Opens.struct (fs := [_, _, _, _, _]) (total := 12) Try.underlying52 (by kernel_rfl) (OpensFs.cons (n := 1) opInt rfl (by kernel_rfl) (OpensFs.cons (n := 1) opInt rfl (by kernel_rfl) (OpensFs.cons (n := 3) opAd rfl (by kernel_rfl) (OpensFs.cons (n := 1) (Opens.bool Try.underlying4) rfl (by kernel_rfl) (OpensFs.cons (n := 6) opMac rfl (by kernel_rfl) (OpensFs.nil rfl))))))).map
    (fun z => (⟨z.1, z.2.1, z.2.2.1, z.2.2.2.1, z.2.2.2.2.1⟩ : Nb)) (fun z _ => by simp [nbC]) (fun _ h => ⟨h.2.2.2.2.1, h.2.2.1⟩)
end
end Go.Proofs.Ytoijkcnefnmbjaa
