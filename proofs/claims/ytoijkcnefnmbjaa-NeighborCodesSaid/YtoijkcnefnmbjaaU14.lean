/-
  Branches that meet again: what follows is walked once.
-/
import Derived.Test.YtoijkcnefnmbjaaU13
namespace Go.Proofs.Ytoijkcnefnmbjaa
open Go.RowKit
section
variable {P : Program} {k n m : Nat} {T : Tp} {H : Hp} {K : Exit → Nat → Tp → Hp → Prop}
/-- whatever follows can be walked from one of the common shapes -/
def Joins (P : Program) (k n : Nat) {α : Type} (M : Nat) (T' : α → Tp) (H' : α → Hp) (A : α → Prop) (m : Nat) (T : Tp) (H : Hp) : Prop := ∀ (y : Code) (K : Exit → Nat → Tp → Hp → Prop), (∀ a, A a → W P k n y M (T' a) (H' a) K) → W P k n y m T H K
theorem W.seqJ {x y : Code} {α : Type} (M : Nat) (T' : α → Tp) (H' : α → Hp) (A : α → Prop)
    (h1 : W P k n x m T H (thenK (fun m T H => Joins P k n M T' H' A m T H) K)) (h2 : ∀ a, A a → W P k n y M (T' a) (H' a) K) : W P k n (.seq x y) m T H K := by
  refine W.seq (h1.mono fun e m T H h => ?_)
  cases e with
  | normal => exact h y K h2
  | _ => exact h
end
end Go.Proofs.Ytoijkcnefnmbjaa
