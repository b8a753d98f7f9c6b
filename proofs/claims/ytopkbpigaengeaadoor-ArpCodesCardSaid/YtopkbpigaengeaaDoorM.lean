/-
  The check sum of data between two addresses, as the program makes it: one region with five rows of bytes.
-/
import Derived.Test.YtopkbpigaengeaaDoorJ
import Derived.Test.YtopkbpigaengeaaDoorSep
namespace Go.Proofs.YtopkbpigaengeaaDoor
open Go.RowKit

section
variable {P : Program} {a0 : Act} {SP : List OpSpec} {ds : List Tmp} {base : Nat} {W0 : World} {i : Nat} {o : Oper}
theorem StepS.mk (s0 : OpSpec) (hs0 : SP[i]? = some s0) (h : ∀ (r : Operand → Value) (w : World), Below base W0 w → base ≤ w.heap.size → (∀ v, r (.const v) = v) → ((∀ f, r (.func f) = .func (.func f) #[] #[]) ∧ ∀ g, r (.global g) = .pointer (some ⟨g, 0, none⟩)) →
    (∀ t, ds.contains t = false → r (.tmp t) = a0.eval (.tmp t)) → KnownS SP ds base s0.eats r w o.after.toList →
    ∀ K : Value → World → Prop, (∀ x w', PostS ds base s0 r w x w' → K x w') → OpV P o r w K) : StepS P a0 SP ds base W0 i o := by
  intro r w s hs
  rw [hs0] at hs
  injection hs with hs
  subst hs
  exact h r w
theorem post_is {v : Value} {r : Operand → Value} {w : World} : PostS ds base (isV v) r w v w := ⟨Below.refl _ _, rfl, trivial⟩
theorem post_row {xs : List Int} {r : Operand → Value} {w w' : World} {x : Value} (h : Below w.heap.size w w') (hr : w'.ownsRow w.heap.size 5 1 x xs.length (bytesV xs)) : PostS ds base (rowV xs) r w x w' := ⟨h, RowAt.form hr, hr⟩
theorem post_eat {c : Nat} {t : Tmp} {xs : List Int} {r : Operand → Value} {w w' : World} {x : Value} (hc : ds[c]? = some t) (hg : w.grownBy w' (r (.tmp t)).ownBlock)
    (hb : x.ownBlock = (r (.tmp t)).ownBlock ∨ ∀ k, x.ownBlock = some k → w.heap.size ≤ k) (hr : w'.ownsRow base 5 1 x xs.length (bytesV xs)) : PostS ds base (eatV c xs) r w x w' := by
  unfold PostS
  simp only [eatV, hc]
  exact ⟨hg, RowAt.form hr, hb, hr⟩
/-- a row of constants and numbers that was just laid -/
theorem new_row_u8 (w : World) (xs : List Int) (n : Nat) (hn : xs.length = n) (hm : n ≤ 1000000) : (w.alloc (.cells (bytesV xs).toArray 5)).ownsRow w.heap.size 5 1 (.slice (some ⟨w.heap.size, 0, none⟩) n n) xs.length (bytesV xs) := by
  subst hn
  refine ⟨by simp [bytesV], .inr ⟨w.heap.size, xs.length, (bytesV xs).toArray, rfl, Nat.le_refl _, heap_alloc_new w _, Nat.le_refl _, by unfold maxLen; omega, by simp [bytesV], ?_⟩⟩
  rw [Nat.mul_one]
  exact List.take_of_length_le (by simp [bytesV])
theorem RowAt.reads {base : Nat} {w : World} {v : Value} {xs : List Int} (h : RowAt base w v xs) (n : Nat) (hn : xs.length = n) : ∃ A c, v = .slice A n c ∧ Reads w w.heap.size 1 A n (bytesV xs) := by
  subst hn
  obtain ⟨A, c, rfl⟩ := h.form
  exact ⟨A, c, rfl, Reads.of_own h⟩
end

end Go.Proofs.YtopkbpigaengeaaDoor
