/-
  An empty slice is one that is only read.
-/
import Derived.Test.YtoijkcnefnmbjaaU20
namespace Go.Proofs.Ytoijkcnefnmbjaa
open Go.RowKit
theorem Rep.nil_isl {X : Nat → Prop} {w : World} {φ : Em} {v : Value} (h : Rep X w φ v .nils) : Rep X w φ v (.isl [] 0) := by
  cases h
  exact .isl0 _ _
section
variable {P : Program} {k n m : Nat} {T : Tp} {H : Hp} {K : Exit → Nat → Tp → Hp → Prop} {c : Code}
theorem W.nilt {t : Nat} (ht : T t = some .nils) (h : W P k n c m (up T t (some (.isl [] 0))) H K) : W P k n c m T H K := by
  obtain ⟨e, m2, T2, H2, h1, h2⟩ := h
  refine ⟨e, m2, T2, H2, h1, fun B hB a w hs => h2 B hB a w ?_⟩
  obtain ⟨h0, X, φ, g1, g2, g3, g4, g5, g6⟩ := hs
  exact ⟨h0, X, φ, g1, g2, g3, g4, all_up (p := fun t v => Rep X w φ (a.tmps.getD t undef) v) (g5 t _ ht).nil_isl g5, g6⟩
theorem W.nilc {q j : Nat} {qs qs' : List AV} (hq : H q = some qs) (hj : qs[j]? = some .nils) (hs : Sp qs j [.isl [] 0] qs') (h : W P k n c m T (up H q (some qs')) K) : W P k n c m T H K := by
  obtain ⟨e, m2, T2, H2, h1, h2⟩ := h
  refine ⟨e, m2, T2, H2, h1, fun B hB a w hsim => h2 B hB a w ?_⟩
  obtain ⟨h0, X, φ, g1, g2, g3, g4, g5, g6⟩ := hsim
  have hup : ∀ r' c', up H q (some qs') r' = some c' → ∃ c0, H r' = some c0 := fun r' c' h => by
    by_cases e : r' = q
    · subst e; exact ⟨qs, hq⟩
    · rw [up_ne e] at h; exact ⟨c', h⟩
  refine ⟨h0, X, φ, { g1 with lv := fun r' c' b o j1 j2 => by obtain ⟨c0, j3⟩ := hup r' c' j1; exact g1.lv r' c0 b o j3 j2 }, g2, g3, ⟨fun r' c' hr' => ?_, fun r1 r2 c1 c2 b o1 o2 j1 j2 j3 j4 => ?_⟩, g5, g6⟩
  · by_cases e : r' = q
    · subst e
      rw [up_at] at hr'
      injection hr' with hr'
      subst hr'
      obtain ⟨k1, k2⟩ | ⟨b, o, c1, el, k1, k2, k3, k4⟩ := g4.1 r' qs hq
      · rw [k1] at hj; simp at hj
      · refine .inr ⟨b, o, c1, el, k1, k2, k3, fun j' a' hj' => ?_⟩
        rcases hs.2.2 j' a' hj' with ⟨j1, j2⟩ | ⟨_, j2⟩
        · have e1 : j' - j = 0 := by have := (List.getElem?_eq_some_iff.1 j2).1; simp at this; omega
          have e2 : j' = j := by omega
          rw [e1] at j2
          simp at j2
          subst e2 j2
          obtain ⟨_, u, k5, k6⟩ := k4 j' _ hj
          exact ⟨rfl, u, k5, k6.nil_isl⟩
        · exact k4 j' a' j2
    · rw [up_ne e] at hr'; exact g4.1 r' c' hr'
  · obtain ⟨d1, l1⟩ := hup r1 c1 j1
    obtain ⟨d2, l2⟩ := hup r2 c2 j2
    exact g4.2 r1 r2 d1 d2 b o1 o2 l1 l2 j3 j4
end
end Go.Proofs.Ytoijkcnefnmbjaa
