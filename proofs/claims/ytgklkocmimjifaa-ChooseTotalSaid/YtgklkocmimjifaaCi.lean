/-
  The comparison is a total order; the best of a list is the least.
-/
import Derived.Test.YtgklkocmimjifaaCh
namespace Go.Proofs.Ytgklkocmimjifaa
open Go.RowKit
theorem sgn3_cases (a b : Int) : (a < b ∧ sgn3 a b = -1 ∧ sgn3 b a = 1) ∨ (a = b ∧ sgn3 a b = 0 ∧ sgn3 b a = 0) ∨ (b < a ∧ sgn3 a b = 1 ∧ sgn3 b a = -1) := by
  unfold sgn3
  rcases Int.lt_trichotomy a b with h | h | h
  · refine .inl ⟨h, if_pos h, ?_⟩
    rw [if_neg (by omega), if_pos h]
  · subst h
    exact .inr (.inl ⟨rfl, by simp, by simp⟩)
  · refine .inr (.inr ⟨h, ?_, if_pos h⟩)
    rw [if_neg (by omega), if_pos h]
theorem sgn3_anti (a b : Int) : sgn3 b a = -sgn3 a b := by
  rcases sgn3_cases a b with ⟨_, h1, h2⟩ | ⟨_, h1, h2⟩ | ⟨_, h1, h2⟩ <;> rw [h1, h2] <;> rfl
theorem sgn3_bd (a b : Int) : -1 ≤ sgn3 a b ∧ sgn3 a b ≤ 1 := by
  rcases sgn3_cases a b with ⟨_, h1, _⟩ | ⟨_, h1, _⟩ | ⟨_, h1, _⟩ <;> rw [h1] <;> decide
theorem sgn3_self (a : Int) : sgn3 a a = 0 := by
  rcases sgn3_cases a a with ⟨h, _⟩ | ⟨_, h, _⟩ | ⟨h, _⟩
  · omega
  · exact h
  · omega
theorem fnz_neg (l : List Int) : ∀ i, fnz (l.map fun o => -o) i = (-(fnz l i).1, (fnz l i).2) := by
  induction l with
  | nil => intro i; rfl
  | cons o l ih =>
    intro i
    rw [List.map_cons]
    unfold fnz
    by_cases h : o = 0
    · rw [if_pos h, if_pos (by omega)]; exact ih _
    · rw [if_neg h, if_neg (by omega)]
theorem fnz_bd (l : List Int) : ∀ i, (∀ o ∈ l, -1 ≤ o ∧ o ≤ 1) → -1 ≤ (fnz l i).1 ∧ (fnz l i).1 ≤ 1 := by
  induction l with
  | nil => intro i _; show (-1 : Int) ≤ 0 ∧ (0 : Int) ≤ 1; decide
  | cons o l ih =>
    intro i h
    unfold fnz
    split
    · exact ih _ fun x hx => h x (List.mem_cons_of_mem _ hx)
    · exact h o (List.mem_cons_self ..)
theorem fnz_zero (l : List Int) : ∀ i, (fnz l i).1 = 0 → ∀ o ∈ l, o = 0 := by
  induction l with
  | nil => intro i _ o ho; cases ho
  | cons x l ih =>
    intro i h o ho
    unfold fnz at h
    split at h
    · rename_i hx
      rcases List.mem_cons.1 ho with rfl | ho
      · exact hx
      · exact ih _ h o ho
    · rename_i hx; exact absurd h hx
theorem fnz_of_zero (l : List Int) : ∀ i, (∀ o ∈ l, o = 0) → fnz l i = (0, 0) := by
  induction l with
  | nil => intro i _; rfl
  | cons x l ih =>
    intro i h
    unfold fnz
    rw [if_pos (h x (List.mem_cons_self ..))]
    exact ih _ fun o ho => h o (List.mem_cons_of_mem _ ho)
theorem fnz_step (l : List Int) : ∀ i, 0 ≤ i → ((fnz l i).2 = 0 ↔ (fnz l i).1 = 0) := by
  induction l with
  | nil => intro i _; exact ⟨fun _ => rfl, fun _ => rfl⟩
  | cons x l ih =>
    intro i hi
    unfold fnz
    split
    · exact ih _ (by omega)
    · rename_i hx
      exact ⟨fun h => by have : i + 1 = 0 := h; omega, fun h => absurd h hx⟩
theorem fnz_cons1 (o : Int) (l : List Int) (i : Int) : (fnz (o :: l) i).1 = if o = 0 then (fnz l (i + 1)).1 else o := by
  show (if o = 0 then fnz l (i + 1) else (o, i + 1)).1 = _
  split <;> rfl
theorem lex_tr (X : List Int) : ∀ (Y Z : List Int) (i : Int), X.length = Y.length → Y.length = Z.length → (fnz (List.zipWith sgn3 X Y) i).1 ≤ 0 → (fnz (List.zipWith sgn3 Y Z) i).1 ≤ 0 → (fnz (List.zipWith sgn3 X Z) i).1 ≤ 0 := by
  induction X with
  | nil =>
    intro Y Z i h1 h2 _ _
    simp only [List.zipWith_nil_left]
    show (0 : Int) ≤ 0
    decide
  | cons x X ih =>
    intro Y Z i h1 h2 h3 h4
    match Y, Z, h1, h2, h3, h4 with
    | y :: Y, z :: Z, h1, h2, h3, h4 =>
      rw [List.zipWith_cons_cons, fnz_cons1] at h3 h4 ⊢
      rcases sgn3_cases x y with ⟨a1, a2, _⟩ | ⟨a1, a2, _⟩ | ⟨a1, a2, _⟩ <;> rcases sgn3_cases y z with ⟨b1, b2, _⟩ | ⟨b1, b2, _⟩ | ⟨b1, b2, _⟩ <;> rcases sgn3_cases x z with ⟨c1, c2, _⟩ | ⟨c1, c2, _⟩ | ⟨c1, c2, _⟩ <;> rw [a2] at h3 <;> rw [b2] at h4 <;> rw [c2] <;>
        first
        | omega
        | (rw [if_pos rfl] at h3 h4 ⊢; exact ih Y Z (i + 1) (by simpa using h1) (by simpa using h2) h3 h4)
        | (rw [if_neg (by decide)]; decide)
        | (rw [if_neg (by decide)] at h3; exact absurd h3 (by decide))
        | (rw [if_neg (by decide)] at h4; exact absurd h4 (by decide))
theorem ords_swap (p : Po) (a b : Rt) : ords p b a = (ords p a b).map fun o => -o := by
  unfold ords
  simp only [List.map_cons, List.map_nil]
  rw [sgn3_anti (valP p.pr b.from_), sgn3_anti (lenP a.a.path), sgn3_anti (orgF a.a.org), sgn3_anti (medF a.a.med), sgn3_anti a.from_]
theorem cmp_swap (p : Po) (a b : Rt) : cmpF p b a = (-(cmpF p a b).1, (cmpF p a b).2) := by unfold cmpF; rw [ords_swap, fnz_neg]
theorem cmp_bd (p : Po) (a b : Rt) : -1 ≤ (cmpF p a b).1 ∧ (cmpF p a b).1 ≤ 1 := by
  unfold cmpF
  refine fnz_bd _ _ fun o ho => ?_
  simp only [ords, List.mem_cons, List.not_mem_nil, or_false] at ho
  rcases ho with rfl | rfl | rfl | rfl | rfl <;> exact sgn3_bd _ _
theorem cmp_from {p : Po} {a b : Rt} (h : (cmpF p a b).1 = 0) : a.from_ = b.from_ := by
  have := fnz_zero _ _ h (sgn3 a.from_ b.from_) (by simp [ords])
  rcases sgn3_cases a.from_ b.from_ with ⟨_, h1, _⟩ | ⟨h1, _⟩ | ⟨_, h1, _⟩
  · rw [this] at h1; exact absurd h1 (by decide)
  · exact h1
  · rw [this] at h1; exact absurd h1 (by decide)
theorem cmp_self (p : Po) (a : Rt) : cmpF p a a = (0, 0) := by
  refine fnz_of_zero _ _ fun o ho => ?_
  simp only [ords, List.mem_cons, List.not_mem_nil, or_false, sgn3_self] at ho
  omega
theorem cmp_step (p : Po) (a b : Rt) : (cmpF p a b).2 = 0 ↔ (cmpF p a b).1 = 0 := fnz_step _ 0 (Int.le_refl 0)
theorem cmp_tr {p : Po} {a b c : Rt} (h1 : (cmpF p a b).1 ≤ 0) (h2 : (cmpF p b c).1 ≤ 0) : (cmpF p a c).1 ≤ 0 := by
  unfold cmpF at h1 h2 ⊢
  rw [ords_key] at h1 h2 ⊢
  exact lex_tr (keyL p a) (keyL p b) (keyL p c) 0 rfl rfl h1 h2
theorem best_min (p : Po) (l : List Rt) : ∀ k j, j < k → (cmpF p (gR l (bestK p l k)) (gR l j)).1 ≤ 0 := by
  intro k
  induction k with
  | zero => intro j hj; omega
  | succ k ih =>
    intro j hj
    unfold bestK
    split
    · rename_i h
      by_cases hk : j = k
      · subst hk; rw [cmp_self]; exact Int.le_refl 0
      · exact cmp_tr (Int.le_of_lt h) (ih j (by omega))
    · rename_i h
      by_cases hk : j = k
      · subst hk
        have := congrArg Prod.fst (cmp_swap p (gR l j) (gR l (bestK p l j)))
        dsimp only at this
        omega
      · exact ih j (by omega)
def bestR (p : Po) (l : List Rt) : Rt := gR l (bestK p l l.length)
theorem best_idx (p : Po) {l : List Rt} (h : l.length ≠ 0) : bestK p l l.length < l.length := by
  obtain ⟨k, hk⟩ : ∃ k, l.length = k + 1 := ⟨l.length - 1, by omega⟩
  rw [hk]
  have := bestK_lt p l k
  omega
theorem best_mem (p : Po) {l : List Rt} (h : l.length ≠ 0) : bestR p l ∈ l := by
  unfold bestR
  rw [gR_at (best_idx p h)]
  exact List.getElem_mem _
theorem best_le (p : Po) {l : List Rt} {r : Rt} (h : r ∈ l) : (cmpF p (bestR p l) r).1 ≤ 0 := by
  obtain ⟨i, hi, rfl⟩ := List.getElem_of_mem h
  have := best_min p l l.length i hi
  rwa [gR_at hi] at this
/-- two lists whose best ones lie in both have the same one -/
theorem best_same (p : Po) {l m : List Rt} (h1 : bestR p l ∈ m) (h2 : bestR p m ∈ l) : (bestR p m).from_ = (bestR p l).from_ := by
  have a := best_le p h1
  have b := best_le p h2
  have c := congrArg Prod.fst (cmp_swap p (bestR p l) (bestR p m))
  dsimp only at c
  exact cmp_from (p := p) (a := bestR p m) (b := bestR p l) (by omega)
theorem from_inj {l : List Rt} (h : l.Pairwise fun a b => a.from_ < b.from_) : ∀ i j (hi : i < l.length) (hj : j < l.length), l[i].from_ = l[j].from_ → i = j := by
  intro i j hi hj he
  have hp := List.pairwise_iff_getElem.1 h
  rcases Nat.lt_trichotomy i j with c | c | c
  · have := hp i j hi hj c; omega
  · exact c
  · have := hp j i hj hi c; omega
/-- equal exactly if of one member -/
theorem cmp_zero {p : Po} {l : List Rt} (h : l.Pairwise fun a b => a.from_ < b.from_) {i j : Nat} (hi : i < l.length) (hj : j < l.length) : (cmpF p (gR l i) (gR l j)).1 = 0 ↔ (gR l i).from_ = (gR l j).from_ := by
  refine ⟨cmp_from, fun he => ?_⟩
  rw [gR_at hi, gR_at hj] at he
  have := from_inj h i j hi hj he
  subst this
  rw [cmp_self]
end Go.Proofs.Ytgklkocmimjifaa
