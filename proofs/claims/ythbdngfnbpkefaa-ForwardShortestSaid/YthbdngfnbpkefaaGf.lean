/-
  FabricCuts returns true.
-/
import Derived.Test.YthbdngfnbpkefaaGc
import Derived.Test.YthbdngfnbpkefaaMab
namespace Go.Proofs.Ythbdngfnbpkefaa
open Go.RowKit

/-- a set of numbers, as a map -/
def setM (L : List Int) : Value → Option Value := fun v => match v with
  | .int _ i => if i ∈ L then some (.bool true) else none
  | _ => none
theorem setM_nil : setM [] = fun _ => none := by
  funext v
  unfold setM
  split
  · rw [if_neg (by simp)]
  · rfl
theorem setM_get (L : List Int) (k : IntKind) (i : Int) : (setM L (.int k i)).getD (.bool false) = .bool (decide (i ∈ L)) := by
  unfold setM
  by_cases h : i ∈ L <;> simp [h]
theorem setM_at (L : List Int) (k : IntKind) (i : Int) : setM (L ++ [i]) (.int k i) = some (.bool true) := by
  unfold setM
  simp
theorem setM_else {P : Program} {t : TypeId} {q : IntKind} (hq : P.underlying t = some (.int q)) (L : List Int) (i : Int) : ∀ y, kdOf P t y → y ≠ .int q i → setM (L ++ [i]) y = setM L y := fun y hy hn => by
  obtain ⟨a, rfl⟩ := kd_int_inv hq hy
  have : a ≠ i := fun e => hn (by rw [e])
  unfold setM
  simp [this]
theorem kd_i64 {P : Program} {t : TypeId} (hq : P.underlying t = some (.int .i64)) {i : Int} (h0 : -1000 ≤ i) (h1 : i ≤ 1000) : kdOf P t (.int .i64 i) := kd_int hq (by
  unfold Lit.wf
  simp only [IntKind.min, IntKind.max, IntKind.signed, IntKind.bits, Bool.and_eq_true, decide_eq_true_eq]
  constructor
  · have : -(2 ^ (64 - 1) : Int) ≤ i := by omega
    simpa using this
  · have : i ≤ (2 ^ (64 - 1) : Int) - 1 := by omega
    simpa using this)

theorem walk_conv {f g : Fab} {V W : Nat → Bool} (he : ∀ x y, Edge f V x y → ∃ k, Walk g W k x y) {k : Nat} {x y : Int} (h : Walk f V k x y) : ∃ k', Walk g W k' x y := by
  induction h with
  | nil => exact ⟨0, .nil _⟩
  | cons e _ ih =>
    obtain ⟨a, ha⟩ := he _ _ e
    obtain ⟨b, hb⟩ := ih
    exact ⟨a + b, ha.trans hb⟩
theorem cut_parts {f : Fab} {i : Nat} (hd : i < f.down.length) (hw : worksB f i = true) : decide (partsF (failF f i) = partsF f) = !cutB f i := by
  obtain ⟨hil, _⟩ := works_lt hw
  have hl : f.links[i]? = some f.links[i] := by simp [hil]
  generalize f.links[i] = l at hl
  have hWg := failF_works f hd
  have hcb : cutB f i = decide (gI (dist (failF f i) l.a) l.b < 0) := by
    unfold cutB
    rw [hl, dist_fail f hd]
    simp [hw]
  have hal : ∀ s, aliveB (failF f i) s = aliveB f s := fun s => rfl
  obtain ⟨x1, x2, x3, x4⟩ := wkF_wf f i l hl hw
  obtain ⟨a, ha⟩ := Int.eq_ofNat_of_zero_le x1
  obtain ⟨b, hb⟩ := Int.eq_ofNat_of_zero_le x3
  have hed : Edge f (wkF f) a b := ⟨i, l, hl, hw, .inl ⟨ha, hb⟩⟩
  obtain ⟨av, bv⟩ := edge_alive hed
  have hEg : ∀ x y, Edge f (wkF f) x y → Edge (failF f i) (wkF (failF f i)) x y ∨ (x = a ∧ y = b) ∨ (x = b ∧ y = a) := by
    rintro x y ⟨j, lj, h1, h2, h3⟩
    by_cases e : j = i
    · subst e
      rw [hl] at h1
      injection h1 with h1
      subst h1
      rw [ha, hb] at h3
      rcases h3 with ⟨e1, e2⟩ | ⟨e1, e2⟩
      · exact .inr (.inl ⟨e1.symm, e2.symm⟩)
      · exact .inr (.inr ⟨e1.symm, e2.symm⟩)
    · refine .inl ⟨j, lj, h1, ?_, h3⟩
      rw [hWg]
      have : ((j : Int) == (i : Int)) = false := by simp; omega
      show (worksB f j && !((j : Int) == (i : Int))) = true
      rw [this]
      unfold wkF at h2
      rw [h2]; rfl
  have hgE : ∀ x y, Edge (failF f i) (wkF (failF f i)) x y → Edge f (wkF f) x y := by
    rintro x y ⟨j, lj, h1, h2, h3⟩
    refine ⟨j, lj, h1, ?_, h3⟩
    rw [hWg] at h2
    simp only [Bool.and_eq_true] at h2
    exact h2.1
  rw [hcb, ha, hb]
  have hga := dist_ge (failF f i) a b
  rcases Int.lt_or_le (gI (dist (failF f i) a) b) 0 with hc | hc
  · rw [show decide (gI (dist (failF f i) a) b < 0) = true from decide_eq_true hc]
    refine decide_eq_false fun he => ?_
    have p1 : partAt f a = partAt f b := partAt_same (walk_dist av (Walk.cons hed.symm (.nil _))).1
    have e1 : partAt (failF f i) a = partAt f a := by
      rw [← parts_at (f := failF f i) (i := a) (by show a < f.dead.length; omega), he, parts_at (by omega)]
    have e2 : partAt (failF f i) b = partAt f b := by
      rw [← parts_at (f := failF f i) (i := b) (by show b < f.dead.length; omega), he, parts_at (by omega)]
    have h0 : 0 ≤ partAt (failF f i) a := by
      rcases Int.lt_or_le (partAt (failF f i) a) 0 with h | h
      · rw [partAt_neg, hal, av] at h; cases h
      · exact h
    have := partAt_join h0 (by rw [e1, e2, p1] : partAt (failF f i) a = partAt (failF f i) b)
    omega
  · rw [show decide (gI (dist (failF f i) a) b < 0) = false from decide_eq_false (by omega)]
    refine decide_eq_true ?_
    have hsame : ∀ s x : Int, 0 ≤ gI (dist (failF f i) s) x ↔ 0 ≤ gI (dist f s) x := fun s x => by
      constructor
      · intro h
        exact (dist_mono (f := f) (g := failF f i) hgE (fun h => by rw [hal] at h; exact h) h).1
      · intro h
        obtain ⟨k, hk⟩ := Int.eq_ofNat_of_zero_le h
        obtain ⟨kc, hkc⟩ := Int.eq_ofNat_of_zero_le hc
        have hwab := dist_walk kc (b : Int) hkc
        obtain ⟨k', hk'⟩ := walk_conv (g := failF f i) (W := wkF (failF f i)) (fun x y he => by
          rcases hEg x y he with h1 | ⟨rfl, rfl⟩ | ⟨rfl, rfl⟩
          · exact ⟨1, .cons h1 (.nil _)⟩
          · exact ⟨kc, hwab.symm⟩
          · exact ⟨kc, hwab⟩) (dist_walk k x hk)
        exact (walk_dist (by rw [hal]; exact dist_alive h) hk').1
    unfold partsF
    refine tab_congr fun x _ => ?_
    refine lst_congr fun s _ => ?_
    exact decide_eq_decide.2 (hsame s x)
theorem cutsF_mem {f : Fab} {i : Nat} : ((i : Int) ∈ cutsF f) ↔ i < f.links.length ∧ cutB f i = true := by
  unfold cutsF cutsK
  simp only [List.mem_map, List.mem_filter, List.mem_range]
  constructor
  · rintro ⟨j, ⟨h1, h2⟩, h3⟩
    obtain rfl : j = i := by omega
    exact ⟨h1, h2⟩
  · intro h
    exact ⟨i, h, rfl⟩
theorem cutsF_at {f : Fab} {j : Nat} (h : j < (cutsF f).length) : 0 ≤ gI (cutsF f) j ∧ gI (cutsF f) j < f.links.length := by
  have hm : gI (cutsF f) j ∈ cutsF f := by
    have : gI (cutsF f) j = (cutsF f)[j] := by unfold gI; simp [h]
    rw [this]
    exact List.getElem_mem h
  generalize gI (cutsF f) j = x at hm
  unfold cutsF cutsK at hm
  simp only [List.mem_map, List.mem_filter, List.mem_range] at hm
  obtain ⟨k, ⟨h1, _⟩, rfl⟩ := hm
  omega
end Go.Proofs.Ythbdngfnbpkefaa
