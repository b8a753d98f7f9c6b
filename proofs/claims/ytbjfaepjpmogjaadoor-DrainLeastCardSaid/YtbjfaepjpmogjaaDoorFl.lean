/-
  Plain laws of distances, parts and flows (no program in sight).
-/
import Derived.Test.YtbjfaepjpmogjaaDoorFc
namespace Go.Proofs.YtbjfaepjpmogjaaDoor
open Go.RowKit

/-- a walk over k links -/
inductive Walk (f : Fab) (W : Nat → Bool) : Nat → Int → Int → Prop
  | nil (x : Int) : Walk f W 0 x x
  | cons {k : Nat} {x y z : Int} (he : Edge f W x y) (h : Walk f W k y z) : Walk f W (k + 1) x z
section
variable {f g : Fab} {W V : Nat → Bool} {k j : Nat} {x y z : Int}
theorem Walk.snoc (h : Walk f W k x y) (he : Edge f W y z) : Walk f W (k + 1) x z := by
  induction h with
  | nil => exact .cons he (.nil _)
  | cons he' _ ih => exact .cons he' (ih he)
theorem Walk.symm (h : Walk f W k x y) : Walk f W k y x := by
  induction h with
  | nil => exact .nil _
  | cons he _ ih => exact ih.snoc he.symm
theorem Walk.trans (h : Walk f W k x y) (h2 : Walk f W j y z) : Walk f W (k + j) x z := by
  induction h with
  | nil => rw [Nat.zero_add]; exact h2
  | @cons k' _ _ _ he _ ih => rw [show k' + 1 + j = (k' + j) + 1 from by omega]; exact .cons he (ih h2)
theorem Walk.mono (hm : ∀ a b, Edge f W a b → Edge g V a b) (h : Walk f W k x y) : Walk g V k x y := by
  induction h with
  | nil => exact .nil _
  | cons he _ ih => exact .cons (hm _ _ he) ih
end
section
variable {f g : Fab} {x y t : Int} {k : Nat}
theorem edge_alive (h : Edge f (wkF f) x y) : aliveB f x = true ∧ aliveB f y = true := by
  obtain ⟨i, l, hl, hW, ⟨rfl, rfl⟩ | ⟨rfl, rfl⟩⟩ := h
  · exact worksB_ends hW hl
  · exact (worksB_ends hW hl).symm
theorem dist_ok (h : aliveB f t = true) : IsDist f (wkF f) f.dead.length t (dist f t) := distW_ok (wkF_wf f) h
theorem dist_none (h : aliveB f t = false) (x : Int) : gI (dist f t) x = -1 := by
  unfold dist; rw [distW_dead h, gI_rep]
theorem dist_ge (f : Fab) (t x : Int) : -1 ≤ gI (dist f t) x := by
  cases h : aliveB f t with
  | true => exact (dist_ok h).ge x
  | false => rw [dist_none h]; omega
theorem dist_alive (h : 0 ≤ gI (dist f t) x) : aliveB f t = true := by
  cases e : aliveB f t with
  | true => rfl
  | false => rw [dist_none e] at h; omega
theorem dist_walk : ∀ (k : Nat) (x : Int), gI (dist f t) x = k → Walk f (wkF f) k x t := by
  intro k
  induction k with
  | zero =>
    intro x h
    have ha := dist_alive (f := f) (t := t) (x := x) (by omega)
    rw [(dist_ok ha).zero x (by simpa using h)]
    exact .nil _
  | succ k ih =>
    intro x h
    have ha := dist_alive (f := f) (t := t) (x := x) (by omega)
    obtain ⟨y, hy, h1⟩ := (dist_ok ha).pred x (by omega)
    exact .cons hy (ih y (by rw [h1, h]; omega))
theorem walk_dist (ha : aliveB f t = true) (h : Walk f (wkF f) k x t) : 0 ≤ gI (dist f t) x ∧ gI (dist f t) x ≤ k := by
  induction h with
  | nil => rw [(dist_ok ha).src]; simp
  | cons he _ ih =>
    have h1 := ih ha
    have h2 := (dist_ok ha).step _ _ he.symm h1.1
    omega
theorem walk_alive (ha : aliveB f t = true) (h : Walk f (wkF f) k x t) : aliveB f x = true := by
  cases h with
  | nil => exact ha
  | cons he _ => exact (edge_alive he).1
theorem dist_swap (h : 0 ≤ gI (dist f t) x) : 0 ≤ gI (dist f x) t ∧ gI (dist f x) t ≤ gI (dist f t) x := by
  obtain ⟨k, hk⟩ := Int.eq_ofNat_of_zero_le h
  have hw := dist_walk k x hk
  have := walk_dist (walk_alive (dist_alive h) hw) hw.symm
  omega
theorem dist_symm (f : Fab) (t x : Int) : gI (dist f t) x = gI (dist f x) t := by
  have h1 := dist_ge f t x
  have h2 := dist_ge f x t
  rcases Int.lt_or_le (gI (dist f t) x) 0 with h3 | h3
  · rcases Int.lt_or_le (gI (dist f x) t) 0 with h4 | h4
    · omega
    · have := dist_swap h4; omega
  · have h5 := dist_swap h3
    have h6 := dist_swap h5.1
    omega
theorem dist_tri {m : Int} (h1 : 0 ≤ gI (dist f m) x) (h2 : 0 ≤ gI (dist f t) m) : 0 ≤ gI (dist f t) x ∧ gI (dist f t) x ≤ gI (dist f m) x + gI (dist f t) m := by
  obtain ⟨k, hk⟩ := Int.eq_ofNat_of_zero_le h1
  obtain ⟨j, hj⟩ := Int.eq_ofNat_of_zero_le h2
  have := walk_dist (dist_alive h2) ((dist_walk k x hk).trans (dist_walk j m hj))
  omega
theorem dist_mono (hm : ∀ a b, Edge g (wkF g) a b → Edge f (wkF f) a b) (ha : aliveB g t = true → aliveB f t = true) (h : 0 ≤ gI (dist g t) x) : 0 ≤ gI (dist f t) x ∧ gI (dist f t) x ≤ gI (dist g t) x := by
  obtain ⟨k, hk⟩ := Int.eq_ofNat_of_zero_le h
  have := walk_dist (ha (dist_alive h)) ((dist_walk k x hk).mono hm)
  omega
theorem dist_self (ha : aliveB f t = true) : gI (dist f t) t = 0 := (dist_ok ha).src
theorem dist_alive2 (h : 0 ≤ gI (dist f t) x) : aliveB f x = true := dist_alive (x := t) (by rw [← dist_symm]; exact h)
end
end Go.Proofs.YtbjfaepjpmogjaaDoor
