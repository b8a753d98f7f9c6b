/-
  Which packets are valid.
-/
import Derived.Test.YtcdfmgkcadpgbaaL
namespace Go.Proofs.Ytcdfmgkcadpgbaa
open Go.RowKit

def mostP (v6 : Bool) : Int := if v6 then 1460 else 1480
def validP (s d : Ad) (p t : Int) (n : Nat) : Bool :=
  validA s.v6 s.hi s.lo && (validA d.v6 d.hi d.lo && ((s.v6 == d.v6) && (decide (0 ≤ p) && (decide (p ≤ 255) && (decide (0 ≤ t) && (decide (t ≤ 255) && decide ((n : Int) ≤ mostP s.v6)))))))

/-- the first test that says no, or none -/
theorem valid_ways (s d : Ad) (p t : Int) (n : Nat) :
    (validA s.v6 s.hi s.lo = false ∧ validP s d p t n = false) ∨
    (validA s.v6 s.hi s.lo = true ∧ validA d.v6 d.hi d.lo = false ∧ validP s d p t n = false) ∨
    (validA s.v6 s.hi s.lo = true ∧ validA d.v6 d.hi d.lo = true ∧ (s.v6 == d.v6) = false ∧ validP s d p t n = false) ∨
    (validA s.v6 s.hi s.lo = true ∧ validA d.v6 d.hi d.lo = true ∧ (s.v6 == d.v6) = true ∧ decide (0 ≤ p) = false ∧ validP s d p t n = false) ∨
    (validA s.v6 s.hi s.lo = true ∧ validA d.v6 d.hi d.lo = true ∧ (s.v6 == d.v6) = true ∧ decide (0 ≤ p) = true ∧ decide (p ≤ 255) = false ∧ validP s d p t n = false) ∨
    (validA s.v6 s.hi s.lo = true ∧ validA d.v6 d.hi d.lo = true ∧ (s.v6 == d.v6) = true ∧ decide (0 ≤ p) = true ∧ decide (p ≤ 255) = true ∧ decide (0 ≤ t) = false ∧ validP s d p t n = false) ∨
    (validA s.v6 s.hi s.lo = true ∧ validA d.v6 d.hi d.lo = true ∧ (s.v6 == d.v6) = true ∧ decide (0 ≤ p) = true ∧ decide (p ≤ 255) = true ∧ decide (0 ≤ t) = true ∧ decide (t ≤ 255) = false ∧ validP s d p t n = false) ∨
    (validA s.v6 s.hi s.lo = true ∧ validA d.v6 d.hi d.lo = true ∧ (s.v6 == d.v6) = true ∧ decide (0 ≤ p) = true ∧ decide (p ≤ 255) = true ∧ decide (0 ≤ t) = true ∧ decide (t ≤ 255) = true ∧ decide ((n : Int) ≤ mostP s.v6) = false ∧ validP s d p t n = false) ∨
    (validA s.v6 s.hi s.lo = true ∧ validA d.v6 d.hi d.lo = true ∧ (s.v6 == d.v6) = true ∧ decide (0 ≤ p) = true ∧ decide (p ≤ 255) = true ∧ decide (0 ≤ t) = true ∧ decide (t ≤ 255) = true ∧ decide ((n : Int) ≤ mostP s.v6) = true ∧ validP s d p t n = true) := by
  unfold validP
  generalize validA s.v6 s.hi s.lo = b1
  generalize validA d.v6 d.hi d.lo = b2
  generalize (s.v6 == d.v6) = b3
  generalize decide (0 ≤ p) = b4
  generalize decide (p ≤ 255) = b5
  generalize decide (0 ≤ t) = b6
  generalize decide (t ≤ 255) = b7
  generalize decide ((n : Int) ≤ mostP s.v6) = b8
  revert b1 b2 b3 b4 b5 b6 b7 b8
  decide

set_option maxRecDepth 100000 in
set_option maxHeartbeats 4000000 in
theorem pvalid_any (s d : Ad) (p t : Int) (A : Option Addr) (n c : Nat) (w : World) :
    Calls Try.prog 24 #[pkV s d p t (.slice A n c)] w fun e w' => e = .returned (.bool (validP s d p t n)) ∧ Ext w w' := by
  rcases valid_ways s d p t n with h | h | h | h | h | h | h | h | h
  all_goals (obtain ⟨sv, shi, slo⟩ := s; obtain ⟨dv, dhi, dlo⟩ := d)
  · obtain ⟨h1, hv⟩ := h
    rw [hv]
    clear hv
    unfold pkV
    simp only at h1
    cases sv <;> (go_enter Try.func24, Try.ntmps24; go_wp2_with fail; refine (avalid_any _ _ _ _).mono ?_; rintro e w' ⟨rfl, rfl⟩; rw [h1]; go_wp2_with fail; go_ret; exact ⟨rfl, ((Ext.refl w).alloc _).alloc _⟩)
  · obtain ⟨h1, h2, hv⟩ := h
    rw [hv]
    clear hv
    unfold pkV
    simp only at h1 h2
    cases sv <;> (go_enter Try.func24, Try.ntmps24; go_wp2_with fail; refine (avalid_any _ _ _ _).mono ?_; rintro e w' ⟨rfl, rfl⟩; rw [h1]; go_wp2_with fail; refine (avalid_any _ _ _ _).mono ?_; rintro e w' ⟨rfl, rfl⟩; rw [h2]; go_wp2_with fail; go_ret; exact ⟨rfl, (((Ext.refl w).alloc _).alloc _).alloc _⟩)
  · obtain ⟨h1, h2, h3, hv⟩ := h
    rw [hv]
    clear hv
    unfold pkV
    simp only at h1 h2 h3
    cases sv <;> cases dv <;> first
      | (exfalso; revert h3; decide)
      | (clear h3; go_enter Try.func24, Try.ntmps24; go_wp2_with fail; refine (avalid_any _ _ _ _).mono ?_; rintro e w' ⟨rfl, rfl⟩; rw [h1]; go_wp2_with fail; refine (avalid_any _ _ _ _).mono ?_; rintro e w' ⟨rfl, rfl⟩; rw [h2]; go_wp2_with fail; go_ret; exact ⟨rfl, (((Ext.refl w).alloc _).alloc _).alloc _⟩)
  · obtain ⟨h1, h2, h3, h4, hv⟩ := h
    rw [hv]
    clear hv
    unfold pkV
    simp only at h1 h2 h3
    cases sv <;> cases dv <;> first
      | (exfalso; revert h3; decide)
      | (clear h3; go_enter Try.func24, Try.ntmps24; go_wp2_with fail; refine (avalid_any _ _ _ _).mono ?_; rintro e w' ⟨rfl, rfl⟩; rw [h1]; go_wp2_with fail; refine (avalid_any _ _ _ _).mono ?_; rintro e w' ⟨rfl, rfl⟩; rw [h2]; go_wp2_with fail; go_ret; exact ⟨rfl, (((Ext.refl w).alloc _).alloc _).alloc _⟩)
  · obtain ⟨h1, h2, h3, h4, h5, hv⟩ := h
    rw [hv]
    clear hv
    unfold pkV
    simp only at h1 h2 h3
    cases sv <;> cases dv <;> first
      | (exfalso; revert h3; decide)
      | (clear h3; go_enter Try.func24, Try.ntmps24; go_wp2_with fail; refine (avalid_any _ _ _ _).mono ?_; rintro e w' ⟨rfl, rfl⟩; rw [h1]; go_wp2_with fail; refine (avalid_any _ _ _ _).mono ?_; rintro e w' ⟨rfl, rfl⟩; rw [h2]; go_wp2_with fail; go_ret; exact ⟨rfl, (((Ext.refl w).alloc _).alloc _).alloc _⟩)
  · obtain ⟨h1, h2, h3, h4, h5, h6, hv⟩ := h
    rw [hv]
    clear hv
    unfold pkV
    simp only at h1 h2 h3
    cases sv <;> cases dv <;> first
      | (exfalso; revert h3; decide)
      | (clear h3; go_enter Try.func24, Try.ntmps24; go_wp2_with fail; refine (avalid_any _ _ _ _).mono ?_; rintro e w' ⟨rfl, rfl⟩; rw [h1]; go_wp2_with fail; refine (avalid_any _ _ _ _).mono ?_; rintro e w' ⟨rfl, rfl⟩; rw [h2]; go_wp2_with fail; go_ret; exact ⟨rfl, (((Ext.refl w).alloc _).alloc _).alloc _⟩)
  · obtain ⟨h1, h2, h3, h4, h5, h6, h7, hv⟩ := h
    rw [hv]
    clear hv
    unfold pkV
    simp only at h1 h2 h3
    cases sv <;> cases dv <;> first
      | (exfalso; revert h3; decide)
      | (clear h3; go_enter Try.func24, Try.ntmps24; go_wp2_with fail; refine (avalid_any _ _ _ _).mono ?_; rintro e w' ⟨rfl, rfl⟩; rw [h1]; go_wp2_with fail; refine (avalid_any _ _ _ _).mono ?_; rintro e w' ⟨rfl, rfl⟩; rw [h2]; go_wp2_with fail; go_ret; exact ⟨rfl, (((Ext.refl w).alloc _).alloc _).alloc _⟩)
  · obtain ⟨h1, h2, h3, h4, h5, h6, h7, h8, hv⟩ := h
    rw [hv]
    clear hv
    unfold pkV
    simp only at h1 h2 h3
    simp only [mostP] at h8
    cases sv <;> cases dv <;> first
      | (exfalso; revert h3; decide)
      | (simp only [if_true, Bool.false_eq_true, if_false] at h8; clear h3; go_enter Try.func24, Try.ntmps24; go_wp2_with fail; refine (avalid_any _ _ _ _).mono ?_; rintro e w' ⟨rfl, rfl⟩; rw [h1]; go_wp2_with fail; refine (avalid_any _ _ _ _).mono ?_; rintro e w' ⟨rfl, rfl⟩; rw [h2]; go_wp2_with fail; go_ret; exact ⟨rfl, (((Ext.refl w).alloc _).alloc _).alloc _⟩)
  · obtain ⟨h1, h2, h3, h4, h5, h6, h7, h8, hv⟩ := h
    rw [hv]
    clear hv
    unfold pkV
    simp only at h1 h2 h3
    simp only [mostP] at h8
    cases sv <;> cases dv <;> first
      | (exfalso; revert h3; decide)
      | (simp only [if_true, Bool.false_eq_true, if_false] at h8; clear h3; go_enter Try.func24, Try.ntmps24; go_wp2_with fail; refine (avalid_any _ _ _ _).mono ?_; rintro e w' ⟨rfl, rfl⟩; rw [h1]; go_wp2_with fail; refine (avalid_any _ _ _ _).mono ?_; rintro e w' ⟨rfl, rfl⟩; rw [h2]; go_wp2_with fail; go_ret; exact ⟨rfl, (((Ext.refl w).alloc _).alloc _).alloc _⟩)

set_option maxRecDepth 100000 in
set_option maxHeartbeats 4000000 in
theorem rpvalid_any (s d : Ad) (p t : Int) (A : Option Addr) (n c : Nat) (w : World) :
    Calls Try.prog 25 #[pkV s d p t (.slice A n c)] w fun e w' => e = .returned (.bool (validP s d p t n)) ∧ Ext w w' := by
  rcases valid_ways s d p t n with h | h | h | h | h | h | h | h | h
  all_goals (obtain ⟨sv, shi, slo⟩ := s; obtain ⟨dv, dhi, dlo⟩ := d)
  · obtain ⟨h1, hv⟩ := h
    rw [hv]
    clear hv
    unfold pkV
    simp only at h1
    cases sv <;> (go_enter Try.func25, Try.ntmps25; go_wp2_with fail; refine (rvalid_any _ _ _ _).mono ?_; rintro e w' ⟨rfl, rfl⟩; rw [h1]; go_wp2_with fail; go_ret; exact ⟨rfl, ((Ext.refl w).alloc _).alloc _⟩)
  · obtain ⟨h1, h2, hv⟩ := h
    rw [hv]
    clear hv
    unfold pkV
    simp only at h1 h2
    cases sv <;> (go_enter Try.func25, Try.ntmps25; go_wp2_with fail; refine (rvalid_any _ _ _ _).mono ?_; rintro e w' ⟨rfl, rfl⟩; rw [h1]; go_wp2_with fail; refine (rvalid_any _ _ _ _).mono ?_; rintro e w' ⟨rfl, rfl⟩; rw [h2]; go_wp2_with fail; go_ret; exact ⟨rfl, (((Ext.refl w).alloc _).alloc _).alloc _⟩)
  · obtain ⟨h1, h2, h3, hv⟩ := h
    rw [hv]
    clear hv
    unfold pkV
    simp only at h1 h2 h3
    cases sv <;> cases dv <;> first
      | (exfalso; revert h3; decide)
      | (clear h3; go_enter Try.func25, Try.ntmps25; go_wp2_with fail; refine (rvalid_any _ _ _ _).mono ?_; rintro e w' ⟨rfl, rfl⟩; rw [h1]; go_wp2_with fail; refine (rvalid_any _ _ _ _).mono ?_; rintro e w' ⟨rfl, rfl⟩; rw [h2]; go_wp2_with fail; go_ret; exact ⟨rfl, (((Ext.refl w).alloc _).alloc _).alloc _⟩)
  · obtain ⟨h1, h2, h3, h4, hv⟩ := h
    rw [hv]
    clear hv
    unfold pkV
    simp only at h1 h2 h3
    cases sv <;> cases dv <;> first
      | (exfalso; revert h3; decide)
      | (clear h3; go_enter Try.func25, Try.ntmps25; go_wp2_with fail; refine (rvalid_any _ _ _ _).mono ?_; rintro e w' ⟨rfl, rfl⟩; rw [h1]; go_wp2_with fail; refine (rvalid_any _ _ _ _).mono ?_; rintro e w' ⟨rfl, rfl⟩; rw [h2]; go_wp2_with fail; go_ret; exact ⟨rfl, (((Ext.refl w).alloc _).alloc _).alloc _⟩)
  · obtain ⟨h1, h2, h3, h4, h5, hv⟩ := h
    rw [hv]
    clear hv
    unfold pkV
    simp only at h1 h2 h3
    cases sv <;> cases dv <;> first
      | (exfalso; revert h3; decide)
      | (clear h3; go_enter Try.func25, Try.ntmps25; go_wp2_with fail; refine (rvalid_any _ _ _ _).mono ?_; rintro e w' ⟨rfl, rfl⟩; rw [h1]; go_wp2_with fail; refine (rvalid_any _ _ _ _).mono ?_; rintro e w' ⟨rfl, rfl⟩; rw [h2]; go_wp2_with fail; go_ret; exact ⟨rfl, (((Ext.refl w).alloc _).alloc _).alloc _⟩)
  · obtain ⟨h1, h2, h3, h4, h5, h6, hv⟩ := h
    rw [hv]
    clear hv
    unfold pkV
    simp only at h1 h2 h3
    cases sv <;> cases dv <;> first
      | (exfalso; revert h3; decide)
      | (clear h3; go_enter Try.func25, Try.ntmps25; go_wp2_with fail; refine (rvalid_any _ _ _ _).mono ?_; rintro e w' ⟨rfl, rfl⟩; rw [h1]; go_wp2_with fail; refine (rvalid_any _ _ _ _).mono ?_; rintro e w' ⟨rfl, rfl⟩; rw [h2]; go_wp2_with fail; go_ret; exact ⟨rfl, (((Ext.refl w).alloc _).alloc _).alloc _⟩)
  · obtain ⟨h1, h2, h3, h4, h5, h6, h7, hv⟩ := h
    rw [hv]
    clear hv
    unfold pkV
    simp only at h1 h2 h3
    cases sv <;> cases dv <;> first
      | (exfalso; revert h3; decide)
      | (clear h3; go_enter Try.func25, Try.ntmps25; go_wp2_with fail; refine (rvalid_any _ _ _ _).mono ?_; rintro e w' ⟨rfl, rfl⟩; rw [h1]; go_wp2_with fail; refine (rvalid_any _ _ _ _).mono ?_; rintro e w' ⟨rfl, rfl⟩; rw [h2]; go_wp2_with fail; go_ret; exact ⟨rfl, (((Ext.refl w).alloc _).alloc _).alloc _⟩)
  · obtain ⟨h1, h2, h3, h4, h5, h6, h7, h8, hv⟩ := h
    rw [hv]
    clear hv
    unfold pkV
    simp only at h1 h2 h3
    simp only [mostP] at h8
    cases sv <;> cases dv <;> first
      | (exfalso; revert h3; decide)
      | (simp only [if_true, Bool.false_eq_true, if_false] at h8; clear h3; go_enter Try.func25, Try.ntmps25; go_wp2_with fail; refine (rvalid_any _ _ _ _).mono ?_; rintro e w' ⟨rfl, rfl⟩; rw [h1]; go_wp2_with fail; refine (rvalid_any _ _ _ _).mono ?_; rintro e w' ⟨rfl, rfl⟩; rw [h2]; go_wp2_with fail; go_ret; exact ⟨rfl, (((Ext.refl w).alloc _).alloc _).alloc _⟩)
  · obtain ⟨h1, h2, h3, h4, h5, h6, h7, h8, hv⟩ := h
    rw [hv]
    clear hv
    unfold pkV
    simp only at h1 h2 h3
    simp only [mostP] at h8
    cases sv <;> cases dv <;> first
      | (exfalso; revert h3; decide)
      | (simp only [if_true, Bool.false_eq_true, if_false] at h8; clear h3; go_enter Try.func25, Try.ntmps25; go_wp2_with fail; refine (rvalid_any _ _ _ _).mono ?_; rintro e w' ⟨rfl, rfl⟩; rw [h1]; go_wp2_with fail; refine (rvalid_any _ _ _ _).mono ?_; rintro e w' ⟨rfl, rfl⟩; rw [h2]; go_wp2_with fail; go_ret; exact ⟨rfl, (((Ext.refl w).alloc _).alloc _).alloc _⟩)

end Go.Proofs.Ytcdfmgkcadpgbaa
