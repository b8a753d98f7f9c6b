/-
  Which messages are valid.
-/
import Derived.Test.YtopkbpigaengeaaDoorAt
namespace Go.Proofs.YtopkbpigaengeaaDoor
open Go.RowKit

def validM (m : Msg) : Bool := (m.op == 1 || m.op == 2) && (validA m.sa.v6 m.sa.hi m.sa.lo && (!m.sa.v6 && (validA m.da.v6 m.da.hi m.da.lo && !m.da.v6)))
theorem validM_ok {m : Msg} (h : MsgOk m) : validM m = true := by
  obtain ⟨op, fm, ⟨sv, shi, slo⟩, tm, ⟨dv, dhi, dlo⟩⟩ := m
  obtain ⟨h1, _, ⟨h2, h3, h4, h5⟩, _, ⟨h6, h7, h8, h9⟩⟩ := h
  simp only at *
  subst h2 h3 h6 h7
  rcases h1 with rfl | rfl <;> simp [validM, validA, h5, h9]

set_option maxRecDepth 100000 in
set_option maxHeartbeats 4000000 in
theorem mvalid_any (m : Msg) (w : World) :
    Calls Tryd.prog 18 #[arpV m] w fun e w' => e = .returned (.bool (validM m)) ∧ Ext w w' := by
  obtain ⟨op, fm, ⟨sv, shi, slo⟩, tm, ⟨dv, dhi, dlo⟩⟩ := m
  unfold arpV
  simp only
  by_cases hop : op = 1 ∨ op = 2
  · cases h1 : validA sv shi slo with
    | false => rcases hop with rfl | rfl <;> (go_enter Tryd.func18, Tryd.ntmps18; go_wp2_with fail; refine (avalid_any _ _ _ _).mono ?_; rintro e w' ⟨rfl, rfl⟩; rw [h1]; go_wp2_with fail; go_ret; exact ⟨retb_eq (a := false) (by simp [validM, h1]), ((Ext.refl w).alloc _).alloc _⟩)
    | true =>
      cases sv with
      | true => rcases hop with rfl | rfl <;> (go_enter Tryd.func18, Tryd.ntmps18; go_wp2_with fail; refine (avalid_any _ _ _ _).mono ?_; rintro e w' ⟨rfl, rfl⟩; rw [h1]; go_wp2_with fail; go_ret; exact ⟨retb_eq (a := false) (by simp [validM, h1]), ((Ext.refl w).alloc _).alloc _⟩)
      | false =>
        cases h2 : validA dv dhi dlo with
        | false => rcases hop with rfl | rfl <;> (go_enter Tryd.func18, Tryd.ntmps18; go_wp2_with fail; refine (avalid_any _ _ _ _).mono ?_; rintro e w' ⟨rfl, rfl⟩; rw [h1]; go_wp2_with fail; refine (avalid_any _ _ _ _).mono ?_; rintro e w' ⟨rfl, rfl⟩; rw [h2]; go_wp2_with fail; go_ret; exact ⟨retb_eq (a := false) (by simp [validM, h1, h2]), (((Ext.refl w).alloc _).alloc _).alloc _⟩)
        | true =>
          cases dv with
          | true => rcases hop with rfl | rfl <;> (go_enter Tryd.func18, Tryd.ntmps18; go_wp2_with fail; refine (avalid_any _ _ _ _).mono ?_; rintro e w' ⟨rfl, rfl⟩; rw [h1]; go_wp2_with fail; refine (avalid_any _ _ _ _).mono ?_; rintro e w' ⟨rfl, rfl⟩; rw [h2]; go_wp2_with fail; go_ret; exact ⟨retb_eq (a := false) (by simp [validM, h1, h2]), (((Ext.refl w).alloc _).alloc _).alloc _⟩)
          | false => rcases hop with rfl | rfl <;> (go_enter Tryd.func18, Tryd.ntmps18; go_wp2_with fail; refine (avalid_any _ _ _ _).mono ?_; rintro e w' ⟨rfl, rfl⟩; rw [h1]; go_wp2_with fail; refine (avalid_any _ _ _ _).mono ?_; rintro e w' ⟨rfl, rfl⟩; rw [h2]; go_wp2_with fail; go_ret; exact ⟨retb_eq (a := true) (by simp [validM, h1, h2]), (((Ext.refl w).alloc _).alloc _).alloc _⟩)
  · have e1 : (op == 1) = false := by simp; omega
    have e2 : (op == 2) = false := by simp; omega
    go_enter Tryd.func18, Tryd.ntmps18; go_wp2_with fail
    go_ret; exact ⟨retb_eq (a := false) (by simp [validM, e1, e2]), (Ext.refl w).alloc _⟩

set_option maxRecDepth 100000 in
set_option maxHeartbeats 4000000 in
theorem rmvalid_any (m : Msg) (w : World) :
    Calls Tryd.prog 19 #[arpV m] w fun e w' => e = .returned (.bool (validM m)) ∧ Ext w w' := by
  obtain ⟨op, fm, ⟨sv, shi, slo⟩, tm, ⟨dv, dhi, dlo⟩⟩ := m
  unfold arpV
  simp only
  by_cases hop : op = 1 ∨ op = 2
  · cases h1 : validA sv shi slo with
    | false => rcases hop with rfl | rfl <;> (go_enter Tryd.func19, Tryd.ntmps19; go_wp2_with fail; refine (rvalid_any _ _ _ _).mono ?_; rintro e w' ⟨rfl, rfl⟩; rw [h1]; go_wp2_with fail; go_ret; exact ⟨retb_eq (a := false) (by simp [validM, h1]), ((Ext.refl w).alloc _).alloc _⟩)
    | true =>
      cases h2 : validA dv dhi dlo with
      | false => cases sv <;> (rcases hop with rfl | rfl <;> (go_enter Tryd.func19, Tryd.ntmps19; go_wp2_with fail; refine (rvalid_any _ _ _ _).mono ?_; rintro e w' ⟨rfl, rfl⟩; rw [h1]; go_wp2_with fail; refine (rvalid_any _ _ _ _).mono ?_; rintro e w' ⟨rfl, rfl⟩; rw [h2]; go_wp2_with fail; go_ret; exact ⟨retb_eq (a := false) (by simp [validM, h1, h2]), (((Ext.refl w).alloc _).alloc _).alloc _⟩))
      | true =>
        cases sv with
        | true => rcases hop with rfl | rfl <;> (go_enter Tryd.func19, Tryd.ntmps19; go_wp2_with fail; refine (rvalid_any _ _ _ _).mono ?_; rintro e w' ⟨rfl, rfl⟩; rw [h1]; go_wp2_with fail; refine (rvalid_any _ _ _ _).mono ?_; rintro e w' ⟨rfl, rfl⟩; rw [h2]; go_wp2_with fail; go_ret; exact ⟨retb_eq (a := false) (by simp [validM, h1, h2]), (((Ext.refl w).alloc _).alloc _).alloc _⟩)
        | false =>
          cases dv with
          | true => rcases hop with rfl | rfl <;> (go_enter Tryd.func19, Tryd.ntmps19; go_wp2_with fail; refine (rvalid_any _ _ _ _).mono ?_; rintro e w' ⟨rfl, rfl⟩; rw [h1]; go_wp2_with fail; refine (rvalid_any _ _ _ _).mono ?_; rintro e w' ⟨rfl, rfl⟩; rw [h2]; go_wp2_with fail; go_ret; exact ⟨retb_eq (a := false) (by simp [validM, h1, h2]), (((Ext.refl w).alloc _).alloc _).alloc _⟩)
          | false => rcases hop with rfl | rfl <;> (go_enter Tryd.func19, Tryd.ntmps19; go_wp2_with fail; refine (rvalid_any _ _ _ _).mono ?_; rintro e w' ⟨rfl, rfl⟩; rw [h1]; go_wp2_with fail; refine (rvalid_any _ _ _ _).mono ?_; rintro e w' ⟨rfl, rfl⟩; rw [h2]; go_wp2_with fail; go_ret; exact ⟨retb_eq (a := true) (by simp [validM, h1, h2]), (((Ext.refl w).alloc _).alloc _).alloc _⟩)
  · have e1 : (op == 1) = false := by simp; omega
    have e2 : (op == 2) = false := by simp; omega
    go_enter Tryd.func19, Tryd.ntmps19; go_wp2_with fail
    go_ret; exact ⟨retb_eq (a := false) (by simp [validM, e1, e2]), (Ext.refl w).alloc _⟩

end Go.Proofs.YtopkbpigaengeaaDoor
