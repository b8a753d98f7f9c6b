/-
  Requests, replies, and whether a message asks for its sender's own address.
-/
import Derived.Test.YtopkbpigaengeaaDoorAr
namespace Go.Proofs.YtopkbpigaengeaaDoor
open Go.RowKit

set_option maxHeartbeats 2000000 in
theorem req_any (f : Mac) (s d : Ad) (w : World) :
    Calls Tryd.prog 6 #[macV f, adV s, adV d] w (fun e w' => e = .returned (arpV ⟨1, f, s, mac0, d⟩) ∧ Ext w w') := by
  unfold macV adV
  have HB := Lib.hid (new3 w (.cells (macC f) 24) (.cells (adC s) 27) (.cells (adC d) 27) 29 (arpC msg0))
  have HE : Hid (Ext w ((((w.alloc (.cells (macC f) 24)).alloc (.cells (adC s) 27)).alloc (.cells (adC d) 27)).alloc (.cells (arpC msg0) 29))) := Lib.hid (((((Ext.refl w).alloc _).alloc _).alloc _).alloc _)
  go_enter Tryd.func6, Tryd.ntmps6
  go_wp2_with (refine store_arp rfl (.tmp 6) (.tmp 10) rfl rfl (w.heap.size + 1 + 1 + 1) ⟨1, f, s, mac0, d⟩ msg0 rfl rfl HB.out ?_)
  exact ret_arp rfl HB.out HE.out (by omega) rfl rfl
set_option maxHeartbeats 2000000 in
theorem rreq_any (f : Mac) (s d : Ad) (w : World) :
    Calls Tryd.prog 10 #[macV f, adV s, adV d] w (fun e w' => e = .returned (arpV ⟨1, f, s, mac0, d⟩) ∧ Ext w w') := by
  unfold macV adV
  have HB := Lib.hid (new3 w (.cells (macC f) 24) (.cells (adC s) 27) (.cells (adC d) 27) 29 (arpC msg0))
  have HE : Hid (Ext w ((((w.alloc (.cells (macC f) 24)).alloc (.cells (adC s) 27)).alloc (.cells (adC d) 27)).alloc (.cells (arpC msg0) 29))) := Lib.hid (((((Ext.refl w).alloc _).alloc _).alloc _).alloc _)
  go_enter Tryd.func10, Tryd.ntmps10
  go_wp2_with (refine store_arp rfl (.tmp 6) (.tmp 10) rfl rfl (w.heap.size + 1 + 1 + 1) ⟨1, f, s, mac0, d⟩ msg0 rfl rfl HB.out ?_)
  exact ret_arp rfl HB.out HE.out (by omega) rfl rfl
set_option maxHeartbeats 2000000 in
theorem rep_any (m : Msg) (f : Mac) (w : World) :
    Calls Tryd.prog 9 #[arpV m, macV f] w (fun e w' => e = .returned (arpV ⟨2, f, m.da, m.fm, m.sa⟩) ∧ Ext w w') := by
  unfold macV arpV
  have HB := Lib.hid (new2 w (.cells (arpC m) 29) (.cells (macC f) 24) 29 (arpC msg0))
  have HE : Hid (Ext w (((w.alloc (.cells (arpC m) 29)).alloc (.cells (macC f) 24)).alloc (.cells (arpC msg0) 29))) := Lib.hid ((((Ext.refl w).alloc _).alloc _).alloc _)
  go_enter Tryd.func9, Tryd.ntmps9
  go_wp2_with (refine store_arp rfl (.tmp 4) (.tmp 12) rfl rfl (w.heap.size + 1 + 1) ⟨2, f, m.da, m.fm, m.sa⟩ msg0 rfl rfl HB.out ?_)
  exact ret_arp rfl HB.out HE.out (by omega) rfl rfl
set_option maxHeartbeats 2000000 in
theorem rrep_any (m : Msg) (f : Mac) (w : World) :
    Calls Tryd.prog 11 #[arpV m, macV f] w (fun e w' => e = .returned (arpV ⟨2, f, m.da, m.fm, m.sa⟩) ∧ Ext w w') := by
  unfold macV arpV
  have HB := Lib.hid (new2 w (.cells (arpC m) 29) (.cells (macC f) 24) 29 (arpC msg0))
  have HE : Hid (Ext w (((w.alloc (.cells (arpC m) 29)).alloc (.cells (macC f) 24)).alloc (.cells (arpC msg0) 29))) := Lib.hid ((((Ext.refl w).alloc _).alloc _).alloc _)
  go_enter Tryd.func11, Tryd.ntmps11
  go_wp2_with (refine store_arp rfl (.tmp 4) (.tmp 12) rfl rfl (w.heap.size + 1 + 1) ⟨2, f, m.da, m.fm, m.sa⟩ msg0 rfl rfl HB.out ?_)
  exact ret_arp rfl HB.out HE.out (by omega) rfl rfl
/-- the sender asks for its own address -/
def ownB (m : Msg) : Bool := (m.sa.v6 == m.da.v6) && ((m.sa.hi == m.da.hi) && (m.sa.lo == m.da.lo))
set_option maxHeartbeats 2000000 in
theorem own_any (m : Msg) (w : World) :
    Calls Tryd.prog 12 #[arpV m] w (fun e w' => e = .returned (.bool (ownB m)) ∧ Ext w w') := by
  unfold arpV
  go_enter Tryd.func12, Tryd.ntmps12
  go_wp2_with fail
  all_goals go_ret
  · exact ⟨retb_eq (a := true) (by simp [ownB, *]), (Ext.refl w).alloc _⟩
  · exact ⟨retb_eq (a := false) (by simp [ownB, *]), (Ext.refl w).alloc _⟩
  · exact ⟨retb_eq (a := false) (by simp [ownB, *]), (Ext.refl w).alloc _⟩
  · exact ⟨retb_eq (a := false) (by simp [ownB, *]), (Ext.refl w).alloc _⟩
set_option maxHeartbeats 2000000 in
theorem rown_any (m : Msg) (w : World) :
    Calls Tryd.prog 13 #[arpV m] w (fun e w' => e = .returned (.bool (ownB m)) ∧ Ext w w') := by
  unfold arpV
  go_enter Tryd.func13, Tryd.ntmps13
  go_wp2_with fail
  all_goals go_ret
  · exact ⟨retb_eq (a := true) (by simp [ownB, *]), (Ext.refl w).alloc _⟩
  · exact ⟨retb_eq (a := false) (by simp [ownB, *]), (Ext.refl w).alloc _⟩
  · exact ⟨retb_eq (a := false) (by simp [ownB, *]), (Ext.refl w).alloc _⟩
  · exact ⟨retb_eq (a := false) (by simp [ownB, *]), (Ext.refl w).alloc _⟩

end Go.Proofs.YtopkbpigaengeaaDoor
