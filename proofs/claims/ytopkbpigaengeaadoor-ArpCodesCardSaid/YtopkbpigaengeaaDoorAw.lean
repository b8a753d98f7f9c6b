/-
  The check that the program is awake.
-/
import Derived.Test.YtopkbpigaengeaaDoorAe
namespace Go.Proofs.YtopkbpigaengeaaDoor
open Go.RowKit

def wakeM : Msg := ⟨1, mkMac 1, ⟨false, 0, 3221225985⟩, mac0, ⟨false, 0, 3221225986⟩⟩
theorem wakeM_ok : MsgOk wakeM := by
  refine ⟨.inl rfl, mkMac_ok _, ⟨rfl, rfl, by decide, by decide⟩, ?_, ⟨rfl, rfl, by decide, by decide⟩⟩
  unfold MacOk wakeM mac0
  simp only
  omega
theorem wake_bytes : (encM wakeM).drop 24 = [192, 0, 2, 2] := by decide +kernel

set_option maxHeartbeats 2000000 in
theorem awake_any (w : World) (hh : HeadAt w) :
    Calls Tryd.prog 14 #[] w fun e w' => e = .returned (.bool true) ∧ Ext w w' := by
  go_enter Tryd.func14, Tryd.ntmps14
  go_wp2_with fail
  refine (mac_any 1 (by omega) _).mono ?_
  rintro e w1 ⟨rfl, hE1⟩
  go_wp2_with fail
  refine (req_any (mkMac 1) ⟨false, 0, 3221225985⟩ ⟨false, 0, 3221225986⟩ _).mono ?_
  rintro e w2 ⟨rfl, hE2⟩
  go_wp2_with fail
  refine (aenc_ok wakeM _ wakeM_ok (hh.ext (hE1.trans hE2))).mono ?_
  rintro e w3 ⟨v, rfl, ⟨A, c, rfl, hc, hr⟩, hE3⟩
  have hl : (encM wakeM).length = 28 := encM_len _
  obtain ⟨b, off, rfl, _, _⟩ := hr.2 (by omega)
  have hd : Reads w3 w3.heap.size 1 (some ⟨b, off + 24, none⟩) 4 (bytesV [192, 0, 2, 2]) := by
    have := hr.from (k := 24) (by omega)
    rw [wake_bytes] at this
    rw [hl] at this
    exact this
  have hs : (convert 38 9 (.slice (some ⟨b, off + 24, none⟩) 4 (c - 24))).run Tryd.prog w3 = .ok (.string ⟨#[192, 0, 2, 2]⟩) w3 := str_any (c := c - 24) hd
  rw [hl] at hc
  rw [hl]
  have hc24 : ¬ c = 24 := by omega
  have hE := (hE1.trans hE2).trans hE3
  clear hr hd hE1 hE2 hE3 hl hh
  go_wp2_with fail
  go_ret
  exact ⟨rfl, hE⟩

end Go.Proofs.YtopkbpigaengeaaDoor
