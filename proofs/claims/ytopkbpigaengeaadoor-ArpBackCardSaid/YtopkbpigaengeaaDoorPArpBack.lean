/-
  A message that is encoded is read back, with any bytes after it: for every input, no condition; the listed variable is tied to the program's text.
-/
import Derived.Test.YtopkbpigaengeaaDoorBk
import Derived.Test.YtopkbpigaengeaaDoorAo
import Derived.Test.YtopkbpigaengeaaDoorCards
import Derived.Test.YtopkbpigaengeaaDoorTie
import Derived.SevenTiedAt
namespace Go.Proofs.YtopkbpigaengeaaDoor
open Go.ChangeShapes Go.WideShapes Go.ChangeAt Go.RowKit

theorem door_met (os : Os) (args : Array Value) : laidMetH Tryd.prog [("exchangepoint/arp.head", Rows.laid_exchangepoint_arp_head)] ((World.doorLaid Tryd.prog 400 os).forCall (fun _ _ => 0) ⟨#[], args, []⟩).memory :=
  laidMetH_of_parts3 (fuel := 8) (laidMet_of_run' 8 (by kernel_rfl) (by kernel_rfl)) (by kernel_rfl) (by kernel_rfl)

set_option maxRecDepth 100000 in
theorem back_lifted (os : Os) (started : os.Started) (H : Type) (enc : TypeId × Value → H) :
    ReturnsInHanded {} Tryd.checked os 5 .any (fun w args => (Rows.arpBackSpec.pre enc Tryd.prog Tryd.f5 [] false w args ∧ laidMetH Tryd.prog [("exchangepoint/arp.head", Rows.laid_exchangepoint_arp_head)] w) ∧ sizedMet enc Tryd.prog Tryd.f5 (OpenSpec.ofChange Rows.arpBackSpec) false w args)
      (Rows.arpBackSpec.post enc Tryd.prog Tryd.f5 false true false false) := by
  refine returnsInHanded_of_change_and (C := Tryd.checked) (X := fun w _ => laidMetH Tryd.prog [("exchangepoint/arp.head", Rows.laid_exchangepoint_arp_head)] w) (fun _ _ _ hh h => h.of_heap hh) Tryd.own started (by kernel_rfl) Tryd.func5
    (ChangeSpec.witness_shaped (enc := enc) (C := Tryd.checked) (os := os) (X := fun w _ => laidMetH Tryd.prog [("exchangepoint/arp.head", Rows.laid_exchangepoint_arp_head)] w) false (World.doorLaid Tryd.prog 400 os) #[.slice none 0 0, .slice none 0 0] 8 rfl (World.shaped_of_RefB (by kernel_rfl) (by kernel_rfl)) (by kernel_rfl) (by kernel_rfl) (by kernel_rfl) (door_met os _)) ?_
  intro W base args ds gs before hval0 hW _ _ hL _
  have hval : ∀ (j : Nat) t v, Tryd.f5.params[j]? = some t → args[j]? = some v → Value.okWide Tryd.prog W .any base t v := hval0
  have hW' := hW
  obtain ⟨p, q, hA0, hV, rfl, hfz, hnd⟩ := hW
  have hA : DataW.TrodAll enc Tryd.prog W 0 (fun _ => true) true Tryd.f5.params.toList args.toList ds p := hA0
  rw [Tryd.params5] at hA hval
  obtain ⟨v0, v1, d0, d1, p0, p1, rfl, rfl, rfl, h0, h1⟩ := trodAll_two hA
  obtain ⟨rfl, rfl⟩ := trodVars_none hV
  obtain ⟨a1, len, cap, rfl⟩ := okWide_slice Tryd.underlying22 (hval 0 22 v0 rfl rfl)
  obtain ⟨a0, n0, c0, rfl⟩ := okWide_slice Tryd.underlying38 (hval 1 38 v1 rfl rfl)
  obtain ⟨fuel1, hf1⟩ := h1
  obtain ⟨fuel0, hf0⟩ := h0
  clear hA0 hval0
  obtain ⟨bs, hB, A, c, hv, hc, hr⟩ := open_bytes hf1
  injection hv with hv1 hv2 hv3
  subst hv1 hv2 hv3
  obtain ⟨zs, hlen, hz⟩ := open_nums hf0
  have key : Calls Tryd.prog 5 #[.slice a1 len cap, .slice a0 bs.length c0] W (LawPost W) := by
    by_cases hs : 600 < bs.length
    · exact back_long _ _ _ _ _ _ _ (head_of_laid hL) hs
    · exact back_main a0 c0 bs a1 len cap zs W (head_of_laid hL) (by omega) hB hr hlen hz
  refine key.mono fun e W' ⟨he, hb⟩ => ⟨_, he, ?_⟩
  exact law_post Tryd.laidOut (of_decide_eq_true (by kernel_rfl)) 4 (by kernel_rfl) Tryd.underlying4 rfl hW' ⟨rfl, rfl, rfl⟩ hb

theorem arpBack_row : Rows.ArpBackSaid :=
  OpenClaim.holds_of_wide 5 Tryd.f5 rfl rfl rfl rfl rfl rfl rfl ⟨rfl, rfl, rfl, rfl, rfl⟩ rfl rfl rfl rfl rfl (by kernel_rfl) Tryd.func5 (by kernel_rfl)
    (of_decide_eq_true (by kernel_rfl)) (by unfold Func.isWrapper; first | (rw [if_pos (by decide +kernel)]; kernel_rfl) | (rw [if_neg (by decide +kernel)]; exact ⟨rfl, rfl⟩))
    (fun os started H enc _ => back_lifted os started H enc)

theorem arpBack_holds : Rows.ArpBackCardSaid :=
  Claim7.holds_tied_plain_at .later [] [.widerDeep] true (true, "faafc3efb51e71193dfc3ba292965164099c1ce47b526df171c45b742d552228") false
    arpBack_row (fun _ h => by cases h) (by kernel_rfl) (fun _ h => by cases h) arpBack_row_tie rfl ⟨rfl, rfl⟩ (by kernel_rfl) rfl
    (fun f fn hf hfn => by
      obtain rfl : f = 5 := Option.some.inj ((show Tryd.prog.funcNamed "exchangepoint/exchangepointlaw05.ArpBack" = some 5 by kernel_rfl).symm.trans hf) |>.symm
      obtain rfl : fn = Tryd.f5 := (Option.some.inj (Tryd.func5.symm.trans hfn)).symm
      exact ⟨by kernel_rfl, fun j t ht => by
        rw [Tryd.params5] at ht
        have hm : t ∈ [22, 38] := by simpa using Array.mem_of_getElem? ht
        have hall : ([22, 38].all fun u => !Tryd.prog.wantsStandIn u) = true := by kernel_rfl
        exact (show Tryd.prog.wantsStandIn t = false by simpa using List.all_eq_true.1 hall t hm)⟩)
    (by kernel_rfl)

end Go.Proofs.YtopkbpigaengeaaDoor
