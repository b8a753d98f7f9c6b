/-
  A frame is delivered to a port only if its destination is a station of the port, or it asks for an address of the port: for every input, no condition; the listed variable is tied to the program's text.
-/
import Derived.Test.YtcidmiacfjdepaaDoorLy
import Derived.Test.YtcidmiacfjdepaaDoorVd
import Derived.Test.YtcidmiacfjdepaaDoorMab
namespace Go.Proofs.YtcidmiacfjdepaaDoor
open Go.ChangeShapes Go.WideShapes Go.ChangeAt Go.RowKit

theorem door_met (os : Os) (args : Array Value) : laidMetH Tryd.prog [("exchangepoint/arp.head", Rows.laid_exchangepoint_arp_head)] ((World.doorLaid Tryd.prog 400 os).forCall (fun _ _ => 0) ⟨#[], args, []⟩).memory :=
  laidMetH_of_parts3 (fuel := 8) (laidMet_of_run' 8 (by kernel_rfl) (by kernel_rfl)) (by kernel_rfl) (by kernel_rfl)

set_option maxRecDepth 100000 in
theorem resolveBelongs_lifted (os : Os) (started : os.Started) (H : Type) (enc : TypeId × Value → H) :
    ReturnsInHanded {} Tryd.checked os 5 .any (fun w args => (Rows.resolveBelongsSpec.pre enc Tryd.prog Tryd.f5 [] false w args ∧ laidMetH Tryd.prog [("exchangepoint/arp.head", Rows.laid_exchangepoint_arp_head)] w) ∧ sizedMet enc Tryd.prog Tryd.f5 (OpenSpec.ofChange Rows.resolveBelongsSpec) false w args)
      (Rows.resolveBelongsSpec.post enc Tryd.prog Tryd.f5 false true false false) := by
  refine returnsInHanded_of_change_and (C := Tryd.checked) (X := fun w _ => laidMetH Tryd.prog [("exchangepoint/arp.head", Rows.laid_exchangepoint_arp_head)] w) (fun _ _ _ hh h => h.of_heap hh) Tryd.own started (by kernel_rfl) Tryd.func5
    (ChangeSpec.witness_shaped (enc := enc) (C := Tryd.checked) (os := os) (X := fun w _ => laidMetH Tryd.prog [("exchangepoint/arp.head", Rows.laid_exchangepoint_arp_head)] w) false (World.doorLaid Tryd.prog 400 os) #[.slice none 0 0] 8 rfl (World.shaped_of_RefB (by kernel_rfl) (by kernel_rfl)) (by kernel_rfl) (by kernel_rfl) (by kernel_rfl) (door_met os _)) ?_
  intro W base args ds gs before hval0 hW _ _ hL _
  have hval : ∀ (j : Nat) t v, Tryd.f5.params[j]? = some t → args[j]? = some v → Value.okWide Tryd.prog W .any base t v := hval0
  have hW' := hW
  obtain ⟨p, q, hA0, hV, rfl, hfz, hnd⟩ := hW
  have hA : DataW.TrodAll enc Tryd.prog W 0 (fun _ => true) true Tryd.f5.params.toList args.toList ds p := hA0
  rw [Tryd.params5] at hA hval
  obtain ⟨v0, vs0, d0, ds0, p0, q0, hv0, rfl, rfl, h0, hA0⟩ := tAll_cons hA
  obtain ⟨hvs, rfl, rfl⟩ := tAll_nil hA0
  obtain rfl : args = #[v0] := Array.toList_inj.1 (by rw [hv0, hvs])
  obtain ⟨rfl, rfl⟩ := trodVars_none hV
  obtain ⟨x0, o0, R0⟩ := Opens.argS Tryd.underlying22 (hval 0 22 v0 rfl rfl) h0 opInts
  have key := AFn.below (w := W) (vals := #[v0]) (belongs_law x0 o0) rfl (fun i x a hx ha => by
    match i with
    | 0 => simp at hx ha; subst hx ha; exact R0
    | i + 1 => simp at hx) (glob_of_laid hL)
  refine key.mono fun e W' ⟨he, hb⟩ => ⟨_, he, ?_⟩
  exact law_post Tryd.laidOut (of_decide_eq_true (by kernel_rfl)) 4 (by kernel_rfl) Tryd.underlying4 rfl hW' ⟨rfl, rfl, rfl⟩ hb

theorem resolveBelongs_row : Rows.ResolveBelongsSaid :=
  OpenClaim.holds_of_wide 5 Tryd.f5 rfl rfl rfl rfl rfl rfl rfl ⟨rfl, rfl, rfl, rfl, rfl⟩ rfl rfl rfl rfl rfl (by kernel_rfl) Tryd.func5 (by kernel_rfl)
    (of_decide_eq_true (by kernel_rfl)) (by unfold Func.isWrapper; first | (rw [if_pos (by decide +kernel)]; kernel_rfl) | (rw [if_neg (by decide +kernel)]; exact ⟨rfl, rfl⟩))
    (fun os started H enc _ => resolveBelongs_lifted os started H enc)

theorem resolveBelongs_holds : Rows.ResolveBelongsCardSaid :=
  Claim7.holds_tied_plain_at .later [] [.widerDeep] true (true, "e0c231aae7d526de9db208163e3fa5aac350eff96e8d3ea85537723d73c560d2") false
    resolveBelongs_row (fun _ h => by cases h) (by kernel_rfl) (fun _ h => by cases h) resolveBelongs_row_tie rfl ⟨rfl, rfl⟩ (by kernel_rfl) rfl
    (fun f fn hf hfn => by
      obtain rfl : f = 5 := Option.some.inj ((show Tryd.prog.funcNamed "exchangepoint/exchangepointlaw11.ResolveBelongs" = some 5 by kernel_rfl).symm.trans hf) |>.symm
      obtain rfl : fn = Tryd.f5 := (Option.some.inj (Tryd.func5.symm.trans hfn)).symm
      exact ⟨by kernel_rfl, fun j t ht => by
        rw [Tryd.params5] at ht
        have hm : t ∈ [22] := by simpa using Array.mem_of_getElem? ht
        have hall : ([22].all fun u => !Tryd.prog.wantsStandIn u) = true := by kernel_rfl
        exact (show Tryd.prog.wantsStandIn t = false by simpa using List.all_eq_true.1 hall t hm)⟩)
    (by kernel_rfl)

end Go.Proofs.YtcidmiacfjdepaaDoor
