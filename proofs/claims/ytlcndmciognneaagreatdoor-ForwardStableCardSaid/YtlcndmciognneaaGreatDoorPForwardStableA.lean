/-
  Frames between the same two stations take the same links: for every input, no condition; the listed variable is tied to the program's text.
-/
import Derived.Test.YtlcndmciognneaaGreatDoorQa
import Derived.Test.YtlcndmciognneaaGreatDoorQn
import Derived.Test.YtlcndmciognneaaGreatDoorWl
namespace Go.Proofs.YtlcndmciognneaaGreatDoor
open Go.ChangeShapes Go.WideShapes Go.ChangeAt Go.RowKit

theorem door_met (os : Os) (args : Array Value) : laidMetH Tryz.prog [("exchangepoint/arp.head", Rows.laid_exchangepoint_arp_head)] ((World.doorLaid Tryz.prog 400 os).forCall (fun _ _ => 0) ⟨#[], args, []⟩).memory :=
  laidMetH_of_parts3 (fuel := 8) (laidMet_of_run' 8 (by kernel_rfl) (by kernel_rfl)) (by kernel_rfl) (by kernel_rfl)

set_option maxRecDepth 100000 in
theorem forwardStable_lifted (os : Os) (started : os.Started) (H : Type) (enc : TypeId × Value → H) :
    ReturnsInHanded {} Tryz.checked os 6 .any (fun w args => (Rows.forwardStableSpec.pre enc Tryz.prog Tryz.f6 [] false w args ∧ laidMetH Tryz.prog [("exchangepoint/arp.head", Rows.laid_exchangepoint_arp_head)] w) ∧ sizedMet enc Tryz.prog Tryz.f6 (OpenSpec.ofChange Rows.forwardStableSpec) false w args)
      (Rows.forwardStableSpec.post enc Tryz.prog Tryz.f6 false true false false) := by
  refine returnsInHanded_of_change_and (C := Tryz.checked) (X := fun w _ => laidMetH Tryz.prog [("exchangepoint/arp.head", Rows.laid_exchangepoint_arp_head)] w) (fun _ _ _ hh h => h.of_heap hh) Tryz.own started (by kernel_rfl) Tryz.func6
    (ChangeSpec.witness_shaped (enc := enc) (C := Tryz.checked) (os := os) (X := fun w _ => laidMetH Tryz.prog [("exchangepoint/arp.head", Rows.laid_exchangepoint_arp_head)] w) false (World.doorLaid Tryz.prog 400 os) #[.slice none 0 0, .slice none 0 0] 8 rfl (World.shaped_of_RefB (by kernel_rfl) (by kernel_rfl)) (by kernel_rfl) (by kernel_rfl) (by kernel_rfl) (door_met os _)) ?_
  intro W base args ds gs before hval0 hW _ _ hL _
  have hval : ∀ (j : Nat) t v, Tryz.f6.params[j]? = some t → args[j]? = some v → Value.okWide Tryz.prog W .any base t v := hval0
  have hW' := hW
  obtain ⟨p, q, hA0, hV, rfl, hfz, hnd⟩ := hW
  have hA : DataW.TrodAll enc Tryz.prog W 0 (fun _ => true) true Tryz.f6.params.toList args.toList ds p := hA0
  rw [Tryz.params6] at hA hval
  obtain ⟨v0, vs0, d0, ds0, p0, q0, hv0, rfl, rfl, h0, hA0⟩ := tAll_cons hA
  obtain ⟨v1, vs1, d1, ds1, p1, q1, hv1, rfl, rfl, h1, hA1⟩ := tAll_cons hA0
  obtain ⟨hvs, rfl, rfl⟩ := tAll_nil hA1
  obtain rfl : args = #[v0, v1] := Array.toList_inj.1 (by rw [hv0, hv1, hvs])
  obtain ⟨rfl, rfl⟩ := trodVars_none hV
  obtain ⟨x0, o0, R0⟩ := Opens.argS Tryz.underlying27 (hval 0 27 v0 rfl rfl) h0 opInts
  obtain ⟨x1, o1, R1⟩ := Opens.argS Tryz.underlying24 (hval 1 24 v1 rfl rfl) h1 opBytes
  have key := AFn.below (w := W) (vals := #[v0, v1]) (stable14_law x0 x1 o0 o1) rfl (fun i x a hx ha => by
    match i with
    | 0 => simp at hx ha; subst hx ha; exact R0
    | 1 => simp at hx ha; subst hx ha; exact R1
    | i + 2 => simp at hx) (glob_of_laid hL)
  refine key.mono fun e W' ⟨he, hb⟩ => ⟨_, he, ?_⟩
  exact law_post Tryz.laidOut (of_decide_eq_true (by kernel_rfl)) 4 (by kernel_rfl) Tryz.underlying4 rfl hW' ⟨rfl, rfl, rfl⟩ hb

end Go.Proofs.YtlcndmciognneaaGreatDoor
