/-
  What becomes of a frame from a port: the verdict, the delivery, and the budget: for every input, no condition; the listed variable is tied to the program's text.
-/
import Derived.Test.YtlcndmciognneaaGreatDoorVe
import Derived.Test.YtlcndmciognneaaGreatDoorWi
namespace Go.Proofs.YtlcndmciognneaaGreatDoor
open Go.ChangeShapes Go.WideShapes Go.ChangeAt Go.RowKit

theorem door_met (os : Os) (args : Array Value) : laidMetH Tryz.prog [("exchangepoint/arp.head", Rows.laid_exchangepoint_arp_head)] ((World.doorLaid Tryz.prog 400 os).forCall (fun _ _ => 0) ⟨#[], args, []⟩).memory :=
  laidMetH_of_parts3 (fuel := 8) (laidMet_of_run' 8 (by kernel_rfl) (by kernel_rfl)) (by kernel_rfl) (by kernel_rfl)

set_option maxRecDepth 100000 in
theorem forwardSends_lifted (os : Os) (started : os.Started) (H : Type) (enc : TypeId × Value → H) :
    ReturnsInHanded {} Tryz.checked os 3 .any (fun w args => (Rows.forwardSendsSpec.pre enc Tryz.prog Tryz.f3 [] false w args ∧ laidMetH Tryz.prog [("exchangepoint/arp.head", Rows.laid_exchangepoint_arp_head)] w) ∧ sizedMet enc Tryz.prog Tryz.f3 (OpenSpec.ofChange Rows.forwardSendsSpec) false w args)
      (Rows.forwardSendsSpec.post enc Tryz.prog Tryz.f3 false true false false) := by
  refine returnsInHanded_of_change_and (C := Tryz.checked) (X := fun w _ => laidMetH Tryz.prog [("exchangepoint/arp.head", Rows.laid_exchangepoint_arp_head)] w) (fun _ _ _ hh h => h.of_heap hh) Tryz.own started (by kernel_rfl) Tryz.func3
    (ChangeSpec.witness_shaped (enc := enc) (C := Tryz.checked) (os := os) (X := fun w _ => laidMetH Tryz.prog [("exchangepoint/arp.head", Rows.laid_exchangepoint_arp_head)] w) false (World.doorLaid Tryz.prog 400 os) #[.agg #[.int .u8 0, .int .u8 0, .int .u8 0, .int .u8 0, .int .u8 0, .int .u8 0, .int .u8 0, .int .u8 0, .int .u8 0, .int .u8 0, .int .u8 0, .int .u8 0, .int .i64 0, .int .i64 0, .slice none 0 0], .slice none 0 0, .int .i64 0, .int .i64 0] 8 rfl (World.shaped_of_RefB (by kernel_rfl) (by kernel_rfl)) (by kernel_rfl) (by kernel_rfl) (by kernel_rfl) (door_met os _)) ?_
  intro W base args ds gs before hval0 hW _ _ hL _
  have hval : ∀ (j : Nat) t v, Tryz.f3.params[j]? = some t → args[j]? = some v → Value.okWide Tryz.prog W .any base t v := hval0
  have hW' := hW
  obtain ⟨p, q, hA0, hV, rfl, hfz, hnd⟩ := hW
  have hA : DataW.TrodAll enc Tryz.prog W 0 (fun _ => true) true Tryz.f3.params.toList args.toList ds p := hA0
  rw [Tryz.params3] at hA hval
  obtain ⟨v0, vs0, d0, ds0, p0, q0, hv0, rfl, rfl, h0, hA0⟩ := tAll_cons hA
  obtain ⟨v1, vs1, d1, ds1, p1, q1, hv1, rfl, rfl, h1, hA1⟩ := tAll_cons hA0
  obtain ⟨v2, vs2, d2, ds2, p2, q2, hv2, rfl, rfl, h2, hA2⟩ := tAll_cons hA1
  obtain ⟨v3, vs3, d3, ds3, p3, q3, hv3, rfl, rfl, h3, hA3⟩ := tAll_cons hA2
  obtain ⟨hvs, rfl, rfl⟩ := tAll_nil hA3
  obtain rfl : args = #[v0, v1, v2, v3] := Array.toList_inj.1 (by rw [hv0, hv1, hv2, hv3, hvs])
  obtain ⟨rfl, rfl⟩ := trodVars_none hV
  obtain ⟨x0, o0, R0⟩ := Opens.argT Tryz.underlying26 (hval 0 26 v0 rfl rfl) h0 opFr
  obtain ⟨x1, o1, R1⟩ := Opens.argS Tryz.underlying27 (hval 1 27 v1 rfl rfl) h1 opInts
  obtain ⟨x2, rfl, o2⟩ := Opens.argI Tryz.underlying3 (hval 2 3 v2 rfl rfl) h2
  have R2 : Rep (fun _ => False) W mt (.int .i64 x2) (.base (.int .i64 x2)) := .base _
  obtain ⟨x3, rfl, o3⟩ := Opens.argI Tryz.underlying3 (hval 3 3 v3 rfl rfl) h3
  have R3 : Rep (fun _ => False) W mt (.int .i64 x3) (.base (.int .i64 x3)) := .base _
  have key := AFn.below (w := W) (vals := #[v0, v1, .int .i64 x2, .int .i64 x3]) (sends_law x0 x1 x2 x3 o0 o1) rfl (fun i x a hx ha => by
    match i with
    | 0 => simp at hx ha; subst hx ha; exact R0
    | 1 => simp at hx ha; subst hx ha; exact R1
    | 2 => simp at hx ha; subst hx ha; exact R2
    | 3 => simp at hx ha; subst hx ha; exact R3
    | i + 4 => simp at hx) (glob_of_laid hL)
  refine key.mono fun e W' ⟨he, hb⟩ => ⟨_, he, ?_⟩
  exact law_post Tryz.laidOut (of_decide_eq_true (by kernel_rfl)) 4 (by kernel_rfl) Tryz.underlying4 rfl hW' ⟨rfl, rfl, rfl⟩ hb

end Go.Proofs.YtlcndmciognneaaGreatDoor
