/-
  Nobody passes as a router: advertisements, solicitations and redirects are dropped, from whichever address of the port they come: for every input, no condition; the listed variables are tied to the program's text.
-/
import Derived.Test.YtlcndmciognneaaGreatDoorJr
import Derived.Test.YtlcndmciognneaaGreatDoorYza
namespace Go.Proofs.YtlcndmciognneaaGreatDoor
open Go.ChangeShapes Go.WideShapes Go.ChangeAt Go.RowKit

set_option maxRecDepth 100000 in
theorem guardRouters_lifted (os : Os) (started : os.Started) (H : Type) (enc : TypeId × Value → H) :
    ReturnsInHanded {} Tryz.checked os 12 .any (fun w args => (Rows.guardRoutersSpec.pre enc Tryz.prog Tryz.f12 [] false w args ∧ laidMetH Tryz.prog [("unicode/utf8.acceptRanges", Rows.laid_unicode_utf8_acceptRanges), ("exchangepoint/arp.head", Rows.laid_exchangepoint_arp_head), ("unicode/utf8.first", Rows.laid_unicode_utf8_first)] w) ∧ sizedMet enc Tryz.prog Tryz.f12 (OpenSpec.ofChange Rows.guardRoutersSpec) false w args)
      (Rows.guardRoutersSpec.post enc Tryz.prog Tryz.f12 false true false false) := by
  refine returnsInHanded_of_change_and (C := Tryz.checked) (X := fun w _ => laidMetH Tryz.prog [("unicode/utf8.acceptRanges", Rows.laid_unicode_utf8_acceptRanges), ("exchangepoint/arp.head", Rows.laid_exchangepoint_arp_head), ("unicode/utf8.first", Rows.laid_unicode_utf8_first)] w) (fun _ _ _ hh h => h.of_heap hh) Tryz.own started (by kernel_rfl) Tryz.func12
    (ChangeSpec.witness_shaped (enc := enc) (C := Tryz.checked) (os := os) (X := fun w _ => laidMetH Tryz.prog [("unicode/utf8.acceptRanges", Rows.laid_unicode_utf8_acceptRanges), ("exchangepoint/arp.head", Rows.laid_exchangepoint_arp_head), ("unicode/utf8.first", Rows.laid_unicode_utf8_first)] w) false (World.laidAll Tryz.prog os [("unicode/utf8.acceptRanges", Rows.laid_unicode_utf8_acceptRanges), ("exchangepoint/arp.head", Rows.laid_exchangepoint_arp_head), ("unicode/utf8.first", Rows.laid_unicode_utf8_first)]) #[.slice none 0 0, .int .i64 0, .int .i64 0] 8 (World.laidAll_os _ _ _) (World.shaped_of_ZipB (by kernel_rfl) (by kernel_rfl)) (by kernel_rfl) (by kernel_rfl) (by kernel_rfl) (by rw [MakeChecks.laidMetH_plain _ _ _ (by kernel_rfl)]; exact laidMet_laidAll _ (by kernel_rfl) (by kernel_rfl))) ?_
  intro W base args ds gs before hval0 hW _ _ hL _
  have hval : ∀ (j : Nat) t v, Tryz.f12.params[j]? = some t → args[j]? = some v → Value.okWide Tryz.prog W .any base t v := hval0
  have hW' := hW
  obtain ⟨p, q, hA0, hV, rfl, hfz, hnd⟩ := hW
  have hA : DataW.TrodAll enc Tryz.prog W 0 (fun _ => true) true Tryz.f12.params.toList args.toList ds p := hA0
  rw [Tryz.params12] at hA hval
  obtain ⟨v0, vs0, d0, ds0, p0, q0, hv0, rfl, rfl, h0, hA0⟩ := tAll_cons hA
  obtain ⟨v1, vs1, d1, ds1, p1, q1, hv1, rfl, rfl, h1, hA1⟩ := tAll_cons hA0
  obtain ⟨v2, vs2, d2, ds2, p2, q2, hv2, rfl, rfl, h2, hA2⟩ := tAll_cons hA1
  obtain ⟨hvs, rfl, rfl⟩ := tAll_nil hA2
  obtain rfl : args = #[v0, v1, v2] := Array.toList_inj.1 (by rw [hv0, hv1, hv2, hvs])
  obtain ⟨rfl, rfl⟩ := trodVars_none hV
  obtain ⟨x0, o0, R0⟩ := Opens.argS Tryz.underlying27 (hval 0 27 v0 rfl rfl) h0 opInts
  obtain ⟨x1, rfl, o1⟩ := Opens.argI Tryz.underlying3 (hval 1 3 v1 rfl rfl) h1
  have R1 : Rep (fun _ => False) W mt (.int .i64 x1) (.base (.int .i64 x1)) := .base _
  obtain ⟨x2, rfl, o2⟩ := Opens.argI Tryz.underlying3 (hval 2 3 v2 rfl rfl) h2
  have R2 : Rep (fun _ => False) W mt (.int .i64 x2) (.base (.int .i64 x2)) := .base _
  have key := AFn.below (w := W) (vals := #[v0, .int .i64 x1, .int .i64 x2]) (routers_law x0 x1 x2 o0) rfl (fun i x a hx ha => by
    match i with
    | 0 => simp at hx ha; subst hx ha; exact R0
    | 1 => simp at hx ha; subst hx ha; exact R1
    | 2 => simp at hx ha; subst hx ha; exact R2
    | i + 3 => simp at hx) (glob_of_laid3 hL)
  refine key.mono fun e W' ⟨he, hb⟩ => ⟨_, he, ?_⟩
  exact law_post Tryz.laidOut (of_decide_eq_true (by kernel_rfl)) 4 (by kernel_rfl) Tryz.underlying4 rfl hW' ⟨rfl, rfl, rfl⟩ hb

end Go.Proofs.YtlcndmciognneaaGreatDoor
