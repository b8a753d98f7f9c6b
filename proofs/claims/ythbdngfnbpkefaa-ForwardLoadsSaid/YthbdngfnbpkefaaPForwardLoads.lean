/-
  The loads of links by ways and amounts, as the document says: for every input, no condition.
-/
import Derived.Test.YthbdngfnbpkefaaOp
import Derived.Test.YthbdngfnbpkefaaIf
namespace Go.Proofs.Ythbdngfnbpkefaa
open Go.ChangeShapes Go.WideShapes Go.ChangeAt Go.RowKit

set_option maxRecDepth 100000 in
theorem forwardLoads_lifted (os : Os) (started : os.Started) (H : Type) (enc : TypeId × Value → H) :
    ReturnsInHanded {} Try.checked os 14 .any (Rows.forwardLoadsSpec.pre6 enc Try.prog Try.f14 Rows.forwardLoadsRow.domain false) (Rows.forwardLoadsSpec.post enc Try.prog Try.f14 false true false false) := by
  refine returnsInHanded_of_change (C := Try.checked) Try.own started (by kernel_rfl) Try.func14
    (ChangeSpec.witness6 (enc := enc) (C := Try.checked) false ⟨#[], #[.slice none 0 0, .slice none 0 0, .slice none 0 0], []⟩ 8 (by kernel_rfl) (by kernel_rfl) (by kernel_rfl) (by kernel_rfl)) ?_
  intro W base args ds gs before hval0 hW _ _
  have hval : ∀ (j : Nat) t v, Try.f14.params[j]? = some t → args[j]? = some v → Value.okWide Try.prog W .any base t v := hval0
  have hW' := hW
  obtain ⟨p, q, hA0, hV, rfl, hfz, hnd⟩ := hW
  have hA : DataW.TrodAll enc Try.prog W 0 (fun _ => true) true Try.f14.params.toList args.toList ds p := hA0
  rw [Try.params14] at hA hval
  obtain ⟨v0, vs0, d0, ds0, p0, q0, hv0, rfl, rfl, h0, hA0⟩ := tAll_cons hA
  obtain ⟨v1, vs1, d1, ds1, p1, q1, hv1, rfl, rfl, h1, hA1⟩ := tAll_cons hA0
  obtain ⟨v2, vs2, d2, ds2, p2, q2, hv2, rfl, rfl, h2, hA2⟩ := tAll_cons hA1
  obtain ⟨hvs, rfl, rfl⟩ := tAll_nil hA2
  obtain rfl : args = #[v0, v1, v2] := Array.toList_inj.1 (by rw [hv0, hv1, hv2, hvs])
  obtain ⟨rfl, rfl⟩ := trodVars_none hV
  obtain ⟨x0, o0, R0⟩ := Opens.argS Try.underlying26 (hval 0 26 v0 rfl rfl) h0 opInts
  obtain ⟨x1, o1, R1⟩ := Opens.argS Try.underlying60 (hval 1 60 v1 rfl rfl) h1 opIntss
  obtain ⟨x2, o2, R2⟩ := Opens.argS Try.underlying26 (hval 2 26 v2 rfl rfl) h2 opInts
  have key := AFn.below (w := W) (vals := #[v0, v1, v2]) (loads_law x0 x1 x2 o0 o1 o2) rfl (fun i x a hx ha => by
    match i with
    | 0 => simp at hx ha; subst hx ha; exact R0
    | 1 => simp at hx ha; subst hx ha; exact R1
    | 2 => simp at hx ha; subst hx ha; exact R2
    | i + 3 => simp at hx)
  refine key.mono fun e W' ⟨he, hb⟩ => ⟨_, he, ?_⟩
  exact law_post Try.laidOut (of_decide_eq_true (by kernel_rfl)) 4 (by kernel_rfl) Try.underlying4 rfl hW' ⟨rfl, rfl, rfl⟩ hb

theorem forwardLoads_holds : Rows.ForwardLoadsSaid :=
  OpenClaim.holds_of_wide 14 Try.f14 rfl rfl rfl rfl rfl rfl rfl ⟨rfl, rfl, rfl, rfl, rfl⟩ rfl rfl rfl rfl rfl (by kernel_rfl) Try.func14 (by kernel_rfl)
    (of_decide_eq_true (by kernel_rfl)) (by unfold Func.isWrapper; first | (rw [if_pos (by decide +kernel)]; kernel_rfl) | (rw [if_neg (by decide +kernel)]; exact ⟨rfl, rfl⟩))
    (fun os started H enc _ => forwardLoads_lifted os started H enc)

end Go.Proofs.Ythbdngfnbpkefaa
