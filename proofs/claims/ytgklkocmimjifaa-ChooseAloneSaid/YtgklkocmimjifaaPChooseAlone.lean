/-
  The best route does not depend on the order of the list, and stays the best one if others are left out: for every input, no condition.
-/
import Derived.Test.YtgklkocmimjifaaOq
import Derived.Test.YtgklkocmimjifaaCl
namespace Go.Proofs.Ytgklkocmimjifaa
open Go.ChangeShapes Go.WideShapes Go.ChangeAt Go.RowKit

set_option maxRecDepth 100000 in
theorem chooseAlone_lifted (os : Os) (started : os.Started) (H : Type) (enc : TypeId × Value → H) :
    ReturnsInHanded {} Try.checked os 5 .any (Rows.chooseAloneSpec.pre6 enc Try.prog Try.f5 Rows.chooseAloneRow.domain false) (Rows.chooseAloneSpec.post enc Try.prog Try.f5 false true false false) := by
  refine returnsInHanded_of_change (C := Try.checked) Try.own started (by kernel_rfl) Try.func5
    (ChangeSpec.witness6 (enc := enc) (C := Try.checked) false ⟨#[], #[.slice none 0 0, .int .i64 0, .int .i64 0], []⟩ 8 (by kernel_rfl) (by kernel_rfl) (by kernel_rfl) (by kernel_rfl)) ?_
  intro W base args ds gs before hval0 hW _ _
  have hval : ∀ (j : Nat) t v, Try.f5.params[j]? = some t → args[j]? = some v → Value.okWide Try.prog W .any base t v := hval0
  have hW' := hW
  obtain ⟨p, q, hA0, hV, rfl, hfz, hnd⟩ := hW
  have hA : DataW.TrodAll enc Try.prog W 0 (fun _ => true) true Try.f5.params.toList args.toList ds p := hA0
  rw [Try.params5] at hA hval
  obtain ⟨v0, vs0, d0, ds0, p0, q0, hv0, rfl, rfl, h0, hA0⟩ := tAll_cons hA
  obtain ⟨v1, vs1, d1, ds1, p1, q1, hv1, rfl, rfl, h1, hA1⟩ := tAll_cons hA0
  obtain ⟨v2, vs2, d2, ds2, p2, q2, hv2, rfl, rfl, h2, hA2⟩ := tAll_cons hA1
  obtain ⟨hvs, rfl, rfl⟩ := tAll_nil hA2
  obtain rfl : args = #[v0, v1, v2] := Array.toList_inj.1 (by rw [hv0, hv1, hv2, hvs])
  obtain ⟨rfl, rfl⟩ := trodVars_none hV
  obtain ⟨x0, o0, R0⟩ := Opens.argS Try.underlying22 (hval 0 22 v0 rfl rfl) h0 opInts
  obtain ⟨x1, rfl, o1⟩ := Opens.argI Try.underlying3 (hval 1 3 v1 rfl rfl) h1
  have R1 : Rep (fun _ => False) W mt (.int .i64 x1) (.base (.int .i64 x1)) := .base _
  obtain ⟨x2, rfl, o2⟩ := Opens.argI Try.underlying3 (hval 2 3 v2 rfl rfl) h2
  have R2 : Rep (fun _ => False) W mt (.int .i64 x2) (.base (.int .i64 x2)) := .base _
  have key := AFn.below (w := W) (vals := #[v0, .int .i64 x1, .int .i64 x2]) (alone_law x0 x1 x2 o0) rfl (fun i x a hx ha => by
    match i with
    | 0 => simp at hx ha; subst hx ha; exact R0
    | 1 => simp at hx ha; subst hx ha; exact R1
    | 2 => simp at hx ha; subst hx ha; exact R2
    | i + 3 => simp at hx)
  refine key.mono fun e W' ⟨he, hb⟩ => ⟨_, he, ?_⟩
  exact law_post Try.laidOut (of_decide_eq_true (by kernel_rfl)) 4 (by kernel_rfl) Try.underlying4 rfl hW' ⟨rfl, rfl, rfl⟩ hb

theorem chooseAlone_holds : Rows.ChooseAloneSaid :=
  OpenClaim.holds_of_wide 5 Try.f5 rfl rfl rfl rfl rfl rfl rfl ⟨rfl, rfl, rfl, rfl, rfl⟩ rfl rfl rfl rfl rfl (by kernel_rfl) Try.func5 (by kernel_rfl)
    (of_decide_eq_true (by kernel_rfl)) (by unfold Func.isWrapper; first | (rw [if_pos (by decide +kernel)]; kernel_rfl) | (rw [if_neg (by decide +kernel)]; exact ⟨rfl, rfl⟩))
    (fun os started H enc _ => chooseAlone_lifted os started H enc)

end Go.Proofs.Ytgklkocmimjifaa
