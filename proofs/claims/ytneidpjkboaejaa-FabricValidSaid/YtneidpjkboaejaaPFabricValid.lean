/-
  A fabric is valid in one text exactly if it is in the other, and so are its links' works: for every input, no condition.
-/
import Derived.Test.YtneidpjkboaejaaOx
import Derived.Test.YtneidpjkboaejaaVb
namespace Go.Proofs.Ytneidpjkboaejaa
open Go.ChangeShapes Go.WideShapes Go.ChangeAt Go.RowKit

set_option maxRecDepth 100000 in
theorem fabricValid_lifted (os : Os) (started : os.Started) (H : Type) (enc : TypeId × Value → H) :
    ReturnsInHanded {} Try.checked os 3 .any (Rows.fabricValidSpec.pre6 enc Try.prog Try.f3 Rows.fabricValidRow.domain false) (Rows.fabricValidSpec.post enc Try.prog Try.f3 false true false false) := by
  refine returnsInHanded_of_change (C := Try.checked) Try.own started (by kernel_rfl) Try.func3
    (ChangeSpec.witness6 (enc := enc) (C := Try.checked) false ⟨#[], #[.agg #[.int .i64 0, .slice none 0 0, .slice none 0 0, .slice none 0 0], .slice none 0 0, .int .i64 0, .int .i64 0, .int .i64 0], []⟩ 8 (by kernel_rfl) (by kernel_rfl) (by kernel_rfl) (by kernel_rfl)) ?_
  intro W base args ds gs before hval0 hW _ _
  have hval : ∀ (j : Nat) t v, Try.f3.params[j]? = some t → args[j]? = some v → Value.okWide Try.prog W .any base t v := hval0
  have hW' := hW
  obtain ⟨p, q, hA0, hV, rfl, hfz, hnd⟩ := hW
  have hA : DataW.TrodAll enc Try.prog W 0 (fun _ => true) true Try.f3.params.toList args.toList ds p := hA0
  rw [Try.params3] at hA hval
  obtain ⟨v0, vs0, d0, ds0, p0, q0, hv0, rfl, rfl, h0, hA0⟩ := tAll_cons hA
  obtain ⟨v1, vs1, d1, ds1, p1, q1, hv1, rfl, rfl, h1, hA1⟩ := tAll_cons hA0
  obtain ⟨v2, vs2, d2, ds2, p2, q2, hv2, rfl, rfl, h2, hA2⟩ := tAll_cons hA1
  obtain ⟨v3, vs3, d3, ds3, p3, q3, hv3, rfl, rfl, h3, hA3⟩ := tAll_cons hA2
  obtain ⟨v4, vs4, d4, ds4, p4, q4, hv4, rfl, rfl, h4, hA4⟩ := tAll_cons hA3
  obtain ⟨hvs, rfl, rfl⟩ := tAll_nil hA4
  obtain rfl : args = #[v0, v1, v2, v3, v4] := Array.toList_inj.1 (by rw [hv0, hv1, hv2, hv3, hv4, hvs])
  obtain ⟨rfl, rfl⟩ := trodVars_none hV
  obtain ⟨x0, o0, R0⟩ := Opens.argT Try.underlying25 (hval 0 25 v0 rfl rfl) h0 opFab
  obtain ⟨x1, o1, R1⟩ := Opens.argS Try.underlying26 (hval 1 26 v1 rfl rfl) h1 opInts
  obtain ⟨x2, rfl, o2⟩ := Opens.argI Try.underlying3 (hval 2 3 v2 rfl rfl) h2
  have R2 : Rep (fun _ => False) W mt (.int .i64 x2) (.base (.int .i64 x2)) := .base _
  obtain ⟨x3, rfl, o3⟩ := Opens.argI Try.underlying3 (hval 3 3 v3 rfl rfl) h3
  have R3 : Rep (fun _ => False) W mt (.int .i64 x3) (.base (.int .i64 x3)) := .base _
  obtain ⟨x4, rfl, o4⟩ := Opens.argI Try.underlying3 (hval 4 3 v4 rfl rfl) h4
  have R4 : Rep (fun _ => False) W mt (.int .i64 x4) (.base (.int .i64 x4)) := .base _
  have key := AFn.below (w := W) (vals := #[v0, v1, .int .i64 x2, .int .i64 x3, .int .i64 x4]) (valid_law x0 x1 x2 x3 x4 o1) rfl (fun i x a hx ha => by
    match i with
    | 0 => simp at hx ha; subst hx ha; exact R0
    | 1 => simp at hx ha; subst hx ha; exact R1
    | 2 => simp at hx ha; subst hx ha; exact R2
    | 3 => simp at hx ha; subst hx ha; exact R3
    | 4 => simp at hx ha; subst hx ha; exact R4
    | i + 5 => simp at hx) (fun _ _ h => by cases h)
  refine key.mono fun e W' ⟨he, hb⟩ => ⟨_, he, ?_⟩
  exact law_post Try.laidOut (of_decide_eq_true (by kernel_rfl)) 4 (by kernel_rfl) Try.underlying4 rfl hW' ⟨rfl, rfl, rfl⟩ hb

theorem fabricValid_holds : Rows.FabricValidSaid :=
  OpenClaim.holds_of_wide 3 Try.f3 rfl rfl rfl rfl rfl rfl rfl ⟨rfl, rfl, rfl, rfl, rfl⟩ rfl rfl rfl rfl rfl (by kernel_rfl) Try.func3 (by kernel_rfl)
    (of_decide_eq_true (by kernel_rfl)) (by unfold Func.isWrapper; first | (rw [if_pos (by decide +kernel)]; kernel_rfl) | (rw [if_neg (by decide +kernel)]; exact ⟨rfl, rfl⟩))
    (fun os started H enc _ => fabricValid_lifted os started H enc)

end Go.Proofs.Ytneidpjkboaejaa
