/-
  A payload stands exactly where a signed object, in its days, backed by a certificate of the chain, lists it: for every input, no condition; the listed variables are tied to the program's text.
-/
import Derived.Test.YtbfnfgpjgdbmeaaGreatDoorLt
import Derived.Test.YtbfnfgpjgdbmeaaGreatDoorNx
namespace Go.Proofs.YtbfnfgpjgdbmeaaGreatDoor
open Go.ChangeShapes Go.WideShapes Go.ChangeAt Go.RowKit

set_option maxRecDepth 100000 in
theorem topHolders_lifted (os : Os) (started : os.Started) (H : Type) (enc : TypeId × Value → H) :
    ReturnsInHanded {} Tryz.checked os 3 .any (fun w args => (Rows.topHoldersSpec.pre enc Tryz.prog Tryz.f3 [] false w args ∧ laidMetH Tryz.prog [("math/bits.deBruijn32tab", Rows.laid_math_bits_deBruijn32tab), ("math/bits.deBruijn64tab", Rows.laid_math_bits_deBruijn64tab), ("internal/strconv.uint64pow10", Rows.laid_internal_strconv_uint64pow10), ("unicode/utf8.acceptRanges", Rows.laid_unicode_utf8_acceptRanges), ("strconv.ErrRange", Rows.laid_strconv_ErrRange), ("strconv.ErrSyntax", Rows.laid_strconv_ErrSyntax), ("exchangepoint/arp.head", Rows.laid_exchangepoint_arp_head), ("exchangepoint/resource.addresses", Rows.laid_exchangepoint_resource_addresses), ("exchangepoint/resource.numbers", Rows.laid_exchangepoint_resource_numbers), ("unicode/utf8.first", Rows.laid_unicode_utf8_first)] w) ∧ sizedMet enc Tryz.prog Tryz.f3 (OpenSpec.ofChange Rows.topHoldersSpec) false w args)
      (Rows.topHoldersSpec.post enc Tryz.prog Tryz.f3 false true false false) := by
  refine returns_and_shaped (C := Tryz.checked) (X := fun w _ => laidMetH Tryz.prog [("math/bits.deBruijn32tab", Rows.laid_math_bits_deBruijn32tab), ("math/bits.deBruijn64tab", Rows.laid_math_bits_deBruijn64tab), ("internal/strconv.uint64pow10", Rows.laid_internal_strconv_uint64pow10), ("unicode/utf8.acceptRanges", Rows.laid_unicode_utf8_acceptRanges), ("strconv.ErrRange", Rows.laid_strconv_ErrRange), ("strconv.ErrSyntax", Rows.laid_strconv_ErrSyntax), ("exchangepoint/arp.head", Rows.laid_exchangepoint_arp_head), ("exchangepoint/resource.addresses", Rows.laid_exchangepoint_resource_addresses), ("exchangepoint/resource.numbers", Rows.laid_exchangepoint_resource_numbers), ("unicode/utf8.first", Rows.laid_unicode_utf8_first)] w) (fun _ _ _ hh h => h.of_heap hh) Tryz.own started (by kernel_rfl) Tryz.func3
    (ChangeSpec.witness_shaped (enc := enc) (C := Tryz.checked) (os := os) (X := fun w _ => laidMetH Tryz.prog [("math/bits.deBruijn32tab", Rows.laid_math_bits_deBruijn32tab), ("math/bits.deBruijn64tab", Rows.laid_math_bits_deBruijn64tab), ("internal/strconv.uint64pow10", Rows.laid_internal_strconv_uint64pow10), ("unicode/utf8.acceptRanges", Rows.laid_unicode_utf8_acceptRanges), ("strconv.ErrRange", Rows.laid_strconv_ErrRange), ("strconv.ErrSyntax", Rows.laid_strconv_ErrSyntax), ("exchangepoint/arp.head", Rows.laid_exchangepoint_arp_head), ("exchangepoint/resource.addresses", Rows.laid_exchangepoint_resource_addresses), ("exchangepoint/resource.numbers", Rows.laid_exchangepoint_resource_numbers), ("unicode/utf8.first", Rows.laid_unicode_utf8_first)] w) false (thW os) #[.slice none 0 0, .int .i64 0] 8 (thW_os os) (World.shaped_of_ZipB (by kernel_rfl) (by kernel_rfl)) (by kernel_rfl) (by kernel_rfl) (by kernel_rfl) (thW_met os _)) ?_
  intro W base args ds gs before hval0 hW hsh hL
  have hval : ∀ (j : Nat) t v, Tryz.f3.params[j]? = some t → args[j]? = some v → Value.okWide Tryz.prog W .any base t v := hval0
  have hW' := hW
  obtain ⟨p, q, hA0, hV, rfl, hfz, hnd⟩ := hW
  have hA : DataW.TrodAll enc Tryz.prog W 0 (fun _ => true) true Tryz.f3.params.toList args.toList ds p := hA0
  rw [Tryz.params3] at hA hval
  obtain ⟨v0, vs0, d0, ds0, p0, q0, hv0, rfl, rfl, h0, hA0⟩ := tAll_cons hA
  obtain ⟨v1, vs1, d1, ds1, p1, q1, hv1, rfl, rfl, h1, hA1⟩ := tAll_cons hA0
  obtain ⟨hvs, rfl, rfl⟩ := tAll_nil hA1
  obtain rfl : args = #[v0, v1] := Array.toList_inj.1 (by rw [hv0, hv1, hvs])
  obtain ⟨rfl, rfl⟩ := trodVars_none hV
  obtain ⟨x0, o0, R0⟩ := Opens.argS Tryz.underlying22 (hval 0 22 v0 rfl rfl) h0 opInts
  obtain ⟨x1, rfl, o1⟩ := Opens.argI Tryz.underlying3 (hval 1 3 v1 rfl rfl) h1
  have R1 : Rep (fun _ => False) W mt (.int .i64 x1) (.base (.int .i64 x1)) := .base _
  have key := AFn.below (w := W) (vals := #[v0, .int .i64 x1]) (topHolders_law x0 x1 o0) rfl (fun i x a hx ha => by
    match i with
    | 0 => simp at hx ha; subst hx ha; exact R0
    | 1 => simp at hx ha; subst hx ha; exact R1
    | i + 2 => simp at hx) (glob_of_laidT hsh hL)
  refine key.mono fun e W' ⟨he, hb⟩ => ⟨_, he, ?_⟩
  exact law_post Tryz.laidOut (of_decide_eq_true (by kernel_rfl)) 4 (by kernel_rfl) Tryz.underlying4 rfl hW' ⟨rfl, rfl, rfl⟩ hb

end Go.Proofs.YtbfnfgpjgdbmeaaGreatDoor
