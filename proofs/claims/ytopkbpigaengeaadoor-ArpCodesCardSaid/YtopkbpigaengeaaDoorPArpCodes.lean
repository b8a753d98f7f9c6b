/-
  Which messages are valid, their bytes, and which bytes are read: for every input, no condition; the listed variable is tied to the program's text.
-/
import Derived.Test.YtopkbpigaengeaaDoorAcd
import Derived.Test.YtopkbpigaengeaaDoorAo
import Derived.Test.YtopkbpigaengeaaDoorCards
import Derived.Test.YtopkbpigaengeaaDoorTie
import Derived.SevenTiedAt
namespace Go.Proofs.YtopkbpigaengeaaDoor
open Go.ChangeShapes Go.WideShapes Go.ChangeAt Go.RowKit

theorem door_met (os : Os) (args : Array Value) : laidMetH Tryd.prog [("exchangepoint/arp.head", Rows.laid_exchangepoint_arp_head)] ((World.doorLaid Tryd.prog 400 os).forCall (fun _ _ => 0) ⟨#[], args, []⟩).memory :=
  laidMetH_of_parts3 (fuel := 8) (laidMet_of_run' 8 (by kernel_rfl) (by kernel_rfl)) (by kernel_rfl) (by kernel_rfl)

set_option maxRecDepth 100000 in
theorem codes_lifted (os : Os) (started : os.Started) (H : Type) (enc : TypeId × Value → H) :
    ReturnsInHanded {} Tryd.checked os 4 .any (fun w args => (Rows.arpCodesSpec.pre enc Tryd.prog Tryd.f4 [] false w args ∧ laidMetH Tryd.prog [("exchangepoint/arp.head", Rows.laid_exchangepoint_arp_head)] w) ∧ sizedMet enc Tryd.prog Tryd.f4 (OpenSpec.ofChange Rows.arpCodesSpec) false w args)
      (Rows.arpCodesSpec.post enc Tryd.prog Tryd.f4 false true false false) := by
  refine returnsInHanded_of_change_and (C := Tryd.checked) (X := fun w _ => laidMetH Tryd.prog [("exchangepoint/arp.head", Rows.laid_exchangepoint_arp_head)] w) (fun _ _ _ hh h => h.of_heap hh) Tryd.own started (by kernel_rfl) Tryd.func4
    (ChangeSpec.witness_shaped (enc := enc) (C := Tryd.checked) (os := os) (X := fun w _ => laidMetH Tryd.prog [("exchangepoint/arp.head", Rows.laid_exchangepoint_arp_head)] w) false (World.doorLaid Tryd.prog 400 os) #[arpV msg0, .slice none 0 0, .slice none 0 0, .int .i64 0, .int .i64 0] 8 rfl (World.shaped_of_RefB (by kernel_rfl) (by kernel_rfl)) (by kernel_rfl) (by kernel_rfl) (by kernel_rfl) (door_met os _)) ?_
  intro W base args ds gs before hval0 hW _ _ hL _
  have hval : ∀ (j : Nat) t v, Tryd.f4.params[j]? = some t → args[j]? = some v → Value.okWide Tryd.prog W .any base t v := hval0
  have hW' := hW
  obtain ⟨p, q, hA0, hV, rfl, hfz, hnd⟩ := hW
  have hA : DataW.TrodAll enc Tryd.prog W 0 (fun _ => true) true Tryd.f4.params.toList args.toList ds p := hA0
  rw [Tryd.params4] at hA hval
  obtain ⟨v0, vs1, d0, ds1, p0, q1, e0, rfl, rfl, h0, hA⟩ := trodAll_cons hA
  obtain ⟨v1, v2, v3, v4, d1, d2, d3, d4, p1, p2, p3, p4, e1, rfl, rfl, h1, h2, h3, h4⟩ := trodAll_four (args := vs1.toArray) (by simpa using hA)
  obtain rfl : vs1 = [v1, v2, v3, v4] := by simpa using congrArg Array.toList e1
  obtain rfl : args = #[v0, v1, v2, v3, v4] := by cases args; simpa using e0
  obtain ⟨rfl, rfl⟩ := trodVars_none hV
  obtain ⟨raw, rfl, hraw⟩ := open_arpV (hval 0 29 v0 rfl rfl) h0
  obtain ⟨a0, n0, c0, rfl⟩ := okWide_slice Tryd.underlying38 (hval 1 38 v1 rfl rfl)
  obtain ⟨a1, len, cap, rfl⟩ := okWide_slice Tryd.underlying22 (hval 2 22 v2 rfl rfl)
  obtain ⟨ia, rfl, _⟩ := open_int Tryd.underlying3 (hval 3 3 v3 rfl rfl) h3
  obtain ⟨ib, rfl, _⟩ := open_int Tryd.underlying3 (hval 4 3 v4 rfl rfl) h4
  obtain ⟨fuel1, hf1⟩ := h1
  obtain ⟨fuel2, hf2⟩ := h2
  clear hA0 hval0
  obtain ⟨bs, hB, A, c, hv, hc, hr⟩ := open_bytes hf1
  injection hv with hv1 hv2 hv3
  subst hv1 hv2 hv3
  obtain ⟨zs, hlen, hz⟩ := open_nums hf2
  have key : Calls Tryd.prog 4 #[arpV raw, .slice a0 bs.length c0, .slice a1 len cap, .int .i64 ia, .int .i64 ib] W (LawPost W) := by
    by_cases hs : 600 < bs.length
    · exact codes_long _ _ _ _ _ _ _ _ _ _ (head_of_laid hL) hs
    · exact codes_main raw a0 c0 bs a1 len cap zs ia ib W (head_of_laid hL) hraw (by omega) hB hr hc hlen hz
  refine key.mono fun e W' ⟨he, hb⟩ => ⟨_, he, ?_⟩
  exact law_post Tryd.laidOut (of_decide_eq_true (by kernel_rfl)) 4 (by kernel_rfl) Tryd.underlying4 rfl hW' ⟨rfl, rfl, rfl⟩ hb

theorem arpCodes_row : Rows.ArpCodesSaid :=
  OpenClaim.holds_of_wide 4 Tryd.f4 rfl rfl rfl rfl rfl rfl rfl ⟨rfl, rfl, rfl, rfl, rfl⟩ rfl rfl rfl rfl rfl (by kernel_rfl) Tryd.func4 (by kernel_rfl)
    (of_decide_eq_true (by kernel_rfl)) (by unfold Func.isWrapper; first | (rw [if_pos (by decide +kernel)]; kernel_rfl) | (rw [if_neg (by decide +kernel)]; exact ⟨rfl, rfl⟩))
    (fun os started H enc _ => codes_lifted os started H enc)

theorem arpCodes_holds : Rows.ArpCodesCardSaid :=
  Claim7.holds_tied_plain_at .later [] [.widerDeep] true (true, "faafc3efb51e71193dfc3ba292965164099c1ce47b526df171c45b742d552228") false
    arpCodes_row (fun _ h => by cases h) (by kernel_rfl) (fun _ h => by cases h) arpCodes_row_tie rfl ⟨rfl, rfl⟩ (by kernel_rfl) rfl
    (fun f fn hf hfn => by
      obtain rfl : f = 4 := Option.some.inj ((show Tryd.prog.funcNamed "exchangepoint/exchangepointlaw05.ArpCodes" = some 4 by kernel_rfl).symm.trans hf) |>.symm
      obtain rfl : fn = Tryd.f4 := (Option.some.inj (Tryd.func4.symm.trans hfn)).symm
      exact ⟨by kernel_rfl, fun j t ht => by
        rw [Tryd.params4] at ht
        have hm : t ∈ [29, 38, 22, 3, 3] := by simpa using Array.mem_of_getElem? ht
        have hall : ([29, 38, 22, 3, 3].all fun u => !Tryd.prog.wantsStandIn u) = true := by kernel_rfl
        exact (show Tryd.prog.wantsStandIn t = false by simpa using List.all_eq_true.1 hall t hm)⟩)
    (by kernel_rfl)

end Go.Proofs.YtopkbpigaengeaaDoor
