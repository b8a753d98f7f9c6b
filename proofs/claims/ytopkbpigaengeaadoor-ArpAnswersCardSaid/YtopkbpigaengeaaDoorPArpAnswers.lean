/-
  What requests and replies are: for every input, no condition; the listed variable is tied to the program's text.
-/
import Derived.Test.YtopkbpigaengeaaDoorAn
import Derived.Test.YtopkbpigaengeaaDoorAo
import Derived.Test.YtopkbpigaengeaaDoorCards
import Derived.Test.YtopkbpigaengeaaDoorTie
import Derived.SevenTiedAt
namespace Go.Proofs.YtopkbpigaengeaaDoor
open Go.ChangeShapes Go.WideShapes Go.ChangeAt Go.RowKit

theorem door_met (os : Os) (args : Array Value) : laidMetH Tryd.prog [("exchangepoint/arp.head", Rows.laid_exchangepoint_arp_head)] ((World.doorLaid Tryd.prog 400 os).forCall (fun _ _ => 0) ⟨#[], args, []⟩).memory :=
  laidMetH_of_parts3 (fuel := 8) (laidMet_of_run' 8 (by kernel_rfl) (by kernel_rfl)) (by kernel_rfl) (by kernel_rfl)

set_option maxRecDepth 100000 in
theorem answers_lifted (os : Os) (started : os.Started) (H : Type) (enc : TypeId × Value → H) :
    ReturnsInHanded {} Tryd.checked os 3 .any (fun w args => (Rows.arpAnswersSpec.pre enc Tryd.prog Tryd.f3 [] false w args ∧ laidMetH Tryd.prog [("exchangepoint/arp.head", Rows.laid_exchangepoint_arp_head)] w) ∧ sizedMet enc Tryd.prog Tryd.f3 (OpenSpec.ofChange Rows.arpAnswersSpec) false w args)
      (Rows.arpAnswersSpec.post enc Tryd.prog Tryd.f3 false true false false) := by
  refine returnsInHanded_of_change_and (C := Tryd.checked) (X := fun w _ => laidMetH Tryd.prog [("exchangepoint/arp.head", Rows.laid_exchangepoint_arp_head)] w) (fun _ _ _ hh h => h.of_heap hh) Tryd.own started (by kernel_rfl) Tryd.func3
    (ChangeSpec.witness_shaped (enc := enc) (C := Tryd.checked) (os := os) (X := fun w _ => laidMetH Tryd.prog [("exchangepoint/arp.head", Rows.laid_exchangepoint_arp_head)] w) false (World.doorLaid Tryd.prog 400 os) #[.slice none 0 0, macV mac0, macV mac0, adV ad0, adV ad0] 8 rfl (World.shaped_of_RefB (by kernel_rfl) (by kernel_rfl)) (by kernel_rfl) (by kernel_rfl) (by kernel_rfl) (door_met os _)) ?_
  intro W base args ds gs before hval0 hW _ _ hL _
  have hval : ∀ (j : Nat) t v, Tryd.f3.params[j]? = some t → args[j]? = some v → Value.okWide Tryd.prog W .any base t v := hval0
  have hW' := hW
  obtain ⟨p, q, hA0, hV, rfl, hfz, hnd⟩ := hW
  have hA : DataW.TrodAll enc Tryd.prog W 0 (fun _ => true) true Tryd.f3.params.toList args.toList ds p := hA0
  rw [Tryd.params3] at hA hval
  obtain ⟨v0, vs1, d0, ds1, p0, q1, e0, rfl, rfl, h0, hA⟩ := trodAll_cons hA
  obtain ⟨v1, v2, v3, v4, d1, d2, d3, d4, p1, p2, p3, p4, e1, rfl, rfl, h1, h2, h3, h4⟩ := trodAll_four (args := vs1.toArray) (by simpa using hA)
  obtain rfl : vs1 = [v1, v2, v3, v4] := by simpa using congrArg Array.toList e1
  obtain rfl : args = #[v0, v1, v2, v3, v4] := by cases args; simpa using e0
  obtain ⟨rfl, rfl⟩ := trodVars_none hV
  obtain ⟨a1, len, cap, rfl⟩ := okWide_slice Tryd.underlying22 (hval 0 22 v0 rfl rfl)
  obtain ⟨f, rfl, hf⟩ := open_macV (hval 1 24 v1 rfl rfl) h1
  obtain ⟨c, rfl, hc⟩ := open_macV (hval 2 24 v2 rfl rfl) h2
  obtain ⟨s, rfl, hs⟩ := open_addrV (hval 3 27 v3 rfl rfl) h3
  obtain ⟨d, rfl, hd⟩ := open_addrV (hval 4 27 v4 rfl rfl) h4
  obtain ⟨fuel, hf0⟩ := h0
  obtain ⟨zs, hlen, hz⟩ := open_nums hf0
  clear hA0 hval0
  refine (answers_main f c s d a1 len cap zs W (head_of_laid hL) hlen hz).mono fun e W' ⟨he, hb⟩ => ⟨_, he, ?_⟩
  exact law_post Tryd.laidOut (of_decide_eq_true (by kernel_rfl)) 4 (by kernel_rfl) Tryd.underlying4 rfl hW' ⟨rfl, rfl, rfl⟩ hb

theorem arpAnswers_row : Rows.ArpAnswersSaid :=
  OpenClaim.holds_of_wide 3 Tryd.f3 rfl rfl rfl rfl rfl rfl rfl ⟨rfl, rfl, rfl, rfl, rfl⟩ rfl rfl rfl rfl rfl (by kernel_rfl) Tryd.func3 (by kernel_rfl)
    (of_decide_eq_true (by kernel_rfl)) (by unfold Func.isWrapper; first | (rw [if_pos (by decide +kernel)]; kernel_rfl) | (rw [if_neg (by decide +kernel)]; exact ⟨rfl, rfl⟩))
    (fun os started H enc _ => answers_lifted os started H enc)

theorem arpAnswers_holds : Rows.ArpAnswersCardSaid :=
  Claim7.holds_tied_plain_at .later [] [.widerDeep] true (true, "faafc3efb51e71193dfc3ba292965164099c1ce47b526df171c45b742d552228") false
    arpAnswers_row (fun _ h => by cases h) (by kernel_rfl) (fun _ h => by cases h) arpAnswers_row_tie rfl ⟨rfl, rfl⟩ (by kernel_rfl) rfl
    (fun f fn hf hfn => by
      obtain rfl : f = 3 := Option.some.inj ((show Tryd.prog.funcNamed "exchangepoint/exchangepointlaw05.ArpAnswers" = some 3 by kernel_rfl).symm.trans hf) |>.symm
      obtain rfl : fn = Tryd.f3 := (Option.some.inj (Tryd.func3.symm.trans hfn)).symm
      exact ⟨by kernel_rfl, fun j t ht => by
        rw [Tryd.params3] at ht
        have hm : t ∈ [22, 24, 24, 27, 27] := by simpa using Array.mem_of_getElem? ht
        have hall : ([22, 24, 24, 27, 27].all fun u => !Tryd.prog.wantsStandIn u) = true := by kernel_rfl
        exact (show Tryd.prog.wantsStandIn t = false by simpa using List.all_eq_true.1 hall t hm)⟩)
    (by kernel_rfl)

end Go.Proofs.YtopkbpigaengeaaDoor
