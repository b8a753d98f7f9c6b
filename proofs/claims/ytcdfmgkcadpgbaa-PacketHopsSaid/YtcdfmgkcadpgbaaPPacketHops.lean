/-
  A packet is forwarded as often as its TTL less 1, and nothing but the TTL changes: for every input, no condition.
-/
import Derived.Test.YtcdfmgkcadpgbaaHops
import Derived.Test.YtcdfmgkcadpgbaaOpen
import Derived.Test.YtcdfmgkcadpgbaaLaw
namespace Go.Proofs.Ytcdfmgkcadpgbaa
open Go.ChangeShapes Go.WideShapes Go.ChangeAt Go.RowKit

theorem Try.cellsIn : Try.prog.cellsOf 3 = 1 := by kernel_rfl

set_option maxRecDepth 100000 in
theorem hops_lifted (os : Os) (started : os.Started) (H : Type) (enc : TypeId × Value → H) :
    ReturnsInHanded {} Try.checked os 4 .any (Rows.packetHopsSpec.pre6 enc Try.prog Try.f4 Rows.packetHopsRow.domain false) (Rows.packetHopsSpec.post enc Try.prog Try.f4 false true false false) := by
  refine returnsInHanded_of_change (C := Try.checked) Try.own started (by kernel_rfl) Try.func4
    (ChangeSpec.witness6 (enc := enc) (C := Try.checked) false ⟨#[], #[.agg #[.bool false, .int .u64 0, .int .u64 0, .bool false, .int .u64 0, .int .u64 0, .int .i64 0, .int .i64 0, .slice none 0 0], .slice none 0 0], []⟩ 8 (by kernel_rfl) (by kernel_rfl) (by kernel_rfl) (by kernel_rfl)) ?_
  intro W base args ds gs before hval0 hW _ _
  have hval : ∀ (j : Nat) t v, Try.f4.params[j]? = some t → args[j]? = some v → Value.okWide Try.prog W .any base t v := hval0
  have hW' := hW
  obtain ⟨p, q, hA0, hV, rfl, hfz, hnd⟩ := hW
  have hA : DataW.TrodAll enc Try.prog W 0 (fun _ => true) true Try.f4.params.toList args.toList ds p := hA0
  rw [Try.params4] at hA hval
  obtain ⟨v0, v1, d0, d1, p0, p1, rfl, rfl, rfl, h0, h1⟩ := trodAll_two hA
  obtain ⟨rfl, rfl⟩ := trodVars_none hV
  obtain ⟨s, d, pr, t, bs, u, rfl, ht, hB, hP⟩ := open_pkt (hval 0 34 v0 rfl rfl) h0
  obtain ⟨a1, len, cap, rfl⟩ := okWide_slice Try.underlying35 (hval 1 35 v1 rfl rfl)
  obtain ⟨fuel, hf⟩ := h1
  clear hA0 hval0
  obtain ⟨zs, hlen, hz⟩ : ∃ zs : List Int, len ≤ 9223372036854775807 ∧ Reads W W.heap.size 1 a1 len (zs.map (Value.int .i64)) := by
    rcases open_ints Try.underlying35 Try.underlying3 Try.cellsIn hf with ⟨hcs, hx⟩ | ⟨a, len', cap', zs, hcs, _, hl, hm, hz, hx, hcell, hwz⟩
    · simp [Value.cells] at hcs
      obtain ⟨rfl, rfl, rfl⟩ := hcs
      exact ⟨[], by omega, Reads.none_⟩
    · simp [Value.cells] at hcs
      obtain ⟨rfl, rfl, rfl⟩ := hcs
      simp only [if_true] at hz
      exact ⟨zs.take len, by unfold maxLen at hm; omega, reads_ints (by omega) hcell rfl⟩
  have key : Calls Try.prog 4 #[pkV s d pr t u, .slice a1 len cap] W (LawPost W) := by
    by_cases hs : 600 < bs.length
    · obtain ⟨A, c, rfl, _⟩ := hP
      exact hops_long _ _ _ _ _ _ _ _ _ _ _ hs
    · exact hops_main s d pr t bs u a1 len cap zs W (by omega) ht hP hlen hz
  refine key.mono fun e W' ⟨he, hb⟩ => ⟨_, he, ?_⟩
  exact law_post Try.laidOut (of_decide_eq_true (by kernel_rfl)) 4 (by kernel_rfl) Try.underlying4 rfl hW' ⟨rfl, rfl, rfl⟩ hb

theorem packetHops_holds : Rows.PacketHopsSaid :=
  OpenClaim.holds_of_wide 4 Try.f4 rfl rfl rfl rfl rfl rfl rfl ⟨rfl, rfl, rfl, rfl, rfl⟩ rfl rfl rfl rfl rfl (by kernel_rfl) Try.func4 (by kernel_rfl)
    (of_decide_eq_true (by kernel_rfl)) (by unfold Func.isWrapper; first | (rw [if_pos (by decide +kernel)]; kernel_rfl) | (rw [if_neg (by decide +kernel)]; exact ⟨rfl, rfl⟩))
    (fun os started H enc _ => hops_lifted os started H enc)

end Go.Proofs.Ytcdfmgkcadpgbaa
