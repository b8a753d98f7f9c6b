/-
  The check sums of bytes, and of data between two addresses, are what the document says: for every input, no condition.
-/
import Derived.Test.YtcdfmgkcadpgbaaSums
import Derived.Test.YtcdfmgkcadpgbaaOpen
import Derived.Test.YtcdfmgkcadpgbaaLaw
namespace Go.Proofs.Ytcdfmgkcadpgbaa
open Go.ChangeShapes Go.WideShapes Go.ChangeAt Go.RowKit

theorem Try.cellsIn : Try.prog.cellsOf 3 = 1 := by kernel_rfl

theorem open_nums {H : Type} {enc : TypeId × Value → H} {W : World} {base : Nat} {spare : Nat → Bool} {held : Bool} {fuel len cap : Nat} {a1 : Option Addr} {y : DataW H × List MemPlace}
    (hf : DataW.trod enc Try.prog W base spare held fuel 35 (Value.slice a1 len cap).cells.toList = some y) : ∃ zs : List Int, len ≤ 9223372036854775807 ∧ Reads W W.heap.size 1 a1 len (zs.map (Value.int .i64)) := by
  rcases open_ints Try.underlying35 Try.underlying3 Try.cellsIn hf with ⟨hcs, hx⟩ | ⟨a, len', cap', zs, hcs, _, hl, hm, hz, hx, hcell, hwz⟩
  · simp [Value.cells] at hcs
    obtain ⟨rfl, rfl, rfl⟩ := hcs
    exact ⟨[], by omega, Reads.none_⟩
  · simp [Value.cells] at hcs
    obtain ⟨rfl, rfl, rfl⟩ := hcs
    have hlen : len ≤ zs.length := by rw [hz]; split <;> omega
    exact ⟨zs.take len, by unfold maxLen at hm; omega, reads_ints hlen hcell rfl⟩

set_option maxRecDepth 100000 in
theorem sums_lifted (os : Os) (started : os.Started) (H : Type) (enc : TypeId × Value → H) :
    ReturnsInHanded {} Try.checked os 5 .any (Rows.packetSumsSpec.pre6 enc Try.prog Try.f5 Rows.packetSumsRow.domain false) (Rows.packetSumsSpec.post enc Try.prog Try.f5 false true false false) := by
  refine returnsInHanded_of_change (C := Try.checked) Try.own started (by kernel_rfl) Try.func5
    (ChangeSpec.witness6 (enc := enc) (C := Try.checked) false ⟨#[], #[.slice none 0 0, .slice none 0 0, .int .i64 0], []⟩ 8 (by kernel_rfl) (by kernel_rfl) (by kernel_rfl) (by kernel_rfl)) ?_
  intro W base args ds gs before hval0 hW _ _
  have hval : ∀ (j : Nat) t v, Try.f5.params[j]? = some t → args[j]? = some v → Value.okWide Try.prog W .any base t v := hval0
  have hW' := hW
  obtain ⟨p, q, hA0, hV, rfl, hfz, hnd⟩ := hW
  have hA : DataW.TrodAll enc Try.prog W 0 (fun _ => true) true Try.f5.params.toList args.toList ds p := hA0
  rw [Try.params5] at hA hval
  obtain ⟨v0, v1, v2, d0, d1, d2, p0, p1, p2, rfl, rfl, rfl, h0, h1, h2⟩ := trodAll_three hA
  obtain ⟨rfl, rfl⟩ := trodVars_none hV
  obtain ⟨x2, rfl, rfl, rfl, w2⟩ := open_int Try.underlying3 (hval 2 3 v2 rfl rfl) h2
  obtain ⟨a0, n0, c0, rfl⟩ := okWide_slice Try.underlying22 (hval 0 22 v0 rfl rfl)
  obtain ⟨a1, len, cap, rfl⟩ := okWide_slice Try.underlying35 (hval 1 35 v1 rfl rfl)
  obtain ⟨fuel0, hf0⟩ := h0
  obtain ⟨fuel, hf⟩ := h1
  clear hA0 hval0
  obtain ⟨bs, hB, A, c, hv, hr⟩ := open_data hf0
  injection hv with hv1 hv2 hv3
  subst hv1 hv2 hv3
  obtain ⟨zs, hlen, hz⟩ := open_nums hf
  have key : Calls Try.prog 5 #[.slice a0 bs.length c0, .slice a1 len cap, .int .i64 x2] W (LawPost W) := by
    by_cases hs : 600 < bs.length
    · exact sums_long _ _ _ _ _ _ _ _ hs
    · exact sums_main a0 a1 c0 len cap bs zs x2 W (by omega) hB hr hlen hz (bounds_i64 w2)
  refine key.mono fun e W' ⟨he, hb⟩ => ⟨_, he, ?_⟩
  exact law_post Try.laidOut (of_decide_eq_true (by kernel_rfl)) 4 (by kernel_rfl) Try.underlying4 rfl hW' ⟨rfl, rfl, rfl⟩ hb

theorem packetSums_holds : Rows.PacketSumsSaid :=
  OpenClaim.holds_of_wide 5 Try.f5 rfl rfl rfl rfl rfl rfl rfl ⟨rfl, rfl, rfl, rfl, rfl⟩ rfl rfl rfl rfl rfl (by kernel_rfl) Try.func5 (by kernel_rfl)
    (of_decide_eq_true (by kernel_rfl)) (by unfold Func.isWrapper; first | (rw [if_pos (by decide +kernel)]; kernel_rfl) | (rw [if_neg (by decide +kernel)]; exact ⟨rfl, rfl⟩))
    (fun os started H enc _ => sums_lifted os started H enc)

end Go.Proofs.Ytcdfmgkcadpgbaa
