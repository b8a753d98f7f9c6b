/-
  A packet without V6, with one bit of its header changed behind the first byte, is not read: for every input, no condition.
-/
import Derived.Test.YtcdfmgkcadpgbaaFlip
import Derived.Test.YtcdfmgkcadpgbaaOpen
import Derived.Test.YtcdfmgkcadpgbaaLaw
namespace Go.Proofs.Ytcdfmgkcadpgbaa
open Go.ChangeShapes Go.WideShapes Go.ChangeAt Go.RowKit

theorem Try.cellsIn : Try.prog.cellsOf 3 = 1 := by kernel_rfl

theorem open_nums {H : Type} {enc : TypeId × Value → H} {W : World} {base : Nat} {spare : Nat → Bool} {held : Bool} {fuel len cap : Nat} {a1 : Option Addr} {y : DataW H × List MemPlace}
    (hf : DataW.trod enc Try.prog W base spare held fuel 35 (Value.slice a1 len cap).cells.toList = some y) : ∃ zs : List Int, len ≤ 9223372036854775807 ∧ Reads W W.heap.size 1 a1 len (zs.map (Value.int .i64)) := by
  rcases open_ints Try.underlying35 Try.underlying3 Try.cellsIn hf with ⟨hcs, hx⟩ | ⟨a, len', cap', zs, hcs, _, hl, hm, hz, hx, hcell, hwz⟩
  · simp [Value.cells] at hcs
    obtain ⟨rfl, rfl, rfl⟩ := hcs
    exact ⟨[], by omega, Reads.none_⟩
  · simp [Value.cells] at hcs
    obtain ⟨rfl, rfl, rfl⟩ := hcs
    have hlen : len ≤ zs.length := by rw [hz]; split <;> omega
    exact ⟨zs.take len, by unfold maxLen at hm; omega, reads_ints hlen hcell rfl⟩

set_option maxRecDepth 100000 in
theorem flip_lifted (os : Os) (started : os.Started) (H : Type) (enc : TypeId × Value → H) :
    ReturnsInHanded {} Try.checked os 8 .any (Rows.packetFlipsSpec.pre6 enc Try.prog Try.f8 Rows.packetFlipsRow.domain false) (Rows.packetFlipsSpec.post enc Try.prog Try.f8 false true false false) := by
  refine returnsInHanded_of_change (C := Try.checked) Try.own started (by kernel_rfl) Try.func8
    (ChangeSpec.witness6 (enc := enc) (C := Try.checked) false ⟨#[], #[.slice none 0 0, .int .i64 0], []⟩ 8 (by kernel_rfl) (by kernel_rfl) (by kernel_rfl) (by kernel_rfl)) ?_
  intro W base args ds gs before hval0 hW _ _
  have hval : ∀ (j : Nat) t v, Try.f8.params[j]? = some t → args[j]? = some v → Value.okWide Try.prog W .any base t v := hval0
  have hW' := hW
  obtain ⟨p, q, hA0, hV, rfl, hfz, hnd⟩ := hW
  have hA : DataW.TrodAll enc Try.prog W 0 (fun _ => true) true Try.f8.params.toList args.toList ds p := hA0
  rw [Try.params8] at hA hval
  obtain ⟨v0, v1, d0, d1, p0, p1, rfl, rfl, rfl, h0, h1⟩ := trodAll_two hA
  obtain ⟨rfl, rfl⟩ := trodVars_none hV
  obtain ⟨a1, len, cap, rfl⟩ := okWide_slice Try.underlying35 (hval 0 35 v0 rfl rfl)
  obtain ⟨x2, rfl, rfl, rfl, w2⟩ := open_int Try.underlying3 (hval 1 3 v1 rfl rfl) h1
  obtain ⟨fuel, hf⟩ := h0
  clear hA0 hval0
  obtain ⟨zs, hlen, hz⟩ := open_nums hf
  have key : Calls Try.prog 8 #[.slice a1 len cap, .int .i64 x2] W (LawPost W) := flip_main x2 a1 len cap zs W hlen hz
  refine key.mono fun e W' ⟨he, hb⟩ => ⟨_, he, ?_⟩
  exact law_post Try.laidOut (of_decide_eq_true (by kernel_rfl)) 4 (by kernel_rfl) Try.underlying4 rfl hW' ⟨rfl, rfl, rfl⟩ hb

theorem packetFlips_holds : Rows.PacketFlipsSaid :=
  OpenClaim.holds_of_wide 8 Try.f8 rfl rfl rfl rfl rfl rfl rfl ⟨rfl, rfl, rfl, rfl, rfl⟩ rfl rfl rfl rfl rfl (by kernel_rfl) Try.func8 (by kernel_rfl)
    (of_decide_eq_true (by kernel_rfl)) (by unfold Func.isWrapper; first | (rw [if_pos (by decide +kernel)]; kernel_rfl) | (rw [if_neg (by decide +kernel)]; exact ⟨rfl, rfl⟩))
    (fun os started H enc _ => flip_lifted os started H enc)

end Go.Proofs.Ytcdfmgkcadpgbaa
