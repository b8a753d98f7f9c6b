/-
  Bits of sets; the least element of a set; the rounds of a maintenance: the program's text.
-/
import Derived.Test.YtbjfaepjpmogjaaDoorKf
import Derived.Test.YtbjfaepjpmogjaaDoorKp
namespace Go.Proofs.YtbjfaepjpmogjaaDoor
open Go.RowKit

theorem bv_andNot {m n : Nat} (hm : m < 256) : (BitVec.ofInt 64 (m : Int) &&& ~~~BitVec.ofInt 64 (n : Int)).toNat = dif m n := by
  refine Nat.eq_of_testBit_eq fun k => ?_
  rw [dif_bit]
  rw [BitVec.testBit_toNat]
  simp only [BitVec.getLsbD_and, BitVec.getLsbD_not, BitVec.ofInt_natCast, BitVec.getLsbD_ofNat]
  by_cases hk : k < 64
  · simp [hk]
  · have : m.testBit k = false := Nat.testBit_lt_two_pow (Nat.lt_of_lt_of_le hm (Nat.le_trans (show 256 ≤ 2 ^ 8 by decide) (Nat.pow_le_pow_right (by decide) (by omega))))
    simp [hk, this]
theorem bv_and {m n : Nat} (hm : m < 256) : (BitVec.ofInt 64 (m : Int) &&& BitVec.ofInt 64 (n : Int)).toNat = m &&& n := by
  refine Nat.eq_of_testBit_eq fun k => ?_
  rw [Nat.testBit_and, BitVec.testBit_toNat]
  simp only [BitVec.getLsbD_and, BitVec.ofInt_natCast, BitVec.getLsbD_ofNat]
  by_cases hk : k < 64
  · simp [hk]
  · have : m.testBit k = false := Nat.testBit_lt_two_pow (Nat.lt_of_lt_of_le hm (Nat.le_trans (show 256 ≤ 2 ^ 8 by decide) (Nat.pow_le_pow_right (by decide) (by omega))))
    simp [hk, this]
theorem andNotU {m n : Nat} (hm : m < 256) : bitV .andNot .u64 (m : Int) (n : Int) = (dif m n : Nat) := by
  have h := bv_andNot (n := n) hm
  have h2 : dif m n < 256 := dif_lt256 hm
  show IntKind.u64.wrap ((BitVec.ofInt 64 (m : Int) &&& ~~~BitVec.ofInt 64 (n : Int)).toNat : Int) = _
  rw [h]
  exact IntWalk.u64_in _ (by omega)
theorem andNotI {m n : Nat} (hm : m < 256) : bitV .andNot .i64 (m : Int) (n : Int) = (dif m n : Nat) := by
  have h := bv_andNot (n := n) hm
  have h2 : dif m n < 256 := dif_lt256 hm
  show IntKind.i64.wrap ((BitVec.ofInt 64 (m : Int) &&& ~~~BitVec.ofInt 64 (n : Int)).toNat : Int) = _
  rw [h]
  exact IntWalk.i64_in _ (by omega)
theorem andU {m n : Nat} (hm : m < 256) : bitV .and .u64 (m : Int) (n : Int) = (m &&& n : Nat) := by
  have h := bv_and (n := n) hm
  have h2 : m &&& n ≤ m := Nat.and_le_left
  show IntKind.u64.wrap ((BitVec.ofInt 64 (m : Int) &&& BitVec.ofInt 64 (n : Int)).toNat : Int) = _
  rw [h]
  exact IntWalk.u64_in _ (by omega)
theorem andI {m n : Nat} (hm : m < 256) : bitV .and .i64 (m : Int) (n : Int) = (m &&& n : Nat) := by
  have h := bv_and (n := n) hm
  have h2 : m &&& n ≤ m := Nat.and_le_left
  show IntKind.i64.wrap ((BitVec.ofInt 64 (m : Int) &&& BitVec.ofInt 64 (n : Int)).toNat : Int) = _
  rw [h]
  exact IntWalk.i64_in _ (by omega)
/-- the number of the least element -/
def cz (s : Nat) : Nat := Nat.log2 (lw s)
theorem cz_tab : ∀ s : Fin 256, s.val ≠ 0 → lw s.val = 2 ^ cz s.val ∧ cz s.val < 8 := by decide +kernel
def tabV : List Value := [.int .u8 0, .int .u8 1, .int .u8 56, .int .u8 2, .int .u8 57, .int .u8 49, .int .u8 28, .int .u8 3, .int .u8 61, .int .u8 58, .int .u8 42, .int .u8 50, .int .u8 38, .int .u8 29, .int .u8 17, .int .u8 4, .int .u8 62, .int .u8 47, .int .u8 59, .int .u8 36, .int .u8 45, .int .u8 43, .int .u8 51, .int .u8 22, .int .u8 53, .int .u8 39, .int .u8 33, .int .u8 30, .int .u8 24, .int .u8 18, .int .u8 12, .int .u8 5, .int .u8 63, .int .u8 55, .int .u8 48, .int .u8 27, .int .u8 60, .int .u8 41, .int .u8 37, .int .u8 16, .int .u8 46, .int .u8 35, .int .u8 44, .int .u8 21, .int .u8 52, .int .u8 32, .int .u8 23, .int .u8 11, .int .u8 54, .int .u8 26, .int .u8 40, .int .u8 15, .int .u8 34, .int .u8 20, .int .u8 31, .int .u8 10, .int .u8 25, .int .u8 14, .int .u8 19, .int .u8 9, .int .u8 13, .int .u8 8, .int .u8 7, .int .u8 6]
theorem tz_neg : ∀ s : Fin 256, bitV .and .u64 (s.val : Int) (IntKind.u64.wrap (0 - (s.val : Int))) = (lw s.val : Int) := by decide +kernel
def dbi (s : Nat) : Nat := ((IntKind.u64.wrap ((lw s : Int) * 285870213051353865)).fdiv (2 ^ 58)).toNat
theorem tz_ix : ∀ s : Fin 256, (IntKind.u64.wrap ((lw s.val : Int) * 285870213051353865)).fdiv (2 ^ (min (58 : Int).toNat 64)) = (dbi s.val : Int) ∧ dbi s.val < 64 := by decide +kernel
theorem tz_at : ∀ s : Fin 256, s.val ≠ 0 → tabV[dbi s.val]? = some (.int .u8 (cz s.val)) := by
  have h : ∀ s : Fin 256, s.val ≠ 0 → (tabV[dbi s.val]?).map (fun v => match v with
    | .int .u8 z => z
    | _ => -1) = some (cz s.val : Int) := by decide +kernel
  intro s hs
  have h1 := h s hs
  have hk : ∀ v ∈ tabV, ∃ z, v = .int .u8 z := by
    intro v hv
    simp only [tabV, List.mem_cons, List.not_mem_nil, or_false] at hv
    rcases hv with h | h | h | h | h | h | h | h | h | h | h | h | h | h | h | h | h | h | h | h | h | h | h | h | h | h | h | h | h | h | h | h | h | h | h | h | h | h | h | h | h | h | h | h | h | h | h | h | h | h | h | h | h | h | h | h | h | h | h | h | h | h | h | h <;> exact ⟨_, h⟩
  obtain ⟨v, hv, h2⟩ := Option.map_eq_some_iff.1 h1
  obtain ⟨z, rfl⟩ := hk v (List.mem_of_getElem? hv)
  dsimp only at h2
  rw [hv, h2]
theorem tz64_any (s : Nat) (hs : s < 256) (h0 : s ≠ 0) : AFn Tryd.prog 47 0 [.base (.int .u64 (s : Int))] mt (.base (.int .i64 (cz s : Int))) mt := by
  refine AFn.eq Tryd.func47 rfl rfl (Nat.le_of_ble_eq_true rfl) ?_
  have g1 : ((s : Int) == 0) = false := by simpa using h0
  have hn := tz_neg ⟨s, hs⟩
  obtain ⟨hix, hlt⟩ := tz_ix ⟨s, hs⟩
  have hat := tz_at ⟨s, hs⟩ h0
  obtain ⟨_, h8⟩ := cz_tab ⟨s, hs⟩ h0
  dsimp only at hn hix hlt hat h8
  have hat2 : (tabV.map AV.base)[0 + dbi s * 1]? = some (.base (.int .u8 (cz s : Int))) := by
    rw [List.getElem?_map, show 0 + dbi s * 1 = dbi s from by omega, hat]; rfl
  repeat (refine W.seq ?_)
  refine W.region 0 1 (by decide) rfl rfl ?_
  refine RW.opd rfl rfl (LO.assign rfl rfl) ?_
  refine RW.nil ?_
  repeat (refine W.seq ?_)
  refine W.region 5 7 (by decide) rfl rfl ?_
  refine RW.opd rfl rfl (LO.move rfl rfl) ?_
  refine RW.opd rfl rfl (LO.eql rfl rfl rfl) ?_
  refine RW.nil ?_
  repeat (refine W.seq ?_)
  refine W.cond_f rfl (by first | rfl | assumption) ?_
  refine W.skip ?_
  repeat (refine W.seq ?_)
  refine W.region 16 26 (by decide) rfl rfl ?_
  refine RW.opd rfl rfl (LO.move rfl rfl) ?_
  refine RW.opd rfl rfl (LO.move rfl rfl) ?_
  refine RW.opd rfl rfl (LO.neg rfl rfl) ?_
  refine RW.opd rfl rfl (LO.and rfl rfl rfl) ?_
  rw [hn]
  refine RW.opd rfl rfl (LO.mul rfl rfl rfl) ?_
  refine RW.opd rfl rfl (LO.shr rfl rfl rfl ?_) ?_; (· (first | omega | decide | assumption | fail | (simp; done) | (simp; omega)))
  rw [show (IntKind.u64.wrap ((lw s : Int) * 285870213051353865)).fdiv (2 ^ (min (58 : Int).toNat IntKind.u64.bits)) = (dbi s : Int) from hix]
  refine RW.opd rfl rfl (LO.glob 1 (vs := tabV) rfl rfl rfl (LO.indexAddr_imm rfl rfl rfl rfl ty90 ty5 hlt)) ?_
  refine RW.opd rfl rfl (LO.load_imm rfl rfl hat2 ty5 rfl) ?_
  refine RW.opd rfl rfl (LO.conv_in rfl rfl ty5 ty3 ?_) ?_; (· (first | exact IntWalk.i64_in _ (by omega) | assumption))
  refine RW.opd rfl rfl (LO.assign rfl rfl) ?_
  refine RW.nil ?_
  repeat (refine W.seq ?_)
  refine W.ret ⟨.inl rfl, _, mt, RVs.cons (RV.tmp rfl) (RVs.nil), all_mt, ?_⟩
  exact ⟨rfl, rfl⟩
theorem tz_any (s : Nat) (hs : s < 256) (h0 : s ≠ 0) : AFn Tryd.prog 32 0 [.base (.int .u64 (s : Int))] mt (.base (.int .i64 (cz s : Int))) mt := by
  refine AFn.eq Tryd.func32 rfl rfl (Nat.le_of_ble_eq_true rfl) ?_
  have h64 := tz64_any s hs h0
  repeat (refine W.seq ?_)
  refine W.region 0 1 (by decide) rfl rfl ?_
  refine RW.opd rfl rfl (LO.assign rfl rfl) ?_
  refine RW.nil ?_
  repeat (refine W.seq ?_)
  refine W.cond_f rfl (by first | rfl | assumption) ?_
  refine W.skip ?_
  repeat (refine W.seq ?_)
  refine W.region 13 16 (by decide) rfl rfl ?_
  refine RW.opd rfl rfl (LO.move rfl rfl) ?_
  refine RW.opd rfl rfl (LO.call0 (fr := []) rfl rfl (h64) fok47 (.cons rfl (.pure rfl) .nil) rfl) ?_
  refine RW.opd rfl rfl (LO.assign rfl rfl) ?_
  refine RW.nil ?_
  repeat (refine W.seq ?_)
  refine W.ret ⟨.inl rfl, _, mt, RVs.cons (RV.tmp rfl) (RVs.nil), all_mt, ?_⟩
  exact ⟨rfl, rfl⟩
end Go.Proofs.YtbjfaepjpmogjaaDoor
