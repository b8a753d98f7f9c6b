/-
  A message that was forwarded, or whose data or address was changed in one bit, is refused: plain words, no program.
-/
import Derived.Test.YtoijkcnefnmbjaaQp
namespace Go.Proofs.Ytoijkcnefnmbjaa
open Go.RowKit
theorem byte_xor (x j i : Nat) : (x ^^^ 2 ^ j) / 2 ^ (8 * i) % 256 = if i = j / 8 then (x / 2 ^ (8 * i) % 256) ^^^ 2 ^ (j % 8) else x / 2 ^ (8 * i) % 256 := by
  have e : 2 ^ j / 2 ^ (8 * i) % 2 ^ 8 = if i = j / 8 then 2 ^ (j % 8) else 0 := by
    rcases Nat.lt_or_ge j (8 * i) with h | h
    · rw [if_neg (by omega), Nat.div_eq_of_lt (Nat.pow_lt_pow_right (by decide) h)]
    · rw [Nat.pow_div h (by decide)]
      by_cases c : i = j / 8
      · rw [if_pos c, show j - 8 * i = j % 8 from by omega]
        exact Nat.mod_eq_of_lt (Nat.pow_lt_pow_right (by decide) (by omega))
      · rw [if_neg c]
        exact Nat.mod_eq_zero_of_dvd (Nat.pow_dvd_pow 2 (by omega))
  rw [← Nat.shiftRight_eq_div_pow, Nat.shiftRight_xor_distrib, show 256 = 2 ^ 8 from rfl, Nat.xor_mod_two_pow, Nat.shiftRight_eq_div_pow, Nat.shiftRight_eq_div_pow, e]
  split
  · rfl
  · exact Nat.xor_zero _
theorem xor8 {a : Int} (ha : 0 ≤ a ∧ a ≤ 255) {j : Nat} (hj : j < 8) : bitV .xor .u8 a ((2 ^ j : Nat) : Int) = flipB a j := by
  obtain ⟨n, rfl⟩ := Int.eq_ofNat_of_zero_le ha.1
  have h := (flipB_near n (by omega) j hj).2
  have hp : 2 ^ j < 256 := Nat.pow_lt_pow_right (n := 8) (by decide) hj
  have e1 : (BitVec.ofInt IntKind.u8.bits (n : Int)).toNat = n := by simp only [BitVec.toNat_ofInt, IntKind.bits]; omega
  have e2 : (BitVec.ofInt IntKind.u8.bits ((2 ^ j : Nat) : Int)).toNat = 2 ^ j := by
    generalize 2 ^ j = q at hp
    simp only [BitVec.toNat_ofInt, IntKind.bits]; omega
  show IntKind.u8.wrap ((BitVec.ofInt IntKind.u8.bits (n : Int) ^^^ BitVec.ofInt IntKind.u8.bits ((2 ^ j : Nat) : Int)).toNat : Nat) = _
  rw [BitVec.toNat_xor, e1, e2]
  unfold flipB
  rw [Int.toNat_natCast, IntKind.wrap_u8']; omega
theorem xor64 {a : Int} (ha : U64 a) {j : Nat} (hj : j < 64) : bitV .xor .u64 a ((2 ^ j : Nat) : Int) = ((a.toNat ^^^ 2 ^ j : Nat) : Int) ∧ U64 ((a.toNat ^^^ 2 ^ j : Nat) : Int) := by
  unfold U64 at ha
  obtain ⟨n, rfl⟩ := Int.eq_ofNat_of_zero_le ha.1
  have hp : 2 ^ j < 2 ^ 64 := Nat.pow_lt_pow_right (by decide) hj
  have h : n ^^^ 2 ^ j < 2 ^ 64 := Nat.xor_lt_two_pow (by omega) hp
  have e1 : (BitVec.ofInt IntKind.u64.bits (n : Int)).toNat = n := by simp only [BitVec.toNat_ofInt, IntKind.bits]; omega
  have e2 : (BitVec.ofInt IntKind.u64.bits ((2 ^ j : Nat) : Int)).toNat = 2 ^ j := by
    generalize 2 ^ j = q at hp
    simp only [BitVec.toNat_ofInt, IntKind.bits]; omega
  rw [Int.toNat_natCast]
  refine ⟨?_, by unfold U64; omega⟩
  show IntKind.u64.wrap ((BitVec.ofInt IntKind.u64.bits (n : Int) ^^^ BitVec.ofInt IntKind.u64.bits ((2 ^ j : Nat) : Int)).toNat : Nat) = _
  rw [BitVec.toNat_xor, e1, e2, IntKind.wrap_u64]; omega
def loX (a : Ad) (j : Nat) : Ad := ⟨true, a.hi, ((a.lo.toNat ^^^ 2 ^ j : Nat) : Int)⟩
theorem flip_addr {a : Ad} (h6 : a.v6 = true) (hg : GoodA a) {j : Nat} (hj : j < 64) : addrL (loX a j) = (addrL a).set (15 - j / 8) (flipB (gB (addrL a) (15 - j / 8)) (j % 8)) := by
  obtain ⟨v, hi, lo⟩ := a
  simp only at h6
  subst h6
  obtain ⟨l1, l2⟩ := hg.2
  simp only at l1 l2
  obtain ⟨n, rfl⟩ := Int.eq_ofNat_of_zero_le l1
  have hx := (xor64 (a := (n : Int)) ⟨l1, l2⟩ hj).2
  unfold U64 at hx
  rw [Int.toNat_natCast] at hx
  have key : ∀ p, p < 16 → gB (addrL (loX ⟨true, hi, (n : Int)⟩ j)) p = if p = 15 - j / 8 then flipB (gB (addrL ⟨true, hi, (n : Int)⟩) p) (j % 8) else gB (addrL ⟨true, hi, (n : Int)⟩) p := by
    intro p hp
    unfold addrL addrB loX
    simp only [if_true, Int.toNat_natCast]
    rw [beN_take 16 p _ hp, beN_take 16 p _ hp, ← byteN_at hi _ hx.1 hx.2 _ (by omega), ← byteN_at hi _ l1 l2 _ (by omega)]
    by_cases c : 8 ≤ 16 - 1 - p
    · rw [if_pos c, if_pos c, if_neg (by omega)]
    · rw [if_neg c, if_neg c]
      rw [show (16 - 1 - p) % 8 = 15 - p from by omega]
      have hb := byte_xor n j (15 - p)
      have e1 : ((n ^^^ 2 ^ j : Nat) : Int) / 2 ^ (8 * (15 - p)) % 256 = (((n ^^^ 2 ^ j) / 2 ^ (8 * (15 - p)) % 256 : Nat) : Int) := by simp
      have e2 : ((n : Nat) : Int) / 2 ^ (8 * (15 - p)) % 256 = ((n / 2 ^ (8 * (15 - p)) % 256 : Nat) : Int) := by simp
      rw [e1, e2, hb]
      unfold flipB
      by_cases d : 15 - p = j / 8
      · rw [if_pos d, if_pos (by omega), Int.toNat_natCast]
      · rw [if_neg d, if_neg (by omega)]
  have la := addrL_len ⟨true, hi, (n : Int)⟩
  have lb := addrL_len (loX ⟨true, hi, (n : Int)⟩ j)
  rw [show (loX ⟨true, hi, (n : Int)⟩ j).v6 = true from rfl] at lb
  simp only [if_true] at la lb
  refine List.ext_getElem (by rw [List.length_set, la, lb]) fun p h1 h2 => ?_
  have h3 := key p (by omega)
  rw [gB_at h1, gB_at (show p < (addrL ⟨true, hi, (n : Int)⟩).length by omega)] at h3
  rw [h3, List.getElem_set]
  by_cases c : p = 15 - j / 8
  · rw [if_pos c, if_pos c.symm, gB_at (show 15 - j / 8 < (addrL ⟨true, hi, (n : Int)⟩).length by omega)]
    subst c; rfl
  · rw [if_neg c, if_neg (fun e => c e.symm)]
theorem vpk_of {s d : Ad} {t : Int} {bs : List Int} (hs : s.v6 = true) (hd : d.v6 = true) (ht : 0 ≤ t ∧ t ≤ 255) (hb : bs.length ≤ 1460) : vpk ⟨s, d, 58, t, bs⟩ = true := by
  unfold vpk validP
  simp only [Bool.and_eq_true, decide_eq_true_eq, beq_iff_eq]
  refine ⟨by unfold validA; rw [hs]; rfl, by unfold validA; rw [hd]; rfl, by rw [hs, hd], by decide, by decide, ht.1, ht.2, ?_⟩
  unfold mostP
  rw [hs]
  simp only [if_true]
  omega
theorem enc_len {n : Nb} (hg : GoodN n) (s d : Ad) : 4 ≤ (encN n s d).bs.length ∧ (encN n s d).bs.length ≤ 48 := by
  have hel := encL_len hg.1.1
  have hl : (encN n s d).bs.length = (encL n).length := sumL2_len _ _
  omega
theorem enc_zero {n : Nb} (hg : GoodN n) (s d : Ad) : chkF s d 58 (encN n s d).bs = 0 := chk_zero s d 58 (encL_isB hg.1.2) (encL_len hg.1.1).1 rfl rfl
theorem far_dec {n : Nb} {s d : Ad} (hg : GoodN n) (hs : s.v6 = true) (hd : d.v6 = true) {T : Int} (h0 : 0 ≤ T) (h1 : T < 255) : decR ⟨s, d, 58, T, (encN n s d).bs⟩ = (zNb, 10) := by
  have hl := enc_len hg s d
  have hv := vpk_of hs hd (t := T) (by omega) (bs := (encN n s d).bs) (by omega)
  have hc : chkE ⟨s, d, 58, T, (encN n s d).bs⟩ = 10 := by
    unfold chkE
    rw [hv, if_neg (by simp), if_neg (by simp [hs]), if_pos (by simp; omega)]
  unfold decR
  rw [if_pos (by rw [hc]; decide), hc]
theorem sum_dec {s d : Ad} {bs : List Int} (hs : s.v6 = true) (hd : d.v6 = true) (h4 : 4 ≤ bs.length) (hb : bs.length ≤ 1460) (hne : chkF s d 58 bs ≠ 0) : decR ⟨s, d, 58, 255, bs⟩ = (zNb, 6) := by
  have hv := vpk_of hs hd (t := 255) (by omega) (bs := bs) (by omega)
  have hc : chkE ⟨s, d, 58, 255, bs⟩ = 6 := by
    unfold chkE
    rw [hv, if_neg (by simp), if_neg (by simp [hs]), if_neg (by simp), if_neg (by simp; omega), if_pos (by simpa using hne)]
  unfold decR
  rw [if_pos (by rw [hc]; decide), hc]
theorem chk_flip {s d : Ad} {bs : List Int} (hB : IsB bs) (hz : chkF s d 58 bs = 0) {k j : Nat} (hk : k < bs.length) (hj : j < 8) : chkF s d 58 (bs.set k (flipB (gB bs k) j)) ≠ 0 := by
  obtain ⟨P, hP⟩ : ∃ P, addrL s ++ addrL d ++ (len4 bs.length ++ [0, 0, 0, IntKind.u8.wrap 58]) = P := ⟨_, rfl⟩
  have h1 : chkB s d 58 bs = P ++ bs := by rw [chkB_eq, hP]
  have h2 : chkB s d 58 (bs.set k (flipB (gB bs k) j)) = (P ++ bs).set (P.length + k) (flipB (gB bs k) j) := by
    rw [chkB_eq, List.length_set, hP, List.set_append_right _ _ (by omega), show P.length + k - P.length = k from by omega]
  have hb := chkB_isB s d 58 hB
  have hx := flipB_bd (hB.at k) hj
  unfold chkF at hz ⊢
  rw [h2]
  rw [h1] at hz hb
  exact sum_flip hb hz (by simp; omega) hx.2.1 hj (by rw [gB_append_right]; exact hx.1)
theorem chk_moved {s d : Ad} {bs : List Int} (hB : IsB bs) (hd : d.v6 = true) (hgd : GoodA d) (hz : chkF s d 58 bs = 0) {j : Nat} (hj : j < 64) : chkF s (loX d j) 58 bs ≠ 0 := by
  have hla := addrL_len d
  rw [hd] at hla
  simp only [if_true] at hla
  obtain ⟨Q, hQ⟩ : ∃ Q, (len4 bs.length ++ [0, 0, 0, IntKind.u8.wrap 58]) ++ bs = Q := ⟨_, rfl⟩
  have h1 : chkB s d 58 bs = addrL s ++ (addrL d ++ Q) := by rw [chkB_eq, ← hQ]; simp only [List.append_assoc]
  have h2 : chkB s (loX d j) 58 bs = (addrL s ++ (addrL d ++ Q)).set ((addrL s).length + (15 - j / 8)) (flipB (gB (addrL d) (15 - j / 8)) (j % 8)) := by
    rw [List.set_append_right _ _ (by omega), show (addrL s).length + (15 - j / 8) - (addrL s).length = 15 - j / 8 from by omega, List.set_append_left _ _ (by omega), ← flip_addr hd hgd hj, chkB_eq, ← hQ]
    simp only [List.append_assoc]
  have hb := chkB_isB s d 58 hB
  have hx := flipB_bd ((addrL_isB d).at (15 - j / 8)) (show j % 8 < 8 by omega)
  unfold chkF at hz ⊢
  rw [h2]
  rw [h1] at hz hb
  refine sum_flip hb hz (by simp; omega) hx.2.1 (show j % 8 < 8 by omega) ?_
  rw [gB_append_right, gB_append_left _ _ _ (by omega)]
  exact hx.1
end Go.Proofs.Ytoijkcnefnmbjaa
