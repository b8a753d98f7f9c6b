/-
  Addresses are read back from their bytes.
-/
import Derived.Test.YtopkbpigaengeaaDoorAv
import Derived.Test.YtopkbpigaengeaaDoorH
namespace Go.Proofs.YtopkbpigaengeaaDoor
open Go.RowKit

/-! 1. addresses are read back -/
theorem u64_shl8 {a x : Int} (ha : U64 a) (hx : 0 ≤ x ∧ x ≤ 255) : bits .or .u64 (IntKind.u64.wrap (a * 256)) x = a % 72057594037927936 * 256 + x := by
  have ha1 : 0 ≤ a := ha.1
  have e : IntKind.u64.wrap (a * 256) = a % 72057594037927936 * 256 := by rw [IntKind.wrap_u64]; omega
  rw [e]
  obtain ⟨p, hp⟩ := Int.eq_ofNat_of_zero_le (show 0 ≤ a % 72057594037927936 by omega)
  obtain ⟨q, hq⟩ := Int.eq_ofNat_of_zero_le hx.1
  rw [hp, hq]
  have hb1 : (p : Int) * 256 = ((2 ^ 8 * p : Nat) : Int) := by omega
  rw [hb1, u64_or_nat (2 ^ 8 * p) q (by omega) (by omega), ← Nat.two_pow_add_eq_or_of_lt (i := 8) (by omega) p]
  omega
theorem fbStep_val {a : Int × Int} {x : Int} (h1 : U64 a.1) (h2 : U64 a.2) (hx : 0 ≤ x ∧ x ≤ 255) :
    (fbStep a x).1 * 18446744073709551616 + (fbStep a x).2 = ((a.1 * 18446744073709551616 + a.2) * 256 + x) % 340282366920938463463374607431768211456 := by
  obtain ⟨h, l⟩ := a
  simp only at h1 h2
  have e1 : (fbStep (h, l) x).1 = h % 72057594037927936 * 256 + l / 72057594037927936 := u64_shl8 h1 (by unfold U64 at h2; omega)
  have e2 : (fbStep (h, l) x).2 = l % 72057594037927936 * 256 + x := u64_shl8 h2 hx
  rw [e1, e2]
  unfold U64 at h1 h2
  simp only
  omega
theorem beN_take (n k : Nat) (N : Int) (h : k < n) : gB (beN n N) k = byteN N (n - 1 - k) := by
  unfold gB beN
  simp [List.getD, h]
theorem pow_le_big {n : Nat} (h : n ≤ 16) : (256 : Int) ^ n ≤ 340282366920938463463374607431768211456 := by
  have : (256 : Nat) ^ n ≤ 256 ^ 16 := Nat.pow_le_pow_right (by omega) h
  have e : ((256 : Nat) ^ n : Int) = (256 : Int) ^ n := by simp
  omega
theorem fb_beN (n : Nat) (N : Int) (hn : n ≤ 16) (h0 : 0 ≤ N) (h1 : N < 256 ^ n) : ∀ k, k ≤ n → (fb ((beN n N).take k)).1 * 18446744073709551616 + (fb ((beN n N).take k)).2 = N / 256 ^ (n - k) := by
  have hb := pow_le_big hn
  intro k
  induction k with
  | zero =>
    intro _
    simp [fb]
    rw [Int.ediv_eq_zero_of_lt h0 h1]
  | succ k ih =>
    intro hk
    have ihk := ih (by omega)
    have hl : k < (beN n N).length := by rw [beN_len]; omega
    rw [fb_snoc _ _ hl]
    obtain ⟨b1, b2⟩ := fb_bd ((beN n N).take k)
    have hx : 0 ≤ gB (beN n N) k ∧ gB (beN n N) k ≤ 255 := (beN_isB n N).at k
    rw [fbStep_val b1 b2 hx, ihk, beN_take n k N (by omega)]
    have e : n - k = (n - (k + 1)) + 1 := by omega
    have e2 : n - 1 - k = n - (k + 1) := by omega
    rw [e, div_succ, e2]
    unfold byteN
    have hX0 : 0 ≤ N / 256 ^ (n - (k + 1)) := Int.ediv_nonneg h0 (Int.le_of_lt (Int.pow_pos (by decide)))
    have hX1 : N / 256 ^ (n - (k + 1)) ≤ N := Int.ediv_le_self _ h0
    generalize N / 256 ^ (n - (k + 1)) = X at *
    omega
theorem fb_addrB {v6 : Bool} {hi lo : Int} (hv : validA v6 hi lo = true) (h1 : U64 hi) (h2 : U64 lo) : fb (addrB v6 hi lo) = (hi, lo) := by
  unfold U64 at h1 h2
  obtain ⟨b1, b2⟩ := fb_bd (addrB v6 hi lo)
  unfold U64 at b1 b2
  have hf : addrB v6 hi lo = beN (if v6 then 16 else 4) (hi * 18446744073709551616 + lo) := rfl
  rw [hf] at b1 b2 ⊢
  have key : (fb (beN (if v6 then 16 else 4) (hi * 18446744073709551616 + lo))).1 * 18446744073709551616 + (fb (beN (if v6 then 16 else 4) (hi * 18446744073709551616 + lo))).2 = hi * 18446744073709551616 + lo := by
    cases v6 with
    | true =>
      have hp : (256 : Int) ^ 16 = 340282366920938463463374607431768211456 := by decide
      have := fb_beN 16 (hi * 18446744073709551616 + lo) (by omega) (by omega) (by omega) 16 (by omega)
      rw [List.take_of_length_le (by rw [beN_len]; omega)] at this
      simpa using this
    | false =>
      simp [validA] at hv
      have hp : (256 : Int) ^ 4 = 4294967296 := by decide
      have := fb_beN 4 (hi * 18446744073709551616 + lo) (by omega) (by omega) (by omega) 4 (by omega)
      rw [List.take_of_length_le (by rw [beN_len]; omega)] at this
      simpa using this
  generalize fb (beN (if v6 then 16 else 4) (hi * 18446744073709551616 + lo)) = r at *
  obtain ⟨x, y⟩ := r
  simp only at *
  have e1 : x = hi := by omega
  have e2 : y = lo := by omega
  rw [e1, e2]

/-! 2. the sum of a header with its sum is 0 -/
/-! 3. what was encoded is read back -/
/-! 4. one bit of a header changed is not read -/

theorem fbStep_small {l x : Int} (h0 : 0 ≤ l) (h : l < 72057594037927936) (hx : 0 ≤ x ∧ x ≤ 255) : fbStep (0, l) x = (0, l * 256 + x) := by
  have e1 : (fbStep (0, l) x).1 = 0 % 72057594037927936 * 256 + l / 72057594037927936 := u64_shl8 (by unfold U64; omega) (by omega)
  have e2 : (fbStep (0, l) x).2 = l % 72057594037927936 * 256 + x := u64_shl8 (by unfold U64; omega) hx
  exact Prod.ext (by rw [e1]; simp only; omega) (by rw [e2]; simp only; omega)
theorem fb4 {l : List Int} (hl : l.length = 4) (hB : IsB l) : (fb l).1 = 0 ∧ 0 ≤ (fb l).2 ∧ (fb l).2 < 4294967296 := by
  match l, hl with
  | [a, b, c, d], _ =>
    have ha := hB a (by simp)
    have hb := hB b (by simp)
    have hc := hB c (by simp)
    have hd := hB d (by simp)
    have e : fb [a, b, c, d] = (0, ((a * 256 + b) * 256 + c) * 256 + d) := by
      unfold fb
      simp only [List.foldl_cons, List.foldl_nil]
      rw [fbStep_small (by omega) (by omega) ha, fbStep_small (by omega) (by omega) hb, fbStep_small (by omega) (by omega) hc, fbStep_small (by omega) (by omega) hd]
      simp
    rw [e]
    refine ⟨rfl, ?_, ?_⟩ <;> simp only <;> omega

end Go.Proofs.YtopkbpigaengeaaDoor
