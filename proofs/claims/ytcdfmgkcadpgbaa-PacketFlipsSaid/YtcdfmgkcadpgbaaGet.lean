/-
  Numbers of two bytes, read.
-/
import Derived.Test.YtcdfmgkcadpgbaaEnc
namespace Go.Proofs.Ytcdfmgkcadpgbaa
open Go.RowKit

theorem or_bytes {x y : Int} (hx : 0 ≤ x ∧ x ≤ 255) (hy : 0 ≤ y ∧ y ≤ 255) : bits .or .i64 (x * 256) y = x * 256 + y := by
  obtain ⟨a, rfl⟩ := Int.eq_ofNat_of_zero_le hx.1
  obtain ⟨b, rfl⟩ := Int.eq_ofNat_of_zero_le hy.1
  have h1 : ((a : Int) * 256) = ((2 ^ 8 * a : Nat) : Int) := by omega
  rw [h1, i64_or_nat (2 ^ 8 * a) b (by omega) (by omega), ← Nat.two_pow_add_eq_or_of_lt (i := 8) (by omega) a]
  omega

set_option maxHeartbeats 1000000 in
theorem get_any (A : Option Addr) (n c B : Nat) (bs : List Int) (w : World) (hn : 2 ≤ n) (hB : IsB bs) (hr : Reads w B 1 A n (bytesV bs)) :
    Calls Try.prog 43 #[.slice A n c] w fun e w' => e = .returned (.int .i64 (gB bs 0 * 256 + gB bs 1)) ∧ ∃ k, w' = w.drewN k := by
  have hl : bs.length = n := by have := hr.1; rw [bytesV_len] at this; omega
  obtain ⟨b, off, rfl, hb, hc⟩ := hr.2 (by omega)
  have c0 := hc 0 _ (bytesV_get bs 0 (by omega))
  have c1 := hc 1 _ (bytesV_get bs 1 (by omega))
  have h0 := hB.at 0
  have h1 := hB.at 1
  have ho := or_bytes h0 h1
  have hn2 : (1 : Int) < (n : Int) := by omega
  have hn1 : (0 : Int) < (n : Int) := by omega
  clear hc hr hB
  have Hl := Lib.hid hl
  clear hl
  generalize gB bs 0 = x at *
  generalize gB bs 1 = y at *
  have HO := Lib.hid ho
  clear ho
  simp only [Nat.add_zero] at c0
  go_enter Try.func43, Try.ntmps43
  go_wp2_with fail
  go_quiet (fail)
  go_wp2_with fail
  go_ret
  exact ⟨ret_eq HO.out, _, rfl⟩

end Go.Proofs.Ytcdfmgkcadpgbaa
