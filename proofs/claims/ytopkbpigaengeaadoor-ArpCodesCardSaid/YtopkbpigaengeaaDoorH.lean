/-
  Addresses: their bytes by the reference; numbers of two bytes.
-/
import Derived.Test.YtopkbpigaengeaaDoorG
namespace Go.Proofs.YtopkbpigaengeaaDoor
open Go.RowKit

set_option maxHeartbeats 2000000 in
theorem rbytes_none (hi lo : Int) (w : World) (hv : validA false hi lo = false) :
    Calls Tryd.prog 26 #[.agg #[.bool false, .int .u64 hi, .int .u64 lo]] w fun e w' =>
      e = .returned (.slice none 0 0) ∧ Below w.heap.size w w' := by
  go_enter Tryd.func26, Tryd.ntmps26
  go_wp2_with fail
  refine (rvalid_any _ _ _ _).mono ?_
  rintro e w' ⟨rfl, rfl⟩
  rw [hv]
  go_wp2
  go_ret
  exact ⟨rfl, ((Below.refl _ _).alloc (Nat.le_refl _) _).alloc (by simp) _⟩

theorem own_base {w : World} {base base' e size n : Nat} {v : Value} {xs : List Value} (h : w.ownsRow base e size v n xs) (hb : base' ≤ base) : w.ownsRow base' e size v n xs := by
  obtain ⟨h1, h2 | ⟨g, cap, cur, hv, hg, hh⟩⟩ := h
  · exact ⟨h1, .inl h2⟩
  · exact ⟨h1, .inr ⟨g, cap, cur, hv, Nat.le_trans hb hg, hh⟩⟩

/-- the first j of n bytes -/
def preB (n j : Nat) (N : Int) : List Int := (List.range j).map fun p => byteN N (n - 1 - p)
theorem preB_len (n j : Nat) (N : Int) : (preB n j N).length = j := by simp [preB]
theorem preB_snoc (n j : Nat) (N : Int) : preB n (j + 1) N = preB n j N ++ [byteN N (n - 1 - j)] := by simp [preB, List.range_succ]

theorem byteN_at (hi lo : Int) (l1 : 0 ≤ lo) (l2 : lo < 18446744073709551616) (i : Nat) (h : i < 16) :
    (if 8 ≤ i then hi else lo) / 2 ^ (8 * (i % 8)) % 256 = byteN (hi * 18446744073709551616 + lo) i := by
  unfold byteN
  obtain rfl | rfl | rfl | rfl | rfl | rfl | rfl | rfl | rfl | rfl | rfl | rfl | rfl | rfl | rfl | rfl : i = 0 ∨ i = 1 ∨ i = 2 ∨ i = 3 ∨ i = 4 ∨ i = 5 ∨ i = 6 ∨ i = 7 ∨ i = 8 ∨ i = 9 ∨ i = 10 ∨ i = 11 ∨ i = 12 ∨ i = 13 ∨ i = 14 ∨ i = 15 := by omega
  all_goals (simp; try omega)

set_option maxHeartbeats 2000000 in
theorem rbytes_six (hi lo : Int) (w : World) (hv : validA true hi lo = true) (h0 : U64 hi) (l0 : U64 lo) :
    Calls Tryd.prog 26 #[.agg #[.bool true, .int .u64 hi, .int .u64 lo]] w fun e w' =>
      ∃ v, e = .returned v ∧ w'.ownsRow w.heap.size 5 1 v 16 (bytesV (addrB true hi lo)) ∧ Below w.heap.size w w' := by
  obtain ⟨N, HN⟩ : ∃ N : Int, Hid (N = hi * 18446744073709551616 + lo) := ⟨_, rfl⟩
  obtain ⟨h1, h2⟩ := h0
  obtain ⟨l1, l2⟩ := l0
  go_enter Tryd.func26, Tryd.ntmps26
  go_wp2_with fail
  refine (rvalid_any _ _ _ _).mono ?_
  rintro e w' ⟨rfl, rfl⟩
  rw [hv]
  go_wp2
  go_loopw [4, 5, 6] (fun v i _ wr => ∃ (j : Nat), j ≤ 16 ∧ i = .int .i64 (16 - 1 - (j : Int)) ∧ wr.ownsRow (w.heap.size + 1) 5 1 v j (bytesV (preB 16 j N)) ∧ Below w.heap.size w wr ∧
      Blk wr w.heap.size 27 #[.bool true, .int .u64 hi, .int .u64 lo]) (fun _ i _ _ => (intOf i + 1).toNat)
  case atStart => exact ⟨0, by omega, rfl, World.ownsRow_nil _ _ _ _, ((Below.refl _ _).alloc (Nat.le_refl _) _).alloc (by simp) _, (Blk.new w _ _).alloc _⟩
  case round =>
    obtain ⟨j, hj, rfl, hown, hbw, hbk⟩ := hrel
    have k0 : wr.cell? ⟨w.heap.size, 1, none⟩ = some (.int .u64 hi) := hbk.cell 1
    have k1 : wr.cell? ⟨w.heap.size, 2, none⟩ = some (.int .u64 lo) := hbk.cell 2
    have hsz := hbw.size
    have hsz1 := hbk.lt
    by_cases hlt : j < 16
    · have Hbyte := Lib.hid (byteN_at hi lo l1 l2 (16 - 1 - j) (by omega))
      have ei : ((16 : Int) - 1 - (j : Int)) = ((16 - 1 - j : Nat) : Int) := by omega
      rw [ei]
      by_cases h8 : j < 8
      · have hge : decide ((8 : Int) ≤ ((16 - 1 - j : Nat) : Int)) = true := by simp; omega
        have e : (if 8 ≤ 16 - 1 - j then hi else lo) = hi := if_pos (by omega)
        have H2 := Hbyte.out
        rw [e] at H2
        have HB := Lib.hid H2
        clear e H2 Hbyte
        go_wp2_with (at_builtin; refine app_u8 rfl _ _ rfl (w.heap.size + 1) _ j (preB 16 j N) rfl (hown.alloc _) _ _ 1 1 [hi / 2 ^ (8 * ((15 - j) % 8)) % 256] rfl (reads_new _ _ _ _ _ rfl) (by omega) (by simp; omega) ?_; intro v6 w6 hown6 hg6 hb6)
        go_roundw
        case rel =>
          refine ⟨j + 1, hlt, by congr 1; omega, ?_, ?_, ?_⟩
          · have e : byteN N (16 - 1 - j) = hi / 2 ^ (8 * ((15 - j) % 8)) % 256 := by rw [HN.out]; exact HB.out.symm
            rw [preB_snoc, e]
            exact hown6
          · exact (hbw.alloc hsz _).grown hg6 (by simp; omega) (fun k hk => by have := (hown.lt k hk).1; omega)
          · exact (hbk.alloc _).grown hg6 (fun hk => by have := (hown.lt _ hk.symm).1; omega)
        case measure => (simp [intOf]; try omega)
      · have hge : decide ((8 : Int) ≤ ((16 - 1 - j : Nat) : Int)) = false := by simp; omega
        have e : (if 8 ≤ 16 - 1 - j then hi else lo) = lo := if_neg (by omega)
        have H2 := Hbyte.out
        rw [e] at H2
        have HB := Lib.hid H2
        clear e H2 Hbyte
        go_wp2_with (at_builtin; refine app_u8 rfl _ _ rfl (w.heap.size + 1) _ j (preB 16 j N) rfl (hown.alloc _) _ _ 1 1 [lo / 2 ^ (8 * ((15 - j) % 8)) % 256] rfl (reads_new _ _ _ _ _ rfl) (by omega) (by simp; omega) ?_; intro v6 w6 hown6 hg6 hb6)
        go_roundw
        case rel =>
          refine ⟨j + 1, hlt, by congr 1; omega, ?_, ?_, ?_⟩
          · have e : byteN N (16 - 1 - j) = lo / 2 ^ (8 * ((15 - j) % 8)) % 256 := by rw [HN.out]; exact HB.out.symm
            rw [preB_snoc, e]
            exact hown6
          · exact (hbw.alloc hsz _).grown hg6 (by simp; omega) (fun k hk => by have := (hown.lt k hk).1; omega)
          · exact (hbk.alloc _).grown hg6 (fun hk => by have := (hown.lt _ hk.symm).1; omega)
        case measure => (simp [intOf]; try omega)
    · obtain rfl : j = 16 := by omega
      have hge : decide ((0 : Int) ≤ 16 - 1 - ((16 : Nat) : Int)) = false := by decide
      go_wp2
      go_ret
      exact ⟨_, rfl, by unfold addrB; rw [← HN.out]; exact own_base hown (by omega), hbw⟩

set_option maxHeartbeats 2000000 in
theorem rbytes_four (hi lo : Int) (w : World) (hv : validA false hi lo = true) (h0 : U64 hi) (l0 : U64 lo) :
    Calls Tryd.prog 26 #[.agg #[.bool false, .int .u64 hi, .int .u64 lo]] w fun e w' =>
      ∃ v, e = .returned v ∧ w'.ownsRow w.heap.size 5 1 v 4 (bytesV (addrB false hi lo)) ∧ Below w.heap.size w w' := by
  obtain ⟨N, HN⟩ : ∃ N : Int, Hid (N = hi * 18446744073709551616 + lo) := ⟨_, rfl⟩
  obtain ⟨h1, h2⟩ := h0
  obtain ⟨l1, l2⟩ := l0
  go_enter Tryd.func26, Tryd.ntmps26
  go_wp2_with fail
  refine (rvalid_any _ _ _ _).mono ?_
  rintro e w' ⟨rfl, rfl⟩
  rw [hv]
  go_wp2
  go_loopw [4, 5, 6] (fun v i _ wr => ∃ (j : Nat), j ≤ 4 ∧ i = .int .i64 (4 - 1 - (j : Int)) ∧ wr.ownsRow (w.heap.size + 1) 5 1 v j (bytesV (preB 4 j N)) ∧ Below w.heap.size w wr ∧
      Blk wr w.heap.size 27 #[.bool false, .int .u64 hi, .int .u64 lo]) (fun _ i _ _ => (intOf i + 1).toNat)
  case atStart => exact ⟨0, by omega, rfl, World.ownsRow_nil _ _ _ _, ((Below.refl _ _).alloc (Nat.le_refl _) _).alloc (by simp) _, (Blk.new w _ _).alloc _⟩
  case round =>
    obtain ⟨j, hj, rfl, hown, hbw, hbk⟩ := hrel
    have k0 : wr.cell? ⟨w.heap.size, 1, none⟩ = some (.int .u64 hi) := hbk.cell 1
    have k1 : wr.cell? ⟨w.heap.size, 2, none⟩ = some (.int .u64 lo) := hbk.cell 2
    have hsz := hbw.size
    have hsz1 := hbk.lt
    by_cases hlt : j < 4
    · have Hbyte := Lib.hid (byteN_at hi lo l1 l2 (4 - 1 - j) (by omega))
      have ei : ((4 : Int) - 1 - (j : Int)) = ((4 - 1 - j : Nat) : Int) := by omega
      rw [ei]
      have hge : decide ((8 : Int) ≤ ((4 - 1 - j : Nat) : Int)) = false := by simp; omega
      have e : (if 8 ≤ 4 - 1 - j then hi else lo) = lo := if_neg (by omega)
      have H2 := Hbyte.out
      rw [e] at H2
      have HB := Lib.hid H2
      clear e H2 Hbyte
      go_wp2_with (at_builtin; refine app_u8 rfl _ _ rfl (w.heap.size + 1) _ j (preB 4 j N) rfl (hown.alloc _) _ _ 1 1 [lo / 2 ^ (8 * ((3 - j) % 8)) % 256] rfl (reads_new _ _ _ _ _ rfl) (by omega) (by simp; omega) ?_; intro v6 w6 hown6 hg6 hb6)
      go_roundw
      case rel =>
        refine ⟨j + 1, hlt, by congr 1; omega, ?_, ?_, ?_⟩
        · have e : byteN N (4 - 1 - j) = lo / 2 ^ (8 * ((3 - j) % 8)) % 256 := by rw [HN.out]; exact HB.out.symm
          rw [preB_snoc, e]
          exact hown6
        · exact (hbw.alloc hsz _).grown hg6 (by simp; omega) (fun k hk => by have := (hown.lt k hk).1; omega)
        · exact (hbk.alloc _).grown hg6 (fun hk => by have := (hown.lt _ hk.symm).1; omega)
      case measure => (simp [intOf]; try omega)
    · obtain rfl : j = 4 := by omega
      have hge : decide ((0 : Int) ≤ 4 - 1 - ((4 : Nat) : Int)) = false := by decide
      go_wp2
      go_ret
      exact ⟨_, rfl, by unfold addrB; rw [← HN.out]; exact own_base hown (by omega), hbw⟩

end Go.Proofs.YtopkbpigaengeaaDoor
