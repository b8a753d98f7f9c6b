/-
  Addresses: their bytes.
-/
import Derived.Test.YtopkbpigaengeaaDoorF
namespace Go.Proofs.YtopkbpigaengeaaDoor
open Go.RowKit

/-- byte i of a number, from the least on -/
def byteN (N : Int) (i : Nat) : Int := N / 256 ^ i % 256
/-- n bytes, the greatest first -/
def beN (n : Nat) (N : Int) : List Int := (List.range n).map fun p => byteN N (n - 1 - p)
/-- the bytes of a valid address -/
def addrB (v6 : Bool) (hi lo : Int) : List Int := beN (if v6 then 16 else 4) (hi * 18446744073709551616 + lo)
theorem byteN_bd (N : Int) (i : Nat) : 0 ≤ byteN N i ∧ byteN N i ≤ 255 := by unfold byteN; omega
theorem beN_len (n : Nat) (N : Int) : (beN n N).length = n := by simp [beN]
theorem beN_isB (n : Nat) (N : Int) : IsB (beN n N) := by
  intro x hx
  simp only [beN, List.mem_map] at hx
  obtain ⟨p, _, rfl⟩ := hx
  exact byteN_bd _ _

theorem u64_or_split {hi lo : Int} (h0 : 0 ≤ hi) (l0 : 0 ≤ lo) (l1 : lo < 18446744073709551616) :
    bits .or .u64 (lo / 256) (IntKind.u64.wrap (hi * 72057594037927936)) = lo / 256 + hi % 256 * 72057594037927936 := by
  have e : IntKind.u64.wrap (hi * 72057594037927936) = hi % 256 * 72057594037927936 := by rw [IntKind.wrap_u64]; omega
  rw [e]
  obtain ⟨a, ha⟩ := Int.eq_ofNat_of_zero_le (show 0 ≤ lo / 256 by omega)
  obtain ⟨b, hb⟩ := Int.eq_ofNat_of_zero_le (show 0 ≤ hi % 256 by omega)
  rw [ha, hb]
  have hb1 : (b : Int) * 72057594037927936 = ((2 ^ 56 * b : Nat) : Int) := by omega
  rw [hb1, u64_or_nat a (2 ^ 56 * b) (by omega) (by omega), Nat.or_comm, ← Nat.two_pow_add_eq_or_of_lt (i := 56) (by omega) b]
  omega

theorem beN_N (hi lo : Int) (l0 : 0 ≤ lo) (l1 : lo < 18446744073709551616) : (hi * 18446744073709551616 + lo) / 256 = hi / 256 * 18446744073709551616 + (lo / 256 + hi % 256 * 72057594037927936) := by omega
theorem div_succ (N : Int) (j : Nat) : N / 256 ^ (j + 1) = N / 256 ^ j / 256 := by
  rw [Int.pow_succ, Int.ediv_ediv_of_nonneg (Int.le_of_lt (Int.pow_pos (by decide)))]

/-- a row of bytes that is known by its indices, as a row of the call's own -/
theorem own_of_row {w : World} {g n base : Nat} {t : TypeId} {f : Nat → Int} (h : w.rowIs g t n (fun i => .int .u8 (f i))) (hb : base ≤ g) (hn : n ≤ maxLen) :
    w.ownsRow base t 1 (.slice (some ⟨g, 0, none⟩) n n) n (bytesV ((List.range n).map f)) := by
  obtain ⟨c, hc, hs, hf⟩ := h
  refine ⟨by simp [bytesV], .inr ⟨g, n, c, rfl, hb, hc, Nat.le_refl _, hn, by omega, ?_⟩⟩
  apply List.ext_getElem?
  intro j
  by_cases hj : j < n
  · rw [List.getElem?_take, if_pos (by omega)]
    have := hf j hj
    simp only [bytesV, List.map_map, List.getElem?_map, List.getElem?_range hj, Option.map_some]
    simpa using this
  · rw [List.getElem?_eq_none (by simp; omega), List.getElem?_eq_none (by simp [bytesV]; omega)]

set_option maxHeartbeats 2000000 in
theorem abytes_none (hi lo : Int) (w : World) (hv : validA false hi lo = false) :
    Calls Tryd.prog 28 #[.agg #[.bool false, .int .u64 hi, .int .u64 lo]] w fun e w' =>
      e = .returned (.slice none 0 0) ∧ Below w.heap.size w w' := by
  go_enter Tryd.func28, Tryd.ntmps28
  go_wp2_with fail
  refine (avalid_any _ _ _ _).mono ?_
  rintro e w' ⟨rfl, rfl⟩
  rw [hv]
  go_wp2
  go_ret
  exact ⟨rfl, ((Below.refl _ _).alloc (Nat.le_refl _) _).alloc (by simp) _⟩

theorem row_addr {w : World} {g n j : Nat} {N x : Int} (h : w.rowIs g 5 n (fun i => .int .u8 (if i < n - j then 0 else byteN N (n - 1 - i)))) (hj : j < n) (hx : x = byteN N j) :
    (w.setCell ⟨g, n - 1 - j, none⟩ (.int .u8 x)).rowIs g 5 n (fun i => .int .u8 (if i < n - (j + 1) then 0 else byteN N (n - 1 - i))) := by
  refine (h.set (n - 1 - j) (.int .u8 x)).congr fun i hi => ?_
  by_cases e : i = n - 1 - j
  · rw [if_pos e, if_neg (by omega), hx]
    congr 2; omega
  · rw [if_neg e]
    by_cases h2 : i < n - j
    · rw [if_pos h2, if_pos (by omega)]
    · rw [if_neg h2, if_neg (by omega)]

set_option maxHeartbeats 2000000 in
theorem abytes_six (hi lo : Int) (w : World) (hv : validA true hi lo = true) (h0 : U64 hi) (l0 : U64 lo) :
    Calls Tryd.prog 28 #[.agg #[.bool true, .int .u64 hi, .int .u64 lo]] w fun e w' =>
      ∃ g, e = .returned (.slice (some ⟨g, 0, none⟩) 16 16) ∧ w'.ownsRow w.heap.size 5 1 (.slice (some ⟨g, 0, none⟩) 16 16) 16 (bytesV (addrB true hi lo)) ∧ Below w.heap.size w w' := by
  obtain ⟨N, HN⟩ : ∃ N : Int, Hid (N = hi * 18446744073709551616 + lo) := ⟨_, rfl⟩
  have hmk : ∀ w, (Instr.makeSlice 38 (.int .i64 16) (.int .i64 16)).run Tryd.prog w = .ok (.slice (some ⟨w.heap.size, 0, none⟩) 16 16) (w.alloc (.cells (madeCells #[.int .u8 0] 16) 5)) :=
    fun w => run_make_row' (P := Tryd.prog) 38 5 (.int .u8 0) 1 Tryd.underlying38 Tryd.infoU8 rfl .i64 .i64 16 (by omega) (by omega) w
  go_enter Tryd.func28, Tryd.ntmps28
  go_wp2_with fail
  refine (avalid_any _ _ _ _).mono ?_
  rintro e w' ⟨rfl, rfl⟩
  rw [hv]
  go_wp2
  go_loopw [5] (fun i wr => ∃ (j : Nat) (h l : Int), j ≤ 16 ∧ i = .int .i64 (16 - 1 - (j : Int)) ∧ 0 ≤ h ∧ h < 18446744073709551616 ∧ 0 ≤ l ∧ l < 18446744073709551616 ∧ Hid (h * 18446744073709551616 + l = N / 256 ^ j) ∧ Below w.heap.size w wr ∧
      Blk wr w.heap.size 27 #[.bool true, .int .u64 h, .int .u64 l] ∧ wr.rowIs (w.heap.size + 2) 5 16 (fun i => .int .u8 (if i < 16 - j then 0 else byteN N (16 - 1 - i)))) (fun i _ => (intOf i + 1).toNat)
  case atStart =>
    refine ⟨0, hi, lo, by omega, rfl, h0.1, h0.2, l0.1, l0.2, by rw [HN.out]; simp [Hid], ?_, ?_, ?_⟩
    · exact (((Below.refl _ _).alloc (Nat.le_refl _) _).alloc (by simp) _).alloc (by simp; omega) _
    · exact ((Blk.new w _ _).alloc _).alloc _
    · have := World.rowIs_made ((w.alloc (.cells #[.bool true, .int .u64 hi, .int .u64 lo] 27)).alloc (.cells #[.bool true, .int .u64 hi, .int .u64 lo] 27)) (.int .u8 0) 16 5
      simp only [World.size_alloc] at this
      exact this.congr fun i hi => by rw [if_pos (by omega)]
  case round =>
    obtain ⟨j, h, l, hj, rfl, h1, h2, l1, l2, HE, hbw, hbk, hrow⟩ := hrel
    by_cases hlt : j < 16
    · have k0 : wr.cell? ⟨w.heap.size, 1, none⟩ = some (.int .u64 h) := hbk.cell 1
      have k1 : wr.cell? ⟨w.heap.size, 2, none⟩ = some (.int .u64 l) := hbk.cell 2
      have f0 := hbk.frozen 1
      have f1 := hbk.frozen 2
      have c0 := hrow.cell (i := 16 - 1 - j) (by omega)
      have g0 := hrow.frozen (16 - 1 - j)
      have hge : decide ((0 : Int) ≤ 16 - 1 - (j : Int)) = true := by simp; omega
      have ei : ((16 : Int) - 1 - (j : Int)) = ((16 - 1 - j : Nat) : Int) := by omega
      rw [ei]
      have hor := u64_or_split h1 l1 l2
      go_wp2
      go_roundw
      case rel =>
        refine ⟨j + 1, h / 256, l / 256 + h % 256 * 72057594037927936, hlt, by congr 1; omega, by omega, by omega, by omega, by omega, ?_, ?_, ?_, ?_⟩
        · show _ = _
          rw [div_succ, ← HE.out, beN_N h l l1 l2]
        · go_grown
        · have := ((hbk.far (p := ⟨w.heap.size + 1 + 1, 16 - 1 - j, none⟩) (by simp; omega) (.int .u8 (l % 256))).set_ 2 (.int .u64 (l / 256 + h % 256 * 72057594037927936))).set_ 1 (.int .u64 (h / 256))
          simpa using this
        · exact ((row_addr hrow hlt (x := l % 256) (by unfold byteN; rw [← HE.out]; omega)).setOther (a := ⟨w.heap.size, 2, none⟩) (by simp) _).setOther (a := ⟨w.heap.size, 1, none⟩) (by simp) _
      case measure => (simp [intOf]; try omega)
    · obtain rfl : j = 16 := by omega
      have hge : decide ((0 : Int) ≤ 16 - 1 - ((16 : Nat) : Int)) = false := by decide
      go_wp2
      go_ret
      refine ⟨w.heap.size + 1 + 1, rfl, ?_, hbw⟩
      have := own_of_row (base := w.heap.size) hrow (by omega) (by unfold maxLen; omega)
      unfold addrB
      rw [← HN.out]
      exact this

set_option maxHeartbeats 2000000 in
theorem abytes_four (hi lo : Int) (w : World) (hv : validA false hi lo = true) (h0 : U64 hi) (l0 : U64 lo) :
    Calls Tryd.prog 28 #[.agg #[.bool false, .int .u64 hi, .int .u64 lo]] w fun e w' =>
      ∃ g, e = .returned (.slice (some ⟨g, 0, none⟩) 4 4) ∧ w'.ownsRow w.heap.size 5 1 (.slice (some ⟨g, 0, none⟩) 4 4) 4 (bytesV (addrB false hi lo)) ∧ Below w.heap.size w w' := by
  obtain ⟨N, HN⟩ : ∃ N : Int, Hid (N = hi * 18446744073709551616 + lo) := ⟨_, rfl⟩
  have hmk : ∀ w, (Instr.makeSlice 38 (.int .i64 4) (.int .i64 4)).run Tryd.prog w = .ok (.slice (some ⟨w.heap.size, 0, none⟩) 4 4) (w.alloc (.cells (madeCells #[.int .u8 0] 4) 5)) :=
    fun w => run_make_row' (P := Tryd.prog) 38 5 (.int .u8 0) 1 Tryd.underlying38 Tryd.infoU8 rfl .i64 .i64 4 (by omega) (by omega) w
  go_enter Tryd.func28, Tryd.ntmps28
  go_wp2_with fail
  refine (avalid_any _ _ _ _).mono ?_
  rintro e w' ⟨rfl, rfl⟩
  rw [hv]
  go_wp2
  go_loopw [5] (fun i wr => ∃ (j : Nat) (h l : Int), j ≤ 4 ∧ i = .int .i64 (4 - 1 - (j : Int)) ∧ 0 ≤ h ∧ h < 18446744073709551616 ∧ 0 ≤ l ∧ l < 18446744073709551616 ∧ Hid (h * 18446744073709551616 + l = N / 256 ^ j) ∧ Below w.heap.size w wr ∧
      Blk wr w.heap.size 27 #[.bool false, .int .u64 h, .int .u64 l] ∧ wr.rowIs (w.heap.size + 2) 5 4 (fun i => .int .u8 (if i < 4 - j then 0 else byteN N (4 - 1 - i)))) (fun i _ => (intOf i + 1).toNat)
  case atStart =>
    refine ⟨0, hi, lo, by omega, rfl, h0.1, h0.2, l0.1, l0.2, by rw [HN.out]; simp [Hid], ?_, ?_, ?_⟩
    · exact (((Below.refl _ _).alloc (Nat.le_refl _) _).alloc (by simp) _).alloc (by simp; omega) _
    · exact ((Blk.new w _ _).alloc _).alloc _
    · have := World.rowIs_made ((w.alloc (.cells #[.bool false, .int .u64 hi, .int .u64 lo] 27)).alloc (.cells #[.bool false, .int .u64 hi, .int .u64 lo] 27)) (.int .u8 0) 4 5
      simp only [World.size_alloc] at this
      exact this.congr fun i hi => by rw [if_pos (by omega)]
  case round =>
    obtain ⟨j, h, l, hj, rfl, h1, h2, l1, l2, HE, hbw, hbk, hrow⟩ := hrel
    by_cases hlt : j < 4
    · have k0 : wr.cell? ⟨w.heap.size, 1, none⟩ = some (.int .u64 h) := hbk.cell 1
      have k1 : wr.cell? ⟨w.heap.size, 2, none⟩ = some (.int .u64 l) := hbk.cell 2
      have f0 := hbk.frozen 1
      have f1 := hbk.frozen 2
      have c0 := hrow.cell (i := 4 - 1 - j) (by omega)
      have g0 := hrow.frozen (4 - 1 - j)
      have hge : decide ((0 : Int) ≤ 4 - 1 - (j : Int)) = true := by simp; omega
      have ei : ((4 : Int) - 1 - (j : Int)) = ((4 - 1 - j : Nat) : Int) := by omega
      rw [ei]
      have hor := u64_or_split h1 l1 l2
      go_wp2
      go_roundw
      case rel =>
        refine ⟨j + 1, h / 256, l / 256 + h % 256 * 72057594037927936, hlt, by congr 1; omega, by omega, by omega, by omega, by omega, ?_, ?_, ?_, ?_⟩
        · show _ = _
          rw [div_succ, ← HE.out, beN_N h l l1 l2]
        · go_grown
        · have := ((hbk.far (p := ⟨w.heap.size + 1 + 1, 4 - 1 - j, none⟩) (by simp; omega) (.int .u8 (l % 256))).set_ 2 (.int .u64 (l / 256 + h % 256 * 72057594037927936))).set_ 1 (.int .u64 (h / 256))
          simpa using this
        · exact ((row_addr hrow hlt (x := l % 256) (by unfold byteN; rw [← HE.out]; omega)).setOther (a := ⟨w.heap.size, 2, none⟩) (by simp) _).setOther (a := ⟨w.heap.size, 1, none⟩) (by simp) _
      case measure => (simp [intOf]; try omega)
    · obtain rfl : j = 4 := by omega
      have hge : decide ((0 : Int) ≤ 4 - 1 - ((4 : Nat) : Int)) = false := by decide
      go_wp2
      go_ret
      refine ⟨w.heap.size + 1 + 1, rfl, ?_, hbw⟩
      have := own_of_row (base := w.heap.size) hrow (by omega) (by unfold maxLen; omega)
      unfold addrB
      rw [← HN.out]
      exact this

end Go.Proofs.YtopkbpigaengeaaDoor
