/-
  Addresses: validity, bytes, and back; numbers of two bytes.
-/
import Derived.Test.YtopkbpigaengeaaDoorD
namespace Go.Proofs.YtopkbpigaengeaaDoor
open Go.RowKit

/-- is it a valid address? -/
def validA (v6 : Bool) (hi lo : Int) : Bool := v6 || (hi == 0 && decide (lo < 4294967296))

set_option maxHeartbeats 400000 in
theorem avalid_any (v6 : Bool) (hi lo : Int) (w : World) :
    Calls Tryd.prog 29 #[.agg #[.bool v6, .int .u64 hi, .int .u64 lo]] w fun e w' => e = .returned (.bool (validA v6 hi lo)) ∧ w.alloc (.cells #[.bool v6, .int .u64 hi, .int .u64 lo] 27) = w' := by
  go_enter Tryd.func29, Tryd.ntmps29
  cases v6 with
  | true =>
    go_wp2
    go_ret
    exact ⟨by simp [validA], rfl⟩
  | false =>
    by_cases h0 : hi = 0
    · subst h0
      go_wp2
      go_ret
      exact ⟨by simp [validA], rfl⟩
    · have hb : (hi == 0) = false := by simp [h0]
      go_wp2
      go_ret
      exact ⟨by simp [validA, h0], rfl⟩

set_option maxHeartbeats 400000 in
theorem rvalid_any (v6 : Bool) (hi lo : Int) (w : World) :
    Calls Tryd.prog 30 #[.agg #[.bool v6, .int .u64 hi, .int .u64 lo]] w fun e w' => e = .returned (.bool (validA v6 hi lo)) ∧ w.alloc (.cells #[.bool v6, .int .u64 hi, .int .u64 lo] 27) = w' := by
  go_enter Tryd.func30, Tryd.ntmps30
  cases v6 with
  | true =>
    go_wp2
    go_ret
    exact ⟨by simp [validA], rfl⟩
  | false =>
    by_cases h0 : hi = 0
    · subst h0
      go_wp2
      go_ret
      exact ⟨by simp [validA], rfl⟩
    · have hb : (hi == 0) = false := by simp [h0]
      go_wp2
      go_ret
      exact ⟨by simp [validA, h0], rfl⟩

/-- one more byte behind an address' number -/
def fbStep (a : Int × Int) (x : Int) : Int × Int := (bits .or .u64 (IntKind.u64.wrap (a.1 * 256)) (a.2 / 72057594037927936), bits .or .u64 (IntKind.u64.wrap (a.2 * 256)) x)
def fb (bs : List Int) : Int × Int := bs.foldl fbStep (0, 0)
theorem fb_snoc (bs : List Int) (k : Nat) (h : k < bs.length) : fb (bs.take (k + 1)) = fbStep (fb (bs.take k)) (gB bs k) := by
  unfold fb
  rw [List.take_succ_eq_append_getElem h, List.foldl_append]
  simp [gB, List.getD, h]
def U64 (x : Int) : Prop := 0 ≤ x ∧ x < 18446744073709551616
theorem u64_bits (op : BinOp) (x y : Int) : U64 (bits op .u64 x y) := by
  have := bounds_u64 (wf_bits op .u64 x y)
  unfold U64; omega
theorem fbStep_bd (a : Int × Int) (x : Int) : U64 (fbStep a x).1 ∧ U64 (fbStep a x).2 := by
  simp only [fbStep]
  exact ⟨u64_bits _ _ _, u64_bits _ _ _⟩
theorem fb_bd (bs : List Int) : U64 (fb bs).1 ∧ U64 (fb bs).2 := by
  unfold fb
  rw [← List.foldr_reverse]
  generalize bs.reverse = l
  cases l with
  | nil => unfold U64; simp
  | cons x l =>
    simp only [List.foldr_cons]
    exact fbStep_bd _ _

set_option maxHeartbeats 2000000 in
theorem afrom_any (A : Option Addr) (n c B : Nat) (bs : List Int) (w : World) (hB : IsB bs) (hBw : B ≤ w.heap.size) (hr : Reads w B 1 A n (bytesV bs)) (hn : n = 4 ∨ n = 16) :
    Calls Tryd.prog 31 #[.slice A n c] w fun e w' =>
      e = .returned (.tuple #[.agg #[.bool (decide (n = 16)), .int .u64 (fb bs).1, .int .u64 (fb bs).2], .int .i64 0]) ∧ Below w.heap.size w w' := by
  have hl : Hid (bs.length = n) := by have := hr.1; rw [bytesV_len] at this; show bs.length = n; omega
  have fin : ∀ (wx : World) (a : Act), Hid (Below w.heap.size w wx ∧ Blk wx w.heap.size 27 #[.bool (decide (n = 16)), .int .u64 (fb bs).1, .int .u64 (fb bs).2]) → a.tmps.getD 2 undef = .pointer (some ⟨w.heap.size, 0, none⟩) → a.tmps.getD 3 undef = .int .i64 0 → a.defers = [] →
      bodyPost Tryd.prog Tryd.f31 (fun e w' => e = .returned (.tuple #[.agg #[.bool (decide (n = 16)), .int .u64 (fb bs).1, .int .u64 (fb bs).2], .int .i64 0]) ∧ Below w.heap.size w w') .ret a wx := by
    rintro wx a ⟨hb, hk⟩ hs hs3 hdf
    refine bodyPost_ret (v := .tuple #[.agg #[.bool (decide (n = 16)), .int .u64 (fb bs).1, .int .u64 (fb bs).2], .int .i64 0]) ?_ hdf ⟨rfl, hb⟩
    rw [results_cell_tmp (p := 2) (u := 3) (ty := 27) rfl, hs, hs3]
    simp [asAddr, run_loadVar_row wx w.heap.size _ 27 _ (0, 0) _ hk Tryd.underlying27 rfl (by kernel_rfl)]
  have Hfin := Lib.hid fin
  clear fin
  have h4 : ((n : Int) != 4) = false ∧ decide (n = 16) = false ∧ ((n : Int) == 16) = false ∨ ((n : Int) != 4) = true ∧ ((n : Int) != 16) = false ∧ decide (n = 16) = true ∧ ((n : Int) == 16) = true := by
    rcases hn with rfl | rfl <;> simp
  go_enter Tryd.func31, Tryd.ntmps31
  rcases h4 with ⟨h4, h5, h6⟩ | ⟨h4, h4', h5, h6⟩
  · have H5 := Lib.hid h5
    clear h5
    go_wp2
    go_loopw [6, 22] (fun _ i wr => ∃ k : Nat, k ≤ n ∧ i = .int .i64 (k : Int) ∧ Below w.heap.size w wr ∧ Blk wr w.heap.size 27 #[.bool false, .int .u64 0, .int .u64 0] ∧
        Blk wr (w.heap.size + 1) 27 #[.bool (decide (n = 16)), .int .u64 (fb (bs.take k)).1, .int .u64 (fb (bs.take k)).2]) (fun _ i _ => n - (intOf i).toNat)
    case atStart =>
      refine ⟨0, Nat.zero_le _, rfl, ((Below.refl _ _).alloc (Nat.le_refl _) _).alloc (by simp) _, (Blk.new w _ _).alloc _, ?_⟩
      rw [H5.out]
      have := Blk.new (w.alloc (.cells #[.bool false, .int .u64 0, .int .u64 0] 27)) 27 #[.bool false, .int .u64 0, .int .u64 0]
      simpa [fb] using this
    case round =>
      obtain ⟨k, hk, rfl, hbw, hb0, hb1⟩ := hrel
      by_cases hlt : k < n
      · obtain ⟨b, off, u, rfl, hbB, hu, hck⟩ := (hr.below (hbw.mono hBw)).at_ hlt
        rw [bytesV_get bs k (by rw [hl.out]; exact hlt)] at hu
        obtain rfl := Option.some.inj hu
        have hfk := hB.at k
        have hbd := fb_bd (bs.take k)
        have Hsn := Lib.hid (fb_snoc bs k (by rw [hl.out]; exact hlt))
        obtain ⟨b1, b2⟩ := hbd
        generalize fb (bs.take k) = F at *
        obtain ⟨h1, l1⟩ := F
        unfold U64 at b1 b2
        simp only at b1 b2 hb1
        have k0 : wr.cell? ⟨w.heap.size + 1, 1, none⟩ = some (.int .u64 h1) := hb1.cell 1
        have k1 : wr.cell? ⟨w.heap.size + 1, 2, none⟩ = some (.int .u64 l1) := hb1.cell 2
        have f0 := hb1.frozen 1
        have f1 := hb1.frozen 2
        have hne : ¬ b = w.heap.size + 1 := by omega
        clear hu hr hB
        go_wp2
        go_roundw
        case rel =>
          refine ⟨k + 1, hlt, by go_num, (hbw.setCell (p := ⟨w.heap.size + 1, 1, none⟩) (by simp) _).setCell (p := ⟨w.heap.size + 1, 2, none⟩) (by simp) _, (hb0.far (p := ⟨w.heap.size + 1, 1, none⟩) (by simp) _).far (p := ⟨w.heap.size + 1, 2, none⟩) (by simp) _, ?_⟩
          rw [Hsn.out]
          have := (hb1.set_ 1 (.int .u64 (bits .or .u64 (IntKind.u64.wrap (h1 * 256)) (l1 / 72057594037927936)))).set_ 2 (.int .u64 (bits .or .u64 (IntKind.u64.wrap (l1 * 256)) (gB bs k)))
          simpa [fbStep] using this
        case measure => simp [intOf]; omega
      · obtain rfl : k = n := by omega
        have e : bs.take k = bs := List.take_of_length_le (by rw [hl.out]; exact Nat.le_refl _)
        rw [e] at hb1
        have k0 := hb1.cell 0
        have k1 := hb1.cell 1
        have k2 := hb1.cell 2
        have j0 := hb0.cell 0
        have j1 := hb0.cell 1
        have j2 := hb0.cell 2
        have f0 := hb0.frozen 0
        have f1 := hb0.frozen 1
        have f2 := hb0.frozen 2
        have E := Lib.hid e
        clear e hr hB
        go_wp2_with fail
        exact Hfin.out _ _ ⟨((hbw.setCell (p := ⟨w.heap.size, 0, none⟩) (Nat.le_refl _) _).setCell (p := ⟨w.heap.size, 1, none⟩) (Nat.le_refl _) _).setCell (p := ⟨w.heap.size, 2, none⟩) (Nat.le_refl _) _, by rw [H5.out]; exact hb0.set3 _ _ _⟩ rfl rfl rfl
  · have H5 := Lib.hid h5
    clear h5
    go_wp2
    go_loopw [6, 22] (fun _ i wr => ∃ k : Nat, k ≤ n ∧ i = .int .i64 (k : Int) ∧ Below w.heap.size w wr ∧ Blk wr w.heap.size 27 #[.bool false, .int .u64 0, .int .u64 0] ∧
        Blk wr (w.heap.size + 1) 27 #[.bool (decide (n = 16)), .int .u64 (fb (bs.take k)).1, .int .u64 (fb (bs.take k)).2]) (fun _ i _ => n - (intOf i).toNat)
    case atStart =>
      refine ⟨0, Nat.zero_le _, rfl, ((Below.refl _ _).alloc (Nat.le_refl _) _).alloc (by simp) _, (Blk.new w _ _).alloc _, ?_⟩
      rw [H5.out]
      have := Blk.new (w.alloc (.cells #[.bool false, .int .u64 0, .int .u64 0] 27)) 27 #[.bool true, .int .u64 0, .int .u64 0]
      simpa [fb] using this
    case round =>
      obtain ⟨k, hk, rfl, hbw, hb0, hb1⟩ := hrel
      by_cases hlt : k < n
      · obtain ⟨b, off, u, rfl, hbB, hu, hck⟩ := (hr.below (hbw.mono hBw)).at_ hlt
        rw [bytesV_get bs k (by rw [hl.out]; exact hlt)] at hu
        obtain rfl := Option.some.inj hu
        have hfk := hB.at k
        have hbd := fb_bd (bs.take k)
        have Hsn := Lib.hid (fb_snoc bs k (by rw [hl.out]; exact hlt))
        obtain ⟨b1, b2⟩ := hbd
        generalize fb (bs.take k) = F at *
        obtain ⟨h1, l1⟩ := F
        unfold U64 at b1 b2
        simp only at b1 b2 hb1
        have k0 : wr.cell? ⟨w.heap.size + 1, 1, none⟩ = some (.int .u64 h1) := hb1.cell 1
        have k1 : wr.cell? ⟨w.heap.size + 1, 2, none⟩ = some (.int .u64 l1) := hb1.cell 2
        have f0 := hb1.frozen 1
        have f1 := hb1.frozen 2
        have hne : ¬ b = w.heap.size + 1 := by omega
        clear hu hr hB
        go_wp2
        go_roundw
        case rel =>
          refine ⟨k + 1, hlt, by go_num, (hbw.setCell (p := ⟨w.heap.size + 1, 1, none⟩) (by simp) _).setCell (p := ⟨w.heap.size + 1, 2, none⟩) (by simp) _, (hb0.far (p := ⟨w.heap.size + 1, 1, none⟩) (by simp) _).far (p := ⟨w.heap.size + 1, 2, none⟩) (by simp) _, ?_⟩
          rw [Hsn.out]
          have := (hb1.set_ 1 (.int .u64 (bits .or .u64 (IntKind.u64.wrap (h1 * 256)) (l1 / 72057594037927936)))).set_ 2 (.int .u64 (bits .or .u64 (IntKind.u64.wrap (l1 * 256)) (gB bs k)))
          simpa [fbStep] using this
        case measure => simp [intOf]; omega
      · obtain rfl : k = n := by omega
        have e : bs.take k = bs := List.take_of_length_le (by rw [hl.out]; exact Nat.le_refl _)
        rw [e] at hb1
        have k0 := hb1.cell 0
        have k1 := hb1.cell 1
        have k2 := hb1.cell 2
        have j0 := hb0.cell 0
        have j1 := hb0.cell 1
        have j2 := hb0.cell 2
        have f0 := hb0.frozen 0
        have f1 := hb0.frozen 1
        have f2 := hb0.frozen 2
        have E := Lib.hid e
        clear e hr hB
        go_wp2_with fail
        exact Hfin.out _ _ ⟨((hbw.setCell (p := ⟨w.heap.size, 0, none⟩) (Nat.le_refl _) _).setCell (p := ⟨w.heap.size, 1, none⟩) (Nat.le_refl _) _).setCell (p := ⟨w.heap.size, 2, none⟩) (Nat.le_refl _) _, by rw [H5.out]; exact hb0.set3 _ _ _⟩ rfl rfl rfl

set_option maxHeartbeats 2000000 in
theorem rfrom_any (A : Option Addr) (n c B : Nat) (bs : List Int) (w : World) (hB : IsB bs) (hBw : B ≤ w.heap.size) (hr : Reads w B 1 A n (bytesV bs)) (hn : n = 4 ∨ n = 16) :
    Calls Tryd.prog 33 #[.slice A n c] w fun e w' =>
      e = .returned (.tuple #[.agg #[.bool (decide (n = 16)), .int .u64 (fb bs).1, .int .u64 (fb bs).2], .int .i64 0]) ∧ Below w.heap.size w w' := by
  have hl : Hid (bs.length = n) := by have := hr.1; rw [bytesV_len] at this; show bs.length = n; omega
  have fin : ∀ (wx : World) (a : Act), Hid (Below w.heap.size w wx ∧ Blk wx w.heap.size 27 #[.bool (decide (n = 16)), .int .u64 (fb bs).1, .int .u64 (fb bs).2]) → a.tmps.getD 2 undef = .pointer (some ⟨w.heap.size, 0, none⟩) → a.tmps.getD 3 undef = .int .i64 0 → a.defers = [] →
      bodyPost Tryd.prog Tryd.f33 (fun e w' => e = .returned (.tuple #[.agg #[.bool (decide (n = 16)), .int .u64 (fb bs).1, .int .u64 (fb bs).2], .int .i64 0]) ∧ Below w.heap.size w w') .ret a wx := by
    rintro wx a ⟨hb, hk⟩ hs hs3 hdf
    refine bodyPost_ret (v := .tuple #[.agg #[.bool (decide (n = 16)), .int .u64 (fb bs).1, .int .u64 (fb bs).2], .int .i64 0]) ?_ hdf ⟨rfl, hb⟩
    rw [results_cell_tmp (p := 2) (u := 3) (ty := 27) rfl, hs, hs3]
    simp [asAddr, run_loadVar_row wx w.heap.size _ 27 _ (0, 0) _ hk Tryd.underlying27 rfl (by kernel_rfl)]
  have Hfin := Lib.hid fin
  clear fin
  have h4 : ((n : Int) != 4) = false ∧ decide (n = 16) = false ∧ ((n : Int) == 16) = false ∨ ((n : Int) != 4) = true ∧ ((n : Int) != 16) = false ∧ decide (n = 16) = true ∧ ((n : Int) == 16) = true := by
    rcases hn with rfl | rfl <;> simp
  go_enter Tryd.func33, Tryd.ntmps33
  rcases h4 with ⟨h4, h5, h6⟩ | ⟨h4, h4', h5, h6⟩
  · have H5 := Lib.hid h5
    clear h5
    go_wp2
    go_loopw [6, 22] (fun _ i wr => ∃ k : Nat, k ≤ n ∧ i = .int .i64 (k : Int) ∧ Below w.heap.size w wr ∧ Blk wr w.heap.size 27 #[.bool false, .int .u64 0, .int .u64 0] ∧
        Blk wr (w.heap.size + 1) 27 #[.bool (decide (n = 16)), .int .u64 (fb (bs.take k)).1, .int .u64 (fb (bs.take k)).2]) (fun _ i _ => n - (intOf i).toNat)
    case atStart =>
      refine ⟨0, Nat.zero_le _, rfl, ((Below.refl _ _).alloc (Nat.le_refl _) _).alloc (by simp) _, (Blk.new w _ _).alloc _, ?_⟩
      rw [H5.out]
      have := Blk.new (w.alloc (.cells #[.bool false, .int .u64 0, .int .u64 0] 27)) 27 #[.bool false, .int .u64 0, .int .u64 0]
      simpa [fb] using this
    case round =>
      obtain ⟨k, hk, rfl, hbw, hb0, hb1⟩ := hrel
      by_cases hlt : k < n
      · obtain ⟨b, off, u, rfl, hbB, hu, hck⟩ := (hr.below (hbw.mono hBw)).at_ hlt
        rw [bytesV_get bs k (by rw [hl.out]; exact hlt)] at hu
        obtain rfl := Option.some.inj hu
        have hfk := hB.at k
        have hbd := fb_bd (bs.take k)
        have Hsn := Lib.hid (fb_snoc bs k (by rw [hl.out]; exact hlt))
        obtain ⟨b1, b2⟩ := hbd
        generalize fb (bs.take k) = F at *
        obtain ⟨h1, l1⟩ := F
        unfold U64 at b1 b2
        simp only at b1 b2 hb1
        have k0 : wr.cell? ⟨w.heap.size + 1, 1, none⟩ = some (.int .u64 h1) := hb1.cell 1
        have k1 : wr.cell? ⟨w.heap.size + 1, 2, none⟩ = some (.int .u64 l1) := hb1.cell 2
        have f0 := hb1.frozen 1
        have f1 := hb1.frozen 2
        have hne : ¬ b = w.heap.size + 1 := by omega
        clear hu hr hB
        go_wp2
        go_roundw
        case rel =>
          refine ⟨k + 1, hlt, by go_num, (hbw.setCell (p := ⟨w.heap.size + 1, 1, none⟩) (by simp) _).setCell (p := ⟨w.heap.size + 1, 2, none⟩) (by simp) _, (hb0.far (p := ⟨w.heap.size + 1, 1, none⟩) (by simp) _).far (p := ⟨w.heap.size + 1, 2, none⟩) (by simp) _, ?_⟩
          rw [Hsn.out]
          have := (hb1.set_ 1 (.int .u64 (bits .or .u64 (IntKind.u64.wrap (h1 * 256)) (l1 / 72057594037927936)))).set_ 2 (.int .u64 (bits .or .u64 (IntKind.u64.wrap (l1 * 256)) (gB bs k)))
          simpa [fbStep] using this
        case measure => simp [intOf]; omega
      · obtain rfl : k = n := by omega
        have e : bs.take k = bs := List.take_of_length_le (by rw [hl.out]; exact Nat.le_refl _)
        rw [e] at hb1
        have k0 := hb1.cell 0
        have k1 := hb1.cell 1
        have k2 := hb1.cell 2
        have j0 := hb0.cell 0
        have j1 := hb0.cell 1
        have j2 := hb0.cell 2
        have f0 := hb0.frozen 0
        have f1 := hb0.frozen 1
        have f2 := hb0.frozen 2
        have E := Lib.hid e
        clear e hr hB
        go_wp2_with fail
        exact Hfin.out _ _ ⟨((hbw.setCell (p := ⟨w.heap.size, 0, none⟩) (Nat.le_refl _) _).setCell (p := ⟨w.heap.size, 1, none⟩) (Nat.le_refl _) _).setCell (p := ⟨w.heap.size, 2, none⟩) (Nat.le_refl _) _, by rw [H5.out]; exact hb0.set3 _ _ _⟩ rfl rfl rfl
  · have H5 := Lib.hid h5
    clear h5
    go_wp2
    go_loopw [6, 22] (fun _ i wr => ∃ k : Nat, k ≤ n ∧ i = .int .i64 (k : Int) ∧ Below w.heap.size w wr ∧ Blk wr w.heap.size 27 #[.bool false, .int .u64 0, .int .u64 0] ∧
        Blk wr (w.heap.size + 1) 27 #[.bool (decide (n = 16)), .int .u64 (fb (bs.take k)).1, .int .u64 (fb (bs.take k)).2]) (fun _ i _ => n - (intOf i).toNat)
    case atStart =>
      refine ⟨0, Nat.zero_le _, rfl, ((Below.refl _ _).alloc (Nat.le_refl _) _).alloc (by simp) _, (Blk.new w _ _).alloc _, ?_⟩
      rw [H5.out]
      have := Blk.new (w.alloc (.cells #[.bool false, .int .u64 0, .int .u64 0] 27)) 27 #[.bool true, .int .u64 0, .int .u64 0]
      simpa [fb] using this
    case round =>
      obtain ⟨k, hk, rfl, hbw, hb0, hb1⟩ := hrel
      by_cases hlt : k < n
      · obtain ⟨b, off, u, rfl, hbB, hu, hck⟩ := (hr.below (hbw.mono hBw)).at_ hlt
        rw [bytesV_get bs k (by rw [hl.out]; exact hlt)] at hu
        obtain rfl := Option.some.inj hu
        have hfk := hB.at k
        have hbd := fb_bd (bs.take k)
        have Hsn := Lib.hid (fb_snoc bs k (by rw [hl.out]; exact hlt))
        obtain ⟨b1, b2⟩ := hbd
        generalize fb (bs.take k) = F at *
        obtain ⟨h1, l1⟩ := F
        unfold U64 at b1 b2
        simp only at b1 b2 hb1
        have k0 : wr.cell? ⟨w.heap.size + 1, 1, none⟩ = some (.int .u64 h1) := hb1.cell 1
        have k1 : wr.cell? ⟨w.heap.size + 1, 2, none⟩ = some (.int .u64 l1) := hb1.cell 2
        have f0 := hb1.frozen 1
        have f1 := hb1.frozen 2
        have hne : ¬ b = w.heap.size + 1 := by omega
        clear hu hr hB
        go_wp2
        go_roundw
        case rel =>
          refine ⟨k + 1, hlt, by go_num, (hbw.setCell (p := ⟨w.heap.size + 1, 1, none⟩) (by simp) _).setCell (p := ⟨w.heap.size + 1, 2, none⟩) (by simp) _, (hb0.far (p := ⟨w.heap.size + 1, 1, none⟩) (by simp) _).far (p := ⟨w.heap.size + 1, 2, none⟩) (by simp) _, ?_⟩
          rw [Hsn.out]
          have := (hb1.set_ 1 (.int .u64 (bits .or .u64 (IntKind.u64.wrap (h1 * 256)) (l1 / 72057594037927936)))).set_ 2 (.int .u64 (bits .or .u64 (IntKind.u64.wrap (l1 * 256)) (gB bs k)))
          simpa [fbStep] using this
        case measure => simp [intOf]; omega
      · obtain rfl : k = n := by omega
        have e : bs.take k = bs := List.take_of_length_le (by rw [hl.out]; exact Nat.le_refl _)
        rw [e] at hb1
        have k0 := hb1.cell 0
        have k1 := hb1.cell 1
        have k2 := hb1.cell 2
        have j0 := hb0.cell 0
        have j1 := hb0.cell 1
        have j2 := hb0.cell 2
        have f0 := hb0.frozen 0
        have f1 := hb0.frozen 1
        have f2 := hb0.frozen 2
        have E := Lib.hid e
        clear e hr hB
        go_wp2_with fail
        exact Hfin.out _ _ ⟨((hbw.setCell (p := ⟨w.heap.size, 0, none⟩) (Nat.le_refl _) _).setCell (p := ⟨w.heap.size, 1, none⟩) (Nat.le_refl _) _).setCell (p := ⟨w.heap.size, 2, none⟩) (Nat.le_refl _) _, by rw [H5.out]; exact hb0.set3 _ _ _⟩ rfl rfl rfl

end Go.Proofs.YtopkbpigaengeaaDoor
