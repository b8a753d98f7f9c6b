/-
  The walk of PacketSums: the check sums of bytes, and of data between two addresses.
-/
import Derived.Test.YtcdfmgkcadpgbaaM
import Derived.Test.YtcdfmgkcadpgbaaHops
namespace Go.Proofs.Ytcdfmgkcadpgbaa
open Go.RowKit

set_option maxHeartbeats 1000000 in
theorem sums_long (A L : Option Addr) (n c m k : Nat) (p : Int) (w : World) (hn : 600 < n) :
    Calls Try.prog 5 #[.slice A n c, .slice L m k, .int .i64 p] w (LawPost w) := by
  have hd : decide ((n : Int) ≤ 600) = false := by simp; omega
  go_enter Try.func5, Try.ntmps5
  go_wp2_with fail
  refine (short_any _ _ _ _).mono ?_
  rintro e w' ⟨rfl, rfl⟩
  rw [hd]
  go_wp2_with (refine (awake_any _).mono ?_; rintro e w' ⟨rfl, hba⟩)
  go_ret
  exact ⟨rfl, hba⟩

/-- what the loop over three slices of bytes needs: two addresses in the blocks a and a + 1, the three slices in block kb -/
def SumsAt (w : World) (a kb : Nat) (hi1 lo1 hi2 lo2 : Int) (wx : World) : Prop :=
  Blk wx a 32 #[.bool true, .int .u64 hi1, .int .u64 lo1] ∧ Blk wx (a + 1) 32 #[.bool true, .int .u64 hi2, .int .u64 lo2] ∧ Ext w wx ∧
  ∀ k, k < 3 → ∃ (A : Option Addr) (c : Nat) (bs : List Int), wx.cell? ⟨kb, k, none⟩ = some (.slice A bs.length c) ∧ Reads wx wx.heap.size 1 A bs.length (bytesV bs) ∧ IsB bs ∧ bs.length ≤ 1000
theorem SumsAt.ext {w : World} {a kb : Nat} {hi1 lo1 hi2 lo2 : Int} {wx w' : World} (h : SumsAt w a kb hi1 lo1 hi2 lo2 wx) (e : Ext wx w') : SumsAt w a kb hi1 lo1 hi2 lo2 w' := by
  obtain ⟨h1, h2, h3, h4⟩ := h
  refine ⟨h1.below e h1.lt, h2.below e h2.lt, h3.trans e, fun k hk => ?_⟩
  obtain ⟨A, c, bs, h5, h6, h7, h8⟩ := h4 k hk
  exact ⟨A, c, bs, (e.cell (p := ⟨kb, k, none⟩) (World.block_lt_of_cell? wx _ h5)).trans h5, h6.ext e, h7, h8⟩

theorem sums_rel {w w4 w5 : World} {a3 m n5 c c5 : Nat} {hi1 lo1 hi2 lo2 : Int} {A A5 : Option Addr} {bs : List Int} (hE4 : Ext w w4) (hE45 : Ext w4 w5) (hs4 : w4.heap.size = a3 + 1 + 1)
    (hB1 : Blk w4 a3 32 #[.bool true, .int .u64 hi1, .int .u64 lo1]) (hB2 : Blk w4 (a3 + 1) 32 #[.bool true, .int .u64 hi2, .int .u64 lo2]) (hr4 : Reads w4 w.heap.size 1 A bs.length (bytesV bs)) (hB : IsB bs) (hl : bs.length ≤ 600)
    (hown5 : w5.ownsRow w.heap.size 5 1 (.slice A5 n5 c5) (2 + bs.length) (bytesV ([255, 255] ++ bs))) (hm : m ≤ 4) :
    SumsAt w a3 (w5.heap.size + 1) hi1 lo1 hi2 lo2 ((w5.alloc (.cells (madeCells #[.int .u8 0] m) 5)).alloc (.cells #[.slice A bs.length c, .slice A5 n5 c5, .slice (some ⟨w5.heap.size, 0, none⟩) m m] 22)) := by
  have hz := zeros_ok (g := a3) (m := m) (w := w5) (by have := hE45.size; omega) (by omega)
  have hE6 : Ext w5 ((w5.alloc (.cells (madeCells #[.int .u8 0] m) 5)).alloc (.cells #[.slice A bs.length c, .slice A5 n5 c5, .slice (some ⟨w5.heap.size, 0, none⟩) m m] 22)) := ((Ext.refl w5).alloc _).alloc _
  have hrow : Blk ((w5.alloc (.cells (madeCells #[.int .u8 0] m) 5)).alloc (.cells #[.slice A bs.length c, .slice A5 n5 c5, .slice (some ⟨w5.heap.size, 0, none⟩) m m] 22)) (w5.heap.size + 1) 22 #[.slice A bs.length c, .slice A5 n5 c5, .slice (some ⟨w5.heap.size, 0, none⟩) m m] := by
    have := Blk.new (w5.alloc (.cells (madeCells #[.int .u8 0] m) 5)) 22 #[.slice A bs.length c, .slice A5 n5 c5, .slice (some ⟨w5.heap.size, 0, none⟩) m m]
    simpa using this
  have h1 := hB1.below hE45 hB1.lt
  have h2 := hB2.below hE45 hB2.lt
  refine ⟨h1.below hE6 h1.lt, h2.below hE6 h2.lt, (hE4.trans hE45).trans hE6, fun k hk => ?_⟩
  obtain rfl | rfl | rfl : k = 0 ∨ k = 1 ∨ k = 2 := by omega
  · exact ⟨A, c, bs, hrow.cell 0, ((hr4.more hE4.size).ext hE45).ext hE6, hB, by omega⟩
  · have e : n5 = 2 + bs.length := by
      rcases hown5.2 with ⟨e, hn⟩ | ⟨g, cap, cur, e, _⟩
      · omega
      · injection e
    subst e
    have e2 : 2 + bs.length = ([255, 255] ++ bs).length := by simp; omega
    have hr5 := (Reads.of_own hown5).ext hE6
    refine ⟨A5, c5, [255, 255] ++ bs, ?_, by rw [← e2]; exact hr5, (IsB.list2 (by omega) (by omega)).append hB, by rw [← e2]; omega⟩
    rw [← e2]
    exact hrow.cell 1
  · refine ⟨some ⟨w5.heap.size, 0, none⟩, m, List.replicate m 0, ?_, ?_, hz.1, by simp; omega⟩
    · rw [List.length_replicate]
      exact hrow.cell 2
    · have := (PData.of_own hz.2.2).ext ((Ext.refl _).alloc (.cells #[.slice A bs.length c, .slice A5 (n5) c5, .slice (some ⟨w5.heap.size, 0, none⟩) m m] 22))
      obtain ⟨A', c', e, hr⟩ := this
      injection e with e1 e2 e3
      subst e1
      exact hr

theorem U64.of_ok {v : Bool} {hi lo : Int} (h : AddrOk v hi lo) : U64 hi ∧ U64 lo := ⟨⟨h.1, h.2.1⟩, ⟨h.2.2.1, h.2.2.2.1⟩⟩

set_option maxRecDepth 100000 in
set_option maxHeartbeats 1600000 in
theorem sums_main (A L : Option Addr) (c len k : Nat) (bs zs : List Int) (p : Int) (w : World) (hl : bs.length ≤ 600) (hB : IsB bs) (hr : Reads w w.heap.size 1 A bs.length (bytesV bs)) (hlen : len ≤ 9223372036854775807) (hz : Reads w w.heap.size 1 L len (zs.map (Value.int .i64)))
    (hp : -9223372036854775808 ≤ p ∧ p ≤ 9223372036854775807) :
    Calls Try.prog 5 #[.slice A bs.length c, .slice L len k, .int .i64 p] w (LawPost w) := by
  have hd : decide ((bs.length : Int) ≤ 600) = true := by simp; omega
  go_enter Try.func5, Try.ntmps5
  go_wp2_with fail
  refine (short_any _ _ _ _).mono ?_
  rintro e w' ⟨rfl, rfl⟩
  rw [hd]
  clear hd
  go_wp2_with fail
  refine (new_any L len k zs _ hlen hz).mono ?_
  rintro e w1 ⟨rfl, hdk, hb1, hz1⟩
  go_wp2_with fail
  refine (daddr_any _ _ _ hdk).mono ?_
  rintro e w2 ⟨v1, hi1, lo1, rfl, hok1, hg2, hdk2⟩
  unfold addrV
  go_wp2_with fail
  refine (daddr_any _ _ _ hdk2).mono ?_
  rintro e w3 ⟨v2, hi2, lo2, rfl, hok2, hg3, hdk3⟩
  have hE3 : Ext w w3 := (hb1.grown hg2 hb1.size (by intro j h; injection h with h; omega)).grown hg3 (by have := hg2.size; omega) (by intro j h; injection h with h; omega)
  clear hdk hdk2 hdk3 hg2 hg3 hb1
  unfold addrV
  go_upto_region 6 with fail
  have hr4 : Reads ((w3.alloc (.cells #[.bool true, .int .u64 hi1, .int .u64 lo1] 32)).alloc (.cells #[.bool true, .int .u64 hi2, .int .u64 lo2] 32)) w.heap.size 1 A bs.length (bytesV bs) :=
    ((hr.below hE3).alloc hE3.size _).alloc (by have := hE3.size; simp; omega) _
  have hE4 : Ext w ((w3.alloc (.cells #[.bool true, .int .u64 hi1, .int .u64 lo1] 32)).alloc (.cells #[.bool true, .int .u64 hi2, .int .u64 lo2] 32)) := (hE3.alloc _).alloc _
  have hB1 : Blk ((w3.alloc (.cells #[.bool true, .int .u64 hi1, .int .u64 lo1] 32)).alloc (.cells #[.bool true, .int .u64 hi2, .int .u64 lo2] 32)) w3.heap.size 32 #[.bool true, .int .u64 hi1, .int .u64 lo1] := (Blk.new _ _ _).alloc _
  have hB2 : Blk ((w3.alloc (.cells #[.bool true, .int .u64 hi1, .int .u64 lo1] 32)).alloc (.cells #[.bool true, .int .u64 hi2, .int .u64 lo2] 32)) (w3.heap.size + 1) 32 #[.bool true, .int .u64 hi2, .int .u64 lo2] := by
    have := Blk.new (w3.alloc (.cells #[.bool true, .int .u64 hi1, .int .u64 lo1] 32)) 32 #[.bool true, .int .u64 hi2, .int .u64 lo2]
    simpa using this
  have hs4 : ((w3.alloc (.cells #[.bool true, .int .u64 hi1, .int .u64 lo1] 32)).alloc (.cells #[.bool true, .int .u64 hi2, .int .u64 lo2] 32)).heap.size = w3.heap.size + 1 + 1 := by simp
  generalize (w3.alloc (.cells #[.bool true, .int .u64 hi1, .int .u64 lo1] 32)).alloc (.cells #[.bool true, .int .u64 hi2, .int .u64 lo2] 32) = w4 at *
  go_cut [31, 32, 33] (fun v31 v32 v33 wx => v32 = .int .i64 3 ∧ v33 = .int .i64 0 ∧ ∃ kb, v31 = .slice (some ⟨kb, 0, none⟩) 3 3 ∧ SumsAt w w3.heap.size kb hi1 lo1 hi2 lo2 wx)
  case first =>
    have hnew : (w4.alloc (.cells #[.int .u8 255, .int .u8 255] 5)).ownsRow w.heap.size 5 1 (.slice (some ⟨w4.heap.size, 0, none⟩) 2 2) 2 (bytesV [255, 255]) :=
      own_base (new_row_u8 w4 [255, 255] 2 rfl (by omega)) hE4.size
    have HS4 := Lib.hid hs4
    clear hs4 hz1 hz hr
    go_wp2_with (at_builtin; refine app_u8 rfl _ _ rfl w.heap.size (.slice (some ⟨w4.heap.size, 0, none⟩) 2 2) 2 [255, 255] rfl hnew w.heap.size A bs.length c bs rfl (hr4.alloc hE4.size _) (by omega) (by have := hE4.size; simp; omega) ?_; intro v5 w5 hown5 hg5 hb5)
    refine (mod_nat p 5 _ (by omega) (by omega)).mono ?_
    rintro e w' ⟨m, rfl, hm, rfl⟩
    have hE45 : Ext w4 w5 := Ext.grown ((Ext.refl w4).alloc _) hg5 (by intro j hj; injection hj with hj; exact Nat.le_of_eq hj)
    obtain ⟨A5, n5, c5, rfl⟩ := own_slice hown5
    have hmk : ∀ w, (Instr.makeSlice 22 (.int .i64 (m : Int)) (.int .i64 (m : Int))).run Try.prog w = .ok (.slice (some ⟨w.heap.size, 0, none⟩) m m) (w.alloc (.cells (madeCells #[.int .u8 0] m) 5)) :=
      fun w => run_make_row' (P := Try.prog) 22 5 (.int .u8 0) 1 Try.underlying22 Try.infoU8 rfl .i64 .i64 m (by omega) (by omega) w
    have hR := sums_rel hE4 hE45 (HS4.out) hB1 hB2 hr4 hB hl hown5 (show m ≤ 4 by omega) (c := c)
    obtain ⟨Z, HZ⟩ : ∃ Z, Hid (madeCells #[.int .u8 0] m = Z) := ⟨_, rfl⟩
    rw [HZ.out] at hR
    simp only [HZ.out] at hmk
    clear hnew hg5 hb5 hown5 hE45 hB1 hB2 hr4 hE4 hE3
    go_wp2_with fail
    go_meet
    exact ⟨rfl, rfl, _, rfl, hR⟩
  case rest =>
    obtain ⟨rfl, rfl, kb, rfl, hA⟩ := hcut
    have hu := U64.of_ok hok1
    have hv := U64.of_ok hok2
    clear hs4 hz1 hz hr hr4 hE4 hB1 hB2 hE3
    go_wp2_with fail
    go_loopw [33] (fun vi wr => ∃ k : Nat, k ≤ 3 ∧ vi = .int .i64 (k : Int) ∧ Ext wc wr) (fun vi _ => (3 - intOf vi).toNat)
    case atStart => exact ⟨0, by omega, rfl, Ext.refl _⟩
    case round =>
      obtain ⟨k, hk, rfl, hE⟩ := hrel
      by_cases hk3 : k < 3
      · have hAr := hA.ext hE
        obtain ⟨A6, c6, cs, hcell, hrd, hB6, hl6⟩ := hAr.2.2.2 k hk3
        have x0 : wr.cell? ⟨w3.heap.size, 0, none⟩ = some (.bool true) := hAr.1.cell 0
        have x1 : wr.cell? ⟨w3.heap.size, 1, none⟩ = some (.int .u64 hi1) := hAr.1.cell 1
        have x2 : wr.cell? ⟨w3.heap.size, 2, none⟩ = some (.int .u64 lo1) := hAr.1.cell 2
        have y0 : wr.cell? ⟨w3.heap.size + 1, 0, none⟩ = some (.bool true) := hAr.2.1.cell 0
        have y1 : wr.cell? ⟨w3.heap.size + 1, 1, none⟩ = some (.int .u64 hi2) := hAr.2.1.cell 1
        have y2 : wr.cell? ⟨w3.heap.size + 1, 2, none⟩ = some (.int .u64 lo2) := hAr.2.1.cell 2
        have l1 : w3.heap.size < wr.heap.size := hAr.1.lt
        have l2 : w3.heap.size + 1 < wr.heap.size := hAr.2.1.lt
        have hu1 := hu.1
        have hu2 := hu.2
        have hv1 := hv.1
        have hv2 := hv.2
        have HE := Lib.hid hE
        have HA := Lib.hid hAr
        clear hE hAr hu hv hA hok1 hok2 hB
        go_wp2_with fail
        go_cut [54] (fun v54 wx => v54 = .bool false ∧ Ext wr wx)
        case first =>
          clear HE HA
          replace hrd := hrd.extDrew
          go_region_held3 (fun w' => w'.cell? ⟨w3.heap.size, 0, none⟩ = some (.bool true) ∧ w'.cell? ⟨w3.heap.size, 1, none⟩ = some (.int .u64 hi1) ∧ w'.cell? ⟨w3.heap.size, 2, none⟩ = some (.int .u64 lo1) ∧
              w'.cell? ⟨w3.heap.size + 1, 0, none⟩ = some (.bool true) ∧ w'.cell? ⟨w3.heap.size + 1, 1, none⟩ = some (.int .u64 hi2) ∧ w'.cell? ⟨w3.heap.size + 1, 2, none⟩ = some (.int .u64 lo2)) (first | go_keep | (exact ⟨by assumption, by assumption, by assumption, by assumption, by assumption, by assumption⟩))
            (first
              | (go_at_call 11; refine (sum_any _ _ _ _ cs _ (by omega) hB6 hrd).mono ?_; rintro e w' ⟨rfl, rfl⟩)
              | (go_at_call 19; refine (rsum_any _ _ _ _ cs _ (by omega) hB6 hrd).mono ?_; rintro e w' ⟨rfl, rfl⟩)
              | (go_at_call 20; refine (pcheck_any hi1 lo1 hi2 lo2 p A6 cs.length c6 cs _ hu1 hu2 hv1 hv2 (by omega) hB6 hrd).mono ?_; rintro e w7 ⟨rfl, he7⟩; have z0 := (he7.cell (p := ⟨w3.heap.size, 0, none⟩) l1).trans x0; have z1 := (he7.cell (p := ⟨w3.heap.size, 1, none⟩) l1).trans x1; have z2 := (he7.cell (p := ⟨w3.heap.size, 2, none⟩) l1).trans x2; have z3 := (he7.cell (p := ⟨w3.heap.size + 1, 0, none⟩) l2).trans y0; have z4 := (he7.cell (p := ⟨w3.heap.size + 1, 1, none⟩) l2).trans y1; have z5 := (he7.cell (p := ⟨w3.heap.size + 1, 2, none⟩) l2).trans y2; have hrd7 := hrd.ext he7)
              | (go_at_call 21; refine (rcheck_any hi1 lo1 hi2 lo2 p A6 cs.length c6 cs _ hu1 hu2 hv1 hv2 (by omega) hB6 hrd7).mono ?_; rintro e w8 ⟨rfl, he8⟩; have z0 := (he8.cell (p := ⟨w3.heap.size, 0, none⟩) (Nat.lt_of_lt_of_le l1 he7.size)).trans z0; have z1 := (he8.cell (p := ⟨w3.heap.size, 1, none⟩) (Nat.lt_of_lt_of_le l1 he7.size)).trans z1; have z2 := (he8.cell (p := ⟨w3.heap.size, 2, none⟩) (Nat.lt_of_lt_of_le l1 he7.size)).trans z2; have z3 := (he8.cell (p := ⟨w3.heap.size + 1, 0, none⟩) (Nat.lt_of_lt_of_le l2 he7.size)).trans z3; have z4 := (he8.cell (p := ⟨w3.heap.size + 1, 1, none⟩) (Nat.lt_of_lt_of_le l2 he7.size)).trans z4; have z5 := (he8.cell (p := ⟨w3.heap.size + 1, 2, none⟩) (Nat.lt_of_lt_of_le l2 he7.size)).trans z5; have hfin : Ext wr w8 := ((Ext.refl wr).drew).trans (he7.trans he8)))
          all_goals (go_wp2_with fail; go_meet; exact ⟨rfl, hfin⟩)
        case rest =>
          obtain ⟨rfl, hEx⟩ := hcut
          go_wp2_with fail
          go_roundw
          case rel => exact ⟨k + 1, by omega, by go_num, HE.out.trans hEx⟩
          case measure => simp [intOf]; omega
      · obtain rfl : k = 3 := by omega
        have hEw := hA.2.2.1.trans hE
        clear hA hE
        go_wp2_with (refine (awake_any _).mono ?_; rintro e w8 ⟨rfl, hba⟩)
        go_ret
        exact ⟨rfl, hEw.trans hba⟩

end Go.Proofs.Ytcdfmgkcadpgbaa
