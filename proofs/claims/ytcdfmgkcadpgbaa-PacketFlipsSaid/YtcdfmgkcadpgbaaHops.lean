/-
  The walk of PacketHops: a packet is forwarded as often as its TTL less 1, and nothing but the TTL changes.
-/
import Derived.Test.YtcdfmgkcadpgbaaL
import Derived.Test.YtcdfmgkcadpgbaaB
import Derived.Deep.CutBlock
namespace Go.Proofs.Ytcdfmgkcadpgbaa
open Go.RowKit

def LawPost (w : World) (e : Ending) (w' : World) : Prop := e = .returned (.bool true) ∧ Ext w w'

set_option maxHeartbeats 1000000 in
theorem hops_long (s d : Ad) (p t : Int) (A L : Option Addr) (n c m k : Nat) (w : World) (hn : 600 < n) :
    Calls Try.prog 4 #[pkV s d p t (.slice A n c), .slice L m k] w (LawPost w) := by
  have hd : decide ((n : Int) ≤ 600) = false := by simp; omega
  unfold pkV
  go_enter Try.func4, Try.ntmps4
  go_wp2_with fail
  refine (short_any _ _ _ _).mono ?_
  rintro e w' ⟨rfl, rfl⟩
  rw [hd]
  go_wp2_with (refine (awake_any _).mono ?_; rintro e w' ⟨rfl, hba⟩)
  go_ret
  exact ⟨rfl, ((Ext.refl w).alloc _).trans hba⟩

/-- what holds at each hop: the packet made is in block b, the one that is forwarded in block q, with TTL t' and data v' -/
def HopsAt (w : World) (b q : Nat) (s d : Ad) (p t : Int) (v : Value) (bs : List Int) (wx : World) (t' : Int) (v' : Value) : Prop :=
  ¬ q = b ∧ w.heap.size ≤ q ∧ w.heap.size ≤ b ∧ Blk wx b 34 (pkC s d p t v) ∧ Blk wx q 34 (pkC s d p t' v') ∧
  wx.ownsRow w.heap.size 5 1 v bs.length (bytesV bs) ∧ wx.ownsRow w.heap.size 5 1 v' bs.length (bytesV bs) ∧ Ext w wx
theorem HopsAt.alloc_ {w : World} {b q : Nat} {s d : Ad} {p t : Int} {v : Value} {bs : List Int} {wx : World} {t' : Int} {v' : Value} (h : HopsAt w b q s d p t v bs wx t' v') (o : Obj) : HopsAt w b q s d p t v bs (wx.alloc o) t' v' := by
  obtain ⟨h1, h2, h3, h4, h5, h6, h7, h8⟩ := h
  exact ⟨h1, h2, h3, h4.alloc o, h5.alloc o, h6.alloc o, h7.alloc o, h8.alloc o⟩
theorem hops_next {w wr w6 : World} {b q : Nat} {s d : Ad} {p t : Int} {v : Value} {bs : List Int} {t1 : Int} {v1 v6 : Value} (hqb : ¬ q = b) (hq : w.heap.size ≤ q) (hb : w.heap.size ≤ b)
    (hBb : Blk wr b 34 (pkC s d p t v)) (hBq : Blk wr q 34 (pkC s d p t1 v1))
    (ho : wr.ownsRow w.heap.size 5 1 v bs.length (bytesV bs)) (ho' : wr.ownsRow w.heap.size 5 1 v1 bs.length (bytesV bs)) (hE : Ext w wr)
    (hown6 : w6.ownsRow w.heap.size 5 1 v6 bs.length (bytesV bs)) (hE6 : Ext wr w6) (t2 : Int) :
    HopsAt w b q s d p t v bs w6 t1 v1 ∧
    HopsAt w b q s d p t v bs ((set9 w6 q (.bool s.v6) (.int .u64 s.hi) (.int .u64 s.lo) (.bool d.v6) (.int .u64 d.hi) (.int .u64 d.lo) (.int .i64 p) (.int .i64 t2) v6).alloc
      (.cells (pkC s d p t2 v6) 34)) t2 v6 := by
  have h1 := hBb.below hE6 hBb.lt
  have h2 := hBq.below hE6 hBq.lt
  have h3 := own_ext ho hE6
  have hk := keep_set9 (w := w6) (k := q) (X := (· = q)) rfl (.bool s.v6) (.int .u64 s.hi) (.int .u64 s.lo) (.bool d.v6) (.int .u64 d.hi) (.int .u64 d.lo) (.int .i64 p) (.int .i64 t2) v6
  refine ⟨⟨hqb, hq, hb, h1, h2, h3, own_ext ho' hE6, hE.trans hE6⟩, HopsAt.alloc_ ⟨hqb, hq, hb, h1.kept hk (fun e => hqb e.symm), Blk.set9 h2 _ _ _ _ _ _ _ _ _, own_apart h3 hk h2 (by decide), own_apart hown6 hk h2 (by decide), (hE.trans hE6).keep hk hq⟩ _⟩

set_option maxRecDepth 100000 in
set_option maxHeartbeats 1600000 in
theorem hops_main (s d : Ad) (p t : Int) (bs : List Int) (v : Value) (L : Option Addr) (len k : Nat) (zs : List Int) (w : World) (hl : bs.length ≤ 600) (ht : -9223372036854775808 ≤ t ∧ t ≤ 9223372036854775807)
    (h : PData w v bs) (hlen : len ≤ 9223372036854775807) (hz : Reads w w.heap.size 1 L len (zs.map (Value.int .i64))) :
    Calls Try.prog 4 #[pkV s d p t v, .slice L len k] w (LawPost w) := by
  obtain ⟨A, c, rfl, hr⟩ := id h
  have hd : decide ((bs.length : Int) ≤ 600) = true := by simp; omega
  unfold pkV
  go_enter Try.func4, Try.ntmps4
  go_wp2_with fail
  refine (short_any _ _ _ _).mono ?_
  rintro e w' ⟨rfl, rfl⟩
  rw [hd]
  clear hd
  go_wp2_with fail
  have hE0 : Ext w (w.alloc (.cells (pkC s d p t (.slice A bs.length c)) 34)) := (Ext.refl w).alloc _
  refine (new_any L len k zs _ hlen (hz.extAlloc _)).mono ?_
  rintro e w1 ⟨rfl, hdk, hb1, hz1⟩
  simp only [World.size_alloc] at hdk hb1 hz1
  go_wp2_with fail
  refine (made_any _ _ _ hdk).mono ?_
  rintro e w2 ⟨s2, d2, p2, t2, v2, bs2, rfl, hs2, hd2, hp2, ht2, hbs2, hdr2⟩
  -- the packets in hand: the raw one in block w.heap.size, the made one in a new block
  have hE2 : Ext w w2 := (hE0.trans (hb1.mono (by simp))).keep hdr2.1 (by omega)
  obtain ⟨A2, n2, c2, rfl⟩ := own_slice hbs2.2.2
  have hown2 := own_base (base' := w.heap.size) hbs2.2.2 (by omega)
  have hl2 := hbs2.2.1
  have hB0 : Blk w2 w.heap.size 34 (pkC s d p t (.slice A bs.length c)) := ((Blk.new w _ _).below hb1 (by omega)).kept hdr2.1 (by omega)
  clear hdr2 hbs2 hb1 hdk hE0 hz hz1 hr
  unfold pkV
  have hP2 := h.ext hE2
  obtain ⟨a0, a1, a2, a3, a4, a5, a6, a7, a8, af⟩ := pk_cells hB0
  have hB0l := hB0.lt
  go_wp2_with fail
  -- block w2.heap.size holds the packet made
  have hB5 := Blk.new w2 34 (pkC s2 d2 p2 t2 (.slice A2 n2 c2))
  refine (hop_any s d p t bs _ _ (by omega) ht (hP2.ext ((Ext.refl _).alloc _))).mono ?_
  rintro e w3 ⟨v3, rfl, hown3, hE3⟩
  clear a0 a1 a2 a3 a4 a5 a6 a7 a8 af
  simp only [World.size_alloc] at hown3
  obtain ⟨A3, n3, c3, rfl⟩ := own_slice hown3
  have hE23 : Ext w2 w3 := ((Ext.refl w2).alloc _).trans hE3
  replace hB0 := hB0.below hE23 hB0l
  replace hB5 := hB5.below hE3 (by simp)
  replace hown2 := own_ext hown2 hE23
  have hP3 := hP2.ext hE23
  have hz3 := hE23.size
  have hB5l := hB5.lt
  have hb03 : w.heap.size < w3.heap.size := hB0.lt
  clear hE3
  unfold pkV
  obtain ⟨a0, a1, a2, a3, a4, a5, a6, a7, a8, af⟩ := pk_cells hB0
  go_wp2_with fail
  -- block w3.heap.size holds what Hop returned
  have hB6 := Blk.new w3 34 (pkC s d p (hopT t) (.slice A3 n3 c3))
  refine (rhop_any s d p t bs _ _ (by omega) ht (hP3.ext ((Ext.refl _).alloc _))).mono ?_
  rintro e w4 ⟨v4, rfl, hown4, hE4⟩
  clear a0 a1 a2 a3 a4 a5 a6 a7 a8 af
  simp only [World.size_alloc] at hown4
  obtain ⟨A4, n4, c4, rfl⟩ := own_slice hown4
  have hE34 : Ext w3 w4 := ((Ext.refl w3).alloc _).trans hE4
  replace hB5 := hB5.below hE34 hB5l
  replace hB6 := hB6.below hE4 (by simp)
  replace hown2 := own_ext hown2 hE34
  replace hown3 := own_ext hown3 hE34
  have hb56 : w2.heap.size < w4.heap.size := hB5.lt
  have hb64 : w3.heap.size < w4.heap.size := hB6.lt
  have hE24 : Ext w2 w4 := hE23.trans hE34
  clear hE4 hE34 hE23 hP3 hP2 hB0 hb03 hB0l h
  unfold pkV
  obtain ⟨a0, a1, a2, a3, a4, a5, a6, a7, a8, af⟩ := pk_cells hB6
  go_wp2_with fail
  -- the two are the same
  refine (same_true s d p (hopT t) bs (.slice A3 n3 c3) (.slice A4 n4 c4) _ ((PData.of_own hown3).ext ((Ext.refl _).alloc _)) ((PData.of_own hown4).ext ((Ext.refl _).alloc _))).mono ?_
  rintro e w5 ⟨rfl, hE5⟩
  clear a0 a1 a2 a3 a4 a5 a6 a7 a8 af
  have hE45 : Ext w4 w5 := ((Ext.refl w4).alloc _).trans hE5
  replace hB5 := hB5.below hE45 hb56
  replace hown2 := own_ext hown2 hE45
  have hEw : Ext w w5 := (hE2.trans hE24).trans hE45
  have hb5 : w2.heap.size < w5.heap.size := hB5.lt
  have hw2 := hE2.size
  clear hE5 hE45 hB6 hown3 hown4 hE24 hE2 hb64
  generalize hg5 : w2.heap.size = b5 at *
  obtain ⟨a0, a1, a2, a3, a4, a5, a6, a7, a8, af⟩ := pk_cells hB5
  clear hg5 hb56 hB5l hz3
  go_upto_region 8 with fail
  go_cut [10, 11] (fun v10 v11 wx => v10 = .int .i64 0 ∧ ∃ q, v11 = .pointer (some ⟨q, 0, none⟩) ∧ HopsAt w b5 q s2 d2 p2 t2 (.slice A2 n2 c2) bs2 wx t2 (.slice A2 n2 c2))
  case first =>
    go_region
    all_goals (go_wp2_with fail; go_meet)
    all_goals exact ⟨rfl, w5.heap.size, rfl, by omega, by omega, by omega, hB5.alloc _, Blk.new _ _ _, hown2.alloc _, hown2.alloc _, (hEw.alloc _).drew⟩
  case rest =>
    obtain ⟨rfl, q, rfl, hA⟩ := hcut
    clear a0 a1 a2 a3 a4 a5 a6 a7 a8 af hB5 hown2 hEw hb5 hw2
    go_upto_block 0 with fail
    go_cut [10] (fun vn wx => ∃ (j : Nat) (v' : Value), vn = .int .i64 (j : Int) ∧ (j = 0 ∨ (j : Int) + 1 ≤ t2) ∧ t2 - j ≤ 1 ∧ HopsAt w b5 q s2 d2 p2 t2 (.slice A2 n2 c2) bs2 wx (t2 - j) v')
    case first =>
      go_wp2_with fail
      go_loopw [10, 43] (fun vn vi wr => ∃ (j : Nat) (v' : Value), vn = .int .i64 (j : Int) ∧ vi = .int .i64 (j : Int) ∧ (j = 0 ∨ (j : Int) + 1 ≤ t2) ∧ HopsAt w b5 q s2 d2 p2 t2 (.slice A2 n2 c2) bs2 wr (t2 - j) v') (fun _ vi _ => (300 - intOf vi).toNat)
      case atStart => exact ⟨0, _, rfl, rfl, .inl rfl, by simpa using hA⟩
      case round =>
        obtain ⟨j, v', rfl, rfl, hj, hA⟩ := hrel
        obtain ⟨hqb, hq, hb, hBb, hBq, ho, ho', hE⟩ := hA
        obtain ⟨A', n', c', rfl⟩ := own_slice ho'
        obtain ⟨a0, a1, a2, a3, a4, a5, a6, a7, a8, af⟩ := pk_cells hBq
        have hlt : decide ((j : Int) < 300) = true := by simp; omega
        go_wp2_with fail
        all_goals (try (exfalso; omega))
        refine (hop_any s2 d2 p2 (t2 - j) bs2 _ _ (by omega) (by omega) (PData.of_own ho')).mono ?_
        rintro e w6 ⟨v6, rfl, hown6, hE6⟩
        obtain ⟨A6, n6, c6, rfl⟩ := own_slice hown6
        have hown6' := own_base (base' := w.heap.size) hown6 hE.size
        have hx := hops_next hqb hq hb hBb hBq ho ho' hE hown6' hE6 (hopT (t2 - j))
        have hql := hBq.lt
        replace hBq := hBq.below hE6 hql
        have hql6 := hBq.lt
        clear a0 a1 a2 a3 a4 a5 a6 a7 a8 af hown6 hown6' ho ho' hE hE6 hBb
        obtain ⟨a0, a1, a2, a3, a4, a5, a6, a7, a8, af⟩ := pk_cells hBq
        unfold pkV
        by_cases hon : t2 - j ≤ 1
        · have hd1 : decide (1 < t2 - (j : Int)) = false := by simp; omega
          rw [hd1]
          go_wp2_with fail
          go_meet
          exact ⟨j, _, rfl, hj, hon, hx.1.alloc_ _⟩
        · have hd1 : decide (1 < t2 - (j : Int)) = true := by simp; omega
          have hT : Hid (hopT (t2 - (j : Int)) = t2 - ((j + 1 : Nat) : Int)) := by show _ = _; unfold hopT; rw [if_neg hon]; omega
          rw [hd1]
          go_wp2_with fail
          go_roundw
          case rel => exact ⟨j + 1, .slice A6 n6 c6, by go_num, by go_num, by omega, by rw [← hT.out]; exact hx.2⟩
          case measure => simp [intOf]; omega
    case rest =>
      obtain ⟨j, v', rfl, hj, hj1, hA⟩ := hcut
      have hmin : t2 - (j : Int) = min t2 1 := by omega
      rw [hmin] at hA
      clear hmin
      obtain ⟨hqb, hq, hb, hBb, hBq, ho, ho', hE⟩ := hA
      obtain ⟨A', n', c', rfl⟩ := own_slice ho'
      obtain ⟨a0, a1, a2, a3, a4, a5, a6, a7, a8, af⟩ := pk_cells hBb
      obtain ⟨e0, e1, e2, e3, e4, e5, e6, e7, e8, ef⟩ := pk_cells hBq
      have hbl := hBb.lt
      have hql := hBq.lt
      have hje : ((j : Int) == max 0 (t2 - 1)) = true := by simp; omega
      clear hBb hBq
      go_wp2_with fail
      refine (same_true s2 d2 p2 (min t2 1) bs2 (.slice A' n' c') (.slice A2 n2 c2) _ ((PData.of_own ho').ext ((Ext.refl _).alloc _)) ((PData.of_own ho).ext ((Ext.refl _).alloc _))).mono ?_
      rintro e w7 ⟨rfl, hE7⟩
      go_wp2_with (refine (awake_any _).mono ?_; rintro e w8 ⟨rfl, hba⟩)
      go_ret
      exact ⟨rfl, ((hE.alloc _).trans hE7).trans hba⟩

end Go.Proofs.Ytcdfmgkcadpgbaa
