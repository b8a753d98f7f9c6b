/-
  The walk of ArpCodes: which messages are valid, their bytes, and which bytes are read.
-/
import Derived.Test.YtopkbpigaengeaaDoorAx
import Derived.Test.YtopkbpigaengeaaDoorBk
namespace Go.Proofs.YtopkbpigaengeaaDoor
open Go.RowKit


/-- the two messages of the first loop lie in block kb -/
def TwoAt (kb : Nat) (raw m : Msg) (wx : World) : Prop := wx.rangeAt kb 0 (arpC raw).toList ∧ wx.rangeAt kb 19 (arpC m).toList ∧ kb < wx.heap.size

theorem two_new (w4 : World) (raw m : Msg) : TwoAt w4.heap.size raw m (w4.alloc (.cells #[.int .i64 raw.op, .int .u8 raw.fm.a, .int .u8 raw.fm.b, .int .u8 raw.fm.c, .int .u8 raw.fm.d, .int .u8 raw.fm.e, .int .u8 raw.fm.f, .bool raw.sa.v6, .int .u64 raw.sa.hi, .int .u64 raw.sa.lo, .int .u8 raw.tm.a, .int .u8 raw.tm.b, .int .u8 raw.tm.c, .int .u8 raw.tm.d, .int .u8 raw.tm.e, .int .u8 raw.tm.f, .bool raw.da.v6, .int .u64 raw.da.hi, .int .u64 raw.da.lo, .int .i64 m.op, .int .u8 m.fm.a, .int .u8 m.fm.b, .int .u8 m.fm.c, .int .u8 m.fm.d, .int .u8 m.fm.e, .int .u8 m.fm.f, .bool m.sa.v6, .int .u64 m.sa.hi, .int .u64 m.sa.lo, .int .u8 m.tm.a, .int .u8 m.tm.b, .int .u8 m.tm.c, .int .u8 m.tm.d, .int .u8 m.tm.e, .int .u8 m.tm.f, .bool m.da.v6, .int .u64 m.da.hi, .int .u64 m.da.lo] 29)) := by
  have hB := Blk.new w4 29 #[.int .i64 raw.op, .int .u8 raw.fm.a, .int .u8 raw.fm.b, .int .u8 raw.fm.c, .int .u8 raw.fm.d, .int .u8 raw.fm.e, .int .u8 raw.fm.f, .bool raw.sa.v6, .int .u64 raw.sa.hi, .int .u64 raw.sa.lo, .int .u8 raw.tm.a, .int .u8 raw.tm.b, .int .u8 raw.tm.c, .int .u8 raw.tm.d, .int .u8 raw.tm.e, .int .u8 raw.tm.f, .bool raw.da.v6, .int .u64 raw.da.hi, .int .u64 raw.da.lo, .int .i64 m.op, .int .u8 m.fm.a, .int .u8 m.fm.b, .int .u8 m.fm.c, .int .u8 m.fm.d, .int .u8 m.fm.e, .int .u8 m.fm.f, .bool m.sa.v6, .int .u64 m.sa.hi, .int .u64 m.sa.lo, .int .u8 m.tm.a, .int .u8 m.tm.b, .int .u8 m.tm.c, .int .u8 m.tm.d, .int .u8 m.tm.e, .int .u8 m.tm.f, .bool m.da.v6, .int .u64 m.da.hi, .int .u64 m.da.lo]
  refine ⟨fun j v hv => ?_, fun j v hv => ?_, hB.lt⟩
  · rw [hB.cell, ← hv]
    match j, hv with
    | 0, _ | 1, _ | 2, _ | 3, _ | 4, _ | 5, _ | 6, _ | 7, _ | 8, _ | 9, _ | 10, _ | 11, _ | 12, _ | 13, _ | 14, _ | 15, _ | 16, _ | 17, _ | 18, _ => rfl
  · rw [hB.cell, ← hv]
    match j, hv with
    | 0, _ | 1, _ | 2, _ | 3, _ | 4, _ | 5, _ | 6, _ | 7, _ | 8, _ | 9, _ | 10, _ | 11, _ | 12, _ | 13, _ | 14, _ | 15, _ | 16, _ | 17, _ | 18, _ => rfl
theorem TwoAt.ext {kb : Nat} {raw m : Msg} {w w' : World} (h : TwoAt kb raw m w) (e : Ext w w') : TwoAt kb raw m w' :=
  ⟨fun j v hv => (e.cell (p := ⟨kb, 0 + j, none⟩) h.2.2).trans (h.1 j v hv), fun j v hv => (e.cell (p := ⟨kb, 19 + j, none⟩) h.2.2).trans (h.2.1 j v hv), Nat.lt_of_lt_of_le h.2.2 e.size⟩
theorem load_arp_mid {ops : Array Oper} {rest : List Oper} {o : Oper} {a : Act} {w : World} {Q : Exit → Act → World → Prop} (hgd : o.guard = none) (x : Operand) (ho : o.op = .load 29 x) (b off : Nat) (m : Msg) (hx : a.eval x = .pointer (some ⟨b, off, none⟩)) (hb : w.rangeAt b off (arpC m).toList)
    (h : wpList Tryd.prog ops Q rest (a.put o.dst (arpV m)) w) : wpList Tryd.prog ops Q (o :: rest) a w :=
  wpList_load_mid hgd 29 x ho b off hx (arpC m).toList _ hb Tryd.underlying29 rfl Tryd.sizeArp h
/-- the facts of the region that compares what the two encoders say -/
def sameF (q : Msg) (bv : Bool) (A5 A6 : Option Addr) (n c5 c6 : Nat) (S : ByteArray) (cd : Int) : List (Fact (fun _ => False)) :=
  [.is (arpV q), .is (.bool bv), .is (arpV q), .is (.bool bv), .is (.bool false), .is (.bool false), .is (.slice A5 n c5), .is (.string S), .is (.slice A6 n c6), .is (.string S), .is (.bool false), .is (.bool false), .is (.bool false), .is (.int .i64 cd), .is (.int .i64 cd), .is (.bool false), .is (.bool false)]

/-- the five slices of bytes of the second loop lie in block kb -/
def FiveAt (kb : Nat) (wx : World) : Prop := kb < wx.heap.size ∧ ∀ k, k < 5 → ∃ (A : Option Addr) (c : Nat) (xs : List Int), wx.cell? ⟨kb, k, none⟩ = some (.slice A xs.length c) ∧ IsB xs ∧ xs.length ≤ c ∧ Reads wx wx.heap.size 1 A xs.length (bytesV xs)
theorem FiveAt.ext {kb : Nat} {w w' : World} (h : FiveAt kb w) (e : Ext w w') : FiveAt kb w' := by
  refine ⟨Nat.lt_of_lt_of_le h.1 e.size, fun k hk => ?_⟩
  obtain ⟨A, c, xs, h1, h2, h3, h4⟩ := h.2 k hk
  exact ⟨A, c, xs, (e.cell (p := ⟨kb, k, none⟩) h.1).trans h1, h2, h3, h4.ext e⟩
theorem five_new (w : World) {A1 A2 A3 A4 A5 : Option Addr} {c1 c2 c3 c4 c5 : Nat} {b1 b2 b3 b4 b5 : List Int}
    (i1 : IsB b1) (n1 : b1.length ≤ c1) (r1 : Reads w w.heap.size 1 A1 b1.length (bytesV b1)) (_ : b1.length ≤ 1000)
    (i2 : IsB b2) (n2 : b2.length ≤ c2) (r2 : Reads w w.heap.size 1 A2 b2.length (bytesV b2)) (_ : b2.length ≤ 1000)
    (i3 : IsB b3) (n3 : b3.length ≤ c3) (r3 : Reads w w.heap.size 1 A3 b3.length (bytesV b3)) (_ : b3.length ≤ 1000)
    (i4 : IsB b4) (n4 : b4.length ≤ c4) (r4 : Reads w w.heap.size 1 A4 b4.length (bytesV b4)) (_ : b4.length ≤ 1000)
    (i5 : IsB b5) (n5 : b5.length ≤ c5) (r5 : Reads w w.heap.size 1 A5 b5.length (bytesV b5)) (_ : b5.length ≤ 1000) :
    FiveAt w.heap.size (w.alloc (.cells #[.slice A1 b1.length c1, .slice A2 b2.length c2, .slice A3 b3.length c3, .slice A4 b4.length c4, .slice A5 b5.length c5] 38)) := by
  have hB := Blk.new w 38 #[.slice A1 b1.length c1, .slice A2 b2.length c2, .slice A3 b3.length c3, .slice A4 b4.length c4, .slice A5 b5.length c5]
  have hE : Ext w (w.alloc (.cells #[.slice A1 b1.length c1, .slice A2 b2.length c2, .slice A3 b3.length c3, .slice A4 b4.length c4, .slice A5 b5.length c5] 38)) := (Ext.refl w).alloc _
  refine ⟨hB.lt, fun k hk => ?_⟩
  obtain rfl | rfl | rfl | rfl | rfl : k = 0 ∨ k = 1 ∨ k = 2 ∨ k = 3 ∨ k = 4 := by omega
  · exact ⟨A1, c1, b1, hB.cell 0, i1, n1, r1.ext hE⟩
  · exact ⟨A2, c2, b2, hB.cell 1, i2, n2, r2.ext hE⟩
  · exact ⟨A3, c3, b3, hB.cell 2, i3, n3, r3.ext hE⟩
  · exact ⟨A4, c4, b4, hB.cell 3, i4, n4, r4.ext hE⟩
  · exact ⟨A5, c5, b5, hB.cell 4, i5, n5, r5.ext hE⟩

set_option maxRecDepth 100000 in
set_option maxHeartbeats 8000000 in
theorem codes_main (raw : Msg) (A : Option Addr) (c : Nat) (bs : List Int) (L : Option Addr) (len k : Nat) (zs : List Int) (at_ by_ : Int) (w : World) (hh : HeadAt w) (hraw : MsgIn raw) (hl : bs.length ≤ 600) (hB : IsB bs)
    (hr : Reads w w.heap.size 1 A bs.length (bytesV bs)) (hc : bs.length ≤ c) (hlen : len ≤ 9223372036854775807) (hz : Reads w w.heap.size 1 L len (zs.map (Value.int .i64))) :
    Calls Tryd.prog 4 #[arpV raw, .slice A bs.length c, .slice L len k, .int .i64 at_, .int .i64 by_] w (LawPost w) := by
  have hd : decide ((bs.length : Int) ≤ 600) = true := by simp; omega
  have HH := Lib.hid hh
  have hb0 : Blk (w.alloc (.cells (arpC raw) 29)) w.heap.size 29 (arpC raw) := Blk.new _ _ _
  have hE0 : Ext w (w.alloc (.cells (arpC raw) 29)) := (Ext.refl w).alloc _
  have hz0 := (hz.ext hE0)
  have HB0 := Lib.hid hb0
  unfold arpV
  go_enter Tryd.func4, Tryd.ntmps4
  go_wp2_with fail
  refine (short_any _ _ _ _).mono ?_
  rintro e w' ⟨rfl, rfl⟩
  rw [hd]
  clear hd
  go_wp2_with fail
  obtain ⟨w0, hw0⟩ : ∃ w0, w0 = w.alloc (.cells (arpC raw) 29) := ⟨_, rfl⟩
  have hw0' : w.alloc (.cells #[.int .i64 raw.op, .int .u8 raw.fm.a, .int .u8 raw.fm.b, .int .u8 raw.fm.c, .int .u8 raw.fm.d, .int .u8 raw.fm.e, .int .u8 raw.fm.f, .bool raw.sa.v6, .int .u64 raw.sa.hi, .int .u64 raw.sa.lo, .int .u8 raw.tm.a, .int .u8 raw.tm.b, .int .u8 raw.tm.c, .int .u8 raw.tm.d, .int .u8 raw.tm.e, .int .u8 raw.tm.f, .bool raw.da.v6, .int .u64 raw.da.hi, .int .u64 raw.da.lo] 29) = w0 := hw0.symm
  rw [hw0']
  rw [← hw0] at hE0 hb0 hz0
  clear hw0 hw0' HB0
  refine (new_any L len k zs _ hlen hz0).mono ?_
  rintro e w1 ⟨rfl, hdk, hb1, hz1⟩
  go_wp2_with fail
  refine (message_any _ _ _ hdk).mono ?_
  rintro e w2 ⟨m, rfl, hm, hR2⟩
  have hE1 : Ext w0 w1 := hb1
  have hE02 : Ext w0 w2 := Ext.keep hb1 hR2.1 (Nat.le_refl _)
  have hE2 : Ext w w2 := hE0.trans hE02
  have hbr2 := hb0.below hE02 hb0.lt
  have hln2 := hE02.size
  clear hR2 hdk hz hz1 hb1 hz0 hE1
  have hn : Blk (w2.alloc (.cells (arpC msg0) 29)) w2.heap.size 29 (arpC msg0) := Blk.new _ _ _
  have HN := Lib.hid hn
  have HM := Lib.hid hm
  have HRAW := Lib.hid hraw
  have hE3 : Ext w ((w2.alloc (.cells (arpC msg0) 29)).setRow w2.heap.size (arpC m)) := Ext.keep (hE2.alloc _) (keep_setRow (X := (· = w2.heap.size)) rfl _) hE2.size
  have hm3 : Blk ((w2.alloc (.cells (arpC msg0) 29)).setRow w2.heap.size (arpC m)) w2.heap.size 29 (arpC m) := hn.setRow _
  have hbr3 : Blk ((w2.alloc (.cells (arpC msg0) 29)).setRow w2.heap.size (arpC m)) w.heap.size 29 (arpC raw) := (hbr2.alloc _).kept (keep_setRow (X := (· = w2.heap.size)) rfl _) (by have := hbr2.lt; omega)
  have HM3 := Lib.hid hm3
  clear hn hm hbr2 hraw hb0
  go_wp2_with (first
    | (refine store_arp rfl (.tmp 11) (.tmp 32) rfl rfl w2.heap.size m msg0 rfl rfl HN.out ?_)
    | (refine load_arp rfl (.tmp 11) rfl w2.heap.size m rfl HM3.out ?_))
  obtain ⟨w3, hw3⟩ : ∃ w3, w3 = (w2.alloc (.cells (arpC msg0) 29)).setRow w2.heap.size (arpC m) := ⟨_, rfl⟩
  have hw3' : (w2.alloc (.cells #[.int .i64 0, .int .u8 0, .int .u8 0, .int .u8 0, .int .u8 0, .int .u8 0, .int .u8 0, .bool false, .int .u64 0, .int .u64 0, .int .u8 0, .int .u8 0, .int .u8 0, .int .u8 0, .int .u8 0, .int .u8 0, .bool false, .int .u64 0, .int .u64 0] 29)).setRow w2.heap.size (arpC m) = w3 := hw3.symm
  rw [hw3']
  rw [← hw3] at hE3 hm3 hbr3
  clear hw3 hw3' HM3 HN hE2 hE02 hE0 hln2
  refine (rencX_any m w3 (HM.out.in_)).mono ?_
  rintro e w4 ⟨A4, c4, rfl, hc4, hr4, hE4⟩
  have hE4' := hE3.trans hE4
  have hm4 := hm3.below hE4 hm3.lt
  have hbr4 := hbr3.below hE4 hbr3.lt
  have hEB := encX_isB (HM.out.in_)
  have hEL := encX_len m
  obtain ⟨E, HE⟩ : ∃ E, Hid (encX m = E) := ⟨_, rfl⟩
  rw [HE.out] at hr4 hc4 hEB hEL ⊢
  have HM4 := Lib.hid hm4
  have HR4 := Lib.hid hbr4
  have hlw4 := hm4.lt
  have hlr4 := hbr4.lt
  clear hE3 hE4 hm3 hbr3 hm4 hbr4
  go_wp2_with (first
    | (refine load_arp rfl (.tmp 5) rfl w.heap.size raw rfl HR4.out ?_; unfold arpV)
    | (refine load_arp rfl (.tmp 11) rfl w2.heap.size m rfl HM4.out ?_; unfold arpV))
  have hTwo := two_new w4 raw m
  have hE5 := hE4'.alloc (.cells #[.int .i64 raw.op, .int .u8 raw.fm.a, .int .u8 raw.fm.b, .int .u8 raw.fm.c, .int .u8 raw.fm.d, .int .u8 raw.fm.e, .int .u8 raw.fm.f, .bool raw.sa.v6, .int .u64 raw.sa.hi, .int .u64 raw.sa.lo, .int .u8 raw.tm.a, .int .u8 raw.tm.b, .int .u8 raw.tm.c, .int .u8 raw.tm.d, .int .u8 raw.tm.e, .int .u8 raw.tm.f, .bool raw.da.v6, .int .u64 raw.da.hi, .int .u64 raw.da.lo, .int .i64 m.op, .int .u8 m.fm.a, .int .u8 m.fm.b, .int .u8 m.fm.c, .int .u8 m.fm.d, .int .u8 m.fm.e, .int .u8 m.fm.f, .bool m.sa.v6, .int .u64 m.sa.hi, .int .u64 m.sa.lo, .int .u8 m.tm.a, .int .u8 m.tm.b, .int .u8 m.tm.c, .int .u8 m.tm.d, .int .u8 m.tm.e, .int .u8 m.tm.f, .bool m.da.v6, .int .u64 m.da.hi, .int .u64 m.da.lo] 29)
  have h5E : Ext w4 (w4.alloc (.cells #[.int .i64 raw.op, .int .u8 raw.fm.a, .int .u8 raw.fm.b, .int .u8 raw.fm.c, .int .u8 raw.fm.d, .int .u8 raw.fm.e, .int .u8 raw.fm.f, .bool raw.sa.v6, .int .u64 raw.sa.hi, .int .u64 raw.sa.lo, .int .u8 raw.tm.a, .int .u8 raw.tm.b, .int .u8 raw.tm.c, .int .u8 raw.tm.d, .int .u8 raw.tm.e, .int .u8 raw.tm.f, .bool raw.da.v6, .int .u64 raw.da.hi, .int .u64 raw.da.lo, .int .i64 m.op, .int .u8 m.fm.a, .int .u8 m.fm.b, .int .u8 m.fm.c, .int .u8 m.fm.d, .int .u8 m.fm.e, .int .u8 m.fm.f, .bool m.sa.v6, .int .u64 m.sa.hi, .int .u64 m.sa.lo, .int .u8 m.tm.a, .int .u8 m.tm.b, .int .u8 m.tm.c, .int .u8 m.tm.d, .int .u8 m.tm.e, .int .u8 m.tm.f, .bool m.da.v6, .int .u64 m.da.hi, .int .u64 m.da.lo] 29)) := (Ext.refl w4).alloc _
  obtain ⟨wl, hwl⟩ : ∃ wl, wl = w4.alloc (.cells #[.int .i64 raw.op, .int .u8 raw.fm.a, .int .u8 raw.fm.b, .int .u8 raw.fm.c, .int .u8 raw.fm.d, .int .u8 raw.fm.e, .int .u8 raw.fm.f, .bool raw.sa.v6, .int .u64 raw.sa.hi, .int .u64 raw.sa.lo, .int .u8 raw.tm.a, .int .u8 raw.tm.b, .int .u8 raw.tm.c, .int .u8 raw.tm.d, .int .u8 raw.tm.e, .int .u8 raw.tm.f, .bool raw.da.v6, .int .u64 raw.da.hi, .int .u64 raw.da.lo, .int .i64 m.op, .int .u8 m.fm.a, .int .u8 m.fm.b, .int .u8 m.fm.c, .int .u8 m.fm.d, .int .u8 m.fm.e, .int .u8 m.fm.f, .bool m.sa.v6, .int .u64 m.sa.hi, .int .u64 m.sa.lo, .int .u8 m.tm.a, .int .u8 m.tm.b, .int .u8 m.tm.c, .int .u8 m.tm.d, .int .u8 m.tm.e, .int .u8 m.tm.f, .bool m.da.v6, .int .u64 m.da.hi, .int .u64 m.da.lo] 29) := ⟨_, rfl⟩
  rw [← hwl] at hTwo hE5 h5E ⊢
  have HHW := Lib.hid (HH.out.ext hE5)
  have HR4 := Lib.hid (hr4.ext h5E)
  have HT := Lib.hid hTwo
  have HE5 := Lib.hid hE5
  clear hwl hTwo hE4' h5E hE5 HM4 hr4 hlw4 hlr4
  go_loopw [42] (fun vi wr => ∃ k : Nat, k ≤ 2 ∧ vi = .int .i64 (k : Int) ∧ Ext wl wr) (fun vi _ => (2 - intOf vi).toNat)
  case atStart => exact ⟨0, by omega, rfl, Ext.refl _⟩
  case round =>
    obtain ⟨k, hk, rfl, hE⟩ := hrel
    have hAr := HT.out.ext hE
    have HE := Lib.hid hE
    clear hE
    obtain rfl | rfl | rfl : k = 0 ∨ k = 1 ∨ k = 2 := by omega
    · obtain ⟨q, hqd⟩ : ∃ q, q = raw := ⟨_, rfl⟩
      rw [← hqd] at hAr
      have HQ : Hid (MsgIn q) := by rw [hqd]; exact HRAW.out
      clear hqd
      have HRng := Lib.hid (hAr.1)
      have hnw : Blk (wr.alloc (.cells (arpC msg0) 29)) wr.heap.size 29 (arpC msg0) := Blk.new _ _ _
      have HNW := Lib.hid hnw
      have hqr : Blk ((wr.alloc (.cells (arpC msg0) 29)).setRow wr.heap.size (arpC q)) wr.heap.size 29 (arpC q) := hnw.setRow _
      have hEr : Ext wr ((wr.alloc (.cells (arpC msg0) 29)).setRow wr.heap.size (arpC q)) := Ext.keep ((Ext.refl wr).alloc _) (keep_setRow (X := (· = wr.heap.size)) rfl _) (Nat.le_refl _)
      have HQR := Lib.hid hqr
      clear hnw hAr
      go_wp2_with (first
        | (refine load_arp_mid rfl (.tmp 44) rfl w4.heap.size 0 q rfl HRng.out ?_)
        | (refine store_arp rfl (.tmp 15) (.tmp 45) rfl rfl wr.heap.size q msg0 rfl rfl HNW.out ?_)
        | (refine load_arp rfl (.tmp 15) rfl wr.heap.size q rfl HQR.out ?_))
      obtain ⟨w5, hw5⟩ : ∃ w5, w5 = (wr.alloc (.cells (arpC msg0) 29)).setRow wr.heap.size (arpC q) := ⟨_, rfl⟩
      have hw5' : (wr.alloc (.cells #[.int .i64 0, .int .u8 0, .int .u8 0, .int .u8 0, .int .u8 0, .int .u8 0, .int .u8 0, .bool false, .int .u64 0, .int .u64 0, .int .u8 0, .int .u8 0, .int .u8 0, .int .u8 0, .int .u8 0, .int .u8 0, .bool false, .int .u64 0, .int .u64 0] 29)).setRow wr.heap.size (arpC q) = w5 := hw5.symm
      rw [hw5']
      rw [← hw5] at hEr hqr
      clear hw5 hw5' HQR HNW HRng
      refine (aencX_any q w5 HQ.out (HHW.out.ext (HE.out.trans hEr))).mono ?_
      rintro e w6 ⟨A5, c5, rfl, hc5, hr5, hE6⟩
      have hq6 := hqr.below hE6 hqr.lt
      have HQ6 := Lib.hid hq6
      have hEr6 := hEr.trans hE6
      clear hqr hE6 hEr
      go_wp2_with (refine load_arp rfl (.tmp 15) rfl wr.heap.size q rfl HQ6.out ?_)
      refine (rencX_any q w6 HQ.out).mono ?_
      rintro e w7 ⟨A6, c6, rfl, hc6, hr6, hE7⟩
      have hq7 := hq6.below hE7 hq6.lt
      have hEr7 := hEr6.trans hE7
      have hr57 := hr5.ext hE7
      have HB7 := Lib.hid hq7
      obtain ⟨bv, HBV⟩ : ∃ bv, Hid (validM q = bv) := ⟨_, rfl⟩
      obtain ⟨cd, HCD⟩ : ∃ cd, Hid (codeX q = cd) := ⟨_, rfl⟩
      rw [HCD.out]
      have hs5 : ∀ wq, Keep (fun _ => False) w7 wq → (convert 38 9 (.slice A5 (encX q).length c5)).run Tryd.prog wq = .ok (.string (strOfNums (encX q))) wq := fun wq hR => str_n (hr57.ext (hR.below (Nat.le_refl _) (fun _ h => h.elim)))
      have hs6 : ∀ wq, Keep (fun _ => False) w7 wq → (convert 38 9 (.slice A6 (encX q).length c6)).run Tryd.prog wq = .ok (.string (strOfNums (encX q))) wq := fun wq hR => str_n (hr6.ext (hR.below (Nat.le_refl _) (fun _ h => h.elim)))
      generalize strOfNums (encX q) = S at hs5 hs6
      generalize (encX q).length = n at *
      have HS5 := Lib.hid hs5
      have HS6 := Lib.hid hs6
      clear hs5 hs6 hr57 hr5 hr6 hq7 hq6 HQ6 hE7 hEr6 hc5 hc6 HCD
      go_wp2_with fail
      go_cut [72] (fun v72 wx => v72 = .bool false ∧ Ext w7 wx)
      case first =>
        refine wp_region_gfacts (by kernel_rfl) 17 [some 56, some 57, some 58, some 59, some 60, some 61, some 62, some 63, some 64, some 65, some 66, some 67, some 68, some 69, some 70, some 71, some 72] rfl rfl (fun _ => False) (sameF q bv A5 A6 n c5 c6 S cd) (fun wq => Keep (fun _ => False) w7 wq) [] [none, none, none, none, none, some false, none, none, none, none, none, none, some false] 116 (by kernel_rfl) (by kernel_rfl) (by kernel_rfl) (by kernel_rfl) (by kernel_rfl) (by kernel_rfl) rfl (by kernel_rfl) (by kernel_rfl) ⟨rfl, rfl, trivial⟩ trivial (Keep.refl _ _).drew ?_ ?_
        · intro x wq hR hA _
          have e16 : x 16 = .bool false := hA.2.2.2.2.2.2.2.2.2.2.2.2.2.2.2.2.1
          simp only [fillL, Nat.zero_add, Nat.reduceAdd, Act.put, List.setIfInBounds_toArray, List.set_cons_succ, List.set_cons_zero, List.drop_succ_cons, List.drop_zero, e16]
          clear e16 hA
          go_wp2_with fail
          go_meet
          exact ⟨rfl, hR.below (Nat.le_refl _) (fun _ h => h.elim)⟩
        · refine EachOp.cons ?_ (EachOp.cons ?_ (EachOp.cons ?_ (EachOp.cons ?_ (EachOp.cons ?_ (EachOp.cons ?_ (EachOp.cons ?_ (EachOp.cons ?_ (EachOp.cons ?_ (EachOp.cons ?_ (EachOp.cons ?_ (EachOp.cons ?_ (EachOp.cons ?_ (EachOp.cons ?_ (EachOp.cons ?_ (EachOp.cons ?_ (EachOp.cons ?_ EachOp.nil))))))))))))))))
          all_goals (refine StepG.run rfl fun r wq hR hc hf ho hk K hK => ?_)
          · exact opv_arp (.tmp 15) rfl wr.heap.size q (ho 15 rfl) (HB7.out.kept hR (fun h => h)) (hK _ _ hR (Keep.refl _ _) rfl (fun h => by simp at h))
          · have g0 : r (.tmp 56) = arpV q := hk.1
            unfold OpV; go_simp
            refine (mvalid_any q _).mono ?_
            rintro e w2 ⟨rfl, hE⟩
            exact ⟨_, rfl, hK _ _ (hR.trans (Keep.of_below hE)) (Keep.of_below hE) (by rw [HBV.out]; rfl) (fun h => by simp at h)⟩
          · exact opv_arp (.tmp 15) rfl wr.heap.size q (ho 15 rfl) (HB7.out.kept hR (fun h => h)) (hK _ _ hR (Keep.refl _ _) rfl (fun h => by simp at h))
          · have g0 : r (.tmp 58) = arpV q := hk.1
            unfold OpV; go_simp
            refine (rmvalid_any q _).mono ?_
            rintro e w2 ⟨rfl, hE⟩
            exact ⟨_, rfl, hK _ _ (hR.trans (Keep.of_below hE)) (Keep.of_below hE) (by rw [HBV.out]; rfl) (fun h => by simp at h)⟩
          · have g0 : r (.tmp 57) = .bool bv := hk.1
            have g1 : r (.tmp 59) = .bool bv := hk.2.1
            cases bv <;> (unfold OpV; go_simp; exact hK _ _ hR (Keep.refl _ _) rfl (fun h => by simp at h))
          · have g0 : r (.tmp 60) = .bool false := hk.1
            unfold OpV; go_simp; exact hK _ _ hR (Keep.refl _ _) rfl (fun h => by simp at h)
          · have g0 : r (.tmp 16) = .slice A5 n c5 := ho 16 rfl
            unfold OpV; go_simp; exact hK _ _ hR (Keep.refl _ _) rfl (fun h => by simp at h)
          · have g0 : r (.tmp 62) = .slice A5 n c5 := hk.1
            have hs := HS5.out wq hR
            unfold OpV; go_simp; exact hK _ _ hR (Keep.refl _ _) rfl (fun h => by simp at h)
          · have g0 : r (.tmp 18) = .slice A6 n c6 := ho 18 rfl
            unfold OpV; go_simp; exact hK _ _ hR (Keep.refl _ _) rfl (fun h => by simp at h)
          · have g0 : r (.tmp 64) = .slice A6 n c6 := hk.1
            have hs := HS6.out wq hR
            unfold OpV; go_simp; exact hK _ _ hR (Keep.refl _ _) rfl (fun h => by simp at h)
          · have g0 : r (.tmp 63) = .string S := hk.1
            have g1 : r (.tmp 65) = .string S := hk.2.1
            unfold OpV; go_simp; exact hK _ _ hR (Keep.refl _ _) rfl (fun h => by simp at h)
          · have g0 : r (.tmp 61) = .bool false := hk.1
            have g1 : r (.tmp 66) = .bool false := hk.2.1
            unfold OpV; go_simp; exact hK _ _ hR (Keep.refl _ _) rfl (fun h => by simp at h)
          · have g0 : r (.tmp 67) = .bool false := hk.1
            unfold OpV; go_simp; exact hK _ _ hR (Keep.refl _ _) rfl (fun h => by simp at h)
          · have g0 : r (.tmp 17) = .int .i64 cd := ho 17 rfl
            unfold OpV; go_simp; exact hK _ _ hR (Keep.refl _ _) rfl (fun h => by simp at h)
          · have g0 : r (.tmp 19) = .int .i64 cd := ho 19 rfl
            unfold OpV; go_simp; exact hK _ _ hR (Keep.refl _ _) rfl (fun h => by simp at h)
          · have g0 : r (.tmp 69) = .int .i64 cd := hk.1
            have g1 : r (.tmp 70) = .int .i64 cd := hk.2.1
            unfold OpV; go_simp; exact hK _ _ hR (Keep.refl _ _) rfl (fun h => by simp at h)
          · have g0 : r (.tmp 68) = .bool false := hk.1
            have g1 : r (.tmp 71) = .bool false := hk.2.1
            unfold OpV; go_simp; exact hK _ _ hR (Keep.refl _ _) rfl (fun h => by simp at h)
      case rest =>
        obtain ⟨rfl, hEx⟩ := hcut
        go_wp2_with fail
        go_roundw
        case rel => exact ⟨0 + 1, by omega, by go_num, HE.out.trans (hEr7.trans hEx)⟩
        case measure => simp [intOf]
    · obtain ⟨q, hqd⟩ : ∃ q, q = m := ⟨_, rfl⟩
      rw [← hqd] at hAr
      have HQ : Hid (MsgIn q) := by rw [hqd]; exact HM.out.in_
      clear hqd
      have HRng := Lib.hid (hAr.2.1)
      have hnw : Blk (wr.alloc (.cells (arpC msg0) 29)) wr.heap.size 29 (arpC msg0) := Blk.new _ _ _
      have HNW := Lib.hid hnw
      have hqr : Blk ((wr.alloc (.cells (arpC msg0) 29)).setRow wr.heap.size (arpC q)) wr.heap.size 29 (arpC q) := hnw.setRow _
      have hEr : Ext wr ((wr.alloc (.cells (arpC msg0) 29)).setRow wr.heap.size (arpC q)) := Ext.keep ((Ext.refl wr).alloc _) (keep_setRow (X := (· = wr.heap.size)) rfl _) (Nat.le_refl _)
      have HQR := Lib.hid hqr
      clear hnw hAr
      go_wp2_with (first
        | (refine load_arp_mid rfl (.tmp 44) rfl w4.heap.size 19 q rfl HRng.out ?_)
        | (refine store_arp rfl (.tmp 15) (.tmp 45) rfl rfl wr.heap.size q msg0 rfl rfl HNW.out ?_)
        | (refine load_arp rfl (.tmp 15) rfl wr.heap.size q rfl HQR.out ?_))
      obtain ⟨w5, hw5⟩ : ∃ w5, w5 = (wr.alloc (.cells (arpC msg0) 29)).setRow wr.heap.size (arpC q) := ⟨_, rfl⟩
      have hw5' : (wr.alloc (.cells #[.int .i64 0, .int .u8 0, .int .u8 0, .int .u8 0, .int .u8 0, .int .u8 0, .int .u8 0, .bool false, .int .u64 0, .int .u64 0, .int .u8 0, .int .u8 0, .int .u8 0, .int .u8 0, .int .u8 0, .int .u8 0, .bool false, .int .u64 0, .int .u64 0] 29)).setRow wr.heap.size (arpC q) = w5 := hw5.symm
      rw [hw5']
      rw [← hw5] at hEr hqr
      clear hw5 hw5' HQR HNW HRng
      refine (aencX_any q w5 HQ.out (HHW.out.ext (HE.out.trans hEr))).mono ?_
      rintro e w6 ⟨A5, c5, rfl, hc5, hr5, hE6⟩
      have hq6 := hqr.below hE6 hqr.lt
      have HQ6 := Lib.hid hq6
      have hEr6 := hEr.trans hE6
      clear hqr hE6 hEr
      go_wp2_with (refine load_arp rfl (.tmp 15) rfl wr.heap.size q rfl HQ6.out ?_)
      refine (rencX_any q w6 HQ.out).mono ?_
      rintro e w7 ⟨A6, c6, rfl, hc6, hr6, hE7⟩
      have hq7 := hq6.below hE7 hq6.lt
      have hEr7 := hEr6.trans hE7
      have hr57 := hr5.ext hE7
      have HB7 := Lib.hid hq7
      obtain ⟨bv, HBV⟩ : ∃ bv, Hid (validM q = bv) := ⟨_, rfl⟩
      obtain ⟨cd, HCD⟩ : ∃ cd, Hid (codeX q = cd) := ⟨_, rfl⟩
      rw [HCD.out]
      have hs5 : ∀ wq, Keep (fun _ => False) w7 wq → (convert 38 9 (.slice A5 (encX q).length c5)).run Tryd.prog wq = .ok (.string (strOfNums (encX q))) wq := fun wq hR => str_n (hr57.ext (hR.below (Nat.le_refl _) (fun _ h => h.elim)))
      have hs6 : ∀ wq, Keep (fun _ => False) w7 wq → (convert 38 9 (.slice A6 (encX q).length c6)).run Tryd.prog wq = .ok (.string (strOfNums (encX q))) wq := fun wq hR => str_n (hr6.ext (hR.below (Nat.le_refl _) (fun _ h => h.elim)))
      generalize strOfNums (encX q) = S at hs5 hs6
      generalize (encX q).length = n at *
      have HS5 := Lib.hid hs5
      have HS6 := Lib.hid hs6
      clear hs5 hs6 hr57 hr5 hr6 hq7 hq6 HQ6 hE7 hEr6 hc5 hc6 HCD
      go_wp2_with fail
      go_cut [72] (fun v72 wx => v72 = .bool false ∧ Ext w7 wx)
      case first =>
        refine wp_region_gfacts (by kernel_rfl) 17 [some 56, some 57, some 58, some 59, some 60, some 61, some 62, some 63, some 64, some 65, some 66, some 67, some 68, some 69, some 70, some 71, some 72] rfl rfl (fun _ => False) (sameF q bv A5 A6 n c5 c6 S cd) (fun wq => Keep (fun _ => False) w7 wq) [] [none, none, none, none, none, some false, none, none, none, none, none, none, some false] 116 (by kernel_rfl) (by kernel_rfl) (by kernel_rfl) (by kernel_rfl) (by kernel_rfl) (by kernel_rfl) rfl (by kernel_rfl) (by kernel_rfl) ⟨rfl, rfl, trivial⟩ trivial (Keep.refl _ _).drew ?_ ?_
        · intro x wq hR hA _
          have e16 : x 16 = .bool false := hA.2.2.2.2.2.2.2.2.2.2.2.2.2.2.2.2.1
          simp only [fillL, Nat.zero_add, Nat.reduceAdd, Act.put, List.setIfInBounds_toArray, List.set_cons_succ, List.set_cons_zero, List.drop_succ_cons, List.drop_zero, e16]
          clear e16 hA
          go_wp2_with fail
          go_meet
          exact ⟨rfl, hR.below (Nat.le_refl _) (fun _ h => h.elim)⟩
        · refine EachOp.cons ?_ (EachOp.cons ?_ (EachOp.cons ?_ (EachOp.cons ?_ (EachOp.cons ?_ (EachOp.cons ?_ (EachOp.cons ?_ (EachOp.cons ?_ (EachOp.cons ?_ (EachOp.cons ?_ (EachOp.cons ?_ (EachOp.cons ?_ (EachOp.cons ?_ (EachOp.cons ?_ (EachOp.cons ?_ (EachOp.cons ?_ (EachOp.cons ?_ EachOp.nil))))))))))))))))
          all_goals (refine StepG.run rfl fun r wq hR hc hf ho hk K hK => ?_)
          · exact opv_arp (.tmp 15) rfl wr.heap.size q (ho 15 rfl) (HB7.out.kept hR (fun h => h)) (hK _ _ hR (Keep.refl _ _) rfl (fun h => by simp at h))
          · have g0 : r (.tmp 56) = arpV q := hk.1
            unfold OpV; go_simp
            refine (mvalid_any q _).mono ?_
            rintro e w2 ⟨rfl, hE⟩
            exact ⟨_, rfl, hK _ _ (hR.trans (Keep.of_below hE)) (Keep.of_below hE) (by rw [HBV.out]; rfl) (fun h => by simp at h)⟩
          · exact opv_arp (.tmp 15) rfl wr.heap.size q (ho 15 rfl) (HB7.out.kept hR (fun h => h)) (hK _ _ hR (Keep.refl _ _) rfl (fun h => by simp at h))
          · have g0 : r (.tmp 58) = arpV q := hk.1
            unfold OpV; go_simp
            refine (rmvalid_any q _).mono ?_
            rintro e w2 ⟨rfl, hE⟩
            exact ⟨_, rfl, hK _ _ (hR.trans (Keep.of_below hE)) (Keep.of_below hE) (by rw [HBV.out]; rfl) (fun h => by simp at h)⟩
          · have g0 : r (.tmp 57) = .bool bv := hk.1
            have g1 : r (.tmp 59) = .bool bv := hk.2.1
            cases bv <;> (unfold OpV; go_simp; exact hK _ _ hR (Keep.refl _ _) rfl (fun h => by simp at h))
          · have g0 : r (.tmp 60) = .bool false := hk.1
            unfold OpV; go_simp; exact hK _ _ hR (Keep.refl _ _) rfl (fun h => by simp at h)
          · have g0 : r (.tmp 16) = .slice A5 n c5 := ho 16 rfl
            unfold OpV; go_simp; exact hK _ _ hR (Keep.refl _ _) rfl (fun h => by simp at h)
          · have g0 : r (.tmp 62) = .slice A5 n c5 := hk.1
            have hs := HS5.out wq hR
            unfold OpV; go_simp; exact hK _ _ hR (Keep.refl _ _) rfl (fun h => by simp at h)
          · have g0 : r (.tmp 18) = .slice A6 n c6 := ho 18 rfl
            unfold OpV; go_simp; exact hK _ _ hR (Keep.refl _ _) rfl (fun h => by simp at h)
          · have g0 : r (.tmp 64) = .slice A6 n c6 := hk.1
            have hs := HS6.out wq hR
            unfold OpV; go_simp; exact hK _ _ hR (Keep.refl _ _) rfl (fun h => by simp at h)
          · have g0 : r (.tmp 63) = .string S := hk.1
            have g1 : r (.tmp 65) = .string S := hk.2.1
            unfold OpV; go_simp; exact hK _ _ hR (Keep.refl _ _) rfl (fun h => by simp at h)
          · have g0 : r (.tmp 61) = .bool false := hk.1
            have g1 : r (.tmp 66) = .bool false := hk.2.1
            unfold OpV; go_simp; exact hK _ _ hR (Keep.refl _ _) rfl (fun h => by simp at h)
          · have g0 : r (.tmp 67) = .bool false := hk.1
            unfold OpV; go_simp; exact hK _ _ hR (Keep.refl _ _) rfl (fun h => by simp at h)
          · have g0 : r (.tmp 17) = .int .i64 cd := ho 17 rfl
            unfold OpV; go_simp; exact hK _ _ hR (Keep.refl _ _) rfl (fun h => by simp at h)
          · have g0 : r (.tmp 19) = .int .i64 cd := ho 19 rfl
            unfold OpV; go_simp; exact hK _ _ hR (Keep.refl _ _) rfl (fun h => by simp at h)
          · have g0 : r (.tmp 69) = .int .i64 cd := hk.1
            have g1 : r (.tmp 70) = .int .i64 cd := hk.2.1
            unfold OpV; go_simp; exact hK _ _ hR (Keep.refl _ _) rfl (fun h => by simp at h)
          · have g0 : r (.tmp 68) = .bool false := hk.1
            have g1 : r (.tmp 71) = .bool false := hk.2.1
            unfold OpV; go_simp; exact hK _ _ hR (Keep.refl _ _) rfl (fun h => by simp at h)
      case rest =>
        obtain ⟨rfl, hEx⟩ := hcut
        go_wp2_with fail
        go_roundw
        case rel => exact ⟨1 + 1, by omega, by go_num, HE.out.trans (hEr7.trans hEx)⟩
        case measure => simp [intOf]
    · have hrE := HR4.out.ext HE.out
      have hEw := HE5.out.trans HE.out
      have hrB := hr.ext hEw
      have hlE : E.length ≤ 100000 := by omega
      clear hAr hk
      go_wp2_with fail
      refine (spoilt_any A4 c4 at_ by_ E _ hEB hrE hlE).mono ?_
      rintro e w8 ⟨v1, x1, rfl, hx1, hl1, ⟨A1, c1, rfl, hc1, hr1⟩, hE8⟩
      have hrE8 := hrE.ext hE8
      have hsum : 0 + E.length ≤ 1000000000 := by omega
      have hsum2 : 0 + E.length + bs.length ≤ 1000000000 := by omega
      go_wp2_with (first
        | (at_builtin; refine app_u8 rfl (.const (.slice none 0 0)) (.tmp 80) rfl w8.heap.size (.slice none 0 0) 0 [] rfl (World.ownsRow_nil _ _ _ _) _ A4 E.length c4 E rfl hrE8 hsum (Nat.le_refl _) ?_; intro v5 w9 hown5 hg5 hb5; have hE9 := app_ext0 hg5; have hrB9 := hrB.ext (hE8.trans hE9))
        | (at_builtin; refine app_u8 rfl (.tmp 81) (.tmp 82) rfl w8.heap.size v5 (0 + E.length) ([] ++ E) rfl hown5 _ A bs.length c bs rfl hrB9 hsum2 hE9.size ?_; intro v6 w10 hown6 hg6 hb6; obtain ⟨A6, c6, e6⟩ := own_form hown6; subst e6))
      have hE10 : Ext w8 w10 := Below.grown hE9 hg6 hE9.size (fun k e => (hown5.lt k e).1)
      have hx6 : IsB ([] ++ E ++ bs) := (IsB.append (fun x hx => by cases hx) hEB).append hB
      have hl6 : ([] ++ E ++ bs).length = E.length + bs.length := by simp
      simp only [Nat.zero_add] at hown6
      rw [← hl6] at hown6
      have hown6' : w10.ownsRow w8.heap.size 5 1 (.slice A6 ([] ++ E ++ bs).length c6) ([] ++ E ++ bs).length (bytesV ([] ++ E ++ bs)) := by rw [hl6] at hown6 ⊢; exact hown6
      have hc6 := (FDat.of_own hown6')
      obtain ⟨A6', c6', e6, hc6, hr6⟩ := hc6
      injection e6 with e61 e62 e63
      subst e61 e63
      generalize [] ++ E ++ bs = x6 at *
      have hrE10 := hrE8.ext hE10
      clear hown6 hown6' hg6 hb6 hown5 hg5 hb5 hE9 hrB9 e62
      refine (mod_any at_ 8 _ (by omega) (by omega)).mono ?_
      rintro e w' ⟨rfl, rfl⟩
      go_wp2_with fail
      refine (mod_any by_ 256 _ (by omega) (by omega)).mono ?_
      rintro e w' ⟨rfl, rfl⟩
      go_wp2_with fail
      refine (spoilt_any A4 c4 _ _ E _ hEB hrE10 hlE).mono ?_
      rintro e w11 ⟨v2, x2, rfl, hx2, hl2, ⟨A2, c2, rfl, hc2, hr2⟩, hE11⟩
      have hr1' := (hr1.ext hE10).ext hE11
      have hr6' := hr6.ext hE11
      have hrE' := hrE10.ext hE11
      have hrB' := (hrB.ext hE8).ext (hE10.trans hE11)
      have hE12 := hEw.trans (hE8.trans (hE10.trans hE11))
      have hFive := five_new w11 (c1 := c) (c2 := c4) (c3 := c1) (c4 := c6) (c5 := c2) hB hc hrB' (by omega) hEB hc4 hrE' (by omega) hx1 hc1 hr1' (by omega) hx6 hc6 hr6' (by omega) hx2 hc2 hr2 (by omega)
      rw [hl6] at hFive
      have HF := Lib.hid hFive
      have HE12 := Lib.hid hE12
      clear hFive hr1' hr6' hrE' hrB' hE12 hrE10 hr6 hr1 hr2 hc6 hx6 hl6 hx1 hl1 hc1 hx2 hl2 hc2 hE8 hE10 hE11 hrE hrE8 hrB hEw hsum hsum2 hlE
      go_wp2_with fail
      have hE13 : Ext w (w11.alloc (.cells #[.slice A bs.length c, .slice A4 E.length c4, .slice A1 x1.length c1, .slice A6 (E.length + bs.length) c6, .slice A2 x2.length c2] 38)) := HE12.out.alloc _
      obtain ⟨wf, hwf⟩ : ∃ wf, wf = (w11.alloc (.cells #[.slice A bs.length c, .slice A4 E.length c4, .slice A1 x1.length c1, .slice A6 (E.length + bs.length) c6, .slice A2 x2.length c2] 38)) := ⟨_, rfl⟩
      rw [← hwf] at HF hE13 ⊢
      have HE13 := Lib.hid hE13
      have HHF := Lib.hid (HH.out.ext hE13)
      clear hwf hE13 HE12
      go_loopw [92] (fun vi wr => ∃ k : Nat, k ≤ 5 ∧ vi = .int .i64 (k : Int) ∧ Ext wf wr) (fun vi _ => (5 - intOf vi).toNat)
      case atStart => exact ⟨0, by omega, rfl, Ext.refl _⟩
      case round =>
        obtain ⟨k, hk, rfl, hE⟩ := hrel
        by_cases hk5 : k < 5
        · obtain ⟨wq0, hwq⟩ : ∃ wq0, wq0 = wr := ⟨_, rfl⟩
          rw [← hwq] at hE ⊢
          clear hwq
          have hFr := HF.out.ext hE
          obtain ⟨A7, c7, xs, hcell, hxs, hc7, hr7⟩ := hFr.2 k hk5
          have HE := Lib.hid hE
          have HR7 := Lib.hid hr7
          clear hE hFr hr7
          go_wp2_with fail
          refine (adec_any A7 c7 xs _ hxs HR7.out hc7 (HHF.out.ext HE.out)).mono ?_
          rintro e w12 ⟨rfl, hE1⟩
          obtain ⟨q, HQ⟩ : ∃ q, Hid (decM xs = q) := ⟨_, rfl⟩
          obtain ⟨cd, HCD⟩ : ∃ cd, Hid (codeM xs = cd) := ⟨_, rfl⟩
          rw [HQ.out, HCD.out]
          have hnw : Blk (w12.alloc (.cells (arpC msg0) 29)) w12.heap.size 29 (arpC msg0) := Blk.new _ _ _
          have HNW := Lib.hid hnw
          have hq1 : Blk ((w12.alloc (.cells (arpC msg0) 29)).setRow w12.heap.size (arpC q)) w12.heap.size 29 (arpC q) := hnw.setRow _
          have hEr : Ext wq0 ((w12.alloc (.cells (arpC msg0) 29)).setRow w12.heap.size (arpC q)) := Ext.keep (hE1.alloc _) (keep_setRow (X := (· = w12.heap.size)) rfl _) hE1.size
          clear hnw hE1
          go_wp2_with (refine store_arp rfl (.tmp 22) (.tmp 99) rfl rfl w12.heap.size q msg0 rfl rfl HNW.out ?_)
          obtain ⟨w13, hw13⟩ : ∃ w13, w13 = (w12.alloc (.cells (arpC msg0) 29)).setRow w12.heap.size (arpC q) := ⟨_, rfl⟩
          have hw13' : (w12.alloc (.cells #[.int .i64 0, .int .u8 0, .int .u8 0, .int .u8 0, .int .u8 0, .int .u8 0, .int .u8 0, .bool false, .int .u64 0, .int .u64 0, .int .u8 0, .int .u8 0, .int .u8 0, .int .u8 0, .int .u8 0, .int .u8 0, .bool false, .int .u64 0, .int .u64 0] 29)).setRow w12.heap.size (arpC q) = w13 := hw13.symm
          rw [hw13']
          rw [← hw13] at hEr hq1
          clear hw13 hw13' HNW
          refine (rdec_any A7 c7 xs _ hxs (HR7.out.ext hEr) hc7).mono ?_
          rintro e w14 ⟨rfl, hE2⟩
          rw [HQ.out, HCD.out]
          have hq2 := hq1.below hE2 hq1.lt
          have hEr2 := hEr.trans hE2
          have hnw2 : Blk (w14.alloc (.cells (arpC msg0) 29)) w14.heap.size 29 (arpC msg0) := Blk.new _ _ _
          have HNW2 := Lib.hid hnw2
          have hx1 : Blk ((w14.alloc (.cells (arpC msg0) 29)).setRow w14.heap.size (arpC q)) w14.heap.size 29 (arpC q) := hnw2.setRow _
          have hx2 : Blk ((w14.alloc (.cells (arpC msg0) 29)).setRow w14.heap.size (arpC q)) w12.heap.size 29 (arpC q) := (hq2.alloc _).kept (keep_setRow (X := (· = w14.heap.size)) rfl _) (by have := hq2.lt; omega)
          have hEr3 : Ext wq0 ((w14.alloc (.cells (arpC msg0) 29)).setRow w14.heap.size (arpC q)) := Ext.keep (hEr2.alloc _) (keep_setRow (X := (· = w14.heap.size)) rfl _) hEr2.size
          have hgu := fun x y => arp_guardn q q x y ((w14.alloc (.cells #[.int .i64 0, .int .u8 0, .int .u8 0, .int .u8 0, .int .u8 0, .int .u8 0, .int .u8 0, .bool false, .int .u64 0, .int .u64 0, .int .u8 0, .int .u8 0, .int .u8 0, .int .u8 0, .int .u8 0, .int .u8 0, .bool false, .int .u64 0, .int .u64 0] 29)).setRow w14.heap.size (arpC q))
          have heq := arp_neq q ((w14.alloc (.cells #[.int .i64 0, .int .u8 0, .int .u8 0, .int .u8 0, .int .u8 0, .int .u8 0, .int .u8 0, .bool false, .int .u64 0, .int .u64 0, .int .u8 0, .int .u8 0, .int .u8 0, .int .u8 0, .int .u8 0, .int .u8 0, .bool false, .int .u64 0, .int .u64 0] 29)).setRow w14.heap.size (arpC q))
          have HX1 := Lib.hid hx1
          have HX2 := Lib.hid hx2
          have HER3 := Lib.hid hEr3
          clear hq1 hq2 hE2 hEr hEr2 hnw2 hx1 hx2 hEr3
          go_wp2_with (first
            | (refine store_arp rfl (.tmp 24) (.tmp 104) rfl rfl w14.heap.size q msg0 rfl rfl HNW2.out ?_)
            | (refine load_arp rfl (.tmp 22) rfl w12.heap.size q rfl HX2.out ?_)
            | (refine load_arp rfl (.tmp 24) rfl w14.heap.size q rfl HX1.out ?_))
          go_roundw
          case rel => exact ⟨k + 1, by omega, by go_num, HE.out.trans HER3.out⟩
          case measure => simp [intOf]; omega
        · obtain rfl : k = 5 := by omega
          have hEw := HE13.out.trans hE
          have HHE := Lib.hid (HHF.out.ext hE)
          clear hE
          go_wp2_with (refine (awake_any _ HHE.out).mono ?_; rintro e w9 ⟨rfl, hba⟩)
          go_ret
          exact ⟨rfl, hEw.trans hba⟩

theorem codes_long (raw : Msg) (A L : Option Addr) (n c m k : Nat) (at_ by_ : Int) (w : World) (hh : HeadAt w) (hn : 600 < n) :
    Calls Tryd.prog 4 #[arpV raw, .slice A n c, .slice L m k, .int .i64 at_, .int .i64 by_] w (LawPost w) := by
  have hd : decide ((n : Int) ≤ 600) = false := by simp; omega
  have hE0 : Ext w (w.alloc (.cells (arpC raw) 29)) := (Ext.refl w).alloc _
  have HH := Lib.hid (hh.ext hE0)
  unfold arpV
  go_enter Tryd.func4, Tryd.ntmps4
  go_wp2_with fail
  refine (short_any _ _ _ _).mono ?_
  rintro e w' ⟨rfl, rfl⟩
  rw [hd]
  go_wp2_with (refine (awake_any _ HH.out).mono ?_; rintro e w' ⟨rfl, hba⟩)
  go_ret
  exact ⟨rfl, hE0.trans hba⟩
end Go.Proofs.YtopkbpigaengeaaDoor
