/-
  The walk of ArpBack: a message is read back, with any bytes after it.
-/
import Derived.Test.YtopkbpigaengeaaDoorAdr
import Derived.Test.YtopkbpigaengeaaDoorAb
namespace Go.Proofs.YtopkbpigaengeaaDoor
open Go.RowKit

def LawPost (w : World) (e : Ending) (w' : World) : Prop := e = .returned (.bool true) ∧ Ext w w'
theorem app_ext0 {w w' : World} (hg : w.grownBy w' (Value.slice none 0 0).ownBlock) : Ext w w' := (Below.refl _ _).grown hg (Nat.le_refl _) (by intro k hk; cases hk)

set_option maxHeartbeats 1000000 in
theorem back_long (A L : Option Addr) (n c m k : Nat) (w : World) (hh : HeadAt w) (hn : 600 < n) :
    Calls Tryd.prog 5 #[.slice L m k, .slice A n c] w (LawPost w) := by
  have hd : decide ((n : Int) ≤ 600) = false := by simp; omega
  have HH := Lib.hid hh
  go_enter Tryd.func5, Tryd.ntmps5
  go_wp2_with fail
  refine (short_any _ _ _ _).mono ?_
  rintro e w' ⟨rfl, rfl⟩
  rw [hd]
  go_wp2_with (refine (awake_any _ HH.out).mono ?_; rintro e w' ⟨rfl, hba⟩)
  go_ret
  exact ⟨rfl, hba⟩

set_option maxRecDepth 100000 in
set_option maxHeartbeats 4000000 in
theorem back_main (A : Option Addr) (c : Nat) (bs : List Int) (L : Option Addr) (len k : Nat) (zs : List Int) (w : World) (hh : HeadAt w) (hl : bs.length ≤ 600) (hB : IsB bs)
    (hr : Reads w w.heap.size 1 A bs.length (bytesV bs)) (hlen : len ≤ 9223372036854775807) (hz : Reads w w.heap.size 1 L len (zs.map (Value.int .i64))) :
    Calls Tryd.prog 5 #[.slice L len k, .slice A bs.length c] w (LawPost w) := by
  have hd : decide ((bs.length : Int) ≤ 600) = true := by simp; omega
  have HH := Lib.hid hh
  go_enter Tryd.func5, Tryd.ntmps5
  go_wp2_with fail
  refine (short_any _ _ _ _).mono ?_
  rintro e w' ⟨rfl, rfl⟩
  rw [hd]
  clear hd
  go_wp2_with fail
  refine (new_any L len k zs _ hlen hz).mono ?_
  rintro e w1 ⟨rfl, hdk, hb1, hz1⟩
  go_wp2_with fail
  refine (message_any _ _ _ hdk).mono ?_
  rintro e w2 ⟨m, rfl, hm, hR2⟩
  have hE2 : Ext w w2 := Ext.keep hb1 hR2.1 (Nat.le_refl _)
  clear hR2 hb1 hdk hz hz1
  have hn : Blk (w2.alloc (.cells (arpC msg0) 29)) w2.heap.size 29 (arpC msg0) := Blk.new _ _ _
  have HN := Lib.hid hn
  have HM := Lib.hid hm
  have hE3 : Ext w ((w2.alloc (.cells (arpC msg0) 29)).setRow w2.heap.size (arpC m)) := Ext.keep (hE2.alloc _) (keep_setRow (X := (· = w2.heap.size)) rfl _) hE2.size
  have hm3 : Blk ((w2.alloc (.cells (arpC msg0) 29)).setRow w2.heap.size (arpC m)) w2.heap.size 29 (arpC m) := hn.setRow _
  have HM3 := Lib.hid hm3
  clear hn hm
  go_wp2_with (first
    | (refine store_arp rfl (.tmp 5) (.tmp 16) rfl rfl w2.heap.size m msg0 rfl rfl HN.out ?_)
    | (refine load_arp rfl (.tmp 5) rfl w2.heap.size m rfl HM3.out ?_))
  obtain ⟨w3, hw3⟩ : ∃ w3, w3 = (w2.alloc (.cells (arpC msg0) 29)).setRow w2.heap.size (arpC m) := ⟨_, rfl⟩
  have hw3' : (w2.alloc (.cells #[.int .i64 0, .int .u8 0, .int .u8 0, .int .u8 0, .int .u8 0, .int .u8 0, .int .u8 0, .bool false, .int .u64 0, .int .u64 0, .int .u8 0, .int .u8 0, .int .u8 0, .int .u8 0, .int .u8 0, .int .u8 0, .bool false, .int .u64 0, .int .u64 0] 29)).setRow w2.heap.size (arpC m) = w3 := hw3.symm
  rw [hw3']
  rw [← hw3] at hE3 hm3
  clear hw3 hw3' HM3 HN hE2
  refine (aenc_ok m w3 HM.out (HH.out.ext hE3)).mono ?_
  rintro e w4 ⟨v4, rfl, ⟨A4, c4, rfl, hc4, hr4⟩, hE4⟩
  have hE4' := hE3.trans hE4
  have hm4 := hm3.below hE4 hm3.lt
  have hl4 := hm4.lt
  have hlen4 : (encM m).length = 28 := encM_len m
  have hback := dec_back HM.out bs
  have hBe := encM_isB HM.out
  obtain ⟨E, HE⟩ : ∃ E, Hid (encM m = E) := ⟨_, rfl⟩
  rw [HE.out] at hr4 hc4 hlen4 hback hBe ⊢
  have hsum : 0 + E.length ≤ 1000000000 := by omega
  have hsum2 : 0 + E.length + bs.length ≤ 1000000000 := by omega
  have hpos : 0 < E.length := by omega
  have HBK := Lib.hid hback
  clear hback hE3 hE4 hm3 hlen4
  go_wp2_with (first
    | (at_builtin; refine app_u8 rfl (.const (.slice none 0 0)) (.tmp 23) rfl w4.heap.size (.slice none 0 0) 0 [] rfl (World.ownsRow_nil _ _ _ _) _ A4 E.length c4 E rfl hr4 hsum (Nat.le_refl _) ?_; intro v5 w5 hown5 hg5 hb5; have hE6 := app_ext0 hg5; have hr5 := hr.ext (hE4'.trans hE6))
    | (at_builtin; refine app_u8 rfl (.tmp 24) (.tmp 25) rfl w4.heap.size v5 (0 + E.length) ([] ++ E) rfl hown5 _ A bs.length c bs rfl hr5 hsum2 hE6.size ?_; intro v6 w6 hown6 hg6 hb6))
  simp only [Nat.zero_add, List.nil_append] at hown6
  have hE7 : Ext w4 w6 := Below.grown hE6 hg6 hE6.size (fun k e => (hown5.lt k e).1)
  have hE8 := hE4'.trans hE7
  have hm6 := hm4.below hE7 hl4
  have hlE : (E ++ bs).length = E.length + bs.length := by simp
  rw [← hlE] at hown6
  obtain ⟨g, cap, cur, rfl, _, _, hcap, _, _, _⟩ := own_open hown6 (by omega)
  have hr6 := Reads.of_own hown6
  clear hE4' hE6 hE7 hm4 hown5 hg5 hb5 hr5 hr4 hg6 hb6 hr hc4
  refine (adec_any (some ⟨g, 0, none⟩) cap (E ++ bs) _ (hBe.append hB) hr6 hcap (HH.out.ext hE8)).mono ?_
  rintro e w7 ⟨rfl, hE9⟩
  rw [HBK.out.1, HBK.out.2]
  have hE10 := hE8.trans hE9
  have hm7 := hm6.below hE9 hm6.lt
  have hn7 : Blk (w7.alloc (.cells (arpC msg0) 29)) w7.heap.size 29 (arpC msg0) := Blk.new _ _ _
  have HN7 := Lib.hid hn7
  have hx7 := hn7.setRow (arpC m)
  have hm7' : Blk ((w7.alloc (.cells (arpC msg0) 29)).setRow w7.heap.size (arpC m)) w2.heap.size 29 (arpC m) := (hm7.alloc _).kept (keep_setRow (X := (· = w7.heap.size)) rfl _) (by have := hm7.lt; omega)
  have hE11 : Ext w ((w7.alloc (.cells #[.int .i64 0, .int .u8 0, .int .u8 0, .int .u8 0, .int .u8 0, .int .u8 0, .int .u8 0, .bool false, .int .u64 0, .int .u64 0, .int .u8 0, .int .u8 0, .int .u8 0, .int .u8 0, .int .u8 0, .int .u8 0, .bool false, .int .u64 0, .int .u64 0] 29)).setRow w7.heap.size (arpC m)) := Ext.keep (hE10.alloc _) (keep_setRow (X := (· = w7.heap.size)) rfl _) hE10.size
  have hgu := fun x y => arp_guard m m x y ((w7.alloc (.cells #[.int .i64 0, .int .u8 0, .int .u8 0, .int .u8 0, .int .u8 0, .int .u8 0, .int .u8 0, .bool false, .int .u64 0, .int .u64 0, .int .u8 0, .int .u8 0, .int .u8 0, .int .u8 0, .int .u8 0, .int .u8 0, .bool false, .int .u64 0, .int .u64 0] 29)).setRow w7.heap.size (arpC m))
  have heq := arp_eql m ((w7.alloc (.cells #[.int .i64 0, .int .u8 0, .int .u8 0, .int .u8 0, .int .u8 0, .int .u8 0, .int .u8 0, .bool false, .int .u64 0, .int .u64 0, .int .u8 0, .int .u8 0, .int .u8 0, .int .u8 0, .int .u8 0, .int .u8 0, .bool false, .int .u64 0, .int .u64 0] 29)).setRow w7.heap.size (arpC m))
  have HX7 := Lib.hid hx7
  have HM7 := Lib.hid hm7'
  have HE11 := Lib.hid hE11
  have HH11 := Lib.hid (HH.out.ext hE11)
  clear hE8 hE9 hm6 hn7 hx7 hm7 hm7' hown6 hr6 hcap HBK hE10 hE11
  go_wp2_with (first
    | (refine store_arp rfl (.tmp 8) (.tmp 28) rfl rfl w7.heap.size m msg0 rfl rfl HN7.out ?_)
    | (refine load_arp_w rfl (.tmp 8) rfl w7.heap.size m rfl HX7.out ?_)
    | (refine load_arp_w rfl (.tmp 5) rfl w2.heap.size m rfl HM7.out ?_)
    | (refine (awake_any _ HH11.out).mono ?_; rintro e w9 ⟨rfl, hba⟩))
  go_ret
  exact ⟨rfl, HE11.out.trans hba⟩
end Go.Proofs.YtopkbpigaengeaaDoor
