/-
  The walk of PacketBack: a packet is read back, with any bytes after it.
-/
import Derived.Test.YtcdfmgkcadpgbaaDec
import Derived.Test.YtcdfmgkcadpgbaaHops
namespace Go.Proofs.Ytcdfmgkcadpgbaa
open Go.RowKit

theorem encP_len {s d : Ad} {p t : Int} {bs : List Int} (hvv : s.v6 = d.v6) : 20 ≤ (encP s d p t bs.length bs).length ∧ (encP s d p t bs.length bs).length ≤ 40 + bs.length := by
  have la := addrB_len s.v6 s.hi s.lo
  have lb := addrB_len d.v6 d.hi d.lo
  rw [← hvv] at lb
  unfold encP
  cases h6 : s.v6 with
  | true => rw [h6] at la lb; simp [enc6, h6, ← hvv, la, lb]; omega
  | false => rw [h6] at la lb; simp [set4, h6, ← hvv, la, lb]; omega
theorem encP_isB {s d : Ad} {p t : Int} {bs : List Int} (hv : validP s d p t bs.length = true) (hB : IsB bs) : IsB (encP s d p t bs.length bs) := by
  obtain ⟨va, vb, hvv, hp, ht, hm⟩ := valid_parts hv
  have hm2 := most_le s.v6
  have hs := sumL_bd (head4_isB s d hp ht (n := bs.length) (by omega))
  unfold encP
  split
  · refine IsB.append (IsB.append ?_ ((beN_isB _ _).append (beN_isB _ _))) hB
    intro y hy
    simp only [List.mem_cons, List.not_mem_nil, or_false] at hy
    rcases hy with rfl | rfl | rfl | rfl | rfl | rfl | rfl | rfl <;> omega
  · rw [set4]
    refine IsB.append (IsB.append ?_ ((beN_isB _ _).append (beN_isB _ _))) hB
    intro y hy
    simp only [List.mem_cons, List.not_mem_nil, or_false] at hy
    rcases hy with rfl | rfl | rfl | rfl | rfl | rfl | rfl | rfl | rfl | rfl | rfl | rfl <;> omega

theorem app_ext0 {w w' : World} (hg : w.grownBy w' (Value.slice none 0 0).ownBlock) : Ext w w' := (Below.refl _ _).grown hg (Nat.le_refl _) (by intro k hk; cases hk)

set_option maxHeartbeats 1000000 in
theorem back_long (A L : Option Addr) (n c m k : Nat) (w : World) (hn : 600 < n) :
    Calls Try.prog 7 #[.slice L m k, .slice A n c] w (LawPost w) := by
  have hd : decide ((n : Int) ≤ 600) = false := by simp; omega
  go_enter Try.func7, Try.ntmps7
  go_wp2_with fail
  refine (short_any _ _ _ _).mono ?_
  rintro e w' ⟨rfl, rfl⟩
  rw [hd]
  go_wp2_with (refine (awake_any _).mono ?_; rintro e w' ⟨rfl, hba⟩)
  go_ret
  exact ⟨rfl, hba⟩

set_option maxRecDepth 100000 in
set_option maxHeartbeats 4000000 in
theorem back_main (A : Option Addr) (c : Nat) (bs : List Int) (L : Option Addr) (len k : Nat) (zs : List Int) (w : World) (hl : bs.length ≤ 600) (hB : IsB bs)
    (hr : Reads w w.heap.size 1 A bs.length (bytesV bs)) (hlen : len ≤ 9223372036854775807) (hz : Reads w w.heap.size 1 L len (zs.map (Value.int .i64))) :
    Calls Try.prog 7 #[.slice L len k, .slice A bs.length c] w (LawPost w) := by
  have hd : decide ((bs.length : Int) ≤ 600) = true := by simp; omega
  go_enter Try.func7, Try.ntmps7
  go_wp2_with fail
  refine (short_any _ _ _ _).mono ?_
  rintro e w' ⟨rfl, rfl⟩
  rw [hd]
  clear hd
  go_wp2_with fail
  refine (new_any L len k zs _ hlen hz).mono ?_
  rintro e w1 ⟨rfl, hdk, hb1, hz1⟩
  go_wp2_with fail
  refine (made_any _ _ _ hdk).mono ?_
  rintro e w2 ⟨s, d, p, t, v2, ds, rfl, hs, hdd, hp, ht, hbs2, hdr2⟩
  have hE2 : Ext w w2 := Ext.keep hb1 hdr2.1 (Nat.le_refl _)
  have hown2 := own_base (base' := w.heap.size) hbs2.2.2 (by omega)
  have hl2 := hbs2.2.1
  have hB2 := hbs2.1
  obtain ⟨A2, c2, rfl⟩ := own_pd hown2
  clear hdr2 hbs2 hb1 hdk hz hz1
  unfold pkV
  go_wp2_with fail
  -- block w2.heap.size holds the packet made
  have hB5 := Blk.new w2 34 (pkC s d p t (.slice A2 ds.length c2))
  have hE3 : Ext w (w2.alloc (.cells (pkC s d p t (.slice A2 ds.length c2)) 34)) := hE2.alloc _
  have hown3 := hown2.alloc (.cells (pkC s d p t (.slice A2 ds.length c2)) 34)
  have hlw := hE2.size
  by_cases hv : validP s d p t ds.length = true
  · obtain ⟨va, vb, hvv, hp', ht', hm⟩ := valid_parts hv
    obtain ⟨s1, s2, s3, s4, _⟩ := id hs
    obtain ⟨d1, d2, d3, d4, _⟩ := id hdd
    refine (enc_ok s d p t ds _ _ hv (PData.of_own hown3) hB2 ⟨s1, s2⟩ ⟨s3, s4⟩ ⟨d1, d2⟩ ⟨d3, d4⟩ hl2 va vb hvv hp' ht').mono ?_
    rintro e w4 ⟨v4, rfl, hown4, hE4⟩
    have hE5 := hE3.trans hE4
    have hb4 := hB5.below hE4 hB5.lt
    have hown2' := own_ext hown3 hE4
    obtain ⟨len1, len2⟩ := encP_len (p := p) (t := t) (bs := ds) hvv
    have hBe := encP_isB hv hB2
    have hback := back_all (more := bs) hv ⟨s1, s2⟩ ⟨s3, s4⟩ ⟨d1, d2⟩ ⟨d3, d4⟩
    obtain ⟨E, HE⟩ : ∃ E, Hid (encP s d p t ds.length ds = E) := ⟨_, rfl⟩
    rw [HE.out] at hown4 len1 len2 hBe hback
    obtain ⟨A4, c4, rfl⟩ := own_pd hown4
    have hrd4 := Reads.of_own hown4
    have hwl : w2.heap.size ≤ w4.heap.size := Nat.le_of_lt hb4.lt
    have hsum : 0 + E.length ≤ 1000000000 := by omega
    have hBack := Lib.hid hback
    have hlt4 := hb4.lt
    clear hback va vb hvv hp' ht' hm s1 s2 s3 s4 d1 d2 d3 d4 hE2 hE3 hE4 hown2 hown3 hB5 hown4 HE
    have HV := Lib.hid hv
    clear hv
    have hsum2 : 0 + E.length + bs.length ≤ 1000000000 := by omega
    go_wp2_with (first
      | (at_builtin; refine app_u8 rfl (.const (.slice none 0 0)) (.tmp 31) rfl w4.heap.size (.slice none 0 0) 0 [] rfl (World.ownsRow_nil _ _ _ _) _ A4 E.length c4 E rfl hrd4 hsum (Nat.le_refl _) ?_; intro v5 w5 hown5 hg5 hb5; have hE6 := app_ext0 hg5; have hr5 := hr.ext (hE5.trans hE6))
      | (at_builtin; refine app_u8 rfl (.tmp 32) (.tmp 33) rfl w4.heap.size v5 (0 + E.length) ([] ++ E) rfl hown5 _ A bs.length c bs rfl hr5 hsum2 hE6.size ?_; intro v6 w6 hown6 hg6 hb6))
    simp only [Nat.zero_add, List.nil_append] at hown6
    have hE7 : Ext w4 w6 := Below.grown hE6 hg6 hE6.size (fun k e => (hown5.lt k e).1)
    have hE8 := hE5.trans hE7
    have hb6' := hb4.below hE7 hb4.lt
    have hown6' := own_ext hown2' hE7
    have hlE : (E ++ bs).length = E.length + bs.length := by simp
    rw [← hlE] at hown6
    obtain ⟨g, cap, cur, rfl, _, _, hcap, _, _, _⟩ := own_open hown6 (by omega)
    have hr6 := Reads.of_own hown6
    clear hE5 hE6 hE7 hb4 hown2' hown5 hg5 hb5 hr5 hrd4 hg6 hb6 hr
    go_wp2_with fail
    refine (dec_any g 0 (E ++ bs).length cap (E ++ bs) _ (hBe.append hB) hr6 hcap (by omega)).mono ?_
    intro e w7 hD
    unfold DecPost at hD
    rw [if_pos hBack.out.1, hBack.out.2] at hD
    obtain ⟨v7, rfl, hown7, hE9⟩ := hD
    obtain ⟨A7, c7, rfl⟩ := own_pd hown7
    have hb7 := hb6'.below hE9 hb6'.lt
    have hown2'' := own_ext hown6' hE9
    have hE10 := hE8.trans hE9
    obtain ⟨a0, a1, a2, a3, a4, a5, a6, a7, a8, af⟩ := pk_cells hb7
    have hl7 := hb7.lt
    clear hE8 hE9 hb6' hown6' hown6 hr6
    unfold pkV
    go_wp2_with fail
    refine (same_true s d p t ds (.slice A7 ds.length c7) (.slice A2 ds.length c2) _ ((PData.of_own hown7).ext ((Ext.refl _).alloc _)) ((PData.of_own hown2'').ext ((Ext.refl _).alloc _))).mono ?_
    rintro e w8 ⟨rfl, hE11⟩
    go_wp2_with (refine (awake_any _).mono ?_; rintro e w9 ⟨rfl, hba⟩)
    go_ret
    exact ⟨rfl, ((hE10.alloc _).trans hE11).trans hba⟩
  · have hv0 : validP s d p t ds.length = false := by simpa using hv
    refine (enc_bad s d p t A2 ds.length c2 _ hv0).mono ?_
    rintro e w4 ⟨rfl, hE4⟩
    have hE5 := hE3.trans hE4
    have hb4 := hB5.below hE4 hB5.lt
    obtain ⟨a0, a1, a2, a3, a4, a5, a6, a7, a8, af⟩ := pk_cells hb4
    have HV := Lib.hid hv0
    clear hv hv0 hE3 hE4 hB5 hown2 hown3 hE2
    go_wp2_with fail
    refine (pvalid_any s d p t A2 ds.length c2 _).mono ?_
    rintro e w5 ⟨rfl, hE6⟩
    rw [HV.out]
    go_wp2_with (refine (awake_any _).mono ?_; rintro e w9 ⟨rfl, hba⟩)
    go_ret
    exact ⟨rfl, (hE5.trans hE6).trans hba⟩

end Go.Proofs.Ytcdfmgkcadpgbaa
