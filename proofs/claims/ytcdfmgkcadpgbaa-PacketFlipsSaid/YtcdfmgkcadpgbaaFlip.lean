/-
  The walk of PacketFlips: one bit of a header changed is not read.
-/
import Derived.Test.YtcdfmgkcadpgbaaBack
import Derived.Laws.OwnMore
namespace Go.Proofs.Ytcdfmgkcadpgbaa
open Go.RowKit

theorem u8_xor_nat (a b : Nat) (ha : a < 256) (hb : b < 256) : bits .xor .u8 (a : Int) (b : Int) = ((a ^^^ b : Nat) : Int) := by
  have hx : a ^^^ b < 2 ^ 8 := Nat.xor_lt_two_pow (by omega) (by omega)
  have e1 : ∀ c : Nat, c < 256 → (BitVec.ofInt 8 (c : Int)).toNat = c := by
    intro c hc
    rw [BitVec.ofInt_natCast, BitVec.toNat_ofNat]
    exact Nat.mod_eq_of_lt hc
  show IntKind.u8.wrap ((BitVec.ofInt 8 (a : Int) ^^^ BitVec.ofInt 8 (b : Int)).toNat : Int) = _
  rw [BitVec.toNat_xor, e1 a ha, e1 b hb, IntKind.wrap_u8']
  omega
theorem xor_flip {x : Int} (hx : 0 ≤ x ∧ x ≤ 255) {j : Nat} (hj : j < 8) {m : Int} (hm : m = ((2 ^ j : Nat) : Int)) : bits .xor .u8 x m = flipB x j := by
  obtain ⟨a, rfl⟩ := Int.eq_ofNat_of_zero_le hx.1
  have hp : (2 : Nat) ^ j ≤ 2 ^ 7 := Nat.pow_le_pow_right (by omega) (by omega)
  rw [hm, u8_xor_nat a (2 ^ j) (by omega) (by omega)]
  rfl

theorem own_set {w : World} {base g n cap : Nat} {xs : List Int} (h : w.ownsRow base 5 1 (.slice (some ⟨g, 0, none⟩) n cap) n (bytesV xs)) (i : Nat) (x : Int) :
    (w.setCell ⟨g, i, none⟩ (.int .u8 x)).ownsRow base 5 1 (.slice (some ⟨g, 0, none⟩) n cap) n (bytesV (xs.set i x)) := by
  have := (h.stored i (.int .u8 x)).1
  rwa [show (bytesV xs).set i (.int .u8 x) = bytesV (xs.set i x) from by simp [bytesV, List.map_set]] at this

def FlipBad (E : List Int) : Prop := ∀ (i : Nat) (x : Int) (j : Nat), 1 ≤ i → i < 20 → (0 ≤ x ∧ x ≤ 255) → j < 8 → (x = gB E i + 2 ^ j ∨ x = gB E i - 2 ^ j) → codeD (E.set i x) ≠ 0

set_option maxRecDepth 100000 in
set_option maxHeartbeats 4000000 in
theorem flip_main (bit : Int) (L : Option Addr) (len k : Nat) (zs : List Int) (w : World) (hlen : len ≤ 9223372036854775807) (hz : Reads w w.heap.size 1 L len (zs.map (Value.int .i64))) :
    Calls Try.prog 8 #[.slice L len k, .int .i64 bit] w (LawPost w) := by
  go_enter Try.func8, Try.ntmps8
  go_wp2_with fail
  refine (new_any L len k zs _ hlen hz).mono ?_
  rintro e w1 ⟨rfl, hdk, hb1, hz1⟩
  go_wp2_with fail
  refine (made_any _ _ _ hdk).mono ?_
  rintro e w2 ⟨s, d, p, t, v2, ds, rfl, hs, hdd, hp, ht, hbs2, hdr2⟩
  have hE2 : Ext w w2 := Ext.keep hb1 hdr2.1 (Nat.le_refl _)
  have hown2 := own_base (base' := w.heap.size) hbs2.2.2 (by omega)
  have hl2 := hbs2.2.1
  have hB2 := hbs2.1
  obtain ⟨A2, c2, rfl⟩ := own_pd hown2
  clear hdr2 hbs2 hb1 hdk hz hz1
  unfold pkV
  go_wp2_with fail
  have hB5 := Blk.new w2 34 (pkC s d p t (.slice A2 ds.length c2))
  have hE3 : Ext w (w2.alloc (.cells (pkC s d p t (.slice A2 ds.length c2)) 34)) := hE2.alloc _
  have hown3 := hown2.alloc (.cells (pkC s d p t (.slice A2 ds.length c2)) 34)
  have hlw := hE2.size
  by_cases hv : validP s d p t ds.length = true
  · obtain ⟨va, vb, hvv, hp', ht', hm⟩ := valid_parts hv
    obtain ⟨s1, s2, s3, s4, _⟩ := id hs
    obtain ⟨d1, d2, d3, d4, _⟩ := id hdd
    refine (enc_ok s d p t ds _ _ hv (PData.of_own hown3) hB2 ⟨s1, s2⟩ ⟨s3, s4⟩ ⟨d1, d2⟩ ⟨d3, d4⟩ hl2 va vb hvv hp' ht').mono ?_
    rintro e w4 ⟨v4, rfl, hown4, hE4⟩
    have hE5 := hE3.trans hE4
    have hb4 := hB5.below hE4 hB5.lt
    obtain ⟨len1, len2⟩ := encP_len (p := p) (t := t) (bs := ds) hvv
    have hBe := encP_isB hv hB2
    obtain ⟨g, cap, cur, rfl, hg, _, hcap, _, _, _⟩ := own_open hown4 (by omega)
    obtain ⟨a0, a1, a2, a3, a4, a5, a6, a7, a8, af⟩ := pk_cells hb4
    have hl4 := hb4.lt
    clear va vb hvv hp' ht' hm s1 s2 s3 s4 d1 d2 d3 d4 hE2 hE3 hE4 hown2 hown3 hB5 hb4
    cases h6 : s.v6 with
    | true =>
      rw [h6] at a0
      have HV := Lib.hid hv
      have HO := Lib.hid hown4
      clear hv hown4 h6
      go_wp2_with (refine (awake_any _).mono ?_; rintro e w9 ⟨rfl, hba⟩)
      go_ret
      exact ⟨rfl, hE5.trans hba⟩
    | false =>
      have hflip : FlipBad (encP s d p t ds.length ds) := fun i x j a b c d e => flip_bad hv h6 a b c d e
      rw [h6] at a0
      obtain ⟨E, HE⟩ : ∃ E, Hid (encP s d p t ds.length ds = E) := ⟨_, rfl⟩
      rw [HE.out] at hown4 len1 len2 hBe hflip hcap
      rw [HE.out]
      have hlt20 : ¬ (E.length : Int) < 20 := by omega
      have HF := Lib.hid hflip
      clear hv h6 HE hflip
      go_wp2_with fail
      refine (mod_nat bit 152 _ (by decide) (by decide)).mono ?_
      rintro e w5 ⟨q, rfl, hq, rfl⟩
      go_upto_region 6 with fail
      obtain ⟨K, hK⟩ : ∃ K : Nat, K = 8 + q := ⟨_, rfl⟩
      have eK : (8 : Int) + (q : Int) = (K : Int) := by omega
      rw [eK]
      have hKb : (K : Int) < 160 := by omega
      obtain ⟨i, j, hi, hj, hKi⟩ : ∃ i j : Nat, i = K / 8 ∧ j = K % 8 ∧ K = 8 * i + j := ⟨_, _, rfl, rfl, by omega⟩
      have hj8 : j < 8 := by omega
      have hi20 : i < 20 := by omega
      have hi1 : 1 ≤ i := by omega
      have eq : (K : Int) / 8 = (i : Int) := by omega
      have er : (K : Int) % 8 = (j : Int) := by omega
      clear hi hj hKi hK eK hq
      have ci : w4.cell? ⟨g, i, none⟩ = some (.int .u8 (gB E i)) := by
        rw [hown4.cellAt i (by omega)]
        exact bytesV_get E i (by omega)
      have fi := hown4.frozenAt i
      have hil : (i : Int) < (E.length : Int) := by omega
      have hj8' : (j : Int) < 8 := by omega
      go_wp2_with fail
      have hp2 : (2 : Int) ^ j % 256 = ((2 ^ j : Nat) : Int) := by
        have h1 : (2 : Nat) ^ j ≤ 2 ^ 7 := Nat.pow_le_pow_right (by omega) (by omega)
        have h2 : (2 : Int) ^ j = ((2 ^ j : Nat) : Int) := by simp
        have h3 : (0 : Int) ≤ 2 ^ j := by rw [h2]; exact Int.natCast_nonneg _
        omega
      rw [xor_flip (hBe.at i) hj8 hp2]
      obtain ⟨f1, f2, _⟩ := flipB_bd (hBe.at i) hj8
      have hbad := HF.out i _ j hi1 hi20 f2 hj8 f1
      have hown5 := own_set hown4 i (flipB (gB E i) j)
      generalize flipB (gB E i) j = y at *
      have hB5 : IsB (E.set i y) := by
        intro z hz
        rcases List.mem_or_eq_of_mem_set hz with h1 | h1
        · exact hBe z h1
        · rw [h1]; exact f2
      have hE6 : Ext w (w4.setCell ⟨g, i, none⟩ (.int .u8 y)) := Ext.keep hE5 (keep_one (p := ⟨g, i, none⟩) _) (by simp at hg; show w.heap.size ≤ g; omega)
      generalize (w4.setCell ⟨g, i, none⟩ (.int .u8 y)) = w5 at *
      refine (dec_any g 0 E.length cap (E.set i y) w5 hB5 (Reads.of_own hown5) hcap (by omega)).mono ?_
      intro e w6 hD
      unfold DecPost at hD
      rw [if_neg hbad] at hD
      obtain ⟨rfl, hE7⟩ := hD
      generalize codeD (E.set i y) = C at *
      have c1 : (C != 0) = true := by simpa using hbad
      clear ci fi eq er hil hj8' hown4 hown5 hE5 a0 a1 a2 a3 a4 a5 a6 a7 a8 af hp2
      unfold pkZ pkV
      go_wp2_with (refine (awake_any _).mono ?_; rintro e w9 ⟨rfl, hba⟩)
      go_ret
      exact ⟨rfl, ((hE6.trans hE7).alloc _).trans hba⟩
  · have hv0 : validP s d p t ds.length = false := by simpa using hv
    refine (enc_bad s d p t A2 ds.length c2 _ hv0).mono ?_
    rintro e w4 ⟨rfl, hE4⟩
    have hE5 := hE3.trans hE4
    clear hv hv0 hE3 hE4 hB5 hown2 hown3 hE2
    go_wp2_with (refine (awake_any _).mono ?_; rintro e w9 ⟨rfl, hba⟩)
    go_ret
    exact ⟨rfl, hE5.trans hba⟩

end Go.Proofs.Ytcdfmgkcadpgbaa
