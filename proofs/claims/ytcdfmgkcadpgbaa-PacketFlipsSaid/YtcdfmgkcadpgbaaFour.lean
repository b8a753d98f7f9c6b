/-
  A packet without V6, read.
-/
import Derived.Test.YtcdfmgkcadpgbaaSix
import Derived.Test.YtcdfmgkcadpgbaaPd
namespace Go.Proofs.Ytcdfmgkcadpgbaa
open Go.RowKit

def FourPost (n : Nat) (bs : List Int) (w : World) (e : Ending) (w' : World) : Prop :=
  if code4 n bs = 0 then ∃ v, e = .returned (.tuple #[pkV ⟨false, (fb ((bs.drop 12).take 4)).1, (fb ((bs.drop 12).take 4)).2⟩ ⟨false, (fb ((bs.drop 16).take 4)).1, (fb ((bs.drop 16).take 4)).2⟩ (gB bs 9) (gB bs 8) v, .int .i64 0]) ∧
    w'.ownsRow w.heap.size 5 1 v ((wh4 bs).toNat - (hd4 bs).toNat) (bytesV ((bs.take (wh4 bs).toNat).drop (hd4 bs).toNat)) ∧ Ext w w'
  else e = .returned (.tuple #[pkZ, .int .i64 (code4 n bs)]) ∧ Ext w w'

theorem four_bad {n : Nat} {bs : List Int} {w : World} {a : Act} {c : Int} (hs : a.tmps.getD 2 undef = .pointer (some ⟨w.heap.size, 0, none⟩)) (hu : a.tmps.getD 3 undef = .int .i64 c) (hd : a.defers = []) (h0 : c ≠ 0) (hc : code4 n bs = c) {w' : World} (hE : Ext w w') (hb : Blk w' w.heap.size 34 pkZC) :
    bodyPost Try.prog Try.f38 (FourPost n bs w) .ret a w' := by
  subst hc
  exact bodyPost_ret (results_pk rfl hs hb hu) hd (by unfold FourPost; rw [if_neg h0]; exact ⟨rfl, hE⟩)

theorem four_bad9 {n : Nat} {bs : List Int} {w w1 : World} {a : Act} {c : Int} (hs : a.tmps.getD 2 undef = .pointer (some ⟨w.heap.size, 0, none⟩)) (hu : a.tmps.getD 3 undef = .int .i64 c) (hd : a.defers = []) (h0 : c ≠ 0) (hc : code4 n bs = c) (hE : Ext w w1) (hb : Blk w1 w.heap.size 34 pkZC) :
    bodyPost Try.prog Try.f38 (FourPost n bs w) .ret a (set9 w1 w.heap.size (.bool false) (.int .u64 0) (.int .u64 0) (.bool false) (.int .u64 0) (.int .u64 0) (.int .i64 0) (.int .i64 0) (.slice none 0 0)) :=
  four_bad hs hu hd h0 hc (hE.keep (keep_set9 (X := (· = w.heap.size)) rfl _ _ _ _ _ _ _ _ _) (Nat.le_refl _)) (Blk.set9 hb _ _ _ _ _ _ _ _ _)

set_option maxHeartbeats 2000000 in
theorem four_short (A : Option Addr) (n c : Nat) (bs : List Int) (w : World) (h : n < 20) :
    Calls Try.prog 38 #[.slice A n c] w (FourPost n bs w) := by
  have hn : (n : Int) < 20 := by omega
  have hbl : Blk (w.alloc (.cells pkZC 34)) w.heap.size 34 pkZC := Blk.new _ _ _
  go_enter Try.func38, Try.ntmps38
  go_wp2_with fail
  exact four_bad (c := 4) rfl rfl rfl (by decide) (by unfold code4; rw [if_pos h]) ((Ext.refl w).alloc _) hbl

theorem u8_and15 {x : Int} (hx : 0 ≤ x ∧ x ≤ 255) : bits .and .u8 x 15 = x % 16 := by
  obtain ⟨a, rfl⟩ := Int.eq_ofNat_of_zero_le hx.1
  have ha : a < 256 := by omega
  have e1 : (BitVec.ofInt 8 (a : Int)).toNat = a := by rw [BitVec.ofInt_natCast, BitVec.toNat_ofNat]; exact Nat.mod_eq_of_lt ha
  show IntKind.u8.wrap ((BitVec.ofInt 8 (a : Int) &&& BitVec.ofInt 8 ((15 : Nat) : Int)).toNat : Int) = _
  rw [BitVec.toNat_and, e1, show (BitVec.ofInt 8 ((15 : Nat) : Int)).toNat = 2 ^ 4 - 1 from by decide, Nat.and_two_pow_sub_one_eq_mod, IntKind.wrap_u8']
  omega

def headS (b off n c : Nat) (x h wh : Int) : List OpSpec :=
  [isV (.slice (some ⟨b, off, none⟩) n c), isV (.pointer (some ⟨b, off, none⟩)), isV (.int .u8 x), isV (.int .u8 (x % 16)), isV (.int .i64 (x % 16)), isV (.int .i64 h), isV (.slice (some ⟨b, off, none⟩) n c), isV (.slice (some ⟨b, off + 2, none⟩) (n - 2) (c - 2)), isV (.int .i64 wh)]

/-- the data of a packet without V6 -/
def dataS4 (k b off n c h q : Nat) (bs : List Int) : List OpSpec :=
  [isV (.pointer (some ⟨k, 8, none⟩)), isV (.slice none 0 0), isV (.slice (some ⟨b, off, none⟩) n c), isV (.int .i64 (h : Int)), isV (.int .i64 (q : Int)), isV (.slice (if c = h then some ⟨b, off, none⟩ else some ⟨b, off + h, none⟩) (q - h) (c - h)), rowV ([] ++ bs)]

theorem four_end {n h q : Nat} {bs : List Int} {w w1 : World} {x y : Int × Int} {v : Value} {a : Act} (hc0 : code4 n bs = 0) (ht : (hd4 bs).toNat = h) (htq : (wh4 bs).toNat = q) (hx : fb ((bs.drop 12).take 4) = x) (hy : fb ((bs.drop 16).take 4) = y) (hb : Blk w1 w.heap.size 34 pkZC) (hown : w1.ownsRow (w.heap.size + 1) 5 1 v (q - h) (bytesV ((bs.take q).drop h))) (hE : Ext w w1)
    (hs : a.tmps.getD 2 undef = .pointer (some ⟨w.heap.size, 0, none⟩)) (hu : a.tmps.getD 3 undef = .int .i64 0) (hd : a.defers = []) :
    bodyPost Try.prog Try.f38 (FourPost n bs w) .ret a
      (set9 w1 w.heap.size (.bool false) (.int .u64 x.1) (.int .u64 x.2) (.bool false) (.int .u64 y.1) (.int .u64 y.2) (.int .i64 (gB bs 9)) (.int .i64 (gB bs 8)) v) := by
  subst hx hy ht htq
  exact bodyPost_ret (results_pk (s := ⟨false, _, _⟩) (d := ⟨false, _, _⟩) (p := gB bs 9) (t := gB bs 8) rfl hs (Blk.set9 hb _ _ _ _ _ _ _ _ _) hu) hd (by
    unfold FourPost
    rw [if_pos hc0]
    exact ⟨_, rfl, own_base (own_apart hown (keep_set9 (X := (· = w.heap.size)) rfl _ _ _ _ _ _ _ _ _) hb (by decide)) (Nat.le_succ _), Ext.keep hE (keep_set9 (X := (· = w.heap.size)) rfl _ _ _ _ _ _ _ _ _) (Nat.le_refl _)⟩)

set_option maxRecDepth 100000 in
set_option maxHeartbeats 8000000 in
theorem four_any (b off n c : Nat) (bs : List Int) (w : World) (hB : IsB bs) (hr : Reads w w.heap.size 1 (some ⟨b, off, none⟩) n (bytesV bs)) (hc : n ≤ c) (hn20 : 20 ≤ n) :
    Calls Try.prog 38 #[.slice (some ⟨b, off, none⟩) n c] w (FourPost n bs w) := by
  have hn : ¬ (n : Int) < 20 := by omega
  have hbl : Blk (w.alloc (.cells pkZC 34)) w.heap.size 34 pkZC := Blk.new _ _ _
  have hE0 : Ext w (w.alloc (.cells pkZC 34)) := (Ext.refl w).alloc _
  have hcn : (n : Int) ≤ (c : Int) := by omega
  have hl : bs.length = n := by have := hr.1; rw [bytesV_len] at this; omega
  have rd : ∀ wq, Ext w wq → ∀ j, j < n → wq.cell? ⟨b, off + j, none⟩ = some (.int .u8 (gB bs j)) := by
    intro wq hR j hj
    obtain ⟨b', off', e, _, hcell⟩ := (hr.below hR).2 (by omega)
    injection e with e
    injection e with e1 e2
    subst e1 e2
    exact hcell j _ (bytesV_get bs j (by omega))
  go_enter Try.func38, Try.ntmps38
  go_wp2_with fail
  obtain ⟨w1, hw1⟩ : ∃ w1, w1 = w.alloc (.cells pkZC 34) := ⟨_, rfl⟩
  have hw2 : w.alloc (.cells #[.bool false, .int .u64 0, .int .u64 0, .bool false, .int .u64 0, .int .u64 0, .int .i64 0, .int .i64 0, .slice none 0 0] 34) = w1 := hw1.symm
  rw [hw2]
  rw [← hw1] at hbl hE0
  clear hw1 hw2
  have hlt := hbl.lt
  go_cut [4, 5] (fun v4 v5 wx => v4 = .int .i64 (hd4 bs) ∧ v5 = .int .i64 (wh4 bs) ∧ Blk wx w.heap.size 34 pkZC ∧ Ext w wx)
  case first =>
    have b0 := hB.at 0
    have hn1 : (0 : Int) < (n : Int) := by omega
    have hn0 : 0 < n := by omega
    have hn2 : (2 : Int) ≤ (n : Int) := by omega
    have hc2 : ¬ c = 2 := by omega
    have hd0 : gB (bs.drop 2) 0 * 256 + gB (bs.drop 2) 1 = wh4 bs := by unfold wh4; simp [gB, List.getElem?_drop]
    have ha := u8_and15 b0
    refine wp_region_rows (by kernel_rfl) 9 [11, 12, 13, 14, 15, 16, 17, 18, 19] rfl rfl (headS b off n c (gB bs 0) (hd4 bs) (wh4 bs)) rfl 75 (by kernel_rfl) (by decide) (by kernel_rfl) (by kernel_rfl) (by kernel_rfl) rfl (by kernel_rfl) (by kernel_rfl) w1.heap.size (Nat.le_refl _) ?_ ?_
    · intro z wq hBq hb hA
      have e5 : z 5 = .int .i64 (hd4 bs) := hA.2.2.2.2.2.1.1
      have e8 : z 8 = .int .i64 (wh4 bs) := hA.2.2.2.2.2.2.2.2.1.1
      simp only [List.map_cons, List.map_nil, fillL, Nat.zero_add, Nat.reduceAdd, Act.put, List.setIfInBounds_toArray, List.set_cons_succ, List.set_cons_zero, List.drop_succ_cons, List.drop_zero, e5, e8]
      clear hA e5 e8
      have hzq := hbl.below hBq hlt
      have hEq := Ext.trans hE0 hBq
      go_wp2_with fail
      go_meet
      exact ⟨rfl, rfl, hzq, hEq⟩
    · refine EachOp.cons ?_ (EachOp.cons ?_ (EachOp.cons ?_ (EachOp.cons ?_ (EachOp.cons ?_ (EachOp.cons ?_ (EachOp.cons ?_ (EachOp.cons ?_ (EachOp.cons ?_ EachOp.nil))))))))
      all_goals (refine StepS.mk _ rfl fun r wq hBq hb hc hf ho hk K hK => ?_)
      · have h0 : r (.tmp 0) = .slice (some ⟨b, off, none⟩) n c := ho 0 rfl
        unfold OpV; go_simp; exact hK _ _ post_is
      · have h0 : r (.tmp 11) = .slice (some ⟨b, off, none⟩) n c := hk.1.1
        unfold OpV; go_simp; exact hK _ _ post_is
      · have h0 : r (.tmp 12) = .pointer (some ⟨b, off, none⟩) := hk.1.1
        have c0 := rd wq (hE0.trans hBq) 0 (by omega)
        rw [Nat.add_zero] at c0
        unfold OpV; go_simp; exact hK _ _ post_is
      · have h0 : r (.tmp 13) = .int .u8 (gB bs 0) := hk.1.1
        unfold OpV; go_simp; (try rw [ha]); exact hK _ _ post_is
      · have h0 : r (.tmp 14) = .int .u8 (gB bs 0 % 16) := hk.1.1
        unfold OpV; go_simp; (try rw [IntWalk.i64_in _ (by omega)]); exact hK _ _ post_is
      · have h0 : r (.tmp 15) = .int .i64 (gB bs 0 % 16) := hk.1.1
        unfold OpV; go_simp; (try rw [IntWalk.i64_in _ (by omega)]); exact hK _ _ post_is
      · have h0 : r (.tmp 0) = .slice (some ⟨b, off, none⟩) n c := ho 0 rfl
        unfold OpV; go_simp; exact hK _ _ post_is
      · have h0 : r (.tmp 17) = .slice (some ⟨b, off, none⟩) n c := hk.1.1
        unfold OpV; go_simp; exact hK _ _ post_is
      · have h0 : r (.tmp 18) = .slice (some ⟨b, off + 2, none⟩) (n - 2) (c - 2) := hk.1.1
        have hr4 : Reads wq w.heap.size 1 (some ⟨b, off + 2, none⟩) (n - 2) (bytesV (bs.drop 2)) := (hr.below (hE0.trans hBq)).from (by omega)
        unfold OpV; go_simp
        refine (get_any _ _ _ w.heap.size (bs.drop 2) _ (by omega) (fun y hy => hB y (List.mem_of_mem_drop hy)) hr4).mono ?_
        rintro e w2 ⟨rfl, q, rfl⟩
        rw [hd0]
        exact ⟨_, rfl, hK _ _ (post_isB (Ext.drewN (Ext.refl _) q))⟩
  case rest =>
    obtain ⟨rfl, rfl, hz2, hE2⟩ := hcut
    obtain ⟨wo, rfl⟩ : ∃ wo : World, wo = wc := ⟨_, rfl⟩
    clear hbl hE0 hlt
    have hcode : Hid (code4 n bs = if hd4 bs < 20 ∨ wh4 bs < hd4 bs then 5 else if (n : Int) < wh4 bs then 4 else if sumL (bs.take (hd4 bs).toNat) ≠ 0 then 6 else if (gB bs 6 * 256 + gB bs 7) % 16384 ≠ 0 then 5 else 0) := by unfold Hid code4; rw [if_neg (by omega)]
    have gA := hB.at 0
    have gB2 := hB.at 2
    have gB3 := hB.at 3
    obtain ⟨h, hh⟩ : ∃ h : Nat, hd4 bs = (h : Int) := ⟨(hd4 bs).toNat, by unfold hd4; omega⟩
    obtain ⟨q, hq⟩ : ∃ q : Nat, wh4 bs = (q : Int) := ⟨(wh4 bs).toNat, by unfold wh4; omega⟩
    have hh60 : (h : Int) ≤ 60 := by rw [← hh]; unfold hd4; omega
    have hq6 : (q : Int) ≤ 65535 := by rw [← hq]; unfold wh4; omega
    have ht : (hd4 bs).toNat = h := by rw [hh]; rfl
    have htq : (wh4 bs).toNat = q := by rw [hq]; rfl
    rw [ht, hh, hq] at hcode
    have HH := Lib.hid hh
    have HQ := Lib.hid hq
    have HT := Lib.hid ht
    have HTQ := Lib.hid htq
    rw [hh, hq]
    clear hh hq ht htq gA gB2 gB3
    obtain ⟨d0, d1, d2, d3, d4, d5, d6, d7, d8, df⟩ := pk_cells hz2
    by_cases k1 : (h : Int) < 20 ∨ (q : Int) < (h : Int)
    · have hc5 : code4 n bs = 5 := by have := hcode.out; rw [this, if_pos k1]
      have HC := Lib.hid hc5
      have HZ := Lib.hid hz2
      have HE := Lib.hid hE2
      clear hcode hc5 hz2 hE2 hr hB rd
      by_cases k2 : (h : Int) < 20
      · clear k1
        go_wp2_with fail
        exact four_bad9 (c := 5) rfl rfl rfl (by decide) HC.out HE.out HZ.out
      · have k3 : (q : Int) < (h : Int) := by omega
        clear k1
        go_wp2_with fail
        exact four_bad9 (c := 5) rfl rfl rfl (by decide) HC.out HE.out HZ.out
    · have k2 : ¬ (h : Int) < 20 := by omega
      have k3 : ¬ (q : Int) < (h : Int) := by omega
      by_cases k4 : (n : Int) < (q : Int)
      · have hc5 : code4 n bs = 4 := by have := hcode.out; rw [this, if_neg k1, if_pos k4]
        have HC := Lib.hid hc5
        have HZ := Lib.hid hz2
        have HE := Lib.hid hE2
        clear hcode hc5 hz2 hE2 hr hB rd k1
        go_wp2_with fail
        exact four_bad9 (c := 4) rfl rfl rfl (by decide) HC.out HE.out HZ.out
      · have hhc : (h : Int) ≤ (c : Int) := by omega
        have hS := hcode.out
        rw [if_neg k1, if_neg k4] at hS
        have hBh : IsB (bs.take h) := fun y hy => hB y (List.mem_of_mem_take hy)
        have hrh : Reads wo w.heap.size 1 (some ⟨b, off, none⟩) h (bytesV (bs.take h)) := (hr.below hE2).take (by omega)
        obtain ⟨S, HS⟩ : ∃ S, Hid (sumL (bs.take h) = S) := ⟨_, rfl⟩
        rw [HS.out] at hS
        have HC := Lib.hid hS
        clear hcode hS k1
        have HZ := Lib.hid hz2
        have HE := Lib.hid hE2
        have HR := Lib.hid hr
        have HD := Lib.hid rd
        clear hz2 hE2 hr rd
        go_wp2_with fail
        refine (sum_any _ _ _ _ (bs.take h) _ (by omega) hBh hrh).mono ?_
        rintro e w2 ⟨rfl, rfl⟩
        rw [HS.out]
        by_cases k5 : S = 0
        · subst k5
          have hE2 := HE.out
          have hr6 : Reads wo w.heap.size 1 (some ⟨b, off + 6, none⟩) (n - 6) (bytesV (bs.drop 6)) := (HR.out.below HE.out).from (by omega)
          have hd0 : gB (bs.drop 6) 0 * 256 + gB (bs.drop 6) 1 = gB bs 6 * 256 + gB bs 7 := by simp [gB, List.getElem?_drop]
          have gB6 := hB.at 6
          have gB7 := hB.at 7
          have hm := and_mask (gB bs 6 * 256 + gB bs 7) 14 (by omega) (by omega) (by omega)
          have hn6 : (6 : Int) ≤ (n : Int) := by omega
          have hc6 : ¬ c = 6 := by omega
          clear HS hBh hrh d0 d1 d2 d3 d4 d5 d6 d7 d8 df hE2
          go_wp2_with fail
          refine (get_any _ _ _ w.heap.size (bs.drop 6) _ (by omega) (fun y hy => hB y (List.mem_of_mem_drop hy)) hr6).mono ?_
          rintro e w2 ⟨rfl, k, rfl⟩
          rw [hd0]
          clear hd0 hr6
          have hz3 := HZ.out.drewN k
          have hE3 := Ext.drewN HE.out k
          clear HZ HE
          generalize wo.drewN k = w2 at *
          have HM := Lib.hid hm
          clear hm
          obtain ⟨X, HX⟩ : ∃ X, Hid (gB bs 6 * 256 + gB bs 7 = X) := ⟨_, rfl⟩
          rw [HX.out] at HM HC ⊢
          obtain ⟨a0, a1, a2, a3, a4, a5, a6, a7, a8, af⟩ := pk_cells hz3
          have HZ := Lib.hid hz3
          have HE := Lib.hid hE3
          clear hz3 hE3
          by_cases k6 : X % 16384 = 0
          · have hmask : bits .and .i64 X 16383 = 0 := HM.out.trans k6
            have hc0 : code4 n bs = 0 := by have := HC.out; rw [this, if_neg (by decide), if_neg (by simpa using k6)]
            have HC0 := Lib.hid hc0
            clear HC hc0 HM k6
            have hb1 := HZ.out
            have hE1 := HE.out
            have hlt := hb1.lt
            clear HZ HE
            go_wp2_with fail
            go_cut [6] (fun v6 wx => ∃ k, v6 = .pointer (some ⟨k, 0, none⟩) ∧ w.heap.size < k ∧ Blk wx k 34 (pkC ⟨false, 0, 0⟩ ⟨false, 0, 0⟩ (gB bs 9) (gB bs 8) (.slice none 0 0)) ∧ Blk wx w.heap.size 34 pkZC ∧ Ext w wx)
            case first =>
              refine wp_region_facts (by kernel_rfl) 10 [some 49, some 50, some 51, some 52, some 53, some 54, some 55, some 56, some 57, some 6] rfl rfl (fun _ => False) (readF b off n c w.heap.size 8 9 (gB bs 8) (gB bs 9) (pkV ⟨false, 0, 0⟩ ⟨false, 0, 0⟩ (gB bs 9) (gB bs 8) (.slice none 0 0))) (fun wq => Keep (fun _ => False) w2 wq) 75 (by kernel_rfl) (by kernel_rfl) (by kernel_rfl) (by kernel_rfl) (by kernel_rfl) rfl (by kernel_rfl) ?_ ?_ ?_
              · exact (Keep.refl _ _).drew
              · intro x wq hR hA
                obtain ⟨-, -, -, -, -, -, -, -, hv8, ⟨k, hy, hkb, hkr⟩, -⟩ := hA
                have hEq : Ext w wq := Below.trans hE1 (hR.below (Nat.le_of_lt hlt) (fun _ h => h.elim))
                have hb2 := hb1.kept hR (fun h => h)
                simp only [Nat.zero_add, Nat.reduceAdd] at hv8 hy
                replace hv8 : x 8 = pkV ⟨false, 0, 0⟩ ⟨false, 0, 0⟩ (gB bs 9) (gB bs 8) (.slice none 0 0) := hv8
                simp only [fillL, Nat.zero_add, Nat.reduceAdd, Act.put, List.setIfInBounds_toArray, List.set_cons_succ, List.set_cons_zero, List.drop_succ_cons, List.drop_zero, hv8, hy]
                clear hv8 hy
                clear a0 a1 a2 a3 a4 a5 a6 a7 a8 af
                obtain ⟨a0, a1, a2, a3, a4, a5, a6, a7, a8, af⟩ := pk_cells (s := ⟨false, 0, 0⟩) (d := ⟨false, 0, 0⟩) (p := 0) (t := 0) (v := .slice none 0 0) hkb
                have HB := Lib.hid hb2
                have HK := Lib.hid hkb
                have HE := Lib.hid hEq
                clear hb2 hkb hEq hb1 hE1 hR hmask
                unfold pkV
                go_wp2_with fail
                go_meet
                exact ⟨k, rfl, hkr, Blk.set9 HK.out _ _ _ _ _ _ _ _ _, HB.out.kept (keep_set9 (X := (· = k)) rfl _ _ _ _ _ _ _ _ _) (by omega), Ext.keep HE.out (keep_set9 (X := (· = k)) rfl _ _ _ _ _ _ _ _ _) (Nat.le_of_lt hkr)⟩
              · have hn6 : (8 : Int) < (n : Int) := by omega
                have hn7 : (9 : Int) < (n : Int) := by omega
                have rd2 : ∀ wq, Keep (fun _ => False) w2 wq → ∀ j, j < n → wq.cell? ⟨b, off + j, none⟩ = some (.int .u8 (gB bs j)) :=
                  fun wq hR j hj => HD.out wq (Below.trans hE1 (hR.below (Nat.le_of_lt hlt) (fun _ h => h.elim))) j hj
                clear a0 a1 a2 a3 a4 a5 a6 a7 a8 af hmask
                refine EachOp.cons ?_ (EachOp.cons ?_ (EachOp.cons ?_ (EachOp.cons ?_ (EachOp.cons ?_ (EachOp.cons ?_ (EachOp.cons ?_ (EachOp.cons ?_ (EachOp.cons ?_ (EachOp.cons ?_ EachOp.nil)))))))))
                all_goals (intro r wq hR hc hf ho hk K hK)
                · have h0 : r (.tmp 0) = .slice (some ⟨b, off, none⟩) n c := ho 0 rfl
                  unfold OpV; go_simp; exact hK _ _ hR (Keep.refl _ _) rfl
                · have h0 : r (.tmp 49) = .slice (some ⟨b, off, none⟩) n c := hk.1
                  unfold OpV; go_simp; exact hK _ _ hR (Keep.refl _ _) rfl
                · have h0 : r (.tmp 50) = .pointer (some ⟨b, off + 8, none⟩) := hk.1
                  have c6 := rd2 wq hR 8 (by omega)
                  unfold OpV; go_simp; exact hK _ _ hR (Keep.refl _ _) rfl
                · have h0 : r (.tmp 51) = .int .u8 (gB bs 8) := hk.1
                  have b6 := hB.at 8
                  unfold OpV; go_simp; (try rw [IntWalk.i64_in _ (by omega)]); exact hK _ _ hR (Keep.refl _ _) rfl
                · have h0 : r (.tmp 0) = .slice (some ⟨b, off, none⟩) n c := ho 0 rfl
                  unfold OpV; go_simp; exact hK _ _ hR (Keep.refl _ _) rfl
                · have h0 : r (.tmp 53) = .slice (some ⟨b, off, none⟩) n c := hk.1
                  unfold OpV; go_simp; exact hK _ _ hR (Keep.refl _ _) rfl
                · have h0 : r (.tmp 54) = .pointer (some ⟨b, off + 9, none⟩) := hk.1
                  have c6 := rd2 wq hR 9 (by omega)
                  unfold OpV; go_simp; exact hK _ _ hR (Keep.refl _ _) rfl
                · have h0 : r (.tmp 55) = .int .u8 (gB bs 9) := hk.1
                  have b6 := hB.at 9
                  unfold OpV; go_simp; (try rw [IntWalk.i64_in _ (by omega)]); exact hK _ _ hR (Keep.refl _ _) rfl
                · have h0 : r (.tmp 52) = .int .i64 (gB bs 8) := hk.1
                  have h1 : r (.tmp 56) = .int .i64 (gB bs 9) := hk.2.1
                  unfold OpV; go_simp; exact hK _ _ hR (Keep.refl _ _) rfl
                · unfold OpV; go_simp
                  exact hK _ _ (hR.alloc _) ((Keep.refl _ _).alloc _) ⟨wq.heap.size, rfl, Blk.new _ _ _, Nat.lt_of_lt_of_le hlt hR.size⟩
            case rest =>
              obtain ⟨k, rfl, hkr, hkb, hb2, hE2⟩ := hcut
              obtain ⟨wv, rfl⟩ : ∃ wv : World, wv = wc := ⟨_, rfl⟩
              have h12 : (12 : Int) ≤ (n : Int) := by omega
              have hc20 : (20 : Int) ≤ (c : Int) := by omega
              have hc12 : ¬ c = 12 := by omega
              clear hb1 hE1 hlt a0 a1 a2 a3 a4 a5 a6 a7 a8 af hmask
              have hr := HR.out
              clear HD
              go_wp2_with fail
              have hrs : Reads wv w.heap.size 1 (some ⟨b, off + 12, none⟩) 8 (bytesV ((bs.drop 12).take 8)) := (((hr.below hE2).from (k := 12) (by omega)).take (by omega))
              refine (ends_any b (off + 12) 8 (c - 12) _ _ (fun y hy => hB y (List.mem_of_mem_drop (List.mem_of_mem_take hy))) (hrs.more (by have := hE2.size; omega)) (.inl rfl) (by omega)).mono ?_
              rintro e w3 ⟨rfl, hE3⟩
              have e1 : ((bs.drop 12).take 8).take (8 / 2) = (bs.drop 12).take 4 := by rw [List.take_take]; rfl
              have e2 : ((bs.drop 12).take 8).drop (8 / 2) = (bs.drop 16).take 4 := by rw [List.drop_take, List.drop_drop]
              rw [e1, e2]
              clear e1 e2 hrs
              have hk3 := hkb.below hE3 hkb.lt
              have hz3 := hb2.below hE3 hb2.lt
              have hE4 := hE2.trans hE3
              clear hkb hb2 hE2 hE3
              obtain ⟨x, Hx⟩ : ∃ x, Hid (fb ((bs.drop 12).take 4) = x) := ⟨_, rfl⟩
              obtain ⟨y, Hy⟩ : ∃ y, Hid (fb ((bs.drop 16).take 4) = y) := ⟨_, rfl⟩
              rw [Hx.out, Hy.out]
              have hcl : w.heap.size < w3.heap.size := hz3.lt
              have hkl : k < w3.heap.size := hk3.lt
              obtain ⟨a0, a1, a2, a3, a4, a5, a6, a7, a8, af⟩ := pk_cells hk3
              go_wp2_with fail
              go_cut [] (fun wx => ∃ v, Blk wx k 34 (pkC ⟨false, x.1, x.2⟩ ⟨false, y.1, y.2⟩ (gB bs 9) (gB bs 8) v) ∧ Blk wx w.heap.size 34 pkZC ∧ wx.ownsRow (w.heap.size + 1) 5 1 v (q - h) (bytesV ((bs.take q).drop h)) ∧ Ext w wx)
              case first =>
                obtain ⟨hk4, hkeep⟩ := six_set hk3 (.bool false) (.int .u64 x.1) (.int .u64 x.2) (.bool false) (.int .u64 y.1) (.int .u64 y.2)
                have hz4 := hz3.kept hkeep (by omega)
                have hE5 := Ext.keep hE4 hkeep (Nat.le_of_lt hkr)
                generalize ((((((w3.setCell ⟨k, 0, none⟩ (.bool false)).setCell ⟨k, 1, none⟩ (.int .u64 x.1)).setCell ⟨k, 2, none⟩ (.int .u64 x.2)).setCell ⟨k, 3, none⟩ (.bool false)).setCell ⟨k, 4, none⟩ (.int .u64 y.1)).setCell ⟨k, 5, none⟩ (.int .u64 y.2)) = w4 at *
                clear hk3 hz3 hkeep hE4 a0 a1 a2 a3 a4 a5 a6 a7 a8 af hcl hkl
                replace hk4 : Blk w4 k 34 (pkC ⟨false, x.1, x.2⟩ ⟨false, y.1, y.2⟩ (gB bs 9) (gB bs 8) (.slice none 0 0)) := hk4
                have hkl := hk4.lt
                have hcl := hz4.lt
                have hr5 := (hr.below hE5)
                have hhq : (h : Int) ≤ (q : Int) := by omega
                have hqc : (q : Int) ≤ (c : Int) := by omega
                have hh0 : (0 : Int) ≤ (h : Int) := by omega
                have hrm : Reads w4 w.heap.size 1 (if c = h then some ⟨b, off, none⟩ else some ⟨b, off + h, none⟩) (q - h) (bytesV ((bs.take q).drop h)) := by
                  rcases Nat.lt_or_ge h q with hlt | hge
                  · rw [if_neg (by omega)]
                    exact (hr5.take (k := q) (by omega)).from (k := h) hlt
                  · have e0 : q - h = 0 := by omega
                    rw [e0]
                    exact ⟨by rw [bytesV_len, List.length_drop, List.length_take]; omega, fun h => absurd h (by omega)⟩
                have hlm : ((bs.take q).drop h).length = q - h := by have := hrm.1; rw [bytesV_len] at this; omega
                refine wp_region_rows (by kernel_rfl) 7 [66, 67, 68, 69, 70, 71, 72] rfl rfl (dataS4 k b off n c h q ((bs.take q).drop h)) rfl 75 (by kernel_rfl) (by decide) (by kernel_rfl) (by kernel_rfl) (by kernel_rfl) rfl (by kernel_rfl) (by kernel_rfl) w4.heap.size (Nat.le_refl _) ?_ ?_
                · intro z wq hBq hb hA
                  have r8 : RowAt w4.heap.size wq (z 6) ([] ++ (bs.take q).drop h) := hA.2.2.2.2.2.2.1.2 rfl
                  obtain ⟨A8, c8, e8, _⟩ := r8.reads (q - h) hlm
                  simp only [List.map_cons, List.map_nil, fillL, Nat.zero_add, Nat.reduceAdd, Act.put, List.setIfInBounds_toArray, List.set_cons_succ, List.set_cons_zero, List.drop_succ_cons, List.drop_zero, e8]
                  rw [e8] at r8
                  clear hA e8
                  have hkq := hk4.below hBq hkl
                  have hzq := hz4.below hBq hcl
                  have hEq := hE5.trans hBq
                  obtain ⟨a0, a1, a2, a3, a4, a5, a6, a7, a8, af⟩ := pk_cells hkq
                  have r9 : wq.ownsRow (w.heap.size + 1) 5 1 (.slice A8 (q - h) c8) (q - h) (bytesV ((bs.take q).drop h)) := by
                    have := r8
                    unfold RowAt at this
                    rw [List.nil_append, hlm] at this
                    exact own_base this hcl
                  go_wp2_with fail
                  go_meet
                  exact ⟨_, six_set8 hkq _, hzq.far (p := ⟨k, 8, none⟩) (by show w.heap.size ≠ k; omega) _, own_apart r9 (keep_one (p := ⟨k, 8, none⟩) _) hkq (by decide), Ext.keep hEq (keep_one (p := ⟨k, 8, none⟩) _) (Nat.le_of_lt hkr)⟩
                · refine EachOp.cons ?_ (EachOp.cons ?_ (EachOp.cons ?_ (EachOp.cons ?_ (EachOp.cons ?_ (EachOp.cons ?_ (EachOp.cons ?_ EachOp.nil))))))
                  all_goals (refine StepS.mk _ rfl fun r wq hBq hb hc hf ho hk K hK => ?_)
                  · have h0 : r (.tmp 6) = .pointer (some ⟨k, 0, none⟩) := ho 6 rfl
                    unfold OpV; go_simp; exact hK _ _ post_is
                  · have h0 : r (.tmp 66) = .pointer (some ⟨k, 8, none⟩) := hk.1.1
                    obtain ⟨a0, a1, a2, a3, a4, a5, a6, a7, a8, af⟩ := pk_cells (hk4.below hBq hkl)
                    unfold OpV; go_simp; exact hK _ _ post_is
                  · have h0 : r (.tmp 0) = .slice (some ⟨b, off, none⟩) n c := ho 0 rfl
                    unfold OpV; go_simp; exact hK _ _ post_is
                  · have h0 : r (.tmp 4) = .int .i64 (h : Int) := ho 4 rfl
                    unfold OpV; go_simp; exact hK _ _ post_is
                  · have h0 : r (.tmp 5) = .int .i64 (q : Int) := ho 5 rfl
                    unfold OpV; go_simp; exact hK _ _ post_is
                  · have h0 : r (.tmp 68) = .slice (some ⟨b, off, none⟩) n c := hk.1.1
                    have h1 : r (.tmp 69) = .int .i64 (h : Int) := hk.2.1.1
                    have h2 : r (.tmp 70) = .int .i64 (q : Int) := hk.2.2.1.1
                    unfold OpV; go_simp; exact hK _ _ post_is
                  · have h0 : r (.tmp 67) = .slice none 0 0 := hk.1.1
                    have h1 : r (.tmp 71) = .slice (if c = h then some ⟨b, off, none⟩ else some ⟨b, off + h, none⟩) (q - h) (c - h) := hk.2.1.1
                    exact opv_append (.tmp 67) (.tmp 71) rfl wq.heap.size [] _ (by rw [h0]; exact World.ownsRow_nil _ _ _ _) _ _ (q - h) _ h1 (hrm.below (hBq.mono (Nat.le_of_lt hcl))) (by simp; omega) (Nat.le_refl _) fun v' w' h2 h3 h4 => hK _ _ (post_row ((Below.refl _ _).grown h3 (Nat.le_refl _) (by rw [h0]; intro k hk; cases hk)) h2)
              case rest =>
                obtain ⟨v, hk4, hz4, hown, hE5⟩ := hcut
                obtain ⟨A, n', c', rfl⟩ := own_slice hown
                obtain ⟨a0, a1, a2, a3, a4, a5, a6, a7, a8, af⟩ := pk_cells hk4
                obtain ⟨d0, d1, d2, d3, d4, d5, d6, d7, d8, df⟩ := pk_cells hz4
                have HK := Lib.hid hk4
                have HZ := Lib.hid hz4
                have HO := Lib.hid hown
                have HE := Lib.hid hE5
                clear hk4 hz4 hown hE5 hr hB
                go_wp2_with fail
                exact four_end (x := x) (y := y) HC0.out HT.out HTQ.out Hx.out Hy.out HZ.out HO.out HE.out rfl rfl rfl
          · have hc5 : code4 n bs = 5 := by have := HC.out; rw [this, if_neg (by decide), if_pos k6]
            have hmask : bits .and .i64 X 16383 = X % 16384 := HM.out
            clear HC HM HR HD hB HX gB6 gB7
            have HC := Lib.hid hc5
            clear hc5
            go_wp2_with fail
            exact four_bad9 (c := 5) rfl rfl rfl (by decide) HC.out HE.out HZ.out
        · have hc5 : code4 n bs = 6 := by have := HC.out; rw [this, if_pos k5]
          clear HC HS hBh hrh HR HD hB
          have HC := Lib.hid hc5
          clear hc5
          go_wp2_with fail
          exact four_bad9 (c := 6) rfl rfl rfl (by decide) HC.out HE.out HZ.out

end Go.Proofs.Ytcdfmgkcadpgbaa
