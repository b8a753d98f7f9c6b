/-
  A message, encoded by the program.
-/
import Derived.Test.YtopkbpigaengeaaDoorAv
namespace Go.Proofs.YtopkbpigaengeaaDoor
open Go.RowKit

theorem Reads.take {w : World} {B n : Nat} {A : Option Addr} {bs : List Int} (h : Reads w B 1 A n (bytesV bs)) {k : Nat} (hk : k ≤ n) : Reads w B 1 A k (bytesV (bs.take k)) := by
  have hl := h.1
  rw [bytesV_len] at hl
  refine ⟨by rw [bytesV_len, List.length_take]; omega, fun hp => ?_⟩
  obtain ⟨b, off, e, hb, hc⟩ := h.2 (by omega)
  refine ⟨b, off, e, hb, fun j u hu => hc j u ?_⟩
  simp only [bytesV, List.map_take, List.getElem?_take] at hu
  split at hu
  · exact hu
  · cases hu
theorem Reads.from {w : World} {B n b off : Nat} {bs : List Int} (h : Reads w B 1 (some ⟨b, off, none⟩) n (bytesV bs)) {k : Nat} (hk : k < n) : Reads w B 1 (some ⟨b, off + k, none⟩) (n - k) (bytesV (bs.drop k)) := by
  have hl := h.1
  rw [bytesV_len] at hl
  refine ⟨by rw [bytesV_len, List.length_drop]; omega, fun hp => ?_⟩
  obtain ⟨b', off', e, hb, hc⟩ := h.2 (by omega)
  injection e with e
  injection e with e1 e2
  subst e1 e2
  refine ⟨b, off + k, rfl, hb, fun j u hu => ?_⟩
  rw [Nat.add_assoc]
  refine hc (k + j) u ?_
  simp only [bytesV, List.map_drop, List.getElem?_drop] at hu
  exact hu

def macB (m : Mac) : List Int := [m.a, m.b, m.c, m.d, m.e, m.f]
def headB : List Int := [0, 1, 8, 0, 6, 4]
def adB (s : Ad) : List Int := addrB false 0 s.lo
/-- the bytes of a message -/
def encM (m : Msg) : List Int := headB ++ [0, m.op] ++ macB m.fm ++ adB m.sa ++ macB m.tm ++ adB m.da
theorem macB_isB {m : Mac} (h : MacOk m) : IsB (macB m) := by
  obtain ⟨h1, h2, h3, h4, h5, h6⟩ := h
  intro x hx
  simp only [macB, List.mem_cons, List.not_mem_nil, or_false] at hx
  rcases hx with rfl | rfl | rfl | rfl | rfl | rfl <;> assumption
theorem headB_isB : IsB headB := by
  intro x hx
  simp only [headB, List.mem_cons, List.not_mem_nil, or_false] at hx
  rcases hx with rfl | rfl | rfl | rfl | rfl | rfl <;> omega
theorem adB_isB (s : Ad) : IsB (adB s) := beN_isB _ _
theorem adB_len (s : Ad) : (adB s).length = 4 := by unfold adB; rw [addrB_len]; rfl
theorem encM_len (m : Msg) : (encM m).length = 28 := by simp [encM, headB, macB, adB_len]
theorem opB_isB {m : Msg} (h : m.op = 1 ∨ m.op = 2) : IsB [0, m.op] := by
  intro x hx
  simp only [List.mem_cons, List.not_mem_nil, or_false] at hx
  rcases hx with rfl | rfl <;> omega
theorem encM_isB {m : Msg} (h : MsgOk m) : IsB (encM m) := by
  obtain ⟨h1, h2, h3, h4, h5⟩ := h
  exact ((((headB_isB.append (opB_isB h1)).append (macB_isB h2)).append (adB_isB _)).append (macB_isB h4)).append (adB_isB _)

/-- v is a slice that reads as the bytes bs, with a capacity that is not below its length -/
def FDat (w : World) (v : Value) (bs : List Int) : Prop := ∃ A c, v = .slice A bs.length c ∧ bs.length ≤ c ∧ Reads w w.heap.size 1 A bs.length (bytesV bs)
theorem FDat.ext {w w' : World} {v : Value} {bs : List Int} (h : FDat w v bs) (e : Ext w w') : FDat w' v bs := by
  obtain ⟨A, c, hv, hc, hr⟩ := h
  exact ⟨A, c, hv, hc, hr.ext e⟩
theorem FDat.pd {w : World} {v : Value} {bs : List Int} (h : FDat w v bs) : PData w v bs := by
  obtain ⟨A, c, hv, hc, hr⟩ := h
  exact ⟨A, c, hv, hr⟩
theorem fresh_cap {B : Nat} {w : World} {A : Option Addr} {n c : Nat} {l : List UInt8} (h : Lib.FreshBytes B w (.slice A n c) l) : n ≤ c := by
  obtain ⟨g, cap, zs, hv, _, hl, _⟩ := h
  injection hv with h1 h2 h3
  omega
theorem FDat.of_own {w : World} {base : Nat} {v : Value} {bs : List Int} (h : w.ownsRow base 5 1 v bs.length (bytesV bs)) : FDat w v bs := by
  rcases h.2 with ⟨rfl, hn⟩ | ⟨g, cap, cur, rfl, _, _, hc, _⟩
  · refine ⟨none, 0, by rw [hn], by omega, ?_⟩
    have : bs = [] := List.eq_nil_of_length_eq_zero hn
    subst this
    exact Reads.none_
  · exact ⟨_, _, rfl, hc, Reads.of_own h⟩

/-- the program's own variable: how messages begin -/
def HeadAt (w : World) : Prop := Reads w w.heap.size 1 (some ⟨0, 0, none⟩) 6 (bytesV headB)
theorem HeadAt.ext {w w' : World} (h : HeadAt w) (e : Ext w w') : HeadAt w' := Reads.ext h e

theorem join6 (a b c d e f : List UInt8) : Lib.join [a, b, c, d, e, f] [] = a ++ b ++ c ++ d ++ e ++ f := by simp [Lib.join, List.intercalate]
set_option maxHeartbeats 400000 in
theorem join_msg (w : World) (g : Nat) (hg : w.heap.size = g) (A1 A2 A3 A4 A5 A6 : Option Addr) (n1 n2 n3 n4 n5 n6 c1 c2 c3 c4 c5 c6 : Nat) (b1 b2 b3 b4 b5 b6 : List Int)
    (r1 : Reads w w.heap.size 1 A1 n1 (bytesV b1)) (r2 : Reads w w.heap.size 1 A2 n2 (bytesV b2)) (r3 : Reads w w.heap.size 1 A3 n3 (bytesV b3)) (r4 : Reads w w.heap.size 1 A4 n4 (bytesV b4)) (r5 : Reads w w.heap.size 1 A5 n5 (bytesV b5)) (r6 : Reads w w.heap.size 1 A6 n6 (bytesV b6))
    (i1 : IsB b1) (i2 : IsB b2) (i3 : IsB b3) (i4 : IsB b4) (i5 : IsB b5) (i6 : IsB b6) (hs : n1 + n2 + n3 + n4 + n5 + n6 ≤ 1000000) :
    Calls Tryd.prog 27 #[.slice (some ⟨g, 0, none⟩) 6 6, .slice none 0 0]
      (w.alloc (.cells #[.slice A1 n1 c1, .slice A2 n2 c2, .slice A3 n3 c3, .slice A4 n4 c4, .slice A5 n5 c5, .slice A6 n6 c6] 38)) fun e w' =>
      ∃ v, e = .returned v ∧ FDat w' v (b1 ++ b2 ++ b3 ++ b4 ++ b5 ++ b6) ∧ Ext w w' := by
  subst hg
  have hP := parts_of w 38 [(A1, n1, c1, b1), (A2, n2, c2, b2), (A3, n3, c3, b3), (A4, n4, c4, b4), (A5, n5, c5, b5), (A6, n6, c6, b6)] (by
    intro p hp
    simp only [List.mem_cons, List.not_mem_nil, or_false] at hp
    rcases hp with rfl | rfl | rfl | rfl | rfl | rfl
    · exact ⟨r1, i1⟩
    · exact ⟨r2, i2⟩
    · exact ⟨r3, i3⟩
    · exact ⟨r4, i4⟩
    · exact ⟨r5, i5⟩
    · exact ⟨r6, i6⟩)
  have l1 := r1.1
  have l2 := r2.1
  have l3 := r3.1
  have l4 := r4.1
  have l5 := r5.1
  have l6 := r6.1
  rw [bytesV_len, Nat.mul_one] at l1 l2 l3 l4 l5 l6
  refine (Tryd.bytes_Join_many w.heap.size 0 6 6 _ _ (.slice none 0 0) [] _ rfl (by omega) hP (by omega) ⟨none, 0, rfl, fun _ => rfl, fun a h => by cases h⟩ (by omega) ?_).mono ?_
  · simp [Lib.lens, toU_len]
    omega
  · rintro e w' ⟨v, rfl, hf, hb⟩
    obtain ⟨A, c, rfl, hr⟩ := reads_fresh hf
    have hcap := fresh_cap hf
    have e1 : Lib.join ([(A1, n1, c1, b1), (A2, n2, c2, b2), (A3, n3, c3, b3), (A4, n4, c4, b4), (A5, n5, c5, b5), (A6, n6, c6, b6)].map fun p => toU p.2.2.2) [] = toU (b1 ++ b2 ++ b3 ++ b4 ++ b5 ++ b6) := by
      show Lib.join [toU b1, toU b2, toU b3, toU b4, toU b5, toU b6] [] = _
      rw [join6, toU_append, toU_append, toU_append, toU_append, toU_append]
    rw [e1, toU_map (((((i1.append i2).append i3).append i4).append i5).append i6), toU_len] at hr
    rw [e1, toU_len] at hcap
    refine ⟨_, rfl, ⟨A, c, ?_, hcap, hr⟩, ((Ext.refl w).alloc _).trans hb⟩
    rw [e1, toU_len]

set_option maxHeartbeats 1000000 in
theorem aenc_bad (m : Msg) (w : World) (hv : validM m = false) :
    Calls Tryd.prog 17 #[arpV m] w fun e w' => e = .returned (.tuple #[.slice none 0 0, .int .i64 1]) ∧ Ext w w' := by
  unfold arpV
  have HB : Hid (Blk (w.alloc (.cells (arpC m) 29)) w.heap.size 29 (arpC m)) := Lib.hid (Blk.new _ _ _)
  go_enter Tryd.func17, Tryd.ntmps17
  go_wp2_with (refine load_arp rfl (.tmp 1) rfl w.heap.size m rfl HB.out ?_)
  refine (mvalid_any m _).mono ?_
  rintro e w' ⟨rfl, hE⟩
  rw [hv]
  go_wp2_with fail
  go_ret2
  exact ⟨rfl, ((Ext.refl w).alloc _).trans hE⟩

/-- what each operation of the region leaves -/
def encS (k : Nat) (m : Msg) : List OpSpec :=
  [isV (.slice (some ⟨0, 0, none⟩) 6 6), isV (.pointer (some ⟨k, 0, none⟩)), isV (.int .i64 m.op), isV (.int .u8 m.op), rowV [0, m.op],
   isV (.pointer (some ⟨k, 1, none⟩)), isV (.slice (some ⟨k, 1, none⟩) 6 6), isV (.pointer (some ⟨k, 7, none⟩)), isV (adV m.sa), rowV (adB m.sa),
   isV (.pointer (some ⟨k, 10, none⟩)), isV (.slice (some ⟨k, 10, none⟩) 6 6), isV (.pointer (some ⟨k, 16, none⟩)), isV (adV m.da), rowV (adB m.da)]

theorem mac_reads {w : World} {k : Nat} {m : Msg} (h : Blk w k 29 (arpC m)) : Reads w w.heap.size 1 (some ⟨k, 1, none⟩) 6 (bytesV (macB m.fm)) ∧ Reads w w.heap.size 1 (some ⟨k, 10, none⟩) 6 (bytesV (macB m.tm)) := by
  constructor
  · refine ⟨rfl, fun _ => ⟨k, 1, rfl, h.lt, fun j u hu => ?_⟩⟩
    rw [h.cell]
    match j, hu with
    | 0, hu | 1, hu | 2, hu | 3, hu | 4, hu | 5, hu => exact hu
  · refine ⟨rfl, fun _ => ⟨k, 10, rfl, h.lt, fun j u hu => ?_⟩⟩
    rw [h.cell]
    match j, hu with
    | 0, hu | 1, hu | 2, hu | 3, hu | 4, hu | 5, hu => exact hu

set_option maxRecDepth 100000 in
set_option maxHeartbeats 4000000 in
theorem aenc_ok (m : Msg) (w : World) (hm : MsgOk m) (hh : HeadAt w) :
    Calls Tryd.prog 17 #[arpV m] w fun e w' => ∃ v, e = .returned (.tuple #[v, .int .i64 0]) ∧ FDat w' v (encM m) ∧ Ext w w' := by
  have hv := validM_ok hm
  unfold arpV
  have hB0 : Blk (w.alloc (.cells (arpC m) 29)) w.heap.size 29 (arpC m) := Blk.new _ _ _
  have hE0 : Ext w (w.alloc (.cells (arpC m) 29)) := (Ext.refl w).alloc _
  have HB := Lib.hid hB0
  go_enter Tryd.func17, Tryd.ntmps17
  go_wp2_with (refine load_arp rfl (.tmp 1) rfl w.heap.size m rfl HB.out ?_)
  refine (mvalid_any m _).mono ?_
  rintro e w1 ⟨rfl, hE⟩
  rw [hv]
  have hB1 := hB0.below hE hB0.lt
  have hE1 := hE0.trans hE
  have hl1 := hB1.lt
  clear hB0 hE0 hE hv HB
  go_wp2_with fail
  have hkw : w.heap.size < w1.heap.size := hl1
  refine wp_region_rows (by kernel_rfl) 15 [7, 8, 9, 10, 11, 12, 13, 14, 15, 16, 17, 18, 19, 20, 21] rfl rfl (encS w.heap.size m) rfl 24 (by kernel_rfl) (by decide) (by kernel_rfl) (by kernel_rfl) (by kernel_rfl) rfl (by kernel_rfl) (by kernel_rfl) w1.heap.size (Nat.le_refl _) ?_ ?_
  · intro x wq hBq hb hA
    have e0 : x 0 = .slice (some ⟨0, 0, none⟩) 6 6 := hA.1.1
    have r4 : RowAt w1.heap.size wq (x 4) [0, m.op] := hA.2.2.2.2.1.2 rfl
    have e6 : x 6 = .slice (some ⟨w.heap.size, 1, none⟩) 6 6 := hA.2.2.2.2.2.2.1.1
    have r9 : RowAt w1.heap.size wq (x 9) (adB m.sa) := hA.2.2.2.2.2.2.2.2.2.1.2 rfl
    have e11 : x 11 = .slice (some ⟨w.heap.size, 10, none⟩) 6 6 := hA.2.2.2.2.2.2.2.2.2.2.2.1.1
    have r14 : RowAt w1.heap.size wq (x 14) (adB m.da) := hA.2.2.2.2.2.2.2.2.2.2.2.2.2.2.1.2 rfl
    obtain ⟨A4, c4, e4, q4⟩ := r4.reads 2 rfl
    obtain ⟨A9, c9, e9, q9⟩ := r9.reads 4 (adB_len _)
    obtain ⟨A14, c14, e14, q14⟩ := r14.reads 4 (adB_len _)
    have hxw : Ext w wq := hE1.trans hBq
    obtain ⟨qa, qb⟩ := mac_reads (hB1.below hBq hl1)
    have qh := hh.ext hxw
    clear hA r4 r9 r14 hB1 hE1
    simp only [List.map_cons, List.map_nil, fillL, Nat.zero_add, Nat.reduceAdd, Act.put, List.setIfInBounds_toArray, List.set_cons_succ, List.set_cons_zero, List.drop_succ_cons, List.drop_zero, e0, e4, e6, e9, e11, e14]
    clear e0 e4 e6 e9 e11 e14
    have hJ := join_msg wq wq.heap.size rfl (some ⟨0, 0, none⟩) A4 (some ⟨w.heap.size, 1, none⟩) A9 (some ⟨w.heap.size, 10, none⟩) A14 6 2 6 4 6 4 6 c4 6 c9 6 c14 _ _ _ _ _ _ qh q4 qa q9 qb q14 headB_isB (opB_isB hm.1) (macB_isB hm.2.1) (adB_isB _) (macB_isB hm.2.2.2.1) (adB_isB _) (by omega)
    have HJ := Lib.hid hJ
    clear hJ q4 q9 q14 qa qb qh
    go_wp2_with fail
    refine HJ.out.mono ?_
    rintro e wJ ⟨v, rfl, hrJ, hxJ⟩
    have HR := Lib.hid hrJ
    clear hrJ
    go_wp2_with fail
    go_ret2
    exact ⟨_, rfl, HR.out, hxw.trans hxJ⟩
  · refine EachOp.cons ?_ (EachOp.cons ?_ (EachOp.cons ?_ (EachOp.cons ?_ (EachOp.cons ?_ (EachOp.cons ?_ (EachOp.cons ?_ (EachOp.cons ?_ (EachOp.cons ?_ (EachOp.cons ?_ (EachOp.cons ?_ (EachOp.cons ?_ (EachOp.cons ?_ (EachOp.cons ?_ (EachOp.cons ?_ EachOp.nil))))))))))))))
    all_goals (refine StepS.mk _ rfl fun r wq hBq hb hc hf ho hk K hK => ?_)
    · unfold OpV; go_simp; exact hK _ _ post_is
    · have h0 : r (.tmp 1) = .pointer (some ⟨w.heap.size, 0, none⟩) := ho 1 rfl
      unfold OpV; go_simp; exact hK _ _ post_is
    · have h0 : r (.tmp 8) = .pointer (some ⟨w.heap.size, 0, none⟩) := hk.1.1
      have k0 : wq.cell? ⟨w.heap.size, 0, none⟩ = some (.int .i64 m.op) := (hB1.below hBq hl1).cell 0
      unfold OpV; go_simp; exact hK _ _ post_is
    · have h0 : r (.tmp 9) = .int .i64 m.op := hk.1.1
      have hw8 : IntKind.u8.wrap m.op = m.op := by rw [IntKind.wrap_u8']; have := hm.1; omega
      unfold OpV; go_simp; (try rw [hw8]); exact hK _ _ post_is
    · have h0 : r (.tmp 10) = .int .u8 m.op := hk.1.1
      unfold OpV; go_simp
      exact hK _ _ (post_row ((Below.refl _ _).alloc (Nat.le_refl _) _) (new_row_u8 wq [0, m.op] 2 rfl (by omega)))
    · have h0 : r (.tmp 1) = .pointer (some ⟨w.heap.size, 0, none⟩) := ho 1 rfl
      unfold OpV; go_simp; exact hK _ _ post_is
    · have h0 : r (.tmp 12) = .pointer (some ⟨w.heap.size, 1, none⟩) := hk.1.1
      unfold OpV; go_simp; exact hK _ _ post_is
    · have h0 : r (.tmp 1) = .pointer (some ⟨w.heap.size, 0, none⟩) := ho 1 rfl
      unfold OpV; go_simp; exact hK _ _ post_is
    · have h0 : r (.tmp 14) = .pointer (some ⟨w.heap.size, 7, none⟩) := hk.1.1
      have k0 : wq.cell? ⟨w.heap.size, 7, none⟩ = some (.bool m.sa.v6) := (hB1.below hBq hl1).cell 7
      have k1 : wq.cell? ⟨w.heap.size, 8, none⟩ = some (.int .u64 m.sa.hi) := (hB1.below hBq hl1).cell 8
      have k2 : wq.cell? ⟨w.heap.size, 9, none⟩ = some (.int .u64 m.sa.lo) := (hB1.below hBq hl1).cell 9
      unfold OpV; go_simp; exact hK _ _ post_is
    · have e : r (.tmp 15) = adV m.sa := hk.1.1
      obtain ⟨s1, s2, s3, s4⟩ := hm.2.2.1
      have e2 : adV m.sa = .agg #[.bool false, .int .u64 0, .int .u64 m.sa.lo] := by unfold adV; rw [s1, s2]
      rw [e2] at e
      unfold OpV; go_simp
      refine (abytes_four 0 m.sa.lo _ (by simp [validA, s4]) ⟨by omega, by omega⟩ ⟨s3, by omega⟩).mono ?_
      rintro e w2 ⟨g, rfl, hown, hb2⟩
      exact ⟨_, rfl, hK _ _ (post_row hb2 (by rw [adB_len]; exact hown))⟩
    · have h0 : r (.tmp 1) = .pointer (some ⟨w.heap.size, 0, none⟩) := ho 1 rfl
      unfold OpV; go_simp; exact hK _ _ post_is
    · have h0 : r (.tmp 17) = .pointer (some ⟨w.heap.size, 10, none⟩) := hk.1.1
      unfold OpV; go_simp; exact hK _ _ post_is
    · have h0 : r (.tmp 1) = .pointer (some ⟨w.heap.size, 0, none⟩) := ho 1 rfl
      unfold OpV; go_simp; exact hK _ _ post_is
    · have h0 : r (.tmp 19) = .pointer (some ⟨w.heap.size, 16, none⟩) := hk.1.1
      have k0 : wq.cell? ⟨w.heap.size, 16, none⟩ = some (.bool m.da.v6) := (hB1.below hBq hl1).cell 16
      have k1 : wq.cell? ⟨w.heap.size, 17, none⟩ = some (.int .u64 m.da.hi) := (hB1.below hBq hl1).cell 17
      have k2 : wq.cell? ⟨w.heap.size, 18, none⟩ = some (.int .u64 m.da.lo) := (hB1.below hBq hl1).cell 18
      unfold OpV; go_simp; exact hK _ _ post_is
    · have e : r (.tmp 20) = adV m.da := hk.1.1
      obtain ⟨s1, s2, s3, s4⟩ := hm.2.2.2.2
      have e2 : adV m.da = .agg #[.bool false, .int .u64 0, .int .u64 m.da.lo] := by unfold adV; rw [s1, s2]
      rw [e2] at e
      unfold OpV; go_simp
      refine (abytes_four 0 m.da.lo _ (by simp [validA, s4]) ⟨by omega, by omega⟩ ⟨s3, by omega⟩).mono ?_
      rintro e w2 ⟨g, rfl, hown, hb2⟩
      exact ⟨_, rfl, hK _ _ (post_row hb2 (by rw [adB_len]; exact hown))⟩

end Go.Proofs.YtopkbpigaengeaaDoor
