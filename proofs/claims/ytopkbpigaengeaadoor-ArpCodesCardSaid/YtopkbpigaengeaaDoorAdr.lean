/-
  A message, read by the document's answer: the walk.
-/
import Derived.Test.YtopkbpigaengeaaDoorAde
namespace Go.Proofs.YtopkbpigaengeaaDoor
open Go.RowKit

def readR (b off n c : Nat) (bs : List Int) : List (Fact (fun _ => False)) :=
  [.is (.slice (some ⟨b, off, none⟩) n c), .is (.pointer (some ⟨b, off + 6, none⟩)), .is (.int .u8 (gB bs 6)), .is (.int .i64 (gB bs 6)), .is (.int .i64 (gB bs 6 * 256)),
   .is (.slice (some ⟨b, off, none⟩) n c), .is (.pointer (some ⟨b, off + 7, none⟩)), .is (.int .u8 (gB bs 7)), .is (.int .i64 (gB bs 7)), .is (.int .i64 (opM bs))]
def endR (b off n c : Nat) (o : Int) (bs : List Int) : List (Fact (fun _ => False)) :=
  [.is (.int .i64 o), .is (.slice (some ⟨b, off, none⟩) n c), .is (.slice (some ⟨b, off + 8, none⟩) 6 (c - 8)), .is (.pointer (some ⟨b, off + 8, none⟩)), .is (macV (macAt bs 8)), .is (adV (adAt bs 14)),
   .is (.slice (some ⟨b, off, none⟩) n c), .is (.slice (some ⟨b, off + 18, none⟩) 6 (c - 18)), .is (.pointer (some ⟨b, off + 18, none⟩)), .is (macV (macAt bs 18)), .is (adV (adAt bs 24)), .is (arpV (rdM bs))]

set_option maxRecDepth 100000 in
set_option maxHeartbeats 4000000 in
theorem rdec_any (A : Option Addr) (c : Nat) (bs : List Int) (w : World) (hB : IsB bs) (hr : Reads w w.heap.size 1 A bs.length (bytesV bs)) (hc : bs.length ≤ c) :
    Calls Tryd.prog 23 #[.slice A bs.length c] w (DecPost bs w) := by
  have hb0 : Blk (w.alloc (.cells (arpC msg0) 29)) w.heap.size 29 (arpC msg0) := Blk.new _ _ _
  have hE0 : Ext w (w.alloc (.cells (arpC msg0) 29)) := (Ext.refl w).alloc _
  obtain ⟨n, Hl⟩ : ∃ n, Hid (bs.length = n) := ⟨_, rfl⟩
  have hl : bs.length = n := Hl.out
  rw [hl] at hr hc ⊢
  have HB := Lib.hid hb0
  rcases Nat.lt_or_ge n 28 with h | h
  · have hcode : codeM bs = 4 := by unfold codeM; rw [if_pos (by omega)]
    have hdec : decM bs = msg0 := by unfold decM; rw [hcode]; rfl
    have h1 : ((n : Int) < 28) := by omega
    have HC := Lib.hid hcode
    have HD := Lib.hid hdec
    clear hcode hdec hl hb0 h
    go_enter Tryd.func23, Tryd.ntmps23
    go_wp2_with (refine store_arp rfl (.tmp 2) (.tmp 12) rfl rfl w.heap.size msg0 msg0 rfl rfl HB.out ?_)
    exact dec_end rfl HD.out HB.out hE0 (Nat.le_refl _) rfl (by rw [HC.out]; rfl) rfl
  · have h1 : ¬ ((n : Int) < 28) := by omega
    obtain ⟨b, off, rfl, hbw, hcell⟩ := hr.2 (by omega)
    have b6 := hB.at 6
    have b7 := hB.at 7
    have hop : bits .or .i64 (gB bs 6 * 256) (gB bs 7) = opM bs := or_bytes b6 b7
    have r14 := hr.part (k := 14) (m := 4) (by omega) (by omega)
    have r24 := hr.part (k := 24) (m := 4) (by omega) (by omega)
    have r0 := hr.take (k := 6) (by omega)
    have i6 : (6 : Int) < (n : Int) := by omega
    have i7 : (7 : Int) < (n : Int) := by omega
    have i14 : (14 : Int) ≤ (c : Int) := by omega
    have i18 : (18 : Int) ≤ (c : Int) := by omega
    have i24 : (24 : Int) ≤ (c : Int) := by omega
    have i28 : (28 : Int) ≤ (c : Int) := by omega
    have i60 : (6 : Int) ≤ (c : Int) := by omega
    have n8 : ¬ c = 8 := by omega
    have n14 : ¬ c = 14 := by omega
    have n18 : ¬ c = 18 := by omega
    have n24 : ¬ c = 24 := by omega
    have hlt : b < w.heap.size := hbw
    have Hr := Lib.hid hr
    have HO := Lib.hid hop
    have R14 := Lib.hid r14
    have R24 := Lib.hid r24
    have R0 := Lib.hid r0
    have HC := Lib.hid hcell
    have W6 : Hid (IntKind.i64.wrap (gB bs 6) = gB bs 6) := IntWalk.i64_in _ (by omega)
    have W7 : Hid (IntKind.i64.wrap (gB bs 7) = gB bs 7) := IntWalk.i64_in _ (by omega)
    have W6s : Hid (IntKind.i64.wrap (gB bs 6 * 256) = gB bs 6 * 256) := IntWalk.i64_in _ (by omega)
    clear hop r14 r24 r0 hcell hr hl h hc
    go_enter Tryd.func23, Tryd.ntmps23
    go_wp2_with fail
    obtain ⟨w1, hw1⟩ : ∃ w1, w1 = w.alloc (.cells (arpC msg0) 29) := ⟨_, rfl⟩
    have hw2 : w.alloc (.cells #[.int .i64 0, .int .u8 0, .int .u8 0, .int .u8 0, .int .u8 0, .int .u8 0, .int .u8 0, .bool false, .int .u64 0, .int .u64 0, .int .u8 0, .int .u8 0, .int .u8 0, .int .u8 0, .int .u8 0, .int .u8 0, .bool false, .int .u64 0, .int .u64 0] 29) = w1 := hw1.symm
    rw [hw2]
    rw [← hw1] at hE0 hb0 HB
    have hc1 : b < w1.heap.size := Nat.lt_of_lt_of_le hlt hE0.size
    clear hw1 hw2
    go_cut [4] (fun v4 wx => v4 = .int .i64 (opM bs) ∧ Keep (fun _ => False) w1 wx)
    case first =>
      refine wp_region_gfacts (by kernel_rfl) 10 [some 13, some 14, some 15, some 16, some 17, some 18, some 19, some 20, some 21, some 22] rfl rfl (fun _ => False) (readR b off n c bs) (fun wq => Keep (fun _ => False) w1 wq) [] [] 60 (by kernel_rfl) (by kernel_rfl) (by kernel_rfl) (by kernel_rfl) (by kernel_rfl) (by kernel_rfl) rfl (by kernel_rfl) (by kernel_rfl) trivial trivial (Keep.refl _ _).drew ?_ ?_
      · intro x wq hR hA _
        have e9 : x 9 = .int .i64 (opM bs) := hA.2.2.2.2.2.2.2.2.2.1
        simp only [fillL, Nat.zero_add, Nat.reduceAdd, Act.put, List.setIfInBounds_toArray, List.set_cons_succ, List.set_cons_zero, List.drop_succ_cons, List.drop_zero, e9]
        clear e9 hA
        go_wp2_with fail
        go_meet
        exact ⟨rfl, hR⟩
      · refine EachOp.cons ?_ (EachOp.cons ?_ (EachOp.cons ?_ (EachOp.cons ?_ (EachOp.cons ?_ (EachOp.cons ?_ (EachOp.cons ?_ (EachOp.cons ?_ (EachOp.cons ?_ (EachOp.cons ?_ EachOp.nil)))))))))
        all_goals (refine StepG.run rfl fun r wq hR hc hf ho hk K hK => ?_)
        · have g0 : r (.tmp 0) = .slice (some ⟨b, off, none⟩) n c := ho 0 rfl
          unfold OpV; go_simp; exact hK _ _ hR (Keep.refl _ _) rfl (fun h => by simp at h)
        · have g0 : r (.tmp 13) = .slice (some ⟨b, off, none⟩) n c := hk.1
          unfold OpV; go_simp; exact hK _ _ hR (Keep.refl _ _) rfl (fun h => by simp at h)
        · have g0 : r (.tmp 14) = .pointer (some ⟨b, off + 6, none⟩) := hk.1
          have c0 : wq.cell? ⟨b, off + 6, none⟩ = some (.int .u8 (gB bs 6)) := (hR.cell (p := ⟨b, off + 6, none⟩) hc1 (fun h => h)).trans ((hE0.cell (p := ⟨b, off + 6, none⟩) hlt).trans (HC.out 6 _ (bytesV_get bs 6 (by have := Hl.out; omega))))
          unfold OpV; go_simp; exact hK _ _ hR (Keep.refl _ _) rfl (fun h => by simp at h)
        · have g0 : r (.tmp 15) = .int .u8 (gB bs 6) := hk.1
          unfold OpV; go_simp; exact hK _ _ hR (Keep.refl _ _) (by rw [W6.out]; rfl) (fun h => by simp at h)
        · have g0 : r (.tmp 16) = .int .i64 (gB bs 6) := hk.1
          unfold OpV; go_simp; exact hK _ _ hR (Keep.refl _ _) (by rw [W6s.out]; rfl) (fun h => by simp at h)
        · have g0 : r (.tmp 0) = .slice (some ⟨b, off, none⟩) n c := ho 0 rfl
          unfold OpV; go_simp; exact hK _ _ hR (Keep.refl _ _) rfl (fun h => by simp at h)
        · have g0 : r (.tmp 18) = .slice (some ⟨b, off, none⟩) n c := hk.1
          unfold OpV; go_simp; exact hK _ _ hR (Keep.refl _ _) rfl (fun h => by simp at h)
        · have g0 : r (.tmp 19) = .pointer (some ⟨b, off + 7, none⟩) := hk.1
          have c0 : wq.cell? ⟨b, off + 7, none⟩ = some (.int .u8 (gB bs 7)) := (hR.cell (p := ⟨b, off + 7, none⟩) hc1 (fun h => h)).trans ((hE0.cell (p := ⟨b, off + 7, none⟩) hlt).trans (HC.out 7 _ (bytesV_get bs 7 (by have := Hl.out; omega))))
          unfold OpV; go_simp; exact hK _ _ hR (Keep.refl _ _) rfl (fun h => by simp at h)
        · have g0 : r (.tmp 20) = .int .u8 (gB bs 7) := hk.1
          unfold OpV; go_simp; exact hK _ _ hR (Keep.refl _ _) (by rw [W7.out]; rfl) (fun h => by simp at h)
        · have g0 : r (.tmp 17) = .int .i64 (gB bs 6 * 256) := hk.1
          have g1 : r (.tmp 21) = .int .i64 (gB bs 7) := hk.2.1
          unfold OpV; go_simp; exact hK _ _ hR (Keep.refl _ _) (by rw [HO.out]; rfl) (fun h => by simp at h)
    case rest =>
      obtain ⟨rfl, hR⟩ := hcut
      obtain ⟨wo, rfl⟩ : ∃ wo : World, wo = wc := ⟨_, rfl⟩
      have hz := hb0.kept hR (fun h => h)
      have hE2 : Ext w wo := hE0.trans (hR.below (Nat.le_refl _) (fun _ h => h.elim))
      have r0 := R0.out.ext hE2
      have hs := str_n (c := c) r0
      have x14 : IsB ((bs.drop 14).take 4) := take_isB (drop_isB hB 14) 4
      have x24 : IsB ((bs.drop 24).take 4) := take_isB (drop_isB hB 24) 4
      have X14 := Lib.hid x14
      have X24 := Lib.hid x24
      have hlz := hz.lt
      have Hz := Lib.hid hz
      have hHB : Hid (strOfNums headB = ⟨#[0, 1, 8, 0, 6, 4]⟩) := rfl
      clear hE0 hb0 HB hc1 W6 W7 W6s hR r0 x14 x24 HO b6 b7 hz
      by_cases hq : bs.take 6 = headB
      · rw [hq, hHB.out] at hs
        have HT := Lib.hid hq
        clear hq hHB
        by_cases ho : opM bs = 1 ∨ opM bs = 2
        · have hcode : codeM bs = 0 := by unfold codeM; rw [if_neg (by have := Hl.out; omega), if_pos ⟨HT.out, ho⟩]
          have hdec : decM bs = rdM bs := by unfold decM; rw [if_pos hcode]
          have HC0 := Lib.hid hcode
          have HD0 := Lib.hid hdec
          clear hcode hdec HT
          obtain ⟨o, HOP⟩ : ∃ o, Hid (opM bs = o) := ⟨_, rfl⟩
          rw [HOP.out] at ho ⊢
          rcases ho with rfl | rfl
          · have r14 := R14.out.ext hE2
            have x14 := X14.out
            go_wp2_with fail
            refine (rfrom_any (some ⟨b, off + 14, none⟩) 4 (c - 14) _ _ _ x14 (Nat.le_refl _) r14 (.inl rfl)).mono ?_
            rintro e w3 ⟨rfl, hE3⟩
            have hz3 := Hz.out.below hE3 hlz
            have hE3' := hE2.trans hE3
            have Hz3 := Lib.hid hz3
            have hlz3 := hz3.lt
            clear hE3 hE2 Hz hz3 r14 x14 X14 hlz hs
            have d16 : decide ((4 : Nat) = 16) = false := rfl
            go_wp2_with fail
            obtain ⟨w4, hw4⟩ : ∃ w4, w4 = w3.alloc (.cells (adC (adAt bs 14)) 27) := ⟨_, rfl⟩
            have hw4' : w3.alloc (.cells #[.bool false, .int .u64 (fb ((bs.drop 14).take 4)).1, .int .u64 (fb ((bs.drop 14).take 4)).2] 27) = w4 := hw4.symm
            rw [hw4']
            have ha4 : Blk w4 w3.heap.size 27 (adC (adAt bs 14)) := by rw [hw4]; exact Blk.new _ _ _
            have hz4 := Hz3.out.alloc (.cells (adC (adAt bs 14)) 27)
            have hE4 := hE3'.alloc (.cells (adC (adAt bs 14)) 27)
            rw [← hw4] at hz4 hE4
            have r24 := R24.out.ext hE4
            have x24 := X24.out
            clear hw4 hw4' hE3' Hz3
            refine (rfrom_any (some ⟨b, off + 24, none⟩) 4 (c - 24) _ _ _ x24 (Nat.le_refl _) r24 (.inl rfl)).mono ?_
            rintro e w5 ⟨rfl, hE5⟩
            have ha5 := ha4.below hE5 ha4.lt
            have hz5 := hz4.below hE5 hz4.lt
            have hE5' := hE4.trans hE5
            have hl5 : w3.heap.size < w5.heap.size := ha5.lt
            have Hz5 := Lib.hid hz5
            have Ha5 := Lib.hid ha5
            clear hE4 ha4 hz4 hE5 ha5 hz5 r24 x24
            go_wp2_with fail
            obtain ⟨w6, hw6⟩ : ∃ w6, w6 = w5.alloc (.cells (adC (adAt bs 24)) 27) := ⟨_, rfl⟩
            have hw6' : w5.alloc (.cells #[.bool false, .int .u64 (fb ((bs.drop 24).take 4)).1, .int .u64 (fb ((bs.drop 24).take 4)).2] 27) = w6 := hw6.symm
            rw [hw6']
            have hb6 : Blk w6 w5.heap.size 27 (adC (adAt bs 24)) := by rw [hw6]; exact Blk.new _ _ _
            have ha6 := Ha5.out.alloc (.cells (adC (adAt bs 24)) 27)
            have hz6 := Hz5.out.alloc (.cells (adC (adAt bs 24)) 27)
            have hE6 := hE5'.alloc (.cells (adC (adAt bs 24)) 27)
            rw [← hw6] at ha6 hz6 hE6
            have hr6 := Hr.out.ext hE6
            have HR6 := Lib.hid hr6
            clear hw6 hw6' hE5' Hz5 Ha5 hr6
            refine wp_region_gfacts (by kernel_rfl) 12 [some 48, some 49, some 50, some 51, some 52, some 53, some 54, some 55, some 56, some 57, some 58, some 59] rfl rfl (fun _ => False) (endR b off n c 1 bs) (fun wq => Keep (fun _ => False) w6 wq) [] [] 60 (by kernel_rfl) (by kernel_rfl) (by kernel_rfl) (by kernel_rfl) (by kernel_rfl) (by kernel_rfl) rfl (by kernel_rfl) (by kernel_rfl) trivial trivial (Keep.refl _ _).drew ?_ ?_
            · intro x wq hR hA _
              have e11 : x 11 = arpV (rdM bs) := hA.2.2.2.2.2.2.2.2.2.2.2.1
              simp only [fillL, Nat.zero_add, Nat.reduceAdd, Act.put, List.setIfInBounds_toArray, List.set_cons_succ, List.set_cons_zero, List.drop_succ_cons, List.drop_zero, e11]
              clear e11 hA
              have hE7 : Ext w wq := hE6.trans (hR.below (Nat.le_refl _) (fun _ h => h.elim))
              have Hz7 := Lib.hid (hz6.kept hR (fun h => h))
              go_wp2_with (refine store_arp rfl (.tmp 2) (.tmp 59) rfl rfl w.heap.size (rdM bs) msg0 rfl rfl Hz7.out ?_)
              exact dec_end rfl HD0.out Hz7.out hE7 (Nat.le_refl _) rfl (by rw [HC0.out]; rfl) rfl
            · refine EachOp.cons ?_ (EachOp.cons ?_ (EachOp.cons ?_ (EachOp.cons ?_ (EachOp.cons ?_ (EachOp.cons ?_ (EachOp.cons ?_ (EachOp.cons ?_ (EachOp.cons ?_ (EachOp.cons ?_ (EachOp.cons ?_ (EachOp.cons ?_ EachOp.nil)))))))))))
              all_goals (refine StepG.run rfl fun r wq hR hc hf ho hk K hK => ?_)
              · have g0 : r (.tmp 4) = .int .i64 1 := ho 4 rfl
                unfold OpV; go_simp; exact hK _ _ hR (Keep.refl _ _) rfl (fun h => by simp at h)
              · have g0 : r (.tmp 0) = .slice (some ⟨b, off, none⟩) n c := ho 0 rfl
                unfold OpV; go_simp; exact hK _ _ hR (Keep.refl _ _) rfl (fun h => by simp at h)
              · have g0 : r (.tmp 49) = .slice (some ⟨b, off, none⟩) n c := hk.1
                unfold OpV; go_simp; exact hK _ _ hR (Keep.refl _ _) rfl (fun h => by simp at h)
              · exact opv_arrayAt (.tmp 50) rfl (hk.1 : r (.tmp 50) = .slice (some ⟨b, off + 8, none⟩) 6 (c - 8)) (hK _ _ hR (Keep.refl _ _) rfl (fun h => by simp at h))
              · exact opv_macAt (.tmp 51) rfl 8 (hk.1 : r (.tmp 51) = .pointer (some ⟨b, off + 8, none⟩)) (HR6.out.ext (hR.below (Nat.le_refl _) (fun _ h => h.elim))) (by have := Hl.out; omega) (hK _ _ hR (Keep.refl _ _) rfl (fun h => by simp at h))
              · exact opv_ad (.tmp 5) rfl w3.heap.size (adAt bs 14) (ho 5 rfl) (ha6.kept hR (fun h => h)) (hK _ _ hR (Keep.refl _ _) rfl (fun h => by simp at h))
              · have g0 : r (.tmp 0) = .slice (some ⟨b, off, none⟩) n c := ho 0 rfl
                unfold OpV; go_simp; exact hK _ _ hR (Keep.refl _ _) rfl (fun h => by simp at h)
              · have g0 : r (.tmp 54) = .slice (some ⟨b, off, none⟩) n c := hk.1
                unfold OpV; go_simp; exact hK _ _ hR (Keep.refl _ _) rfl (fun h => by simp at h)
              · exact opv_arrayAt (.tmp 55) rfl (hk.1 : r (.tmp 55) = .slice (some ⟨b, off + 18, none⟩) 6 (c - 18)) (hK _ _ hR (Keep.refl _ _) rfl (fun h => by simp at h))
              · exact opv_macAt (.tmp 56) rfl 18 (hk.1 : r (.tmp 56) = .pointer (some ⟨b, off + 18, none⟩)) (HR6.out.ext (hR.below (Nat.le_refl _) (fun _ h => h.elim))) (by have := Hl.out; omega) (hK _ _ hR (Keep.refl _ _) rfl (fun h => by simp at h))
              · exact opv_ad (.tmp 7) rfl w5.heap.size (adAt bs 24) (ho 7 rfl) (hb6.kept hR (fun h => h)) (hK _ _ hR (Keep.refl _ _) rfl (fun h => by simp at h))
              · have g0 : r (.tmp 48) = .int .i64 1 := hk.1
                have g1 : r (.tmp 52) = macV (macAt bs 8) := hk.2.1
                have g2 : r (.tmp 53) = adV (adAt bs 14) := hk.2.2.1
                have g3 : r (.tmp 57) = macV (macAt bs 18) := hk.2.2.2.1
                have g4 : r (.tmp 58) = adV (adAt bs 24) := hk.2.2.2.2.1
                unfold macV at g1 g3
                unfold adV at g2 g4
                unfold OpV; go_simp; exact hK _ _ hR (Keep.refl _ _) (show arpV ⟨1, macAt bs 8, adAt bs 14, macAt bs 18, adAt bs 24⟩ = arpV (rdM bs) by unfold rdM; rw [HOP.out]) (fun h => by simp at h)
          · have r14 := R14.out.ext hE2
            have x14 := X14.out
            go_wp2_with fail
            refine (rfrom_any (some ⟨b, off + 14, none⟩) 4 (c - 14) _ _ _ x14 (Nat.le_refl _) r14 (.inl rfl)).mono ?_
            rintro e w3 ⟨rfl, hE3⟩
            have hz3 := Hz.out.below hE3 hlz
            have hE3' := hE2.trans hE3
            have Hz3 := Lib.hid hz3
            have hlz3 := hz3.lt
            clear hE3 hE2 Hz hz3 r14 x14 X14 hlz hs
            have d16 : decide ((4 : Nat) = 16) = false := rfl
            go_wp2_with fail
            obtain ⟨w4, hw4⟩ : ∃ w4, w4 = w3.alloc (.cells (adC (adAt bs 14)) 27) := ⟨_, rfl⟩
            have hw4' : w3.alloc (.cells #[.bool false, .int .u64 (fb ((bs.drop 14).take 4)).1, .int .u64 (fb ((bs.drop 14).take 4)).2] 27) = w4 := hw4.symm
            rw [hw4']
            have ha4 : Blk w4 w3.heap.size 27 (adC (adAt bs 14)) := by rw [hw4]; exact Blk.new _ _ _
            have hz4 := Hz3.out.alloc (.cells (adC (adAt bs 14)) 27)
            have hE4 := hE3'.alloc (.cells (adC (adAt bs 14)) 27)
            rw [← hw4] at hz4 hE4
            have r24 := R24.out.ext hE4
            have x24 := X24.out
            clear hw4 hw4' hE3' Hz3
            refine (rfrom_any (some ⟨b, off + 24, none⟩) 4 (c - 24) _ _ _ x24 (Nat.le_refl _) r24 (.inl rfl)).mono ?_
            rintro e w5 ⟨rfl, hE5⟩
            have ha5 := ha4.below hE5 ha4.lt
            have hz5 := hz4.below hE5 hz4.lt
            have hE5' := hE4.trans hE5
            have hl5 : w3.heap.size < w5.heap.size := ha5.lt
            have Hz5 := Lib.hid hz5
            have Ha5 := Lib.hid ha5
            clear hE4 ha4 hz4 hE5 ha5 hz5 r24 x24
            go_wp2_with fail
            obtain ⟨w6, hw6⟩ : ∃ w6, w6 = w5.alloc (.cells (adC (adAt bs 24)) 27) := ⟨_, rfl⟩
            have hw6' : w5.alloc (.cells #[.bool false, .int .u64 (fb ((bs.drop 24).take 4)).1, .int .u64 (fb ((bs.drop 24).take 4)).2] 27) = w6 := hw6.symm
            rw [hw6']
            have hb6 : Blk w6 w5.heap.size 27 (adC (adAt bs 24)) := by rw [hw6]; exact Blk.new _ _ _
            have ha6 := Ha5.out.alloc (.cells (adC (adAt bs 24)) 27)
            have hz6 := Hz5.out.alloc (.cells (adC (adAt bs 24)) 27)
            have hE6 := hE5'.alloc (.cells (adC (adAt bs 24)) 27)
            rw [← hw6] at ha6 hz6 hE6
            have hr6 := Hr.out.ext hE6
            have HR6 := Lib.hid hr6
            clear hw6 hw6' hE5' Hz5 Ha5 hr6
            refine wp_region_gfacts (by kernel_rfl) 12 [some 48, some 49, some 50, some 51, some 52, some 53, some 54, some 55, some 56, some 57, some 58, some 59] rfl rfl (fun _ => False) (endR b off n c 2 bs) (fun wq => Keep (fun _ => False) w6 wq) [] [] 60 (by kernel_rfl) (by kernel_rfl) (by kernel_rfl) (by kernel_rfl) (by kernel_rfl) (by kernel_rfl) rfl (by kernel_rfl) (by kernel_rfl) trivial trivial (Keep.refl _ _).drew ?_ ?_
            · intro x wq hR hA _
              have e11 : x 11 = arpV (rdM bs) := hA.2.2.2.2.2.2.2.2.2.2.2.1
              simp only [fillL, Nat.zero_add, Nat.reduceAdd, Act.put, List.setIfInBounds_toArray, List.set_cons_succ, List.set_cons_zero, List.drop_succ_cons, List.drop_zero, e11]
              clear e11 hA
              have hE7 : Ext w wq := hE6.trans (hR.below (Nat.le_refl _) (fun _ h => h.elim))
              have Hz7 := Lib.hid (hz6.kept hR (fun h => h))
              go_wp2_with (refine store_arp rfl (.tmp 2) (.tmp 59) rfl rfl w.heap.size (rdM bs) msg0 rfl rfl Hz7.out ?_)
              exact dec_end rfl HD0.out Hz7.out hE7 (Nat.le_refl _) rfl (by rw [HC0.out]; rfl) rfl
            · refine EachOp.cons ?_ (EachOp.cons ?_ (EachOp.cons ?_ (EachOp.cons ?_ (EachOp.cons ?_ (EachOp.cons ?_ (EachOp.cons ?_ (EachOp.cons ?_ (EachOp.cons ?_ (EachOp.cons ?_ (EachOp.cons ?_ (EachOp.cons ?_ EachOp.nil)))))))))))
              all_goals (refine StepG.run rfl fun r wq hR hc hf ho hk K hK => ?_)
              · have g0 : r (.tmp 4) = .int .i64 2 := ho 4 rfl
                unfold OpV; go_simp; exact hK _ _ hR (Keep.refl _ _) rfl (fun h => by simp at h)
              · have g0 : r (.tmp 0) = .slice (some ⟨b, off, none⟩) n c := ho 0 rfl
                unfold OpV; go_simp; exact hK _ _ hR (Keep.refl _ _) rfl (fun h => by simp at h)
              · have g0 : r (.tmp 49) = .slice (some ⟨b, off, none⟩) n c := hk.1
                unfold OpV; go_simp; exact hK _ _ hR (Keep.refl _ _) rfl (fun h => by simp at h)
              · exact opv_arrayAt (.tmp 50) rfl (hk.1 : r (.tmp 50) = .slice (some ⟨b, off + 8, none⟩) 6 (c - 8)) (hK _ _ hR (Keep.refl _ _) rfl (fun h => by simp at h))
              · exact opv_macAt (.tmp 51) rfl 8 (hk.1 : r (.tmp 51) = .pointer (some ⟨b, off + 8, none⟩)) (HR6.out.ext (hR.below (Nat.le_refl _) (fun _ h => h.elim))) (by have := Hl.out; omega) (hK _ _ hR (Keep.refl _ _) rfl (fun h => by simp at h))
              · exact opv_ad (.tmp 5) rfl w3.heap.size (adAt bs 14) (ho 5 rfl) (ha6.kept hR (fun h => h)) (hK _ _ hR (Keep.refl _ _) rfl (fun h => by simp at h))
              · have g0 : r (.tmp 0) = .slice (some ⟨b, off, none⟩) n c := ho 0 rfl
                unfold OpV; go_simp; exact hK _ _ hR (Keep.refl _ _) rfl (fun h => by simp at h)
              · have g0 : r (.tmp 54) = .slice (some ⟨b, off, none⟩) n c := hk.1
                unfold OpV; go_simp; exact hK _ _ hR (Keep.refl _ _) rfl (fun h => by simp at h)
              · exact opv_arrayAt (.tmp 55) rfl (hk.1 : r (.tmp 55) = .slice (some ⟨b, off + 18, none⟩) 6 (c - 18)) (hK _ _ hR (Keep.refl _ _) rfl (fun h => by simp at h))
              · exact opv_macAt (.tmp 56) rfl 18 (hk.1 : r (.tmp 56) = .pointer (some ⟨b, off + 18, none⟩)) (HR6.out.ext (hR.below (Nat.le_refl _) (fun _ h => h.elim))) (by have := Hl.out; omega) (hK _ _ hR (Keep.refl _ _) rfl (fun h => by simp at h))
              · exact opv_ad (.tmp 7) rfl w5.heap.size (adAt bs 24) (ho 7 rfl) (hb6.kept hR (fun h => h)) (hK _ _ hR (Keep.refl _ _) rfl (fun h => by simp at h))
              · have g0 : r (.tmp 48) = .int .i64 2 := hk.1
                have g1 : r (.tmp 52) = macV (macAt bs 8) := hk.2.1
                have g2 : r (.tmp 53) = adV (adAt bs 14) := hk.2.2.1
                have g3 : r (.tmp 57) = macV (macAt bs 18) := hk.2.2.2.1
                have g4 : r (.tmp 58) = adV (adAt bs 24) := hk.2.2.2.2.1
                unfold macV at g1 g3
                unfold adV at g2 g4
                unfold OpV; go_simp; exact hK _ _ hR (Keep.refl _ _) (show arpV ⟨2, macAt bs 8, adAt bs 14, macAt bs 18, adAt bs 24⟩ = arpV (rdM bs) by unfold rdM; rw [HOP.out]) (fun h => by simp at h)
        · have hcode : codeM bs = 5 := by unfold codeM; rw [if_neg (by have := Hl.out; omega), if_neg (fun h => ho h.2)]
          have hdec : decM bs = msg0 := by unfold decM; rw [hcode]; rfl
          have HC0 := Lib.hid hcode
          have HD0 := Lib.hid hdec
          have o1 : (opM bs != 1) = true := by simpa using fun e => ho (.inl e)
          have o2 : (opM bs != 2) = true := by simpa using fun e => ho (.inr e)
          clear hcode hdec ho HT
          go_wp2_with (refine store_arp rfl (.tmp 2) (.tmp 35) rfl rfl w.heap.size msg0 msg0 rfl rfl Hz.out ?_)
          refine dec_end rfl HD0.out Hz.out hE2 (Nat.le_refl _) rfl ?_ rfl
          rw [HC0.out]
          rfl
      · have hcode : codeM bs = 5 := by unfold codeM; rw [if_neg (by have := Hl.out; omega), if_neg (fun h => hq h.1)]
        have hdec : decM bs = msg0 := by unfold decM; rw [hcode]; rfl
        have hne : ¬ (strOfNums (bs.take 6)).toList = [0, 1, 8, 0, 6, 4] := by
          rw [Lib.strOfNums_toList]
          exact fun e => hq (toU_inj (take_isB hB 6) headB_isB e)
        have HC0 := Lib.hid hcode
        have HD0 := Lib.hid hdec
        generalize strOfNums (bs.take 6) = S at *
        clear hcode hdec hq hHB
        go_wp2_with (refine store_arp rfl (.tmp 2) (.tmp 35) rfl rfl w.heap.size msg0 msg0 rfl rfl Hz.out ?_)
        refine dec_end rfl HD0.out Hz.out hE2 (Nat.le_refl _) rfl ?_ rfl
        rw [HC0.out]
        rfl
end Go.Proofs.YtopkbpigaengeaaDoor
