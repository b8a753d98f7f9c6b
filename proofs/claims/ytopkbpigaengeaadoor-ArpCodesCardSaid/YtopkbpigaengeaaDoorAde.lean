/-
  A message, read by the program: the walk.
-/
import Derived.Test.YtopkbpigaengeaaDoorAd
namespace Go.Proofs.YtopkbpigaengeaaDoor
open Go.RowKit

def readF (b off n c r0 : Nat) (bs : List Int) : List (Fact (fun _ => False)) :=
  [.is (.slice (some ⟨b, off, none⟩) n c), .is (.pointer (some ⟨b, off + 6, none⟩)), .is (.int .u8 (gB bs 6)), .is (.int .i64 (gB bs 6)), .is (.int .i64 (gB bs 6 * 256)),
   .is (.slice (some ⟨b, off, none⟩) n c), .is (.pointer (some ⟨b, off + 7, none⟩)), .is (.int .u8 (gB bs 7)), .is (.int .i64 (gB bs 7)), .is (.int .i64 (opM bs)),
   .is (.slice (some ⟨b, off, none⟩) n c), .is (.slice (some ⟨b, off + 8, none⟩) 6 (c - 8)), .is (.pointer (some ⟨b, off + 8, none⟩)), .is (macV (macAt bs 8)),
   .is (.slice (some ⟨b, off, none⟩) n c), .is (.slice (some ⟨b, off + 18, none⟩) 6 (c - 18)), .is (.pointer (some ⟨b, off + 18, none⟩)), .is (macV (macAt bs 18)),
   .is (arpV ⟨opM bs, macAt bs 8, ad0, macAt bs 18, ad0⟩), .blk r0 29 (arpC msg0)]
/-- the facts of the region that looks at the head -/
def lookF (b off n c : Nat) (q : Bool) (m : Msg) : List (Fact (fun _ => False)) :=
  [.is (.slice (some ⟨b, off, none⟩) n c), .is (.slice (some ⟨b, off, none⟩) 6 c), .is (.slice (some ⟨0, 0, none⟩) 6 6), .is (.bool q), .is (.bool !q), .is (.bool !q)] ++
  (if q then [.is (arpV m), .is (.bool (validM m)), .is (.bool !validM m), .is (.bool !validM m)] else [.any, .any, .any, .is (.bool true)])

def DecPost (bs : List Int) (w : World) (e : Ending) (w' : World) : Prop := e = .returned (.tuple #[arpV (decM bs), .int .i64 (codeM bs)]) ∧ Ext w w'
theorem dec_end {bs : List Int} {w w1 : World} {k : Nat} {m m0 : Msg} {a : Act} {fn : Func} (h : fn.results = #[.cell 2 29, .tmp 3]) (hm : decM bs = m) (hb : Blk w1 k 29 (arpC m0)) (hE : Ext w w1) (hk : w.heap.size ≤ k)
    (hs : a.tmps.getD 2 undef = .pointer (some ⟨k, 0, none⟩)) (hs3 : a.tmps.getD 3 undef = .int .i64 (codeM bs)) (hd : a.defers = []) :
    bodyPost Tryd.prog fn (DecPost bs w) .ret a (w1.setRow k (arpC m)) :=
  bodyPost_ret (results_arp2 h hs hs3 (Blk.setRow hb (arpC m))) hd ⟨by rw [hm], Ext.keep hE (keep_setRow (X := (· = k)) rfl _) hk⟩

set_option maxRecDepth 100000 in
set_option maxHeartbeats 4000000 in
theorem adec_any (A : Option Addr) (c : Nat) (bs : List Int) (w : World) (hB : IsB bs) (hr : Reads w w.heap.size 1 A bs.length (bytesV bs)) (hc : bs.length ≤ c) (hh : HeadAt w) :
    Calls Tryd.prog 22 #[.slice A bs.length c] w (DecPost bs w) := by
  have hb0 : Blk (w.alloc (.cells (arpC msg0) 29)) w.heap.size 29 (arpC msg0) := Blk.new _ _ _
  have hE0 : Ext w (w.alloc (.cells (arpC msg0) 29)) := (Ext.refl w).alloc _
  obtain ⟨n, Hl⟩ : ∃ n, Hid (bs.length = n) := ⟨_, rfl⟩
  have hl : bs.length = n := Hl.out
  rw [hl] at hr hc ⊢
  have HB := Lib.hid hb0
  rcases Nat.lt_or_ge n 28 with h | h
  · have hcode : codeM bs = 4 := by unfold codeM; rw [if_pos (by omega)]
    have hdec : decM bs = msg0 := by unfold decM; rw [hcode]; rfl
    have h1 : ((n : Int) < 28) := by omega
    have HC := Lib.hid hcode
    have HD := Lib.hid hdec
    clear hcode hdec hl hb0 h
    go_enter Tryd.func22, Tryd.ntmps22
    go_wp2_with (refine store_arp rfl (.tmp 2) (.tmp 8) rfl rfl w.heap.size msg0 msg0 rfl rfl HB.out ?_)
    exact dec_end rfl HD.out HB.out hE0 (Nat.le_refl _) rfl (by rw [HC.out]; rfl) rfl
  · have h1 : ¬ ((n : Int) < 28) := by omega
    obtain ⟨b, off, rfl, hbw, hcell⟩ := hr.2 (by omega)
    have c6 := hcell 6 _ (bytesV_get bs 6 (by omega))
    have c7 := hcell 7 _ (bytesV_get bs 7 (by omega))
    have b6 := hB.at 6
    have b7 := hB.at 7
    have hop : bits .or .i64 (gB bs 6 * 256) (gB bs 7) = opM bs := or_bytes b6 b7
    have q8 := mac_range hr (k := 8) (by omega)
    have q18 := mac_range hr (k := 18) (by omega)
    have r14 := hr.part (k := 14) (m := 4) (by omega) (by omega)
    have r24 := hr.part (k := 24) (m := 4) (by omega) (by omega)
    have r0 := hr.take (k := 6) (by omega)
    have i6 : (6 : Int) < (n : Int) := by omega
    have i7 : (7 : Int) < (n : Int) := by omega
    have i14 : (14 : Int) ≤ (c : Int) := by omega
    have i18 : (18 : Int) ≤ (c : Int) := by omega
    have i24 : (24 : Int) ≤ (c : Int) := by omega
    have i28 : (28 : Int) ≤ (c : Int) := by omega
    have i60 : (6 : Int) ≤ (c : Int) := by omega
    have n8 : ¬ c = 8 := by omega
    have n14 : ¬ c = 14 := by omega
    have n18 : ¬ c = 18 := by omega
    have n24 : ¬ c = 24 := by omega
    have hlt : b < w.heap.size := hbw
    have Hh := Lib.hid hh
    have Hr := Lib.hid hr
    have HO := Lib.hid hop
    have Q8 := Lib.hid q8
    have Q18 := Lib.hid q18
    have R14 := Lib.hid r14
    have R24 := Lib.hid r24
    have R0 := Lib.hid r0
    have HC := Lib.hid hcell
    have W6 : Hid (IntKind.i64.wrap (gB bs 6) = gB bs 6) := IntWalk.i64_in _ (by omega)
    have W7 : Hid (IntKind.i64.wrap (gB bs 7) = gB bs 7) := IntWalk.i64_in _ (by omega)
    have W6s : Hid (IntKind.i64.wrap (gB bs 6 * 256) = gB bs 6 * 256) := IntWalk.i64_in _ (by omega)
    clear hop q8 q18 r14 r24 r0 hcell hr hh hl h hc
    go_enter Tryd.func22, Tryd.ntmps22
    go_wp2_with fail
    obtain ⟨w1, hw1⟩ : ∃ w1, w1 = w.alloc (.cells (arpC msg0) 29) := ⟨_, rfl⟩
    have hw2 : w.alloc (.cells #[.int .i64 0, .int .u8 0, .int .u8 0, .int .u8 0, .int .u8 0, .int .u8 0, .int .u8 0, .bool false, .int .u64 0, .int .u64 0, .int .u8 0, .int .u8 0, .int .u8 0, .int .u8 0, .int .u8 0, .int .u8 0, .bool false, .int .u64 0, .int .u64 0] 29) = w1 := hw1.symm
    rw [hw2]
    rw [← hw1] at hE0 hb0 HB
    have hr1 : Reads w1 w1.heap.size 1 (some ⟨b, off, none⟩) n (bytesV bs) := Hr.out.ext hE0
    have HR1 := Lib.hid hr1
    have hc1 : b < w1.heap.size := Nat.lt_of_lt_of_le hlt hE0.size
    have hk1 : w.heap.size < w1.heap.size := hb0.lt
    clear hr1 hw1 hw2 c6 c7
    go_cut [4] (fun v4 wx => ∃ k, v4 = .pointer (some ⟨k, 0, none⟩) ∧ w.heap.size < k ∧ Blk wx k 29 (arpC ⟨opM bs, macAt bs 8, ad0, macAt bs 18, ad0⟩) ∧ Blk wx w.heap.size 29 (arpC msg0) ∧ Ext w wx)
    case first =>
      refine wp_region_gfacts (by kernel_rfl) 20 [some 9, some 10, some 11, some 12, some 13, some 14, some 15, some 16, some 17, some 18, some 19, some 20, some 21, some 22, some 23, some 24, some 25, some 26, some 27, some 4] rfl rfl (fun _ => False) (readF b off n c w1.heap.size bs) (fun wq => Keep (fun _ => False) w1 wq) [19] [] 54 (by kernel_rfl) (by kernel_rfl) (by kernel_rfl) (by kernel_rfl) (by kernel_rfl) (by kernel_rfl) rfl (by kernel_rfl) (by kernel_rfl) trivial ⟨⟨_, _, _, rfl⟩, trivial⟩ (Keep.refl _ _).drew ?_ ?_
      · intro x wq hR hA _
        have e18 : x 18 = arpV ⟨opM bs, macAt bs 8, ad0, macAt bs 18, ad0⟩ := hA.2.2.2.2.2.2.2.2.2.2.2.2.2.2.2.2.2.2.1
        obtain ⟨k, e19, -, hbk, hlk⟩ := hA.2.2.2.2.2.2.2.2.2.2.2.2.2.2.2.2.2.2.2.1
        simp only [Nat.zero_add, Nat.reduceAdd] at e19
        simp only [fillL, Nat.zero_add, Nat.reduceAdd, Act.put, List.setIfInBounds_toArray, List.set_cons_succ, List.set_cons_zero, List.drop_succ_cons, List.drop_zero, e18, e19]
        clear e18 e19 hA
        have HBk := Lib.hid hbk
        have hEq : Ext w wq := hE0.trans (hR.below (Nat.le_refl _) (fun _ h => h.elim))
        have hb2 := hb0.kept hR (fun h => h)
        go_wp2_with (refine store_arp rfl (.tmp 4) (.tmp 27) rfl rfl k ⟨opM bs, macAt bs 8, ad0, macAt bs 18, ad0⟩ msg0 rfl rfl HBk.out ?_)
        go_meet
        exact ⟨k, rfl, by omega, hbk.setRow _, hb2.kept (keep_setRow (X := (· = k)) rfl _) (by omega), Ext.keep hEq (keep_setRow (X := (· = k)) rfl _) (by omega)⟩
      · refine EachOp.cons ?_ (EachOp.cons ?_ (EachOp.cons ?_ (EachOp.cons ?_ (EachOp.cons ?_ (EachOp.cons ?_ (EachOp.cons ?_ (EachOp.cons ?_ (EachOp.cons ?_ (EachOp.cons ?_ (EachOp.cons ?_ (EachOp.cons ?_ (EachOp.cons ?_ (EachOp.cons ?_ (EachOp.cons ?_ (EachOp.cons ?_ (EachOp.cons ?_ (EachOp.cons ?_ (EachOp.cons ?_ (EachOp.cons ?_ EachOp.nil)))))))))))))))))))
        all_goals (refine StepG.run rfl fun r wq hR hc hf ho hk K hK => ?_)
        · have g0 : r (.tmp 0) = .slice (some ⟨b, off, none⟩) n c := ho 0 rfl
          unfold OpV; go_simp; exact hK _ _ hR (Keep.refl _ _) rfl (fun h => by simp at h)
        · have g0 : r (.tmp 9) = .slice (some ⟨b, off, none⟩) n c := hk.1
          unfold OpV; go_simp; exact hK _ _ hR (Keep.refl _ _) rfl (fun h => by simp at h)
        · have g0 : r (.tmp 10) = .pointer (some ⟨b, off + 6, none⟩) := hk.1
          have c0 : wq.cell? ⟨b, off + 6, none⟩ = some (.int .u8 (gB bs 6)) := (hR.cell (p := ⟨b, off + 6, none⟩) hc1 (fun h => h)).trans ((hE0.cell (p := ⟨b, off + 6, none⟩) hlt).trans (HC.out 6 _ (bytesV_get bs 6 (by have := Hl.out; omega))))
          unfold OpV; go_simp; exact hK _ _ hR (Keep.refl _ _) rfl (fun h => by simp at h)
        · have g0 : r (.tmp 11) = .int .u8 (gB bs 6) := hk.1
          unfold OpV; go_simp; exact hK _ _ hR (Keep.refl _ _) (by rw [W6.out]; rfl) (fun h => by simp at h)
        · have g0 : r (.tmp 12) = .int .i64 (gB bs 6) := hk.1
          unfold OpV; go_simp; exact hK _ _ hR (Keep.refl _ _) (by rw [W6s.out]; rfl) (fun h => by simp at h)
        · have g0 : r (.tmp 0) = .slice (some ⟨b, off, none⟩) n c := ho 0 rfl
          unfold OpV; go_simp; exact hK _ _ hR (Keep.refl _ _) rfl (fun h => by simp at h)
        · have g0 : r (.tmp 14) = .slice (some ⟨b, off, none⟩) n c := hk.1
          unfold OpV; go_simp; exact hK _ _ hR (Keep.refl _ _) rfl (fun h => by simp at h)
        · have g0 : r (.tmp 15) = .pointer (some ⟨b, off + 7, none⟩) := hk.1
          have c0 : wq.cell? ⟨b, off + 7, none⟩ = some (.int .u8 (gB bs 7)) := (hR.cell (p := ⟨b, off + 7, none⟩) hc1 (fun h => h)).trans ((hE0.cell (p := ⟨b, off + 7, none⟩) hlt).trans (HC.out 7 _ (bytesV_get bs 7 (by have := Hl.out; omega))))
          unfold OpV; go_simp; exact hK _ _ hR (Keep.refl _ _) rfl (fun h => by simp at h)
        · have g0 : r (.tmp 16) = .int .u8 (gB bs 7) := hk.1
          unfold OpV; go_simp; exact hK _ _ hR (Keep.refl _ _) (by rw [W7.out]; rfl) (fun h => by simp at h)
        · have g0 : r (.tmp 13) = .int .i64 (gB bs 6 * 256) := hk.1
          have g1 : r (.tmp 17) = .int .i64 (gB bs 7) := hk.2.1
          unfold OpV; go_simp; exact hK _ _ hR (Keep.refl _ _) (by rw [HO.out]; rfl) (fun h => by simp at h)
        · have g0 : r (.tmp 0) = .slice (some ⟨b, off, none⟩) n c := ho 0 rfl
          unfold OpV; go_simp; exact hK _ _ hR (Keep.refl _ _) rfl (fun h => by simp at h)
        · have g0 : r (.tmp 19) = .slice (some ⟨b, off, none⟩) n c := hk.1
          unfold OpV; go_simp; exact hK _ _ hR (Keep.refl _ _) rfl (fun h => by simp at h)
        · exact opv_arrayAt (.tmp 20) rfl (hk.1 : r (.tmp 20) = .slice (some ⟨b, off + 8, none⟩) 6 (c - 8)) (hK _ _ hR (Keep.refl _ _) rfl (fun h => by simp at h))
        · exact opv_macAt (.tmp 21) rfl 8 (hk.1 : r (.tmp 21) = .pointer (some ⟨b, off + 8, none⟩)) (HR1.out.ext (hR.below (Nat.le_refl _) (fun _ h => h.elim))) (by have := Hl.out; omega) (hK _ _ hR (Keep.refl _ _) rfl (fun h => by simp at h))
        · have g0 : r (.tmp 0) = .slice (some ⟨b, off, none⟩) n c := ho 0 rfl
          unfold OpV; go_simp; exact hK _ _ hR (Keep.refl _ _) rfl (fun h => by simp at h)
        · have g0 : r (.tmp 23) = .slice (some ⟨b, off, none⟩) n c := hk.1
          unfold OpV; go_simp; exact hK _ _ hR (Keep.refl _ _) rfl (fun h => by simp at h)
        · exact opv_arrayAt (.tmp 24) rfl (hk.1 : r (.tmp 24) = .slice (some ⟨b, off + 18, none⟩) 6 (c - 18)) (hK _ _ hR (Keep.refl _ _) rfl (fun h => by simp at h))
        · exact opv_macAt (.tmp 25) rfl 18 (hk.1 : r (.tmp 25) = .pointer (some ⟨b, off + 18, none⟩)) (HR1.out.ext (hR.below (Nat.le_refl _) (fun _ h => h.elim))) (by have := Hl.out; omega) (hK _ _ hR (Keep.refl _ _) rfl (fun h => by simp at h))
        · have g0 : r (.tmp 18) = .int .i64 (opM bs) := hk.1
          have g1 : r (.tmp 22) = macV (macAt bs 8) := hk.2.1
          have g2 : r (.tmp 26) = macV (macAt bs 18) := hk.2.2.1
          unfold macV at g1 g2
          unfold OpV; go_simp; exact hK _ _ hR (Keep.refl _ _) rfl (fun h => by simp at h)
        · unfold OpV; go_simp
          exact hK _ _ (hR.alloc _) ((Keep.refl _ _).alloc _) ⟨wq.heap.size, rfl, (fun h => h), Blk.new _ _ _, hR.size⟩ (fun _ => ⟨wq.heap.size, 0, rfl, Nat.le_refl _⟩)
    case rest =>
      obtain ⟨k, rfl, hkk, hbk, hb2, hE2⟩ := hcut
      obtain ⟨wo, rfl⟩ : ∃ wo : World, wo = wc := ⟨_, rfl⟩
      have x14 : IsB ((bs.drop 14).take 4) := take_isB (drop_isB hB 14) 4
      have x24 : IsB ((bs.drop 24).take 4) := take_isB (drop_isB hB 24) 4
      have r14 := R14.out.ext hE2
      have X24 := Lib.hid x24
      clear x24 hE0 hb0 HB HR1 hc1 hk1 W6 W7 W6s
      go_wp2_with fail
      refine (afrom_any (some ⟨b, off + 14, none⟩) 4 (c - 14) _ _ _ x14 (Nat.le_refl _) r14 (.inl rfl)).mono ?_
      rintro e w3 ⟨rfl, hE3⟩
      have hbk3 := hbk.below hE3 hbk.lt
      have hb3 := hb2.below hE3 hb2.lt
      have hE3' := hE2.trans hE3
      obtain ⟨-, -, -, -, -, -, -, a7, a8, a9, -, -, -, -, -, -, -, -, -, af⟩ := arp_cells hbk3
      have hset := arp_set7 hbk3 (adAt bs 14)
      have hlk := hbk3.lt
      have HS := Lib.hid hset
      have HB3 := Lib.hid hbk3
      clear hset hbk hb2 hE2 hE3 x14 r14 hbk3
      have d16 : decide ((4 : Nat) = 16) = false := rfl
      go_wp2_with fail
      obtain ⟨w4, hw4⟩ : ∃ w4, w4 = ((w3.setCell ⟨k, 7, none⟩ (.bool false)).setCell ⟨k, 8, none⟩ (.int .u64 (fb ((bs.drop 14).take 4)).1)).setCell ⟨k, 9, none⟩ (.int .u64 (fb ((bs.drop 14).take 4)).2) := ⟨_, rfl⟩
      have hb4 : Blk w4 k 29 (arpC ⟨opM bs, macAt bs 8, adAt bs 14, macAt bs 18, ad0⟩) := by rw [hw4]; exact HS.out.1
      have hK4 : Keep (· = k) w3 w4 := by rw [hw4]; exact HS.out.2
      rw [← hw4]
      have hE4 : Ext w w4 := Ext.keep hE3' hK4 (by omega)
      have hz4 := hb3.kept hK4 (by omega)
      have r24 := R24.out.ext hE4
      have x24 := X24.out
      clear hw4 HS HB3 a7 a8 a9 af hK4 hb3 hE3' hlk
      refine (afrom_any (some ⟨b, off + 24, none⟩) 4 (c - 24) _ _ _ x24 (Nat.le_refl _) r24 (.inl rfl)).mono ?_
      rintro e w5 ⟨rfl, hE5⟩
      have hbk5 := hb4.below hE5 hb4.lt
      have hb5 := hz4.below hE5 hz4.lt
      have hE5' := hE4.trans hE5
      obtain ⟨-, -, -, -, -, -, -, -, -, -, -, -, -, -, -, -, a16, a17, a18, af⟩ := arp_cells hbk5
      have hset := arp_set16 hbk5 (adAt bs 24)
      have hlk := hbk5.lt
      have HS := Lib.hid hset
      clear hset hb4 hz4 hE4 hE5 x24 r24 hbk5
      go_wp2_with fail
      obtain ⟨w6, hw6⟩ : ∃ w6, w6 = ((w5.setCell ⟨k, 16, none⟩ (.bool false)).setCell ⟨k, 17, none⟩ (.int .u64 (fb ((bs.drop 24).take 4)).1)).setCell ⟨k, 18, none⟩ (.int .u64 (fb ((bs.drop 24).take 4)).2) := ⟨_, rfl⟩
      have hb6 : Blk w6 k 29 (arpC (rdM bs)) := by rw [hw6]; exact HS.out.1
      have hK6 : Keep (· = k) w5 w6 := by rw [hw6]; exact HS.out.2
      rw [← hw6]
      have hE6 : Ext w w6 := Ext.keep hE5' hK6 (by omega)
      have hz6 := hb5.kept hK6 (by omega)
      clear hw6 HS a16 a17 a18 af hK6 hb5 hE5' hlk
      have r0 := R0.out.ext hE6
      have hh6 := Hh.out.ext hE6
      have hl6 := hb6.lt
      have hl60 := hE6.size
      have hvm : validM (rdM bs) = (opM bs == 1 || opM bs == 2) := validM_rd hB (by have := Hl.out; omega)
      have HV := Lib.hid hvm
      have R06 := Lib.hid r0
      have HH6 := Lib.hid hh6
      have hq0 : ∀ wq, Keep (fun _ => False) w6 wq → Calls Tryd.prog 32 #[.slice (some ⟨b, off, none⟩) 6 c, .slice (some ⟨0, 0, none⟩) 6 6] wq fun e w' => e = .returned (.bool (decide (bs.take 6 = headB))) ∧ w' = wq := by
        intro wq hR
        have hE := hR.below (Nat.le_refl _) (fun _ h => h.elim)
        have := Tryd.bytes_Equal (.slice (some ⟨b, off, none⟩) 6 c) (.slice (some ⟨0, 0, none⟩) 6 6) (bs.take 6) headB wq (str_n (c := c) (R06.out.ext hE)) (str_n (c := 6) (HH6.out.ext hE))
        rw [eq_bytes (take_isB hB 6) headB_isB] at this
        exact this
      have HQ := Lib.hid hq0
      clear hvm r0 hh6 hq0
      by_cases hq : bs.take 6 = headB
      · have hqd : decide (bs.take 6 = headB) = true := by simp [hq]
        rw [hqd] at HQ
        have HT := Lib.hid hq
        clear hq hqd
        go_cut [51] (fun v51 wx => v51 = .bool (!validM (rdM bs)) ∧ Keep (fun _ => False) w6 wx)
        case first =>
          refine wp_region_gfacts (by kernel_rfl) 10 [some 42, some 43, some 44, some 45, some 46, some 47, some 48, some 49, some 50, some 51] rfl rfl (fun _ => False) (lookF b off n c true (rdM bs)) (fun wq => Keep (fun _ => False) w6 wq) [] [none, none, none, none, none, some false] 54 (by kernel_rfl) (by kernel_rfl) (by kernel_rfl) (by kernel_rfl) (by kernel_rfl) (by kernel_rfl) rfl (by kernel_rfl) (by kernel_rfl) ⟨rfl, trivial⟩ trivial (Keep.refl _ _).drew ?_ ?_
          · intro x wq hR hA _
            have e9 : x 9 = .bool (!validM (rdM bs)) := hA.2.2.2.2.2.2.2.2.2.1
            simp only [fillL, Nat.zero_add, Nat.reduceAdd, Act.put, List.setIfInBounds_toArray, List.set_cons_succ, List.set_cons_zero, List.drop_succ_cons, List.drop_zero, e9]
            clear e9 hA
            go_wp2_with fail
            go_meet
            exact ⟨rfl, hR⟩
          · refine EachOp.cons ?_ (EachOp.cons ?_ (EachOp.cons ?_ (EachOp.cons ?_ (EachOp.cons ?_ (EachOp.cons ?_ (EachOp.cons ?_ (EachOp.cons ?_ (EachOp.cons ?_ (EachOp.cons ?_ EachOp.nil)))))))))
            all_goals (refine StepG.run rfl fun r wq hR hc hf ho hk K hK => ?_)
            · have g0 : r (.tmp 0) = .slice (some ⟨b, off, none⟩) n c := ho 0 rfl
              unfold OpV; go_simp; exact hK _ _ hR (Keep.refl _ _) rfl (fun h => by simp at h)
            · have g0 : r (.tmp 42) = .slice (some ⟨b, off, none⟩) n c := hk.1
              unfold OpV; go_simp; exact hK _ _ hR (Keep.refl _ _) rfl (fun h => by simp at h)
            · have g0 := hf.2 0
              unfold OpV; go_simp; exact hK _ _ hR (Keep.refl _ _) rfl (fun h => by simp at h)
            · have g0 : r (.tmp 43) = .slice (some ⟨b, off, none⟩) 6 c := hk.1
              have g1 : r (.tmp 44) = .slice (some ⟨0, 0, none⟩) 6 6 := hk.2.1
              unfold OpV; go_simp
              refine (HQ.out wq hR).mono ?_
              rintro e w2 ⟨rfl, rfl⟩
              exact ⟨_, rfl, hK _ _ hR (Keep.refl _ _) rfl (fun h => by simp at h)⟩
            · have g0 : r (.tmp 45) = .bool true := hk.1
              unfold OpV; go_simp; exact hK _ _ hR (Keep.refl _ _) rfl (fun h => by simp at h)
            · have g0 : r (.tmp 46) = .bool (!true) := hk.1
              unfold OpV; go_simp; exact hK _ _ hR (Keep.refl _ _) rfl (fun h => by simp at h)
            · exact opv_arp (.tmp 4) rfl k (rdM bs) (ho 4 rfl) (hb6.kept hR (fun h => h)) (hK _ _ hR (Keep.refl _ _) rfl (fun h => by simp at h))
            · have g0 : r (.tmp 48) = arpV (rdM bs) := hk.1
              unfold OpV; go_simp
              refine (mvalid_any (rdM bs) _).mono ?_
              rintro e w2 ⟨rfl, hE⟩
              exact ⟨_, rfl, hK _ _ (hR.trans (Keep.of_below hE)) (Keep.of_below hE) rfl (fun h => by simp at h)⟩
            · have g0 : r (.tmp 49) = .bool (validM (rdM bs)) := hk.1
              unfold OpV; go_simp; exact hK _ _ hR (Keep.refl _ _) rfl (fun h => by simp at h)
            · have g0 : r (.tmp 47) = .bool (!true) := hk.1
              have g1 : r (.tmp 50) = .bool (!validM (rdM bs)) := hk.2.1
              unfold OpV; go_simp; exact hK _ _ hR (Keep.refl _ _) rfl (fun h => by simp at h)
        case rest =>
          obtain ⟨rfl, hR⟩ := hcut
          obtain ⟨wp, rfl⟩ : ∃ wp : World, wp = wc := ⟨_, rfl⟩
          have hb7 := hb6.kept hR (fun h => h)
          have hz7 := hz6.kept hR (fun h => h)
          have hE7 : Ext w wp := hE6.trans (hR.below (Nat.le_refl _) (fun _ h => h.elim))
          rw [HV.out]
          have Hb7 := Lib.hid hb7
          have Hz7 := Lib.hid hz7
          clear hb7 hz7 hb6 hz6 HQ R06 HH6 HV hl6
          by_cases ho : opM bs = 1 ∨ opM bs = 2
          · have hcode : codeM bs = 0 := by unfold codeM; rw [if_neg (by have := Hl.out; omega), if_pos ⟨HT.out, ho⟩]
            have hdec : decM bs = rdM bs := by unfold decM; rw [if_pos hcode]
            have hv : (opM bs == 1 || opM bs == 2) = true := by rcases ho with e | e <;> simp [e]
            rw [hv]
            have HC0 := Lib.hid hcode
            have HD0 := Lib.hid hdec
            clear hcode hdec hv ho HT
            go_wp2_with (first | (refine load_arp rfl (.tmp 4) rfl k (rdM bs) rfl Hb7.out ?_) | (refine store_arp rfl (.tmp 2) (.tmp 53) rfl rfl w.heap.size (rdM bs) msg0 rfl rfl Hz7.out ?_))
            exact dec_end rfl HD0.out Hz7.out hE7 (Nat.le_refl _) rfl (by rw [HC0.out]; rfl) rfl
          · have hcode : codeM bs = 5 := by unfold codeM; rw [if_neg (by have := Hl.out; omega), if_neg (fun h => ho h.2)]
            have hdec : decM bs = msg0 := by unfold decM; rw [hcode]; rfl
            have hv : (opM bs == 1 || opM bs == 2) = false := by simpa [not_or] using ho
            rw [hv]
            have HC0 := Lib.hid hcode
            have HD0 := Lib.hid hdec
            clear hcode hdec hv ho HT
            go_wp2_with (first | (refine load_arp rfl (.tmp 4) rfl k (rdM bs) rfl Hb7.out ?_) | (refine store_arp rfl (.tmp 2) (.tmp 52) rfl rfl w.heap.size msg0 msg0 rfl rfl Hz7.out ?_))
            exact dec_end rfl HD0.out Hz7.out hE7 (Nat.le_refl _) rfl (by rw [HC0.out]; rfl) rfl
      · have hqd : decide (bs.take 6 = headB) = false := by simp [hq]
        rw [hqd] at HQ
        have hcode : codeM bs = 5 := by unfold codeM; rw [if_neg (by have := Hl.out; omega), if_neg (fun h => hq h.1)]
        have hdec : decM bs = msg0 := by unfold decM; rw [hcode]; rfl
        have HC0 := Lib.hid hcode
        have HD0 := Lib.hid hdec
        clear hcode hdec hq hqd HV
        go_cut [51] (fun v51 wx => v51 = .bool true ∧ Keep (fun _ => False) w6 wx)
        case first =>
          refine wp_region_gfacts (by kernel_rfl) 10 [some 42, some 43, some 44, some 45, some 46, some 47, some 48, some 49, some 50, some 51] rfl rfl (fun _ => False) (lookF b off n c false (rdM bs)) (fun wq => Keep (fun _ => False) w6 wq) [] [none, none, none, none, none, some true] 54 (by kernel_rfl) (by kernel_rfl) (by kernel_rfl) (by kernel_rfl) (by kernel_rfl) (by kernel_rfl) rfl (by kernel_rfl) (by kernel_rfl) ⟨rfl, trivial⟩ trivial (Keep.refl _ _).drew ?_ ?_
          · intro x wq hR hA _
            have e9 : x 9 = .bool true := hA.2.2.2.2.2.2.2.2.2.1
            simp only [fillL, Nat.zero_add, Nat.reduceAdd, Act.put, List.setIfInBounds_toArray, List.set_cons_succ, List.set_cons_zero, List.drop_succ_cons, List.drop_zero, e9]
            clear e9 hA
            go_wp2_with fail
            go_meet
            exact ⟨rfl, hR⟩
          · refine EachOp.cons ?_ (EachOp.cons ?_ (EachOp.cons ?_ (EachOp.cons ?_ (EachOp.cons ?_ (EachOp.cons ?_ (EachOp.cons (StepG.skip rfl (fun _ _ => trivial)) (EachOp.cons (StepG.skip rfl (fun _ _ => trivial)) (EachOp.cons (StepG.skip rfl (fun _ _ => trivial)) (EachOp.cons ?_ EachOp.nil)))))))))
            all_goals (refine StepG.run rfl fun r wq hR hc hf ho hk K hK => ?_)
            · have g0 : r (.tmp 0) = .slice (some ⟨b, off, none⟩) n c := ho 0 rfl
              unfold OpV; go_simp; exact hK _ _ hR (Keep.refl _ _) rfl (fun h => by simp at h)
            · have g0 : r (.tmp 42) = .slice (some ⟨b, off, none⟩) n c := hk.1
              unfold OpV; go_simp; exact hK _ _ hR (Keep.refl _ _) rfl (fun h => by simp at h)
            · have g0 := hf.2 0
              unfold OpV; go_simp; exact hK _ _ hR (Keep.refl _ _) rfl (fun h => by simp at h)
            · have g0 : r (.tmp 43) = .slice (some ⟨b, off, none⟩) 6 c := hk.1
              have g1 : r (.tmp 44) = .slice (some ⟨0, 0, none⟩) 6 6 := hk.2.1
              unfold OpV; go_simp
              refine (HQ.out wq hR).mono ?_
              rintro e w2 ⟨rfl, rfl⟩
              exact ⟨_, rfl, hK _ _ hR (Keep.refl _ _) rfl (fun h => by simp at h)⟩
            · have g0 : r (.tmp 45) = .bool false := hk.1
              unfold OpV; go_simp; exact hK _ _ hR (Keep.refl _ _) rfl (fun h => by simp at h)
            · have g0 : r (.tmp 46) = .bool (!false) := hk.1
              unfold OpV; go_simp; exact hK _ _ hR (Keep.refl _ _) rfl (fun h => by simp at h)
            · have g0 : r (.tmp 47) = .bool (!false) := hk.1
              unfold OpV; go_simp; exact hK _ _ hR (Keep.refl _ _) rfl (fun h => by simp at h)
        case rest =>
          obtain ⟨rfl, hR⟩ := hcut
          obtain ⟨wp, rfl⟩ : ∃ wp : World, wp = wc := ⟨_, rfl⟩
          have hz7 := hz6.kept hR (fun h => h)
          have hE7 : Ext w wp := hE6.trans (hR.below (Nat.le_refl _) (fun _ h => h.elim))
          have Hz7 := Lib.hid hz7
          clear hz7 hb6 hz6 HQ R06 HH6 hl6
          go_wp2_with (refine store_arp rfl (.tmp 2) (.tmp 52) rfl rfl w.heap.size msg0 msg0 rfl rfl Hz7.out ?_)
          exact dec_end rfl HD0.out Hz7.out hE7 (Nat.le_refl _) rfl (by rw [HC0.out]; rfl) rfl
end Go.Proofs.YtopkbpigaengeaaDoor
