/-
  Reading a packet: the document.
-/
import Derived.Test.YtoijkcnefnmbjaaCb
namespace Go.Proofs.Ytoijkcnefnmbjaa
open Go.RowKit
theorem dcE_sh (b : List Int) (h0 : b.length ≠ 0) : (gB b 0 / 16 = 4 ∧ dcP b = p4 b ∧ dcE b = fin (p4 b) (c4 b)) ∨ (gB b 0 / 16 = 6 ∧ dcP b = p6 b ∧ dcE b = fin (p6 b) (c6 b)) ∨ ((gB b 0 / 16 != 4) = true ∧ (gB b 0 / 16 != 6) = true ∧ dcE b = 5) := by
  unfold dcP dcE
  by_cases c1 : gB b 0 / 16 = 4
  · exact .inl ⟨c1, if_pos c1, by rw [if_neg h0, if_pos c1]⟩
  · by_cases c2 : gB b 0 / 16 = 6
    · exact .inr (.inl ⟨c2, if_neg c1, by rw [if_neg h0, if_neg c1, if_pos c2]⟩)
    · exact .inr (.inr ⟨by simpa using c1, by simpa using c2, by rw [if_neg h0, if_neg c1, if_neg c2]⟩)
set_option maxHeartbeats 8000000 in
theorem rdec_any (b : List Int) (hB : IsB b) (hl : b.length ≤ 1000000) : AFn Try.prog 21 0 [.isl (bytesC b) b.length] mt (rdV (dcP b) (dcE b)) mt := by
  refine AFn.eq Try.func21 rfl rfl (Nat.le_of_ble_eq_true rfl) ?_
  have b0 := hB.at 0
  have hsh := sh4 _ b0
  by_cases h0 : b.length = 0
  · have g1 : ((b.length : Int) == 0) = true := by rw [h0]; rfl
    have hd : dcE b = 4 := by unfold dcE; rw [if_pos h0]
    rw [hd, rdV_bad (by decide)]
    repeat (refine W.seq ?_)
    refine W.region 0 2 (by decide) rfl rfl ?_
    refine RW.opd rfl rfl (LO.alloc rfl ty27) ?_
    refine RW.opd rfl rfl (LO.assign rfl rfl) ?_
    refine RW.nil ?_
    repeat (refine W.seq ?_)
    refine W.block ?_
    repeat (refine W.seq ?_)
    refine W.region 6 10 (by decide) rfl rfl ?_
    refine RW.opd rfl rfl (LO.move rfl rfl) ?_
    refine RW.opd rfl rfl (LO.len_isl rfl rfl rfl ty25) ?_
    refine RW.opd rfl rfl (LO.eql rfl rfl rfl) ?_
    refine RW.opd rfl rfl (LO.assign rfl rfl) ?_
    refine RW.nil ?_
    repeat (refine W.seq ?_)
    refine W.cond_t rfl (by first | rfl | assumption) ?_
    repeat (refine W.seq ?_)
    refine W.region 14 17 (by decide) rfl rfl ?_
    refine RW.opd rfl rfl (LO.build_st rfl ty27 .nil) ?_
    refine RW.opn rfl rfl (LO.store rfl rfl rfl rfl rfl ty27 rfl (by decide) (Sp.lit rfl)) ?_
    refine RW.opd rfl rfl (LO.assign rfl rfl) ?_
    refine RW.nil ?_
    refine W.nilc (q := 0) (j := 8) rfl rfl (Sp.lit rfl) ?_
    repeat (refine W.seq ?_)
    refine W.ret ⟨.inl rfl, _, mt, (RVs.cons (RV.cellA rfl rfl ty27 rfl (Tk.lit rfl)) (RVs.cons (RV.tmp rfl) RVs.nil)), (by (repeat' (first | exact all_mt | refine all_up ?_ ?_)) <;> rfl), ?_⟩
    exact ⟨rfl, rfl⟩
  have g1 : ((b.length : Int) == 0) = false := by rw [beq_eq_false_iff_ne]; omega
  have hat0 := by_at (l := b) (k := 0) (by omega)
  rcases dcE_sh b h0 with ⟨hv, hd1, hd2⟩ | ⟨hv, hd1, hd2⟩ | ⟨hv1, hv2, hd2⟩
  rotate_right
  · rw [hd2, rdV_bad (by decide)]
    repeat (refine W.seq ?_)
    refine W.region 0 2 (by decide) rfl rfl ?_
    refine RW.opd rfl rfl (LO.alloc rfl ty27) ?_
    refine RW.opd rfl rfl (LO.assign rfl rfl) ?_
    refine RW.nil ?_
    repeat (refine W.seq ?_)
    refine W.block ?_
    repeat (refine W.seq ?_)
    refine W.region 6 10 (by decide) rfl rfl ?_
    refine RW.opd rfl rfl (LO.move rfl rfl) ?_
    refine RW.opd rfl rfl (LO.len_isl rfl rfl rfl ty25) ?_
    refine RW.opd rfl rfl (LO.eql rfl rfl rfl) ?_
    refine RW.opd rfl rfl (LO.assign rfl rfl) ?_
    refine RW.nil ?_
    repeat (refine W.seq ?_)
    refine W.cond_f rfl (by first | rfl | assumption) ?_
    repeat (refine W.seq ?_)
    refine W.region 21 34 (by decide) rfl rfl ?_
    refine RW.opd rfl rfl (LO.move rfl rfl) ?_
    refine RW.opd rfl rfl (LO.indexAddr_isl rfl rfl rfl rfl rfl ty25 ty5 ?_) ?_; (· (first | omega | decide | assumption | fail | (simp; done) | (simp; omega)))
    refine RW.opd rfl rfl (LO.load_imm rfl rfl hat0 ty5 rfl) ?_
    refine RW.opd rfl rfl (LO.shr rfl rfl rfl ?_) ?_; (· (first | omega | decide | assumption | fail | (simp; done) | (simp; omega)))
    rw [hsh]
    refine RW.opd rfl rfl (LO.neq rfl rfl rfl) ?_
    refine RW.opd rfl rfl (LO.move rfl rfl) ?_
    refine RW.gd rfl rfl rfl ?_ rfl (LO.move rfl rfl) ?_; (· (first | rfl | assumption))
    refine RW.gd rfl rfl rfl ?_ rfl (LO.indexAddr_isl rfl rfl rfl rfl rfl ty25 ty5 ?_) ?_; (· (first | rfl | assumption)); (· (first | omega | decide | assumption | fail | (simp; done) | (simp; omega)))
    refine RW.gd rfl rfl rfl ?_ rfl (LO.load_imm rfl rfl hat0 ty5 rfl) ?_; (· (first | rfl | assumption))
    refine RW.gd rfl rfl rfl ?_ rfl (LO.shr rfl rfl rfl ?_) ?_; (· (first | rfl | assumption)); (· (first | omega | decide | assumption | fail | (simp; done) | (simp; omega)))
    rw [hsh]
    refine RW.gd rfl rfl rfl ?_ rfl (LO.neq rfl rfl rfl) ?_; (· (first | rfl | assumption))
    refine RW.opd rfl rfl (LO.pick_t rfl rfl ?_ rfl) ?_; (· (first | rfl | assumption))
    refine RW.opd rfl rfl (LO.assign rfl rfl) ?_
    refine RW.nil ?_
    repeat (refine W.seq ?_)
    refine W.cond_t rfl (by first | rfl | assumption) ?_
    repeat (refine W.seq ?_)
    refine W.region 38 41 (by decide) rfl rfl ?_
    refine RW.opd rfl rfl (LO.build_st rfl ty27 .nil) ?_
    refine RW.opn rfl rfl (LO.store rfl rfl rfl rfl rfl ty27 rfl (by decide) (Sp.lit rfl)) ?_
    refine RW.opd rfl rfl (LO.assign rfl rfl) ?_
    refine RW.nil ?_
    refine W.nilc (q := 0) (j := 8) rfl rfl (Sp.lit rfl) ?_
    repeat (refine W.seq ?_)
    refine W.ret ⟨.inl rfl, _, mt, (RVs.cons (RV.cellA rfl rfl ty27 rfl (Tk.lit rfl)) (RVs.cons (RV.tmp rfl) RVs.nil)), (by (repeat' (first | exact all_mt | refine all_up ?_ ?_)) <;> rfl), ?_⟩
    exact ⟨rfl, rfl⟩
  · rw [hv] at hsh
    rw [hd1, hd2]
    repeat (refine W.seq ?_)
    refine W.region 0 2 (by decide) rfl rfl ?_
    refine RW.opd rfl rfl (LO.alloc rfl ty27) ?_
    refine RW.opd rfl rfl (LO.assign rfl rfl) ?_
    refine RW.nil ?_
    repeat (refine W.seq ?_)
    refine W.block ?_
    repeat (refine W.seq ?_)
    refine W.region 6 10 (by decide) rfl rfl ?_
    refine RW.opd rfl rfl (LO.move rfl rfl) ?_
    refine RW.opd rfl rfl (LO.len_isl rfl rfl rfl ty25) ?_
    refine RW.opd rfl rfl (LO.eql rfl rfl rfl) ?_
    refine RW.opd rfl rfl (LO.assign rfl rfl) ?_
    refine RW.nil ?_
    repeat (refine W.seq ?_)
    refine W.cond_f rfl (by first | rfl | assumption) ?_
    repeat (refine W.seq ?_)
    refine W.region 21 34 (by decide) rfl rfl ?_
    refine RW.opd rfl rfl (LO.move rfl rfl) ?_
    refine RW.opd rfl rfl (LO.indexAddr_isl rfl rfl rfl rfl rfl ty25 ty5 ?_) ?_; (· (first | omega | decide | assumption | fail | (simp; done) | (simp; omega)))
    refine RW.opd rfl rfl (LO.load_imm rfl rfl hat0 ty5 rfl) ?_
    refine RW.opd rfl rfl (LO.shr rfl rfl rfl ?_) ?_; (· (first | omega | decide | assumption | fail | (simp; done) | (simp; omega)))
    rw [hsh]
    refine RW.opd rfl rfl (LO.neq rfl rfl rfl) ?_
    refine RW.opd rfl rfl (LO.move rfl rfl) ?_
    refine RW.sd rfl rfl rfl ?_ rfl ?_; (· (first | rfl | assumption))
    refine RW.sd rfl rfl rfl ?_ rfl ?_; (· (first | rfl | assumption))
    refine RW.sd rfl rfl rfl ?_ rfl ?_; (· (first | rfl | assumption))
    refine RW.sd rfl rfl rfl ?_ rfl ?_; (· (first | rfl | assumption))
    refine RW.sd rfl rfl rfl ?_ rfl ?_; (· (first | rfl | assumption))
    refine RW.opd rfl rfl (LO.pick_f rfl rfl ?_ rfl) ?_; (· (first | rfl | assumption))
    refine RW.opd rfl rfl (LO.assign rfl rfl) ?_
    refine RW.nil ?_
    repeat (refine W.seq ?_)
    refine W.cond_f rfl (rfl) ?_
    repeat (refine W.seq ?_)
    refine W.region 45 51 (by decide) rfl rfl ?_
    refine RW.opd rfl rfl (LO.move rfl rfl) ?_
    refine RW.opd rfl rfl (LO.indexAddr_isl rfl rfl rfl rfl rfl ty25 ty5 ?_) ?_; (· (first | omega | decide | assumption | fail | (simp; done) | (simp; omega)))
    refine RW.opd rfl rfl (LO.load_imm rfl rfl hat0 ty5 rfl) ?_
    refine RW.opd rfl rfl (LO.shr rfl rfl rfl ?_) ?_; (· (first | omega | decide | assumption | fail | (simp; done) | (simp; omega)))
    rw [hsh]
    refine RW.opd rfl rfl (LO.eql rfl rfl rfl) ?_
    refine RW.opd rfl rfl (LO.assign rfl rfl) ?_
    refine RW.nil ?_
    repeat (refine W.seq ?_)
    refine W.cond_f rfl (rfl) ?_
    rcases c4_cases b with ⟨k1, hc⟩ | hrest
    · have g2 : decide ((b.length : Int) < 20) = true := decide_eq_true (by omega)
      have hfe : fin (p4 b) (c4 b) = 4 := by rw [hc]; rfl
      rw [hfe, rdV_bad (by decide)]
      repeat (refine W.seq ?_)
      refine W.region 151 155 (by decide) rfl rfl ?_
      refine RW.opd rfl rfl (LO.move rfl rfl) ?_
      refine RW.opd rfl rfl (LO.len_isl rfl rfl rfl ty25) ?_
      refine RW.opd rfl rfl (LO.lss rfl rfl rfl) ?_
      refine RW.opd rfl rfl (LO.assign rfl rfl) ?_
      refine RW.nil ?_
      repeat (refine W.seq ?_)
      refine W.cond_t rfl (by first | rfl | assumption) ?_
      repeat (refine W.seq ?_)
      refine W.region 159 162 (by decide) rfl rfl ?_
      refine RW.opd rfl rfl (LO.build_st rfl ty27 .nil) ?_
      refine RW.opn rfl rfl (LO.store rfl rfl rfl rfl rfl ty27 rfl (by decide) (Sp.lit rfl)) ?_
      refine RW.opd rfl rfl (LO.assign rfl rfl) ?_
      refine RW.nil ?_
      refine W.nilc (q := 0) (j := 8) rfl rfl (Sp.lit rfl) ?_
      repeat (refine W.seq ?_)
      refine W.ret ⟨.inl rfl, _, mt, (RVs.cons (RV.cellA rfl rfl ty27 rfl (Tk.lit rfl)) (RVs.cons (RV.tmp rfl) RVs.nil)), (by (repeat' (first | exact all_mt | refine all_up ?_ ?_)) <;> rfl), ?_⟩
      exact ⟨rfl, rfl⟩
    have h20 : 20 ≤ b.length := by
      rcases hrest with h | h | h | h
      · exact h.1
      · exact h.1
      · exact h.1
      · exact h.1.1
    have g2 : decide ((b.length : Int) < 20) = false := decide_eq_false (by omega)
    have b2 := hB.at 2
    have b3 := hB.at 3
    have b6 := hB.at 6
    have b7 := hB.at 7
    have b8 := hB.at 8
    have b9 := hB.at 9
    have hand := u8_and15 b0
    have hat2 := by_at (l := b) (k := 2) (by omega)
    have hat3 := by_at (l := b) (k := 3) (by omega)
    have hat6 := by_at (l := b) (k := 6) (by omega)
    have hat7 := by_at (l := b) (k := 7) (by omega)
    have hat8 := by_at (l := b) (k := 8) (by omega)
    have hat9 := by_at (l := b) (k := 9) (by omega)
    have hs2 := shl8 _ b2
    have hs6 := shl8 _ b6
    have hw0 : gB b 2 * 256 + gB b 3 = wh4 b := rfl
    have hh0 : 4 * (gB b 0 % 16) = hd4 b := by unfold hd4; omega
    have hwb : 0 ≤ wh4 b ∧ wh4 b ≤ 65535 := by unfold wh4; omega
    have hhb : 0 ≤ hd4 b ∧ hd4 b ≤ 60 := by unfold hd4; omega
    obtain ⟨fr, hfr⟩ : ∃ fr, gB b 6 * 256 + gB b 7 = fr := ⟨_, rfl⟩
    have hfb : 0 ≤ fr ∧ fr ≤ 65535 := by omega
    rw [hfr] at hrest
    have hmask := i64_and14 hfb
    obtain ⟨h, hhn⟩ : ∃ h : Nat, hd4 b = (h : Int) := ⟨(hd4 b).toNat, by omega⟩
    obtain ⟨w, hwn⟩ : ∃ w : Nat, wh4 b = (w : Int) := ⟨(wh4 b).toNat, by omega⟩
    have hp4 : p4 b = ⟨fbA false ((b.drop 12).take 4), fbA false ((b.drop 16).take 4), gB b 9, gB b 8, (b.drop h).take (w - h)⟩ := by unfold p4; rw [hhn, hwn]; rfl
    rw [hhn, hwn] at hrest
    repeat (refine W.seq ?_)
    refine W.region 151 155 (by decide) rfl rfl ?_
    refine RW.opd rfl rfl (LO.move rfl rfl) ?_
    refine RW.opd rfl rfl (LO.len_isl rfl rfl rfl ty25) ?_
    refine RW.opd rfl rfl (LO.lss rfl rfl rfl) ?_
    refine RW.opd rfl rfl (LO.assign rfl rfl) ?_
    refine RW.nil ?_
    repeat (refine W.seq ?_)
    refine W.cond_f rfl (by first | rfl | assumption) ?_
    refine W.skip ?_
    repeat (refine W.seq ?_)
    refine W.regionD 166 184 (by decide) rfl mixed rfl ?_
    refine RW.opd rfl rfl (LO.move rfl rfl) ?_
    refine RW.opd rfl rfl (LO.indexAddr_isl rfl rfl rfl rfl rfl ty25 ty5 ?_) ?_; (· (first | omega | decide | assumption | fail | (simp; done) | (simp; omega)))
    refine RW.opd rfl rfl (LO.load_imm rfl rfl hat0 ty5 rfl) ?_
    refine RW.opd rfl rfl (LO.and rfl rfl rfl) ?_
    rw [hand]
    refine RW.opd rfl rfl (LO.conv_in rfl rfl ty5 ty3 ?_) ?_; (· (first | exact IntWalk.i64_in _ (by omega) | assumption))
    refine RW.opd rfl rfl (LO.mul_in rfl rfl rfl ?_) ?_; (· (first | exact IntWalk.i64_in _ (by omega) | assumption))
    rw [hh0, hhn]
    refine RW.opd rfl rfl (LO.move rfl rfl) ?_
    refine RW.opd rfl rfl (LO.indexAddr_isl rfl rfl rfl rfl rfl ty25 ty5 ?_) ?_; (· (first | omega | decide | assumption | fail | (simp; done) | (simp; omega)))
    refine RW.opd rfl rfl (LO.load_imm rfl rfl hat2 ty5 rfl) ?_
    refine RW.opd rfl rfl (LO.conv_in rfl rfl ty5 ty3 ?_) ?_; (· (first | exact IntWalk.i64_in _ (by omega) | assumption))
    refine RW.opd rfl rfl (LO.shl rfl rfl rfl ?_) ?_; (· (first | omega | decide | assumption | fail | (simp; done) | (simp; omega)))
    rw [hs2]
    refine RW.opd rfl rfl (LO.move rfl rfl) ?_
    refine RW.opd rfl rfl (LO.indexAddr_isl rfl rfl rfl rfl rfl ty25 ty5 ?_) ?_; (· (first | omega | decide | assumption | fail | (simp; done) | (simp; omega)))
    refine RW.opd rfl rfl (LO.load_imm rfl rfl hat3 ty5 rfl) ?_
    refine RW.opd rfl rfl (LO.conv_in rfl rfl ty5 ty3 ?_) ?_; (· (first | exact IntWalk.i64_in _ (by omega) | assumption))
    refine RW.opd rfl rfl (LO.add_in rfl rfl rfl ?_) ?_; (· (first | exact IntWalk.i64_in _ (by omega) | assumption))
    rw [hw0, hwn]
    refine RW.opd rfl rfl (LO.assign rfl rfl) ?_
    refine RW.opd rfl rfl (LO.assign rfl rfl) ?_
    refine RW.nil ⟨by kernel_rfl, ?_⟩
    repeat (refine W.seq ?_)
    refine W.block ?_
    rcases hrest with ⟨_, k1, hc⟩ | ⟨_, k1, k2, hc⟩ | ⟨_, k1, k2, k3, hc⟩ | ⟨⟨_, k1, k2, k3⟩, hrest⟩
    · have g2 : decide ((h : Int) < 20) = true := decide_eq_true (by omega)
      have hfe : fin (p4 b) (c4 b) = 5 := by rw [hc]; rfl
      rw [hfe, rdV_bad (by decide)]
      repeat (refine W.seq ?_)
      refine W.region 188 196 (by decide) rfl rfl ?_
      refine RW.opd rfl rfl (LO.move rfl rfl) ?_
      refine RW.opd rfl rfl (LO.lss rfl rfl rfl) ?_
      refine RW.opd rfl rfl (LO.move rfl rfl) ?_
      refine RW.sd rfl rfl rfl ?_ rfl ?_; (· (first | rfl | assumption))
      refine RW.sd rfl rfl rfl ?_ rfl ?_; (· (first | rfl | assumption))
      refine RW.sd rfl rfl rfl ?_ rfl ?_; (· (first | rfl | assumption))
      refine RW.opd rfl rfl (LO.pick_t rfl rfl ?_ rfl) ?_; (· (first | rfl | assumption))
      refine RW.opd rfl rfl (LO.assign rfl rfl) ?_
      refine RW.nil ?_
      repeat (refine W.seq ?_)
      refine W.cond_t rfl (by first | rfl | assumption) ?_
      repeat (refine W.seq ?_)
      refine W.region 200 203 (by decide) rfl rfl ?_
      refine RW.opd rfl rfl (LO.build_st rfl ty27 .nil) ?_
      refine RW.opn rfl rfl (LO.store rfl rfl rfl rfl rfl ty27 rfl (by decide) (Sp.lit rfl)) ?_
      refine RW.opd rfl rfl (LO.assign rfl rfl) ?_
      refine RW.nil ?_
      refine W.nilc (q := 0) (j := 8) rfl rfl (Sp.lit rfl) ?_
      repeat (refine W.seq ?_)
      refine W.ret ⟨.inl rfl, _, mt, (RVs.cons (RV.cellA rfl rfl ty27 rfl (Tk.lit rfl)) (RVs.cons (RV.tmp rfl) RVs.nil)), (by (repeat' (first | exact all_mt | refine all_up ?_ ?_)) <;> rfl), ?_⟩
      exact ⟨rfl, rfl⟩
    · have g2 : decide ((h : Int) < 20) = false := decide_eq_false (by omega)
      have g3 : decide ((w : Int) < (h : Int)) = true := decide_eq_true (by omega)
      have hfe : fin (p4 b) (c4 b) = 5 := by rw [hc]; rfl
      rw [hfe, rdV_bad (by decide)]
      repeat (refine W.seq ?_)
      refine W.region 188 196 (by decide) rfl rfl ?_
      refine RW.opd rfl rfl (LO.move rfl rfl) ?_
      refine RW.opd rfl rfl (LO.lss rfl rfl rfl) ?_
      refine RW.opd rfl rfl (LO.move rfl rfl) ?_
      refine RW.gd rfl rfl rfl ?_ rfl (LO.move rfl rfl) ?_; (· (first | rfl | assumption))
      refine RW.gd rfl rfl rfl ?_ rfl (LO.move rfl rfl) ?_; (· (first | rfl | assumption))
      refine RW.gd rfl rfl rfl ?_ rfl (LO.lss rfl rfl rfl) ?_; (· (first | rfl | assumption))
      refine RW.opd rfl rfl (LO.pick_f rfl rfl ?_ rfl) ?_; (· (first | rfl | assumption))
      refine RW.opd rfl rfl (LO.assign rfl rfl) ?_
      refine RW.nil ?_
      repeat (refine W.seq ?_)
      refine W.cond_t rfl (by first | rfl | assumption) ?_
      repeat (refine W.seq ?_)
      refine W.region 200 203 (by decide) rfl rfl ?_
      refine RW.opd rfl rfl (LO.build_st rfl ty27 .nil) ?_
      refine RW.opn rfl rfl (LO.store rfl rfl rfl rfl rfl ty27 rfl (by decide) (Sp.lit rfl)) ?_
      refine RW.opd rfl rfl (LO.assign rfl rfl) ?_
      refine RW.nil ?_
      refine W.nilc (q := 0) (j := 8) rfl rfl (Sp.lit rfl) ?_
      repeat (refine W.seq ?_)
      refine W.ret ⟨.inl rfl, _, mt, (RVs.cons (RV.cellA rfl rfl ty27 rfl (Tk.lit rfl)) (RVs.cons (RV.tmp rfl) RVs.nil)), (by (repeat' (first | exact all_mt | refine all_up ?_ ?_)) <;> rfl), ?_⟩
      exact ⟨rfl, rfl⟩
    · have g2 : decide ((h : Int) < 20) = false := decide_eq_false (by omega)
      have g3 : decide ((w : Int) < (h : Int)) = false := decide_eq_false (by omega)
      have g4 : decide ((b.length : Int) < (w : Int)) = true := decide_eq_true (by omega)
      have hfe : fin (p4 b) (c4 b) = 4 := by rw [hc]; rfl
      rw [hfe, rdV_bad (by decide)]
      repeat (refine W.seq ?_)
      refine W.region 188 196 (by decide) rfl rfl ?_
      refine RW.opd rfl rfl (LO.move rfl rfl) ?_
      refine RW.opd rfl rfl (LO.lss rfl rfl rfl) ?_
      refine RW.opd rfl rfl (LO.move rfl rfl) ?_
      refine RW.gd rfl rfl rfl ?_ rfl (LO.move rfl rfl) ?_; (· (first | rfl | assumption))
      refine RW.gd rfl rfl rfl ?_ rfl (LO.move rfl rfl) ?_; (· (first | rfl | assumption))
      refine RW.gd rfl rfl rfl ?_ rfl (LO.lss rfl rfl rfl) ?_; (· (first | rfl | assumption))
      refine RW.opd rfl rfl (LO.pick_f rfl rfl ?_ rfl) ?_; (· (first | rfl | assumption))
      refine RW.opd rfl rfl (LO.assign rfl rfl) ?_
      refine RW.nil ?_
      repeat (refine W.seq ?_)
      refine W.cond_f rfl (by first | rfl | assumption) ?_
      repeat (refine W.seq ?_)
      refine W.region 207 212 (by decide) rfl rfl ?_
      refine RW.opd rfl rfl (LO.move rfl rfl) ?_
      refine RW.opd rfl rfl (LO.len_isl rfl rfl rfl ty25) ?_
      refine RW.opd rfl rfl (LO.move rfl rfl) ?_
      refine RW.opd rfl rfl (LO.lss rfl rfl rfl) ?_
      refine RW.opd rfl rfl (LO.assign rfl rfl) ?_
      refine RW.nil ?_
      repeat (refine W.seq ?_)
      refine W.cond_t rfl (by first | rfl | assumption) ?_
      repeat (refine W.seq ?_)
      refine W.region 216 219 (by decide) rfl rfl ?_
      refine RW.opd rfl rfl (LO.build_st rfl ty27 .nil) ?_
      refine RW.opn rfl rfl (LO.store rfl rfl rfl rfl rfl ty27 rfl (by decide) (Sp.lit rfl)) ?_
      refine RW.opd rfl rfl (LO.assign rfl rfl) ?_
      refine RW.nil ?_
      refine W.nilc (q := 0) (j := 8) rfl rfl (Sp.lit rfl) ?_
      repeat (refine W.seq ?_)
      refine W.ret ⟨.inl rfl, _, mt, (RVs.cons (RV.cellA rfl rfl ty27 rfl (Tk.lit rfl)) (RVs.cons (RV.tmp rfl) RVs.nil)), (by (repeat' (first | exact all_mt | refine all_up ?_ ?_)) <;> rfl), ?_⟩
      exact ⟨rfl, rfl⟩
    have g2 : decide ((h : Int) < 20) = false := decide_eq_false (by omega)
    have g3 : decide ((w : Int) < (h : Int)) = false := decide_eq_false (by omega)
    have g4 : decide ((b.length : Int) < (w : Int)) = false := decide_eq_false (by omega)
    have hsum := sumX_any (b.take h) (hB.take h) (by rw [List.length_take]; omega)
    have hth : (b.take h).length = h := by rw [List.length_take]; exact Nat.min_eq_left (by omega)
    rw [hth] at hsum
    rw [Int.toNat_natCast] at hrest
    repeat (refine W.seq ?_)
    refine W.region 188 196 (by decide) rfl rfl ?_
    refine RW.opd rfl rfl (LO.move rfl rfl) ?_
    refine RW.opd rfl rfl (LO.lss rfl rfl rfl) ?_
    refine RW.opd rfl rfl (LO.move rfl rfl) ?_
    refine RW.gd rfl rfl rfl ?_ rfl (LO.move rfl rfl) ?_; (· (first | rfl | assumption))
    refine RW.gd rfl rfl rfl ?_ rfl (LO.move rfl rfl) ?_; (· (first | rfl | assumption))
    refine RW.gd rfl rfl rfl ?_ rfl (LO.lss rfl rfl rfl) ?_; (· (first | rfl | assumption))
    refine RW.opd rfl rfl (LO.pick_f rfl rfl ?_ rfl) ?_; (· (first | rfl | assumption))
    refine RW.opd rfl rfl (LO.assign rfl rfl) ?_
    refine RW.nil ?_
    repeat (refine W.seq ?_)
    refine W.cond_f rfl (by first | rfl | assumption) ?_
    repeat (refine W.seq ?_)
    refine W.region 207 212 (by decide) rfl rfl ?_
    refine RW.opd rfl rfl (LO.move rfl rfl) ?_
    refine RW.opd rfl rfl (LO.len_isl rfl rfl rfl ty25) ?_
    refine RW.opd rfl rfl (LO.move rfl rfl) ?_
    refine RW.opd rfl rfl (LO.lss rfl rfl rfl) ?_
    refine RW.opd rfl rfl (LO.assign rfl rfl) ?_
    refine RW.nil ?_
    repeat (refine W.seq ?_)
    refine W.cond_f rfl (by first | rfl | assumption) ?_
    repeat (refine W.seq ?_)
    refine W.region 223 229 (by decide) rfl rfl ?_
    refine RW.opd rfl rfl (LO.move rfl rfl) ?_
    refine RW.opd rfl rfl (LO.move rfl rfl) ?_
    refine RW.opd rfl rfl (LO.slice_isl rfl rfl rfl Bnd.no (Bnd.at rfl rfl) ?_ ?_ ty25 ty5 (by_take (by omega))) ?_; (· (first | omega | decide | assumption | fail | (simp; done) | (simp; omega))); (· (first | omega | decide | assumption | fail | (simp; done) | (simp; omega)))
    refine RW.opd rfl rfl (LO.call0 (fr := []) rfl rfl (hsum) fok18 (.cons rfl (.pure rfl) .nil) rfl) ?_
    refine RW.opd rfl rfl (LO.neq rfl rfl rfl) ?_
    refine RW.opd rfl rfl (LO.assign rfl rfl) ?_
    refine RW.nil ?_
    rcases hrest with ⟨k4, hc⟩ | ⟨k4, hrest⟩
    · have hfe : fin (p4 b) (c4 b) = 6 := by rw [hc]; rfl
      rw [hfe, rdV_bad (by decide)]
      repeat (refine W.seq ?_)
      refine W.cond_t rfl (by first | rfl | assumption) ?_
      repeat (refine W.seq ?_)
      refine W.region 233 236 (by decide) rfl rfl ?_
      refine RW.opd rfl rfl (LO.build_st rfl ty27 .nil) ?_
      refine RW.opn rfl rfl (LO.store rfl rfl rfl rfl rfl ty27 rfl (by decide) (Sp.lit rfl)) ?_
      refine RW.opd rfl rfl (LO.assign rfl rfl) ?_
      refine RW.nil ?_
      refine W.nilc (q := 0) (j := 8) rfl rfl (Sp.lit rfl) ?_
      repeat (refine W.seq ?_)
      refine W.ret ⟨.inl rfl, _, mt, (RVs.cons (RV.cellA rfl rfl ty27 rfl (Tk.lit rfl)) (RVs.cons (RV.tmp rfl) RVs.nil)), (by (repeat' (first | exact all_mt | refine all_up ?_ ?_)) <;> rfl), ?_⟩
      exact ⟨rfl, rfl⟩
    repeat (refine W.seq ?_)
    refine W.cond_f rfl (by first | rfl | assumption) ?_
    repeat (refine W.seq ?_)
    refine W.regionD 240 253 (by decide) rfl mixed rfl ?_
    refine RW.opd rfl rfl (LO.move rfl rfl) ?_
    refine RW.opd rfl rfl (LO.indexAddr_isl rfl rfl rfl rfl rfl ty25 ty5 ?_) ?_; (· (first | omega | decide | assumption | fail | (simp; done) | (simp; omega)))
    refine RW.opd rfl rfl (LO.load_imm rfl rfl hat6 ty5 rfl) ?_
    refine RW.opd rfl rfl (LO.conv_in rfl rfl ty5 ty3 ?_) ?_; (· (first | exact IntWalk.i64_in _ (by omega) | assumption))
    refine RW.opd rfl rfl (LO.shl rfl rfl rfl ?_) ?_; (· (first | omega | decide | assumption | fail | (simp; done) | (simp; omega)))
    rw [hs6]
    refine RW.opd rfl rfl (LO.move rfl rfl) ?_
    refine RW.opd rfl rfl (LO.indexAddr_isl rfl rfl rfl rfl rfl ty25 ty5 ?_) ?_; (· (first | omega | decide | assumption | fail | (simp; done) | (simp; omega)))
    refine RW.opd rfl rfl (LO.load_imm rfl rfl hat7 ty5 rfl) ?_
    refine RW.opd rfl rfl (LO.conv_in rfl rfl ty5 ty3 ?_) ?_; (· (first | exact IntWalk.i64_in _ (by omega) | assumption))
    refine RW.opd rfl rfl (LO.add_in rfl rfl rfl ?_) ?_; (· (first | exact IntWalk.i64_in _ (by omega) | assumption))
    rw [hfr]
    refine RW.opd rfl rfl (LO.and rfl rfl rfl) ?_
    rw [hmask]
    refine RW.opd rfl rfl (LO.neq rfl rfl rfl) ?_
    refine RW.opd rfl rfl (LO.assign rfl rfl) ?_
    refine RW.nil ⟨by kernel_rfl, ?_⟩
    rcases hrest with ⟨k5, hc⟩ | ⟨k5, hc⟩
    · have hfe : fin (p4 b) (c4 b) = 5 := by rw [hc]; rfl
      rw [hfe, rdV_bad (by decide)]
      repeat (refine W.seq ?_)
      refine W.cond_t rfl (by first | rfl | assumption) ?_
      repeat (refine W.seq ?_)
      refine W.region 257 260 (by decide) rfl rfl ?_
      refine RW.opd rfl rfl (LO.build_st rfl ty27 .nil) ?_
      refine RW.opn rfl rfl (LO.store rfl rfl rfl rfl rfl ty27 rfl (by decide) (Sp.lit rfl)) ?_
      refine RW.opd rfl rfl (LO.assign rfl rfl) ?_
      refine RW.nil ?_
      refine W.nilc (q := 0) (j := 8) rfl rfl (Sp.lit rfl) ?_
      repeat (refine W.seq ?_)
      refine W.ret ⟨.inl rfl, _, mt, (RVs.cons (RV.cellA rfl rfl ty27 rfl (Tk.lit rfl)) (RVs.cons (RV.tmp rfl) RVs.nil)), (by (repeat' (first | exact all_mt | refine all_up ?_ ?_)) <;> rfl), ?_⟩
      exact ⟨rfl, rfl⟩
    have hl1 : ((b.drop 12).take (16 - 12)).length = 4 := by rw [List.length_take, List.length_drop]; omega
    have hl2 : ((b.drop 16).take (20 - 16)).length = 4 := by rw [List.length_take, List.length_drop]; omega
    have hf1 := fromX_any ((b.drop 12).take (16 - 12)) ((hB.drop 12).take _) (.inl hl1)
    have hf2 := fromX_any ((b.drop 16).take (20 - 16)) ((hB.drop 16).take _) (.inl hl2)
    rw [hl1] at hf1
    rw [hl2] at hf2
    have hdl : ((b.drop h).take (w - h)).length = w - h := by rw [List.length_take, List.length_drop]; omega
    have hend := ended_any (p4 b)
    rw [hp4, pk_lit2] at hend
    dsimp only at hend
    rw [hdl] at hend
    rw [hc, hp4]
    unfold rdV at hend ⊢
    obtain ⟨E, hE⟩ : ∃ E, fin ⟨fbA false ((b.drop 12).take 4), fbA false ((b.drop 16).take 4), gB b 9, gB b 8, (b.drop h).take (w - h)⟩ 0 = E := ⟨_, rfl⟩
    rw [hE] at hend ⊢
    obtain ⟨Q, hQ⟩ : ∃ Q, (if E = 0 then (⟨fbA false ((b.drop 12).take 4), fbA false ((b.drop 16).take 4), gB b 9, gB b 8, (b.drop h).take (w - h)⟩ : Pk) else zPk) = Q := ⟨_, rfl⟩
    rw [hQ] at hend ⊢
    unfold adC at hf1 hf2
    repeat (refine W.seq ?_)
    refine W.cond_f rfl (by first | rfl | assumption) ?_
    refine W.skip ?_
    repeat (refine W.seq ?_)
    refine W.region 264 273 (by decide) rfl rfl ?_
    refine RW.opd rfl rfl (LO.move rfl rfl) ?_
    refine RW.opd rfl rfl (LO.slice_isl rfl rfl rfl (Bnd.at rfl rfl) (Bnd.at rfl rfl) ?_ ?_ ty25 ty5 (by_part (l := b) (k := 12) (m := 16) (by decide) (by omega))) ?_; (· (first | omega | decide | assumption | fail | (simp; done) | (simp; omega))); (· (first | omega | decide | assumption | fail | (simp; done) | (simp; omega)))
    refine RW.opd rfl rfl (LO.call0 (fr := []) rfl rfl (hf1) fok43 (.cons rfl (.pure rfl) .nil) rfl) ?_
    refine RW.opd rfl rfl (LO.move rfl rfl) ?_
    refine RW.opd rfl rfl (LO.extract rfl rfl rfl) ?_
    refine RW.opd rfl rfl (LO.extract rfl rfl rfl) ?_
    refine RW.opd rfl rfl (LO.alloc rfl ty24) ?_
    refine RW.opn rfl rfl (LO.store rfl rfl rfl rfl rfl ty24 rfl (by decide) (Sp.lit rfl)) ?_
    refine RW.opd rfl rfl (LO.assign rfl rfl) ?_
    refine RW.nil ?_
    repeat (refine W.seq ?_)
    refine W.region 277 286 (by decide) rfl rfl ?_
    refine RW.opd rfl rfl (LO.move rfl rfl) ?_
    refine RW.opd rfl rfl (LO.slice_isl rfl rfl rfl (Bnd.at rfl rfl) (Bnd.at rfl rfl) ?_ ?_ ty25 ty5 (by_part (l := b) (k := 16) (m := 20) (by decide) (by omega))) ?_; (· (first | omega | decide | assumption | fail | (simp; done) | (simp; omega))); (· (first | omega | decide | assumption | fail | (simp; done) | (simp; omega)))
    refine RW.opd rfl rfl (LO.call0 (fr := []) rfl rfl (hf2) fok43 (.cons rfl (.pure rfl) .nil) rfl) ?_
    refine RW.opd rfl rfl (LO.move rfl rfl) ?_
    refine RW.opd rfl rfl (LO.extract rfl rfl rfl) ?_
    refine RW.opd rfl rfl (LO.extract rfl rfl rfl) ?_
    refine RW.opd rfl rfl (LO.alloc rfl ty24) ?_
    refine RW.opn rfl rfl (LO.store rfl rfl rfl rfl rfl ty24 rfl (by decide) (Sp.lit rfl)) ?_
    refine RW.opd rfl rfl (LO.assign rfl rfl) ?_
    refine RW.nil ?_
    repeat (refine W.seq ?_)
    refine W.regionD 290 311 (by decide) rfl mixed rfl ?_
    refine RW.opd rfl rfl (LO.load_agg rfl rfl rfl ty24 rfl (Tk.lit rfl)) ?_
    refine RW.opd rfl rfl (LO.load_agg rfl rfl rfl ty24 rfl (Tk.lit rfl)) ?_
    refine RW.opd rfl rfl (LO.move rfl rfl) ?_
    refine RW.opd rfl rfl (LO.indexAddr_isl rfl rfl rfl rfl rfl ty25 ty5 ?_) ?_; (· (first | omega | decide | assumption | fail | (simp; done) | (simp; omega)))
    refine RW.opd rfl rfl (LO.load_imm rfl rfl hat9 ty5 rfl) ?_
    refine RW.opd rfl rfl (LO.conv_in rfl rfl ty5 ty3 ?_) ?_; (· (first | exact IntWalk.i64_in _ (by omega) | assumption))
    refine RW.opd rfl rfl (LO.move rfl rfl) ?_
    refine RW.opd rfl rfl (LO.indexAddr_isl rfl rfl rfl rfl rfl ty25 ty5 ?_) ?_; (· (first | omega | decide | assumption | fail | (simp; done) | (simp; omega)))
    refine RW.opd rfl rfl (LO.load_imm rfl rfl hat8 ty5 rfl) ?_
    refine RW.opd rfl rfl (LO.conv_in rfl rfl ty5 ty3 ?_) ?_; (· (first | exact IntWalk.i64_in _ (by omega) | assumption))
    refine RW.opd rfl rfl (LO.move rfl rfl) ?_
    refine RW.opd rfl rfl (LO.move rfl rfl) ?_
    refine RW.opd rfl rfl (LO.move rfl rfl) ?_
    refine RW.opd rfl rfl (LO.slice_isl rfl rfl rfl (Bnd.at rfl rfl) (Bnd.at rfl rfl) ?_ ?_ ty25 ty5 (by_part (l := b) (k := h) (m := w) (by omega) (by omega))) ?_; (· (first | omega | decide | assumption | fail | (simp; done) | (simp; omega))); (· (first | omega | decide | assumption | fail | (simp; done) | (simp; omega)))
    refine RW.opd rfl rfl (LO.append_nil rfl rfl (SrcAV.isl rfl rfl (by rw [bytesC_len, hdl]; omega)) ty25 ty25 ty5 (by decide) (by omega) (by omega) (by decide)) ?_
    refine RW.opd rfl rfl (LO.build_st rfl ty27 (.cons rfl rfl rfl rfl (Sp.lit rfl) (.cons rfl rfl rfl rfl (Sp.lit rfl) (.cons rfl rfl rfl rfl (Sp.lit rfl) (.cons rfl rfl rfl rfl (Sp.lit rfl) (.cons rfl rfl rfl rfl (Sp.lit rfl) .nil)))))) ?_
    refine RW.opd rfl rfl (LO.call0 (fr := [304]) rfl rfl (hend) fok44 (.cons rfl (.agg (.cons (.same rfl) (.cons (.same rfl) (.cons (.same rfl) (.cons (.same rfl) (.cons (.same rfl) (.cons (.same rfl) (.cons (.same rfl) (.cons (.same rfl) (.cons (.osl (by decide) rfl (bytes_tk hdl) (bytesC_pure _)) .nil)))))))))) .nil) rfl) ?_
    refine RW.opd rfl rfl (LO.extract rfl rfl rfl) ?_
    refine RW.opd rfl rfl (LO.extract rfl rfl rfl) ?_
    refine RW.opn rfl rfl (LO.store rfl rfl rfl rfl rfl ty27 rfl (by decide) (Sp.lit rfl)) ?_
    refine RW.opd rfl rfl (LO.assign rfl rfl) ?_
    refine RW.nil ⟨by kernel_rfl, ?_⟩
    repeat (refine W.seq ?_)
    refine W.ret ⟨.inl rfl, _, mt, (RVs.cons (RV.cellA rfl rfl ty27 rfl (pk_tk Q)) (RVs.cons (RV.tmp rfl) RVs.nil)), (by (repeat' (first | exact all_mt | refine all_up ?_ ?_)) <;> rfl), ?_⟩
    exact ⟨rfl, rfl⟩
  · rw [hv] at hsh
    rw [hd1, hd2]
    have b4 := hB.at 4
    have b5 := hB.at 5
    have hs4 := shl8 _ b4
    have hw0 : gB b 4 * 256 + gB b 5 = wh6 b := rfl
    have hwb : 0 ≤ wh6 b ∧ wh6 b ≤ 65535 := by unfold wh6; omega
    obtain ⟨w, hwn⟩ : ∃ w : Nat, wh6 b = (w : Int) := ⟨(wh6 b).toNat, by omega⟩
    have hp6 : p6 b = ⟨fbA true ((b.drop 8).take 16), fbA true ((b.drop 24).take 16), gB b 6, gB b 7, (b.drop 40).take w⟩ := by unfold p6; rw [hwn]; rfl
    have hc6 := c6_cases b
    rw [hwn] at hw0 hwb hc6
    repeat (refine W.seq ?_)
    refine W.region 0 2 (by decide) rfl rfl ?_
    refine RW.opd rfl rfl (LO.alloc rfl ty27) ?_
    refine RW.opd rfl rfl (LO.assign rfl rfl) ?_
    refine RW.nil ?_
    repeat (refine W.seq ?_)
    refine W.block ?_
    repeat (refine W.seq ?_)
    refine W.region 6 10 (by decide) rfl rfl ?_
    refine RW.opd rfl rfl (LO.move rfl rfl) ?_
    refine RW.opd rfl rfl (LO.len_isl rfl rfl rfl ty25) ?_
    refine RW.opd rfl rfl (LO.eql rfl rfl rfl) ?_
    refine RW.opd rfl rfl (LO.assign rfl rfl) ?_
    refine RW.nil ?_
    repeat (refine W.seq ?_)
    refine W.cond_f rfl (by first | rfl | assumption) ?_
    repeat (refine W.seq ?_)
    refine W.region 21 34 (by decide) rfl rfl ?_
    refine RW.opd rfl rfl (LO.move rfl rfl) ?_
    refine RW.opd rfl rfl (LO.indexAddr_isl rfl rfl rfl rfl rfl ty25 ty5 ?_) ?_; (· (first | omega | decide | assumption | fail | (simp; done) | (simp; omega)))
    refine RW.opd rfl rfl (LO.load_imm rfl rfl hat0 ty5 rfl) ?_
    refine RW.opd rfl rfl (LO.shr rfl rfl rfl ?_) ?_; (· (first | omega | decide | assumption | fail | (simp; done) | (simp; omega)))
    rw [hsh]
    refine RW.opd rfl rfl (LO.neq rfl rfl rfl) ?_
    refine RW.opd rfl rfl (LO.move rfl rfl) ?_
    refine RW.gd rfl rfl rfl ?_ rfl (LO.move rfl rfl) ?_; (· (first | rfl | assumption))
    refine RW.gd rfl rfl rfl ?_ rfl (LO.indexAddr_isl rfl rfl rfl rfl rfl ty25 ty5 ?_) ?_; (· (first | rfl | assumption)); (· (first | omega | decide | assumption | fail | (simp; done) | (simp; omega)))
    refine RW.gd rfl rfl rfl ?_ rfl (LO.load_imm rfl rfl hat0 ty5 rfl) ?_; (· (first | rfl | assumption))
    refine RW.gd rfl rfl rfl ?_ rfl (LO.shr rfl rfl rfl ?_) ?_; (· (first | rfl | assumption)); (· (first | omega | decide | assumption | fail | (simp; done) | (simp; omega)))
    rw [hsh]
    refine RW.gd rfl rfl rfl ?_ rfl (LO.neq rfl rfl rfl) ?_; (· (first | rfl | assumption))
    refine RW.opd rfl rfl (LO.pick_t rfl rfl ?_ rfl) ?_; (· (first | rfl | assumption))
    refine RW.opd rfl rfl (LO.assign rfl rfl) ?_
    refine RW.nil ?_
    repeat (refine W.seq ?_)
    refine W.cond_f rfl (rfl) ?_
    repeat (refine W.seq ?_)
    refine W.region 45 51 (by decide) rfl rfl ?_
    refine RW.opd rfl rfl (LO.move rfl rfl) ?_
    refine RW.opd rfl rfl (LO.indexAddr_isl rfl rfl rfl rfl rfl ty25 ty5 ?_) ?_; (· (first | omega | decide | assumption | fail | (simp; done) | (simp; omega)))
    refine RW.opd rfl rfl (LO.load_imm rfl rfl hat0 ty5 rfl) ?_
    refine RW.opd rfl rfl (LO.shr rfl rfl rfl ?_) ?_; (· (first | omega | decide | assumption | fail | (simp; done) | (simp; omega)))
    rw [hsh]
    refine RW.opd rfl rfl (LO.eql rfl rfl rfl) ?_
    refine RW.opd rfl rfl (LO.assign rfl rfl) ?_
    refine RW.nil ?_
    repeat (refine W.seq ?_)
    refine W.cond_t rfl (rfl) ?_
    rcases hc6 with ⟨k1, hc⟩ | ⟨k1, k2, hc⟩ | ⟨k1, k2, hc⟩
    · have g2 : decide ((b.length : Int) < 40) = true := decide_eq_true (by omega)
      have hfe : fin (p6 b) (c6 b) = 4 := by rw [hc]; rfl
      rw [hfe, rdV_bad (by decide)]
      repeat (refine W.seq ?_)
      refine W.regionD 55 74 (by decide) rfl mixed rfl ?_
      refine RW.opd rfl rfl (LO.move rfl rfl) ?_
      refine RW.opd rfl rfl (LO.len_isl rfl rfl rfl ty25) ?_
      refine RW.opd rfl rfl (LO.lss rfl rfl rfl) ?_
      refine RW.opd rfl rfl (LO.move rfl rfl) ?_
      refine RW.sd rfl rfl rfl ?_ rfl ?_; (· (first | rfl | assumption))
      refine RW.sd rfl rfl rfl ?_ rfl ?_; (· (first | rfl | assumption))
      refine RW.sd rfl rfl rfl ?_ rfl ?_; (· (first | rfl | assumption))
      refine RW.sd rfl rfl rfl ?_ rfl ?_; (· (first | rfl | assumption))
      refine RW.sd rfl rfl rfl ?_ rfl ?_; (· (first | rfl | assumption))
      refine RW.sd rfl rfl rfl ?_ rfl ?_; (· (first | rfl | assumption))
      refine RW.sd rfl rfl rfl ?_ rfl ?_; (· (first | rfl | assumption))
      refine RW.sd rfl rfl rfl ?_ rfl ?_; (· (first | rfl | assumption))
      refine RW.sd rfl rfl rfl ?_ rfl ?_; (· (first | rfl | assumption))
      refine RW.sd rfl rfl rfl ?_ rfl ?_; (· (first | rfl | assumption))
      refine RW.sd rfl rfl rfl ?_ rfl ?_; (· (first | rfl | assumption))
      refine RW.sd rfl rfl rfl ?_ rfl ?_; (· (first | rfl | assumption))
      refine RW.sd rfl rfl rfl ?_ rfl ?_; (· (first | rfl | assumption))
      refine RW.sd rfl rfl rfl ?_ rfl ?_; (· (first | rfl | assumption))
      refine RW.opd rfl rfl (LO.pick_t rfl rfl ?_ rfl) ?_; (· (first | rfl | assumption))
      refine RW.nil ⟨by kernel_rfl, ?_⟩
      repeat (refine W.seq ?_)
      refine W.cond_t rfl (by first | rfl | assumption) ?_
      repeat (refine W.seq ?_)
      refine W.region 78 81 (by decide) rfl rfl ?_
      refine RW.opd rfl rfl (LO.build_st rfl ty27 .nil) ?_
      refine RW.opn rfl rfl (LO.store rfl rfl rfl rfl rfl ty27 rfl (by decide) (Sp.lit rfl)) ?_
      refine RW.opd rfl rfl (LO.assign rfl rfl) ?_
      refine RW.nil ?_
      refine W.nilc (q := 0) (j := 8) rfl rfl (Sp.lit rfl) ?_
      repeat (refine W.seq ?_)
      refine W.ret ⟨.inl rfl, _, mt, (RVs.cons (RV.cellA rfl rfl ty27 rfl (Tk.lit rfl)) (RVs.cons (RV.tmp rfl) RVs.nil)), (by (repeat' (first | exact all_mt | refine all_up ?_ ?_)) <;> rfl), ?_⟩
      exact ⟨rfl, rfl⟩
    · have g2 : decide ((b.length : Int) < 40) = false := decide_eq_false (by omega)
      have g3 : decide ((b.length : Int) < 40 + gB b 4 * 256 + gB b 5) = true := decide_eq_true (by omega)
      have hat4 := by_at (l := b) (k := 4) (by omega)
      have hat5 := by_at (l := b) (k := 5) (by omega)
      have hfe : fin (p6 b) (c6 b) = 4 := by rw [hc]; rfl
      rw [hfe, rdV_bad (by decide)]
      repeat (refine W.seq ?_)
      refine W.regionD 55 74 (by decide) rfl mixed rfl ?_
      refine RW.opd rfl rfl (LO.move rfl rfl) ?_
      refine RW.opd rfl rfl (LO.len_isl rfl rfl rfl ty25) ?_
      refine RW.opd rfl rfl (LO.lss rfl rfl rfl) ?_
      refine RW.opd rfl rfl (LO.move rfl rfl) ?_
      refine RW.gd rfl rfl rfl ?_ rfl (LO.move rfl rfl) ?_; (· (first | rfl | assumption))
      refine RW.gd rfl rfl rfl ?_ rfl (LO.len_isl rfl rfl rfl ty25) ?_; (· (first | rfl | assumption))
      refine RW.gd rfl rfl rfl ?_ rfl (LO.move rfl rfl) ?_; (· (first | rfl | assumption))
      refine RW.gd rfl rfl rfl ?_ rfl (LO.indexAddr_isl rfl rfl rfl rfl rfl ty25 ty5 ?_) ?_; (· (first | rfl | assumption)); (· (first | omega | decide | assumption | fail | (simp; done) | (simp; omega)))
      refine RW.gd rfl rfl rfl ?_ rfl (LO.load_imm rfl rfl hat4 ty5 rfl) ?_; (· (first | rfl | assumption))
      refine RW.gd rfl rfl rfl ?_ rfl (LO.conv_in rfl rfl ty5 ty3 ?_) ?_; (· (first | rfl | assumption)); (· (first | exact IntWalk.i64_in _ (by omega) | assumption))
      refine RW.gd rfl rfl rfl ?_ rfl (LO.shl rfl rfl rfl ?_) ?_; (· (first | rfl | assumption)); (· (first | omega | decide | assumption | fail | (simp; done) | (simp; omega)))
      rw [hs4]
      refine RW.gd rfl rfl rfl ?_ rfl (LO.add_in rfl rfl rfl ?_) ?_; (· (first | rfl | assumption)); (· (first | exact IntWalk.i64_in _ (by omega) | assumption))
      refine RW.gd rfl rfl rfl ?_ rfl (LO.move rfl rfl) ?_; (· (first | rfl | assumption))
      refine RW.gd rfl rfl rfl ?_ rfl (LO.indexAddr_isl rfl rfl rfl rfl rfl ty25 ty5 ?_) ?_; (· (first | rfl | assumption)); (· (first | omega | decide | assumption | fail | (simp; done) | (simp; omega)))
      refine RW.gd rfl rfl rfl ?_ rfl (LO.load_imm rfl rfl hat5 ty5 rfl) ?_; (· (first | rfl | assumption))
      refine RW.gd rfl rfl rfl ?_ rfl (LO.conv_in rfl rfl ty5 ty3 ?_) ?_; (· (first | rfl | assumption)); (· (first | exact IntWalk.i64_in _ (by omega) | assumption))
      refine RW.gd rfl rfl rfl ?_ rfl (LO.add_in rfl rfl rfl ?_) ?_; (· (first | rfl | assumption)); (· (first | exact IntWalk.i64_in _ (by omega) | assumption))
      refine RW.gd rfl rfl rfl ?_ rfl (LO.lss rfl rfl rfl) ?_; (· (first | rfl | assumption))
      refine RW.opd rfl rfl (LO.pick_f rfl rfl ?_ rfl) ?_; (· (first | rfl | assumption))
      refine RW.nil ⟨by kernel_rfl, ?_⟩
      repeat (refine W.seq ?_)
      refine W.cond_t rfl (by first | rfl | assumption) ?_
      repeat (refine W.seq ?_)
      refine W.region 78 81 (by decide) rfl rfl ?_
      refine RW.opd rfl rfl (LO.build_st rfl ty27 .nil) ?_
      refine RW.opn rfl rfl (LO.store rfl rfl rfl rfl rfl ty27 rfl (by decide) (Sp.lit rfl)) ?_
      refine RW.opd rfl rfl (LO.assign rfl rfl) ?_
      refine RW.nil ?_
      refine W.nilc (q := 0) (j := 8) rfl rfl (Sp.lit rfl) ?_
      repeat (refine W.seq ?_)
      refine W.ret ⟨.inl rfl, _, mt, (RVs.cons (RV.cellA rfl rfl ty27 rfl (Tk.lit rfl)) (RVs.cons (RV.tmp rfl) RVs.nil)), (by (repeat' (first | exact all_mt | refine all_up ?_ ?_)) <;> rfl), ?_⟩
      exact ⟨rfl, rfl⟩
    · have g2 : decide ((b.length : Int) < 40) = false := decide_eq_false (by omega)
      have g3 : decide ((b.length : Int) < 40 + gB b 4 * 256 + gB b 5) = false := decide_eq_false (by omega)
      have hat4 := by_at (l := b) (k := 4) (by omega)
      have hat5 := by_at (l := b) (k := 5) (by omega)
      have hat6 := by_at (l := b) (k := 6) (by omega)
      have hat7 := by_at (l := b) (k := 7) (by omega)
      have b6 := hB.at 6
      have b7 := hB.at 7
      have hl1 : ((b.drop 8).take (24 - 8)).length = 16 := by rw [List.length_take, List.length_drop]; omega
      have hl2 : ((b.drop 24).take (40 - 24)).length = 16 := by rw [List.length_take, List.length_drop]; omega
      have hf1 := fromX_any ((b.drop 8).take (24 - 8)) ((hB.drop 8).take _) (.inr hl1)
      have hf2 := fromX_any ((b.drop 24).take (40 - 24)) ((hB.drop 24).take _) (.inr hl2)
      rw [hl1] at hf1
      rw [hl2] at hf2
      have hw4 : 40 + w - 40 = w := by omega
      have hdl : ((b.drop 40).take (40 + w - 40)).length = 40 + w - 40 := by rw [List.length_take, List.length_drop]; omega
      have hend := ended_any (p6 b)
      rw [hp6, pk_lit2] at hend
      dsimp only at hend
      rw [← hw4, hdl] at hend
      rw [hc, hp6, ← hw4]
      unfold rdV at hend ⊢
      obtain ⟨E, hE⟩ : ∃ E, fin ⟨fbA true ((b.drop 8).take 16), fbA true ((b.drop 24).take 16), gB b 6, gB b 7, (b.drop 40).take (40 + w - 40)⟩ 0 = E := ⟨_, rfl⟩
      rw [hE] at hend ⊢
      obtain ⟨Q, hQ⟩ : ∃ Q, (if E = 0 then (⟨fbA true ((b.drop 8).take 16), fbA true ((b.drop 24).take 16), gB b 6, gB b 7, (b.drop 40).take (40 + w - 40)⟩ : Pk) else zPk) = Q := ⟨_, rfl⟩
      rw [hQ] at hend ⊢
      unfold adC at hf1 hf2
      repeat (refine W.seq ?_)
      refine W.regionD 55 74 (by decide) rfl mixed rfl ?_
      refine RW.opd rfl rfl (LO.move rfl rfl) ?_
      refine RW.opd rfl rfl (LO.len_isl rfl rfl rfl ty25) ?_
      refine RW.opd rfl rfl (LO.lss rfl rfl rfl) ?_
      refine RW.opd rfl rfl (LO.move rfl rfl) ?_
      refine RW.gd rfl rfl rfl ?_ rfl (LO.move rfl rfl) ?_; (· (first | rfl | assumption))
      refine RW.gd rfl rfl rfl ?_ rfl (LO.len_isl rfl rfl rfl ty25) ?_; (· (first | rfl | assumption))
      refine RW.gd rfl rfl rfl ?_ rfl (LO.move rfl rfl) ?_; (· (first | rfl | assumption))
      refine RW.gd rfl rfl rfl ?_ rfl (LO.indexAddr_isl rfl rfl rfl rfl rfl ty25 ty5 ?_) ?_; (· (first | rfl | assumption)); (· (first | omega | decide | assumption | fail | (simp; done) | (simp; omega)))
      refine RW.gd rfl rfl rfl ?_ rfl (LO.load_imm rfl rfl hat4 ty5 rfl) ?_; (· (first | rfl | assumption))
      refine RW.gd rfl rfl rfl ?_ rfl (LO.conv_in rfl rfl ty5 ty3 ?_) ?_; (· (first | rfl | assumption)); (· (first | exact IntWalk.i64_in _ (by omega) | assumption))
      refine RW.gd rfl rfl rfl ?_ rfl (LO.shl rfl rfl rfl ?_) ?_; (· (first | rfl | assumption)); (· (first | omega | decide | assumption | fail | (simp; done) | (simp; omega)))
      rw [hs4]
      refine RW.gd rfl rfl rfl ?_ rfl (LO.add_in rfl rfl rfl ?_) ?_; (· (first | rfl | assumption)); (· (first | exact IntWalk.i64_in _ (by omega) | assumption))
      refine RW.gd rfl rfl rfl ?_ rfl (LO.move rfl rfl) ?_; (· (first | rfl | assumption))
      refine RW.gd rfl rfl rfl ?_ rfl (LO.indexAddr_isl rfl rfl rfl rfl rfl ty25 ty5 ?_) ?_; (· (first | rfl | assumption)); (· (first | omega | decide | assumption | fail | (simp; done) | (simp; omega)))
      refine RW.gd rfl rfl rfl ?_ rfl (LO.load_imm rfl rfl hat5 ty5 rfl) ?_; (· (first | rfl | assumption))
      refine RW.gd rfl rfl rfl ?_ rfl (LO.conv_in rfl rfl ty5 ty3 ?_) ?_; (· (first | rfl | assumption)); (· (first | exact IntWalk.i64_in _ (by omega) | assumption))
      refine RW.gd rfl rfl rfl ?_ rfl (LO.add_in rfl rfl rfl ?_) ?_; (· (first | rfl | assumption)); (· (first | exact IntWalk.i64_in _ (by omega) | assumption))
      refine RW.gd rfl rfl rfl ?_ rfl (LO.lss rfl rfl rfl) ?_; (· (first | rfl | assumption))
      refine RW.opd rfl rfl (LO.pick_f rfl rfl ?_ rfl) ?_; (· (first | rfl | assumption))
      refine RW.nil ⟨by kernel_rfl, ?_⟩
      repeat (refine W.seq ?_)
      refine W.cond_f rfl (by first | rfl | assumption) ?_
      refine W.skip ?_
      repeat (refine W.seq ?_)
      refine W.regionD 85 96 (by decide) rfl mixed rfl ?_
      refine RW.opd rfl rfl (LO.move rfl rfl) ?_
      refine RW.opd rfl rfl (LO.indexAddr_isl rfl rfl rfl rfl rfl ty25 ty5 ?_) ?_; (· (first | omega | decide | assumption | fail | (simp; done) | (simp; omega)))
      refine RW.opd rfl rfl (LO.load_imm rfl rfl hat4 ty5 rfl) ?_
      refine RW.opd rfl rfl (LO.conv_in rfl rfl ty5 ty3 ?_) ?_; (· (first | exact IntWalk.i64_in _ (by omega) | assumption))
      refine RW.opd rfl rfl (LO.shl rfl rfl rfl ?_) ?_; (· (first | omega | decide | assumption | fail | (simp; done) | (simp; omega)))
      rw [hs4]
      refine RW.opd rfl rfl (LO.move rfl rfl) ?_
      refine RW.opd rfl rfl (LO.indexAddr_isl rfl rfl rfl rfl rfl ty25 ty5 ?_) ?_; (· (first | omega | decide | assumption | fail | (simp; done) | (simp; omega)))
      refine RW.opd rfl rfl (LO.load_imm rfl rfl hat5 ty5 rfl) ?_
      refine RW.opd rfl rfl (LO.conv_in rfl rfl ty5 ty3 ?_) ?_; (· (first | exact IntWalk.i64_in _ (by omega) | assumption))
      refine RW.opd rfl rfl (LO.add_in rfl rfl rfl ?_) ?_; (· (first | exact IntWalk.i64_in _ (by omega) | assumption))
      rw [hw0]
      refine RW.opd rfl rfl (LO.assign rfl rfl) ?_
      refine RW.nil ⟨by kernel_rfl, ?_⟩
      repeat (refine W.seq ?_)
      refine W.region 100 109 (by decide) rfl rfl ?_
      refine RW.opd rfl rfl (LO.move rfl rfl) ?_
      refine RW.opd rfl rfl (LO.slice_isl rfl rfl rfl (Bnd.at rfl rfl) (Bnd.at rfl rfl) ?_ ?_ ty25 ty5 (by_part (l := b) (k := 8) (m := 24) (by decide) (by omega))) ?_; (· (first | omega | decide | assumption | fail | (simp; done) | (simp; omega))); (· (first | omega | decide | assumption | fail | (simp; done) | (simp; omega)))
      refine RW.opd rfl rfl (LO.call0 (fr := []) rfl rfl (hf1) fok43 (.cons rfl (.pure rfl) .nil) rfl) ?_
      refine RW.opd rfl rfl (LO.move rfl rfl) ?_
      refine RW.opd rfl rfl (LO.extract rfl rfl rfl) ?_
      refine RW.opd rfl rfl (LO.extract rfl rfl rfl) ?_
      refine RW.opd rfl rfl (LO.alloc rfl ty24) ?_
      refine RW.opn rfl rfl (LO.store rfl rfl rfl rfl rfl ty24 rfl (by decide) (Sp.lit rfl)) ?_
      refine RW.opd rfl rfl (LO.assign rfl rfl) ?_
      refine RW.nil ?_
      repeat (refine W.seq ?_)
      refine W.region 113 122 (by decide) rfl rfl ?_
      refine RW.opd rfl rfl (LO.move rfl rfl) ?_
      refine RW.opd rfl rfl (LO.slice_isl rfl rfl rfl (Bnd.at rfl rfl) (Bnd.at rfl rfl) ?_ ?_ ty25 ty5 (by_part (l := b) (k := 24) (m := 40) (by decide) (by omega))) ?_; (· (first | omega | decide | assumption | fail | (simp; done) | (simp; omega))); (· (first | omega | decide | assumption | fail | (simp; done) | (simp; omega)))
      refine RW.opd rfl rfl (LO.call0 (fr := []) rfl rfl (hf2) fok43 (.cons rfl (.pure rfl) .nil) rfl) ?_
      refine RW.opd rfl rfl (LO.move rfl rfl) ?_
      refine RW.opd rfl rfl (LO.extract rfl rfl rfl) ?_
      refine RW.opd rfl rfl (LO.extract rfl rfl rfl) ?_
      refine RW.opd rfl rfl (LO.alloc rfl ty24) ?_
      refine RW.opn rfl rfl (LO.store rfl rfl rfl rfl rfl ty24 rfl (by decide) (Sp.lit rfl)) ?_
      refine RW.opd rfl rfl (LO.assign rfl rfl) ?_
      refine RW.nil ?_
      have h40w : (40 : Int) + (w : Int) = ((40 + w : Nat) : Int) := by omega
      repeat (refine W.seq ?_)
      refine W.regionD 126 147 (by decide) rfl mixed rfl ?_
      refine RW.opd rfl rfl (LO.load_agg rfl rfl rfl ty24 rfl (Tk.lit rfl)) ?_
      refine RW.opd rfl rfl (LO.load_agg rfl rfl rfl ty24 rfl (Tk.lit rfl)) ?_
      refine RW.opd rfl rfl (LO.move rfl rfl) ?_
      refine RW.opd rfl rfl (LO.indexAddr_isl rfl rfl rfl rfl rfl ty25 ty5 ?_) ?_; (· (first | omega | decide | assumption | fail | (simp; done) | (simp; omega)))
      refine RW.opd rfl rfl (LO.load_imm rfl rfl hat6 ty5 rfl) ?_
      refine RW.opd rfl rfl (LO.conv_in rfl rfl ty5 ty3 ?_) ?_; (· (first | exact IntWalk.i64_in _ (by omega) | assumption))
      refine RW.opd rfl rfl (LO.move rfl rfl) ?_
      refine RW.opd rfl rfl (LO.indexAddr_isl rfl rfl rfl rfl rfl ty25 ty5 ?_) ?_; (· (first | omega | decide | assumption | fail | (simp; done) | (simp; omega)))
      refine RW.opd rfl rfl (LO.load_imm rfl rfl hat7 ty5 rfl) ?_
      refine RW.opd rfl rfl (LO.conv_in rfl rfl ty5 ty3 ?_) ?_; (· (first | exact IntWalk.i64_in _ (by omega) | assumption))
      refine RW.opd rfl rfl (LO.move rfl rfl) ?_
      refine RW.opd rfl rfl (LO.move rfl rfl) ?_
      refine RW.opd rfl rfl (LO.add_in rfl rfl rfl ?_) ?_; (· (first | exact IntWalk.i64_in _ (by omega) | assumption))
      refine RW.opd rfl rfl (LO.slice_isl rfl rfl rfl (Bnd.at rfl rfl) (Bnd.at rfl rfl) ?_ ?_ ty25 ty5 (by_part (l := b) (k := 40) (m := 40 + w) (by omega) (by omega))) ?_; (· (first | omega | decide | assumption | fail | (simp; done) | (simp; omega))); (· (first | omega | decide | assumption | fail | (simp; done) | (simp; omega)))
      refine RW.opd rfl rfl (LO.append_nil rfl rfl (SrcAV.isl rfl rfl (by rw [bytesC_len, hdl]; omega)) ty25 ty25 ty5 (by decide) (by omega) (by omega) (by decide)) ?_
      refine RW.opd rfl rfl (LO.build_st rfl ty27 (.cons rfl rfl rfl rfl (Sp.lit rfl) (.cons rfl rfl rfl rfl (Sp.lit rfl) (.cons rfl rfl rfl rfl (Sp.lit rfl) (.cons rfl rfl rfl rfl (Sp.lit rfl) (.cons rfl rfl rfl rfl (Sp.lit rfl) .nil)))))) ?_
      refine RW.opd rfl rfl (LO.call0 (fr := [140]) rfl rfl (hend) fok44 (.cons rfl (.agg (.cons (.same rfl) (.cons (.same rfl) (.cons (.same rfl) (.cons (.same rfl) (.cons (.same rfl) (.cons (.same rfl) (.cons (.same rfl) (.cons (.same rfl) (.cons (.osl (by decide) rfl (bytes_tk hdl) (bytesC_pure _)) .nil)))))))))) .nil) rfl) ?_
      refine RW.opd rfl rfl (LO.extract rfl rfl rfl) ?_
      refine RW.opd rfl rfl (LO.extract rfl rfl rfl) ?_
      refine RW.opn rfl rfl (LO.store rfl rfl rfl rfl rfl ty27 rfl (by decide) (Sp.lit rfl)) ?_
      refine RW.opd rfl rfl (LO.assign rfl rfl) ?_
      refine RW.nil ⟨by kernel_rfl, ?_⟩
      repeat (refine W.seq ?_)
      refine W.ret ⟨.inl rfl, _, mt, (RVs.cons (RV.cellA rfl rfl ty27 rfl (pk_tk Q)) (RVs.cons (RV.tmp rfl) RVs.nil)), (by (repeat' (first | exact all_mt | refine all_up ?_ ?_)) <;> rfl), ?_⟩
      exact ⟨rfl, rfl⟩
end Go.Proofs.Ytoijkcnefnmbjaa
