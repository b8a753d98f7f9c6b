/-
  A message that was forwarded, or whose data or address was changed in one bit, is refused: the statement's function answers true.
-/
import Derived.Test.YtoijkcnefnmbjaaQs
import Derived.Test.YtoijkcnefnmbjaaQr
namespace Go.Proofs.Ytoijkcnefnmbjaa
open Go.RowKit
theorem pk_lit (s d : Ad) (t : Int) (bs : List Int) : pkC ⟨s, d, 58, t, bs⟩ = [.base (.bool s.v6), .base (.int .u64 s.hi), .base (.int .u64 s.lo), .base (.bool d.v6), .base (.int .u64 d.hi), .base (.int .u64 d.lo), .base (.int .i64 58), .base (.int .i64 t), .isl (bytesC bs) bs.length] := rfl
theorem sh8 : ∀ r : Nat, r < 8 → IntKind.u8.wrap (1 * 2 ^ (min ((r : Int)).toNat IntKind.u8.bits)) = ((2 ^ r : Nat) : Int) := by decide
theorem sh64 : ∀ r : Nat, r < 64 → IntKind.u64.wrap (1 * 2 ^ (min ((r : Int)).toNat IntKind.u64.bits)) = ((2 ^ r : Nat) : Int) := by decide +kernel
theorem emod_nat (v : Int) {n : Nat} (hn : 0 < n) : ∃ k : Nat, v % (n : Int) = (k : Int) ∧ k < n := by
  have h0 := Int.emod_nonneg v (show (n : Int) ≠ 0 by omega)
  have h1 := Int.emod_lt_of_pos v (show 0 < (n : Int) by omega)
  exact ⟨(v % (n : Int)).toNat, by omega, by omega⟩
set_option maxHeartbeats 2000000 in
theorem far_law (l : List Int) (ttl bit : Int) (hl : l.length ≤ 9223372036854775807) : AFn Try.prog 7 0 [.isl (intsC l) l.length, .base (.int .i64 ttl), .base (.int .i64 bit)] mt (.base (.bool true)) mt := by
  refine AFn.eq Try.func7 rfl rfl (Nat.le_of_ble_eq_true rfl) ?_
  have hnew := new_any l
  obtain ⟨_, _, hmade, n, x, ⟨yv, yh, yl⟩, a1, ⟨hgn, hgx, hgy, hy⟩, rfl, rfl⟩ := made_any l 0 hl
  simp only at hy
  subst hy
  have henc := enc_any n x ⟨true, yh, yl⟩ hgn.1.1 hgn.1.2 hgn.2.1 hgn.2.2 hgx.1 hgx.2 hgy.1 hgy.2
  have haw := awake_any
  have htn := nbTk hgn
  have hnl : (nbC n).length = 12 := by simp [nbC, adC, bytesC_len, hgn.1.1]
  unfold intsC
  cases hok : okN n x ⟨true, yh, yl⟩ with
  | false =>
    rw [encV_bad hok] at henc
    have hzp := pk_pure zPk 1
    repeat (refine W.seq ?_)
    refine W.region 0 1 (by decide) rfl rfl ?_
    refine RW.opd rfl rfl (LO.assign rfl rfl) ?_
    refine RW.nil ?_
    repeat (refine W.seq ?_)
    refine W.region 5 18 (by decide) rfl rfl ?_
    refine RW.opd rfl rfl (LO.move rfl rfl) ?_
    refine RW.opd rfl rfl (LO.callN (fr := []) rfl rfl (hnew) fok11 (.cons rfl (.pure rfl) .nil) rfl (by decide)) ?_
    refine RW.opd rfl rfl (LO.call1 (fr := []) rfl rfl (hmade) fok23 (.own rfl rfl .nil) rfl rfl rfl (List.cons_ne_nil _ _) (by decide) (made_pure n x ⟨true, yh, yl⟩)) ?_
    refine RW.opd rfl rfl (LO.move rfl rfl) ?_
    refine RW.opd rfl rfl (LO.extract rfl rfl rfl) ?_
    refine RW.opd rfl rfl (LO.extract rfl rfl rfl) ?_
    refine RW.opd rfl rfl (LO.extract rfl rfl rfl) ?_
    refine RW.opd rfl rfl (LO.alloc rfl ty52) ?_
    refine RW.opd rfl rfl (LO.alloc rfl ty24) ?_
    refine RW.opd rfl rfl (LO.alloc rfl ty24) ?_
    refine RW.opn rfl rfl (LO.store rfl rfl rfl rfl rfl ty52 hnl (by decide) (Sp.of_all hnl)) ?_
    refine RW.opn rfl rfl (LO.store rfl rfl rfl rfl rfl ty24 rfl (by decide) (Sp.lit rfl)) ?_
    refine RW.opn rfl rfl (LO.store rfl rfl rfl rfl rfl ty24 rfl (by decide) (Sp.lit rfl)) ?_
    refine RW.nil ?_
    unfold adC at henc ⊢
    repeat (refine W.seq ?_)
    refine W.region 22 32 (by decide) rfl rfl ?_
    refine RW.opd rfl rfl (LO.load_agg rfl rfl rfl ty52 rfl htn) ?_
    refine RW.opd rfl rfl (LO.load_agg rfl rfl rfl ty24 rfl (Tk.lit rfl)) ?_
    refine RW.opd rfl rfl (LO.load_agg rfl rfl rfl ty24 rfl (Tk.lit rfl)) ?_
    refine RW.opd rfl rfl (LO.call0 (fr := []) rfl rfl (henc) fok24 (.cons rfl (.pure (nbC_pure n)) (.cons rfl (.pure rfl) (.cons rfl (.pure rfl) .nil))) rfl) ?_
    refine RW.opd rfl rfl (LO.move rfl rfl) ?_
    refine RW.opd rfl rfl (LO.extract rfl rfl rfl) ?_
    refine RW.opd rfl rfl (LO.extract rfl rfl rfl) ?_
    refine RW.opd rfl rfl (LO.alloc rfl ty27) ?_
    refine RW.opn rfl rfl (LO.store rfl rfl rfl rfl rfl ty27 rfl (by decide) (Sp.lit rfl)) ?_
    refine RW.opd rfl rfl (LO.assign rfl rfl) ?_
    refine RW.nil ?_
    repeat (refine W.seq ?_)
    refine W.region 36 44 (by decide) rfl rfl ?_
    refine RW.opd rfl rfl (LO.move rfl rfl) ?_
    refine RW.opd rfl rfl (LO.neq rfl rfl rfl) ?_
    refine RW.opd rfl rfl (LO.move rfl rfl) ?_
    refine RW.sd rfl rfl rfl ?_ rfl ?_; (· (first | rfl | assumption))
    refine RW.sd rfl rfl rfl ?_ rfl ?_; (· (first | rfl | assumption))
    refine RW.sd rfl rfl rfl ?_ rfl ?_; (· (first | rfl | assumption))
    refine RW.sd rfl rfl rfl ?_ rfl ?_; (· (first | rfl | assumption))
    refine RW.opd rfl rfl (LO.pick_t rfl rfl ?_ rfl) ?_; (· (first | rfl | assumption))
    refine RW.nil ?_
    repeat (refine W.seq ?_)
    refine W.cond_t rfl (by first | rfl | assumption) ?_
    repeat (refine W.seq ?_)
    refine W.region 48 50 (by decide) rfl rfl ?_
    refine RW.opd rfl rfl (LO.call0 (fr := []) rfl rfl (haw) fok28 .nil rfl) ?_
    refine RW.opd rfl rfl (LO.assign rfl rfl) ?_
    refine RW.nil ?_
    repeat (refine W.seq ?_)
    refine W.ret ⟨.inl rfl, _, mt, (RVs.cons (RV.tmp rfl) RVs.nil), (by (repeat' (first | exact all_mt | refine all_up ?_ ?_)) <;> rfl), ?_⟩
    exact ⟨rfl, rfl⟩
  | true =>
    obtain ⟨hvn, hx6, hy6⟩ := okN_parts hok
    rw [encV_ok hok] at henc
    have hB := enc_isB hgn x ⟨true, yh, yl⟩
    have hz := enc_zero hgn x ⟨true, yh, yl⟩
    have hln := enc_len hgn x ⟨true, yh, yl⟩
    have hfar := fun T h0 h1 => far_dec (T := T) hgn hx6 hy6 h0 h1
    rw [show encN n x ⟨true, yh, yl⟩ = ⟨x, ⟨true, yh, yl⟩, 58, 255, (encN n x ⟨true, yh, yl⟩).bs⟩ from rfl] at henc
    obtain ⟨bs, hbs⟩ : ∃ bs, (encN n x ⟨true, yh, yl⟩).bs = bs := ⟨_, rfl⟩
    rw [hbs] at henc hB hz hln
    have hpp := pk_pure ⟨x, ⟨true, yh, yl⟩, 58, 255, bs⟩ 0
    rw [pk_lit] at henc hpp
    obtain ⟨tn, htn1, htn2⟩ := emod_nat ttl (show 0 < 255 by decide)
    have hm1 := mod_any ttl 255 (by decide) (by decide)
    rw [show ttl % 255 = (tn : Int) from htn1] at hm1
    have hd1 := dec_any ⟨x, ⟨true, yh, yl⟩, 58, (tn : Int), bs⟩ hB hgx.1 hgx.2 hgy.1 hgy.2
    have hf1 := hfar (tn : Int) (by omega) (by omega)
    rw [hbs] at hf1
    unfold decV at hd1
    rw [hf1, pk_lit] at hd1
    dsimp only at hd1
    have hnn : ∀ e, AV.pure (.tup [.agg (nbC zNb), .base (.int .i64 e)]) = true := fun e => nbt_pure zNb e
    obtain ⟨kn, hk1, hk2⟩ := emod_nat bit (show 0 < 8 * bs.length by omega)
    have hm2 := mod_any bit (8 * bs.length : Nat) (by omega) (by omega)
    rw [hk1, show ((8 * bs.length : Nat) : Int) = 8 * (bs.length : Int) from by omega] at hm2
    have hg4 : decide ((bs.length : Int) < 4) = false := decide_eq_false (by omega)
    repeat (refine W.seq ?_)
    refine W.region 0 1 (by decide) rfl rfl ?_
    refine RW.opd rfl rfl (LO.assign rfl rfl) ?_
    refine RW.nil ?_
    repeat (refine W.seq ?_)
    refine W.region 5 18 (by decide) rfl rfl ?_
    refine RW.opd rfl rfl (LO.move rfl rfl) ?_
    refine RW.opd rfl rfl (LO.callN (fr := []) rfl rfl (hnew) fok11 (.cons rfl (.pure rfl) .nil) rfl (by decide)) ?_
    refine RW.opd rfl rfl (LO.call1 (fr := []) rfl rfl (hmade) fok23 (.own rfl rfl .nil) rfl rfl rfl (List.cons_ne_nil _ _) (by decide) (made_pure n x ⟨true, yh, yl⟩)) ?_
    refine RW.opd rfl rfl (LO.move rfl rfl) ?_
    refine RW.opd rfl rfl (LO.extract rfl rfl rfl) ?_
    refine RW.opd rfl rfl (LO.extract rfl rfl rfl) ?_
    refine RW.opd rfl rfl (LO.extract rfl rfl rfl) ?_
    refine RW.opd rfl rfl (LO.alloc rfl ty52) ?_
    refine RW.opd rfl rfl (LO.alloc rfl ty24) ?_
    refine RW.opd rfl rfl (LO.alloc rfl ty24) ?_
    refine RW.opn rfl rfl (LO.store rfl rfl rfl rfl rfl ty52 hnl (by decide) (Sp.of_all hnl)) ?_
    refine RW.opn rfl rfl (LO.store rfl rfl rfl rfl rfl ty24 rfl (by decide) (Sp.lit rfl)) ?_
    refine RW.opn rfl rfl (LO.store rfl rfl rfl rfl rfl ty24 rfl (by decide) (Sp.lit rfl)) ?_
    refine RW.nil ?_
    unfold adC at henc ⊢
    repeat (refine W.seq ?_)
    refine W.region 22 32 (by decide) rfl rfl ?_
    refine RW.opd rfl rfl (LO.load_agg rfl rfl rfl ty52 rfl htn) ?_
    refine RW.opd rfl rfl (LO.load_agg rfl rfl rfl ty24 rfl (Tk.lit rfl)) ?_
    refine RW.opd rfl rfl (LO.load_agg rfl rfl rfl ty24 rfl (Tk.lit rfl)) ?_
    refine RW.opd rfl rfl (LO.call0 (fr := []) rfl rfl (henc) fok24 (.cons rfl (.pure (nbC_pure n)) (.cons rfl (.pure rfl) (.cons rfl (.pure rfl) .nil))) rfl) ?_
    refine RW.opd rfl rfl (LO.move rfl rfl) ?_
    refine RW.opd rfl rfl (LO.extract rfl rfl rfl) ?_
    refine RW.opd rfl rfl (LO.extract rfl rfl rfl) ?_
    refine RW.opd rfl rfl (LO.alloc rfl ty27) ?_
    refine RW.opn rfl rfl (LO.store rfl rfl rfl rfl rfl ty27 rfl (by decide) (Sp.lit rfl)) ?_
    refine RW.opd rfl rfl (LO.assign rfl rfl) ?_
    refine RW.nil ?_
    repeat (refine W.seq ?_)
    refine W.region 36 44 (by decide) rfl rfl ?_
    refine RW.opd rfl rfl (LO.move rfl rfl) ?_
    refine RW.opd rfl rfl (LO.neq rfl rfl rfl) ?_
    refine RW.opd rfl rfl (LO.move rfl rfl) ?_
    refine RW.gd rfl rfl rfl ?_ rfl (LO.fieldAddr rfl rfl ty27 rfl (by decide)) ?_; (· (first | rfl | assumption))
    refine RW.gd rfl rfl rfl ?_ rfl (LO.load rfl rfl rfl rfl ty25 rfl) ?_; (· (first | rfl | assumption))
    refine RW.gd rfl rfl rfl ?_ rfl (LO.len_isl rfl rfl rfl ty25) ?_; (· (first | rfl | assumption))
    refine RW.gd rfl rfl rfl ?_ rfl (LO.lss rfl rfl rfl) ?_; (· (first | rfl | assumption))
    refine RW.opd rfl rfl (LO.pick_f rfl rfl ?_ rfl) ?_; (· (first | rfl | assumption))
    refine RW.nil ?_
    repeat (refine W.seq ?_)
    refine W.cond_f rfl (by first | rfl | assumption) ?_
    refine W.skip ?_
    repeat (refine W.seq ?_)
    refine W.regionD 54 63 (by decide) rfl mixed rfl ?_
    refine RW.opd rfl rfl (LO.load_agg rfl rfl rfl ty27 rfl (Tk.lit rfl)) ?_
    refine RW.opd rfl rfl (LO.load_agg rfl rfl rfl ty27 rfl (Tk.lit rfl)) ?_
    refine RW.opd rfl rfl (LO.load_agg rfl rfl rfl ty27 rfl (Tk.lit rfl)) ?_
    refine RW.opd rfl rfl (LO.alloc rfl ty27) ?_
    refine RW.opd rfl rfl (LO.alloc rfl ty27) ?_
    refine RW.opd rfl rfl (LO.alloc rfl ty27) ?_
    refine RW.opn rfl rfl (LO.store rfl rfl rfl rfl rfl ty27 rfl (by decide) (Sp.lit rfl)) ?_
    refine RW.opn rfl rfl (LO.store rfl rfl rfl rfl rfl ty27 rfl (by decide) (Sp.lit rfl)) ?_
    refine RW.opn rfl rfl (LO.store rfl rfl rfl rfl rfl ty27 rfl (by decide) (Sp.lit rfl)) ?_
    refine RW.nil ⟨by kernel_rfl, ?_⟩
    repeat (refine W.seq ?_)
    refine W.region 67 71 (by decide) rfl rfl ?_
    refine RW.opd rfl rfl (LO.move rfl rfl) ?_
    refine RW.opd rfl rfl (LO.call0 (fr := []) rfl rfl (hm1) fok17 (.cons rfl (.pure rfl) (.cons rfl (.pure rfl) .nil)) rfl) ?_
    refine RW.opd rfl rfl (LO.fieldAddr rfl rfl ty27 rfl (by decide)) ?_
    refine RW.opn rfl rfl (LO.store rfl rfl rfl rfl rfl ty3 rfl (by decide) (Sp.lit rfl)) ?_
    refine RW.nil ?_
    repeat (refine W.seq ?_)
    refine W.region 75 83 (by decide) rfl rfl ?_
    refine RW.opd rfl rfl (LO.load_agg rfl rfl rfl ty27 rfl (Tk.lit rfl)) ?_
    refine RW.opd rfl rfl (LO.call0 (fr := []) rfl rfl (hd1) fok32 (.cons rfl (.pure rfl) .nil) rfl) ?_
    refine RW.opd rfl rfl (LO.move rfl rfl) ?_
    refine RW.opd rfl rfl (LO.extract rfl rfl rfl) ?_
    refine RW.opd rfl rfl (LO.extract rfl rfl rfl) ?_
    refine RW.opd rfl rfl (LO.alloc rfl ty52) ?_
    refine RW.opn rfl rfl (LO.store rfl rfl rfl rfl rfl ty52 rfl (by decide) (Sp.lit rfl)) ?_
    refine RW.opd rfl rfl (LO.assign rfl rfl) ?_
    refine RW.nil ?_
    repeat (refine W.seq ?_)
    refine W.region 87 92 (by decide) rfl rfl ?_
    refine RW.opd rfl rfl (LO.fieldAddr rfl rfl ty27 rfl (by decide)) ?_
    refine RW.opd rfl rfl (LO.load rfl rfl rfl rfl ty25 rfl) ?_
    refine RW.opd rfl rfl (LO.append_nil rfl rfl (SrcAV.isl rfl rfl (by simp [bytesC_len])) ty25 ty25 ty5 (by decide) (by omega) (by omega) (by decide)) ?_
    refine RW.opd rfl rfl (LO.fieldAddr rfl rfl ty27 rfl (by decide)) ?_
    refine RW.opn rfl rfl (LO.store rfl rfl rfl rfl rfl ty25 rfl (by decide) (Sp.lit rfl)) ?_
    refine RW.nil ?_
    repeat (refine W.seq ?_)
    refine W.region 96 103 (by decide) rfl rfl ?_
    refine RW.opd rfl rfl (LO.move rfl rfl) ?_
    refine RW.opd rfl rfl (LO.fieldAddr rfl rfl ty27 rfl (by decide)) ?_
    refine RW.opd rfl rfl (LO.load rfl rfl rfl rfl ty25 rfl) ?_
    refine RW.opd rfl rfl (LO.len rfl rfl ty25) ?_
    refine RW.opd rfl rfl (LO.mul_in rfl rfl rfl ?_) ?_; (· (first | exact IntWalk.i64_in _ (by omega) | assumption))
    refine RW.opd rfl rfl (LO.call0 (fr := []) rfl rfl (hm2) fok17 (.cons rfl (.pure rfl) (.cons rfl (.pure rfl) .nil)) rfl) ?_
    refine RW.opd rfl rfl (LO.assign rfl rfl) ?_
    refine RW.nil ?_
    repeat (refine W.seq ?_)
    refine W.region 107 120 (by decide) rfl rfl ?_
    refine RW.opd rfl rfl (LO.fieldAddr rfl rfl ty27 rfl (by decide)) ?_
    refine RW.opd rfl rfl (LO.load rfl rfl rfl rfl ty25 rfl) ?_
    refine RW.opd rfl rfl (LO.move rfl rfl) ?_
    refine RW.opd rfl rfl (LO.quo_in rfl rfl rfl ?_ ?_ ?_) ?_; (· (first | omega | decide | assumption | fail | (simp; done) | (simp; omega))); (· (first | omega | decide | assumption | fail | (simp; done) | (simp; omega))); (· (first | exact IntWalk.i64_in _ (by omega) | assumption))
    refine RW.opd rfl rfl (LO.indexAddr rfl rfl rfl rfl ty25 ty5 ?_) ?_; (· (first | omega | decide | assumption | fail | (simp; done) | (simp; omega)))
    refine RW.opd rfl rfl (LO.load rfl rfl rfl (by_at0 (k := kn / 8) (by omega)) ty5 rfl) ?_
    refine RW.opd rfl rfl (LO.move rfl rfl) ?_
    refine RW.opd rfl rfl (LO.rem_in rfl rfl rfl ?_ ?_) ?_; (· (first | omega)); (· (first | omega | decide | assumption | fail | (simp; done) | (simp; omega)))
    refine RW.opd rfl rfl (LO.conv_in rfl rfl ty3 ty42 ?_) ?_; (· (first | exact IntWalk.u64_in _ (by omega) | assumption))
    refine RW.opd rfl rfl (LO.shl rfl rfl rfl ?_) ?_; (· (first | omega | decide | assumption | fail | (simp; done) | (simp; omega)))
    have hsh := sh8 (kn % 8) (by omega)
    rw [show ((kn % 8 : Nat) : Int) = (kn : Int) % 8 from by omega] at hsh
    rw [hsh]
    refine RW.opd rfl rfl (LO.xor rfl rfl rfl) ?_
    rw [xor8 (hB.at _) (by omega)]
    refine RW.opd rfl rfl (LO.indexAddr rfl rfl rfl rfl ty25 ty5 ?_) ?_; (· (first | omega | decide | assumption | fail | (simp; done) | (simp; omega)))
    refine RW.opn rfl rfl (LO.store rfl rfl rfl rfl rfl ty5 rfl (by decide) (by_sp (k := kn / 8) (by omega))) ?_
    refine RW.nil ?_
    refine W.frzc (q := 58) (j := 8) (r := 89) rfl rfl (by decide) rfl (bytes_tk (l := bs.set (kn / 8) (flipB (gB bs (kn / 8)) (kn % 8))) (by simp)) (bytesC_pure _) (Sp.lit rfl) ?_
    obtain ⟨b2, hb2⟩ : ∃ b2, bs.set (kn / 8) (flipB (gB bs (kn / 8)) (kn % 8)) = b2 := ⟨_, rfl⟩
    have hl2 : bs.length = b2.length := by rw [← hb2]; simp
    have hne := chk_flip (s := x) (d := ⟨true, yh, yl⟩) hB hz (k := kn / 8) (j := kn % 8) (by omega) (by omega)
    have hB2 : IsB b2 := by rw [← hb2]; exact hB.set _ (flipB_bd (hB.at _) (by omega)).2.1
    rw [hb2] at hne ⊢
    have hd2 := dec_any ⟨x, ⟨true, yh, yl⟩, 58, 255, b2⟩ hB2 hgx.1 hgx.2 hgy.1 hgy.2
    unfold decV at hd2
    rw [sum_dec hx6 rfl (by omega) (by omega) hne, pk_lit, ← hl2] at hd2
    dsimp only at hd2
    repeat (refine W.seq ?_)
    refine W.region 124 132 (by decide) rfl rfl ?_
    refine RW.opd rfl rfl (LO.load_agg rfl rfl rfl ty27 rfl (Tk.lit rfl)) ?_
    refine RW.opd rfl rfl (LO.call0 (fr := []) rfl rfl (hd2) fok32 (.cons rfl (.pure rfl) .nil) rfl) ?_
    refine RW.opd rfl rfl (LO.move rfl rfl) ?_
    refine RW.opd rfl rfl (LO.extract rfl rfl rfl) ?_
    refine RW.opd rfl rfl (LO.extract rfl rfl rfl) ?_
    refine RW.opd rfl rfl (LO.alloc rfl ty52) ?_
    refine RW.opn rfl rfl (LO.store rfl rfl rfl rfl rfl ty52 rfl (by decide) (Sp.lit rfl)) ?_
    refine RW.opd rfl rfl (LO.assign rfl rfl) ?_
    refine RW.nil ?_
    obtain ⟨jn, hj1, hj2⟩ := emod_nat bit (show 0 < 64 by decide)
    have hm3 := mod_any bit 64 (by decide) (by decide)
    rw [show bit % 64 = (jn : Int) from hj1] at hm3
    repeat (refine W.seq ?_)
    refine W.regionD 136 147 (by decide) rfl mixed rfl ?_
    refine RW.opd rfl rfl (LO.fieldAddr rfl rfl ty27 rfl (by decide)) ?_
    refine RW.opd rfl rfl (LO.fieldAddr rfl rfl ty24 rfl (by decide)) ?_
    refine RW.opd rfl rfl (LO.load rfl rfl rfl rfl ty22 rfl) ?_
    refine RW.opd rfl rfl (LO.move rfl rfl) ?_
    refine RW.opd rfl rfl (LO.call0 (fr := []) rfl rfl (hm3) fok17 (.cons rfl (.pure rfl) (.cons rfl (.pure rfl) .nil)) rfl) ?_
    refine RW.opd rfl rfl (LO.conv_in rfl rfl ty3 ty42 ?_) ?_; (· (first | exact IntWalk.u64_in _ (by omega) | assumption))
    refine RW.opd rfl rfl (LO.shl rfl rfl rfl ?_) ?_; (· (first | omega | decide | assumption | fail | (simp; done) | (simp; omega)))
    refine RW.opd rfl rfl (LO.xor rfl rfl rfl) ?_
    refine RW.opd rfl rfl (LO.fieldAddr rfl rfl ty27 rfl (by decide)) ?_
    refine RW.opd rfl rfl (LO.fieldAddr rfl rfl ty24 rfl (by decide)) ?_
    refine RW.opn rfl rfl (LO.store rfl rfl rfl rfl rfl ty22 rfl (by decide) (Sp.lit rfl)) ?_
    refine RW.nil ⟨by kernel_rfl, ?_⟩
    rw [sh64 jn hj2, (xor64 (a := yl) hgy.2 hj2).1]
    have hxu := (xor64 (a := yl) hgy.2 hj2).2
    have hd3 := dec_any ⟨x, loX ⟨true, yh, yl⟩ jn, 58, 255, bs⟩ hB hgx.1 hgx.2 hgy.1 hxu
    unfold decV at hd3
    rw [sum_dec hx6 rfl (by omega) (by omega) (chk_moved hB rfl hgy hz hj2), pk_lit] at hd3
    dsimp only [loX] at hd3
    repeat (refine W.seq ?_)
    refine W.region 151 159 (by decide) rfl rfl ?_
    refine RW.opd rfl rfl (LO.load_agg rfl rfl rfl ty27 rfl (Tk.lit rfl)) ?_
    refine RW.opd rfl rfl (LO.call0 (fr := []) rfl rfl (hd3) fok32 (.cons rfl (.pure rfl) .nil) rfl) ?_
    refine RW.opd rfl rfl (LO.move rfl rfl) ?_
    refine RW.opd rfl rfl (LO.extract rfl rfl rfl) ?_
    refine RW.opd rfl rfl (LO.extract rfl rfl rfl) ?_
    refine RW.opd rfl rfl (LO.alloc rfl ty52) ?_
    refine RW.opn rfl rfl (LO.store rfl rfl rfl rfl rfl ty52 rfl (by decide) (Sp.lit rfl)) ?_
    refine RW.opd rfl rfl (LO.assign rfl rfl) ?_
    refine RW.nil ?_
    repeat (refine W.seq ?_)
    refine W.region 163 177 (by decide) rfl rfl ?_
    refine RW.opd rfl rfl (LO.move rfl rfl) ?_
    refine RW.opd rfl rfl (LO.eql rfl rfl rfl) ?_
    refine RW.opd rfl rfl (LO.move rfl rfl) ?_
    refine RW.gd rfl rfl rfl ?_ rfl (LO.move rfl rfl) ?_; (· (first | rfl | assumption))
    refine RW.gd rfl rfl rfl ?_ rfl (LO.eql rfl rfl rfl) ?_; (· (first | rfl | assumption))
    refine RW.opd rfl rfl (LO.pick_t rfl rfl ?_ rfl) ?_; (· (first | rfl | assumption))
    refine RW.opd rfl rfl (LO.move rfl rfl) ?_
    refine RW.gd rfl rfl rfl ?_ rfl (LO.move rfl rfl) ?_; (· (first | rfl | assumption))
    refine RW.gd rfl rfl rfl ?_ rfl (LO.eql rfl rfl rfl) ?_; (· (first | rfl | assumption))
    refine RW.opd rfl rfl (LO.pick_t rfl rfl ?_ rfl) ?_; (· (first | rfl | assumption))
    refine RW.opd rfl rfl (LO.move rfl rfl) ?_
    refine RW.gd rfl rfl rfl ?_ rfl (LO.call0 (fr := []) rfl rfl (haw) fok28 .nil rfl) ?_; (· (first | rfl | assumption))
    refine RW.opd rfl rfl (LO.pick_t rfl rfl ?_ rfl) ?_; (· (first | rfl | assumption))
    refine RW.opd rfl rfl (LO.assign rfl rfl) ?_
    refine RW.nil ?_
    repeat (refine W.seq ?_)
    refine W.ret ⟨.inl rfl, _, mt, (RVs.cons (RV.tmp rfl) RVs.nil), (by (repeat' (first | exact all_mt | refine all_up ?_ ?_)) <;> rfl), ?_⟩
    exact ⟨rfl, rfl⟩
end Go.Proofs.Ytoijkcnefnmbjaa
