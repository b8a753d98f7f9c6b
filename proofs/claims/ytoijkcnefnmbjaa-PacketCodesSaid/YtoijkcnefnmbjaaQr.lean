/-
  A message is read back: the statement's function answers true.
-/
import Derived.Test.YtoijkcnefnmbjaaQq
namespace Go.Proofs.Ytoijkcnefnmbjaa
open Go.RowKit
def intsC (l : List Int) : List AV := l.map fun z => .base (.int .i64 z)
theorem nbTk {n : Nb} (h : GoodN n) : Tk (nbC n) 0 12 (nbC n) := by
  have := Tk.all (nbC n)
  rwa [show (nbC n).length = 12 from by simp [nbC, adC, bytesC_len, h.1.1]] at this
theorem made_pure (n : Nb) (x y : Ad) : AV.pure (.tup [.agg (nbC n), .agg (adC x), .agg (adC y)]) = true := by
  show (AV.pure2 (.agg (nbC n)) && (true && (true && true))) = true
  rw [Bool.and_true, Bool.and_true, Bool.and_true]; exact nbC_pure n
theorem eqN_self (n : Nb) : eqN n n = true := eqN_iff.2 rfl
set_option maxHeartbeats 8000000 in
theorem back_law (l : List Int) (hl : l.length ≤ 9223372036854775807) : AFn Try.prog 6 0 [.isl (intsC l) l.length] mt (.base (.bool true)) mt := by
  refine AFn.eq Try.func6 rfl rfl (Nat.le_of_ble_eq_true rfl) ?_
  have hnew := new_any l
  obtain ⟨_, _, hmade, n, x, y, a1, ⟨hgn, hgx, hgy, hy⟩, rfl, rfl⟩ := made_any l 0 hl
  have henc := enc_any n x y hgn.1.1 hgn.1.2 hgn.2.1 hgn.2.2 hgx.1 hgx.2 hgy.1 hgy.2
  have hval := nvalid_any n hgn.1.1
  have haw := awake_any
  have htn := nbTk hgn
  have hnl : (nbC n).length = 12 := by simp [nbC, adC, bytesC_len, hgn.1.1]
  unfold intsC
  cases hok : okN n x y with
  | false =>
    rw [encV_bad hok] at henc
    have hor : (!validN n) = true ∨ ((!validN n) = false ∧ (!x.v6) = true) := by
      unfold okN at hok
      rw [hy] at hok
      cases h0 : validN n <;> cases h : x.v6 <;> simp [h0, h] at hok ⊢
    have hzp := pk_pure zPk 1
    rcases hor with e1 | ⟨e1, e2⟩
    all_goals
      repeat (refine W.seq ?_)
      refine W.region 0 1 (by decide) rfl rfl ?_
      refine RW.opd rfl rfl (LO.assign rfl rfl) ?_
      refine RW.nil ?_
      repeat (refine W.seq ?_)
      refine W.region 5 18 (by decide) rfl rfl ?_
      refine RW.opd rfl rfl (LO.move rfl rfl) ?_
      refine RW.opd rfl rfl (LO.callN (fr := []) rfl rfl (hnew) fok11 (.cons rfl (.pure rfl) .nil) rfl (by decide)) ?_
      refine RW.opd rfl rfl (LO.call1 (fr := []) rfl rfl (hmade) fok23 (.own rfl rfl .nil) rfl rfl rfl (List.cons_ne_nil _ _) (by decide) (made_pure n x y)) ?_
      refine RW.opd rfl rfl (LO.move rfl rfl) ?_
      refine RW.opd rfl rfl (LO.extract rfl rfl rfl) ?_
      refine RW.opd rfl rfl (LO.extract rfl rfl rfl) ?_
      refine RW.opd rfl rfl (LO.extract rfl rfl rfl) ?_
      refine RW.opd rfl rfl (LO.alloc rfl ty52) ?_
      refine RW.opd rfl rfl (LO.alloc rfl ty24) ?_
      refine RW.opd rfl rfl (LO.alloc rfl ty24) ?_
      refine RW.opn rfl rfl (LO.store rfl rfl rfl rfl rfl ty52 hnl (by decide) (Sp.of_all hnl)) ?_
      refine RW.opn rfl rfl (LO.store rfl rfl rfl rfl rfl ty24 rfl (by decide) (Sp.lit rfl)) ?_
      refine RW.opn rfl rfl (LO.store rfl rfl rfl rfl rfl ty24 rfl (by decide) (Sp.lit rfl)) ?_
      refine RW.nil ?_
      unfold adC at henc ⊢
      repeat (refine W.seq ?_)
      refine W.region 22 32 (by decide) rfl rfl ?_
      refine RW.opd rfl rfl (LO.load_agg rfl rfl rfl ty52 rfl htn) ?_
      refine RW.opd rfl rfl (LO.load_agg rfl rfl rfl ty24 rfl (Tk.lit rfl)) ?_
      refine RW.opd rfl rfl (LO.load_agg rfl rfl rfl ty24 rfl (Tk.lit rfl)) ?_
      refine RW.opd rfl rfl (LO.call0 (fr := []) rfl rfl (henc) fok24 (.cons rfl (.pure (nbC_pure n)) (.cons rfl (.pure rfl) (.cons rfl (.pure rfl) .nil))) rfl) ?_
      refine RW.opd rfl rfl (LO.move rfl rfl) ?_
      refine RW.opd rfl rfl (LO.extract rfl rfl rfl) ?_
      refine RW.opd rfl rfl (LO.extract rfl rfl rfl) ?_
      refine RW.opd rfl rfl (LO.alloc rfl ty27) ?_
      refine RW.opn rfl rfl (LO.store rfl rfl rfl rfl rfl ty27 rfl (by decide) (Sp.lit rfl)) ?_
      refine RW.opd rfl rfl (LO.assign rfl rfl) ?_
      refine RW.nil ?_
      repeat (refine W.seq ?_)
      refine W.region 36 38 (by decide) rfl rfl ?_
      refine RW.opd rfl rfl (LO.move rfl rfl) ?_
      refine RW.opd rfl rfl (LO.neq rfl rfl rfl) ?_
      refine RW.nil ?_
      repeat (refine W.seq ?_)
      refine W.cond_t rfl (by first | rfl | assumption) ?_
      repeat (refine W.seq ?_)
      refine W.region 42 54 (by decide) rfl rfl ?_
      refine RW.opd rfl rfl (LO.load_agg rfl rfl rfl ty52 rfl htn) ?_
      refine RW.opd rfl rfl (LO.call0 (fr := []) rfl rfl (hval) fok26 (.cons rfl (.pure (nbC_pure n)) .nil) rfl) ?_
      refine RW.opd rfl rfl (LO.not rfl rfl) ?_
      refine RW.opd rfl rfl (LO.move rfl rfl) ?_
      first
          | (refine RW.sd rfl rfl rfl ?_ rfl ?_; (· (first | rfl | assumption)))
          | (refine RW.gd rfl rfl rfl ?_ rfl (LO.fieldAddr rfl rfl ty24 rfl (by decide)) ?_; (· (first | rfl | assumption)))
      first
          | (refine RW.sd rfl rfl rfl ?_ rfl ?_; (· (first | rfl | assumption)))
          | (refine RW.gd rfl rfl rfl ?_ rfl (LO.load rfl rfl rfl rfl ty4 rfl) ?_; (· (first | rfl | assumption)))
      first
          | (refine RW.sd rfl rfl rfl ?_ rfl ?_; (· (first | rfl | assumption)))
          | (refine RW.gd rfl rfl rfl ?_ rfl (LO.not rfl rfl) ?_; (· (first | rfl | assumption)))
      first
          | (refine RW.opd rfl rfl (LO.pick_t rfl rfl ?_ rfl) ?_; (· (first | rfl | assumption)))
          | (refine RW.opd rfl rfl (LO.pick_f rfl rfl ?_ rfl) ?_; (· (first | rfl | assumption)))
      refine RW.opd rfl rfl (LO.move rfl rfl) ?_
      refine RW.gd rfl rfl rfl ?_ rfl (LO.call0 (fr := []) rfl rfl (haw) fok28 .nil rfl) ?_; (· (first | rfl | assumption))
      refine RW.opd rfl rfl (LO.pick_t rfl rfl ?_ rfl) ?_; (· (first | rfl | assumption))
      refine RW.opd rfl rfl (LO.assign rfl rfl) ?_
      refine RW.nil ?_
      repeat (refine W.seq ?_)
      refine W.ret ⟨.inl rfl, _, mt, (RVs.cons (RV.tmp rfl) RVs.nil), (by (repeat' (first | exact all_mt | refine all_up ?_ ?_)) <;> rfl), ?_⟩
      exact ⟨rfl, rfl⟩
  | true =>
    obtain ⟨hvn, hx6, hy6⟩ := okN_parts hok
    have hdec := dec_any (encN n x y) (enc_isB hgn x y) hgx.1 hgx.2 hgy.1 hgy.2
    unfold decV at hdec
    rw [dec_enc hvn hgn hx6 hy6] at hdec
    rw [encV_ok hok] at henc
    have htt : (encN n x y).t = 255 := rfl
    obtain ⟨P, hP⟩ : ∃ P, encN n x y = P := ⟨_, rfl⟩
    rw [hP] at henc hdec htt
    have hpp := pk_pure P 0
    have h255 : (P.t == 255) = true := by rw [htt]; rfl
    have hcase : (oddS n x = true ∧ (n.k == 135) = true ∧ n.has = true ∧ eqA x ⟨true, 0, 0⟩ = true) ∨ (oddS n x = false ∧ (n.k == 135) = false) ∨ (oddS n x = false ∧ (n.k == 135) = true ∧ n.has = false) ∨ (oddS n x = false ∧ (n.k == 135) = true ∧ n.has = true ∧ eqA x ⟨true, 0, 0⟩ = false) := by
      unfold oddS
      cases (n.k == 135) <;> cases n.has <;> cases eqA x ⟨true, 0, 0⟩ <;> simp
    rcases hcase with ⟨ho, e1, e2, e3⟩ | ⟨ho, e1⟩ | ⟨ho, e1, e2⟩ | ⟨ho, e1, e2, e3⟩
    · rw [if_pos ho] at hdec
      dsimp only at hdec
      have hnn := nbt_pure zNb 5
      repeat (refine W.seq ?_)
      refine W.region 0 1 (by decide) rfl rfl ?_
      refine RW.opd rfl rfl (LO.assign rfl rfl) ?_
      refine RW.nil ?_
      repeat (refine W.seq ?_)
      refine W.region 5 18 (by decide) rfl rfl ?_
      refine RW.opd rfl rfl (LO.move rfl rfl) ?_
      refine RW.opd rfl rfl (LO.callN (fr := []) rfl rfl (hnew) fok11 (.cons rfl (.pure rfl) .nil) rfl (by decide)) ?_
      refine RW.opd rfl rfl (LO.call1 (fr := []) rfl rfl (hmade) fok23 (.own rfl rfl .nil) rfl rfl rfl (List.cons_ne_nil _ _) (by decide) (made_pure n x y)) ?_
      refine RW.opd rfl rfl (LO.move rfl rfl) ?_
      refine RW.opd rfl rfl (LO.extract rfl rfl rfl) ?_
      refine RW.opd rfl rfl (LO.extract rfl rfl rfl) ?_
      refine RW.opd rfl rfl (LO.extract rfl rfl rfl) ?_
      refine RW.opd rfl rfl (LO.alloc rfl ty52) ?_
      refine RW.opd rfl rfl (LO.alloc rfl ty24) ?_
      refine RW.opd rfl rfl (LO.alloc rfl ty24) ?_
      refine RW.opn rfl rfl (LO.store rfl rfl rfl rfl rfl ty52 hnl (by decide) (Sp.of_all hnl)) ?_
      refine RW.opn rfl rfl (LO.store rfl rfl rfl rfl rfl ty24 rfl (by decide) (Sp.lit rfl)) ?_
      refine RW.opn rfl rfl (LO.store rfl rfl rfl rfl rfl ty24 rfl (by decide) (Sp.lit rfl)) ?_
      refine RW.nil ?_
      unfold adC at henc ⊢
      repeat (refine W.seq ?_)
      refine W.region 22 32 (by decide) rfl rfl ?_
      refine RW.opd rfl rfl (LO.load_agg rfl rfl rfl ty52 rfl htn) ?_
      refine RW.opd rfl rfl (LO.load_agg rfl rfl rfl ty24 rfl (Tk.lit rfl)) ?_
      refine RW.opd rfl rfl (LO.load_agg rfl rfl rfl ty24 rfl (Tk.lit rfl)) ?_
      refine RW.opd rfl rfl (LO.call0 (fr := []) rfl rfl (henc) fok24 (.cons rfl (.pure (nbC_pure n)) (.cons rfl (.pure rfl) (.cons rfl (.pure rfl) .nil))) rfl) ?_
      refine RW.opd rfl rfl (LO.move rfl rfl) ?_
      refine RW.opd rfl rfl (LO.extract rfl rfl rfl) ?_
      refine RW.opd rfl rfl (LO.extract rfl rfl rfl) ?_
      refine RW.opd rfl rfl (LO.alloc rfl ty27) ?_
      refine RW.opn rfl rfl (LO.store rfl rfl rfl rfl rfl ty27 rfl (by decide) (Sp.lit rfl)) ?_
      refine RW.opd rfl rfl (LO.assign rfl rfl) ?_
      refine RW.nil ?_
      repeat (refine W.seq ?_)
      refine W.region 36 38 (by decide) rfl rfl ?_
      refine RW.opd rfl rfl (LO.move rfl rfl) ?_
      refine RW.opd rfl rfl (LO.neq rfl rfl rfl) ?_
      refine RW.nil ?_
      repeat (refine W.seq ?_)
      refine W.cond_f rfl (by first | rfl | assumption) ?_
      refine W.skip ?_
      repeat (refine W.seq ?_)
      refine W.region 58 66 (by decide) rfl rfl ?_
      refine RW.opd rfl rfl (LO.load_agg rfl rfl rfl ty27 rfl (Tk.lit rfl)) ?_
      refine RW.opd rfl rfl (LO.call0 (fr := []) rfl rfl (hdec) fok32 (.cons rfl (.pure (pkC_pure P)) .nil) rfl) ?_
      refine RW.opd rfl rfl (LO.move rfl rfl) ?_
      refine RW.opd rfl rfl (LO.extract rfl rfl rfl) ?_
      refine RW.opd rfl rfl (LO.extract rfl rfl rfl) ?_
      refine RW.opd rfl rfl (LO.alloc rfl ty52) ?_
      refine RW.opn rfl rfl (LO.store rfl rfl rfl rfl rfl ty52 rfl (by decide) (Sp.lit rfl)) ?_
      refine RW.opd rfl rfl (LO.assign rfl rfl) ?_
      refine RW.nil ?_
      repeat (refine W.seq ?_)
      refine W.region 70 82 (by decide) rfl rfl ?_
      refine RW.opd rfl rfl (LO.fieldAddr rfl rfl ty52 rfl (by decide)) ?_
      refine RW.opd rfl rfl (LO.load rfl rfl rfl rfl ty3 rfl) ?_
      refine RW.opd rfl rfl (LO.eql rfl rfl rfl) ?_
      refine RW.opd rfl rfl (LO.move rfl rfl) ?_
      refine RW.gd rfl rfl rfl ?_ rfl (LO.fieldAddr rfl rfl ty52 rfl (by decide)) ?_; (· (first | rfl | assumption))
      refine RW.gd rfl rfl rfl ?_ rfl (LO.load rfl rfl rfl rfl ty4 rfl) ?_; (· (first | rfl | assumption))
      refine RW.opd rfl rfl (LO.pick_t rfl rfl ?_ rfl) ?_; (· (first | rfl | assumption))
      refine RW.opd rfl rfl (LO.move rfl rfl) ?_
      refine RW.gd rfl rfl rfl ?_ rfl (LO.load_agg rfl rfl rfl ty24 rfl (Tk.lit rfl)) ?_; (· (first | rfl | assumption))
      refine RW.gd rfl rfl rfl ?_ rfl (LO.build_st rfl ty24 (.cons rfl rfl rfl rfl (Sp.lit rfl) .nil)) ?_; (· (first | rfl | assumption))
      refine RW.gd rfl rfl rfl ?_ rfl (LO.eql_ad x ⟨true, 0, 0⟩ rfl rfl rfl) ?_; (· (first | rfl | assumption))
      refine RW.opd rfl rfl (LO.pick_t rfl rfl ?_ rfl) ?_; (· (first | rfl | assumption))
      refine RW.nil ?_
      repeat (refine W.seq ?_)
      refine W.cond_t rfl (by first | rfl | assumption) ?_
      repeat (refine W.seq ?_)
      refine W.region 86 92 (by decide) rfl rfl ?_
      refine RW.opd rfl rfl (LO.move rfl rfl) ?_
      refine RW.opd rfl rfl (LO.eql rfl rfl rfl) ?_
      refine RW.opd rfl rfl (LO.move rfl rfl) ?_
      refine RW.gd rfl rfl rfl ?_ rfl (LO.call0 (fr := []) rfl rfl (haw) fok28 .nil rfl) ?_; (· (first | rfl | assumption))
      refine RW.opd rfl rfl (LO.pick_t rfl rfl ?_ rfl) ?_; (· (first | rfl | assumption))
      refine RW.opd rfl rfl (LO.assign rfl rfl) ?_
      refine RW.nil ?_
      repeat (refine W.seq ?_)
      refine W.ret ⟨.inl rfl, _, mt, (RVs.cons (RV.tmp rfl) RVs.nil), (by (repeat' (first | exact all_mt | refine all_up ?_ ?_)) <;> rfl), ?_⟩
      exact ⟨rfl, rfl⟩
    all_goals
      rw [if_neg (by rw [ho]; simp)] at hdec
      dsimp only at hdec
      have hnn := nbt_pure n 0
      have hself := eqN_self n
      repeat (refine W.seq ?_)
      refine W.region 0 1 (by decide) rfl rfl ?_
      refine RW.opd rfl rfl (LO.assign rfl rfl) ?_
      refine RW.nil ?_
      repeat (refine W.seq ?_)
      refine W.region 5 18 (by decide) rfl rfl ?_
      refine RW.opd rfl rfl (LO.move rfl rfl) ?_
      refine RW.opd rfl rfl (LO.callN (fr := []) rfl rfl (hnew) fok11 (.cons rfl (.pure rfl) .nil) rfl (by decide)) ?_
      refine RW.opd rfl rfl (LO.call1 (fr := []) rfl rfl (hmade) fok23 (.own rfl rfl .nil) rfl rfl rfl (List.cons_ne_nil _ _) (by decide) (made_pure n x y)) ?_
      refine RW.opd rfl rfl (LO.move rfl rfl) ?_
      refine RW.opd rfl rfl (LO.extract rfl rfl rfl) ?_
      refine RW.opd rfl rfl (LO.extract rfl rfl rfl) ?_
      refine RW.opd rfl rfl (LO.extract rfl rfl rfl) ?_
      refine RW.opd rfl rfl (LO.alloc rfl ty52) ?_
      refine RW.opd rfl rfl (LO.alloc rfl ty24) ?_
      refine RW.opd rfl rfl (LO.alloc rfl ty24) ?_
      refine RW.opn rfl rfl (LO.store rfl rfl rfl rfl rfl ty52 hnl (by decide) (Sp.of_all hnl)) ?_
      refine RW.opn rfl rfl (LO.store rfl rfl rfl rfl rfl ty24 rfl (by decide) (Sp.lit rfl)) ?_
      refine RW.opn rfl rfl (LO.store rfl rfl rfl rfl rfl ty24 rfl (by decide) (Sp.lit rfl)) ?_
      refine RW.nil ?_
      unfold adC at henc ⊢
      repeat (refine W.seq ?_)
      refine W.region 22 32 (by decide) rfl rfl ?_
      refine RW.opd rfl rfl (LO.load_agg rfl rfl rfl ty52 rfl htn) ?_
      refine RW.opd rfl rfl (LO.load_agg rfl rfl rfl ty24 rfl (Tk.lit rfl)) ?_
      refine RW.opd rfl rfl (LO.load_agg rfl rfl rfl ty24 rfl (Tk.lit rfl)) ?_
      refine RW.opd rfl rfl (LO.call0 (fr := []) rfl rfl (henc) fok24 (.cons rfl (.pure (nbC_pure n)) (.cons rfl (.pure rfl) (.cons rfl (.pure rfl) .nil))) rfl) ?_
      refine RW.opd rfl rfl (LO.move rfl rfl) ?_
      refine RW.opd rfl rfl (LO.extract rfl rfl rfl) ?_
      refine RW.opd rfl rfl (LO.extract rfl rfl rfl) ?_
      refine RW.opd rfl rfl (LO.alloc rfl ty27) ?_
      refine RW.opn rfl rfl (LO.store rfl rfl rfl rfl rfl ty27 rfl (by decide) (Sp.lit rfl)) ?_
      refine RW.opd rfl rfl (LO.assign rfl rfl) ?_
      refine RW.nil ?_
      repeat (refine W.seq ?_)
      refine W.region 36 38 (by decide) rfl rfl ?_
      refine RW.opd rfl rfl (LO.move rfl rfl) ?_
      refine RW.opd rfl rfl (LO.neq rfl rfl rfl) ?_
      refine RW.nil ?_
      repeat (refine W.seq ?_)
      refine W.cond_f rfl (by first | rfl | assumption) ?_
      refine W.skip ?_
      repeat (refine W.seq ?_)
      refine W.region 58 66 (by decide) rfl rfl ?_
      refine RW.opd rfl rfl (LO.load_agg rfl rfl rfl ty27 rfl (Tk.lit rfl)) ?_
      refine RW.opd rfl rfl (LO.call0 (fr := []) rfl rfl (hdec) fok32 (.cons rfl (.pure (pkC_pure P)) .nil) hnn) ?_
      refine RW.opd rfl rfl (LO.move rfl rfl) ?_
      refine RW.opd rfl rfl (LO.extract rfl rfl rfl) ?_
      refine RW.opd rfl rfl (LO.extract rfl rfl rfl) ?_
      refine RW.opd rfl rfl (LO.alloc rfl ty52) ?_
      refine RW.opn rfl rfl (LO.store rfl rfl rfl rfl rfl ty52 hnl (by decide) (Sp.of_all hnl)) ?_
      refine RW.opd rfl rfl (LO.assign rfl rfl) ?_
      refine RW.nil ?_
      repeat (refine W.seq ?_)
      refine W.region 70 82 (by decide) rfl rfl ?_
      refine RW.opd rfl rfl (LO.fieldAddr rfl rfl ty52 rfl (by decide)) ?_
      refine RW.opd rfl rfl (LO.load rfl rfl rfl rfl ty3 rfl) ?_
      refine RW.opd rfl rfl (LO.eql rfl rfl rfl) ?_
      refine RW.opd rfl rfl (LO.move rfl rfl) ?_
      first
          | (refine RW.sd rfl rfl rfl ?_ rfl ?_; (· (first | rfl | assumption)))
          | (refine RW.gd rfl rfl rfl ?_ rfl (LO.fieldAddr rfl rfl ty52 rfl (by decide)) ?_; (· (first | rfl | assumption)))
      first
          | (refine RW.sd rfl rfl rfl ?_ rfl ?_; (· (first | rfl | assumption)))
          | (refine RW.gd rfl rfl rfl ?_ rfl (LO.load rfl rfl rfl rfl ty4 rfl) ?_; (· (first | rfl | assumption)))
      first
          | (refine RW.opd rfl rfl (LO.pick_t rfl rfl ?_ rfl) ?_; (· (first | rfl | assumption)))
          | (refine RW.opd rfl rfl (LO.pick_f rfl rfl ?_ rfl) ?_; (· (first | rfl | assumption)))
      refine RW.opd rfl rfl (LO.move rfl rfl) ?_
      first
          | (refine RW.sd rfl rfl rfl ?_ rfl ?_; (· (first | rfl | assumption)))
          | (refine RW.gd rfl rfl rfl ?_ rfl (LO.load_agg rfl rfl rfl ty24 rfl (Tk.lit rfl)) ?_; (· (first | rfl | assumption)))
      first
          | (refine RW.sd rfl rfl rfl ?_ rfl ?_; (· (first | rfl | assumption)))
          | (refine RW.gd rfl rfl rfl ?_ rfl (LO.build_st rfl ty24 (.cons rfl rfl rfl rfl (Sp.lit rfl) .nil)) ?_; (· (first | rfl | assumption)))
      first
          | (refine RW.sd rfl rfl rfl ?_ rfl ?_; (· (first | rfl | assumption)))
          | (refine RW.gd rfl rfl rfl ?_ rfl (LO.eql_ad x ⟨true, 0, 0⟩ rfl rfl rfl) ?_; (· (first | rfl | assumption)))
      first
          | (refine RW.opd rfl rfl (LO.pick_t rfl rfl ?_ rfl) ?_; (· (first | rfl | assumption)))
          | (refine RW.opd rfl rfl (LO.pick_f rfl rfl ?_ rfl) ?_; (· (first | rfl | assumption)))
      refine RW.nil ?_
      repeat (refine W.seq ?_)
      refine W.cond_f rfl (by first | rfl | assumption) ?_
      refine W.skip ?_
      repeat (refine W.seq ?_)
      refine W.region 96 112 (by decide) rfl rfl ?_
      refine RW.opd rfl rfl (LO.move rfl rfl) ?_
      refine RW.opd rfl rfl (LO.eql rfl rfl rfl) ?_
      refine RW.opd rfl rfl (LO.move rfl rfl) ?_
      refine RW.gd rfl rfl rfl ?_ rfl (LO.load_agg rfl rfl rfl ty52 rfl htn) ?_; (· (first | rfl | assumption))
      refine RW.gd rfl rfl rfl ?_ rfl (LO.load_agg rfl rfl rfl ty52 rfl htn) ?_; (· (first | rfl | assumption))
      refine RW.gd rfl rfl rfl ?_ rfl (LO.eql_nb n n hgn.1.1 hgn.1.1 rfl rfl rfl) ?_; (· (first | rfl | assumption))
      refine RW.opd rfl rfl (LO.pick_t rfl rfl ?_ rfl) ?_; (· (first | rfl | assumption))
      refine RW.opd rfl rfl (LO.move rfl rfl) ?_
      refine RW.gd rfl rfl rfl ?_ rfl (LO.fieldAddr rfl rfl ty27 rfl (by decide)) ?_; (· (first | rfl | assumption))
      refine RW.gd rfl rfl rfl ?_ rfl (LO.load rfl rfl rfl rfl ty3 rfl) ?_; (· (first | rfl | assumption))
      refine RW.gd rfl rfl rfl ?_ rfl (LO.eql rfl rfl rfl) ?_; (· (first | rfl | assumption))
      refine RW.opd rfl rfl (LO.pick_t rfl rfl ?_ rfl) ?_; (· (first | rfl | assumption))
      refine RW.opd rfl rfl (LO.move rfl rfl) ?_
      refine RW.gd rfl rfl rfl ?_ rfl (LO.call0 (fr := []) rfl rfl (haw) fok28 .nil rfl) ?_; (· (first | rfl | assumption))
      refine RW.opd rfl rfl (LO.pick_t rfl rfl ?_ rfl) ?_; (· (first | rfl | assumption))
      refine RW.opd rfl rfl (LO.assign rfl rfl) ?_
      refine RW.nil ?_
      repeat (refine W.seq ?_)
      refine W.ret ⟨.inl rfl, _, mt, (RVs.cons (RV.tmp rfl) RVs.nil), (by (repeat' (first | exact all_mt | refine all_up ?_ ?_)) <;> rfl), ?_⟩
      exact ⟨rfl, rfl⟩
end Go.Proofs.Ytoijkcnefnmbjaa
