/-
  Options of other kinds do not matter, a second link address does not replace the first: the statement's function answers true.
-/
import Derived.Test.YtoijkcnefnmbjaaQw
namespace Go.Proofs.Ytoijkcnefnmbjaa
open Go.RowKit
theorem sgn_s (p : Pk) : (sgn p).s = p.s := by unfold sgn; split <;> rfl
theorem sgn_d (p : Pk) : (sgn p).d = p.d := by unfold sgn; split <;> rfl
theorem sgn_isB {p : Pk} (h : IsB p.bs) : IsB (sgn p).bs := by
  unfold sgn; split
  · exact sumL2_isB _ (zB_isB h)
  · exact h
theorem more_facts {un : Nat} {a b : Int} (ha : 0 ≤ a ∧ a ≤ 255) (hb : b = ((1 + un : Nat) : Int)) (hu : un < 4) : ∃ M, ((List.replicate (8 * (1 + un)) (0 : Int)).set 0 a).set 1 b = M ∧ M.length = 8 * (1 + un) ∧ gB M 0 = a ∧ gB M 1 = ((1 + un : Nat) : Int) ∧ IsB M := by
  refine ⟨_, rfl, by simp, ?_, ?_, ?_⟩
  · rw [gB_set_far _ _ (by omega)]; simp only [gB, List.getD]; rw [List.getElem?_set_self (by simp; omega)]; rfl
  · simp only [gB, List.getD]; rw [List.getElem?_set_self (by simp; omega)]; exact hb
  · refine IsB.set (IsB.set (fun x hx => ?_) 0 ha) 1 (by omega)
    rw [(List.mem_replicate.1 hx).2]; decide
set_option maxHeartbeats 4000000 in
theorem more_law (l : List Int) (kind units : Int) (hl : l.length ≤ 9223372036854775807) : AFn Try.prog 8 0 [.isl (intsC l) l.length, .base (.int .i64 kind), .base (.int .i64 units)] mt (.base (.bool true)) mt := by
  refine AFn.eq Try.func8 rfl rfl (Nat.le_of_ble_eq_true rfl) ?_
  have hnew := new_any l
  obtain ⟨_, _, hmade, n, x, y, a1, ⟨hgn, hgx, hgy, hy⟩, rfl, rfl⟩ := made_any l 0 hl
  have henc := enc_any n x y hgn.1.1 hgn.1.2 hgn.2.1 hgn.2.2 hgx.1 hgx.2 hgy.1 hgy.2
  have haw := awake_any
  have htn := nbTk hgn
  have hnl : (nbC n).length = 12 := by simp [nbC, adC, bytesC_len, hgn.1.1]
  unfold intsC
  cases hok : okN n x y with
  | false =>
    rw [encV_bad hok] at henc
    have hzp := pk_pure zPk 1
    repeat (refine W.seq ?_)
    refine W.region 0 1 (by decide) rfl rfl ?_
    refine RW.opd rfl rfl (LO.assign rfl rfl) ?_
    refine RW.nil ?_
    repeat (refine W.seq ?_)
    refine W.region 5 18 (by decide) rfl rfl ?_
    refine RW.opd rfl rfl (LO.move rfl rfl) ?_
    refine RW.opd rfl rfl (LO.callN (fr := []) rfl rfl (hnew) fok11 (.cons rfl (.pure rfl) .nil) rfl (by decide)) ?_
    refine RW.opd rfl rfl (LO.call1 (fr := []) rfl rfl (hmade) fok23 (.own rfl rfl .nil) rfl rfl rfl (List.cons_ne_nil _ _) (by decide) (made_pure n x y)) ?_
    refine RW.opd rfl rfl (LO.move rfl rfl) ?_
    refine RW.opd rfl rfl (LO.extract rfl rfl rfl) ?_
    refine RW.opd rfl rfl (LO.extract rfl rfl rfl) ?_
    refine RW.opd rfl rfl (LO.extract rfl rfl rfl) ?_
    refine RW.opd rfl rfl (LO.alloc rfl ty52) ?_
    refine RW.opd rfl rfl (LO.alloc rfl ty24) ?_
    refine RW.opd rfl rfl (LO.alloc rfl ty24) ?_
    refine RW.opn rfl rfl (LO.store rfl rfl rfl rfl rfl ty52 hnl (by decide) (Sp.of_all hnl)) ?_
    refine RW.opn rfl rfl (LO.store rfl rfl rfl rfl rfl ty24 rfl (by decide) (Sp.lit rfl)) ?_
    refine RW.opn rfl rfl (LO.store rfl rfl rfl rfl rfl ty24 rfl (by decide) (Sp.lit rfl)) ?_
    refine RW.nil ?_
    unfold adC at henc ⊢
    repeat (refine W.seq ?_)
    refine W.region 22 32 (by decide) rfl rfl ?_
    refine RW.opd rfl rfl (LO.load_agg rfl rfl rfl ty52 rfl htn) ?_
    refine RW.opd rfl rfl (LO.load_agg rfl rfl rfl ty24 rfl (Tk.lit rfl)) ?_
    refine RW.opd rfl rfl (LO.load_agg rfl rfl rfl ty24 rfl (Tk.lit rfl)) ?_
    refine RW.opd rfl rfl (LO.call0 (fr := []) rfl rfl (henc) fok24 (.cons rfl (.pure (nbC_pure n)) (.cons rfl (.pure rfl) (.cons rfl (.pure rfl) .nil))) rfl) ?_
    refine RW.opd rfl rfl (LO.move rfl rfl) ?_
    refine RW.opd rfl rfl (LO.extract rfl rfl rfl) ?_
    refine RW.opd rfl rfl (LO.extract rfl rfl rfl) ?_
    refine RW.opd rfl rfl (LO.alloc rfl ty27) ?_
    refine RW.opn rfl rfl (LO.store rfl rfl rfl rfl rfl ty27 rfl (by decide) (Sp.lit rfl)) ?_
    refine RW.opd rfl rfl (LO.assign rfl rfl) ?_
    refine RW.nil ?_
    repeat (refine W.seq ?_)
    refine W.region 36 48 (by decide) rfl rfl ?_
    refine RW.opd rfl rfl (LO.move rfl rfl) ?_
    refine RW.opd rfl rfl (LO.neq rfl rfl rfl) ?_
    refine RW.opd rfl rfl (LO.move rfl rfl) ?_
    refine RW.sd rfl rfl rfl ?_ rfl ?_; (· (first | rfl | assumption))
    refine RW.sd rfl rfl rfl ?_ rfl ?_; (· (first | rfl | assumption))
    refine RW.sd rfl rfl rfl ?_ rfl ?_; (· (first | rfl | assumption))
    refine RW.sd rfl rfl rfl ?_ rfl ?_; (· (first | rfl | assumption))
    refine RW.ud rfl rfl rfl rfl ?_
    refine RW.ud rfl rfl rfl rfl ?_
    refine RW.ud rfl rfl rfl rfl ?_
    refine RW.sd rfl rfl rfl ?_ rfl ?_; (· (first | rfl | assumption))
    refine RW.opd rfl rfl (LO.pick_t rfl rfl ?_ rfl) ?_; (· (first | rfl | assumption))
    refine RW.nil ?_
    repeat (refine W.seq ?_)
    refine W.cond_t rfl (by first | rfl | assumption) ?_
    repeat (refine W.seq ?_)
    refine W.region 52 54 (by decide) rfl rfl ?_
    refine RW.opd rfl rfl (LO.call0 (fr := []) rfl rfl (haw) fok28 .nil rfl) ?_
    refine RW.opd rfl rfl (LO.assign rfl rfl) ?_
    refine RW.nil ?_
    repeat (refine W.seq ?_)
    refine W.ret ⟨.inl rfl, _, mt, (RVs.cons (RV.tmp rfl) RVs.nil), (by (repeat' (first | exact all_mt | refine all_up ?_ ?_)) <;> rfl), ?_⟩
    exact ⟨rfl, rfl⟩
  | true =>
    obtain ⟨hvn, hx6, hy6⟩ := okN_parts hok
    rw [encV_ok hok] at henc
    have hB := enc_isB hgn x y
    have hln := enc_len hgn x y
    have hok2 := validN_ok hvn
    have hmore := fun more hB hm => more_dec (more := more) hvn hgn hx6 hy6 hB hm
    rw [show encN n x y = ⟨x, y, 58, 255, (encN n x y).bs⟩ from rfl] at henc
    obtain ⟨bs, hbs⟩ : ∃ bs, (encN n x y).bs = bs := ⟨_, rfl⟩
    rw [hbs] at henc hB hln
    rw [hbs] at hmore
    have hpp := pk_pure ⟨x, y, 58, 255, bs⟩ 0
    rw [pk_lit] at henc hpp
    have hcase : ((n.k == 135) = true ∧ eqA x ⟨true, 0, 0⟩ = true) ∨ (¬ (n.k = 135 ∧ eqA x ⟨true, 0, 0⟩ = true) ∧ (n.k == 135) = false) ∨ (¬ (n.k = 135 ∧ eqA x ⟨true, 0, 0⟩ = true) ∧ (n.k == 135) = true ∧ eqA x ⟨true, 0, 0⟩ = false) := by
      by_cases c1 : n.k = 135
      · cases c2 : eqA x ⟨true, 0, 0⟩ <;> simp [c1]
      · simp [c1]
    have h8 : ((n.k == 136) = true ∧ optN n.k = 2) ∨ ((n.k == 136) = false ∧ (n.k == 137) = true ∧ optN n.k = 2) ∨ ((n.k == 136) = false ∧ (n.k == 137) = false ∧ optN n.k = 1) := by
      unfold optN
      by_cases c3 : n.k = 136
      · simp [c3]
      · by_cases c4 : n.k = 137 <;> simp [c3, c4]
    rcases hcase with ⟨e1, e2⟩ | ⟨hno, e1⟩ | ⟨hno, e1, e2⟩
    ·
      repeat (refine W.seq ?_)
      refine W.region 0 1 (by decide) rfl rfl ?_
      refine RW.opd rfl rfl (LO.assign rfl rfl) ?_
      refine RW.nil ?_
      repeat (refine W.seq ?_)
      refine W.region 5 18 (by decide) rfl rfl ?_
      refine RW.opd rfl rfl (LO.move rfl rfl) ?_
      refine RW.opd rfl rfl (LO.callN (fr := []) rfl rfl (hnew) fok11 (.cons rfl (.pure rfl) .nil) rfl (by decide)) ?_
      refine RW.opd rfl rfl (LO.call1 (fr := []) rfl rfl (hmade) fok23 (.own rfl rfl .nil) rfl rfl rfl (List.cons_ne_nil _ _) (by decide) (made_pure n x y)) ?_
      refine RW.opd rfl rfl (LO.move rfl rfl) ?_
      refine RW.opd rfl rfl (LO.extract rfl rfl rfl) ?_
      refine RW.opd rfl rfl (LO.extract rfl rfl rfl) ?_
      refine RW.opd rfl rfl (LO.extract rfl rfl rfl) ?_
      refine RW.opd rfl rfl (LO.alloc rfl ty52) ?_
      refine RW.opd rfl rfl (LO.alloc rfl ty24) ?_
      refine RW.opd rfl rfl (LO.alloc rfl ty24) ?_
      refine RW.opn rfl rfl (LO.store rfl rfl rfl rfl rfl ty52 hnl (by decide) (Sp.of_all hnl)) ?_
      refine RW.opn rfl rfl (LO.store rfl rfl rfl rfl rfl ty24 rfl (by decide) (Sp.lit rfl)) ?_
      refine RW.opn rfl rfl (LO.store rfl rfl rfl rfl rfl ty24 rfl (by decide) (Sp.lit rfl)) ?_
      refine RW.nil ?_
      unfold adC at henc ⊢
      repeat (refine W.seq ?_)
      refine W.region 22 32 (by decide) rfl rfl ?_
      refine RW.opd rfl rfl (LO.load_agg rfl rfl rfl ty52 rfl htn) ?_
      refine RW.opd rfl rfl (LO.load_agg rfl rfl rfl ty24 rfl (Tk.lit rfl)) ?_
      refine RW.opd rfl rfl (LO.load_agg rfl rfl rfl ty24 rfl (Tk.lit rfl)) ?_
      refine RW.opd rfl rfl (LO.call0 (fr := []) rfl rfl (henc) fok24 (.cons rfl (.pure (nbC_pure n)) (.cons rfl (.pure rfl) (.cons rfl (.pure rfl) .nil))) rfl) ?_
      refine RW.opd rfl rfl (LO.move rfl rfl) ?_
      refine RW.opd rfl rfl (LO.extract rfl rfl rfl) ?_
      refine RW.opd rfl rfl (LO.extract rfl rfl rfl) ?_
      refine RW.opd rfl rfl (LO.alloc rfl ty27) ?_
      refine RW.opn rfl rfl (LO.store rfl rfl rfl rfl rfl ty27 rfl (by decide) (Sp.lit rfl)) ?_
      refine RW.opd rfl rfl (LO.assign rfl rfl) ?_
      refine RW.nil ?_
      repeat (refine W.seq ?_)
      refine W.region 36 48 (by decide) rfl rfl ?_
      refine RW.opd rfl rfl (LO.move rfl rfl) ?_
      refine RW.opd rfl rfl (LO.neq rfl rfl rfl) ?_
      refine RW.opd rfl rfl (LO.move rfl rfl) ?_
      refine RW.gd rfl rfl rfl ?_ rfl (LO.fieldAddr rfl rfl ty52 rfl (by decide)) ?_; (· (first | rfl | assumption))
      refine RW.gd rfl rfl rfl ?_ rfl (LO.load rfl rfl rfl rfl ty3 rfl) ?_; (· (first | rfl | assumption))
      refine RW.gd rfl rfl rfl ?_ rfl (LO.eql rfl rfl rfl) ?_; (· (first | rfl | assumption))
      refine RW.gd rfl rfl rfl ?_ rfl (LO.move rfl rfl) ?_; (· (first | rfl | assumption))
      refine RW.gd rfl rfl rfl ?_ rfl (LO.load_agg rfl rfl rfl ty24 rfl (Tk.lit rfl)) ?_; (· (first | rfl | assumption))
      refine RW.gd rfl rfl rfl ?_ rfl (LO.build_st rfl ty24 (.cons rfl rfl rfl rfl (Sp.lit rfl) .nil)) ?_; (· (first | rfl | assumption))
      refine RW.gd rfl rfl rfl ?_ rfl (LO.eql_ad x ⟨true, 0, 0⟩ rfl rfl rfl) ?_; (· (first | rfl | assumption))
      refine RW.gd rfl rfl rfl ?_ rfl (LO.pick_t rfl rfl ?_ rfl) ?_; (· (first | rfl | assumption)); (· (first | rfl | assumption))
      refine RW.opd rfl rfl (LO.pick_f rfl rfl ?_ rfl) ?_; (· (first | rfl | assumption))
      refine RW.nil ?_
      repeat (refine W.seq ?_)
      refine W.cond_t rfl (by first | rfl | assumption) ?_
      repeat (refine W.seq ?_)
      refine W.region 52 54 (by decide) rfl rfl ?_
      refine RW.opd rfl rfl (LO.call0 (fr := []) rfl rfl (haw) fok28 .nil rfl) ?_
      refine RW.opd rfl rfl (LO.assign rfl rfl) ?_
      refine RW.nil ?_
      repeat (refine W.seq ?_)
      refine W.ret ⟨.inl rfl, _, mt, (RVs.cons (RV.tmp rfl) RVs.nil), (by (repeat' (first | exact all_mt | refine all_up ?_ ?_)) <;> rfl), ?_⟩
      exact ⟨rfl, rfl⟩
    all_goals
      obtain ⟨un, hu1, hu2⟩ := emod_nat units (show 0 < 4 by decide)
      have hm1 := mod_any units 4 (by decide) (by decide)
      rw [show units % 4 = (un : Int) from hu1] at hm1
      obtain ⟨kn, hk1, hk2⟩ := emod_nat kind (show 0 < 200 by decide)
      have hm2 := mod_any kind 200 (by decide) (by decide)
      rw [show kind % 200 = (kn : Int) from hk1] at hm2
      repeat (refine W.seq ?_)
      refine W.region 0 1 (by decide) rfl rfl ?_
      refine RW.opd rfl rfl (LO.assign rfl rfl) ?_
      refine RW.nil ?_
      repeat (refine W.seq ?_)
      refine W.region 5 18 (by decide) rfl rfl ?_
      refine RW.opd rfl rfl (LO.move rfl rfl) ?_
      refine RW.opd rfl rfl (LO.callN (fr := []) rfl rfl (hnew) fok11 (.cons rfl (.pure rfl) .nil) rfl (by decide)) ?_
      refine RW.opd rfl rfl (LO.call1 (fr := []) rfl rfl (hmade) fok23 (.own rfl rfl .nil) rfl rfl rfl (List.cons_ne_nil _ _) (by decide) (made_pure n x y)) ?_
      refine RW.opd rfl rfl (LO.move rfl rfl) ?_
      refine RW.opd rfl rfl (LO.extract rfl rfl rfl) ?_
      refine RW.opd rfl rfl (LO.extract rfl rfl rfl) ?_
      refine RW.opd rfl rfl (LO.extract rfl rfl rfl) ?_
      refine RW.opd rfl rfl (LO.alloc rfl ty52) ?_
      refine RW.opd rfl rfl (LO.alloc rfl ty24) ?_
      refine RW.opd rfl rfl (LO.alloc rfl ty24) ?_
      refine RW.opn rfl rfl (LO.store rfl rfl rfl rfl rfl ty52 hnl (by decide) (Sp.of_all hnl)) ?_
      refine RW.opn rfl rfl (LO.store rfl rfl rfl rfl rfl ty24 rfl (by decide) (Sp.lit rfl)) ?_
      refine RW.opn rfl rfl (LO.store rfl rfl rfl rfl rfl ty24 rfl (by decide) (Sp.lit rfl)) ?_
      refine RW.nil ?_
      unfold adC at henc ⊢
      repeat (refine W.seq ?_)
      refine W.region 22 32 (by decide) rfl rfl ?_
      refine RW.opd rfl rfl (LO.load_agg rfl rfl rfl ty52 rfl htn) ?_
      refine RW.opd rfl rfl (LO.load_agg rfl rfl rfl ty24 rfl (Tk.lit rfl)) ?_
      refine RW.opd rfl rfl (LO.load_agg rfl rfl rfl ty24 rfl (Tk.lit rfl)) ?_
      refine RW.opd rfl rfl (LO.call0 (fr := []) rfl rfl (henc) fok24 (.cons rfl (.pure (nbC_pure n)) (.cons rfl (.pure rfl) (.cons rfl (.pure rfl) .nil))) rfl) ?_
      refine RW.opd rfl rfl (LO.move rfl rfl) ?_
      refine RW.opd rfl rfl (LO.extract rfl rfl rfl) ?_
      refine RW.opd rfl rfl (LO.extract rfl rfl rfl) ?_
      refine RW.opd rfl rfl (LO.alloc rfl ty27) ?_
      refine RW.opn rfl rfl (LO.store rfl rfl rfl rfl rfl ty27 rfl (by decide) (Sp.lit rfl)) ?_
      refine RW.opd rfl rfl (LO.assign rfl rfl) ?_
      refine RW.nil ?_
      repeat (refine W.seq ?_)
      refine W.region 36 48 (by decide) rfl rfl ?_
      refine RW.opd rfl rfl (LO.move rfl rfl) ?_
      refine RW.opd rfl rfl (LO.neq rfl rfl rfl) ?_
      refine RW.opd rfl rfl (LO.move rfl rfl) ?_
      refine RW.gd rfl rfl rfl ?_ rfl (LO.fieldAddr rfl rfl ty52 rfl (by decide)) ?_; (· (first | rfl | assumption))
      refine RW.gd rfl rfl rfl ?_ rfl (LO.load rfl rfl rfl rfl ty3 rfl) ?_; (· (first | rfl | assumption))
      refine RW.gd rfl rfl rfl ?_ rfl (LO.eql rfl rfl rfl) ?_; (· (first | rfl | assumption))
      refine RW.gd rfl rfl rfl ?_ rfl (LO.move rfl rfl) ?_; (· (first | rfl | assumption))
      first
          | (refine RW.sd rfl rfl rfl ?_ rfl ?_; (· (first | rfl | assumption)))
          | (refine RW.gd rfl rfl rfl ?_ rfl (LO.load_agg rfl rfl rfl ty24 rfl (Tk.lit rfl)) ?_; (· (first | rfl | assumption)))
      first
          | (refine RW.sd rfl rfl rfl ?_ rfl ?_; (· (first | rfl | assumption)))
          | (refine RW.gd rfl rfl rfl ?_ rfl (LO.build_st rfl ty24 (.cons rfl rfl rfl rfl (Sp.lit rfl) .nil)) ?_; (· (first | rfl | assumption)))
      first
          | (refine RW.sd rfl rfl rfl ?_ rfl ?_; (· (first | rfl | assumption)))
          | (refine RW.gd rfl rfl rfl ?_ rfl (LO.eql_ad x ⟨true, 0, 0⟩ rfl rfl rfl) ?_; (· (first | rfl | assumption)))
      first
          | (refine RW.gd rfl rfl rfl ?_ rfl (LO.pick_t rfl rfl ?_ rfl) ?_; (· (first | rfl | assumption)); (· (first | rfl | assumption)))
          | (refine RW.gd rfl rfl rfl ?_ rfl (LO.pick_f rfl rfl ?_ rfl) ?_; (· (first | rfl | assumption)); (· (first | rfl | assumption)))
      refine RW.opd rfl rfl (LO.pick_f rfl rfl ?_ rfl) ?_; (· (first | rfl | assumption))
      refine RW.nil ?_
      repeat (refine W.seq ?_)
      refine W.cond_f rfl (by first | rfl | assumption) ?_
      refine W.skip ?_
      repeat (refine W.seq ?_)
      refine W.region 58 64 (by decide) rfl rfl ?_
      refine RW.opd rfl rfl (LO.move rfl rfl) ?_
      refine RW.opd rfl rfl (LO.call0 (fr := []) rfl rfl (hm1) fok17 (.cons rfl (.pure rfl) (.cons rfl (.pure rfl) .nil)) rfl) ?_
      refine RW.opd rfl rfl (LO.add_in rfl rfl rfl ?_) ?_; (· (first | exact IntWalk.i64_in _ (by omega) | assumption))
      refine RW.opd rfl rfl (LO.mul_in rfl rfl rfl ?_) ?_; (· (first | exact IntWalk.i64_in _ (by omega) | assumption))
      refine RW.opd rfl rfl (LO.makeSlice rfl rfl rfl rfl rfl ty25 ty5 (by decide) ?_ ?_ ?_) ?_; (· (first | omega | decide | assumption | fail | (simp; done) | (simp; omega))); (· (first | omega | decide | assumption | fail | (simp; done) | (simp; omega))); (· (first | omega | decide | assumption | fail | (simp; done) | (simp; omega)))
      refine RW.opd rfl rfl (LO.assign rfl rfl) ?_
      refine RW.nil ?_
      rw [zerosB]
      repeat (refine W.seq ?_)
      refine W.region 68 82 (by decide) rfl rfl ?_
      refine RW.opd rfl rfl (LO.move rfl rfl) ?_
      refine RW.opd rfl rfl (LO.move rfl rfl) ?_
      refine RW.opd rfl rfl (LO.move rfl rfl) ?_
      refine RW.opd rfl rfl (LO.call0 (fr := []) rfl rfl (hm2) fok17 (.cons rfl (.pure rfl) (.cons rfl (.pure rfl) .nil)) rfl) ?_
      refine RW.opd rfl rfl (LO.add_in rfl rfl rfl ?_) ?_; (· (first | exact IntWalk.i64_in _ (by omega) | assumption))
      refine RW.opd rfl rfl (LO.conv rfl rfl ty3 ty5) ?_
      refine RW.opd rfl rfl (LO.move rfl rfl) ?_
      refine RW.opd rfl rfl (LO.len rfl rfl ty25) ?_
      refine RW.opd rfl rfl (LO.quo rfl rfl rfl ?_) ?_; (· (first | omega | decide | assumption | fail | (simp; done) | (simp; omega)))
      refine RW.opd rfl rfl (LO.conv rfl rfl ty3 ty5) ?_
      refine RW.opd rfl rfl (LO.indexAddr rfl rfl rfl rfl ty25 ty5 ?_) ?_; (· (first | omega | decide | assumption | fail | (simp; done) | (simp; omega)))
      refine RW.opn rfl rfl (LO.store rfl rfl rfl rfl rfl ty5 rfl (by decide) (by_sp (by first | omega | (simp; omega)))) ?_
      refine RW.opd rfl rfl (LO.indexAddr rfl rfl rfl rfl ty25 ty5 ?_) ?_; (· (first | omega | decide | assumption | fail | (simp; done) | (simp; omega)))
      refine RW.opn rfl rfl (LO.store rfl rfl rfl rfl rfl ty5 rfl (by decide) (by_sp (by first | omega | (simp; omega)))) ?_
      refine RW.nil ?_
      obtain ⟨M, hM, hMl, hM0, hM1, hMB⟩ := more_facts (un := un) (a := IntKind.u8.wrap (3 + (kn : Int))) (b := IntKind.u8.wrap (IntKind.i64.wrap (((8 * (1 + un) : Nat) : Int).tdiv 8))) (u8_bd _) (by rw [Int.tdiv_eq_ediv_of_nonneg (by omega), IntWalk.i64_in _ (by omega), IntKind.wrap_u8']; omega) hu2
      rw [hM]
      have hM2 : gB M 0 = 3 + (kn : Int) := by rw [hM0, IntKind.wrap_u8']; omega
      clear hM hM0
      repeat (refine W.seq ?_)
      refine W.region 86 88 (by decide) rfl rfl ?_
      refine RW.opd rfl rfl (LO.buildSlice rfl ty25 ty5 (by decide) (by decide) (.cons rfl rfl rfl rfl (Sp.lit rfl) (.cons rfl rfl rfl rfl (Sp.lit rfl) (.cons rfl rfl rfl rfl (Sp.lit rfl) (.cons rfl rfl rfl rfl (Sp.lit rfl) (.cons rfl rfl rfl rfl (Sp.lit rfl) (.cons rfl rfl rfl rfl (Sp.lit rfl) (.cons rfl rfl rfl rfl (Sp.lit rfl) (.cons rfl rfl rfl rfl (Sp.lit rfl) .nil))))))))) ?_
      refine RW.opd rfl rfl (LO.assign rfl rfl) ?_
      refine RW.nil ?_
      rcases h8 with ⟨e3, ho⟩ | ⟨e3, e4, ho⟩ | ⟨e3, e4, ho⟩
      case' inl =>
        repeat (refine W.seq ?_)
        refine W.region 92 100 (by decide) rfl rfl ?_
        refine RW.opd rfl rfl (LO.fieldAddr rfl rfl ty52 rfl (by decide)) ?_
        refine RW.opd rfl rfl (LO.load rfl rfl rfl rfl ty3 rfl) ?_
        refine RW.opd rfl rfl (LO.eql rfl rfl rfl) ?_
        refine RW.opd rfl rfl (LO.move rfl rfl) ?_
        refine RW.sd rfl rfl rfl ?_ rfl ?_; (· (first | rfl | assumption))
        refine RW.sd rfl rfl rfl ?_ rfl ?_; (· (first | rfl | assumption))
        refine RW.sd rfl rfl rfl ?_ rfl ?_; (· (first | rfl | assumption))
        refine RW.opd rfl rfl (LO.pick_t rfl rfl ?_ rfl) ?_; (· (first | rfl | assumption))
        refine RW.nil ?_
        repeat (refine W.seq ?_)
        refine W.cond_t rfl (by first | rfl | assumption) ?_
        repeat (refine W.seq ?_)
        refine W.region 104 107 (by decide) rfl rfl ?_
        refine RW.opd rfl rfl (LO.move rfl rfl) ?_
        refine RW.opd rfl rfl (LO.indexAddr rfl rfl rfl rfl ty25 ty5 ?_) ?_; (· (first | omega | decide | assumption | fail | (simp; done) | (simp; omega)))
        refine RW.opn rfl rfl (LO.store rfl rfl rfl rfl rfl ty5 rfl (by decide) (Sp.lit rfl)) ?_
        refine RW.nil ?_
      case' inr.inl =>
        repeat (refine W.seq ?_)
        refine W.region 92 100 (by decide) rfl rfl ?_
        refine RW.opd rfl rfl (LO.fieldAddr rfl rfl ty52 rfl (by decide)) ?_
        refine RW.opd rfl rfl (LO.load rfl rfl rfl rfl ty3 rfl) ?_
        refine RW.opd rfl rfl (LO.eql rfl rfl rfl) ?_
        refine RW.opd rfl rfl (LO.move rfl rfl) ?_
        refine RW.gd rfl rfl rfl ?_ rfl (LO.fieldAddr rfl rfl ty52 rfl (by decide)) ?_; (· (first | rfl | assumption))
        refine RW.gd rfl rfl rfl ?_ rfl (LO.load rfl rfl rfl rfl ty3 rfl) ?_; (· (first | rfl | assumption))
        refine RW.gd rfl rfl rfl ?_ rfl (LO.eql rfl rfl rfl) ?_; (· (first | rfl | assumption))
        refine RW.opd rfl rfl (LO.pick_f rfl rfl ?_ rfl) ?_; (· (first | rfl | assumption))
        refine RW.nil ?_
        repeat (refine W.seq ?_)
        refine W.cond_t rfl (by first | rfl | assumption) ?_
        repeat (refine W.seq ?_)
        refine W.region 104 107 (by decide) rfl rfl ?_
        refine RW.opd rfl rfl (LO.move rfl rfl) ?_
        refine RW.opd rfl rfl (LO.indexAddr rfl rfl rfl rfl ty25 ty5 ?_) ?_; (· (first | omega | decide | assumption | fail | (simp; done) | (simp; omega)))
        refine RW.opn rfl rfl (LO.store rfl rfl rfl rfl rfl ty5 rfl (by decide) (Sp.lit rfl)) ?_
        refine RW.nil ?_
      case' inr.inr =>
        repeat (refine W.seq ?_)
        refine W.region 92 100 (by decide) rfl rfl ?_
        refine RW.opd rfl rfl (LO.fieldAddr rfl rfl ty52 rfl (by decide)) ?_
        refine RW.opd rfl rfl (LO.load rfl rfl rfl rfl ty3 rfl) ?_
        refine RW.opd rfl rfl (LO.eql rfl rfl rfl) ?_
        refine RW.opd rfl rfl (LO.move rfl rfl) ?_
        refine RW.gd rfl rfl rfl ?_ rfl (LO.fieldAddr rfl rfl ty52 rfl (by decide)) ?_; (· (first | rfl | assumption))
        refine RW.gd rfl rfl rfl ?_ rfl (LO.load rfl rfl rfl rfl ty3 rfl) ?_; (· (first | rfl | assumption))
        refine RW.gd rfl rfl rfl ?_ rfl (LO.eql rfl rfl rfl) ?_; (· (first | rfl | assumption))
        refine RW.opd rfl rfl (LO.pick_f rfl rfl ?_ rfl) ?_; (· (first | rfl | assumption))
        refine RW.nil ?_
        repeat (refine W.seq ?_)
        refine W.cond_f rfl (by first | rfl | assumption) ?_
        refine W.skip ?_
      all_goals
        have hoB : IsB [optN n.k, 1, 2, 2, 2, 2, 2, 2] := fun z hz => by
          have := optN_bd n.k
          simp only [List.mem_cons, List.not_mem_nil, or_false] at hz
          rcases hz with rfl | rfl | rfl | rfl | rfl | rfl | rfl | rfl <;> first | exact this | decide
        have hd1 := dec_any (sgn ⟨x, y, 58, 255, bs ++ M⟩) (sgn_isB (hB.append hMB)) (by rw [sgn_s]; exact hgx.1) (by rw [sgn_s]; exact hgx.2) (by rw [sgn_d]; exact hgy.1) (by rw [sgn_d]; exact hgy.2)
        have hs1 := signed_any ⟨x, y, 58, 255, bs ++ M⟩ (hB.append hMB) (by simp; omega) hgx.1 hgx.2 hgy.1 hgy.2
        unfold decV at hd1
        rw [hmore M hMB (by omega), rd_other hok2 hgn hno (show 1 ≤ 1 + un by omega) hMl hM1 (by rw [hM2, ho]; omega)] at hd1
        dsimp only at hd1
        have hd2 := dec_any (sgn ⟨x, y, 58, 255, bs ++ [optN n.k, 1, 2, 2, 2, 2, 2, 2]⟩) (sgn_isB (hB.append hoB)) (by rw [sgn_s]; exact hgx.1) (by rw [sgn_s]; exact hgx.2) (by rw [sgn_d]; exact hgy.1) (by rw [sgn_d]; exact hgy.2)
        have hs2 := signed_any ⟨x, y, 58, 255, bs ++ [optN n.k, 1, 2, 2, 2, 2, 2, 2]⟩ (hB.append hoB) (by simp; omega) hgx.1 hgx.2 hgy.1 hgy.2
        unfold decV at hd2
        rw [hmore _ hoB (by simp), rd_again hok2 hgn hno] at hd2
        dsimp only at hd2
        obtain ⟨P1, hP1⟩ : ∃ P1, sgn ⟨x, y, 58, 255, bs ++ M⟩ = P1 := ⟨_, rfl⟩
        obtain ⟨P2, hP2⟩ : ∃ P2, sgn ⟨x, y, 58, 255, bs ++ [optN n.k, 1, 2, 2, 2, 2, 2, 2]⟩ = P2 := ⟨_, rfl⟩
        rw [hP1] at hs1 hd1
        rw [hP2, ho] at hs2
        rw [hP2] at hd2
        obtain ⟨WN, hW⟩ : ∃ WN, (⟨n.k, n.fl, n.tg, true, if n.has then n.ln else [2, 2, 2, 2, 2, 2]⟩ : Nb) = WN := ⟨_, rfl⟩
        have hWl : (nbC WN).length = 12 := by
          rw [← hW]; simp only [nbC, adC, List.length_append, bytesC_len]
          cases n.has <;> simp [hgn.1.1]
        have hWt : Tk (nbC WN) 0 12 (nbC WN) := by
          have := Tk.all (nbC WN)
          rwa [hWl] at this
        rw [hW] at hd2
        rw [pk_lit] at hs1 hs2
        rw [List.length_append, hMl] at hs1
        rw [List.length_append] at hs2
        clear hmore hP1 hP2 henc hmade hnew
        repeat (refine W.seq ?_)
        refine W.regionD 111 117 (by decide) rfl mixed rfl ?_
        refine RW.opd rfl rfl (LO.load_agg rfl rfl rfl ty27 rfl (Tk.lit rfl)) ?_
        refine RW.opd rfl rfl (LO.load_agg rfl rfl rfl ty27 rfl (Tk.lit rfl)) ?_
        refine RW.opd rfl rfl (LO.alloc rfl ty27) ?_
        refine RW.opd rfl rfl (LO.alloc rfl ty27) ?_
        refine RW.opn rfl rfl (LO.store rfl rfl rfl rfl rfl ty27 rfl (by decide) (Sp.lit rfl)) ?_
        refine RW.opn rfl rfl (LO.store rfl rfl rfl rfl rfl ty27 rfl (by decide) (Sp.lit rfl)) ?_
        refine RW.nil ⟨by kernel_rfl, ?_⟩
        repeat (refine W.seq ?_)
        refine W.region 121 128 (by decide) rfl rfl ?_
        refine RW.opd rfl rfl (LO.fieldAddr rfl rfl ty27 rfl (by decide)) ?_
        refine RW.opd rfl rfl (LO.load rfl rfl rfl rfl ty25 rfl) ?_
        refine RW.opd rfl rfl (LO.append_nil rfl rfl (SrcAV.isl rfl rfl (by simp [bytesC_len])) ty25 ty25 ty5 (by decide) (by omega) (by omega) (by decide)) ?_
        refine RW.opd rfl rfl (LO.move rfl rfl) ?_
        refine RW.opd rfl rfl (LO.append rfl rfl (SrcAV.own rfl rfl (bytes_tk hMl)) rfl (bytes_tk rfl) ty25 ty25 ty5 (by decide) (by first | omega | (simp; omega)) (by first | omega | (simp; omega)) (by decide)) ?_
        refine RW.opd rfl rfl (LO.fieldAddr rfl rfl ty27 rfl (by decide)) ?_
        refine RW.opn rfl rfl (LO.store rfl rfl rfl rfl rfl ty25 rfl (by decide) (Sp.lit rfl)) ?_
        refine RW.nil ?_
        repeat (refine W.seq ?_)
        refine W.region 132 139 (by decide) rfl rfl ?_
        refine RW.opd rfl rfl (LO.fieldAddr rfl rfl ty27 rfl (by decide)) ?_
        refine RW.opd rfl rfl (LO.load rfl rfl rfl rfl ty25 rfl) ?_
        refine RW.opd rfl rfl (LO.append_nil rfl rfl (SrcAV.isl rfl rfl (by simp [bytesC_len])) ty25 ty25 ty5 (by decide) (by omega) (by omega) (by decide)) ?_
        refine RW.opd rfl rfl (LO.move rfl rfl) ?_
        refine RW.opd rfl rfl (LO.append rfl rfl (SrcAV.own rfl rfl (Tk.lit rfl)) rfl (bytes_tk rfl) ty25 ty25 ty5 (by decide) (by first | omega | (simp; omega)) (by first | omega | (simp; omega)) (by decide)) ?_
        refine RW.opd rfl rfl (LO.fieldAddr rfl rfl ty27 rfl (by decide)) ?_
        refine RW.opn rfl rfl (LO.store rfl rfl rfl rfl rfl ty25 rfl (by decide) (Sp.lit rfl)) ?_
        refine RW.nil ?_
        have hT1 : Tk (bytesC bs ++ bytesC M) 0 ((bs.length + 8 * (1 + un)) * 1) (bytesC (bs ++ M)) := by
          rw [← bytesC_app, ← hMl]; exact bytes_tk (by simp)
        have hT2 : ∀ c : Int, Tk (bytesC bs ++ bytesC [c, 1, 2, 2, 2, 2, 2, 2]) 0 ((bs.length + 8) * 1) (bytesC (bs ++ [c, 1, 2, 2, 2, 2, 2, 2])) := fun c => by
          rw [← bytesC_app]; exact bytes_tk (by simp)
        refine W.frzc (q := 113) (j := 8) (r := 125) rfl rfl (by decide) rfl hT1 (bytesC_pure _) (Sp.lit rfl) ?_
        refine W.frzc (q := 114) (j := 8) (r := 136) rfl rfl (by decide) rfl (hT2 _) (bytesC_pure _) (Sp.lit rfl) ?_
        repeat (refine W.seq ?_)
        refine W.region 143 152 (by decide) rfl rfl ?_
        refine RW.opd rfl rfl (LO.load_agg rfl rfl rfl ty27 rfl (Tk.lit rfl)) ?_
        refine RW.opd rfl rfl (LO.call0 (fr := []) rfl rfl (hs1) fok31 (.cons rfl (.pure rfl) .nil) rfl) ?_
        refine RW.opd rfl rfl (LO.call0 (fr := []) rfl rfl (hd1) fok32 (.cons rfl (.pure (pkC_pure P1)) .nil) (nbt_pure n 0)) ?_
        refine RW.opd rfl rfl (LO.move rfl rfl) ?_
        refine RW.opd rfl rfl (LO.extract rfl rfl rfl) ?_
        refine RW.opd rfl rfl (LO.extract rfl rfl rfl) ?_
        refine RW.opd rfl rfl (LO.alloc rfl ty52) ?_
        refine RW.opn rfl rfl (LO.store rfl rfl rfl rfl rfl ty52 hnl (by decide) (Sp.of_all hnl)) ?_
        refine RW.opd rfl rfl (LO.assign rfl rfl) ?_
        refine RW.nil ?_
        repeat (refine W.seq ?_)
        refine W.region 156 165 (by decide) rfl rfl ?_
        refine RW.opd rfl rfl (LO.load_agg rfl rfl rfl ty27 rfl (Tk.lit rfl)) ?_
        refine RW.opd rfl rfl (LO.call0 (fr := []) rfl rfl (hs2) fok31 (.cons rfl (.pure rfl) .nil) rfl) ?_
        refine RW.opd rfl rfl (LO.call0 (fr := []) rfl rfl (hd2) fok32 (.cons rfl (.pure (pkC_pure P2)) .nil) (nbt_pure WN 0)) ?_
        refine RW.opd rfl rfl (LO.move rfl rfl) ?_
        refine RW.opd rfl rfl (LO.extract rfl rfl rfl) ?_
        refine RW.opd rfl rfl (LO.extract rfl rfl rfl) ?_
        refine RW.opd rfl rfl (LO.alloc rfl ty52) ?_
        refine RW.opn rfl rfl (LO.store rfl rfl rfl rfl rfl ty52 hWl (by decide) (Sp.of_all hWl)) ?_
        refine RW.opd rfl rfl (LO.assign rfl rfl) ?_
        refine RW.nil ?_
        repeat (refine W.seq ?_)
        refine W.region 169 172 (by decide) rfl rfl ?_
        refine RW.opd rfl rfl (LO.load_agg rfl rfl rfl ty52 rfl htn) ?_
        refine RW.opd rfl rfl (LO.alloc rfl ty52) ?_
        refine RW.opn rfl rfl (LO.store rfl rfl rfl rfl rfl ty52 hnl (by decide) (Sp.of_all hnl)) ?_
        refine RW.nil ?_
        have hself := eqN_self n
        cases hh : n.has
        case' true =>
          have hnh : (!n.has) = false := by rw [hh]; rfl
          have heq : eqN WN n = true := eqN_iff.2 (by rw [← hW, hh]; simp only [if_true]; rw [← hh])
          repeat (refine W.seq ?_)
          refine W.region 176 179 (by decide) rfl rfl ?_
          refine RW.opd rfl rfl (LO.fieldAddr rfl rfl ty52 rfl (by decide)) ?_
          refine RW.opd rfl rfl (LO.load rfl rfl rfl rfl ty4 rfl) ?_
          refine RW.opd rfl rfl (LO.not rfl rfl) ?_
          refine RW.nil ?_
          repeat (refine W.seq ?_)
          refine W.cond_f rfl (by first | rfl | assumption) ?_
          refine W.skip ?_
          repeat (refine W.seq ?_)
          refine W.region 192 212 (by decide) rfl rfl ?_
          refine RW.opd rfl rfl (LO.move rfl rfl) ?_
          refine RW.opd rfl rfl (LO.eql rfl rfl rfl) ?_
          refine RW.opd rfl rfl (LO.move rfl rfl) ?_
          refine RW.gd rfl rfl rfl ?_ rfl (LO.load_agg rfl rfl rfl ty52 rfl (by first | exact htn | exact hWt)) ?_; (· (first | rfl | assumption))
          refine RW.gd rfl rfl rfl ?_ rfl (LO.load_agg rfl rfl rfl ty52 rfl (by first | exact htn | exact hWt)) ?_; (· (first | rfl | assumption))
          refine RW.gd rfl rfl rfl ?_ rfl (LO.eql_nb n n hgn.1.1 hgn.1.1 rfl rfl rfl) ?_; (· (first | rfl | assumption))
          refine RW.opd rfl rfl (LO.pick_t rfl rfl ?_ rfl) ?_; (· (first | rfl | assumption))
          refine RW.opd rfl rfl (LO.move rfl rfl) ?_
          refine RW.gd rfl rfl rfl ?_ rfl (LO.move rfl rfl) ?_; (· (first | rfl | assumption))
          refine RW.gd rfl rfl rfl ?_ rfl (LO.eql rfl rfl rfl) ?_; (· (first | rfl | assumption))
          refine RW.opd rfl rfl (LO.pick_t rfl rfl ?_ rfl) ?_; (· (first | rfl | assumption))
          refine RW.opd rfl rfl (LO.move rfl rfl) ?_
          refine RW.gd rfl rfl rfl ?_ rfl (LO.load_agg rfl rfl rfl ty52 rfl (by first | exact htn | exact hWt)) ?_; (· (first | rfl | assumption))
          refine RW.gd rfl rfl rfl ?_ rfl (LO.load_agg rfl rfl rfl ty52 rfl (by first | exact htn | exact hWt)) ?_; (· (first | rfl | assumption))
          refine RW.gd rfl rfl rfl ?_ rfl (LO.eql_nb WN n (by rw [← hW]; simp only [hh, if_true]; exact hgn.1.1) hgn.1.1 rfl rfl rfl) ?_; (· (first | rfl | assumption))
          refine RW.opd rfl rfl (LO.pick_t rfl rfl ?_ rfl) ?_; (· (first | rfl | assumption))
          refine RW.opd rfl rfl (LO.move rfl rfl) ?_
          refine RW.gd rfl rfl rfl ?_ rfl (LO.call0 (fr := []) rfl rfl (haw) fok28 .nil rfl) ?_; (· (first | rfl | assumption))
          refine RW.opd rfl rfl (LO.pick_t rfl rfl ?_ rfl) ?_; (· (first | rfl | assumption))
          refine RW.opd rfl rfl (LO.assign rfl rfl) ?_
          refine RW.nil ?_
          repeat (refine W.seq ?_)
          refine W.ret ⟨.inl rfl, _, mt, (RVs.cons (RV.tmp rfl) RVs.nil), (by (repeat' (first | exact all_mt | refine all_up ?_ ?_)) <;> rfl), ?_⟩
          exact ⟨rfl, rfl⟩
        case' false =>
          have hnh : (!n.has) = true := by rw [hh]; rfl
          have hW2 : WN = ⟨n.k, n.fl, n.tg, true, [2, 2, 2, 2, 2, 2]⟩ := by rw [← hW, hh]; rfl
          have heq : eqN WN ⟨n.k, n.fl, n.tg, true, [2, 2, 2, 2, 2, 2]⟩ = true := eqN_iff.2 hW2
          have hw2t : Tk (nbC ⟨n.k, n.fl, n.tg, true, [2, 2, 2, 2, 2, 2]⟩) 0 12 (nbC ⟨n.k, n.fl, n.tg, true, [2, 2, 2, 2, 2, 2]⟩) := by rw [← hW2]; exact hWt
          repeat (refine W.seq ?_)
          refine W.region 176 179 (by decide) rfl rfl ?_
          refine RW.opd rfl rfl (LO.fieldAddr rfl rfl ty52 rfl (by decide)) ?_
          refine RW.opd rfl rfl (LO.load rfl rfl rfl rfl ty4 rfl) ?_
          refine RW.opd rfl rfl (LO.not rfl rfl) ?_
          refine RW.nil ?_
          repeat (refine W.seq ?_)
          refine W.cond_t rfl (by first | rfl | assumption) ?_
          repeat (refine W.seq ?_)
          refine W.region 183 188 (by decide) rfl rfl ?_
          refine RW.opd rfl rfl (LO.build_ar rfl ty50 ty5 (.cons rfl rfl rfl rfl (Sp.lit rfl) (.cons rfl rfl rfl rfl (Sp.lit rfl) (.cons rfl rfl rfl rfl (Sp.lit rfl) (.cons rfl rfl rfl rfl (Sp.lit rfl) (.cons rfl rfl rfl rfl (Sp.lit rfl) (.cons rfl rfl rfl rfl (Sp.lit rfl) .nil))))))) ?_
          refine RW.opd rfl rfl (LO.fieldAddr rfl rfl ty52 rfl (by decide)) ?_
          refine RW.opn rfl rfl (LO.store rfl rfl rfl rfl rfl ty4 rfl (by decide) sp_has) ?_
          refine RW.opd rfl rfl (LO.fieldAddr rfl rfl ty52 rfl (by decide)) ?_
          refine RW.opn rfl rfl (LO.store rfl rfl rfl rfl rfl ty50 rfl (by decide) (sp_mac (l := n.ln) (m := [2, 2, 2, 2, 2, 2]) hgn.1.1 rfl)) ?_
          refine RW.nil ?_
          repeat (refine W.seq ?_)
          refine W.region 192 212 (by decide) rfl rfl ?_
          refine RW.opd rfl rfl (LO.move rfl rfl) ?_
          refine RW.opd rfl rfl (LO.eql rfl rfl rfl) ?_
          refine RW.opd rfl rfl (LO.move rfl rfl) ?_
          refine RW.gd rfl rfl rfl ?_ rfl (LO.load_agg rfl rfl rfl ty52 rfl (by first | exact htn | exact hWt | exact hw2t)) ?_; (· (first | rfl | assumption))
          refine RW.gd rfl rfl rfl ?_ rfl (LO.load_agg rfl rfl rfl ty52 rfl (by first | exact htn | exact hWt | exact hw2t)) ?_; (· (first | rfl | assumption))
          refine RW.gd rfl rfl rfl ?_ rfl (LO.eql_nb n n hgn.1.1 hgn.1.1 rfl rfl rfl) ?_; (· (first | rfl | assumption))
          refine RW.opd rfl rfl (LO.pick_t rfl rfl ?_ rfl) ?_; (· (first | rfl | assumption))
          refine RW.opd rfl rfl (LO.move rfl rfl) ?_
          refine RW.gd rfl rfl rfl ?_ rfl (LO.move rfl rfl) ?_; (· (first | rfl | assumption))
          refine RW.gd rfl rfl rfl ?_ rfl (LO.eql rfl rfl rfl) ?_; (· (first | rfl | assumption))
          refine RW.opd rfl rfl (LO.pick_t rfl rfl ?_ rfl) ?_; (· (first | rfl | assumption))
          refine RW.opd rfl rfl (LO.move rfl rfl) ?_
          refine RW.gd rfl rfl rfl ?_ rfl (LO.load_agg rfl rfl rfl ty52 rfl (by first | exact htn | exact hWt | exact hw2t)) ?_; (· (first | rfl | assumption))
          refine RW.gd rfl rfl rfl ?_ rfl (LO.load_agg rfl rfl rfl ty52 rfl (Tk.lit rfl)) ?_; (· (first | rfl | assumption))
          refine RW.gd rfl rfl rfl ?_ rfl (LO.eql_nb WN ⟨n.k, n.fl, n.tg, true, [2, 2, 2, 2, 2, 2]⟩ (by rw [hW2]; rfl) rfl rfl rfl rfl) ?_; (· (first | rfl | assumption))
          refine RW.opd rfl rfl (LO.pick_t rfl rfl ?_ rfl) ?_; (· (first | rfl | assumption))
          refine RW.opd rfl rfl (LO.move rfl rfl) ?_
          refine RW.gd rfl rfl rfl ?_ rfl (LO.call0 (fr := []) rfl rfl (haw) fok28 .nil rfl) ?_; (· (first | rfl | assumption))
          refine RW.opd rfl rfl (LO.pick_t rfl rfl ?_ rfl) ?_; (· (first | rfl | assumption))
          refine RW.opd rfl rfl (LO.assign rfl rfl) ?_
          refine RW.nil ?_
          repeat (refine W.seq ?_)
          refine W.ret ⟨.inl rfl, _, mt, (RVs.cons (RV.tmp rfl) RVs.nil), (by (repeat' (first | exact all_mt | refine all_up ?_ ?_)) <;> rfl), ?_⟩
          exact ⟨rfl, rfl⟩
end Go.Proofs.Ytoijkcnefnmbjaa
