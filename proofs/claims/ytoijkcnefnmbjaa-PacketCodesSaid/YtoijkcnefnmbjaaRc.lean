/-
  Reading a message, by the document: a packet that is right so far; its fixed bytes are too short.
-/
import Derived.Test.YtoijkcnefnmbjaaRb
namespace Go.Proofs.Ytoijkcnefnmbjaa
open Go.RowKit
theorem chkE_ok {p : Pk} (hE : chkE p = 0) : vpk p = true ∧ (!p.s.v6) = false ∧ (p.p != 58) = false ∧ (p.t != 255) = false ∧ decide ((p.bs.length : Int) < 4) = false ∧ (chkF p.s p.d 58 p.bs != 0) = false ∧ 4 ≤ p.bs.length ∧ decide (gB p.bs 0 < 133) = false ∧ decide (gB p.bs 0 > 137) = false ∧ (gB p.bs 1 != 0) = false := by
  have hv : vpk p = true := by
    cases h : vpk p with
    | true => rfl
    | false => unfold chkE at hE; rw [h] at hE; simp at hE
  refine ⟨hv, ?_⟩
  rcases chkE_cases p hv with ⟨_, h⟩ | ⟨_, _, h⟩ | ⟨_, _, _, h⟩ | ⟨_, _, _, _, h⟩ | ⟨_, _, _, _, _, h⟩ | ⟨g1, g2, g3, g4, g5⟩
  · rw [hE] at h; cases h
  · rw [hE] at h; cases h
  · rw [hE] at h; cases h
  · rw [hE] at h; cases h
  · rw [hE] at h; cases h
  · refine ⟨g1, g2, g3, g4, g5, by have := of_decide_eq_false g4; omega, ?_⟩
    unfold chkE at hE
    have e2 : p.p = 58 := by simpa using g2
    rw [hv, e2] at hE
    simp only [Bool.not_true, Bool.false_eq_true, if_false, g1, g3, g4, g5, Bool.or_self, bne_self_eq_false] at hE
    split at hE
    · cases hE
    · rename_i h
      simp only [Bool.or_eq_true, decide_eq_true_eq, not_or] at h
      exact ⟨decide_eq_false h.1.1, decide_eq_false (by omega), by simpa using h.2⟩
set_option maxHeartbeats 4000000 in
theorem decX_short (p : Pk) (hB : IsB p.bs) (s1 : U64 p.s.hi) (s2 : U64 p.s.lo) (d1 : U64 p.d.hi) (d2 : U64 p.d.lo) (hE : chkE p = 0) (hsz : p.bs.length < 4 + fixN (gB p.bs 0)) : AFn Try.prog 57 0 [.agg (pkC p)] mt (decV p) mt := by
  refine AFn.eq Try.func57 rfl rfl (Nat.le_of_ble_eq_true rfl) ?_
  obtain ⟨hv, g1, g2, g3, g4, g5, hl4, k1, k2, k3⟩ := chkE_ok hE
  have hvp := rpvalid_any p
  rw [hv] at hvp
  obtain ⟨v1, v2, v3⟩ := vpk_parts hv
  have hck := chkX_any p.s p.d 58 p.bs v1 v2 s1 s2 d1 d2 hB (by omega)
  unfold adC at hck
  have hdv : decV p = .tup [.agg (nbC zNb), .base (.int .i64 4)] := by
    unfold decV decR
    rw [if_neg (by rw [hE]; decide)]
    unfold rdB
    rw [if_pos (by rw [List.length_drop]; omega)]
  rw [hdv]
  have hat0 := by_at (l := p.bs) (k := 0) (by omega)
  have hat1 := by_at (l := p.bs) (k := 1) (by omega)
  have b0 := hB.at 0
  have hfn : fixN (gB p.bs 0) ≤ 36 := by unfold fixN; split <;> (try split) <;> (try split) <;> omega
  have hfx := fixedX_any (gB p.bs 0)
  have g6 : decide ((p.bs.length : Int) < 4 + (fixN (gB p.bs 0) : Int)) = true := decide_eq_true (by omega)
  repeat (refine W.seq ?_)
  refine W.region 0 3 (by decide) rfl rfl ?_
  refine RW.opd rfl rfl (LO.box rfl rfl rfl) ?_
  refine RW.opd rfl rfl (LO.alloc rfl ty52) ?_
  refine RW.opd rfl rfl (LO.assign rfl rfl) ?_
  refine RW.nil ?_
  repeat (refine W.seq ?_)
  refine W.region 7 10 (by decide) rfl rfl ?_
  refine RW.opd rfl rfl (LO.fieldAddr rfl rfl ty27 rfl (by decide)) ?_
  refine RW.opd rfl rfl (LO.load rfl rfl rfl rfl ty25 rfl) ?_
  refine RW.opd rfl rfl (LO.assign rfl rfl) ?_
  refine RW.nil ?_
  repeat (refine W.seq ?_)
  refine W.block ?_
  repeat (refine W.seq ?_)
  refine W.region 14 18 (by decide) rfl rfl ?_
  refine RW.opd rfl rfl (LO.load_agg rfl rfl rfl ty27 rfl (Tk.lit rfl)) ?_
  refine RW.opd rfl rfl (LO.call0 (fr := []) rfl rfl (hvp) fok16 (.cons rfl (.pure (pkC_pure p)) .nil) rfl) ?_
  refine RW.opd rfl rfl (LO.not rfl rfl) ?_
  refine RW.opd rfl rfl (LO.assign rfl rfl) ?_
  refine RW.nil ?_
  repeat (refine W.seq ?_)
  refine W.cond_f rfl (by first | rfl | assumption) ?_
  repeat (refine W.seq ?_)
  refine W.region 29 39 (by decide) rfl rfl ?_
  refine RW.opd rfl rfl (LO.fieldAddr rfl rfl ty27 rfl (by decide)) ?_
  refine RW.opd rfl rfl (LO.fieldAddr rfl rfl ty24 rfl (by decide)) ?_
  refine RW.opd rfl rfl (LO.load rfl rfl rfl rfl ty4 rfl) ?_
  refine RW.opd rfl rfl (LO.not rfl rfl) ?_
  refine RW.opd rfl rfl (LO.move rfl rfl) ?_
  refine RW.gd rfl rfl rfl ?_ rfl (LO.fieldAddr rfl rfl ty27 rfl (by decide)) ?_; (· (first | rfl | assumption))
  refine RW.gd rfl rfl rfl ?_ rfl (LO.load rfl rfl rfl rfl ty3 rfl) ?_; (· (first | rfl | assumption))
  refine RW.gd rfl rfl rfl ?_ rfl (LO.neq rfl rfl rfl) ?_; (· (first | rfl | assumption))
  refine RW.opd rfl rfl (LO.pick_f rfl rfl ?_ rfl) ?_; (· (first | rfl | assumption))
  refine RW.opd rfl rfl (LO.assign rfl rfl) ?_
  refine RW.nil ?_
  repeat (refine W.seq ?_)
  refine W.cond_f rfl (by first | rfl | assumption) ?_
  repeat (refine W.seq ?_)
  refine W.region 50 54 (by decide) rfl rfl ?_
  refine RW.opd rfl rfl (LO.fieldAddr rfl rfl ty27 rfl (by decide)) ?_
  refine RW.opd rfl rfl (LO.load rfl rfl rfl rfl ty3 rfl) ?_
  refine RW.opd rfl rfl (LO.neq rfl rfl rfl) ?_
  refine RW.opd rfl rfl (LO.assign rfl rfl) ?_
  refine RW.nil ?_
  repeat (refine W.seq ?_)
  refine W.cond_f rfl (by first | rfl | assumption) ?_
  repeat (refine W.seq ?_)
  refine W.region 65 69 (by decide) rfl rfl ?_
  refine RW.opd rfl rfl (LO.move rfl rfl) ?_
  refine RW.opd rfl rfl (LO.len_isl rfl rfl rfl ty25) ?_
  refine RW.opd rfl rfl (LO.lss rfl rfl rfl) ?_
  refine RW.opd rfl rfl (LO.assign rfl rfl) ?_
  refine RW.nil ?_
  repeat (refine W.seq ?_)
  refine W.cond_f rfl (by first | rfl | assumption) ?_
  repeat (refine W.seq ?_)
  refine W.region 80 88 (by decide) rfl rfl ?_
  refine RW.opd rfl rfl (LO.fieldAddr rfl rfl ty27 rfl (by decide)) ?_
  refine RW.opd rfl rfl (LO.load_agg rfl rfl rfl ty24 rfl (Tk.lit rfl)) ?_
  refine RW.opd rfl rfl (LO.fieldAddr rfl rfl ty27 rfl (by decide)) ?_
  refine RW.opd rfl rfl (LO.load_agg rfl rfl rfl ty24 rfl (Tk.lit rfl)) ?_
  refine RW.opd rfl rfl (LO.move rfl rfl) ?_
  refine RW.opd rfl rfl (LO.call0 (fr := []) rfl rfl (hck) fok53 (.cons rfl (.pure rfl) (.cons rfl (.pure rfl) (.cons rfl (.pure rfl) (.cons rfl (.pure rfl) .nil)))) rfl) ?_
  refine RW.opd rfl rfl (LO.neq rfl rfl rfl) ?_
  refine RW.opd rfl rfl (LO.assign rfl rfl) ?_
  refine RW.nil ?_
  repeat (refine W.seq ?_)
  refine W.cond_f rfl (by first | rfl | assumption) ?_
  repeat (refine W.seq ?_)
  refine W.region 99 116 (by decide) rfl rfl ?_
  refine RW.opd rfl rfl (LO.move rfl rfl) ?_
  refine RW.opd rfl rfl (LO.indexAddr_isl rfl rfl rfl rfl rfl ty25 ty5 ?_) ?_; (· (first | omega | decide | assumption | fail | (simp; done) | (simp; omega)))
  refine RW.opd rfl rfl (LO.load_imm rfl rfl hat0 ty5 rfl) ?_
  refine RW.opd rfl rfl (LO.lss rfl rfl rfl) ?_
  refine RW.opd rfl rfl (LO.move rfl rfl) ?_
  refine RW.gd rfl rfl rfl ?_ rfl (LO.move rfl rfl) ?_; (· (first | rfl | assumption))
  refine RW.gd rfl rfl rfl ?_ rfl (LO.indexAddr_isl rfl rfl rfl rfl rfl ty25 ty5 ?_) ?_; (· (first | rfl | assumption)); (· (first | omega | decide | assumption | fail | (simp; done) | (simp; omega)))
  refine RW.gd rfl rfl rfl ?_ rfl (LO.load_imm rfl rfl hat0 ty5 rfl) ?_; (· (first | rfl | assumption))
  refine RW.gd rfl rfl rfl ?_ rfl (LO.gtr rfl rfl rfl) ?_; (· (first | rfl | assumption))
  refine RW.opd rfl rfl (LO.pick_f rfl rfl ?_ rfl) ?_; (· (first | rfl | assumption))
  refine RW.opd rfl rfl (LO.move rfl rfl) ?_
  refine RW.gd rfl rfl rfl ?_ rfl (LO.move rfl rfl) ?_; (· (first | rfl | assumption))
  refine RW.gd rfl rfl rfl ?_ rfl (LO.indexAddr_isl rfl rfl rfl rfl rfl ty25 ty5 ?_) ?_; (· (first | rfl | assumption)); (· (first | omega | decide | assumption | fail | (simp; done) | (simp; omega)))
  refine RW.gd rfl rfl rfl ?_ rfl (LO.load_imm rfl rfl hat1 ty5 rfl) ?_; (· (first | rfl | assumption))
  refine RW.gd rfl rfl rfl ?_ rfl (LO.neq rfl rfl rfl) ?_; (· (first | rfl | assumption))
  refine RW.opd rfl rfl (LO.pick_f rfl rfl ?_ rfl) ?_; (· (first | rfl | assumption))
  refine RW.opd rfl rfl (LO.assign rfl rfl) ?_
  refine RW.nil ?_
  repeat (refine W.seq ?_)
  refine W.cond_f rfl (by first | rfl | assumption) ?_
  refine W.skip ?_
  repeat (refine W.seq ?_)
  refine W.region 127 134 (by decide) rfl rfl ?_
  refine RW.opd rfl rfl (LO.move rfl rfl) ?_
  refine RW.opd rfl rfl (LO.indexAddr_isl rfl rfl rfl rfl rfl ty25 ty5 ?_) ?_; (· (first | omega | decide | assumption | fail | (simp; done) | (simp; omega)))
  refine RW.opd rfl rfl (LO.load_imm rfl rfl hat0 ty5 rfl) ?_
  refine RW.opd rfl rfl (LO.conv_in rfl rfl ty5 ty3 ?_) ?_; (· (first | exact IntWalk.i64_in _ (by omega) | assumption))
  refine RW.opd rfl rfl (LO.build_st rfl ty52 (.cons rfl rfl rfl rfl (Sp.lit rfl) .nil)) ?_
  refine RW.opd rfl rfl (LO.alloc rfl ty52) ?_
  refine RW.opn rfl rfl (LO.store rfl rfl rfl rfl rfl ty52 rfl (by decide) (Sp.lit rfl)) ?_
  refine RW.nil ?_
  repeat (refine W.seq ?_)
  refine W.region 138 145 (by decide) rfl rfl ?_
  refine RW.opd rfl rfl (LO.move rfl rfl) ?_
  refine RW.opd rfl rfl (LO.len_isl rfl rfl rfl ty25) ?_
  refine RW.opd rfl rfl (LO.fieldAddr rfl rfl ty52 rfl (by decide)) ?_
  refine RW.opd rfl rfl (LO.load rfl rfl rfl rfl ty3 rfl) ?_
  refine RW.opd rfl rfl (LO.call0 (fr := []) rfl rfl (hfx) fok50 (.cons rfl (.pure rfl) .nil) rfl) ?_
  refine RW.opd rfl rfl (LO.add_in rfl rfl rfl ?_) ?_; (· (first | exact IntWalk.i64_in _ (by omega) | assumption))
  refine RW.opd rfl rfl (LO.lss rfl rfl rfl) ?_
  refine RW.nil ?_
  repeat (refine W.seq ?_)
  refine W.cond_t rfl (by first | rfl | assumption) ?_
  repeat (refine W.seq ?_)
  refine W.region 149 152 (by decide) rfl rfl ?_
  refine RW.opd rfl rfl (LO.build_st rfl ty52 .nil) ?_
  refine RW.opn rfl rfl (LO.store rfl rfl rfl rfl rfl ty52 rfl (by decide) (Sp.lit rfl)) ?_
  refine RW.opd rfl rfl (LO.assign rfl rfl) ?_
  refine RW.nil ?_
  repeat (refine W.seq ?_)
  refine W.ret ⟨.inl rfl, _, mt, (RVs.cons (RV.cellA rfl rfl ty52 rfl (Tk.lit rfl)) (RVs.cons (RV.tmp rfl) RVs.nil)), (by (repeat' (first | exact all_mt | refine all_up ?_ ?_)) <;> rfl), ?_⟩
  exact ⟨rfl, rfl⟩
end Go.Proofs.Ytoijkcnefnmbjaa
