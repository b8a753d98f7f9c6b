/-
  Reading a message, by the document: packets that something is wrong with ahead of the fixed bytes.
-/
import Derived.Test.YtoijkcnefnmbjaaRa
namespace Go.Proofs.Ytoijkcnefnmbjaa
open Go.RowKit
theorem decV_bad {p : Pk} {e : Int} (h : chkE p = e) (h0 : e ≠ 0) : decV p = .tup [.agg (nbC zNb), .base (.int .i64 e)] := by unfold decV decR; rw [h, if_pos h0]
theorem chkE_cases (p : Pk) (hv : vpk p = true) : ((!p.s.v6) = true ∧ chkE p = 5) ∨ ((!p.s.v6) = false ∧ (p.p != 58) = true ∧ chkE p = 5) ∨ ((!p.s.v6) = false ∧ (p.p != 58) = false ∧ (p.t != 255) = true ∧ chkE p = 10) ∨ ((!p.s.v6) = false ∧ (p.p != 58) = false ∧ (p.t != 255) = false ∧ decide ((p.bs.length : Int) < 4) = true ∧ chkE p = 4) ∨
    ((!p.s.v6) = false ∧ (p.p != 58) = false ∧ (p.t != 255) = false ∧ decide ((p.bs.length : Int) < 4) = false ∧ (chkF p.s p.d 58 p.bs != 0) = true ∧ chkE p = 6) ∨
    ((!p.s.v6) = false ∧ (p.p != 58) = false ∧ (p.t != 255) = false ∧ decide ((p.bs.length : Int) < 4) = false ∧ (chkF p.s p.d 58 p.bs != 0) = false) := by
  unfold chkE
  rw [hv]
  by_cases c1 : p.s.v6 = true
  · by_cases c2 : p.p = 58
    · by_cases c3 : p.t = 255
      · by_cases c4 : (p.bs.length : Int) < 4
        · simp [c1, c2, c3, c4]
        · by_cases c5 : chkF p.s p.d 58 p.bs = 0
          · simp [c1, c2, c3, c4, c5]
          · simp [c1, c2, c3, c4, c5]
      · simp [c1, c2, c3]
    · simp [c1, c2]
  · simp [c1]
set_option maxHeartbeats 1000000 in
theorem decX_bad1 (p : Pk) (hv : vpk p = false) : AFn Try.prog 57 0 [.agg (pkC p)] mt (decV p) mt := by
  refine AFn.eq Try.func57 rfl rfl (Nat.le_of_ble_eq_true rfl) ?_
  have hvp := rpvalid_any p
  rw [hv] at hvp
  have hE : chkE p = 1 := by unfold chkE; rw [hv]; rfl
  rw [decV_bad hE (by decide)]
  repeat (refine W.seq ?_)
  refine W.region 0 3 (by decide) rfl rfl ?_
  refine RW.opd rfl rfl (LO.box rfl rfl rfl) ?_
  refine RW.opd rfl rfl (LO.alloc rfl ty52) ?_
  refine RW.opd rfl rfl (LO.assign rfl rfl) ?_
  refine RW.nil ?_
  repeat (refine W.seq ?_)
  refine W.region 7 10 (by decide) rfl rfl ?_
  refine RW.opd rfl rfl (LO.fieldAddr rfl rfl ty27 rfl (by decide)) ?_
  refine RW.opd rfl rfl (LO.load rfl rfl rfl rfl ty25 rfl) ?_
  refine RW.opd rfl rfl (LO.assign rfl rfl) ?_
  refine RW.nil ?_
  repeat (refine W.seq ?_)
  refine W.block ?_
  repeat (refine W.seq ?_)
  refine W.region 14 18 (by decide) rfl rfl ?_
  refine RW.opd rfl rfl (LO.load_agg rfl rfl rfl ty27 rfl (Tk.lit rfl)) ?_
  refine RW.opd rfl rfl (LO.call0 (fr := []) rfl rfl (hvp) fok16 (.cons rfl (.pure (pkC_pure p)) .nil) rfl) ?_
  refine RW.opd rfl rfl (LO.not rfl rfl) ?_
  refine RW.opd rfl rfl (LO.assign rfl rfl) ?_
  refine RW.nil ?_
  repeat (refine W.seq ?_)
  refine W.cond_t rfl (by first | rfl | assumption) ?_
  repeat (refine W.seq ?_)
  refine W.region 22 25 (by decide) rfl rfl ?_
  refine RW.opd rfl rfl (LO.build_st rfl ty52 .nil) ?_
  refine RW.opn rfl rfl (LO.store rfl rfl rfl rfl rfl ty52 rfl (by decide) (Sp.lit rfl)) ?_
  refine RW.opd rfl rfl (LO.assign rfl rfl) ?_
  refine RW.nil ?_
  repeat (refine W.seq ?_)
  refine W.ret ⟨.inl rfl, _, mt, (RVs.cons (RV.cellA rfl rfl ty52 rfl (Tk.lit rfl)) (RVs.cons (RV.tmp rfl) RVs.nil)), (by (repeat' (first | exact all_mt | refine all_up ?_ ?_)) <;> rfl), ?_⟩
  exact ⟨rfl, rfl⟩
set_option maxHeartbeats 4000000 in
theorem decX_bad2 (p : Pk) (hB : IsB p.bs) (s1 : U64 p.s.hi) (s2 : U64 p.s.lo) (d1 : U64 p.d.hi) (d2 : U64 p.d.lo) (hv : vpk p = true) (h0 : chkE p ≠ 0) (hk : ¬ (chkE p = 5 ∧ (!p.s.v6) = false ∧ (p.p != 58) = false)) : AFn Try.prog 57 0 [.agg (pkC p)] mt (decV p) mt := by
  refine AFn.eq Try.func57 rfl rfl (Nat.le_of_ble_eq_true rfl) ?_
  have hvp := rpvalid_any p
  rw [hv] at hvp
  obtain ⟨v1, v2, v3⟩ := vpk_parts hv
  have hck := chkX_any p.s p.d 58 p.bs v1 v2 s1 s2 d1 d2 hB (by omega)
  unfold adC at hck
  rcases chkE_cases p hv with ⟨g1, hE⟩ | ⟨g1, g2, hE⟩ | ⟨g1, g2, g3, hE⟩ | ⟨g1, g2, g3, g4, hE⟩ | ⟨g1, g2, g3, g4, g5, hE⟩ | ⟨g1, g2, g3, g4, g5⟩
  · rw [decV_bad hE (by decide)]
    repeat (refine W.seq ?_)
    refine W.region 0 3 (by decide) rfl rfl ?_
    refine RW.opd rfl rfl (LO.box rfl rfl rfl) ?_
    refine RW.opd rfl rfl (LO.alloc rfl ty52) ?_
    refine RW.opd rfl rfl (LO.assign rfl rfl) ?_
    refine RW.nil ?_
    repeat (refine W.seq ?_)
    refine W.region 7 10 (by decide) rfl rfl ?_
    refine RW.opd rfl rfl (LO.fieldAddr rfl rfl ty27 rfl (by decide)) ?_
    refine RW.opd rfl rfl (LO.load rfl rfl rfl rfl ty25 rfl) ?_
    refine RW.opd rfl rfl (LO.assign rfl rfl) ?_
    refine RW.nil ?_
    repeat (refine W.seq ?_)
    refine W.block ?_
    repeat (refine W.seq ?_)
    refine W.region 14 18 (by decide) rfl rfl ?_
    refine RW.opd rfl rfl (LO.load_agg rfl rfl rfl ty27 rfl (Tk.lit rfl)) ?_
    refine RW.opd rfl rfl (LO.call0 (fr := []) rfl rfl (hvp) fok16 (.cons rfl (.pure (pkC_pure p)) .nil) rfl) ?_
    refine RW.opd rfl rfl (LO.not rfl rfl) ?_
    refine RW.opd rfl rfl (LO.assign rfl rfl) ?_
    refine RW.nil ?_
    repeat (refine W.seq ?_)
    refine W.cond_f rfl (by first | rfl | assumption) ?_
    repeat (refine W.seq ?_)
    refine W.region 29 39 (by decide) rfl rfl ?_
    refine RW.opd rfl rfl (LO.fieldAddr rfl rfl ty27 rfl (by decide)) ?_
    refine RW.opd rfl rfl (LO.fieldAddr rfl rfl ty24 rfl (by decide)) ?_
    refine RW.opd rfl rfl (LO.load rfl rfl rfl rfl ty4 rfl) ?_
    refine RW.opd rfl rfl (LO.not rfl rfl) ?_
    refine RW.opd rfl rfl (LO.move rfl rfl) ?_
    refine RW.sd rfl rfl rfl ?_ rfl ?_; (· (first | rfl | assumption))
    refine RW.sd rfl rfl rfl ?_ rfl ?_; (· (first | rfl | assumption))
    refine RW.sd rfl rfl rfl ?_ rfl ?_; (· (first | rfl | assumption))
    refine RW.opd rfl rfl (LO.pick_t rfl rfl ?_ rfl) ?_; (· (first | rfl | assumption))
    refine RW.opd rfl rfl (LO.assign rfl rfl) ?_
    refine RW.nil ?_
    repeat (refine W.seq ?_)
    refine W.cond_t rfl (by first | rfl | assumption) ?_
    repeat (refine W.seq ?_)
    refine W.region 43 46 (by decide) rfl rfl ?_
    refine RW.opd rfl rfl (LO.build_st rfl ty52 .nil) ?_
    refine RW.opn rfl rfl (LO.store rfl rfl rfl rfl rfl ty52 rfl (by decide) (Sp.lit rfl)) ?_
    refine RW.opd rfl rfl (LO.assign rfl rfl) ?_
    refine RW.nil ?_
    repeat (refine W.seq ?_)
    refine W.ret ⟨.inl rfl, _, mt, (RVs.cons (RV.cellA rfl rfl ty52 rfl (Tk.lit rfl)) (RVs.cons (RV.tmp rfl) RVs.nil)), (by (repeat' (first | exact all_mt | refine all_up ?_ ?_)) <;> rfl), ?_⟩
    exact ⟨rfl, rfl⟩
  · rw [decV_bad hE (by decide)]
    repeat (refine W.seq ?_)
    refine W.region 0 3 (by decide) rfl rfl ?_
    refine RW.opd rfl rfl (LO.box rfl rfl rfl) ?_
    refine RW.opd rfl rfl (LO.alloc rfl ty52) ?_
    refine RW.opd rfl rfl (LO.assign rfl rfl) ?_
    refine RW.nil ?_
    repeat (refine W.seq ?_)
    refine W.region 7 10 (by decide) rfl rfl ?_
    refine RW.opd rfl rfl (LO.fieldAddr rfl rfl ty27 rfl (by decide)) ?_
    refine RW.opd rfl rfl (LO.load rfl rfl rfl rfl ty25 rfl) ?_
    refine RW.opd rfl rfl (LO.assign rfl rfl) ?_
    refine RW.nil ?_
    repeat (refine W.seq ?_)
    refine W.block ?_
    repeat (refine W.seq ?_)
    refine W.region 14 18 (by decide) rfl rfl ?_
    refine RW.opd rfl rfl (LO.load_agg rfl rfl rfl ty27 rfl (Tk.lit rfl)) ?_
    refine RW.opd rfl rfl (LO.call0 (fr := []) rfl rfl (hvp) fok16 (.cons rfl (.pure (pkC_pure p)) .nil) rfl) ?_
    refine RW.opd rfl rfl (LO.not rfl rfl) ?_
    refine RW.opd rfl rfl (LO.assign rfl rfl) ?_
    refine RW.nil ?_
    repeat (refine W.seq ?_)
    refine W.cond_f rfl (by first | rfl | assumption) ?_
    repeat (refine W.seq ?_)
    refine W.region 29 39 (by decide) rfl rfl ?_
    refine RW.opd rfl rfl (LO.fieldAddr rfl rfl ty27 rfl (by decide)) ?_
    refine RW.opd rfl rfl (LO.fieldAddr rfl rfl ty24 rfl (by decide)) ?_
    refine RW.opd rfl rfl (LO.load rfl rfl rfl rfl ty4 rfl) ?_
    refine RW.opd rfl rfl (LO.not rfl rfl) ?_
    refine RW.opd rfl rfl (LO.move rfl rfl) ?_
    refine RW.gd rfl rfl rfl ?_ rfl (LO.fieldAddr rfl rfl ty27 rfl (by decide)) ?_; (· (first | rfl | assumption))
    refine RW.gd rfl rfl rfl ?_ rfl (LO.load rfl rfl rfl rfl ty3 rfl) ?_; (· (first | rfl | assumption))
    refine RW.gd rfl rfl rfl ?_ rfl (LO.neq rfl rfl rfl) ?_; (· (first | rfl | assumption))
    refine RW.opd rfl rfl (LO.pick_f rfl rfl ?_ rfl) ?_; (· (first | rfl | assumption))
    refine RW.opd rfl rfl (LO.assign rfl rfl) ?_
    refine RW.nil ?_
    repeat (refine W.seq ?_)
    refine W.cond_t rfl (by first | rfl | assumption) ?_
    repeat (refine W.seq ?_)
    refine W.region 43 46 (by decide) rfl rfl ?_
    refine RW.opd rfl rfl (LO.build_st rfl ty52 .nil) ?_
    refine RW.opn rfl rfl (LO.store rfl rfl rfl rfl rfl ty52 rfl (by decide) (Sp.lit rfl)) ?_
    refine RW.opd rfl rfl (LO.assign rfl rfl) ?_
    refine RW.nil ?_
    repeat (refine W.seq ?_)
    refine W.ret ⟨.inl rfl, _, mt, (RVs.cons (RV.cellA rfl rfl ty52 rfl (Tk.lit rfl)) (RVs.cons (RV.tmp rfl) RVs.nil)), (by (repeat' (first | exact all_mt | refine all_up ?_ ?_)) <;> rfl), ?_⟩
    exact ⟨rfl, rfl⟩
  · rw [decV_bad hE (by decide)]
    repeat (refine W.seq ?_)
    refine W.region 0 3 (by decide) rfl rfl ?_
    refine RW.opd rfl rfl (LO.box rfl rfl rfl) ?_
    refine RW.opd rfl rfl (LO.alloc rfl ty52) ?_
    refine RW.opd rfl rfl (LO.assign rfl rfl) ?_
    refine RW.nil ?_
    repeat (refine W.seq ?_)
    refine W.region 7 10 (by decide) rfl rfl ?_
    refine RW.opd rfl rfl (LO.fieldAddr rfl rfl ty27 rfl (by decide)) ?_
    refine RW.opd rfl rfl (LO.load rfl rfl rfl rfl ty25 rfl) ?_
    refine RW.opd rfl rfl (LO.assign rfl rfl) ?_
    refine RW.nil ?_
    repeat (refine W.seq ?_)
    refine W.block ?_
    repeat (refine W.seq ?_)
    refine W.region 14 18 (by decide) rfl rfl ?_
    refine RW.opd rfl rfl (LO.load_agg rfl rfl rfl ty27 rfl (Tk.lit rfl)) ?_
    refine RW.opd rfl rfl (LO.call0 (fr := []) rfl rfl (hvp) fok16 (.cons rfl (.pure (pkC_pure p)) .nil) rfl) ?_
    refine RW.opd rfl rfl (LO.not rfl rfl) ?_
    refine RW.opd rfl rfl (LO.assign rfl rfl) ?_
    refine RW.nil ?_
    repeat (refine W.seq ?_)
    refine W.cond_f rfl (by first | rfl | assumption) ?_
    repeat (refine W.seq ?_)
    refine W.region 29 39 (by decide) rfl rfl ?_
    refine RW.opd rfl rfl (LO.fieldAddr rfl rfl ty27 rfl (by decide)) ?_
    refine RW.opd rfl rfl (LO.fieldAddr rfl rfl ty24 rfl (by decide)) ?_
    refine RW.opd rfl rfl (LO.load rfl rfl rfl rfl ty4 rfl) ?_
    refine RW.opd rfl rfl (LO.not rfl rfl) ?_
    refine RW.opd rfl rfl (LO.move rfl rfl) ?_
    refine RW.gd rfl rfl rfl ?_ rfl (LO.fieldAddr rfl rfl ty27 rfl (by decide)) ?_; (· (first | rfl | assumption))
    refine RW.gd rfl rfl rfl ?_ rfl (LO.load rfl rfl rfl rfl ty3 rfl) ?_; (· (first | rfl | assumption))
    refine RW.gd rfl rfl rfl ?_ rfl (LO.neq rfl rfl rfl) ?_; (· (first | rfl | assumption))
    refine RW.opd rfl rfl (LO.pick_f rfl rfl ?_ rfl) ?_; (· (first | rfl | assumption))
    refine RW.opd rfl rfl (LO.assign rfl rfl) ?_
    refine RW.nil ?_
    repeat (refine W.seq ?_)
    refine W.cond_f rfl (by first | rfl | assumption) ?_
    repeat (refine W.seq ?_)
    refine W.region 50 54 (by decide) rfl rfl ?_
    refine RW.opd rfl rfl (LO.fieldAddr rfl rfl ty27 rfl (by decide)) ?_
    refine RW.opd rfl rfl (LO.load rfl rfl rfl rfl ty3 rfl) ?_
    refine RW.opd rfl rfl (LO.neq rfl rfl rfl) ?_
    refine RW.opd rfl rfl (LO.assign rfl rfl) ?_
    refine RW.nil ?_
    repeat (refine W.seq ?_)
    refine W.cond_t rfl (by first | rfl | assumption) ?_
    repeat (refine W.seq ?_)
    refine W.region 58 61 (by decide) rfl rfl ?_
    refine RW.opd rfl rfl (LO.build_st rfl ty52 .nil) ?_
    refine RW.opn rfl rfl (LO.store rfl rfl rfl rfl rfl ty52 rfl (by decide) (Sp.lit rfl)) ?_
    refine RW.opd rfl rfl (LO.assign rfl rfl) ?_
    refine RW.nil ?_
    repeat (refine W.seq ?_)
    refine W.ret ⟨.inl rfl, _, mt, (RVs.cons (RV.cellA rfl rfl ty52 rfl (Tk.lit rfl)) (RVs.cons (RV.tmp rfl) RVs.nil)), (by (repeat' (first | exact all_mt | refine all_up ?_ ?_)) <;> rfl), ?_⟩
    exact ⟨rfl, rfl⟩
  · rw [decV_bad hE (by decide)]
    repeat (refine W.seq ?_)
    refine W.region 0 3 (by decide) rfl rfl ?_
    refine RW.opd rfl rfl (LO.box rfl rfl rfl) ?_
    refine RW.opd rfl rfl (LO.alloc rfl ty52) ?_
    refine RW.opd rfl rfl (LO.assign rfl rfl) ?_
    refine RW.nil ?_
    repeat (refine W.seq ?_)
    refine W.region 7 10 (by decide) rfl rfl ?_
    refine RW.opd rfl rfl (LO.fieldAddr rfl rfl ty27 rfl (by decide)) ?_
    refine RW.opd rfl rfl (LO.load rfl rfl rfl rfl ty25 rfl) ?_
    refine RW.opd rfl rfl (LO.assign rfl rfl) ?_
    refine RW.nil ?_
    repeat (refine W.seq ?_)
    refine W.block ?_
    repeat (refine W.seq ?_)
    refine W.region 14 18 (by decide) rfl rfl ?_
    refine RW.opd rfl rfl (LO.load_agg rfl rfl rfl ty27 rfl (Tk.lit rfl)) ?_
    refine RW.opd rfl rfl (LO.call0 (fr := []) rfl rfl (hvp) fok16 (.cons rfl (.pure (pkC_pure p)) .nil) rfl) ?_
    refine RW.opd rfl rfl (LO.not rfl rfl) ?_
    refine RW.opd rfl rfl (LO.assign rfl rfl) ?_
    refine RW.nil ?_
    repeat (refine W.seq ?_)
    refine W.cond_f rfl (by first | rfl | assumption) ?_
    repeat (refine W.seq ?_)
    refine W.region 29 39 (by decide) rfl rfl ?_
    refine RW.opd rfl rfl (LO.fieldAddr rfl rfl ty27 rfl (by decide)) ?_
    refine RW.opd rfl rfl (LO.fieldAddr rfl rfl ty24 rfl (by decide)) ?_
    refine RW.opd rfl rfl (LO.load rfl rfl rfl rfl ty4 rfl) ?_
    refine RW.opd rfl rfl (LO.not rfl rfl) ?_
    refine RW.opd rfl rfl (LO.move rfl rfl) ?_
    refine RW.gd rfl rfl rfl ?_ rfl (LO.fieldAddr rfl rfl ty27 rfl (by decide)) ?_; (· (first | rfl | assumption))
    refine RW.gd rfl rfl rfl ?_ rfl (LO.load rfl rfl rfl rfl ty3 rfl) ?_; (· (first | rfl | assumption))
    refine RW.gd rfl rfl rfl ?_ rfl (LO.neq rfl rfl rfl) ?_; (· (first | rfl | assumption))
    refine RW.opd rfl rfl (LO.pick_f rfl rfl ?_ rfl) ?_; (· (first | rfl | assumption))
    refine RW.opd rfl rfl (LO.assign rfl rfl) ?_
    refine RW.nil ?_
    repeat (refine W.seq ?_)
    refine W.cond_f rfl (by first | rfl | assumption) ?_
    repeat (refine W.seq ?_)
    refine W.region 50 54 (by decide) rfl rfl ?_
    refine RW.opd rfl rfl (LO.fieldAddr rfl rfl ty27 rfl (by decide)) ?_
    refine RW.opd rfl rfl (LO.load rfl rfl rfl rfl ty3 rfl) ?_
    refine RW.opd rfl rfl (LO.neq rfl rfl rfl) ?_
    refine RW.opd rfl rfl (LO.assign rfl rfl) ?_
    refine RW.nil ?_
    repeat (refine W.seq ?_)
    refine W.cond_f rfl (by first | rfl | assumption) ?_
    repeat (refine W.seq ?_)
    refine W.region 65 69 (by decide) rfl rfl ?_
    refine RW.opd rfl rfl (LO.move rfl rfl) ?_
    refine RW.opd rfl rfl (LO.len_isl rfl rfl rfl ty25) ?_
    refine RW.opd rfl rfl (LO.lss rfl rfl rfl) ?_
    refine RW.opd rfl rfl (LO.assign rfl rfl) ?_
    refine RW.nil ?_
    repeat (refine W.seq ?_)
    refine W.cond_t rfl (by first | rfl | assumption) ?_
    repeat (refine W.seq ?_)
    refine W.region 73 76 (by decide) rfl rfl ?_
    refine RW.opd rfl rfl (LO.build_st rfl ty52 .nil) ?_
    refine RW.opn rfl rfl (LO.store rfl rfl rfl rfl rfl ty52 rfl (by decide) (Sp.lit rfl)) ?_
    refine RW.opd rfl rfl (LO.assign rfl rfl) ?_
    refine RW.nil ?_
    repeat (refine W.seq ?_)
    refine W.ret ⟨.inl rfl, _, mt, (RVs.cons (RV.cellA rfl rfl ty52 rfl (Tk.lit rfl)) (RVs.cons (RV.tmp rfl) RVs.nil)), (by (repeat' (first | exact all_mt | refine all_up ?_ ?_)) <;> rfl), ?_⟩
    exact ⟨rfl, rfl⟩
  · rw [decV_bad hE (by decide)]
    repeat (refine W.seq ?_)
    refine W.region 0 3 (by decide) rfl rfl ?_
    refine RW.opd rfl rfl (LO.box rfl rfl rfl) ?_
    refine RW.opd rfl rfl (LO.alloc rfl ty52) ?_
    refine RW.opd rfl rfl (LO.assign rfl rfl) ?_
    refine RW.nil ?_
    repeat (refine W.seq ?_)
    refine W.region 7 10 (by decide) rfl rfl ?_
    refine RW.opd rfl rfl (LO.fieldAddr rfl rfl ty27 rfl (by decide)) ?_
    refine RW.opd rfl rfl (LO.load rfl rfl rfl rfl ty25 rfl) ?_
    refine RW.opd rfl rfl (LO.assign rfl rfl) ?_
    refine RW.nil ?_
    repeat (refine W.seq ?_)
    refine W.block ?_
    repeat (refine W.seq ?_)
    refine W.region 14 18 (by decide) rfl rfl ?_
    refine RW.opd rfl rfl (LO.load_agg rfl rfl rfl ty27 rfl (Tk.lit rfl)) ?_
    refine RW.opd rfl rfl (LO.call0 (fr := []) rfl rfl (hvp) fok16 (.cons rfl (.pure (pkC_pure p)) .nil) rfl) ?_
    refine RW.opd rfl rfl (LO.not rfl rfl) ?_
    refine RW.opd rfl rfl (LO.assign rfl rfl) ?_
    refine RW.nil ?_
    repeat (refine W.seq ?_)
    refine W.cond_f rfl (by first | rfl | assumption) ?_
    repeat (refine W.seq ?_)
    refine W.region 29 39 (by decide) rfl rfl ?_
    refine RW.opd rfl rfl (LO.fieldAddr rfl rfl ty27 rfl (by decide)) ?_
    refine RW.opd rfl rfl (LO.fieldAddr rfl rfl ty24 rfl (by decide)) ?_
    refine RW.opd rfl rfl (LO.load rfl rfl rfl rfl ty4 rfl) ?_
    refine RW.opd rfl rfl (LO.not rfl rfl) ?_
    refine RW.opd rfl rfl (LO.move rfl rfl) ?_
    refine RW.gd rfl rfl rfl ?_ rfl (LO.fieldAddr rfl rfl ty27 rfl (by decide)) ?_; (· (first | rfl | assumption))
    refine RW.gd rfl rfl rfl ?_ rfl (LO.load rfl rfl rfl rfl ty3 rfl) ?_; (· (first | rfl | assumption))
    refine RW.gd rfl rfl rfl ?_ rfl (LO.neq rfl rfl rfl) ?_; (· (first | rfl | assumption))
    refine RW.opd rfl rfl (LO.pick_f rfl rfl ?_ rfl) ?_; (· (first | rfl | assumption))
    refine RW.opd rfl rfl (LO.assign rfl rfl) ?_
    refine RW.nil ?_
    repeat (refine W.seq ?_)
    refine W.cond_f rfl (by first | rfl | assumption) ?_
    repeat (refine W.seq ?_)
    refine W.region 50 54 (by decide) rfl rfl ?_
    refine RW.opd rfl rfl (LO.fieldAddr rfl rfl ty27 rfl (by decide)) ?_
    refine RW.opd rfl rfl (LO.load rfl rfl rfl rfl ty3 rfl) ?_
    refine RW.opd rfl rfl (LO.neq rfl rfl rfl) ?_
    refine RW.opd rfl rfl (LO.assign rfl rfl) ?_
    refine RW.nil ?_
    repeat (refine W.seq ?_)
    refine W.cond_f rfl (by first | rfl | assumption) ?_
    repeat (refine W.seq ?_)
    refine W.region 65 69 (by decide) rfl rfl ?_
    refine RW.opd rfl rfl (LO.move rfl rfl) ?_
    refine RW.opd rfl rfl (LO.len_isl rfl rfl rfl ty25) ?_
    refine RW.opd rfl rfl (LO.lss rfl rfl rfl) ?_
    refine RW.opd rfl rfl (LO.assign rfl rfl) ?_
    refine RW.nil ?_
    repeat (refine W.seq ?_)
    refine W.cond_f rfl (by first | rfl | assumption) ?_
    repeat (refine W.seq ?_)
    refine W.region 80 88 (by decide) rfl rfl ?_
    refine RW.opd rfl rfl (LO.fieldAddr rfl rfl ty27 rfl (by decide)) ?_
    refine RW.opd rfl rfl (LO.load_agg rfl rfl rfl ty24 rfl (Tk.lit rfl)) ?_
    refine RW.opd rfl rfl (LO.fieldAddr rfl rfl ty27 rfl (by decide)) ?_
    refine RW.opd rfl rfl (LO.load_agg rfl rfl rfl ty24 rfl (Tk.lit rfl)) ?_
    refine RW.opd rfl rfl (LO.move rfl rfl) ?_
    refine RW.opd rfl rfl (LO.call0 (fr := []) rfl rfl (hck) fok53 (.cons rfl (.pure rfl) (.cons rfl (.pure rfl) (.cons rfl (.pure rfl) (.cons rfl (.pure rfl) .nil)))) rfl) ?_
    refine RW.opd rfl rfl (LO.neq rfl rfl rfl) ?_
    refine RW.opd rfl rfl (LO.assign rfl rfl) ?_
    refine RW.nil ?_
    repeat (refine W.seq ?_)
    refine W.cond_t rfl (by first | rfl | assumption) ?_
    repeat (refine W.seq ?_)
    refine W.region 92 95 (by decide) rfl rfl ?_
    refine RW.opd rfl rfl (LO.build_st rfl ty52 .nil) ?_
    refine RW.opn rfl rfl (LO.store rfl rfl rfl rfl rfl ty52 rfl (by decide) (Sp.lit rfl)) ?_
    refine RW.opd rfl rfl (LO.assign rfl rfl) ?_
    refine RW.nil ?_
    repeat (refine W.seq ?_)
    refine W.ret ⟨.inl rfl, _, mt, (RVs.cons (RV.cellA rfl rfl ty52 rfl (Tk.lit rfl)) (RVs.cons (RV.tmp rfl) RVs.nil)), (by (repeat' (first | exact all_mt | refine all_up ?_ ?_)) <;> rfl), ?_⟩
    exact ⟨rfl, rfl⟩
  · exfalso
    refine hk ⟨?_, g1, g2⟩
    unfold chkE at h0 ⊢
    rw [hv] at h0 ⊢
    have e2 : p.p = 58 := by simpa using g2
    rw [e2] at h0 ⊢
    simp only [Bool.not_true, Bool.false_eq_true, if_false, g1, g3, g4, g5, Bool.or_self, bne_self_eq_false] at h0 ⊢
    split at h0
    · rename_i h; rw [if_pos h]
    · exact absurd rfl h0
set_option maxHeartbeats 4000000 in
theorem decX_bad3 (p : Pk) (hB : IsB p.bs) (s1 : U64 p.s.hi) (s2 : U64 p.s.lo) (d1 : U64 p.d.hi) (d2 : U64 p.d.lo) (hv : vpk p = true) (hE : chkE p = 5) (g1 : (!p.s.v6) = false) (g2 : (p.p != 58) = false) : AFn Try.prog 57 0 [.agg (pkC p)] mt (decV p) mt := by
  refine AFn.eq Try.func57 rfl rfl (Nat.le_of_ble_eq_true rfl) ?_
  have hvp := rpvalid_any p
  rw [hv] at hvp
  obtain ⟨v1, v2, v3⟩ := vpk_parts hv
  have hck := chkX_any p.s p.d 58 p.bs v1 v2 s1 s2 d1 d2 hB (by omega)
  unfold adC at hck
  have hc : (p.t != 255) = false ∧ decide ((p.bs.length : Int) < 4) = false ∧ (chkF p.s p.d 58 p.bs != 0) = false ∧ 4 ≤ p.bs.length ∧ (decide (gB p.bs 0 < 133) = true ∨ (decide (gB p.bs 0 < 133) = false ∧ decide (gB p.bs 0 > 137) = true) ∨ (decide (gB p.bs 0 < 133) = false ∧ decide (gB p.bs 0 > 137) = false ∧ (gB p.bs 1 != 0) = true)) := by
    rcases chkE_cases p hv with ⟨h1, _⟩ | ⟨_, h2, _⟩ | ⟨_, _, _, h⟩ | ⟨_, _, _, _, h⟩ | ⟨_, _, _, _, _, h⟩ | ⟨_, _, g3, g4, g5⟩
    · rw [g1] at h1; cases h1
    · rw [g2] at h2; cases h2
    · rw [hE] at h; cases h
    · rw [hE] at h; cases h
    · rw [hE] at h; cases h
    · refine ⟨g3, g4, g5, by have := of_decide_eq_false g4; omega, ?_⟩
      unfold chkE at hE
      have e2 : p.p = 58 := by simpa using g2
      rw [hv, e2] at hE
      simp only [Bool.not_true, Bool.false_eq_true, if_false, g1, g3, g4, g5, Bool.or_self, bne_self_eq_false] at hE
      by_cases c1 : gB p.bs 0 < 133
      · exact .inl (decide_eq_true c1)
      · by_cases c2 : gB p.bs 0 > 137
        · exact .inr (.inl ⟨decide_eq_false c1, decide_eq_true c2⟩)
        · refine .inr (.inr ⟨decide_eq_false c1, decide_eq_false c2, ?_⟩)
          by_cases c3 : gB p.bs 1 = 0
          · rw [if_neg (by simp [c3]; omega)] at hE; cases hE
          · simpa using c3
  obtain ⟨g3, g4, g5, hl4, hk⟩ := hc
  rw [decV_bad hE (by decide)]
  have hat0 := by_at (l := p.bs) (k := 0) (by omega)
  have hat1 := by_at (l := p.bs) (k := 1) (by omega)
  rcases hk with k1 | ⟨k1, k2⟩ | ⟨k1, k2, k3⟩
  all_goals
    repeat (refine W.seq ?_)
    refine W.region 0 3 (by decide) rfl rfl ?_
    refine RW.opd rfl rfl (LO.box rfl rfl rfl) ?_
    refine RW.opd rfl rfl (LO.alloc rfl ty52) ?_
    refine RW.opd rfl rfl (LO.assign rfl rfl) ?_
    refine RW.nil ?_
    repeat (refine W.seq ?_)
    refine W.region 7 10 (by decide) rfl rfl ?_
    refine RW.opd rfl rfl (LO.fieldAddr rfl rfl ty27 rfl (by decide)) ?_
    refine RW.opd rfl rfl (LO.load rfl rfl rfl rfl ty25 rfl) ?_
    refine RW.opd rfl rfl (LO.assign rfl rfl) ?_
    refine RW.nil ?_
    repeat (refine W.seq ?_)
    refine W.block ?_
    repeat (refine W.seq ?_)
    refine W.region 14 18 (by decide) rfl rfl ?_
    refine RW.opd rfl rfl (LO.load_agg rfl rfl rfl ty27 rfl (Tk.lit rfl)) ?_
    refine RW.opd rfl rfl (LO.call0 (fr := []) rfl rfl (hvp) fok16 (.cons rfl (.pure (pkC_pure p)) .nil) rfl) ?_
    refine RW.opd rfl rfl (LO.not rfl rfl) ?_
    refine RW.opd rfl rfl (LO.assign rfl rfl) ?_
    refine RW.nil ?_
    repeat (refine W.seq ?_)
    refine W.cond_f rfl (by first | rfl | assumption) ?_
    repeat (refine W.seq ?_)
    refine W.region 29 39 (by decide) rfl rfl ?_
    refine RW.opd rfl rfl (LO.fieldAddr rfl rfl ty27 rfl (by decide)) ?_
    refine RW.opd rfl rfl (LO.fieldAddr rfl rfl ty24 rfl (by decide)) ?_
    refine RW.opd rfl rfl (LO.load rfl rfl rfl rfl ty4 rfl) ?_
    refine RW.opd rfl rfl (LO.not rfl rfl) ?_
    refine RW.opd rfl rfl (LO.move rfl rfl) ?_
    refine RW.gd rfl rfl rfl ?_ rfl (LO.fieldAddr rfl rfl ty27 rfl (by decide)) ?_; (· (first | rfl | assumption))
    refine RW.gd rfl rfl rfl ?_ rfl (LO.load rfl rfl rfl rfl ty3 rfl) ?_; (· (first | rfl | assumption))
    refine RW.gd rfl rfl rfl ?_ rfl (LO.neq rfl rfl rfl) ?_; (· (first | rfl | assumption))
    refine RW.opd rfl rfl (LO.pick_f rfl rfl ?_ rfl) ?_; (· (first | rfl | assumption))
    refine RW.opd rfl rfl (LO.assign rfl rfl) ?_
    refine RW.nil ?_
    repeat (refine W.seq ?_)
    refine W.cond_f rfl (by first | rfl | assumption) ?_
    repeat (refine W.seq ?_)
    refine W.region 50 54 (by decide) rfl rfl ?_
    refine RW.opd rfl rfl (LO.fieldAddr rfl rfl ty27 rfl (by decide)) ?_
    refine RW.opd rfl rfl (LO.load rfl rfl rfl rfl ty3 rfl) ?_
    refine RW.opd rfl rfl (LO.neq rfl rfl rfl) ?_
    refine RW.opd rfl rfl (LO.assign rfl rfl) ?_
    refine RW.nil ?_
    repeat (refine W.seq ?_)
    refine W.cond_f rfl (by first | rfl | assumption) ?_
    repeat (refine W.seq ?_)
    refine W.region 65 69 (by decide) rfl rfl ?_
    refine RW.opd rfl rfl (LO.move rfl rfl) ?_
    refine RW.opd rfl rfl (LO.len_isl rfl rfl rfl ty25) ?_
    refine RW.opd rfl rfl (LO.lss rfl rfl rfl) ?_
    refine RW.opd rfl rfl (LO.assign rfl rfl) ?_
    refine RW.nil ?_
    repeat (refine W.seq ?_)
    refine W.cond_f rfl (by first | rfl | assumption) ?_
    repeat (refine W.seq ?_)
    refine W.region 80 88 (by decide) rfl rfl ?_
    refine RW.opd rfl rfl (LO.fieldAddr rfl rfl ty27 rfl (by decide)) ?_
    refine RW.opd rfl rfl (LO.load_agg rfl rfl rfl ty24 rfl (Tk.lit rfl)) ?_
    refine RW.opd rfl rfl (LO.fieldAddr rfl rfl ty27 rfl (by decide)) ?_
    refine RW.opd rfl rfl (LO.load_agg rfl rfl rfl ty24 rfl (Tk.lit rfl)) ?_
    refine RW.opd rfl rfl (LO.move rfl rfl) ?_
    refine RW.opd rfl rfl (LO.call0 (fr := []) rfl rfl (hck) fok53 (.cons rfl (.pure rfl) (.cons rfl (.pure rfl) (.cons rfl (.pure rfl) (.cons rfl (.pure rfl) .nil)))) rfl) ?_
    refine RW.opd rfl rfl (LO.neq rfl rfl rfl) ?_
    refine RW.opd rfl rfl (LO.assign rfl rfl) ?_
    refine RW.nil ?_
    repeat (refine W.seq ?_)
    refine W.cond_f rfl (by first | rfl | assumption) ?_
    repeat (refine W.seq ?_)
    refine W.region 99 116 (by decide) rfl rfl ?_
    refine RW.opd rfl rfl (LO.move rfl rfl) ?_
    refine RW.opd rfl rfl (LO.indexAddr_isl rfl rfl rfl rfl rfl ty25 ty5 ?_) ?_; (· (first | omega | decide | assumption | fail | (simp; done) | (simp; omega)))
    refine RW.opd rfl rfl (LO.load_imm rfl rfl hat0 ty5 rfl) ?_
    refine RW.opd rfl rfl (LO.lss rfl rfl rfl) ?_
    refine RW.opd rfl rfl (LO.move rfl rfl) ?_
    first
        | (refine RW.sd rfl rfl rfl ?_ rfl ?_; (· (first | rfl | assumption)))
        | (refine RW.gd rfl rfl rfl ?_ rfl (LO.move rfl rfl) ?_; (· (first | rfl | assumption)))
    first
        | (refine RW.sd rfl rfl rfl ?_ rfl ?_; (· (first | rfl | assumption)))
        | (refine RW.gd rfl rfl rfl ?_ rfl (LO.indexAddr_isl rfl rfl rfl rfl rfl ty25 ty5 ?_) ?_; (· (first | rfl | assumption)); (· (first | omega | decide | assumption | fail | (simp; done) | (simp; omega))))
    first
        | (refine RW.sd rfl rfl rfl ?_ rfl ?_; (· (first | rfl | assumption)))
        | (refine RW.gd rfl rfl rfl ?_ rfl (LO.load_imm rfl rfl hat0 ty5 rfl) ?_; (· (first | rfl | assumption)))
    first
        | (refine RW.sd rfl rfl rfl ?_ rfl ?_; (· (first | rfl | assumption)))
        | (refine RW.gd rfl rfl rfl ?_ rfl (LO.gtr rfl rfl rfl) ?_; (· (first | rfl | assumption)))
    first
        | (refine RW.opd rfl rfl (LO.pick_t rfl rfl ?_ rfl) ?_; (· (first | rfl | assumption)))
        | (refine RW.opd rfl rfl (LO.pick_f rfl rfl ?_ rfl) ?_; (· (first | rfl | assumption)))
    refine RW.opd rfl rfl (LO.move rfl rfl) ?_
    first
        | (refine RW.sd rfl rfl rfl ?_ rfl ?_; (· (first | rfl | assumption)))
        | (refine RW.gd rfl rfl rfl ?_ rfl (LO.move rfl rfl) ?_; (· (first | rfl | assumption)))
    first
        | (refine RW.sd rfl rfl rfl ?_ rfl ?_; (· (first | rfl | assumption)))
        | (refine RW.gd rfl rfl rfl ?_ rfl (LO.indexAddr_isl rfl rfl rfl rfl rfl ty25 ty5 ?_) ?_; (· (first | rfl | assumption)); (· (first | omega | decide | assumption | fail | (simp; done) | (simp; omega))))
    first
        | (refine RW.sd rfl rfl rfl ?_ rfl ?_; (· (first | rfl | assumption)))
        | (refine RW.gd rfl rfl rfl ?_ rfl (LO.load_imm rfl rfl hat1 ty5 rfl) ?_; (· (first | rfl | assumption)))
    first
        | (refine RW.sd rfl rfl rfl ?_ rfl ?_; (· (first | rfl | assumption)))
        | (refine RW.gd rfl rfl rfl ?_ rfl (LO.neq rfl rfl rfl) ?_; (· (first | rfl | assumption)))
    first
        | (refine RW.opd rfl rfl (LO.pick_t rfl rfl ?_ rfl) ?_; (· (first | rfl | assumption)))
        | (refine RW.opd rfl rfl (LO.pick_f rfl rfl ?_ rfl) ?_; (· (first | rfl | assumption)))
    refine RW.opd rfl rfl (LO.assign rfl rfl) ?_
    refine RW.nil ?_
    repeat (refine W.seq ?_)
    refine W.cond_t rfl (by first | rfl | assumption) ?_
    repeat (refine W.seq ?_)
    refine W.region 120 123 (by decide) rfl rfl ?_
    refine RW.opd rfl rfl (LO.build_st rfl ty52 .nil) ?_
    refine RW.opn rfl rfl (LO.store rfl rfl rfl rfl rfl ty52 rfl (by decide) (Sp.lit rfl)) ?_
    refine RW.opd rfl rfl (LO.assign rfl rfl) ?_
    refine RW.nil ?_
    repeat (refine W.seq ?_)
    refine W.ret ⟨.inl rfl, _, mt, (RVs.cons (RV.cellA rfl rfl ty52 rfl (Tk.lit rfl)) (RVs.cons (RV.tmp rfl) RVs.nil)), (by (repeat' (first | exact all_mt | refine all_up ?_ ?_)) <;> rfl), ?_⟩
    exact ⟨rfl, rfl⟩
end Go.Proofs.Ytoijkcnefnmbjaa
