/-
  A packet with the right sum.
-/
import Derived.Test.YtoijkcnefnmbjaaQt
namespace Go.Proofs.Ytoijkcnefnmbjaa
open Go.RowKit
/-- the sum's place is empty -/
def zB (l : List Int) : List Int := (l.set 2 0).set 3 0
theorem zB_len (l : List Int) : (zB l).length = l.length := by simp [zB]
theorem zB_isB {l : List Int} (h : IsB l) : IsB (zB l) := (h.set 2 (by decide)).set 3 (by decide)
def sgn (p : Pk) : Pk := if 4 ≤ p.bs.length ∧ vpk p = true ∧ p.s.v6 = true then ⟨p.s, p.d, p.p, p.t, sumL2 (chkF p.s p.d 58 (zB p.bs)) (zB p.bs)⟩ else p
theorem pk_lit2 (p : Pk) : pkC p = [.base (.bool p.s.v6), .base (.int .u64 p.s.hi), .base (.int .u64 p.s.lo), .base (.bool p.d.v6), .base (.int .u64 p.d.hi), .base (.int .u64 p.d.lo), .base (.int .i64 p.p), .base (.int .i64 p.t), .isl (bytesC p.bs) p.bs.length] := rfl
set_option maxHeartbeats 1000000 in
theorem signed_any (p : Pk) (hB : IsB p.bs) (hl : p.bs.length ≤ 100000) (s1 : U64 p.s.hi) (s2 : U64 p.s.lo) (d1 : U64 p.d.hi) (d2 : U64 p.d.lo) : AFn Try.prog 31 0 [.agg (pkC p)] mt (.agg (pkC (sgn p))) mt := by
  refine AFn.eq Try.func31 rfl rfl (Nat.le_of_ble_eq_true rfl) ?_
  have hv := rpvalid_any p
  rw [pk_lit2] at hv
  rw [pk_lit2 p]
  have hcase : (4 ≤ p.bs.length ∧ vpk p = true ∧ p.s.v6 = true) ∨ (sgn p = p ∧ decide ((p.bs.length : Int) ≥ 4) = false) ∨ (sgn p = p ∧ decide ((p.bs.length : Int) ≥ 4) = true ∧ vpk p = false) ∨ (sgn p = p ∧ decide ((p.bs.length : Int) ≥ 4) = true ∧ vpk p = true ∧ p.s.v6 = false) := by
    unfold sgn
    by_cases c1 : 4 ≤ p.bs.length
    · have e1 : decide ((p.bs.length : Int) ≥ 4) = true := decide_eq_true (by omega)
      cases c2 : vpk p <;> cases c3 : p.s.v6 <;> simp [c1, e1]
    · have e1 : decide ((p.bs.length : Int) ≥ 4) = false := decide_eq_false (by omega)
      simp [c1, e1]
  rcases hcase with ⟨g0, g2, g3⟩ | ⟨hs, g1⟩ | ⟨hs, g1, g2⟩ | ⟨hs, g1, g2, g3⟩
  · have g1 : decide ((p.bs.length : Int) ≥ 4) = true := decide_eq_true (by omega)
    have hs : sgn p = ⟨p.s, p.d, p.p, p.t, sumL2 (chkF p.s p.d 58 (zB p.bs)) (zB p.bs)⟩ := if_pos ⟨g0, g2, g3⟩
    have ⟨v1, v2, _⟩ := vpk_parts g2
    have hck := chkX_any p.s p.d 58 (zB p.bs) v1 v2 s1 s2 d1 d2 (zB_isB hB) (by rw [zB_len]; exact hl)
    have hl2 : (sumL2 (chkF p.s p.d 58 (zB p.bs)) (zB p.bs)).length = p.bs.length := by rw [sumL2_len, zB_len]
    rw [g2] at hv
    rw [hs, pk_lit2]
    dsimp only
    rw [hl2]
    rw [zB_len] at hck
    unfold adC at hck
    repeat (refine W.seq ?_)
    refine W.region 0 2 (by decide) rfl rfl ?_
    refine RW.opd rfl rfl (LO.box rfl rfl rfl) ?_
    refine RW.opd rfl rfl (LO.alloc rfl ty27) ?_
    refine RW.nil ?_
    repeat (refine W.seq ?_)
    refine W.region 6 11 (by decide) rfl rfl ?_
    refine RW.opd rfl rfl (LO.fieldAddr rfl rfl ty27 rfl (by decide)) ?_
    refine RW.opd rfl rfl (LO.load rfl rfl rfl rfl ty25 rfl) ?_
    refine RW.opd rfl rfl (LO.append_nil rfl rfl (SrcAV.isl rfl rfl (by simp [bytesC_len])) ty25 ty25 ty5 (by decide) (by omega) (by omega) (by decide)) ?_
    refine RW.opd rfl rfl (LO.fieldAddr rfl rfl ty27 rfl (by decide)) ?_
    refine RW.opn rfl rfl (LO.store rfl rfl rfl rfl rfl ty25 rfl (by decide) (Sp.lit rfl)) ?_
    refine RW.nil ?_
    repeat (refine W.seq ?_)
    refine W.region 15 28 (by decide) rfl rfl ?_
    refine RW.opd rfl rfl (LO.fieldAddr rfl rfl ty27 rfl (by decide)) ?_
    refine RW.opd rfl rfl (LO.load rfl rfl rfl rfl ty25 rfl) ?_
    refine RW.opd rfl rfl (LO.len rfl rfl ty25) ?_
    refine RW.opd rfl rfl (LO.geq rfl rfl rfl) ?_
    refine RW.opd rfl rfl (LO.move rfl rfl) ?_
    refine RW.gd rfl rfl rfl ?_ rfl (LO.load_agg rfl rfl rfl ty27 rfl (Tk.lit rfl)) ?_; (· (first | rfl | assumption))
    refine RW.gd rfl rfl rfl ?_ rfl (LO.callB (fr := [8]) rfl rfl (hv) fok16 (.cons rfl (.agg (.cons (.same rfl) (.cons (.same rfl) (.cons (.same rfl) (.cons (.same rfl) (.cons (.same rfl) (.cons (.same rfl) (.cons (.same rfl) (.cons (.same rfl) (.cons (.osl (by decide) rfl (bytes_tk rfl) (bytesC_pure _)) .nil)))))))))) .nil)) ?_; (· (first | rfl | assumption))
    refine RW.opd rfl rfl (LO.pick_t rfl rfl ?_ rfl) ?_; (· (first | rfl | assumption))
    refine RW.opd rfl rfl (LO.move rfl rfl) ?_
    refine RW.gd rfl rfl rfl ?_ rfl (LO.fieldAddr rfl rfl ty27 rfl (by decide)) ?_; (· (first | rfl | assumption))
    refine RW.gd rfl rfl rfl ?_ rfl (LO.fieldAddr rfl rfl ty24 rfl (by decide)) ?_; (· (first | rfl | assumption))
    refine RW.gd rfl rfl rfl ?_ rfl (LO.load rfl rfl rfl rfl ty4 rfl) ?_; (· (first | rfl | assumption))
    refine RW.opd rfl rfl (LO.pick_t rfl rfl ?_ rfl) ?_; (· (first | rfl | assumption))
    refine RW.nil ?_
    repeat (refine W.seq ?_)
    refine W.cond_t rfl (by first | rfl | assumption) ?_
    repeat (refine W.seq ?_)
    refine W.regionD 32 40 (by decide) rfl mixed rfl ?_
    refine RW.opd rfl rfl (LO.fieldAddr rfl rfl ty27 rfl (by decide)) ?_
    refine RW.opd rfl rfl (LO.load rfl rfl rfl rfl ty25 rfl) ?_
    refine RW.opd rfl rfl (LO.fieldAddr rfl rfl ty27 rfl (by decide)) ?_
    refine RW.opd rfl rfl (LO.load rfl rfl rfl rfl ty25 rfl) ?_
    refine RW.opd rfl rfl (LO.indexAddr rfl rfl rfl rfl ty25 ty5 ?_) ?_; (· (first | omega | decide | assumption | fail | (simp; done) | (simp; omega)))
    refine RW.opn rfl rfl (LO.store rfl rfl rfl rfl rfl ty5 rfl (by decide) (by_sp (by first | omega | (simp; omega)))) ?_
    refine RW.opd rfl rfl (LO.indexAddr rfl rfl rfl rfl ty25 ty5 ?_) ?_; (· (first | omega | decide | assumption | fail | (simp; done) | (simp; omega)))
    refine RW.opn rfl rfl (LO.store rfl rfl rfl rfl rfl ty5 rfl (by decide) (by_sp (by first | omega | (simp; omega)))) ?_
    refine RW.nil ⟨by kernel_rfl, ?_⟩
    repeat (refine W.seq ?_)
    refine W.region 44 52 (by decide) rfl rfl ?_
    refine RW.opd rfl rfl (LO.fieldAddr rfl rfl ty27 rfl (by decide)) ?_
    refine RW.opd rfl rfl (LO.load_agg rfl rfl rfl ty24 rfl (Tk.lit rfl)) ?_
    refine RW.opd rfl rfl (LO.fieldAddr rfl rfl ty27 rfl (by decide)) ?_
    refine RW.opd rfl rfl (LO.load_agg rfl rfl rfl ty24 rfl (Tk.lit rfl)) ?_
    refine RW.opd rfl rfl (LO.fieldAddr rfl rfl ty27 rfl (by decide)) ?_
    refine RW.opd rfl rfl (LO.load rfl rfl rfl rfl ty25 rfl) ?_
    refine RW.opd rfl rfl (LO.callB (fr := [8]) rfl rfl (hck) fok53 (.cons rfl (.pure rfl) (.cons rfl (.pure rfl) (.cons rfl (.pure rfl) (.cons rfl (.one (.osl (by decide) rfl (bytes_tk (l := zB p.bs) (zB_len _)) (bytesC_pure _))) .nil))))) ?_
    refine RW.opd rfl rfl (LO.assign rfl rfl) ?_
    refine RW.nil ?_
    repeat (refine W.seq ?_)
    refine W.regionD 56 69 (by decide) rfl mixed rfl ?_
    refine RW.opd rfl rfl (LO.fieldAddr rfl rfl ty27 rfl (by decide)) ?_
    refine RW.opd rfl rfl (LO.load rfl rfl rfl rfl ty25 rfl) ?_
    refine RW.opd rfl rfl (LO.fieldAddr rfl rfl ty27 rfl (by decide)) ?_
    refine RW.opd rfl rfl (LO.load rfl rfl rfl rfl ty25 rfl) ?_
    refine RW.opd rfl rfl (LO.move rfl rfl) ?_
    refine RW.opd rfl rfl (LO.shr rfl rfl rfl ?_) ?_; (· (first | omega | decide | assumption | fail | (simp; done) | (simp; omega)))
    refine RW.opd rfl rfl (LO.conv rfl rfl ty40 ty5) ?_
    refine RW.opd rfl rfl (LO.move rfl rfl) ?_
    refine RW.opd rfl rfl (LO.conv rfl rfl ty40 ty5) ?_
    refine RW.opd rfl rfl (LO.indexAddr rfl rfl rfl rfl ty25 ty5 ?_) ?_; (· (first | omega | decide | assumption | fail | (simp; done) | (simp; omega)))
    refine RW.opn rfl rfl (LO.store rfl rfl rfl rfl rfl ty5 rfl (by decide) (by_sp (by first | omega | (simp; omega)))) ?_
    refine RW.opd rfl rfl (LO.indexAddr rfl rfl rfl rfl ty25 ty5 ?_) ?_; (· (first | omega | decide | assumption | fail | (simp; done) | (simp; omega)))
    refine RW.opn rfl rfl (LO.store rfl rfl rfl rfl rfl ty5 rfl (by decide) (by_sp (by first | omega | (simp; omega)))) ?_
    refine RW.nil ⟨by kernel_rfl, ?_⟩
    refine W.frzc (q := 0) (j := 8) (r := 8) rfl rfl (by decide) rfl (bytes_tk (l := sumL2 (chkF p.s p.d 58 (zB p.bs)) (zB p.bs)) hl2) (bytesC_pure _) (Sp.lit rfl) ?_
    repeat (refine W.seq ?_)
    refine W.region 73 75 (by decide) rfl rfl ?_
    refine RW.opd rfl rfl (LO.load_agg rfl rfl rfl ty27 rfl (Tk.lit rfl)) ?_
    refine RW.opn rfl rfl (LO.store rfl rfl rfl rfl rfl ty27 rfl (by decide) (Sp.lit rfl)) ?_
    refine RW.nil ?_
    repeat (refine W.seq ?_)
    refine W.ret ⟨.inl rfl, _, mt, (RVs.cons (RV.cellA rfl rfl ty27 rfl (Tk.lit rfl)) RVs.nil), (by (repeat' (first | exact all_mt | refine all_up ?_ ?_)) <;> rfl), ?_⟩
    exact ⟨rfl, rfl⟩
  all_goals
    rw [hs, pk_lit2]
    first | rw [g2] at hv | skip
    repeat (refine W.seq ?_)
    refine W.region 0 2 (by decide) rfl rfl ?_
    refine RW.opd rfl rfl (LO.box rfl rfl rfl) ?_
    refine RW.opd rfl rfl (LO.alloc rfl ty27) ?_
    refine RW.nil ?_
    repeat (refine W.seq ?_)
    refine W.region 6 11 (by decide) rfl rfl ?_
    refine RW.opd rfl rfl (LO.fieldAddr rfl rfl ty27 rfl (by decide)) ?_
    refine RW.opd rfl rfl (LO.load rfl rfl rfl rfl ty25 rfl) ?_
    refine RW.opd rfl rfl (LO.append_nil rfl rfl (SrcAV.isl rfl rfl (by simp [bytesC_len])) ty25 ty25 ty5 (by decide) (by omega) (by omega) (by decide)) ?_
    refine RW.opd rfl rfl (LO.fieldAddr rfl rfl ty27 rfl (by decide)) ?_
    refine RW.opn rfl rfl (LO.store rfl rfl rfl rfl rfl ty25 rfl (by decide) (Sp.lit rfl)) ?_
    refine RW.nil ?_
    repeat (refine W.seq ?_)
    refine W.region 15 28 (by decide) rfl rfl ?_
    refine RW.opd rfl rfl (LO.fieldAddr rfl rfl ty27 rfl (by decide)) ?_
    refine RW.opd rfl rfl (LO.load rfl rfl rfl rfl ty25 rfl) ?_
    refine RW.opd rfl rfl (LO.len rfl rfl ty25) ?_
    refine RW.opd rfl rfl (LO.geq rfl rfl rfl) ?_
    refine RW.opd rfl rfl (LO.move rfl rfl) ?_
    first
        | (refine RW.sd rfl rfl rfl ?_ rfl ?_; (· (first | rfl | assumption)))
        | (refine RW.gd rfl rfl rfl ?_ rfl (LO.load_agg rfl rfl rfl ty27 rfl (Tk.lit rfl)) ?_; (· (first | rfl | assumption)))
    first
        | (refine RW.sd rfl rfl rfl ?_ rfl ?_; (· (first | rfl | assumption)))
        | (refine RW.gd rfl rfl rfl ?_ rfl (LO.callB (fr := [8]) rfl rfl (hv) fok16 (.cons rfl (.agg (.cons (.same rfl) (.cons (.same rfl) (.cons (.same rfl) (.cons (.same rfl) (.cons (.same rfl) (.cons (.same rfl) (.cons (.same rfl) (.cons (.same rfl) (.cons (.osl (by decide) rfl (bytes_tk rfl) (bytesC_pure _)) .nil)))))))))) .nil)) ?_; (· (first | rfl | assumption)))
    first
        | (refine RW.opd rfl rfl (LO.pick_t rfl rfl ?_ rfl) ?_; (· (first | rfl | assumption)))
        | (refine RW.opd rfl rfl (LO.pick_f rfl rfl ?_ rfl) ?_; (· (first | rfl | assumption)))
    refine RW.opd rfl rfl (LO.move rfl rfl) ?_
    first
        | (refine RW.sd rfl rfl rfl ?_ rfl ?_; (· (first | rfl | assumption)))
        | (refine RW.gd rfl rfl rfl ?_ rfl (LO.fieldAddr rfl rfl ty27 rfl (by decide)) ?_; (· (first | rfl | assumption)))
    first
        | (refine RW.sd rfl rfl rfl ?_ rfl ?_; (· (first | rfl | assumption)))
        | (refine RW.gd rfl rfl rfl ?_ rfl (LO.fieldAddr rfl rfl ty24 rfl (by decide)) ?_; (· (first | rfl | assumption)))
    first
        | (refine RW.sd rfl rfl rfl ?_ rfl ?_; (· (first | rfl | assumption)))
        | (refine RW.gd rfl rfl rfl ?_ rfl (LO.load rfl rfl rfl rfl ty4 rfl) ?_; (· (first | rfl | assumption)))
    first
        | (refine RW.opd rfl rfl (LO.pick_t rfl rfl ?_ rfl) ?_; (· (first | rfl | assumption)))
        | (refine RW.opd rfl rfl (LO.pick_f rfl rfl ?_ rfl) ?_; (· (first | rfl | assumption)))
    refine RW.nil ?_
    repeat (refine W.seq ?_)
    refine W.cond_f rfl (by first | rfl | assumption) ?_
    refine W.skip ?_
    refine W.frzc (q := 0) (j := 8) (r := 8) rfl rfl (by decide) rfl (bytes_tk rfl) (bytesC_pure _) (Sp.lit rfl) ?_
    repeat (refine W.seq ?_)
    refine W.region 73 75 (by decide) rfl rfl ?_
    refine RW.opd rfl rfl (LO.load_agg rfl rfl rfl ty27 rfl (Tk.lit rfl)) ?_
    refine RW.opn rfl rfl (LO.store rfl rfl rfl rfl rfl ty27 rfl (by decide) (Sp.lit rfl)) ?_
    refine RW.nil ?_
    repeat (refine W.seq ?_)
    refine W.ret ⟨.inl rfl, _, mt, (RVs.cons (RV.cellA rfl rfl ty27 rfl (Tk.lit rfl)) RVs.nil), (by (repeat' (first | exact all_mt | refine all_up ?_ ?_)) <;> rfl), ?_⟩
    exact ⟨rfl, rfl⟩
end Go.Proofs.Ytoijkcnefnmbjaa
