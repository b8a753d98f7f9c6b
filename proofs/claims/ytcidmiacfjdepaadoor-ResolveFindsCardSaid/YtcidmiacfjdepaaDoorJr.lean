/-
  Requests and their bytes.
-/
import Derived.Test.YtcidmiacfjdepaaDoorJq
namespace Go.Proofs.YtcidmiacfjdepaaDoor
open Go.RowKit

def reqA (m : List Int) (s d : Ad) : Arp := ⟨1, m, s, [0, 0, 0, 0, 0, 0], d⟩
theorem request_any (m : List Int) (s d : Ad) (hm : m.length = 6) : AFn Tryd.prog 13 0 [.agg (bytesC m), .agg (adC s), .agg (adC d)] mt (.agg (arpC (reqA m s d))) mt := by
  refine AFn.eq Tryd.func13 rfl rfl (Nat.le_of_ble_eq_true rfl) ?_
  obtain ⟨m0, m1, m2, m3, m4, m5, rfl⟩ := six_of hm
  repeat (refine W.seq ?_)
  refine W.region 0 4 (by decide) rfl rfl ?_
  refine RW.opd rfl rfl (LO.box rfl rfl rfl) ?_
  refine RW.opd rfl rfl (LO.box rfl rfl rfl) ?_
  refine RW.opd rfl rfl (LO.box rfl rfl rfl) ?_
  refine RW.opd rfl rfl (LO.alloc rfl ty52) ?_
  refine RW.nil ?_
  repeat (refine W.seq ?_)
  refine W.region 8 13 (by decide) rfl rfl ?_
  refine RW.opd rfl rfl (LO.load_agg rfl rfl rfl ty50 rfl (Tk.lit rfl)) ?_
  refine RW.opd rfl rfl (LO.load_agg rfl rfl rfl ty25 rfl (Tk.lit rfl)) ?_
  refine RW.opd rfl rfl (LO.load_agg rfl rfl rfl ty25 rfl (Tk.lit rfl)) ?_
  refine RW.opd rfl rfl (LO.build_st rfl ty52 (.cons rfl rfl rfl rfl (Sp.lit rfl) (.cons rfl rfl rfl rfl (Sp.lit rfl) (.cons rfl rfl rfl rfl (Sp.lit rfl) (.cons rfl rfl rfl rfl (Sp.lit rfl) .nil))))) ?_
  refine RW.opn rfl rfl (LO.store rfl rfl rfl rfl rfl ty52 rfl (by decide) (Sp.lit rfl)) ?_
  refine RW.nil ?_
  repeat (refine W.seq ?_)
  refine W.ret ⟨.inl rfl, _, mt, (RVs.cons (RV.cellA rfl rfl ty52 rfl (Tk.lit rfl)) RVs.nil), (by (repeat' (first | exact all_mt | refine all_up ?_ ?_)) <;> rfl), ?_⟩
  exact ⟨rfl, rfl⟩
theorem arpX_yes (a : Arp) (h1 : a.fm.length = 6) (h2 : a.tm.length = 6) (hv : arpV a = true) : AFn Tryd.prog 29 0 [.agg (arpC a)] mt (.base (.bool true)) mt := by
  refine AFn.eq Tryd.func29 rfl rfl (Nat.le_of_ble_eq_true rfl) ?_
  have v1 := rvalid_any a.fr
  have v2 := rvalid_any a.tt
  obtain ⟨op, fm, ⟨f6, fh, fl⟩, tm, ⟨t6, th, tl⟩⟩ := a
  unfold arpV ip4 at hv
  simp only [Bool.and_eq_true, Bool.or_eq_true, Bool.not_eq_true'] at hv
  obtain ⟨hop, ⟨e1, e2⟩, e3, e4⟩ := hv
  dsimp only at h1 h2 v1 v2 e1 e2 e3 e4
  rw [e1] at v1
  rw [e3] at v2
  subst e2 e4
  obtain ⟨m0, m1, m2, m3, m4, m5, rfl⟩ := six_of h1
  obtain ⟨n0, n1, n2, n3, n4, n5, rfl⟩ := six_of h2
  repeat (refine W.seq ?_)
  refine W.region 0 2 (by decide) rfl rfl ?_
  refine RW.opd rfl rfl (LO.box rfl rfl rfl) ?_
  refine RW.opd rfl rfl (LO.assign rfl rfl) ?_
  refine RW.nil ?_
  cases k1 : (op == 1)
  case' true =>
    repeat (refine W.seq ?_)
    refine W.region 6 37 (by decide) rfl rfl ?_
    refine RW.opd rfl rfl (LO.fieldAddr rfl rfl ty52 rfl (by decide)) ?_
    refine RW.opd rfl rfl (LO.load rfl rfl rfl rfl ty3 rfl) ?_
    refine RW.opd rfl rfl (LO.eql rfl rfl rfl) ?_
    refine RW.opd rfl rfl (LO.move rfl rfl) ?_
    refine RW.sd rfl rfl rfl ?_ rfl ?_; (· (first | rfl | assumption))
    refine RW.sd rfl rfl rfl ?_ rfl ?_; (· (first | rfl | assumption))
    refine RW.sd rfl rfl rfl ?_ rfl ?_; (· (first | rfl | assumption))
    refine RW.opd rfl rfl (LO.pick_t rfl rfl ?_ rfl) ?_; (· (first | rfl | assumption))
    refine RW.opd rfl rfl (LO.move rfl rfl) ?_
    refine RW.gd rfl rfl rfl ?_ rfl (LO.fieldAddr rfl rfl ty52 rfl (by decide)) ?_; (· (first | rfl | assumption))
    refine RW.gd rfl rfl rfl ?_ rfl (LO.load_agg rfl rfl rfl ty25 rfl (Tk.lit rfl)) ?_; (· (first | rfl | assumption))
    refine RW.gd rfl rfl rfl ?_ rfl (LO.call0 (fr := []) rfl rfl (v1) fok49 (.cons rfl (.pure rfl) .nil) rfl) ?_; (· (first | rfl | assumption))
    refine RW.opd rfl rfl (LO.pick_t rfl rfl ?_ rfl) ?_; (· (first | rfl | assumption))
    refine RW.opd rfl rfl (LO.move rfl rfl) ?_
    refine RW.gd rfl rfl rfl ?_ rfl (LO.fieldAddr rfl rfl ty52 rfl (by decide)) ?_; (· (first | rfl | assumption))
    refine RW.gd rfl rfl rfl ?_ rfl (LO.load_agg rfl rfl rfl ty25 rfl (Tk.lit rfl)) ?_; (· (first | rfl | assumption))
    refine RW.gd rfl rfl rfl ?_ rfl (LO.call0 (fr := []) rfl rfl (v2) fok49 (.cons rfl (.pure rfl) .nil) rfl) ?_; (· (first | rfl | assumption))
    refine RW.opd rfl rfl (LO.pick_t rfl rfl ?_ rfl) ?_; (· (first | rfl | assumption))
    refine RW.opd rfl rfl (LO.move rfl rfl) ?_
    refine RW.gd rfl rfl rfl ?_ rfl (LO.fieldAddr rfl rfl ty52 rfl (by decide)) ?_; (· (first | rfl | assumption))
    refine RW.gd rfl rfl rfl ?_ rfl (LO.fieldAddr rfl rfl ty25 rfl (by decide)) ?_; (· (first | rfl | assumption))
    refine RW.gd rfl rfl rfl ?_ rfl (LO.load rfl rfl rfl rfl ty4 rfl) ?_; (· (first | rfl | assumption))
    refine RW.gd rfl rfl rfl ?_ rfl (LO.not rfl rfl) ?_; (· (first | rfl | assumption))
    refine RW.opd rfl rfl (LO.pick_t rfl rfl ?_ rfl) ?_; (· (first | rfl | assumption))
    refine RW.opd rfl rfl (LO.move rfl rfl) ?_
    refine RW.gd rfl rfl rfl ?_ rfl (LO.fieldAddr rfl rfl ty52 rfl (by decide)) ?_; (· (first | rfl | assumption))
    refine RW.gd rfl rfl rfl ?_ rfl (LO.fieldAddr rfl rfl ty25 rfl (by decide)) ?_; (· (first | rfl | assumption))
    refine RW.gd rfl rfl rfl ?_ rfl (LO.load rfl rfl rfl rfl ty4 rfl) ?_; (· (first | rfl | assumption))
    refine RW.gd rfl rfl rfl ?_ rfl (LO.not rfl rfl) ?_; (· (first | rfl | assumption))
    refine RW.opd rfl rfl (LO.pick_t rfl rfl ?_ rfl) ?_; (· (first | rfl | assumption))
    refine RW.opd rfl rfl (LO.assign rfl rfl) ?_
    refine RW.nil ?_
    repeat (refine W.seq ?_)
    refine W.ret ⟨.inl rfl, _, mt, RVs.cons (RV.tmp rfl) (RVs.nil), all_mt, ?_⟩
    exact ⟨rfl, rfl⟩
  case' false =>
    have k2 : (op == 2) = true := by rcases hop with h | h; · rw [h] at k1; cases k1
                                     · exact h
    repeat (refine W.seq ?_)
    refine W.region 6 37 (by decide) rfl rfl ?_
    refine RW.opd rfl rfl (LO.fieldAddr rfl rfl ty52 rfl (by decide)) ?_
    refine RW.opd rfl rfl (LO.load rfl rfl rfl rfl ty3 rfl) ?_
    refine RW.opd rfl rfl (LO.eql rfl rfl rfl) ?_
    refine RW.opd rfl rfl (LO.move rfl rfl) ?_
    refine RW.gd rfl rfl rfl ?_ rfl (LO.fieldAddr rfl rfl ty52 rfl (by decide)) ?_; (· (first | rfl | assumption))
    refine RW.gd rfl rfl rfl ?_ rfl (LO.load rfl rfl rfl rfl ty3 rfl) ?_; (· (first | rfl | assumption))
    refine RW.gd rfl rfl rfl ?_ rfl (LO.eql rfl rfl rfl) ?_; (· (first | rfl | assumption))
    refine RW.opd rfl rfl (LO.pick_f rfl rfl ?_ rfl) ?_; (· (first | rfl | assumption))
    refine RW.opd rfl rfl (LO.move rfl rfl) ?_
    refine RW.gd rfl rfl rfl ?_ rfl (LO.fieldAddr rfl rfl ty52 rfl (by decide)) ?_; (· (first | rfl | assumption))
    refine RW.gd rfl rfl rfl ?_ rfl (LO.load_agg rfl rfl rfl ty25 rfl (Tk.lit rfl)) ?_; (· (first | rfl | assumption))
    refine RW.gd rfl rfl rfl ?_ rfl (LO.call0 (fr := []) rfl rfl (v1) fok49 (.cons rfl (.pure rfl) .nil) rfl) ?_; (· (first | rfl | assumption))
    refine RW.opd rfl rfl (LO.pick_t rfl rfl ?_ rfl) ?_; (· (first | rfl | assumption))
    refine RW.opd rfl rfl (LO.move rfl rfl) ?_
    refine RW.gd rfl rfl rfl ?_ rfl (LO.fieldAddr rfl rfl ty52 rfl (by decide)) ?_; (· (first | rfl | assumption))
    refine RW.gd rfl rfl rfl ?_ rfl (LO.load_agg rfl rfl rfl ty25 rfl (Tk.lit rfl)) ?_; (· (first | rfl | assumption))
    refine RW.gd rfl rfl rfl ?_ rfl (LO.call0 (fr := []) rfl rfl (v2) fok49 (.cons rfl (.pure rfl) .nil) rfl) ?_; (· (first | rfl | assumption))
    refine RW.opd rfl rfl (LO.pick_t rfl rfl ?_ rfl) ?_; (· (first | rfl | assumption))
    refine RW.opd rfl rfl (LO.move rfl rfl) ?_
    refine RW.gd rfl rfl rfl ?_ rfl (LO.fieldAddr rfl rfl ty52 rfl (by decide)) ?_; (· (first | rfl | assumption))
    refine RW.gd rfl rfl rfl ?_ rfl (LO.fieldAddr rfl rfl ty25 rfl (by decide)) ?_; (· (first | rfl | assumption))
    refine RW.gd rfl rfl rfl ?_ rfl (LO.load rfl rfl rfl rfl ty4 rfl) ?_; (· (first | rfl | assumption))
    refine RW.gd rfl rfl rfl ?_ rfl (LO.not rfl rfl) ?_; (· (first | rfl | assumption))
    refine RW.opd rfl rfl (LO.pick_t rfl rfl ?_ rfl) ?_; (· (first | rfl | assumption))
    refine RW.opd rfl rfl (LO.move rfl rfl) ?_
    refine RW.gd rfl rfl rfl ?_ rfl (LO.fieldAddr rfl rfl ty52 rfl (by decide)) ?_; (· (first | rfl | assumption))
    refine RW.gd rfl rfl rfl ?_ rfl (LO.fieldAddr rfl rfl ty25 rfl (by decide)) ?_; (· (first | rfl | assumption))
    refine RW.gd rfl rfl rfl ?_ rfl (LO.load rfl rfl rfl rfl ty4 rfl) ?_; (· (first | rfl | assumption))
    refine RW.gd rfl rfl rfl ?_ rfl (LO.not rfl rfl) ?_; (· (first | rfl | assumption))
    refine RW.opd rfl rfl (LO.pick_t rfl rfl ?_ rfl) ?_; (· (first | rfl | assumption))
    refine RW.opd rfl rfl (LO.assign rfl rfl) ?_
    refine RW.nil ?_
    repeat (refine W.seq ?_)
    refine W.ret ⟨.inl rfl, _, mt, RVs.cons (RV.tmp rfl) (RVs.nil), all_mt, ?_⟩
    exact ⟨rfl, rfl⟩
def arpB (a : Arp) : List Int := [0, 1, 8, 0, 6, 4, 0, IntKind.u8.wrap a.op] ++ a.fm ++ addrL a.fr ++ a.tm ++ addrL a.tt
theorem arpB_len {a : Arp} (h1 : a.fm.length = 6) (h2 : a.tm.length = 6) (h3 : a.fr.v6 = false) (h4 : a.tt.v6 = false) : (arpB a).length = 28 := by
  unfold arpB
  simp [List.length_append, h1, h2, addrL_len, h3, h4]
set_option maxHeartbeats 2000000 in
theorem encA_any (a : Arp) (h1 : a.fm.length = 6) (h2 : a.tm.length = 6) (hv : arpV a = true) (u1 : U64 a.fr.hi ∧ U64 a.fr.lo) (u2 : U64 a.tt.hi ∧ U64 a.tt.lo) : AFn Tryd.prog 12 0 [.agg (arpC a)] mt (.tup [.isl (bytesC (arpB a)) 28, .base (.int .i64 0)]) mt := by
  refine AFn.eq Tryd.func12 rfl rfl (Nat.le_of_ble_eq_true rfl) ?_
  have hva := arpX_yes a h1 h2 hv
  unfold arpV ip4 at hv
  simp only [Bool.and_eq_true, Bool.or_eq_true, Bool.not_eq_true'] at hv
  obtain ⟨hop, ⟨e1, e2⟩, e3, e4⟩ := hv
  have b1 := bytesX_any a.fr e1 u1.1 u1.2
  have b2 := bytesX_any a.tt e3 u2.1 u2.2
  have l1 := addrL_len a.fr
  have l2 := addrL_len a.tt
  rw [e2] at l1
  rw [e4] at l2
  unfold arpB
  obtain ⟨op, fm, fr, tm, tt⟩ := a
  dsimp only at *
  generalize addrL fr = L1 at *
  generalize addrL tt = L2 at *
  have l1 : L1.length = 4 := l1
  have l2 : L2.length = 4 := l2
  obtain ⟨x0, x1, x2, x3, rfl⟩ : ∃ a b c d, L1 = [a, b, c, d] := by
    match L1, l1 with
    | [a, b, c, d], _ => exact ⟨_, _, _, _, rfl⟩
  obtain ⟨y0, y1, y2, y3, rfl⟩ : ∃ a b c d, L2 = [a, b, c, d] := by
    match L2, l2 with
    | [a, b, c, d], _ => exact ⟨_, _, _, _, rfl⟩
  obtain ⟨m0, m1, m2, m3, m4, m5, rfl⟩ := six_of h1
  obtain ⟨n0, n1, n2, n3, n4, n5, rfl⟩ := six_of h2
  repeat (refine W.seq ?_)
  refine W.region 0 3 (by decide) rfl rfl ?_
  refine RW.opd rfl rfl (LO.box rfl rfl rfl) ?_
  refine RW.opd rfl rfl (LO.assign rfl rfl) ?_
  refine RW.opd rfl rfl (LO.assign rfl rfl) ?_
  refine RW.nil ?_
  repeat (refine W.seq ?_)
  refine W.region 7 10 (by decide) rfl rfl ?_
  refine RW.opd rfl rfl (LO.load_agg rfl rfl rfl ty52 rfl (Tk.lit rfl)) ?_
  refine RW.opd rfl rfl (LO.call0 (fr := []) rfl rfl (hva) fok29 (.cons rfl (.pure rfl) .nil) rfl) ?_
  refine RW.opd rfl rfl (LO.not rfl rfl) ?_
  refine RW.nil ?_
  repeat (refine W.seq ?_)
  refine W.cond_f rfl (by first | rfl | assumption) ?_
  refine W.skip ?_
  refine W.frzo (t := 1) rfl rfl rfl ?_
  repeat (refine W.seq ?_)
  refine W.regionD 20 28 (by decide) rfl mixed rfl ?_
  refine RW.opd rfl rfl (LO.fieldAddr_imm rfl rfl ty52 rfl (by decide)) ?_
  refine RW.opd rfl rfl (LO.load_imm rfl rfl rfl ty3 rfl) ?_
  refine RW.opd rfl rfl (LO.conv rfl rfl ty3 ty5) ?_
  refine RW.opd rfl rfl (LO.buildSlice rfl ty46 ty5 (by decide) (by decide) (.cons rfl rfl rfl rfl (Sp.lit rfl) (.cons rfl rfl rfl rfl (Sp.lit rfl) (.cons rfl rfl rfl rfl (Sp.lit rfl) (.cons rfl rfl rfl rfl (Sp.lit rfl) (.cons rfl rfl rfl rfl (Sp.lit rfl) (.cons rfl rfl rfl rfl (Sp.lit rfl) (.cons rfl rfl rfl rfl (Sp.lit rfl) (.cons rfl rfl rfl rfl (Sp.lit rfl) .nil))))))))) ?_
  refine RW.opd rfl rfl (LO.fieldAddr_imm rfl rfl ty52 rfl (by decide)) ?_
  refine RW.opd rfl rfl (LO.slice_imm rfl rfl ty50 ty5 (Tk.lit rfl) (by decide)) ?_
  refine RW.opd rfl rfl (LO.append rfl rfl (SrcAV.isl rfl rfl ?_) rfl (Tk.lit rfl) ty46 ty46 ty5 (by decide) ?_ ?_ ?_) ?_; (· (first | rfl | assumption | fail)); (· (first | omega | decide | assumption | fail | (simp; done) | (simp; omega))); (· (first | omega | decide | assumption | fail | (simp; done) | (simp; omega))); (· (first | decide | omega))
  refine RW.opd rfl rfl (LO.assign rfl rfl) ?_
  refine RW.nil ⟨by kernel_rfl, ?_⟩
  repeat (refine W.seq ?_)
  refine W.regionD 32 41 (by decide) rfl mixed rfl ?_
  refine RW.opd rfl rfl (LO.move rfl rfl) ?_
  refine RW.opd rfl rfl (LO.fieldAddr_imm rfl rfl ty52 rfl (by decide)) ?_
  refine RW.opd rfl rfl (LO.load_imm_agg rfl rfl ty25 rfl (Tk.lit rfl)) ?_
  refine RW.opd rfl rfl (LO.callO (fr := []) rfl rfl (b1) fok30 (.cons rfl (.pure rfl) .nil) rfl (by decide)) ?_
  refine RW.opd rfl rfl (LO.append rfl rfl (SrcAV.own rfl rfl (Tk.lit rfl)) rfl (Tk.lit rfl) ty46 ty46 ty5 (by decide) ?_ ?_ ?_) ?_; (· (first | omega | decide | assumption | fail | (simp; done) | (simp; omega))); (· (first | omega | decide | assumption | fail | (simp; done) | (simp; omega))); (· (first | decide | omega))
  refine RW.opd rfl rfl (LO.fieldAddr_imm rfl rfl ty52 rfl (by decide)) ?_
  refine RW.opd rfl rfl (LO.slice_imm rfl rfl ty50 ty5 (Tk.lit rfl) (by decide)) ?_
  refine RW.opd rfl rfl (LO.append rfl rfl (SrcAV.isl rfl rfl ?_) rfl (Tk.lit rfl) ty46 ty46 ty5 (by decide) ?_ ?_ ?_) ?_; (· (first | rfl | assumption | fail)); (· (first | omega | decide | assumption | fail | (simp; done) | (simp; omega))); (· (first | omega | decide | assumption | fail | (simp; done) | (simp; omega))); (· (first | decide | omega))
  refine RW.opd rfl rfl (LO.assign rfl rfl) ?_
  refine RW.nil ⟨by kernel_rfl, ?_⟩
  repeat (refine W.seq ?_)
  refine W.region 45 52 (by decide) rfl rfl ?_
  refine RW.opd rfl rfl (LO.move rfl rfl) ?_
  refine RW.opd rfl rfl (LO.fieldAddr_imm rfl rfl ty52 rfl (by decide)) ?_
  refine RW.opd rfl rfl (LO.load_imm_agg rfl rfl ty25 rfl (Tk.lit rfl)) ?_
  refine RW.opd rfl rfl (LO.callO (fr := []) rfl rfl (b2) fok30 (.cons rfl (.pure rfl) .nil) rfl (by decide)) ?_
  refine RW.opd rfl rfl (LO.append rfl rfl (SrcAV.own rfl rfl (Tk.lit rfl)) rfl (Tk.lit rfl) ty46 ty46 ty5 (by decide) ?_ ?_ ?_) ?_; (· (first | omega | decide | assumption | fail | (simp; done) | (simp; omega))); (· (first | omega | decide | assumption | fail | (simp; done) | (simp; omega))); (· (first | decide | omega))
  refine RW.opd rfl rfl (LO.assign rfl rfl) ?_
  refine RW.opd rfl rfl (LO.assign rfl rfl) ?_
  refine RW.nil ?_
  refine W.frz1 (t := 2) rfl rfl (Tk.lit rfl) rfl ?_
  repeat (refine W.seq ?_)
  refine W.ret ⟨.inl rfl, _, mt, (RVs.cons (RV.tmp rfl) (RVs.cons (RV.tmp rfl) RVs.nil)), (by (repeat' (first | exact all_mt | refine all_up ?_ ?_)) <;> rfl), ?_⟩
  exact ⟨rfl, rfl⟩
end Go.Proofs.YtcidmiacfjdepaaDoor
