/-
  ResolveFinds: its law.
-/
import Derived.Test.YtcidmiacfjdepaaDoorJt
namespace Go.Proofs.YtcidmiacfjdepaaDoor
open Go.RowKit

set_option maxHeartbeats 4000000 in
theorem finds_law (l : List Int) (i k : Int) (hl : l.length ≤ 9223372036854775807) : AFn Tryd.prog 3 0 [.isl (l.map fun z => .base (.int .i64 z)) l.length, .base (.int .i64 i), .base (.int .i64 k)] mt (.base (.bool true)) mt := by
  refine AFn.eq Tryd.func3 rfl rfl (Nat.le_of_ble_eq_true rfl) ?_
  have hnew := new_any l
  have hawk := awake_any
  obtain ⟨vd, Hd, hdb, d, a1, hmade, rfl, rfl⟩ := database_any l 0 hl
  have hfine := hmade.fine
  have hlen := hfine.len
  obtain ⟨g, hru⟩ := rules_any d hfine.ok hfine.once hfine.ports (by omega) 1 2 (by decide)
  obtain ⟨vb, Hb, hbi, bs, ⟨hperm, hmo⟩, rfl, rfl⟩ := bindings_any d hfine.ok hfine.ports (by omega) (fun p hp => by
    obtain ⟨i, hi, rfl⟩ := List.getElem_of_mem hp
    exact (hfine.good i hi).ok (by omega) (by omega))
  have htab := hfine.tables g 1 2 hperm hmo
  have hrl : ((allP d).map (ruleOf g 1 2)).length = (allP d).length := List.length_map _
  have hm1 := mod_any i (((allP d).map (ruleOf g 1 2)).length : Int) (by omega) (by omega)
  have hm2 := mod_any k (((allP d).map (ruleOf g 1 2)).length : Int) (by omega) (by omega)
  obtain ⟨I, hI, hIb⟩ := nat_of (x := i % (((allP d).map (ruleOf g 1 2)).length : Int)) (n := (((allP d).map (ruleOf g 1 2)).length : Int)) ⟨Int.emod_nonneg _ (by omega), Int.emod_lt_of_pos _ (by omega)⟩
  obtain ⟨J, hJ, hJb⟩ := nat_of (x := k % (((allP d).map (ruleOf g 1 2)).length : Int)) (n := (((allP d).map (ruleOf g 1 2)).length : Int)) ⟨Int.emod_nonneg _ (by omega), Int.emod_lt_of_pos _ (by omega)⟩
  rw [hI] at hm1
  rw [hJ] at hm2
  have hI2 : I < (allP d).length := by omega
  have hJ2 : J < (allP d).length := by omega
  have tI := rules_tk (l := (allP d).map (ruleOf g 1 2)) (k := I) (by omega)
  have tJ := rules_tk (l := (allP d).map (ruleOf g 1 2)) (k := J) (by omega)
  rw [List.getElem_map] at tI tJ
  obtain ⟨m60, ml0, ml0', mo0, _⟩ := hfine.prt hI2
  obtain ⟨m61, ml1, ml1', mo1, idJ⟩ := hfine.prt hJ2
  obtain ⟨p1, p2⟩ := v4_ok (hfine.good I hI2) (by omega) (by omega)
  obtain ⟨q1, q2⟩ := v4_ok (hfine.good J hJ2) (by omega) (by omega)
  have hb0 := (macOf_mem (hfine.good I hI2) (by omega) (by omega)).2.2
  have hfind := fun h1 h2 => hfine.finds (rs := (allP d).map (ruleOf g 1 2)) hperm hI2 hJ2 h1 h2
  generalize (allP d)[I] = P at *
  generalize (allP d)[J] = Q at *
  generalize (allP d).map (ruleOf g 1 2) = rs at *
  have hI3 : I < rs.length := by omega
  have hJ3 : J < rs.length := by omega
  clear hmade hfine hperm hI hJ
  repeat (refine W.seq ?_)
  refine W.region 0 1 (by decide) rfl rfl ?_
  refine RW.opd rfl rfl (LO.assign rfl rfl) ?_
  refine RW.nil ?_
  repeat (refine W.seq ?_)
  refine W.region 5 10 (by decide) rfl rfl ?_
  refine RW.opd rfl rfl (LO.move rfl rfl) ?_
  refine RW.opd rfl rfl (LO.callN (fr := []) rfl rfl (hnew) fok6 (.cons rfl (.pure rfl) .nil) rfl (by decide)) ?_
  refine RW.opd rfl rfl (LO.call1 (fr := []) rfl rfl (hdb) fok7 (.own rfl rfl .nil) rfl rfl rfl (List.cons_ne_nil _ _) (by decide) rfl) ?_
  refine RW.opd rfl rfl (LO.alloc rfl ty30) ?_
  refine RW.opn rfl rfl (LO.store rfl rfl rfl rfl rfl ty30 rfl (by decide) (Sp.lit rfl)) ?_
  refine RW.nil ?_
  repeat (refine W.seq ?_)
  refine W.region 14 21 (by decide) rfl rfl ?_
  refine RW.opd rfl rfl (LO.load_agg rfl rfl rfl ty30 rfl (Tk.lit rfl)) ?_
  refine RW.opd rfl rfl (LO.call0 (fr := []) rfl rfl (hru) fok8 (.cons rfl (.pure rfl) (.cons rfl (.pure rfl) (.cons rfl (.pure rfl) .nil))) rfl) ?_
  refine RW.opd rfl rfl (LO.move rfl rfl) ?_
  refine RW.opd rfl rfl (LO.extract rfl rfl rfl) ?_
  refine RW.opd rfl rfl (LO.extract rfl rfl rfl) ?_
  refine RW.opd rfl rfl (LO.assign rfl rfl) ?_
  refine RW.opd rfl rfl (LO.assign rfl rfl) ?_
  refine RW.nil ?_
  repeat (refine W.seq ?_)
  refine W.region 25 28 (by decide) rfl rfl ?_
  refine RW.opd rfl rfl (LO.load_agg rfl rfl rfl ty30 rfl (Tk.lit rfl)) ?_
  refine RW.opd rfl rfl (LO.call0 (fr := []) rfl rfl (hbi) fok9 (.cons rfl (.pure rfl) .nil) rfl) ?_
  refine RW.opd rfl rfl (LO.assign rfl rfl) ?_
  refine RW.nil ?_
  repeat (refine W.seq ?_)
  refine W.regionD 32 50 (by decide) rfl mixed rfl ?_
  refine RW.opd rfl rfl (LO.move rfl rfl) ?_
  refine RW.opd rfl rfl (LO.move rfl rfl) ?_
  refine RW.opd rfl rfl (LO.move rfl rfl) ?_
  refine RW.opd rfl rfl (LO.len_isl rfl rfl rfl ty34) ?_
  refine RW.opd rfl rfl (LO.call0 (fr := []) rfl rfl (hm1) fok10 (.cons rfl (.pure rfl) (.cons rfl (.pure rfl) .nil)) rfl) ?_
  refine RW.opd rfl rfl (LO.indexAddr_isl rfl rfl rfl rfl rfl ty34 ty43 ?_) ?_; (· (first | omega | decide | assumption | fail | (simp; done) | (simp; omega)))
  refine RW.opd rfl rfl (LO.load_imm_agg rfl rfl ty43 rfl tI) ?_
  refine RW.opd rfl rfl (LO.move rfl rfl) ?_
  refine RW.opd rfl rfl (LO.move rfl rfl) ?_
  refine RW.opd rfl rfl (LO.move rfl rfl) ?_
  refine RW.opd rfl rfl (LO.len_isl rfl rfl rfl ty34) ?_
  refine RW.opd rfl rfl (LO.call0 (fr := []) rfl rfl (hm2) fok10 (.cons rfl (.pure rfl) (.cons rfl (.pure rfl) .nil)) rfl) ?_
  refine RW.opd rfl rfl (LO.indexAddr_isl rfl rfl rfl rfl rfl ty34 ty43 ?_) ?_; (· (first | omega | decide | assumption | fail | (simp; done) | (simp; omega)))
  refine RW.opd rfl rfl (LO.load_imm_agg rfl rfl ty43 rfl tJ) ?_
  refine RW.opd rfl rfl (LO.alloc rfl ty43) ?_
  refine RW.opd rfl rfl (LO.alloc rfl ty43) ?_
  refine RW.opn rfl rfl (LO.store rfl rfl rfl rfl rfl ty43 rfl (by decide) (Sp.lit rfl)) ?_
  refine RW.opn rfl rfl (LO.store rfl rfl rfl rfl rfl ty43 rfl (by decide) (Sp.lit rfl)) ?_
  refine RW.nil ⟨by kernel_rfl, ?_⟩
  unfold ruleOf
  by_cases z1 : P.v4 = ⟨false, 0, 0⟩
  · have e1 : ad1 P.v4 = [] := by rw [z1]; rfl
    rw [e1]
    repeat (refine W.seq ?_)
    refine W.region 54 64 (by decide) rfl rfl ?_
    refine RW.opd rfl rfl (LO.fieldAddr rfl rfl ty43 rfl (by decide)) ?_
    refine RW.opd rfl rfl (LO.load rfl rfl rfl rfl ty41 rfl) ?_
    refine RW.opd rfl rfl (LO.len_isl rfl rfl rfl ty41) ?_
    refine RW.opd rfl rfl (LO.eql rfl rfl rfl) ?_
    refine RW.opd rfl rfl (LO.move rfl rfl) ?_
    refine RW.sd rfl rfl rfl ?_ rfl ?_; (· (first | rfl | assumption))
    refine RW.sd rfl rfl rfl ?_ rfl ?_; (· (first | rfl | assumption))
    refine RW.sd rfl rfl rfl ?_ rfl ?_; (· (first | rfl | assumption))
    refine RW.sd rfl rfl rfl ?_ rfl ?_; (· (first | rfl | assumption))
    refine RW.opd rfl rfl (LO.pick_t rfl rfl ?_ rfl) ?_; (· (first | rfl | assumption))
    refine RW.nil ?_
    repeat (refine W.seq ?_)
    refine W.cond_t rfl (by first | rfl | assumption) ?_
    repeat (refine W.seq ?_)
    refine W.region 68 70 (by decide) rfl rfl ?_
    refine RW.opd rfl rfl (LO.call0 (fr := []) rfl rfl (hawk) fok11 .nil rfl) ?_
    refine RW.opd rfl rfl (LO.assign rfl rfl) ?_
    refine RW.nil ?_
    repeat (refine W.seq ?_)
    refine W.ret ⟨.inl rfl, _, mt, RVs.cons (RV.tmp rfl) (RVs.nil), all_mt, ?_⟩
    exact ⟨rfl, rfl⟩
  · have hp4 := (v4_in z1).2
    rw [hp4]
    by_cases z2 : Q.v4 = ⟨false, 0, 0⟩
    · have e1 : ad1 Q.v4 = [] := by rw [z2]; rfl
      rw [e1]
      repeat (refine W.seq ?_)
      refine W.region 54 64 (by decide) rfl rfl ?_
      refine RW.opd rfl rfl (LO.fieldAddr rfl rfl ty43 rfl (by decide)) ?_
      refine RW.opd rfl rfl (LO.load rfl rfl rfl rfl ty41 rfl) ?_
      refine RW.opd rfl rfl (LO.len_isl rfl rfl rfl ty41) ?_
      refine RW.opd rfl rfl (LO.eql rfl rfl rfl) ?_
      refine RW.opd rfl rfl (LO.move rfl rfl) ?_
      refine RW.gd rfl rfl rfl ?_ rfl (LO.fieldAddr rfl rfl ty43 rfl (by decide)) ?_; (· (first | rfl | assumption))
      refine RW.gd rfl rfl rfl ?_ rfl (LO.load rfl rfl rfl rfl ty41 rfl) ?_; (· (first | rfl | assumption))
      refine RW.gd rfl rfl rfl ?_ rfl (LO.len_isl rfl rfl rfl ty41) ?_; (· (first | rfl | assumption))
      refine RW.gd rfl rfl rfl ?_ rfl (LO.eql rfl rfl rfl) ?_; (· (first | rfl | assumption))
      refine RW.opd rfl rfl (LO.pick_f rfl rfl ?_ rfl) ?_; (· (first | rfl | assumption))
      refine RW.nil ?_
      repeat (refine W.seq ?_)
      refine W.cond_t rfl (by first | rfl | assumption) ?_
      repeat (refine W.seq ?_)
      refine W.region 68 70 (by decide) rfl rfl ?_
      refine RW.opd rfl rfl (LO.call0 (fr := []) rfl rfl (hawk) fok11 .nil rfl) ?_
      refine RW.opd rfl rfl (LO.assign rfl rfl) ?_
      refine RW.nil ?_
      repeat (refine W.seq ?_)
      refine W.ret ⟨.inl rfl, _, mt, RVs.cons (RV.tmp rfl) (RVs.nil), all_mt, ?_⟩
      exact ⟨rfl, rfl⟩
    · have hq4 := (v4_in z2).2
      rw [hq4]
      have hfind := hfind z1 z2
      repeat (refine W.seq ?_)
      refine W.region 54 64 (by decide) rfl rfl ?_
      refine RW.opd rfl rfl (LO.fieldAddr rfl rfl ty43 rfl (by decide)) ?_
      refine RW.opd rfl rfl (LO.load rfl rfl rfl rfl ty41 rfl) ?_
      refine RW.opd rfl rfl (LO.len_isl rfl rfl rfl ty41) ?_
      refine RW.opd rfl rfl (LO.eql rfl rfl rfl) ?_
      refine RW.opd rfl rfl (LO.move rfl rfl) ?_
      refine RW.gd rfl rfl rfl ?_ rfl (LO.fieldAddr rfl rfl ty43 rfl (by decide)) ?_; (· (first | rfl | assumption))
      refine RW.gd rfl rfl rfl ?_ rfl (LO.load rfl rfl rfl rfl ty41 rfl) ?_; (· (first | rfl | assumption))
      refine RW.gd rfl rfl rfl ?_ rfl (LO.len_isl rfl rfl rfl ty41) ?_; (· (first | rfl | assumption))
      refine RW.gd rfl rfl rfl ?_ rfl (LO.eql rfl rfl rfl) ?_; (· (first | rfl | assumption))
      refine RW.opd rfl rfl (LO.pick_f rfl rfl ?_ rfl) ?_; (· (first | rfl | assumption))
      refine RW.nil ?_
      repeat (refine W.seq ?_)
      refine W.cond_f rfl (by first | rfl | assumption) ?_
      refine W.skip ?_
      have hreq := request_any (macOf P) P.v4 Q.v4 mo0
      have henc := encReq mo0 p1 q1 p2 q2
      have hdel := deliver_any rs bs P.id _ htab (reqF_ok mo0 hb0 (ip4_v6 p1) (ip4_v6 q1))
      rw [hfind] at hdel
      have tP := macs0_tk (p := P) rfl m60 ml0
      have tQ := macs0_tk (p := Q) rfl m61 ml1
      unfold reqF at hdel
      generalize arpB (reqA (macOf P) P.v4 Q.v4) = B at *
      generalize macOf P = mp at *
      generalize macOf Q = mq at *
      obtain ⟨x0, x1, x2, x3, x4, x5, rfl⟩ := six_of mo0
      obtain ⟨y0, y1, y2, y3, y4, y5, rfl⟩ := six_of mo1
      clear hfind p1 p2 q1 q2 m60 m61 hp4 hq4 hb0 z1 z2
      have ke : decide (([y0, y1, y2, y3, y4, y5] : List Int) = [y0, y1, y2, y3, y4, y5]) = true := decide_eq_true rfl
      have kq : (Q.id == Q.id) = true := by simp
      repeat (refine W.seq ?_)
      refine W.regionD 74 93 (by decide) rfl mixed rfl ?_
      refine RW.opd rfl rfl (LO.fieldAddr rfl rfl ty43 rfl (by decide)) ?_
      refine RW.opd rfl rfl (LO.load rfl rfl rfl rfl ty40 rfl) ?_
      refine RW.opd rfl rfl (LO.indexAddr_isl rfl rfl rfl rfl rfl ty40 ty50 ?_) ?_; (· (first | omega | decide | assumption | fail | (simp; done) | (simp; omega)))
      refine RW.opd rfl rfl (LO.load_imm_agg rfl rfl ty50 rfl tP) ?_
      refine RW.opd rfl rfl (LO.fieldAddr rfl rfl ty43 rfl (by decide)) ?_
      refine RW.opd rfl rfl (LO.load rfl rfl rfl rfl ty41 rfl) ?_
      refine RW.opd rfl rfl (LO.indexAddr_isl rfl rfl rfl rfl rfl ty41 ty25 ?_) ?_; (· (first | omega | decide | assumption | fail | (simp; done) | (simp; omega)))
      refine RW.opd rfl rfl (LO.load_imm_agg rfl rfl ty25 rfl (Tk.lit rfl)) ?_
      refine RW.opd rfl rfl (LO.fieldAddr rfl rfl ty43 rfl (by decide)) ?_
      refine RW.opd rfl rfl (LO.load rfl rfl rfl rfl ty41 rfl) ?_
      refine RW.opd rfl rfl (LO.indexAddr_isl rfl rfl rfl rfl rfl ty41 ty25 ?_) ?_; (· (first | omega | decide | assumption | fail | (simp; done) | (simp; omega)))
      refine RW.opd rfl rfl (LO.load_imm_agg rfl rfl ty25 rfl (Tk.lit rfl)) ?_
      refine RW.opd rfl rfl (LO.call0 (fr := []) rfl rfl (hreq) fok13 (.cons rfl (.pure rfl) (.cons rfl (.pure rfl) (.cons rfl (.pure rfl) .nil))) rfl) ?_
      refine RW.opd rfl rfl (LO.call0 (fr := []) rfl rfl (henc) fok12 (.cons rfl (.pure rfl) .nil) rfl) ?_
      refine RW.opd rfl rfl (LO.move rfl rfl) ?_
      refine RW.opd rfl rfl (LO.extract rfl rfl rfl) ?_
      refine RW.opd rfl rfl (LO.extract rfl rfl rfl) ?_
      refine RW.opd rfl rfl (LO.assign rfl rfl) ?_
      refine RW.opd rfl rfl (LO.assign rfl rfl) ?_
      refine RW.nil ⟨by kernel_rfl, ?_⟩
      by_cases e : Q.id = P.id
      case' pos =>
        rw [if_pos e] at hdel
        have kp : (P.id == Q.id) = true := by rw [e]; simp
        have hdel : AFn Tryd.prog 14 0 [.isl (rulesC rs) rs.length, .isl (bdsC bs) bs.length, .base (.int .i64 P.id), .agg (bytesC bcM ++ bytesC [x0, x1, x2, x3, x4, x5] ++ [.base (.int .i64 0), .base (.int .i64 2054), .isl (bytesC B) B.length])] mt (.tup [.base (.int .i64 0), .agg (frC zFr), .base (.int .i64 13)]) mt := hdel
      case' neg =>
        rw [if_neg e] at hdel
        have kp : (P.id == Q.id) = false := by simpa using fun h => e h.symm
        have hdel : AFn Tryd.prog 14 0 [.isl (rulesC rs) rs.length, .isl (bdsC bs) bs.length, .base (.int .i64 P.id), .agg (bytesC bcM ++ bytesC [x0, x1, x2, x3, x4, x5] ++ [.base (.int .i64 0), .base (.int .i64 2054), .isl (bytesC B) B.length])] mt (.tup [.base (.int .i64 Q.id), .agg (bytesC [y0, y1, y2, y3, y4, y5] ++ bytesC [x0, x1, x2, x3, x4, x5] ++ [.base (.int .i64 0), .base (.int .i64 2054), .isl (bytesC B) B.length]), .base (.int .i64 0)]) mt := hdel
      all_goals
        repeat (refine W.seq ?_)
        refine W.regionD 97 117 (by decide) rfl mixed rfl ?_
        refine RW.opd rfl rfl (LO.move rfl rfl) ?_
        refine RW.opd rfl rfl (LO.move rfl rfl) ?_
        refine RW.opd rfl rfl (LO.fieldAddr rfl rfl ty43 rfl (by decide)) ?_
        refine RW.opd rfl rfl (LO.load rfl rfl rfl rfl ty3 rfl) ?_
        refine RW.opd rfl rfl (LO.call0 (fr := []) rfl rfl (bcX_any) fok15 .nil rfl) ?_
        refine RW.opd rfl rfl (LO.fieldAddr rfl rfl ty43 rfl (by decide)) ?_
        refine RW.opd rfl rfl (LO.load rfl rfl rfl rfl ty40 rfl) ?_
        refine RW.opd rfl rfl (LO.indexAddr_isl rfl rfl rfl rfl rfl ty40 ty50 ?_) ?_; (· (first | omega | decide | assumption | fail | (simp; done) | (simp; omega)))
        refine RW.opd rfl rfl (LO.load_imm_agg rfl rfl ty50 rfl tP) ?_
        refine RW.opd rfl rfl (LO.move rfl rfl) ?_
        refine RW.opd rfl rfl (LO.build_st rfl ty55 (.cons rfl rfl rfl rfl (Sp.lit rfl) (.cons rfl rfl rfl rfl (Sp.lit rfl) (.cons rfl rfl rfl rfl (Sp.lit rfl) (.cons rfl rfl rfl rfl (Sp.lit rfl) .nil))))) ?_
        refine RW.opd rfl rfl (LO.call0 (fr := []) rfl rfl (hdel) fok14 (.cons rfl (.pure rfl) (.cons rfl (.pure rfl) (.cons rfl (.pure rfl) (.cons rfl (.pure rfl) .nil)))) rfl) ?_
        refine RW.opd rfl rfl (LO.move rfl rfl) ?_
        refine RW.opd rfl rfl (LO.extract rfl rfl rfl) ?_
        refine RW.opd rfl rfl (LO.extract rfl rfl rfl) ?_
        refine RW.opd rfl rfl (LO.extract rfl rfl rfl) ?_
        refine RW.opd rfl rfl (LO.alloc rfl ty55) ?_
        refine RW.opd rfl rfl (LO.assign rfl rfl) ?_
        refine RW.opn rfl rfl (LO.store rfl rfl rfl rfl rfl ty55 rfl (by decide) (Sp.lit rfl)) ?_
        refine RW.opd rfl rfl (LO.assign rfl rfl) ?_
        refine RW.nil ⟨by kernel_rfl, ?_⟩
        repeat (refine W.seq ?_)
        refine W.region 121 126 (by decide) rfl rfl ?_
        refine RW.opd rfl rfl (LO.fieldAddr rfl rfl ty43 rfl (by decide)) ?_
        refine RW.opd rfl rfl (LO.load rfl rfl rfl rfl ty3 rfl) ?_
        refine RW.opd rfl rfl (LO.fieldAddr rfl rfl ty43 rfl (by decide)) ?_
        refine RW.opd rfl rfl (LO.load rfl rfl rfl rfl ty3 rfl) ?_
        refine RW.opd rfl rfl (LO.eql rfl rfl rfl) ?_
        refine RW.nil ?_
      rotate_left
      ·
        repeat (refine W.seq ?_)
        refine W.cond_t rfl (by first | rfl | assumption) ?_
        repeat (refine W.seq ?_)
        refine W.region 130 140 (by decide) rfl rfl ?_
        refine RW.opd rfl rfl (LO.move rfl rfl) ?_
        refine RW.opd rfl rfl (LO.eql rfl rfl rfl) ?_
        refine RW.opd rfl rfl (LO.move rfl rfl) ?_
        refine RW.gd rfl rfl rfl ?_ rfl (LO.move rfl rfl) ?_; (· (first | rfl | assumption))
        refine RW.gd rfl rfl rfl ?_ rfl (LO.eql rfl rfl rfl) ?_; (· (first | rfl | assumption))
        refine RW.opd rfl rfl (LO.pick_t rfl rfl ?_ rfl) ?_; (· (first | rfl | assumption))
        refine RW.opd rfl rfl (LO.move rfl rfl) ?_
        refine RW.gd rfl rfl rfl ?_ rfl (LO.call0 (fr := []) rfl rfl (hawk) fok11 .nil rfl) ?_; (· (first | rfl | assumption))
        refine RW.opd rfl rfl (LO.pick_t rfl rfl ?_ rfl) ?_; (· (first | rfl | assumption))
        refine RW.opd rfl rfl (LO.assign rfl rfl) ?_
        refine RW.nil ?_
        repeat (refine W.seq ?_)
        refine W.ret ⟨.inl rfl, _, mt, RVs.cons (RV.tmp rfl) (RVs.nil), all_mt, ?_⟩
        exact ⟨rfl, rfl⟩
      ·
        repeat (refine W.seq ?_)
        refine W.cond_f rfl (by first | rfl | assumption) ?_
        refine W.skip ?_
        repeat (refine W.seq ?_)
        refine W.regionD 144 165 (by decide) rfl mixed rfl ?_
        refine RW.opd rfl rfl (LO.move rfl rfl) ?_
        refine RW.opd rfl rfl (LO.fieldAddr rfl rfl ty43 rfl (by decide)) ?_
        refine RW.opd rfl rfl (LO.load rfl rfl rfl rfl ty3 rfl) ?_
        refine RW.opd rfl rfl (LO.eql rfl rfl rfl) ?_
        refine RW.opd rfl rfl (LO.move rfl rfl) ?_
        refine RW.gd rfl rfl rfl ?_ rfl (LO.move rfl rfl) ?_; (· (first | rfl | assumption))
        refine RW.gd rfl rfl rfl ?_ rfl (LO.eql rfl rfl rfl) ?_; (· (first | rfl | assumption))
        refine RW.opd rfl rfl (LO.pick_t rfl rfl ?_ rfl) ?_; (· (first | rfl | assumption))
        refine RW.opd rfl rfl (LO.move rfl rfl) ?_
        refine RW.gd rfl rfl rfl ?_ rfl (LO.fieldAddr rfl rfl ty55 rfl (by decide)) ?_; (· (first | rfl | assumption))
        refine RW.gd rfl rfl rfl ?_ rfl (LO.load_agg rfl rfl rfl ty50 rfl (Tk.lit rfl)) ?_; (· (first | rfl | assumption))
        refine RW.gd rfl rfl rfl ?_ rfl (LO.fieldAddr rfl rfl ty43 rfl (by decide)) ?_; (· (first | rfl | assumption))
        refine RW.gd rfl rfl rfl ?_ rfl (LO.load rfl rfl rfl rfl ty40 rfl) ?_; (· (first | rfl | assumption))
        refine RW.gd rfl rfl rfl ?_ rfl (LO.indexAddr_isl rfl rfl rfl rfl rfl ty40 ty50 ?_) ?_; (· (first | rfl | assumption)); (· (first | omega | decide | assumption | fail | (simp; done) | (simp; omega)))
        refine RW.gd rfl rfl rfl ?_ rfl (LO.load_imm_agg rfl rfl ty50 rfl tQ) ?_; (· (first | rfl | assumption))
        refine RW.gd rfl rfl rfl ?_ rfl (LO.eql_mac [y0, y1, y2, y3, y4, y5] [y0, y1, y2, y3, y4, y5] rfl rfl rfl rfl rfl) ?_; (· (first | rfl | assumption))
        refine RW.opd rfl rfl (LO.pick_t rfl rfl ?_ rfl) ?_; (· (first | rfl | assumption))
        refine RW.opd rfl rfl (LO.move rfl rfl) ?_
        refine RW.gd rfl rfl rfl ?_ rfl (LO.call0 (fr := []) rfl rfl (hawk) fok11 .nil rfl) ?_; (· (first | rfl | assumption))
        refine RW.opd rfl rfl (LO.pick_t rfl rfl ?_ rfl) ?_; (· (first | rfl | assumption))
        refine RW.opd rfl rfl (LO.assign rfl rfl) ?_
        refine RW.nil ⟨by kernel_rfl, ?_⟩
        repeat (refine W.seq ?_)
        refine W.ret ⟨.inl rfl, _, mt, RVs.cons (RV.tmp rfl) (RVs.nil), all_mt, ?_⟩
        exact ⟨rfl, rfl⟩
end Go.Proofs.YtcidmiacfjdepaaDoor
