/-
  The best route alone: the statement's function answers true.
-/
import Derived.Test.YtgklkocmimjifaaCk
namespace Go.Proofs.Ytgklkocmimjifaa
open Go.RowKit
theorem AFn.arg1 {P : Program} {f : FuncId} {k : Nat} {a0 a a' : AV} {args : List AV} {H H' : Hp} {v : AV} (h : AFn P f k (a0 :: a' :: args) H v H') (ha : ∀ (X : Nat → Prop) (φ : Em) (w : World) (x : Value), Rep X w φ x a → Rep X w φ x a') : AFn P f k (a0 :: a :: args) H v H' := fun X φ w vals h1 h2 h3 h4 =>
  h X φ w vals h1 (fun i x b hx hb => by
    match i with
    | 0 => exact h2 0 x b hx hb
    | 1 => simp at hb; subst hb; exact ha X φ w x (h2 1 x a hx rfl)
    | i + 2 => exact h2 (i + 2) x b hx hb) h3 h4
theorem rts_drop {l : List Rt} {k : Nat} : Tk (rtsC l) (k * 16) ((l.length - k) * 16) (rtsC (l.drop k)) := by
  refine ⟨by rw [rtsC_len, List.length_drop], fun j c hj => ?_⟩
  by_cases hk : k ≤ l.length
  · rw [show rtsC l = rtsC (l.take k) ++ rtsC (l.drop k) from by rw [← rtsC_app, List.take_append_drop]]
    have e : (rtsC (l.take k)).length = k * 16 := by rw [rtsC_len, List.length_take, Nat.min_eq_left hk]
    rw [List.getElem?_append_right (by omega), e, Nat.add_sub_cancel_left]
    exact hj
  · rw [List.drop_eq_nil_of_le (by omega)] at hj
    cases hj
theorem rts_take {l : List Rt} {k : Nat} (hk : k ≤ l.length) : Tk (rtsC l) 0 (k * 16) (rtsC (l.take k)) := by
  have e : (rtsC (l.take k)).length = k * 16 := by rw [rtsC_len, List.length_take, Nat.min_eq_left hk]
  refine ⟨e, fun j c hj => ?_⟩
  have hlt := (List.getElem?_eq_some_iff.1 hj).1
  rw [show rtsC l = rtsC (l.take k) ++ rtsC (l.drop k) from by rw [← rtsC_app, List.take_append_drop], Nat.zero_add, List.getElem?_append_left (by omega)]
  exact hj
theorem rts_tk2 {l m : List Rt} {n : Nat} (h : l.length + m.length = n) : Tk (rtsC l ++ rtsC m) 0 (n * 16) (rtsC (l ++ m)) := by
  rw [← rtsC_app]; exact rts_tk (by rw [List.length_append, h])
theorem rts_from {l : List Rt} {i : Nat} (h : i < l.length) : (rtsC l)[i * 16 + 4]? = some (.base (.int .i64 (gR l i).from_)) := by
  have := (rts_at h).2 4 _ rfl
  rw [gR_at h]
  rw [Nat.zero_add] at this
  exact this
set_option maxHeartbeats 8000000 in
theorem alone_law (l : List Int) (turn drop : Int) (hl : l.length ≤ 9223372036854775807) : AFn Try.prog 5 0 [.isl (intsC l) l.length, .base (.int .i64 turn), .base (.int .i64 drop)] mt (.base (.bool true)) mt := by
  refine AFn.eq Try.func5 rfl rfl (Nat.le_of_ble_eq_true rfl) ?_
  have hnew := new_any l
  have haw := awake_any
  obtain ⟨_, _, hpol, p, a1, ⟨hpl, hpb⟩, rfl, rfl⟩ := policy_any l 0 106 hl
  obtain ⟨_, _, hrts, L, a2, ⟨⟨hrl, hLo, hrp⟩, hL6⟩, rfl, rfl⟩ := routes_any l a1 hl
  unfold intsC
  have hb0 := best_any p [] (by omega) (by decide) (fun r hr => by cases hr)
  have hb0' := AFn.arg1 (a := .nils) hb0 fun X φ w x h => h.nil_isl
  have hb1 := best_any p L (by omega) (by omega) hLo
  by_cases h0 : L.length = 0
  · have g0 : ((L.length : Int) == 0) = true := by rw [h0]; rfl
    repeat (refine W.seq ?_)
    refine W.region 0 1 (by decide) rfl rfl ?_
    refine RW.opd rfl rfl (LO.assign rfl rfl) ?_
    refine RW.nil ?_
    repeat (refine W.seq ?_)
    refine W.region 5 8 (by decide) rfl rfl ?_
    refine RW.opd rfl rfl (LO.move rfl rfl) ?_
    refine RW.opd rfl rfl (LO.callN (fr := []) rfl rfl (hnew) fok7 (.cons rfl (.pure rfl) .nil) rfl (by decide)) ?_
    refine RW.opd rfl rfl (LO.assign rfl rfl) ?_
    refine RW.nil ?_
    repeat (refine W.seq ?_)
    refine W.region 12 16 (by decide) rfl rfl ?_
    refine RW.opd rfl rfl (LO.move rfl rfl) ?_
    refine RW.opd rfl rfl (LO.call1 (fr := []) rfl rfl (hpol) fok8 (.own rfl rfl (.cons rfl (.pure rfl) .nil)) rfl rfl rfl (List.cons_ne_nil _ _) (by decide) rfl) ?_
    refine RW.opd rfl rfl (LO.alloc rfl ty27) ?_
    refine RW.opn rfl rfl (LO.store rfl rfl rfl rfl rfl ty27 rfl (by decide) (Sp.lit rfl)) ?_
    refine RW.nil ?_
    repeat (refine W.seq ?_)
    refine W.region 20 23 (by decide) rfl rfl ?_
    refine RW.opd rfl rfl (LO.move rfl rfl) ?_
    refine RW.opd rfl rfl (LO.callP (fr := []) rfl rfl (hrts) fok9 (.own rfl rfl .nil) rfl rfl rfl (rtsC_pure _) (List.cons_ne_nil _ _) (by decide) (by decide) (by decide)) ?_
    refine RW.opd rfl rfl (LO.assign rfl rfl) ?_
    refine RW.nil ?_
    repeat (refine W.seq ?_)
    refine W.region 27 30 (by decide) rfl rfl ?_
    refine RW.opd rfl rfl (LO.move rfl rfl) ?_
    refine RW.opd rfl rfl (LO.len rfl rfl ty29) ?_
    refine RW.opd rfl rfl (LO.eql rfl rfl rfl) ?_
    refine RW.nil ?_
    repeat (refine W.seq ?_)
    refine W.cond_t rfl (by first | rfl | assumption) ?_
    repeat (refine W.seq ?_)
    refine W.region 34 41 (by decide) rfl rfl ?_
    refine RW.opd rfl rfl (LO.load_agg rfl rfl rfl ty27 rfl (Tk.lit rfl)) ?_
    refine RW.opd rfl rfl (LO.call0 (fr := []) rfl rfl (hb0') fok16 (.cons rfl (.pure rfl) (.cons rfl (.pure rfl) .nil)) rfl) ?_
    refine RW.opd rfl rfl (LO.move rfl rfl) ?_
    refine RW.opd rfl rfl (LO.extract rfl rfl rfl) ?_
    refine RW.opd rfl rfl (LO.extract rfl rfl rfl) ?_
    refine RW.opd rfl rfl (LO.assign rfl rfl) ?_
    refine RW.opd rfl rfl (LO.assign rfl rfl) ?_
    refine RW.nil ?_
    repeat (refine W.seq ?_)
    refine W.region 45 51 (by decide) rfl rfl ?_
    refine RW.opd rfl rfl (LO.move rfl rfl) ?_
    refine RW.opd rfl rfl (LO.not rfl rfl) ?_
    refine RW.opd rfl rfl (LO.move rfl rfl) ?_
    refine RW.gd rfl rfl rfl ?_ rfl (LO.call0 (fr := []) rfl rfl (haw) fok15 .nil rfl) ?_; (· (first | rfl | assumption))
    refine RW.opd rfl rfl (LO.pick_t rfl rfl ?_ rfl) ?_; (· (first | rfl | assumption))
    refine RW.opd rfl rfl (LO.assign rfl rfl) ?_
    refine RW.nil ?_
    repeat (refine W.seq ?_)
    refine W.ret ⟨.inl rfl, _, mt, RVs.cons (RV.tmp rfl) (RVs.nil), all_mt, ?_⟩
    exact ⟨rfl, rfl⟩
  have g0 : ((L.length : Int) == 0) = false := by rw [beq_eq_false_iff_ne]; omega
  have hm := best_idx p h0
  have hbm := best_mem p h0
  obtain ⟨m, hmE⟩ : ∃ m, bestK p L L.length = m := ⟨_, rfl⟩
  have hBR : bestR p L = gR L m := by unfold bestR; rw [hmE]
  rw [hmE, show decide (L.length ≠ 0) = true from decide_eq_true h0] at hb1
  rw [hmE] at hm
  have k1 : decide ((m : Int) < 0) = false := decide_eq_false (by omega)
  have k2 : decide ((m : Int) ≥ (L.length : Int)) = false := decide_eq_false (by omega)
  have hme := rts_at hm
  rw [← gR_at hm] at hme
  obtain ⟨kn, hk1, hk2⟩ : ∃ k : Nat, turn % (L.length : Int) = (k : Int) ∧ k < L.length := by
    have e0 := Int.emod_nonneg turn (show (L.length : Int) ≠ 0 by omega)
    have e1 := Int.emod_lt_of_pos turn (show 0 < (L.length : Int) by omega)
    exact ⟨(turn % (L.length : Int)).toNat, by omega, by omega⟩
  have hmod := mod_any turn L.length (by omega) (by omega)
  rw [hk1] at hmod
  obtain ⟨O, hO⟩ : ∃ O, L.drop kn ++ L.take kn = O := ⟨_, rfl⟩
  have htl : (L.take kn).length = kn := by rw [List.length_take]; exact Nat.min_eq_left (by omega)
  have hdl : (L.drop kn).length = L.length - kn := List.length_drop
  have hOl : O.length = L.length - kn + (kn - 0) := by rw [← hO, List.length_append, htl, hdl]; rfl
  have hOm : ∀ r, r ∈ O ↔ r ∈ L := fun r => by
    rw [← hO, List.mem_append]
    constructor
    · rintro (h | h)
      · exact List.mem_of_mem_drop h
      · exact List.mem_of_mem_take h
    · intro h
      rw [← List.take_append_drop kn L, List.mem_append] at h
      exact h.symm
  have hO0 : O.length ≠ 0 := by omega
  have hb2 := best_any p O (by omega) (by omega) fun r hr => hLo r ((hOm r).1 hr)
  have hj := best_idx p hO0
  have hjf : (gR O (bestK p O O.length)).from_ = (gR L m).from_ := by
    have := best_same (p := p) (l := L) (m := O) ((hOm _).2 hbm) ((hOm _).1 (best_mem p hO0))
    rw [hBR] at this
    exact this
  obtain ⟨j, hjE⟩ : ∃ j, bestK p O O.length = j := ⟨_, rfl⟩
  rw [hjE] at hj hjf
  rw [hjE, show decide (O.length ≠ 0) = true from decide_eq_true hO0] at hb2
  have k3 : decide ((j : Int) < 0) = false := decide_eq_false (by omega)
  have k4 : decide ((j : Int) ≥ ((L.length - kn + (kn - 0) : Nat) : Int)) = false := decide_eq_false (by omega)
  have hof := rts_from hj
  rw [hjf] at hof
  rw [hOl] at hb2
  obtain ⟨bm, hbmE⟩ : ∃ bm, gR L m = bm := ⟨_, rfl⟩
  rw [hBR, hbmE] at hbm
  rw [hbmE] at hme hof
  obtain ⟨pf, fr, aa⟩ := bm
  rw [rt_lit] at hme
  rw [Nat.zero_add] at hme
  dsimp only at hof
  have kq : (fr == fr) = true := by simp
  repeat (refine W.seq ?_)
  refine W.region 0 1 (by decide) rfl rfl ?_
  refine RW.opd rfl rfl (LO.assign rfl rfl) ?_
  refine RW.nil ?_
  repeat (refine W.seq ?_)
  refine W.region 5 8 (by decide) rfl rfl ?_
  refine RW.opd rfl rfl (LO.move rfl rfl) ?_
  refine RW.opd rfl rfl (LO.callN (fr := []) rfl rfl (hnew) fok7 (.cons rfl (.pure rfl) .nil) rfl (by decide)) ?_
  refine RW.opd rfl rfl (LO.assign rfl rfl) ?_
  refine RW.nil ?_
  repeat (refine W.seq ?_)
  refine W.region 12 16 (by decide) rfl rfl ?_
  refine RW.opd rfl rfl (LO.move rfl rfl) ?_
  refine RW.opd rfl rfl (LO.call1 (fr := []) rfl rfl (hpol) fok8 (.own rfl rfl (.cons rfl (.pure rfl) .nil)) rfl rfl rfl (List.cons_ne_nil _ _) (by decide) rfl) ?_
  refine RW.opd rfl rfl (LO.alloc rfl ty27) ?_
  refine RW.opn rfl rfl (LO.store rfl rfl rfl rfl rfl ty27 rfl (by decide) (Sp.lit rfl)) ?_
  refine RW.nil ?_
  repeat (refine W.seq ?_)
  refine W.region 20 23 (by decide) rfl rfl ?_
  refine RW.opd rfl rfl (LO.move rfl rfl) ?_
  refine RW.opd rfl rfl (LO.callP (fr := []) rfl rfl (hrts) fok9 (.own rfl rfl .nil) rfl rfl rfl (rtsC_pure _) (List.cons_ne_nil _ _) (by decide) (by decide) (by decide)) ?_
  refine RW.opd rfl rfl (LO.assign rfl rfl) ?_
  refine RW.nil ?_
  refine W.frz1 (t := 9) rfl rfl (rts_tk rfl) (rtsC_pure _) ?_
  clear hpol hrts hnew
  repeat (refine W.seq ?_)
  refine W.region 27 30 (by decide) rfl rfl ?_
  refine RW.opd rfl rfl (LO.move rfl rfl) ?_
  refine RW.opd rfl rfl (LO.len_isl rfl rfl rfl ty29) ?_
  refine RW.opd rfl rfl (LO.eql rfl rfl rfl) ?_
  refine RW.nil ?_
  repeat (refine W.seq ?_)
  refine W.cond_f rfl (by first | rfl | assumption) ?_
  refine W.skip ?_
  repeat (refine W.seq ?_)
  refine W.region 55 63 (by decide) rfl rfl ?_
  refine RW.opd rfl rfl (LO.load_agg rfl rfl rfl ty27 rfl (Tk.lit rfl)) ?_
  refine RW.opd rfl rfl (LO.move rfl rfl) ?_
  refine RW.opd rfl rfl (LO.call0 (fr := []) rfl rfl (hb1) fok16 (.cons rfl (.pure rfl) (.cons rfl (.pure rfl) .nil)) rfl) ?_
  refine RW.opd rfl rfl (LO.move rfl rfl) ?_
  refine RW.opd rfl rfl (LO.extract rfl rfl rfl) ?_
  refine RW.opd rfl rfl (LO.extract rfl rfl rfl) ?_
  refine RW.opd rfl rfl (LO.assign rfl rfl) ?_
  refine RW.opd rfl rfl (LO.assign rfl rfl) ?_
  refine RW.nil ?_
  repeat (refine W.seq ?_)
  refine W.region 67 79 (by decide) rfl rfl ?_
  refine RW.opd rfl rfl (LO.move rfl rfl) ?_
  refine RW.opd rfl rfl (LO.not rfl rfl) ?_
  refine RW.opd rfl rfl (LO.move rfl rfl) ?_
  refine RW.gd rfl rfl rfl ?_ rfl (LO.move rfl rfl) ?_; (· (first | rfl | assumption))
  refine RW.gd rfl rfl rfl ?_ rfl (LO.lss rfl rfl rfl) ?_; (· (first | rfl | assumption))
  refine RW.opd rfl rfl (LO.pick_f rfl rfl ?_ rfl) ?_; (· (first | rfl | assumption))
  refine RW.opd rfl rfl (LO.move rfl rfl) ?_
  refine RW.gd rfl rfl rfl ?_ rfl (LO.move rfl rfl) ?_; (· (first | rfl | assumption))
  refine RW.gd rfl rfl rfl ?_ rfl (LO.move rfl rfl) ?_; (· (first | rfl | assumption))
  refine RW.gd rfl rfl rfl ?_ rfl (LO.len_isl rfl rfl rfl ty29) ?_; (· (first | rfl | assumption))
  refine RW.gd rfl rfl rfl ?_ rfl (LO.geq rfl rfl rfl) ?_; (· (first | rfl | assumption))
  refine RW.opd rfl rfl (LO.pick_f rfl rfl ?_ rfl) ?_; (· (first | rfl | assumption))
  refine RW.nil ?_
  repeat (refine W.seq ?_)
  refine W.cond_f rfl (by first | rfl | assumption) ?_
  refine W.skip ?_
  repeat (refine W.seq ?_)
  refine W.region 88 94 (by decide) rfl rfl ?_
  refine RW.opd rfl rfl (LO.move rfl rfl) ?_
  refine RW.opd rfl rfl (LO.move rfl rfl) ?_
  refine RW.opd rfl rfl (LO.indexAddr_isl rfl rfl rfl rfl rfl ty29 ty43 ?_) ?_; (· (first | omega | decide | assumption | fail | (simp; done) | (simp; omega)))
  refine RW.opd rfl rfl (LO.load_imm_agg rfl rfl ty43 rfl hme) ?_
  refine RW.opd rfl rfl (LO.alloc rfl ty43) ?_
  refine RW.opn rfl rfl (LO.store rfl rfl rfl rfl rfl ty43 rfl (by decide) (Sp.lit rfl)) ?_
  refine RW.nil ?_
  repeat (refine W.seq ?_)
  refine W.region 98 103 (by decide) rfl rfl ?_
  refine RW.opd rfl rfl (LO.move rfl rfl) ?_
  refine RW.opd rfl rfl (LO.move rfl rfl) ?_
  refine RW.opd rfl rfl (LO.len_isl rfl rfl rfl ty29) ?_
  refine RW.opd rfl rfl (LO.call0 (fr := []) rfl rfl (hmod) fok17 (.cons rfl (.pure rfl) (.cons rfl (.pure rfl) .nil)) rfl) ?_
  refine RW.opd rfl rfl (LO.assign rfl rfl) ?_
  refine RW.nil ?_
  have hdT : Tk (rtsC L) (kn * 16) ((L.length - kn) * 16) (rtsC (L.drop kn)) := rts_drop
  have htT : Tk (rtsC L) (0 * 16) ((kn - 0) * 16) (rtsC (L.take kn)) := rts_take (k := kn) (by omega)
  repeat (refine W.seq ?_)
  refine W.regionD 107 116 (by decide) rfl mixed rfl ?_
  refine RW.opd rfl rfl (LO.move rfl rfl) ?_
  refine RW.opd rfl rfl (LO.move rfl rfl) ?_
  refine RW.opd rfl rfl (LO.slice_isl rfl rfl rfl (Bnd.at rfl rfl) Bnd.no (by omega) (by omega) ty29 ty43 hdT) ?_
  refine RW.opd rfl rfl (LO.append_nil rfl rfl (SrcAV.isl rfl rfl (by rw [rtsC_len, hdl])) ty29 ty29 ty43 (by decide) (by omega) (by omega) (by decide)) ?_
  refine RW.opd rfl rfl (LO.move rfl rfl) ?_
  refine RW.opd rfl rfl (LO.move rfl rfl) ?_
  refine RW.opd rfl rfl (LO.slice_isl rfl rfl rfl Bnd.no (Bnd.at rfl rfl) (by omega) (by omega) ty29 ty43 htT) ?_
  refine RW.opd rfl rfl (LO.append rfl rfl (SrcAV.isl rfl rfl (by rw [rtsC_len, htl]; rfl)) rfl (rts_tk hdl) ty29 ty29 ty43 (by decide) (by omega) (by omega) (by decide)) ?_
  refine RW.opd rfl rfl (LO.assign rfl rfl) ?_
  refine RW.nil ⟨by kernel_rfl, ?_⟩
  have hOT : Tk (rtsC (L.drop kn) ++ rtsC (L.take kn)) 0 ((L.length - kn + (kn - 0)) * 16) (rtsC O) := by rw [← hO]; exact rts_tk2 (by rw [hdl, htl]; rfl)
  refine W.frz1 (t := 16) rfl rfl hOT (rtsC_pure _) ?_
  repeat (refine W.seq ?_)
  refine W.region 120 128 (by decide) rfl rfl ?_
  refine RW.opd rfl rfl (LO.load_agg rfl rfl rfl ty27 rfl (Tk.lit rfl)) ?_
  refine RW.opd rfl rfl (LO.move rfl rfl) ?_
  refine RW.opd rfl rfl (LO.call0 (fr := []) rfl rfl (hb2) fok16 (.cons rfl (.pure rfl) (.cons rfl (.pure rfl) .nil)) rfl) ?_
  refine RW.opd rfl rfl (LO.move rfl rfl) ?_
  refine RW.opd rfl rfl (LO.extract rfl rfl rfl) ?_
  refine RW.opd rfl rfl (LO.extract rfl rfl rfl) ?_
  refine RW.opd rfl rfl (LO.assign rfl rfl) ?_
  refine RW.opd rfl rfl (LO.assign rfl rfl) ?_
  refine RW.nil ?_
  repeat (refine W.seq ?_)
  refine W.region 132 140 (by decide) rfl rfl ?_
  refine RW.opd rfl rfl (LO.move rfl rfl) ?_
  refine RW.opd rfl rfl (LO.lss rfl rfl rfl) ?_
  refine RW.opd rfl rfl (LO.move rfl rfl) ?_
  refine RW.gd rfl rfl rfl ?_ rfl (LO.move rfl rfl) ?_; (· (first | rfl | assumption))
  refine RW.gd rfl rfl rfl ?_ rfl (LO.move rfl rfl) ?_; (· (first | rfl | assumption))
  refine RW.gd rfl rfl rfl ?_ rfl (LO.len_isl rfl rfl rfl ty29) ?_; (· (first | rfl | assumption))
  refine RW.gd rfl rfl rfl ?_ rfl (LO.geq rfl rfl rfl) ?_; (· (first | rfl | assumption))
  refine RW.opd rfl rfl (LO.pick_f rfl rfl ?_ rfl) ?_; (· (first | rfl | assumption))
  refine RW.nil ?_
  repeat (refine W.seq ?_)
  refine W.cond_f rfl (by first | rfl | assumption) ?_
  refine W.skip ?_
  repeat (refine W.seq ?_)
  refine W.region 149 150 (by decide) rfl rfl ?_
  refine RW.opd rfl rfl (LO.assign rfl rfl) ?_
  refine RW.nil ?_
  repeat (refine W.seq ?_)
  refine W.region 154 157 (by decide) rfl rfl ?_
  refine RW.opd rfl rfl (LO.move rfl rfl) ?_
  refine RW.opd rfl rfl (LO.len_isl rfl rfl rfl ty29) ?_
  refine RW.opd rfl rfl (LO.move rfl rfl) ?_
  refine RW.nil ?_
  refine W.name 157 (157 + 1) (t := 19) (sz := 16) rfl (by decide) (by decide) ?_
  repeat (refine W.seq ?_)
  refine W.block ?_
  refine W.loop_keep (α := Nat × List Rt) (fun x => L.length - x.1) 3 (fun x => [(8, .own 0 0), (14, .own 1 0), (19, .osl 2 0 x.2.length 16), (93, .base (.int .i64 (x.1 : Int)))]) (fun x => up (up (up mt 0 (some (poC p))) 1 (some (rtC ⟨pf, fr, aa⟩))) 2 (some (rtsC x.2))) (fun x => (x.1 ≤ L.length ∧ x.2.length ≤ x.1) ∧ (∀ r : Rt, r ∈ x.2 → r ∈ L) ∧ (m < x.1 → (⟨pf, fr, aa⟩ : Rt) ∈ x.2)) (0, (([] : List Rt))) [(0, 14), (1, 92), (2, 157)] (.cons (t := 2) rfl (by first | exact .inl rfl | exact .inr ⟨rfl, fun _ h => by cases h⟩ | (exact .inl (by assumption)) | exact .inl rfl | exact .inl (rtsC_pure _)) (.cons (t := 12) rfl (by first | exact .inl rfl | exact .inr ⟨rfl, fun _ h => by cases h⟩ | (exact .inl (by assumption)) | exact .inl rfl | exact .inl (rtsC_pure _)) (.cons (t := 16) rfl (by first | exact .inl rfl | exact .inr ⟨rfl, fun _ h => by cases h⟩ | (exact .inl (by assumption)) | exact .inl rfl | exact .inl (rtsC_pure _)) (.cons (t := 17) rfl (by first | exact .inl rfl | exact .inr ⟨rfl, fun _ h => by cases h⟩ | (exact .inl (by assumption)) | exact .inl rfl | exact .inl (rtsC_pure _)) (.cons (t := 91) rfl (by first | exact .inl rfl | exact .inr ⟨rfl, fun _ h => by cases h⟩ | (exact .inl (by assumption)) | exact .inl rfl | exact .inl (rtsC_pure _)) (.cons (t := 92) rfl (by first | exact .inl rfl | exact .inr ⟨rfl, fun _ h => by cases h⟩ | (exact .inl (by assumption)) | exact .inl rfl | exact .inl (rtsC_pure _)) .nil)))))) (show (0 ≤ L.length ∧ (([] : List Rt)).length ≤ 0) ∧ (∀ r : Rt, r ∈ (([] : List Rt)) → r ∈ L) ∧ (m < 0 → (⟨pf, fr, aa⟩ : Rt) ∈ (([] : List Rt))) from ⟨⟨Nat.zero_le _, Nat.zero_le _⟩, fun r hr => (by cases hr), fun h => absurd h (Nat.not_lt_zero _)⟩) (by decide) ?_ ?_ ?_
  · (repeat' (first | exact LookR.nil | refine LookR.cons ?_ ?_)) <;> first | exact .inl ⟨rfl, rfl⟩ | exact .inr ⟨rfl, fun _ h => by cases h⟩ | exact .inl ⟨rfl, by first | rfl | assumption | exact rfl | exact (rtsC_pure _)⟩
  · (repeat' (first | exact all_mt | refine all_up ?_ ?_)) <;> first | exact ⟨rfl, _, rfl, .inr ⟨rfl, rfl⟩⟩ | exact ⟨rfl, _, rfl, .inl rfl⟩ | exact ⟨rfl, _, rfl, .inr ⟨rfl, by first | rfl | assumption | exact rfl | exact (rtsC_pure _)⟩⟩
  rintro ⟨n, F⟩ hIA ihA
  try (dsimp only at hIA)
  try dsimp only [baseT, List.cons_append, List.nil_append]
  obtain ⟨⟨hn, hFn⟩, hFL, hFm⟩ := hIA
  by_cases hc : n < L.length
  rotate_left
  · have g1 : decide ((n : Int) < (L.length : Int)) = false := decide_eq_false (by omega)
    have hbF := hFm (by omega)
    have hF0 : F.length ≠ 0 := fun e => by rw [List.eq_nil_of_length_eq_zero e] at hbF; cases hbF
    have hb3 := best_any p F (by omega) (by omega) fun r hr => hLo r (hFL r hr)
    have hw := best_idx p hF0
    have hwf : (gR F (bestK p F F.length)).from_ = fr := by
      have hin : bestR p L ∈ F := by rw [hBR, hbmE]; exact hbF
      have := best_same (p := p) (l := L) (m := F) hin (hFL _ (best_mem p hF0))
      rw [hBR, hbmE] at this
      exact this
    obtain ⟨w, hwE⟩ : ∃ w, bestK p F F.length = w := ⟨_, rfl⟩
    rw [hwE] at hw hwf
    rw [hwE, show decide (F.length ≠ 0) = true from decide_eq_true hF0] at hb3
    have k5 : decide ((w : Int) < 0) = false := decide_eq_false (by omega)
    have k6 : decide ((w : Int) ≥ (F.length : Int)) = false := decide_eq_false (by omega)
    have hwc := rts_from hw
    rw [hwf] at hwc
    repeat (refine W.seq ?_)
    refine W.region 161 162 (by decide) rfl rfl ?_
    refine RW.opd rfl rfl (LO.lss rfl rfl rfl) ?_
    refine RW.nil ?_
    repeat (refine W.seq ?_)
    refine W.cond_f rfl (by first | rfl | assumption) ?_
    refine W.exit ?_
    refine W.frz1 (t := 19) rfl rfl (rts_tk rfl) (rtsC_pure _) ?_
    repeat (refine W.seq ?_)
    refine W.region 206 214 (by decide) rfl rfl ?_
    refine RW.opd rfl rfl (LO.load_agg rfl rfl rfl ty27 rfl (Tk.lit rfl)) ?_
    refine RW.opd rfl rfl (LO.move rfl rfl) ?_
    refine RW.opd rfl rfl (LO.call0 (fr := []) rfl rfl (hb3) fok16 (.cons rfl (.pure rfl) (.cons rfl (.pure rfl) .nil)) rfl) ?_
    refine RW.opd rfl rfl (LO.move rfl rfl) ?_
    refine RW.opd rfl rfl (LO.extract rfl rfl rfl) ?_
    refine RW.opd rfl rfl (LO.extract rfl rfl rfl) ?_
    refine RW.opd rfl rfl (LO.assign rfl rfl) ?_
    refine RW.opd rfl rfl (LO.assign rfl rfl) ?_
    refine RW.nil ?_
    repeat (refine W.seq ?_)
    refine W.region 218 226 (by decide) rfl rfl ?_
    refine RW.opd rfl rfl (LO.move rfl rfl) ?_
    refine RW.opd rfl rfl (LO.lss rfl rfl rfl) ?_
    refine RW.opd rfl rfl (LO.move rfl rfl) ?_
    refine RW.gd rfl rfl rfl ?_ rfl (LO.move rfl rfl) ?_; (· (first | rfl | assumption))
    refine RW.gd rfl rfl rfl ?_ rfl (LO.move rfl rfl) ?_; (· (first | rfl | assumption))
    refine RW.gd rfl rfl rfl ?_ rfl (LO.len_isl rfl rfl rfl ty29) ?_; (· (first | rfl | assumption))
    refine RW.gd rfl rfl rfl ?_ rfl (LO.geq rfl rfl rfl) ?_; (· (first | rfl | assumption))
    refine RW.opd rfl rfl (LO.pick_f rfl rfl ?_ rfl) ?_; (· (first | rfl | assumption))
    refine RW.nil ?_
    repeat (refine W.seq ?_)
    refine W.cond_f rfl (by first | rfl | assumption) ?_
    refine W.skip ?_
    repeat (refine W.seq ?_)
    refine W.regionD 235 257 (by decide) rfl mixed rfl ?_
    refine RW.opd rfl rfl (LO.move rfl rfl) ?_
    refine RW.opd rfl rfl (LO.move rfl rfl) ?_
    refine RW.opd rfl rfl (LO.indexAddr_isl rfl rfl rfl rfl rfl ty29 ty43 ?_) ?_; (· (first | omega | decide | assumption | fail | (simp; done) | (simp; omega)))
    refine RW.opd rfl rfl (LO.fieldAddr_imm rfl rfl ty43 rfl (by decide)) ?_
    refine RW.opd rfl rfl (LO.load_imm rfl rfl hof ty3 rfl) ?_
    refine RW.opd rfl rfl (LO.fieldAddr rfl rfl ty43 rfl (by decide)) ?_
    refine RW.opd rfl rfl (LO.load rfl rfl rfl rfl ty3 rfl) ?_
    refine RW.opd rfl rfl (LO.eql rfl rfl rfl) ?_
    refine RW.opd rfl rfl (LO.move rfl rfl) ?_
    refine RW.gd rfl rfl rfl ?_ rfl (LO.move rfl rfl) ?_; (· (first | rfl | assumption))
    refine RW.gd rfl rfl rfl ?_ rfl (LO.move rfl rfl) ?_; (· (first | rfl | assumption))
    refine RW.gd rfl rfl rfl ?_ rfl (LO.indexAddr_isl rfl rfl rfl rfl rfl ty29 ty43 ?_) ?_; (· (first | rfl | assumption)); (· (first | omega | decide | assumption | fail | (simp; done) | (simp; omega)))
    refine RW.gd rfl rfl rfl ?_ rfl (LO.fieldAddr_imm rfl rfl ty43 rfl (by decide)) ?_; (· (first | rfl | assumption))
    refine RW.gd rfl rfl rfl ?_ rfl (LO.load_imm rfl rfl hwc ty3 rfl) ?_; (· (first | rfl | assumption))
    refine RW.gd rfl rfl rfl ?_ rfl (LO.fieldAddr rfl rfl ty43 rfl (by decide)) ?_; (· (first | rfl | assumption))
    refine RW.gd rfl rfl rfl ?_ rfl (LO.load rfl rfl rfl rfl ty3 rfl) ?_; (· (first | rfl | assumption))
    refine RW.gd rfl rfl rfl ?_ rfl (LO.eql rfl rfl rfl) ?_; (· (first | rfl | assumption))
    refine RW.opd rfl rfl (LO.pick_t rfl rfl ?_ rfl) ?_; (· (first | rfl | assumption))
    refine RW.opd rfl rfl (LO.move rfl rfl) ?_
    refine RW.gd rfl rfl rfl ?_ rfl (LO.call0 (fr := []) rfl rfl (haw) fok15 .nil rfl) ?_; (· (first | rfl | assumption))
    refine RW.opd rfl rfl (LO.pick_t rfl rfl ?_ rfl) ?_; (· (first | rfl | assumption))
    refine RW.opd rfl rfl (LO.assign rfl rfl) ?_
    refine RW.nil ⟨by kernel_rfl, ?_⟩
    repeat (refine W.seq ?_)
    refine W.ret ⟨.inl rfl, _, mt, RVs.cons (RV.tmp rfl) (RVs.nil), all_mt, ?_⟩
    exact ⟨rfl, rfl⟩
  have g1 : decide ((n : Int) < (L.length : Int)) = true := decide_eq_true (by omega)
  have hnn : (n : Int) + 1 = ((n + 1 : Nat) : Int) := by omega
  have hx := rts_at hc
  rw [Nat.zero_add] at hx
  have hxm := List.getElem_mem hc
  have hxb : n = m → L[n] = (⟨pf, fr, aa⟩ : Rt) := fun e => by subst e; rw [← gR_at hc]; exact hbmE
  obtain ⟨x, hxe⟩ : ∃ x, L[n] = x := ⟨_, rfl⟩
  rw [hxe] at hx hxm hxb
  obtain ⟨B, hB⟩ : ∃ B, (bitV .and .i64 (drop.fdiv (2 ^ (min (n : Int).toNat IntKind.i64.bits))) 1 == 0) = B := ⟨_, rfl⟩
  have hcase : (((n : Int) == (m : Int)) = true) ∨ (((n : Int) == (m : Int)) = false ∧ B = true) ∨ (((n : Int) == (m : Int)) = false ∧ B = false ∧ n ≠ m) := by
    by_cases c : n = m
    · exact .inl (by subst c; simp)
    · have e : ((n : Int) == (m : Int)) = false := by rw [beq_eq_false_iff_ne]; omega
      cases B
      · exact .inr (.inr ⟨e, rfl, c⟩)
      · exact .inr (.inl ⟨e, rfl⟩)
  have hap : rtsC F ++ rtC x = rtsC (F ++ [x]) := by rw [rtsC_app, rtsC_one]
  have hl1 : F.length + 1 = (F ++ [x]).length := by simp
  obtain ⟨pf2, fr2, aa2⟩ := x
  rw [rt_lit] at hx hap
  have hFL2 : ∀ r : Rt, r ∈ F ++ [⟨pf2, fr2, aa2⟩] → r ∈ L := fun r hr => by
    rcases List.mem_append.1 hr with h | h
    · exact hFL r h
    · rw [List.mem_singleton] at h; subst h; exact hxm
  have hFm2 : m < n + 1 → (⟨pf, fr, aa⟩ : Rt) ∈ F ++ [⟨pf2, fr2, aa2⟩] := fun h => by
    by_cases c : n = m
    · rw [hxb c]; simp
    · exact List.mem_append_left _ (hFm (by omega))
  repeat (refine W.seq ?_)
  refine W.region 161 162 (by decide) rfl rfl ?_
  refine RW.opd rfl rfl (LO.lss rfl rfl rfl) ?_
  refine RW.nil ?_
  repeat (refine W.seq ?_)
  refine W.cond_t rfl (by first | rfl | assumption) ?_
  refine W.skip ?_
  repeat (refine W.seq ?_)
  refine W.block ?_
  repeat (refine W.seq ?_)
  refine W.region 166 172 (by decide) rfl rfl ?_
  refine RW.opd rfl rfl (LO.move rfl rfl) ?_
  refine RW.opd rfl rfl (LO.indexAddr_isl rfl rfl rfl rfl rfl ty29 ty43 ?_) ?_; (· (first | omega | decide | assumption | fail | (simp; done) | (simp; omega)))
  refine RW.opd rfl rfl (LO.load_imm_agg rfl rfl ty43 rfl hx) ?_
  refine RW.opd rfl rfl (LO.alloc rfl ty43) ?_
  refine RW.opd rfl rfl (LO.assign rfl rfl) ?_
  refine RW.opn rfl rfl (LO.store rfl rfl rfl rfl rfl ty43 rfl (by decide) (Sp.lit rfl)) ?_
  refine RW.nil ?_
  rcases hcase with c1 | ⟨c1, c2⟩ | ⟨c1, c2, c3⟩
  ·
    repeat (refine W.seq ?_)
    refine W.region 176 187 (by decide) rfl rfl ?_
    refine RW.opd rfl rfl (LO.move rfl rfl) ?_
    refine RW.opd rfl rfl (LO.move rfl rfl) ?_
    refine RW.opd rfl rfl (LO.eql rfl rfl rfl) ?_
    refine RW.opd rfl rfl (LO.move rfl rfl) ?_
    refine RW.sd rfl rfl rfl ?_ rfl ?_; (· (first | rfl | assumption))
    refine RW.sd rfl rfl rfl ?_ rfl ?_; (· (first | rfl | assumption))
    refine RW.sd rfl rfl rfl ?_ rfl ?_; (· (first | rfl | assumption))
    refine RW.sd rfl rfl rfl ?_ rfl ?_; (· (first | rfl | assumption))
    refine RW.sd rfl rfl rfl ?_ rfl ?_; (· (first | rfl | assumption))
    refine RW.sd rfl rfl rfl ?_ rfl ?_; (· (first | rfl | assumption))
    refine RW.opd rfl rfl (LO.pick_t rfl rfl ?_ rfl) ?_; (· (first | rfl | assumption))
    refine RW.nil ?_
    repeat (refine W.seq ?_)
    refine W.cond_t rfl (by first | rfl | assumption) ?_
    repeat (refine W.seq ?_)
    refine W.region 191 196 (by decide) rfl rfl ?_
    refine RW.opd rfl rfl (LO.move rfl rfl) ?_
    refine RW.opd rfl rfl (LO.load_agg rfl rfl rfl ty43 rfl (Tk.lit rfl)) ?_
    refine RW.opd rfl rfl (LO.buildSlice rfl ty29 ty43 (by decide) (by decide) (.cons rfl rfl rfl rfl (Sp.lit rfl) .nil)) ?_
    refine RW.opd rfl rfl (LO.append rfl rfl (SrcAV.own rfl rfl (Tk.lit rfl)) rfl (rts_tk rfl) ty29 ty29 ty43 (by decide) (by omega) (by omega) (by decide)) ?_
    refine RW.opd rfl rfl (LO.assign rfl rfl) ?_
    refine RW.nil ?_
    rw [hap, hl1]
    repeat (refine W.seq ?_)
    refine W.region 200 202 (by decide) rfl rfl ?_
    refine RW.opd rfl rfl (LO.add_in rfl rfl rfl ?_) ?_; (· (first | exact IntWalk.i64_in _ (by omega) | assumption))
    refine RW.opd rfl rfl (LO.move rfl rfl) ?_
    refine RW.nil ?_
    rw [hnn]
    refine WL.renameL [(0, 0), (1, 1), (2, 194)] 3 (by decide) ?_ ?_ (ihA ((n + 1), (F ++ [(⟨pf2, fr2, aa2⟩ : Rt)])) (show L.length - (n + 1) < L.length - n from by omega) (show ((n + 1) ≤ L.length ∧ (F ++ [(⟨pf2, fr2, aa2⟩ : Rt)]).length ≤ (n + 1)) ∧ (∀ r : Rt, r ∈ (F ++ [(⟨pf2, fr2, aa2⟩ : Rt)]) → r ∈ L) ∧ (m < (n + 1) → (⟨pf, fr, aa⟩ : Rt) ∈ (F ++ [(⟨pf2, fr2, aa2⟩ : Rt)])) from ⟨⟨by omega, by rw [← hl1]; omega⟩, hFL2, hFm2⟩))
    · (repeat' (first | exact LookR.nil | refine LookR.cons ?_ ?_)) <;> first | exact .inl ⟨rfl, rfl⟩ | exact .inr ⟨rfl, fun _ h => by cases h⟩ | exact .inl ⟨rfl, by first | rfl | assumption | exact rfl | exact (rtsC_pure _)⟩
    · (repeat' (first | exact all_mt | refine all_up ?_ ?_)) <;> first | exact ⟨rfl, _, rfl, .inr ⟨rfl, rfl⟩⟩ | exact ⟨rfl, _, rfl, .inl rfl⟩ | exact ⟨rfl, _, rfl, .inr ⟨rfl, by first | rfl | assumption | exact rfl | exact (rtsC_pure _)⟩⟩
  ·
    subst c2
    repeat (refine W.seq ?_)
    refine W.region 176 187 (by decide) rfl rfl ?_
    refine RW.opd rfl rfl (LO.move rfl rfl) ?_
    refine RW.opd rfl rfl (LO.move rfl rfl) ?_
    refine RW.opd rfl rfl (LO.eql rfl rfl rfl) ?_
    refine RW.opd rfl rfl (LO.move rfl rfl) ?_
    refine RW.gd rfl rfl rfl ?_ rfl (LO.move rfl rfl) ?_; (· (first | rfl | assumption))
    refine RW.gd rfl rfl rfl ?_ rfl (LO.move rfl rfl) ?_; (· (first | rfl | assumption))
    refine RW.gd rfl rfl rfl ?_ rfl (LO.conv_in rfl rfl ty3 ty53 ?_) ?_; (· (first | rfl | assumption)); (· (first | exact IntWalk.u64_in _ (by omega) | assumption))
    refine RW.gd rfl rfl rfl ?_ rfl (LO.shr rfl rfl rfl ?_) ?_; (· (first | rfl | assumption)); (· (first | omega | decide | assumption | fail | (simp; done) | (simp; omega)))
    refine RW.gd rfl rfl rfl ?_ rfl (LO.and rfl rfl rfl) ?_; (· (first | rfl | assumption))
    refine RW.gd rfl rfl rfl ?_ rfl (LO.eql rfl rfl rfl) ?_; (· (first | rfl | assumption))
    refine RW.opd rfl rfl (LO.pick_f rfl rfl ?_ rfl) ?_; (· (first | rfl | assumption))
    refine RW.nil ?_
    repeat (refine W.seq ?_)
    refine W.cond_t rfl (by first | rfl | assumption) ?_
    repeat (refine W.seq ?_)
    refine W.region 191 196 (by decide) rfl rfl ?_
    refine RW.opd rfl rfl (LO.move rfl rfl) ?_
    refine RW.opd rfl rfl (LO.load_agg rfl rfl rfl ty43 rfl (Tk.lit rfl)) ?_
    refine RW.opd rfl rfl (LO.buildSlice rfl ty29 ty43 (by decide) (by decide) (.cons rfl rfl rfl rfl (Sp.lit rfl) .nil)) ?_
    refine RW.opd rfl rfl (LO.append rfl rfl (SrcAV.own rfl rfl (Tk.lit rfl)) rfl (rts_tk rfl) ty29 ty29 ty43 (by decide) (by omega) (by omega) (by decide)) ?_
    refine RW.opd rfl rfl (LO.assign rfl rfl) ?_
    refine RW.nil ?_
    rw [hap, hl1]
    repeat (refine W.seq ?_)
    refine W.region 200 202 (by decide) rfl rfl ?_
    refine RW.opd rfl rfl (LO.add_in rfl rfl rfl ?_) ?_; (· (first | exact IntWalk.i64_in _ (by omega) | assumption))
    refine RW.opd rfl rfl (LO.move rfl rfl) ?_
    refine RW.nil ?_
    rw [hnn]
    refine WL.renameL [(0, 0), (1, 1), (2, 194)] 3 (by decide) ?_ ?_ (ihA ((n + 1), (F ++ [(⟨pf2, fr2, aa2⟩ : Rt)])) (show L.length - (n + 1) < L.length - n from by omega) (show ((n + 1) ≤ L.length ∧ (F ++ [(⟨pf2, fr2, aa2⟩ : Rt)]).length ≤ (n + 1)) ∧ (∀ r : Rt, r ∈ (F ++ [(⟨pf2, fr2, aa2⟩ : Rt)]) → r ∈ L) ∧ (m < (n + 1) → (⟨pf, fr, aa⟩ : Rt) ∈ (F ++ [(⟨pf2, fr2, aa2⟩ : Rt)])) from ⟨⟨by omega, by rw [← hl1]; omega⟩, hFL2, hFm2⟩))
    · (repeat' (first | exact LookR.nil | refine LookR.cons ?_ ?_)) <;> first | exact .inl ⟨rfl, rfl⟩ | exact .inr ⟨rfl, fun _ h => by cases h⟩ | exact .inl ⟨rfl, by first | rfl | assumption | exact rfl | exact (rtsC_pure _)⟩
    · (repeat' (first | exact all_mt | refine all_up ?_ ?_)) <;> first | exact ⟨rfl, _, rfl, .inr ⟨rfl, rfl⟩⟩ | exact ⟨rfl, _, rfl, .inl rfl⟩ | exact ⟨rfl, _, rfl, .inr ⟨rfl, by first | rfl | assumption | exact rfl | exact (rtsC_pure _)⟩⟩
  ·
    subst c2
    repeat (refine W.seq ?_)
    refine W.region 176 187 (by decide) rfl rfl ?_
    refine RW.opd rfl rfl (LO.move rfl rfl) ?_
    refine RW.opd rfl rfl (LO.move rfl rfl) ?_
    refine RW.opd rfl rfl (LO.eql rfl rfl rfl) ?_
    refine RW.opd rfl rfl (LO.move rfl rfl) ?_
    refine RW.gd rfl rfl rfl ?_ rfl (LO.move rfl rfl) ?_; (· (first | rfl | assumption))
    refine RW.gd rfl rfl rfl ?_ rfl (LO.move rfl rfl) ?_; (· (first | rfl | assumption))
    refine RW.gd rfl rfl rfl ?_ rfl (LO.conv_in rfl rfl ty3 ty53 ?_) ?_; (· (first | rfl | assumption)); (· (first | exact IntWalk.u64_in _ (by omega) | assumption))
    refine RW.gd rfl rfl rfl ?_ rfl (LO.shr rfl rfl rfl ?_) ?_; (· (first | rfl | assumption)); (· (first | omega | decide | assumption | fail | (simp; done) | (simp; omega)))
    refine RW.gd rfl rfl rfl ?_ rfl (LO.and rfl rfl rfl) ?_; (· (first | rfl | assumption))
    refine RW.gd rfl rfl rfl ?_ rfl (LO.eql rfl rfl rfl) ?_; (· (first | rfl | assumption))
    refine RW.opd rfl rfl (LO.pick_f rfl rfl ?_ rfl) ?_; (· (first | rfl | assumption))
    refine RW.nil ?_
    repeat (refine W.seq ?_)
    refine W.cond_f rfl (by first | rfl | assumption) ?_
    refine W.skip ?_
    repeat (refine W.seq ?_)
    refine W.region 200 202 (by decide) rfl rfl ?_
    refine RW.opd rfl rfl (LO.add_in rfl rfl rfl ?_) ?_; (· (first | exact IntWalk.i64_in _ (by omega) | assumption))
    refine RW.opd rfl rfl (LO.move rfl rfl) ?_
    refine RW.nil ?_
    rw [hnn]
    refine WL.renameL [(0, 0), (1, 1), (2, 2)] 3 (by decide) ?_ ?_ (ihA ((n + 1), F) (show L.length - (n + 1) < L.length - n from by omega) (show ((n + 1) ≤ L.length ∧ F.length ≤ (n + 1)) ∧ (∀ r : Rt, r ∈ F → r ∈ L) ∧ (m < (n + 1) → (⟨pf, fr, aa⟩ : Rt) ∈ F) from ⟨⟨by omega, by omega⟩, hFL, fun h => hFm (by omega)⟩))
    · (repeat' (first | exact LookR.nil | refine LookR.cons ?_ ?_)) <;> first | exact .inl ⟨rfl, rfl⟩ | exact .inr ⟨rfl, fun _ h => by cases h⟩ | exact .inl ⟨rfl, by first | rfl | assumption | exact rfl | exact (rtsC_pure _)⟩
    · (repeat' (first | exact all_mt | refine all_up ?_ ?_)) <;> first | exact ⟨rfl, _, rfl, .inr ⟨rfl, rfl⟩⟩ | exact ⟨rfl, _, rfl, .inl rfl⟩ | exact ⟨rfl, _, rfl, .inr ⟨rfl, by first | rfl | assumption | exact rfl | exact (rtsC_pure _)⟩⟩
end Go.Proofs.Ytgklkocmimjifaa
