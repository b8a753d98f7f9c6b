/-
  The way between two switches: the document's text.
-/
import Derived.Test.YtbjfaepjpmogjaaDoorHa
namespace Go.Proofs.YtbjfaepjpmogjaaDoor
open Go.RowKit

set_option maxHeartbeats 1000000 in
theorem wayX_any (f : Fab) (hf : FabS f) (he : EndsIn f) (frm to h : Int) : AFn Tryd.prog 20 0 [.agg (fabC f), .base (.int .i64 frm), .base (.int .i64 to), .base (.int .i64 h)] mt (wayV (wayF f frm to h)) mt := by
  refine AFn.eq Tryd.func20 rfl rfl (Nat.le_of_ble_eq_true rfl) ?_
  have hds := distancesX_isl f hf
  have hwk := worksX_any f
  have hdd := deadX_any f
  obtain ⟨hsw, h8, h24⟩ := hf
  have hdl := dist_len f to
  have hlt := fun x => dist_lt f to x
  have hge := fun x => dist_ge f to x
  repeat (refine W.seq ?_)
  refine W.region 0 3 (by decide) rfl rfl ?_
  refine RW.opd rfl rfl (LO.box rfl rfl rfl) ?_
  refine RW.opd rfl rfl (LO.assign rfl rfl) ?_
  refine RW.opd rfl rfl (LO.assign rfl rfl) ?_
  refine RW.nil ?_
  cases hda : aliveB f frm with
  | false =>
    have g1 : (!aliveB f frm) = true := by rw [hda]; rfl
    have hv : wayF f frm to h = none := if_neg fun h => by rw [dist_alive2 h] at hda; cases hda
    repeat (refine W.seq ?_)
    refine W.region 7 15 (by decide) rfl rfl ?_
    refine RW.opd rfl rfl (LO.load_agg rfl rfl rfl ty28 rfl (Tk.lit rfl)) ?_
    refine RW.opd rfl rfl (LO.move rfl rfl) ?_
    refine RW.opd rfl rfl (LO.call0 (fr := []) rfl rfl (hdd _) fok39 (.cons rfl (.pure rfl) (.cons rfl (.pure rfl) .nil)) rfl) ?_
    refine RW.opd rfl rfl (LO.move rfl rfl) ?_
    refine RW.sd rfl rfl rfl ?_ rfl ?_; (· (first | rfl | assumption))
    refine RW.sd rfl rfl rfl ?_ rfl ?_; (· (first | rfl | assumption))
    refine RW.sd rfl rfl rfl ?_ rfl ?_; (· (first | rfl | assumption))
    refine RW.opd rfl rfl (LO.pick_t rfl rfl ?_ rfl) ?_; (· (first | rfl | assumption))
    refine RW.nil ?_
    repeat (refine W.seq ?_)
    refine W.cond_t rfl (by first | rfl | assumption) ?_
    repeat (refine W.seq ?_)
    refine W.region 19 21 (by decide) rfl rfl ?_
    refine RW.opd rfl rfl (LO.assign rfl rfl) ?_
    refine RW.opd rfl rfl (LO.assign rfl rfl) ?_
    refine RW.nil ?_
    refine W.name 21 (21 + 1) (t := 8) (sz := 1) rfl (by decide) (by decide) ?_
    refine W.frz1 (t := 8) rfl rfl (Tk.lit rfl) rfl ?_
    repeat (refine W.seq ?_)
    refine W.ret ⟨.inl rfl, _, mt, RVs.cons (RV.tmp rfl) (RVs.cons (RV.tmp rfl) (RVs.nil)), all_mt, ?_⟩
    exact ⟨by rw [hv]; rfl, rfl⟩
  | true =>
    have g1 : (!aliveB f frm) = false := by rw [hda]; rfl
    cases hal : aliveB f to with
    | false =>
      have g2 : (!aliveB f to) = true := by rw [hal]; rfl
      have hv : wayF f frm to h = none := if_neg fun h => by rw [dist_alive h] at hal; cases hal
      repeat (refine W.seq ?_)
      refine W.region 7 15 (by decide) rfl rfl ?_
      refine RW.opd rfl rfl (LO.load_agg rfl rfl rfl ty28 rfl (Tk.lit rfl)) ?_
      refine RW.opd rfl rfl (LO.move rfl rfl) ?_
      refine RW.opd rfl rfl (LO.call0 (fr := []) rfl rfl (hdd _) fok39 (.cons rfl (.pure rfl) (.cons rfl (.pure rfl) .nil)) rfl) ?_
      refine RW.opd rfl rfl (LO.move rfl rfl) ?_
      refine RW.gd rfl rfl rfl ?_ rfl (LO.load_agg rfl rfl rfl ty28 rfl (Tk.lit rfl)) ?_; (· (first | rfl | assumption))
      refine RW.gd rfl rfl rfl ?_ rfl (LO.move rfl rfl) ?_; (· (first | rfl | assumption))
      refine RW.gd rfl rfl rfl ?_ rfl (LO.call0 (fr := []) rfl rfl (hdd _) fok39 (.cons rfl (.pure rfl) (.cons rfl (.pure rfl) .nil)) rfl) ?_; (· (first | rfl | assumption))
      refine RW.opd rfl rfl (LO.pick_f rfl rfl ?_ rfl) ?_; (· (first | rfl | assumption))
      refine RW.nil ?_
      repeat (refine W.seq ?_)
      refine W.cond_t rfl (by first | rfl | assumption) ?_
      repeat (refine W.seq ?_)
      refine W.region 19 21 (by decide) rfl rfl ?_
      refine RW.opd rfl rfl (LO.assign rfl rfl) ?_
      refine RW.opd rfl rfl (LO.assign rfl rfl) ?_
      refine RW.nil ?_
      refine W.name 21 (21 + 1) (t := 8) (sz := 1) rfl (by decide) (by decide) ?_
      refine W.frz1 (t := 8) rfl rfl (Tk.lit rfl) rfl ?_
      repeat (refine W.seq ?_)
      refine W.ret ⟨.inl rfl, _, mt, RVs.cons (RV.tmp rfl) (RVs.cons (RV.tmp rfl) (RVs.nil)), all_mt, ?_⟩
      exact ⟨by rw [hv]; rfl, rfl⟩
    | true =>
      have g2 : (!aliveB f to) = false := by rw [hal]; rfl
      obtain ⟨r0, r1⟩ := aliveB_lt hda
      repeat (refine W.seq ?_)
      refine W.region 7 15 (by decide) rfl rfl ?_
      refine RW.opd rfl rfl (LO.load_agg rfl rfl rfl ty28 rfl (Tk.lit rfl)) ?_
      refine RW.opd rfl rfl (LO.move rfl rfl) ?_
      refine RW.opd rfl rfl (LO.call0 (fr := []) rfl rfl (hdd _) fok39 (.cons rfl (.pure rfl) (.cons rfl (.pure rfl) .nil)) rfl) ?_
      refine RW.opd rfl rfl (LO.move rfl rfl) ?_
      refine RW.gd rfl rfl rfl ?_ rfl (LO.load_agg rfl rfl rfl ty28 rfl (Tk.lit rfl)) ?_; (· (first | rfl | assumption))
      refine RW.gd rfl rfl rfl ?_ rfl (LO.move rfl rfl) ?_; (· (first | rfl | assumption))
      refine RW.gd rfl rfl rfl ?_ rfl (LO.call0 (fr := []) rfl rfl (hdd _) fok39 (.cons rfl (.pure rfl) (.cons rfl (.pure rfl) .nil)) rfl) ?_; (· (first | rfl | assumption))
      refine RW.opd rfl rfl (LO.pick_f rfl rfl ?_ rfl) ?_; (· (first | rfl | assumption))
      refine RW.nil ?_
      repeat (refine W.seq ?_)
      refine W.cond_f rfl (by first | rfl | assumption) ?_
      refine W.skip ?_
      repeat (refine W.seq ?_)
      refine W.region 25 29 (by decide) rfl rfl ?_
      refine RW.opd rfl rfl (LO.load_agg rfl rfl rfl ty28 rfl (Tk.lit rfl)) ?_
      refine RW.opd rfl rfl (LO.move rfl rfl) ?_
      refine RW.opd rfl rfl (LO.call0 (fr := []) rfl rfl (hds _) fok40 (.cons rfl (.pure rfl) (.cons rfl (.pure rfl) .nil)) rfl) ?_
      refine RW.opd rfl rfl (LO.assign rfl rfl) ?_
      refine RW.nil ?_
      repeat (refine W.seq ?_)
      refine W.region 33 34 (by decide) rfl rfl ?_
      refine RW.opd rfl rfl (LO.assign rfl rfl) ?_
      refine RW.nil ?_
      refine W.name 34 (34 + 1) (t := 11) (sz := 1) rfl (by decide) (by decide) ?_
      repeat (refine W.seq ?_)
      refine W.region 38 40 (by decide) rfl rfl ?_
      refine RW.opd rfl rfl (LO.move rfl rfl) ?_
      refine RW.opd rfl rfl (LO.assign rfl rfl) ?_
      refine RW.nil ?_
      repeat (refine W.seq ?_)
      refine W.block ?_
      refine W.rename [(0, 0), (1, 34)] 2 (T' := up (up (up (up (up (up mt 2 (some (.base (.int .i64 to)))) 3 (some (.base (.int .i64 h)))) 4 (some (.own 0 0))) 10 (some (.isl (intsC (dist f to)) f.dead.length))) 11 (some (.osl 1 0 (([] : List Int)).length 1))) 12 (some (.base (.int .i64 frm)))) (H' := up (up mt 0 (some (fabC f))) 1 (some (intsC (([] : List Int))))) (by decide) ?_ ?_ ?_
      · (repeat' (first | exact all_mt | refine all_up ?_ ?_)) <;> first | exact .inl ⟨rfl, rfl⟩ | exact .inr ⟨rfl, fun _ h => by cases h⟩ | exact .inl ⟨rfl, by first | rfl | assumption | exact (intsC_pure _)⟩
      · (repeat' (first | exact all_mt | refine all_up ?_ ?_)) <;> first | exact ⟨rfl, _, rfl, .inr ⟨rfl, rfl⟩⟩ | exact ⟨rfl, _, rfl, .inl rfl⟩ | exact ⟨rfl, _, rfl, .inr ⟨rfl, by first | rfl | assumption | exact (intsC_pure _)⟩⟩
      refine W.loop_ind (α := Int × List Int) (fun x => (gI (dist f to) x.1).toNat) 2 (fun x => up (up (up (up (up (up mt 2 (some (.base (.int .i64 to)))) 3 (some (.base (.int .i64 h)))) 4 (some (.own 0 0))) 10 (some (.isl (intsC (dist f to)) f.dead.length))) 11 (some (.osl 1 0 x.2.length 1))) 12 (some (.base (.int .i64 x.1)))) (fun x => up (up mt 0 (some (fabC f))) 1 (some (intsC x.2))) (fun x => (0 ≤ x.1 ∧ x.1 < f.dead.length) ∧ ((0 ≤ gI (dist f to) x.1 ∧ x.2.length + (gI (dist f to) x.1).toNat ≤ 8 ∧ wayF f frm to h = some (x.2 ++ wayL f (dist f to) h (gI (dist f to) x.1).toNat x.1)) ∨ (¬ 0 ≤ gI (dist f to) x.1 ∧ wayF f frm to h = none))) (frm, (([] : List Int))) (show (0 ≤ frm ∧ frm < f.dead.length) ∧ ((0 ≤ gI (dist f to) frm ∧ (([] : List Int)).length + (gI (dist f to) frm).toNat ≤ 8 ∧ wayF f frm to h = some ((([] : List Int)) ++ wayL f (dist f to) h (gI (dist f to) frm).toNat frm)) ∨ (¬ 0 ≤ gI (dist f to) frm ∧ wayF f frm to h = none)) from ⟨⟨r0, r1⟩, by by_cases hfr : 0 ≤ gI (dist f to) frm; exact .inl ⟨hfr, by have := hlt frm (by omega); simp only [List.length_nil]; omega, if_pos hfr⟩; exact .inr ⟨hfr, if_neg hfr⟩⟩) ?_
      rintro ⟨at_, out⟩ hIA ihA
      try (dsimp only at hIA)
      try dsimp only
      obtain ⟨⟨q0, q1⟩, hor⟩ := hIA
      by_cases eat : at_ = to
      · have g1 : (at_ != to) = false := by simpa using eat
        have hz : gI (dist f to) at_ = 0 := by rw [eat, dist_self hal]
        have hw : wayF f frm to h = some out := by
          rcases hor with ⟨_, _, h3⟩ | ⟨h1, _⟩
          · rw [h3, hz]; show some (out ++ []) = _; rw [List.append_nil]
          · omega
        repeat (refine W.seq ?_)
        refine W.region 44 47 (by decide) rfl rfl ?_
        refine RW.opd rfl rfl (LO.move rfl rfl) ?_
        refine RW.opd rfl rfl (LO.move rfl rfl) ?_
        refine RW.opd rfl rfl (LO.neq rfl rfl rfl) ?_
        refine RW.nil ?_
        repeat (refine W.seq ?_)
        refine W.cond_f rfl (by first | rfl | assumption) ?_
        refine W.exit ?_
        repeat (refine W.seq ?_)
        refine W.region 210 213 (by decide) rfl rfl ?_
        refine RW.opd rfl rfl (LO.move rfl rfl) ?_
        refine RW.opd rfl rfl (LO.assign rfl rfl) ?_
        refine RW.opd rfl rfl (LO.assign rfl rfl) ?_
        refine RW.nil ?_
        refine W.frz1 (t := 8) rfl rfl (ints_tk rfl) (intsC_pure _) ?_
        repeat (refine W.seq ?_)
        refine W.ret ⟨.inl rfl, _, mt, RVs.cons (RV.tmp rfl) (RVs.cons (RV.tmp rfl) (RVs.nil)), all_mt, ?_⟩
        exact ⟨by rw [hw]; rfl, rfl⟩
      · have g1 : (at_ != to) = true := by simpa using eat
        repeat (refine W.seq ?_)
        refine W.region 44 47 (by decide) rfl rfl ?_
        refine RW.opd rfl rfl (LO.move rfl rfl) ?_
        refine RW.opd rfl rfl (LO.move rfl rfl) ?_
        refine RW.opd rfl rfl (LO.neq rfl rfl rfl) ?_
        refine RW.nil ?_
        repeat (refine W.seq ?_)
        refine W.cond_t rfl (by first | rfl | assumption) ?_
        refine W.skip ?_
        repeat (refine W.seq ?_)
        refine W.block ?_
        repeat (refine W.seq ?_)
        refine W.region 51 53 (by decide) rfl rfl ?_
        refine RW.opd rfl rfl (LO.assign rfl rfl) ?_
        refine RW.opd rfl rfl (LO.assign rfl rfl) ?_
        refine RW.nil ?_
        refine W.name 53 (53 + 1) (t := 13) (sz := 1) rfl (by decide) (by decide) ?_
        refine W.name (53 + 1) (53 + 2) (t := 14) (sz := 1) rfl (by decide) (by decide) ?_
        repeat (refine W.seq ?_)
        refine W.region 57 61 (by decide) rfl rfl ?_
        refine RW.opd rfl rfl (LO.fieldAddr rfl rfl ty28 rfl (by decide)) ?_
        refine RW.opd rfl rfl (LO.load rfl rfl rfl rfl ty25 rfl) ?_
        refine RW.opd rfl rfl (LO.len_isl rfl rfl rfl ty25) ?_
        refine RW.opd rfl rfl (LO.move rfl rfl) ?_
        refine RW.nil ?_
        repeat (refine W.seq ?_)
        refine W.block ?_
        refine W.rename [(0, 0), (1, 1), (2, 53), (3, (53 + 1))] 4 (T' := up (up (up (up (up (up (up (up (up (up (up mt 2 (some (.base (.int .i64 to)))) 3 (some (.base (.int .i64 h)))) 4 (some (.own 0 0))) 10 (some (.isl (intsC (dist f to)) f.dead.length))) 11 (some (.osl 1 0 out.length 1))) 12 (some (.base (.int .i64 at_)))) 13 (some (.osl 2 0 (([] : List (Int × Int))).length 1))) 14 (some (.osl 3 0 (([] : List (Int × Int))).length 1))) 35 (some (.isl (lnksC f.links) f.links.length))) 36 (some (.base (.int .i64 (f.links.length : Int))))) 37 (some (.base (.int .i64 (0 : Int))))) (H' := up (up (up (up mt 0 (some (fabC f))) 1 (some (intsC out))) 2 (some (intsC (fstL (([] : List (Int × Int))))))) 3 (some (intsC (sndL (([] : List (Int × Int))))))) (by decide) ?_ ?_ ?_
        · (repeat' (first | exact all_mt | refine all_up ?_ ?_)) <;> first | exact .inl ⟨rfl, rfl⟩ | exact .inr ⟨rfl, fun _ h => by cases h⟩ | exact .inl ⟨rfl, by first | rfl | assumption | exact (intsC_pure _)⟩
        · (repeat' (first | exact all_mt | refine all_up ?_ ?_)) <;> first | exact ⟨rfl, _, rfl, .inr ⟨rfl, rfl⟩⟩ | exact ⟨rfl, _, rfl, .inl rfl⟩ | exact ⟨rfl, _, rfl, .inr ⟨rfl, by first | rfl | assumption | exact (intsC_pure _)⟩⟩
        refine W.loop_ind (α := Nat × List (Int × Int)) (fun x => f.links.length - x.1) 4 (fun x => up (up (up (up (up (up (up (up (up (up (up mt 2 (some (.base (.int .i64 to)))) 3 (some (.base (.int .i64 h)))) 4 (some (.own 0 0))) 10 (some (.isl (intsC (dist f to)) f.dead.length))) 11 (some (.osl 1 0 out.length 1))) 12 (some (.base (.int .i64 at_)))) 13 (some (.osl 2 0 x.2.length 1))) 14 (some (.osl 3 0 x.2.length 1))) 35 (some (.isl (lnksC f.links) f.links.length))) 36 (some (.base (.int .i64 (f.links.length : Int))))) 37 (some (.base (.int .i64 (x.1 : Int))))) (fun x => up (up (up (up mt 0 (some (fabC f))) 1 (some (intsC out))) 2 (some (intsC (fstL x.2)))) 3 (some (intsC (sndL x.2)))) (fun x => x.1 ≤ f.links.length ∧ stepsK f (dist f to) at_ x.1 = x.2) (0, (([] : List (Int × Int)))) (show 0 ≤ f.links.length ∧ stepsK f (dist f to) at_ 0 = (([] : List (Int × Int))) from ⟨Nat.zero_le _, rfl⟩) ?_
        rintro ⟨i, L⟩ hIB ihB
        try (dsimp only at hIB)
        try dsimp only
        obtain ⟨hi, hL⟩ := hIB
        have hLl : L.length ≤ i := by rw [← hL]; exact stepsK_len _ _ _ _
        have hf1 : (fstL L).length = L.length := by simp [fstL]
        have hf2 : (sndL L).length = L.length := by simp [sndL]
        by_cases hc : i < f.links.length
        · have g2 : decide ((i : Int) < (f.links.length : Int)) = true := decide_eq_true (by omega)
          have hl2 : f.links[i]? = some f.links[i] := by simp [hc]
          have hnx := stepsK_succ f (dist f to) at_ i
          rw [hL] at hnx
          have hEo := fun ho => he.other hl2 (at_ := at_) ho
          repeat (refine W.seq ?_)
          refine W.region 65 66 (by decide) rfl rfl ?_
          refine RW.opd rfl rfl (LO.lss rfl rfl rfl) ?_
          refine RW.nil ?_
          repeat (refine W.seq ?_)
          refine W.cond_t rfl (by first | rfl | assumption) ?_
          refine W.skip ?_
          refine W.seqJ (α := List (Int × Int)) 4 (fun x => up (up (up (up (up (up (up (up (up (up (up mt 2 (some (.base (.int .i64 to)))) 3 (some (.base (.int .i64 h)))) 4 (some (.own 0 0))) 10 (some (.isl (intsC (dist f to)) f.dead.length))) 11 (some (.osl 1 0 out.length 1))) 12 (some (.base (.int .i64 at_)))) 13 (some (.osl 2 0 x.length 1))) 14 (some (.osl 3 0 x.length 1))) 35 (some (.isl (lnksC f.links) f.links.length))) 36 (some (.base (.int .i64 (f.links.length : Int))))) 37 (some (.base (.int .i64 (i : Int))))) (fun x => up (up (up (up mt 0 (some (fabC f))) 1 (some (intsC out))) 2 (some (intsC (fstL x)))) 3 (some (intsC (sndL x)))) (fun x => stepsK f (dist f to) at_ (i + 1) = x) ?_ ?_
          rotate_left
          rintro L2 hID
          try (dsimp only at hID)
          try dsimp only
          rotate_right
          ·
            repeat (refine W.seq ?_)
            refine W.block ?_
            repeat (refine W.seq ?_)
            refine W.region 70 76 (by decide) rfl rfl ?_
            refine RW.opd rfl rfl (LO.move rfl rfl) ?_
            refine RW.opd rfl rfl (LO.indexAddr_isl rfl rfl rfl rfl rfl ty25 ty56 ?_) ?_; (· (first | omega | decide | assumption | fail | (simp; done) | (simp; omega)))
            refine RW.opd rfl rfl (LO.load_imm_agg rfl rfl ty56 rfl (lnksC_tk hc)) ?_
            refine RW.opd rfl rfl (LO.alloc rfl ty56) ?_
            refine RW.opd rfl rfl (LO.assign rfl rfl) ?_
            refine RW.opn rfl rfl (LO.store rfl rfl rfl rfl rfl ty56 rfl (by decide) (Sp.lit rfl)) ?_
            refine RW.nil ?_
            obtain ⟨lk, hlk⟩ : ∃ lk, f.links[i] = lk := ⟨_, rfl⟩
            rw [hlk] at hl2 hEo ⊢
            have hsb : stepB f (dist f to) at_ i = if (otherF lk at_).2 = true ∧ wkF f i = true ∧ 0 ≤ gI (dist f to) at_ ∧ gI (dist f to) (otherF lk at_).1 = gI (dist f to) at_ - 1 then some ((i : Int), (otherF lk at_).1) else none := by
              unfold stepB; rw [hl2]
            repeat (refine W.seq ?_)
            refine W.region 80 81 (by decide) rfl rfl ?_
            refine RW.opd rfl rfl (LO.assign rfl rfl) ?_
            refine RW.nil ?_
            refine W.seqJ (α := Int × Bool) 4 (fun x => up (up (up (up (up (up (up (up (up (up (up (up (up mt 2 (some (.base (.int .i64 to)))) 3 (some (.base (.int .i64 h)))) 4 (some (.own 0 0))) 10 (some (.isl (intsC (dist f to)) f.dead.length))) 11 (some (.osl 1 0 out.length 1))) 12 (some (.base (.int .i64 at_)))) 13 (some (.osl 2 0 L.length 1))) 14 (some (.osl 3 0 L.length 1))) 15 (some (.base (.int .i64 (i : Int))))) 17 (some (.base (.int .i64 (if x.2 = true then x.1 else -1))))) 35 (some (.isl (lnksC f.links) f.links.length))) 36 (some (.base (.int .i64 (f.links.length : Int))))) 37 (some (.base (.int .i64 (i : Int))))) (fun x => up (up (up (up mt 0 (some (fabC f))) 1 (some (intsC out))) 2 (some (intsC (fstL L)))) 3 (some (intsC (sndL L)))) (fun x => otherF lk at_ = (x.1, x.2)) ?_ ?_
            rotate_left
            rintro ⟨e, ok⟩ hIC
            try (dsimp only at hIC)
            try dsimp only
            rotate_right
            ·
              repeat (refine W.seq ?_)
              refine W.region 85 86 (by decide) rfl rfl ?_
              refine RW.opd rfl rfl (LO.move rfl rfl) ?_
              refine RW.nil ?_
              repeat (refine W.seq ?_)
              refine W.block ?_
              by_cases e1 : at_ = lk.a
              · have k1 : (at_ == lk.a) = true := by simpa using e1
                repeat (refine W.seq ?_)
                refine W.region 90 94 (by decide) rfl rfl ?_
                refine RW.opd rfl rfl (LO.fieldAddr rfl rfl ty56 rfl (by decide)) ?_
                refine RW.opd rfl rfl (LO.load rfl rfl rfl rfl ty3 rfl) ?_
                refine RW.opd rfl rfl (LO.eql rfl rfl rfl) ?_
                refine RW.opd rfl rfl (LO.assign rfl rfl) ?_
                refine RW.nil ?_
                repeat (refine W.seq ?_)
                refine W.cond_t rfl (by first | rfl | assumption) ?_
                repeat (refine W.seq ?_)
                refine W.region 98 101 (by decide) rfl rfl ?_
                refine RW.opd rfl rfl (LO.fieldAddr rfl rfl ty56 rfl (by decide)) ?_
                refine RW.opd rfl rfl (LO.load rfl rfl rfl rfl ty3 rfl) ?_
                refine RW.opd rfl rfl (LO.assign rfl rfl) ?_
                refine RW.nil ?_
                intro yJ KJ hJ
                refine W.rename [(0, 0), (1, 1), (2, 2), (3, 3)] 4 (by decide) ?_ ?_ (hJ (lk.b, true) (show otherF lk at_ = (lk.b, true) from if_pos e1))
                · (repeat' (first | exact all_mt | refine all_up ?_ ?_)) <;> first | exact .inl ⟨rfl, rfl⟩ | exact .inr ⟨rfl, fun _ h => by cases h⟩ | exact .inl ⟨rfl, by first | rfl | assumption | exact (intsC_pure _)⟩
                · (repeat' (first | exact all_mt | refine all_up ?_ ?_)) <;> first | exact ⟨rfl, _, rfl, .inr ⟨rfl, rfl⟩⟩ | exact ⟨rfl, _, rfl, .inl rfl⟩ | exact ⟨rfl, _, rfl, .inr ⟨rfl, by first | rfl | assumption | exact (intsC_pure _)⟩⟩
              · have k1 : (at_ == lk.a) = false := by simpa using e1
                by_cases e2 : at_ = lk.b
                · have k2 : (at_ == lk.b) = true := by simpa using e2
                  repeat (refine W.seq ?_)
                  refine W.region 90 94 (by decide) rfl rfl ?_
                  refine RW.opd rfl rfl (LO.fieldAddr rfl rfl ty56 rfl (by decide)) ?_
                  refine RW.opd rfl rfl (LO.load rfl rfl rfl rfl ty3 rfl) ?_
                  refine RW.opd rfl rfl (LO.eql rfl rfl rfl) ?_
                  refine RW.opd rfl rfl (LO.assign rfl rfl) ?_
                  refine RW.nil ?_
                  repeat (refine W.seq ?_)
                  refine W.cond_f rfl (by first | rfl | assumption) ?_
                  repeat (refine W.seq ?_)
                  refine W.region 105 109 (by decide) rfl rfl ?_
                  refine RW.opd rfl rfl (LO.fieldAddr rfl rfl ty56 rfl (by decide)) ?_
                  refine RW.opd rfl rfl (LO.load rfl rfl rfl rfl ty3 rfl) ?_
                  refine RW.opd rfl rfl (LO.eql rfl rfl rfl) ?_
                  refine RW.opd rfl rfl (LO.assign rfl rfl) ?_
                  refine RW.nil ?_
                  repeat (refine W.seq ?_)
                  refine W.cond_t rfl (by first | rfl | assumption) ?_
                  repeat (refine W.seq ?_)
                  refine W.region 113 116 (by decide) rfl rfl ?_
                  refine RW.opd rfl rfl (LO.fieldAddr rfl rfl ty56 rfl (by decide)) ?_
                  refine RW.opd rfl rfl (LO.load rfl rfl rfl rfl ty3 rfl) ?_
                  refine RW.opd rfl rfl (LO.assign rfl rfl) ?_
                  refine RW.nil ?_
                  intro yJ KJ hJ
                  refine W.rename [(0, 0), (1, 1), (2, 2), (3, 3)] 4 (by decide) ?_ ?_ (hJ (lk.a, true) (show otherF lk at_ = (lk.a, true) from by unfold otherF; rw [if_neg e1, if_pos e2]))
                  · (repeat' (first | exact all_mt | refine all_up ?_ ?_)) <;> first | exact .inl ⟨rfl, rfl⟩ | exact .inr ⟨rfl, fun _ h => by cases h⟩ | exact .inl ⟨rfl, by first | rfl | assumption | exact (intsC_pure _)⟩
                  · (repeat' (first | exact all_mt | refine all_up ?_ ?_)) <;> first | exact ⟨rfl, _, rfl, .inr ⟨rfl, rfl⟩⟩ | exact ⟨rfl, _, rfl, .inl rfl⟩ | exact ⟨rfl, _, rfl, .inr ⟨rfl, by first | rfl | assumption | exact (intsC_pure _)⟩⟩
                · have k2 : (at_ == lk.b) = false := by simpa using e2
                  repeat (refine W.seq ?_)
                  refine W.region 90 94 (by decide) rfl rfl ?_
                  refine RW.opd rfl rfl (LO.fieldAddr rfl rfl ty56 rfl (by decide)) ?_
                  refine RW.opd rfl rfl (LO.load rfl rfl rfl rfl ty3 rfl) ?_
                  refine RW.opd rfl rfl (LO.eql rfl rfl rfl) ?_
                  refine RW.opd rfl rfl (LO.assign rfl rfl) ?_
                  refine RW.nil ?_
                  repeat (refine W.seq ?_)
                  refine W.cond_f rfl (by first | rfl | assumption) ?_
                  repeat (refine W.seq ?_)
                  refine W.region 105 109 (by decide) rfl rfl ?_
                  refine RW.opd rfl rfl (LO.fieldAddr rfl rfl ty56 rfl (by decide)) ?_
                  refine RW.opd rfl rfl (LO.load rfl rfl rfl rfl ty3 rfl) ?_
                  refine RW.opd rfl rfl (LO.eql rfl rfl rfl) ?_
                  refine RW.opd rfl rfl (LO.assign rfl rfl) ?_
                  refine RW.nil ?_
                  repeat (refine W.seq ?_)
                  refine W.cond_f rfl (by first | rfl | assumption) ?_
                  refine W.skip ?_
                  intro yJ KJ hJ
                  refine W.rename [(0, 0), (1, 1), (2, 2), (3, 3)] 4 (by decide) ?_ ?_ (hJ (0, false) (show otherF lk at_ = (0, false) from by unfold otherF; rw [if_neg e1, if_neg e2]))
                  · (repeat' (first | exact all_mt | refine all_up ?_ ?_)) <;> first | exact .inl ⟨rfl, rfl⟩ | exact .inr ⟨rfl, fun _ h => by cases h⟩ | exact .inl ⟨rfl, by first | rfl | assumption | exact (intsC_pure _)⟩
                  · (repeat' (first | exact all_mt | refine all_up ?_ ?_)) <;> first | exact ⟨rfl, _, rfl, .inr ⟨rfl, rfl⟩⟩ | exact ⟨rfl, _, rfl, .inl rfl⟩ | exact ⟨rfl, _, rfl, .inr ⟨rfl, by first | rfl | assumption | exact (intsC_pure _)⟩⟩
            ·
              rw [hIC] at hsb hEo
              dsimp only at hsb hEo
              cases ok with
              | false =>
                rw [if_neg (by simp)] at hsb
                rw [hsb] at hnx
                rw [if_neg (by decide)]
                have k1 : decide ((-1 : Int) ≥ 0) = false := by decide
                repeat (refine W.seq ?_)
                refine W.regionD 120 146 (by decide) rfl mixed rfl ?_
                refine RW.opd rfl rfl (LO.move rfl rfl) ?_
                refine RW.opd rfl rfl (LO.geq rfl rfl rfl) ?_
                refine RW.opd rfl rfl (LO.move rfl rfl) ?_
                refine RW.sd rfl rfl rfl ?_ rfl ?_; (· (first | rfl | assumption))
                refine RW.sd rfl rfl rfl ?_ rfl ?_; (· (first | rfl | assumption))
                refine RW.sd rfl rfl rfl ?_ rfl ?_; (· (first | rfl | assumption))
                refine RW.opd rfl rfl (LO.pick_f rfl rfl ?_ rfl) ?_; (· (first | rfl | assumption))
                refine RW.opd rfl rfl (LO.move rfl rfl) ?_
                refine RW.sd rfl rfl rfl ?_ rfl ?_; (· (first | rfl | assumption))
                refine RW.sd rfl rfl rfl ?_ rfl ?_; (· (first | rfl | assumption))
                refine RW.sd rfl rfl rfl ?_ rfl ?_; (· (first | rfl | assumption))
                refine RW.sd rfl rfl rfl ?_ rfl ?_; (· (first | rfl | assumption))
                refine RW.sd rfl rfl rfl ?_ rfl ?_; (· (first | rfl | assumption))
                refine RW.opd rfl rfl (LO.pick_f rfl rfl ?_ rfl) ?_; (· (first | rfl | assumption))
                refine RW.opd rfl rfl (LO.move rfl rfl) ?_
                refine RW.sd rfl rfl rfl ?_ rfl ?_; (· (first | rfl | assumption))
                refine RW.sd rfl rfl rfl ?_ rfl ?_; (· (first | rfl | assumption))
                refine RW.sd rfl rfl rfl ?_ rfl ?_; (· (first | rfl | assumption))
                refine RW.sd rfl rfl rfl ?_ rfl ?_; (· (first | rfl | assumption))
                refine RW.sd rfl rfl rfl ?_ rfl ?_; (· (first | rfl | assumption))
                refine RW.sd rfl rfl rfl ?_ rfl ?_; (· (first | rfl | assumption))
                refine RW.sd rfl rfl rfl ?_ rfl ?_; (· (first | rfl | assumption))
                refine RW.sd rfl rfl rfl ?_ rfl ?_; (· (first | rfl | assumption))
                refine RW.sd rfl rfl rfl ?_ rfl ?_; (· (first | rfl | assumption))
                refine RW.sd rfl rfl rfl ?_ rfl ?_; (· (first | rfl | assumption))
                refine RW.opd rfl rfl (LO.pick_f rfl rfl ?_ rfl) ?_; (· (first | rfl | assumption))
                refine RW.nil ⟨by kernel_rfl, ?_⟩
                repeat (refine W.seq ?_)
                refine W.cond_f rfl (by first | rfl | assumption) ?_
                refine W.skip ?_
                intro yJ KJ hJ
                refine W.rename [(0, 0), (1, 1), (2, 2), (3, 3)] 4 (by decide) ?_ ?_ (hJ L (show stepsK f (dist f to) at_ (i + 1) = L from by rw [hnx]; exact List.append_nil _))
                · (repeat' (first | exact all_mt | refine all_up ?_ ?_)) <;> first | exact .inl ⟨rfl, rfl⟩ | exact .inr ⟨rfl, fun _ h => by cases h⟩ | exact .inl ⟨rfl, by first | rfl | assumption | exact (intsC_pure _)⟩
                · (repeat' (first | exact all_mt | refine all_up ?_ ?_)) <;> first | exact ⟨rfl, _, rfl, .inr ⟨rfl, rfl⟩⟩ | exact ⟨rfl, _, rfl, .inl rfl⟩ | exact ⟨rfl, _, rfl, .inr ⟨rfl, by first | rfl | assumption | exact (intsC_pure _)⟩⟩
              | true =>
                obtain ⟨x0, x1⟩ := hEo rfl
                rw [if_pos rfl]
                have k1 : decide (e ≥ 0) = true := decide_eq_true (by omega)
                cases hwi : worksB f i with
                | false =>
                  rw [if_neg (by rw [show wkF f i = false from hwi]; simp)] at hsb
                  rw [hsb] at hnx
                  repeat (refine W.seq ?_)
                  refine W.regionD 120 146 (by decide) rfl mixed rfl ?_
                  refine RW.opd rfl rfl (LO.move rfl rfl) ?_
                  refine RW.opd rfl rfl (LO.geq rfl rfl rfl) ?_
                  refine RW.opd rfl rfl (LO.move rfl rfl) ?_
                  refine RW.gd rfl rfl rfl ?_ rfl (LO.load_agg rfl rfl rfl ty28 rfl (Tk.lit rfl)) ?_; (· (first | rfl | assumption))
                  refine RW.gd rfl rfl rfl ?_ rfl (LO.move rfl rfl) ?_; (· (first | rfl | assumption))
                  refine RW.gd rfl rfl rfl ?_ rfl (LO.call0 (fr := []) rfl rfl (hwk _) fok21 (.cons rfl (.pure rfl) (.cons rfl (.pure rfl) .nil)) rfl) ?_; (· (first | rfl | assumption))
                  refine RW.opd rfl rfl (LO.pick_t rfl rfl ?_ rfl) ?_; (· (first | rfl | assumption))
                  refine RW.opd rfl rfl (LO.move rfl rfl) ?_
                  refine RW.sd rfl rfl rfl ?_ rfl ?_; (· (first | rfl | assumption))
                  refine RW.sd rfl rfl rfl ?_ rfl ?_; (· (first | rfl | assumption))
                  refine RW.sd rfl rfl rfl ?_ rfl ?_; (· (first | rfl | assumption))
                  refine RW.sd rfl rfl rfl ?_ rfl ?_; (· (first | rfl | assumption))
                  refine RW.sd rfl rfl rfl ?_ rfl ?_; (· (first | rfl | assumption))
                  refine RW.opd rfl rfl (LO.pick_f rfl rfl ?_ rfl) ?_; (· (first | rfl | assumption))
                  refine RW.opd rfl rfl (LO.move rfl rfl) ?_
                  refine RW.sd rfl rfl rfl ?_ rfl ?_; (· (first | rfl | assumption))
                  refine RW.sd rfl rfl rfl ?_ rfl ?_; (· (first | rfl | assumption))
                  refine RW.sd rfl rfl rfl ?_ rfl ?_; (· (first | rfl | assumption))
                  refine RW.sd rfl rfl rfl ?_ rfl ?_; (· (first | rfl | assumption))
                  refine RW.sd rfl rfl rfl ?_ rfl ?_; (· (first | rfl | assumption))
                  refine RW.sd rfl rfl rfl ?_ rfl ?_; (· (first | rfl | assumption))
                  refine RW.sd rfl rfl rfl ?_ rfl ?_; (· (first | rfl | assumption))
                  refine RW.sd rfl rfl rfl ?_ rfl ?_; (· (first | rfl | assumption))
                  refine RW.sd rfl rfl rfl ?_ rfl ?_; (· (first | rfl | assumption))
                  refine RW.sd rfl rfl rfl ?_ rfl ?_; (· (first | rfl | assumption))
                  refine RW.opd rfl rfl (LO.pick_f rfl rfl ?_ rfl) ?_; (· (first | rfl | assumption))
                  refine RW.nil ⟨by kernel_rfl, ?_⟩
                  repeat (refine W.seq ?_)
                  refine W.cond_f rfl (by first | rfl | assumption) ?_
                  refine W.skip ?_
                  intro yJ KJ hJ
                  refine W.rename [(0, 0), (1, 1), (2, 2), (3, 3)] 4 (by decide) ?_ ?_ (hJ L (show stepsK f (dist f to) at_ (i + 1) = L from by rw [hnx]; exact List.append_nil _))
                  · (repeat' (first | exact all_mt | refine all_up ?_ ?_)) <;> first | exact .inl ⟨rfl, rfl⟩ | exact .inr ⟨rfl, fun _ h => by cases h⟩ | exact .inl ⟨rfl, by first | rfl | assumption | exact (intsC_pure _)⟩
                  · (repeat' (first | exact all_mt | refine all_up ?_ ?_)) <;> first | exact ⟨rfl, _, rfl, .inr ⟨rfl, rfl⟩⟩ | exact ⟨rfl, _, rfl, .inl rfl⟩ | exact ⟨rfl, _, rfl, .inr ⟨rfl, by first | rfl | assumption | exact (intsC_pure _)⟩⟩
                | true =>
                  have hla := hlt at_ (by omega)
                  have hga := hge at_
                  by_cases ea : 0 ≤ gI (dist f to) at_
                  · have k3 : decide (gI (dist f to) at_ ≥ 0) = true := decide_eq_true ea
                    by_cases ee : gI (dist f to) e = gI (dist f to) at_ - 1
                    · have k2 : (gI (dist f to) e == gI (dist f to) at_ - 1) = true := by simpa using ee
                      rw [if_pos ⟨rfl, hwi, ea, ee⟩] at hsb
                      rw [hsb] at hnx
                      repeat (refine W.seq ?_)
                      refine W.regionD 120 146 (by decide) rfl mixed rfl ?_
                      refine RW.opd rfl rfl (LO.move rfl rfl) ?_
                      refine RW.opd rfl rfl (LO.geq rfl rfl rfl) ?_
                      refine RW.opd rfl rfl (LO.move rfl rfl) ?_
                      refine RW.gd rfl rfl rfl ?_ rfl (LO.load_agg rfl rfl rfl ty28 rfl (Tk.lit rfl)) ?_; (· (first | rfl | assumption))
                      refine RW.gd rfl rfl rfl ?_ rfl (LO.move rfl rfl) ?_; (· (first | rfl | assumption))
                      refine RW.gd rfl rfl rfl ?_ rfl (LO.call0 (fr := []) rfl rfl (hwk _) fok21 (.cons rfl (.pure rfl) (.cons rfl (.pure rfl) .nil)) rfl) ?_; (· (first | rfl | assumption))
                      refine RW.opd rfl rfl (LO.pick_t rfl rfl ?_ rfl) ?_; (· (first | rfl | assumption))
                      refine RW.opd rfl rfl (LO.move rfl rfl) ?_
                      refine RW.gd rfl rfl rfl ?_ rfl (LO.move rfl rfl) ?_; (· (first | rfl | assumption))
                      refine RW.gd rfl rfl rfl ?_ rfl (LO.move rfl rfl) ?_; (· (first | rfl | assumption))
                      refine RW.gd rfl rfl rfl ?_ rfl (LO.indexAddr_isl rfl rfl rfl rfl (Int.toNat_of_nonneg q0).symm ty23 ty3 ?_) ?_; (· (first | rfl | assumption)); (· (first | omega | decide | assumption | fail | (simp; done) | (simp; omega)))
                      refine RW.gd rfl rfl rfl ?_ rfl (LO.load_imm rfl rfl (gi_at1 q0 (by omega)) ty3 rfl) ?_; (· (first | rfl | assumption))
                      refine RW.gd rfl rfl rfl ?_ rfl (LO.geq rfl rfl rfl) ?_; (· (first | rfl | assumption))
                      refine RW.opd rfl rfl (LO.pick_t rfl rfl ?_ rfl) ?_; (· (first | rfl | assumption))
                      refine RW.opd rfl rfl (LO.move rfl rfl) ?_
                      refine RW.gd rfl rfl rfl ?_ rfl (LO.move rfl rfl) ?_; (· (first | rfl | assumption))
                      refine RW.gd rfl rfl rfl ?_ rfl (LO.move rfl rfl) ?_; (· (first | rfl | assumption))
                      refine RW.gd rfl rfl rfl ?_ rfl (LO.indexAddr_isl rfl rfl rfl rfl (Int.toNat_of_nonneg x0).symm ty23 ty3 ?_) ?_; (· (first | rfl | assumption)); (· (first | omega | decide | assumption | fail | (simp; done) | (simp; omega)))
                      refine RW.gd rfl rfl rfl ?_ rfl (LO.load_imm rfl rfl (gi_at1 x0 (by omega)) ty3 rfl) ?_; (· (first | rfl | assumption))
                      refine RW.gd rfl rfl rfl ?_ rfl (LO.move rfl rfl) ?_; (· (first | rfl | assumption))
                      refine RW.gd rfl rfl rfl ?_ rfl (LO.move rfl rfl) ?_; (· (first | rfl | assumption))
                      refine RW.gd rfl rfl rfl ?_ rfl (LO.indexAddr_isl rfl rfl rfl rfl (Int.toNat_of_nonneg q0).symm ty23 ty3 ?_) ?_; (· (first | rfl | assumption)); (· (first | omega | decide | assumption | fail | (simp; done) | (simp; omega)))
                      refine RW.gd rfl rfl rfl ?_ rfl (LO.load_imm rfl rfl (gi_at1 q0 (by omega)) ty3 rfl) ?_; (· (first | rfl | assumption))
                      refine RW.gd rfl rfl rfl ?_ rfl (LO.sub_in rfl rfl rfl ?_) ?_; (· (first | rfl | assumption)); (· (first | exact IntWalk.i64_in _ (by omega) | assumption))
                      refine RW.gd rfl rfl rfl ?_ rfl (LO.eql rfl rfl rfl) ?_; (· (first | rfl | assumption))
                      refine RW.opd rfl rfl (LO.pick_t rfl rfl ?_ rfl) ?_; (· (first | rfl | assumption))
                      refine RW.nil ⟨by kernel_rfl, ?_⟩
                      repeat (refine W.seq ?_)
                      refine W.cond_t rfl (by first | rfl | assumption) ?_
                      repeat (refine W.seq ?_)
                      refine W.region 150 160 (by decide) rfl rfl ?_
                      refine RW.opd rfl rfl (LO.move rfl rfl) ?_
                      refine RW.opd rfl rfl (LO.move rfl rfl) ?_
                      refine RW.opd rfl rfl (LO.buildSlice rfl ty23 ty3 (by decide) (by decide) (.cons rfl rfl rfl rfl (Sp.lit rfl) .nil)) ?_
                      refine RW.opd rfl rfl (LO.append rfl rfl (SrcAV.own rfl rfl (Tk.lit rfl)) rfl (ints_tk hf1) ty23 ty23 ty3 (by decide) ?_ ?_ ?_) ?_; (· (first | omega | decide | assumption | fail | (simp; done) | (simp; omega))); (· (first | omega | decide | assumption | fail | (simp; done) | (simp; omega))); (· (first | decide | omega))
                      refine RW.opd rfl rfl (LO.move rfl rfl) ?_
                      refine RW.opd rfl rfl (LO.move rfl rfl) ?_
                      refine RW.opd rfl rfl (LO.buildSlice rfl ty23 ty3 (by decide) (by decide) (.cons rfl rfl rfl rfl (Sp.lit rfl) .nil)) ?_
                      refine RW.opd rfl rfl (LO.append rfl rfl (SrcAV.own rfl rfl (Tk.lit rfl)) rfl (ints_tk hf2) ty23 ty23 ty3 (by decide) ?_ ?_ ?_) ?_; (· (first | omega | decide | assumption | fail | (simp; done) | (simp; omega))); (· (first | omega | decide | assumption | fail | (simp; done) | (simp; omega))); (· (first | decide | omega))
                      refine RW.opd rfl rfl (LO.assign rfl rfl) ?_
                      refine RW.opd rfl rfl (LO.assign rfl rfl) ?_
                      refine RW.nil ?_
                      rw [show intsC (fstL L) ++ [AV.base (.int .i64 (i : Int))] = intsC (fstL (L ++ [((i : Int), e)])) from by simp [intsC, fstL], show intsC (sndL L) ++ [AV.base (.int .i64 e)] = intsC (sndL (L ++ [((i : Int), e)])) from by simp [intsC, sndL], show L.length + 1 = (L ++ [((i : Int), e)]).length from by simp]
                      intro yJ KJ hJ
                      refine W.rename [(0, 0), (1, 1), (2, 153), (3, 157)] 4 (by decide) ?_ ?_ (hJ (L ++ [((i : Int), e)]) (show stepsK f (dist f to) at_ (i + 1) = (L ++ [((i : Int), e)]) from hnx))
                      · (repeat' (first | exact all_mt | refine all_up ?_ ?_)) <;> first | exact .inl ⟨rfl, rfl⟩ | exact .inr ⟨rfl, fun _ h => by cases h⟩ | exact .inl ⟨rfl, by first | rfl | assumption | exact (intsC_pure _)⟩
                      · (repeat' (first | exact all_mt | refine all_up ?_ ?_)) <;> first | exact ⟨rfl, _, rfl, .inr ⟨rfl, rfl⟩⟩ | exact ⟨rfl, _, rfl, .inl rfl⟩ | exact ⟨rfl, _, rfl, .inr ⟨rfl, by first | rfl | assumption | exact (intsC_pure _)⟩⟩
                    · have k2 : (gI (dist f to) e == gI (dist f to) at_ - 1) = false := by simpa using ee
                      rw [if_neg (fun h => ee h.2.2.2)] at hsb
                      rw [hsb] at hnx
                      repeat (refine W.seq ?_)
                      refine W.regionD 120 146 (by decide) rfl mixed rfl ?_
                      refine RW.opd rfl rfl (LO.move rfl rfl) ?_
                      refine RW.opd rfl rfl (LO.geq rfl rfl rfl) ?_
                      refine RW.opd rfl rfl (LO.move rfl rfl) ?_
                      refine RW.gd rfl rfl rfl ?_ rfl (LO.load_agg rfl rfl rfl ty28 rfl (Tk.lit rfl)) ?_; (· (first | rfl | assumption))
                      refine RW.gd rfl rfl rfl ?_ rfl (LO.move rfl rfl) ?_; (· (first | rfl | assumption))
                      refine RW.gd rfl rfl rfl ?_ rfl (LO.call0 (fr := []) rfl rfl (hwk _) fok21 (.cons rfl (.pure rfl) (.cons rfl (.pure rfl) .nil)) rfl) ?_; (· (first | rfl | assumption))
                      refine RW.opd rfl rfl (LO.pick_t rfl rfl ?_ rfl) ?_; (· (first | rfl | assumption))
                      refine RW.opd rfl rfl (LO.move rfl rfl) ?_
                      refine RW.gd rfl rfl rfl ?_ rfl (LO.move rfl rfl) ?_; (· (first | rfl | assumption))
                      refine RW.gd rfl rfl rfl ?_ rfl (LO.move rfl rfl) ?_; (· (first | rfl | assumption))
                      refine RW.gd rfl rfl rfl ?_ rfl (LO.indexAddr_isl rfl rfl rfl rfl (Int.toNat_of_nonneg q0).symm ty23 ty3 ?_) ?_; (· (first | rfl | assumption)); (· (first | omega | decide | assumption | fail | (simp; done) | (simp; omega)))
                      refine RW.gd rfl rfl rfl ?_ rfl (LO.load_imm rfl rfl (gi_at1 q0 (by omega)) ty3 rfl) ?_; (· (first | rfl | assumption))
                      refine RW.gd rfl rfl rfl ?_ rfl (LO.geq rfl rfl rfl) ?_; (· (first | rfl | assumption))
                      refine RW.opd rfl rfl (LO.pick_t rfl rfl ?_ rfl) ?_; (· (first | rfl | assumption))
                      refine RW.opd rfl rfl (LO.move rfl rfl) ?_
                      refine RW.gd rfl rfl rfl ?_ rfl (LO.move rfl rfl) ?_; (· (first | rfl | assumption))
                      refine RW.gd rfl rfl rfl ?_ rfl (LO.move rfl rfl) ?_; (· (first | rfl | assumption))
                      refine RW.gd rfl rfl rfl ?_ rfl (LO.indexAddr_isl rfl rfl rfl rfl (Int.toNat_of_nonneg x0).symm ty23 ty3 ?_) ?_; (· (first | rfl | assumption)); (· (first | omega | decide | assumption | fail | (simp; done) | (simp; omega)))
                      refine RW.gd rfl rfl rfl ?_ rfl (LO.load_imm rfl rfl (gi_at1 x0 (by omega)) ty3 rfl) ?_; (· (first | rfl | assumption))
                      refine RW.gd rfl rfl rfl ?_ rfl (LO.move rfl rfl) ?_; (· (first | rfl | assumption))
                      refine RW.gd rfl rfl rfl ?_ rfl (LO.move rfl rfl) ?_; (· (first | rfl | assumption))
                      refine RW.gd rfl rfl rfl ?_ rfl (LO.indexAddr_isl rfl rfl rfl rfl (Int.toNat_of_nonneg q0).symm ty23 ty3 ?_) ?_; (· (first | rfl | assumption)); (· (first | omega | decide | assumption | fail | (simp; done) | (simp; omega)))
                      refine RW.gd rfl rfl rfl ?_ rfl (LO.load_imm rfl rfl (gi_at1 q0 (by omega)) ty3 rfl) ?_; (· (first | rfl | assumption))
                      refine RW.gd rfl rfl rfl ?_ rfl (LO.sub_in rfl rfl rfl ?_) ?_; (· (first | rfl | assumption)); (· (first | exact IntWalk.i64_in _ (by omega) | assumption))
                      refine RW.gd rfl rfl rfl ?_ rfl (LO.eql rfl rfl rfl) ?_; (· (first | rfl | assumption))
                      refine RW.opd rfl rfl (LO.pick_t rfl rfl ?_ rfl) ?_; (· (first | rfl | assumption))
                      refine RW.nil ⟨by kernel_rfl, ?_⟩
                      repeat (refine W.seq ?_)
                      refine W.cond_f rfl (by first | rfl | assumption) ?_
                      refine W.skip ?_
                      intro yJ KJ hJ
                      refine W.rename [(0, 0), (1, 1), (2, 2), (3, 3)] 4 (by decide) ?_ ?_ (hJ L (show stepsK f (dist f to) at_ (i + 1) = L from by rw [hnx]; exact List.append_nil _))
                      · (repeat' (first | exact all_mt | refine all_up ?_ ?_)) <;> first | exact .inl ⟨rfl, rfl⟩ | exact .inr ⟨rfl, fun _ h => by cases h⟩ | exact .inl ⟨rfl, by first | rfl | assumption | exact (intsC_pure _)⟩
                      · (repeat' (first | exact all_mt | refine all_up ?_ ?_)) <;> first | exact ⟨rfl, _, rfl, .inr ⟨rfl, rfl⟩⟩ | exact ⟨rfl, _, rfl, .inl rfl⟩ | exact ⟨rfl, _, rfl, .inr ⟨rfl, by first | rfl | assumption | exact (intsC_pure _)⟩⟩
                  · have k3 : decide (gI (dist f to) at_ ≥ 0) = false := decide_eq_false ea
                    rw [if_neg (fun h => ea h.2.2.1)] at hsb
                    rw [hsb] at hnx
                    repeat (refine W.seq ?_)
                    refine W.regionD 120 146 (by decide) rfl mixed rfl ?_
                    refine RW.opd rfl rfl (LO.move rfl rfl) ?_
                    refine RW.opd rfl rfl (LO.geq rfl rfl rfl) ?_
                    refine RW.opd rfl rfl (LO.move rfl rfl) ?_
                    refine RW.gd rfl rfl rfl ?_ rfl (LO.load_agg rfl rfl rfl ty28 rfl (Tk.lit rfl)) ?_; (· (first | rfl | assumption))
                    refine RW.gd rfl rfl rfl ?_ rfl (LO.move rfl rfl) ?_; (· (first | rfl | assumption))
                    refine RW.gd rfl rfl rfl ?_ rfl (LO.call0 (fr := []) rfl rfl (hwk _) fok21 (.cons rfl (.pure rfl) (.cons rfl (.pure rfl) .nil)) rfl) ?_; (· (first | rfl | assumption))
                    refine RW.opd rfl rfl (LO.pick_t rfl rfl ?_ rfl) ?_; (· (first | rfl | assumption))
                    refine RW.opd rfl rfl (LO.move rfl rfl) ?_
                    refine RW.gd rfl rfl rfl ?_ rfl (LO.move rfl rfl) ?_; (· (first | rfl | assumption))
                    refine RW.gd rfl rfl rfl ?_ rfl (LO.move rfl rfl) ?_; (· (first | rfl | assumption))
                    refine RW.gd rfl rfl rfl ?_ rfl (LO.indexAddr_isl rfl rfl rfl rfl (Int.toNat_of_nonneg q0).symm ty23 ty3 ?_) ?_; (· (first | rfl | assumption)); (· (first | omega | decide | assumption | fail | (simp; done) | (simp; omega)))
                    refine RW.gd rfl rfl rfl ?_ rfl (LO.load_imm rfl rfl (gi_at1 q0 (by omega)) ty3 rfl) ?_; (· (first | rfl | assumption))
                    refine RW.gd rfl rfl rfl ?_ rfl (LO.geq rfl rfl rfl) ?_; (· (first | rfl | assumption))
                    refine RW.opd rfl rfl (LO.pick_t rfl rfl ?_ rfl) ?_; (· (first | rfl | assumption))
                    refine RW.opd rfl rfl (LO.move rfl rfl) ?_
                    refine RW.sd rfl rfl rfl ?_ rfl ?_; (· (first | rfl | assumption))
                    refine RW.sd rfl rfl rfl ?_ rfl ?_; (· (first | rfl | assumption))
                    refine RW.sd rfl rfl rfl ?_ rfl ?_; (· (first | rfl | assumption))
                    refine RW.sd rfl rfl rfl ?_ rfl ?_; (· (first | rfl | assumption))
                    refine RW.sd rfl rfl rfl ?_ rfl ?_; (· (first | rfl | assumption))
                    refine RW.sd rfl rfl rfl ?_ rfl ?_; (· (first | rfl | assumption))
                    refine RW.sd rfl rfl rfl ?_ rfl ?_; (· (first | rfl | assumption))
                    refine RW.sd rfl rfl rfl ?_ rfl ?_; (· (first | rfl | assumption))
                    refine RW.sd rfl rfl rfl ?_ rfl ?_; (· (first | rfl | assumption))
                    refine RW.sd rfl rfl rfl ?_ rfl ?_; (· (first | rfl | assumption))
                    refine RW.opd rfl rfl (LO.pick_f rfl rfl ?_ rfl) ?_; (· (first | rfl | assumption))
                    refine RW.nil ⟨by kernel_rfl, ?_⟩
                    repeat (refine W.seq ?_)
                    refine W.cond_f rfl (by first | rfl | assumption) ?_
                    refine W.skip ?_
                    intro yJ KJ hJ
                    refine W.rename [(0, 0), (1, 1), (2, 2), (3, 3)] 4 (by decide) ?_ ?_ (hJ L (show stepsK f (dist f to) at_ (i + 1) = L from by rw [hnx]; exact List.append_nil _))
                    · (repeat' (first | exact all_mt | refine all_up ?_ ?_)) <;> first | exact .inl ⟨rfl, rfl⟩ | exact .inr ⟨rfl, fun _ h => by cases h⟩ | exact .inl ⟨rfl, by first | rfl | assumption | exact (intsC_pure _)⟩
                    · (repeat' (first | exact all_mt | refine all_up ?_ ?_)) <;> first | exact ⟨rfl, _, rfl, .inr ⟨rfl, rfl⟩⟩ | exact ⟨rfl, _, rfl, .inl rfl⟩ | exact ⟨rfl, _, rfl, .inr ⟨rfl, by first | rfl | assumption | exact (intsC_pure _)⟩⟩
          ·
            repeat (refine W.seq ?_)
            refine W.region 164 166 (by decide) rfl rfl ?_
            refine RW.opd rfl rfl (LO.add_in rfl rfl rfl ?_) ?_; (· (first | exact IntWalk.i64_in _ (by omega) | assumption))
            refine RW.opd rfl rfl (LO.move rfl rfl) ?_
            refine RW.nil ?_
            refine WL.rename [(0, 0), (1, 1), (2, 2), (3, 3)] 4 (by decide) ?_ ?_ (ihB ((i + 1), L2) (show f.links.length - (i + 1) < f.links.length - i from by omega) (show (i + 1) ≤ f.links.length ∧ stepsK f (dist f to) at_ (i + 1) = L2 from ⟨by omega, hID⟩))
            · (repeat' (first | exact all_mt | refine all_up ?_ ?_)) <;> first | exact .inl ⟨rfl, rfl⟩ | exact .inr ⟨rfl, fun _ h => by cases h⟩ | exact .inl ⟨rfl, by first | rfl | assumption | exact (intsC_pure _)⟩
            · (repeat' (first | exact all_mt | refine all_up ?_ ?_)) <;> first | exact ⟨rfl, _, rfl, .inr ⟨rfl, rfl⟩⟩ | exact ⟨rfl, _, rfl, .inl rfl⟩ | exact ⟨rfl, _, rfl, .inr ⟨rfl, by first | rfl | assumption | exact (intsC_pure _)⟩⟩
        · have g2 : decide ((i : Int) < (f.links.length : Int)) = false := decide_eq_false (by omega)
          repeat (refine W.seq ?_)
          refine W.region 65 66 (by decide) rfl rfl ?_
          refine RW.opd rfl rfl (LO.lss rfl rfl rfl) ?_
          refine RW.nil ?_
          repeat (refine W.seq ?_)
          refine W.cond_f rfl (by first | rfl | assumption) ?_
          refine W.exit ?_
          obtain rfl : i = f.links.length := by omega
          clear ihB
          rcases hor with ⟨hat, hol, hw⟩ | ⟨hat, hw⟩
          · have hpos : 0 < gI (dist f to) at_ := by
              have : gI (dist f to) at_ ≠ 0 := fun h0 => eat ((dist_ok hal).zero _ h0)
              omega
            obtain ⟨h0, hk, hdn, hwn⟩ := way_next (h := h) hpos hL
            have k1 : ((L.length : Int) == 0) = false := by simp; exact fun h => by rw [h] at h0; exact absurd h0 (by decide)
            obtain ⟨hn, hhn, hn0⟩ : ∃ hn : Int, (if 0 < h then h else 0) = hn ∧ 0 ≤ hn := ⟨_, rfl, by split <;> omega⟩
            have hpk := pickN_eq h h0
            rw [hhn] at hpk
            obtain ⟨pk, hpke⟩ : ∃ pk, pickN h L.length = pk := ⟨_, rfl⟩
            rw [hpke] at hpk hk hdn hwn
            have hrg := gI_range (d := dist f to) (x := gI (sndL L) pk) (by omega)
            repeat (refine W.seq ?_)
            refine W.region 170 173 (by decide) rfl rfl ?_
            refine RW.opd rfl rfl (LO.move rfl rfl) ?_
            refine RW.opd rfl rfl (LO.len rfl rfl ty23) ?_
            refine RW.opd rfl rfl (LO.eql rfl rfl rfl) ?_
            refine RW.nil ?_
            repeat (refine W.seq ?_)
            refine W.cond_f rfl (by first | rfl | assumption) ?_
            refine W.skip ?_
            repeat (refine W.seq ?_)
            refine W.region 183 189 (by decide) rfl rfl ?_
            refine RW.opd rfl rfl (LO.move rfl rfl) ?_
            refine RW.opd rfl rfl (LO.max rfl rfl rfl) ?_
            rw [hhn]
            refine RW.opd rfl rfl (LO.move rfl rfl) ?_
            refine RW.opd rfl rfl (LO.len rfl rfl ty23) ?_
            refine RW.opd rfl rfl (LO.rem_in rfl rfl rfl ?_ ?_) ?_; (· (first | omega)); (· (first | omega | decide | assumption | fail | (simp; done) | (simp; omega)))
            refine RW.opd rfl rfl (LO.assign rfl rfl) ?_
            refine RW.nil ?_
            rw [hpk]
            repeat (refine W.seq ?_)
            refine W.regionD 193 206 (by decide) rfl mixed rfl ?_
            refine RW.opd rfl rfl (LO.move rfl rfl) ?_
            refine RW.opd rfl rfl (LO.move rfl rfl) ?_
            refine RW.opd rfl rfl (LO.move rfl rfl) ?_
            refine RW.opd rfl rfl (LO.indexAddr rfl rfl rfl rfl ty23 ty3 ?_) ?_; (· (first | omega | decide | assumption | fail | (simp; done) | (simp; omega)))
            refine RW.opd rfl rfl (LO.load rfl rfl rfl (ni_at (k := pk) (by omega)) ty3 rfl) ?_
            refine RW.opd rfl rfl (LO.buildSlice rfl ty23 ty3 (by decide) (by decide) (.cons rfl rfl rfl rfl (Sp.lit rfl) .nil)) ?_
            refine RW.opd rfl rfl (LO.append rfl rfl (SrcAV.own rfl rfl (Tk.lit rfl)) rfl (ints_tk rfl) ty23 ty23 ty3 (by decide) ?_ ?_ ?_) ?_; (· (first | omega | decide | assumption | fail | (simp; done) | (simp; omega))); (· (first | omega | decide | assumption | fail | (simp; done) | (simp; omega))); (· (first | decide | omega))
            refine RW.opd rfl rfl (LO.move rfl rfl) ?_
            refine RW.opd rfl rfl (LO.move rfl rfl) ?_
            refine RW.opd rfl rfl (LO.indexAddr rfl rfl rfl rfl ty23 ty3 ?_) ?_; (· (first | omega | decide | assumption | fail | (simp; done) | (simp; omega)))
            refine RW.opd rfl rfl (LO.load rfl rfl rfl (ni_at (k := pk) (by omega)) ty3 rfl) ?_
            refine RW.opd rfl rfl (LO.assign rfl rfl) ?_
            refine RW.opd rfl rfl (LO.assign rfl rfl) ?_
            refine RW.nil ⟨by kernel_rfl, ?_⟩
            rw [ints_snoc, show out.length + 1 = (out ++ [gI (fstL L) pk]).length from by simp]
            refine WL.rename [(0, 0), (1, 199)] 2 (by decide) ?_ ?_ (ihA ((gI (sndL L) pk), (out ++ [gI (fstL L) pk])) (show (gI (dist f to) (gI (sndL L) pk)).toNat < (gI (dist f to) at_).toNat from by omega) (show (0 ≤ (gI (sndL L) pk) ∧ (gI (sndL L) pk) < f.dead.length) ∧ ((0 ≤ gI (dist f to) (gI (sndL L) pk) ∧ (out ++ [gI (fstL L) pk]).length + (gI (dist f to) (gI (sndL L) pk)).toNat ≤ 8 ∧ wayF f frm to h = some ((out ++ [gI (fstL L) pk]) ++ wayL f (dist f to) h (gI (dist f to) (gI (sndL L) pk)).toNat (gI (sndL L) pk))) ∨ (¬ 0 ≤ gI (dist f to) (gI (sndL L) pk) ∧ wayF f frm to h = none)) from ⟨⟨hrg.1, by omega⟩, .inl ⟨by omega, by simp only [List.length_append, List.length_singleton]; omega, by rw [hw, hwn, List.append_assoc]; rfl⟩⟩))
            · (repeat' (first | exact all_mt | refine all_up ?_ ?_)) <;> first | exact .inl ⟨rfl, rfl⟩ | exact .inr ⟨rfl, fun _ h => by cases h⟩ | exact .inl ⟨rfl, by first | rfl | assumption | exact (intsC_pure _)⟩
            · (repeat' (first | exact all_mt | refine all_up ?_ ?_)) <;> first | exact ⟨rfl, _, rfl, .inr ⟨rfl, rfl⟩⟩ | exact ⟨rfl, _, rfl, .inl rfl⟩ | exact ⟨rfl, _, rfl, .inr ⟨rfl, by first | rfl | assumption | exact (intsC_pure _)⟩⟩
          · have hLe : L = [] := by
              cases L with
              | nil => rfl
              | cons p L =>
                obtain ⟨_, _, _, _, _, _, _, h5, _⟩ := stepsK_mem (f := f) (d := dist f to) (at_ := at_) (k := f.links.length) (p := p) (by rw [hL]; simp)
                exact absurd h5 hat
            have k1 : ((L.length : Int) == 0) = true := by rw [hLe]; rfl
            repeat (refine W.seq ?_)
            refine W.region 170 173 (by decide) rfl rfl ?_
            refine RW.opd rfl rfl (LO.move rfl rfl) ?_
            refine RW.opd rfl rfl (LO.len rfl rfl ty23) ?_
            refine RW.opd rfl rfl (LO.eql rfl rfl rfl) ?_
            refine RW.nil ?_
            repeat (refine W.seq ?_)
            refine W.cond_t rfl (by first | rfl | assumption) ?_
            repeat (refine W.seq ?_)
            refine W.region 177 179 (by decide) rfl rfl ?_
            refine RW.opd rfl rfl (LO.assign rfl rfl) ?_
            refine RW.opd rfl rfl (LO.assign rfl rfl) ?_
            refine RW.nil ?_
            refine W.name 179 (179 + 1) (t := 8) (sz := 1) rfl (by decide) (by decide) ?_
            refine W.frz1 (t := 8) rfl rfl (Tk.lit rfl) rfl ?_
            repeat (refine W.seq ?_)
            refine W.ret ⟨.inl rfl, _, mt, RVs.cons (RV.tmp rfl) (RVs.cons (RV.tmp rfl) (RVs.nil)), all_mt, ?_⟩
            exact ⟨by rw [hw]; rfl, rfl⟩
end Go.Proofs.YtbjfaepjpmogjaaDoor
