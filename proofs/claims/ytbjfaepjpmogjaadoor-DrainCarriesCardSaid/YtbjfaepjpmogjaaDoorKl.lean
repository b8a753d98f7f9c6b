/-
  DrainCarries returns true.
-/
import Derived.Test.YtbjfaepjpmogjaaDoorKk
namespace Go.Proofs.YtbjfaepjpmogjaaDoor
open Go.RowKit

/-- what is down or dead stays so -/
def Less (l m : List Bool) : Prop := l.length = m.length ∧ ∀ k : Nat, gB l k = true → gB m k = true
theorem Less.refl (l : List Bool) : Less l l := ⟨rfl, fun _ h => h⟩
theorem Less.wset {l m : List Bool} (h : Less l m) (x : Int) : Less l (wset m x) := by
  refine ⟨by rw [wset_len]; exact h.1, fun k hk => ?_⟩
  have h1 := h.2 k hk
  unfold gB at h1 ⊢
  unfold Go.Proofs.YtbjfaepjpmogjaaDoor.wset
  split
  · by_cases e : x.toNat = k
    · by_cases hk2 : k < m.length
      · simp [e, hk2]
      · simp [show m.length ≤ k by omega] at h1
    · simpa [List.getElem?_set_ne e] using h1
  · exact h1
theorem wK_less (f : Fab) (its : List Itm) (k : Nat) (hk : k ≤ its.length) : Less f.down (wK f its k).1 ∧ Less f.dead (wK f its k).2 := by
  induction k with
  | zero => exact ⟨Less.refl _, Less.refl _⟩
  | succ k ih =>
    obtain ⟨h1, h2⟩ := ih (by omega)
    rw [wK_succ f (show k < its.length by omega)]
    unfold stepW
    split
    · exact ⟨h1, h2.wset _⟩
    · exact ⟨h1.wset _, h2⟩
theorem alive_less {f g : Fab} (h : Less f.dead g.dead) {s : Int} (hs : aliveB g s = true) : aliveB f s = true := by
  obtain ⟨h0, h1⟩ := aliveB_lt hs
  obtain ⟨j, rfl⟩ := Int.eq_ofNat_of_zero_le h0
  have hj : j < f.dead.length := by rw [h.1]; omega
  rw [alive_gB hj]
  rw [alive_gB (show j < g.dead.length by omega)] at hs
  cases hx : gB f.dead j with
  | false => rfl
  | true => rw [h.2 j hx] at hs; exact absurd hs (by decide)
/-- a link that works without items works -/
theorem works_without {f : Fab} {its : List Itm} {k : Nat} (h : worksB (withoutF f its) k = true) : worksB f k = true := by
  obtain ⟨h1, h2⟩ := wK_less f its its.length (Nat.le_refl _)
  have hln := withoutF_len f its
  unfold worksB at h
  simp only [Bool.and_eq_true, decide_eq_true_eq] at h
  obtain ⟨_, a2, a3, a4, a5⟩ := h
  rw [hln.1] at a3
  have b1 : k < f.links.length := by have := a2; show k < f.links.length; exact Int.ofNat_lt.1 this
  have b2 : k < f.down.length := Int.ofNat_lt.1 a3
  rw [worksB_at b1 b2]
  have c1 : (withoutF f its).links[(k : Int).toNat]? = some f.links[k] := by rw [Int.toNat_natCast]; exact List.getElem?_eq_getElem b1
  rw [c1] at a5
  simp only [Bool.and_eq_true] at a5
  rw [Bool.and_eq_true, Bool.and_eq_true]
  refine ⟨?_, alive_less h2 a5.1, alive_less h2 a5.2⟩
  cases hd : f.down[k] with
  | false => rfl
  | true =>
    have := h1.2 k (by unfold gB; simp [b2, hd])
    have hlt : k < (wK f its its.length).1.length := by rw [← h1.1]; exact b2
    unfold gB at this
    simp [hlt] at this
    have e : (withoutF f its).down = (wK f its its.length).1 := rfl
    rw [e] at a4
    simp [hlt, this] at a4
theorem safe_zero {f : Fab} {ls : List Ld} {its : List Itm} (hv : validD f ls its = true) (h : safeE f ls its = 0) : fnd (gapB (withoutF f its) ls) ls.length = none ∧ fnd (overB (withoutF f its) ls) f.links.length = none := by
  have h1 : safeE f ls its = (fitF (withoutF f its) ls).2 := if_pos hv
  rw [h1] at h
  unfold fitF at h
  cases hg : fnd (gapB (withoutF f its) ls) ls.length with
  | some i => rw [hg] at h; cases h
  | none =>
    rw [hg] at h
    dsimp only at h
    refine ⟨rfl, ?_⟩
    cases ho : fnd (overB (withoutF f its) ls) (withoutF f its).links.length with
    | some i => rw [ho] at h; cases h
    | none => exact ho
set_option maxHeartbeats 1000000 in
theorem carries_law (l : List Int) (hl : l.length ≤ 9223372036854775807) : AFn Tryd.prog 6 0 [.isl (intsC l) l.length] mt (.base (.bool true)) mt := by
  refine AFn.eq Tryd.func6 rfl rfl (Nat.le_of_ble_eq_true rfl) ?_
  have hnew := new_any l
  obtain ⟨v, H', hsc, f, ls, its, a1, hok, rfl, rfl⟩ := scene_any l 0 hl
  have hval := hok.val
  obtain ⟨c1, c2, c3, c4, _, _⟩ := validD_all2 hval
  obtain ⟨b1, b2, b3, b4, b5, b6⟩ := validB_all2 c1
  have h24 := b1.nl
  have h8 := b1.n8
  have hni := hok.nit
  have hnl := hok.nls
  obtain ⟨hl16, hlr⟩ := c2
  have hsf := safe_any f ls its (by omega) (by omega) (by omega)
  have hwo := without_any f its (by omega) (by omega) (by omega) (by omega)
  have haw := awake_any
  have hwf := worksX_any f
  repeat (refine W.seq ?_)
  refine W.region 0 1 (by decide) rfl rfl ?_
  refine RW.opd rfl rfl (LO.assign rfl rfl) ?_
  refine RW.nil ?_
  repeat (refine W.seq ?_)
  refine W.region 5 16 (by decide) rfl rfl ?_
  refine RW.opd rfl rfl (LO.move rfl rfl) ?_
  refine RW.opd rfl rfl (LO.callN (fr := []) rfl rfl (hnew) fok10 (.cons rfl (.pure rfl) .nil) rfl (by decide)) ?_
  refine RW.opd rfl rfl (LO.call1 (fr := []) rfl rfl (hsc) fok9 (.own rfl rfl .nil) rfl rfl rfl (List.cons_ne_nil _ _) (by decide) rfl) ?_
  refine RW.opd rfl rfl (LO.move rfl rfl) ?_
  refine RW.opd rfl rfl (LO.extract rfl rfl rfl) ?_
  refine RW.opd rfl rfl (LO.extract rfl rfl rfl) ?_
  refine RW.opd rfl rfl (LO.extract rfl rfl rfl) ?_
  refine RW.opd rfl rfl (LO.alloc rfl ty28) ?_
  refine RW.opn rfl rfl (LO.store rfl rfl rfl rfl rfl ty28 rfl (by decide) (Sp.lit rfl)) ?_
  refine RW.opd rfl rfl (LO.assign rfl rfl) ?_
  refine RW.opd rfl rfl (LO.assign rfl rfl) ?_
  refine RW.nil ?_
  by_cases hz : safeE f ls its = 0
  · have k1 : (safeE f ls its != 0) = false := by rw [hz]; rfl
    obtain ⟨z1, z2⟩ := safe_zero hval hz
    have hgap := fnd_inv z1
    have hover := fnd_inv z2
    have hww := fun k => works_without (f := f) (its := its) (k := k)
    obtain ⟨d1, d2, d3⟩ := without_ok its b1 b2 b3
    have hlk : (withoutF f its).links = f.links := rfl
    repeat (refine W.seq ?_)
    refine W.region 20 25 (by decide) rfl rfl ?_
    refine RW.opd rfl rfl (LO.load_agg rfl rfl rfl ty28 rfl (Tk.lit rfl)) ?_
    refine RW.opd rfl rfl (LO.move rfl rfl) ?_
    refine RW.opd rfl rfl (LO.move rfl rfl) ?_
    refine RW.opd rfl rfl (LO.call0 (fr := []) rfl rfl (hsf) fok18 (.cons rfl (.pure rfl) (.cons rfl (.pure rfl) (.cons rfl (.pure rfl) .nil))) rfl) ?_
    refine RW.opd rfl rfl (LO.neq rfl rfl rfl) ?_
    refine RW.nil ?_
    repeat (refine W.seq ?_)
    refine W.cond_f rfl (by first | rfl | assumption) ?_
    refine W.skip ?_
    obtain ⟨g, hg⟩ : ∃ g, withoutF f its = g := ⟨_, rfl⟩
    rw [hg] at hwo hgap hover hww d1 d2 d3 hlk
    clear hg z1 z2
    have hway := wayX_any g d1 d2
    have hwg := worksX_any g
    repeat (refine W.seq ?_)
    refine W.region 35 40 (by decide) rfl rfl ?_
    refine RW.opd rfl rfl (LO.load_agg rfl rfl rfl ty28 rfl (Tk.lit rfl)) ?_
    refine RW.opd rfl rfl (LO.move rfl rfl) ?_
    refine RW.opd rfl rfl (LO.call0 (fr := []) rfl rfl (hwo) fok19 (.cons rfl (.pure rfl) (.cons rfl (.pure rfl) .nil)) rfl) ?_
    refine RW.opd rfl rfl (LO.alloc rfl ty28) ?_
    refine RW.opn rfl rfl (LO.store rfl rfl rfl rfl rfl ty28 rfl (by decide) (Sp.lit rfl)) ?_
    refine RW.nil ?_
    repeat (refine W.seq ?_)
    refine W.region 44 49 (by decide) rfl rfl ?_
    refine RW.opd rfl rfl (LO.fieldAddr rfl rfl ty28 rfl (by decide)) ?_
    refine RW.opd rfl rfl (LO.load rfl rfl rfl rfl ty25 rfl) ?_
    refine RW.opd rfl rfl (LO.len_isl rfl rfl rfl ty25) ?_
    refine RW.opd rfl rfl (LO.makeSlice rfl rfl rfl rfl rfl ty23 ty3 (by decide) ?_ ?_ ?_) ?_; (· (first | omega | decide | assumption | fail | (simp; done) | (simp; omega))); (· (first | omega | decide | assumption | fail | (simp; done) | (simp; omega))); (· (first | omega | decide | assumption | fail | (simp; done) | (simp; omega)))
    refine RW.opd rfl rfl (LO.assign rfl rfl) ?_
    refine RW.nil ?_
    rw [zeros_ints]
    repeat (refine W.seq ?_)
    refine W.region 53 56 (by decide) rfl rfl ?_
    refine RW.opd rfl rfl (LO.move rfl rfl) ?_
    refine RW.opd rfl rfl (LO.len_isl rfl rfl rfl ty29) ?_
    refine RW.opd rfl rfl (LO.move rfl rfl) ?_
    refine RW.nil ?_
    repeat (refine W.seq ?_)
    refine W.block ?_
    refine W.rename [(0, 12), (1, 38), (2, 47)] 3 (T' := up (up (up (up (up (up mt 3 (some (.own 0 0))) 6 (some (.own 1 0))) 7 (some (.osl 2 0 f.links.length 1))) 36 (some (.isl (ldsC ls) ls.length))) 37 (some (.base (.int .i64 (ls.length : Int))))) 38 (some (.base (.int .i64 (0 : Int))))) (H' := up (up (up mt 0 (some (fabC f))) 1 (some (fabC g))) 2 (some (intsC (List.replicate f.links.length 0)))) (by decide) ?_ ?_ ?_
    · (repeat' (first | exact all_mt | refine all_up ?_ ?_)) <;> first | exact .inl ⟨rfl, rfl⟩ | exact .inr ⟨rfl, fun _ h => by cases h⟩ | exact .inl ⟨rfl, by first | rfl | assumption | exact (intsC_pure _)⟩
    · (repeat' (first | exact all_mt | refine all_up ?_ ?_)) <;> first | exact ⟨rfl, _, rfl, .inr ⟨rfl, rfl⟩⟩ | exact ⟨rfl, _, rfl, .inl rfl⟩ | exact ⟨rfl, _, rfl, .inr ⟨rfl, by first | rfl | assumption | exact (intsC_pure _)⟩⟩
    refine W.loop_ind (α := Nat × List Int) (fun x => ls.length - x.1) 3 (fun x => up (up (up (up (up (up mt 3 (some (.own 0 0))) 6 (some (.own 1 0))) 7 (some (.osl 2 0 f.links.length 1))) 36 (some (.isl (ldsC ls) ls.length))) 37 (some (.base (.int .i64 (ls.length : Int))))) 38 (some (.base (.int .i64 (x.1 : Int))))) (fun x => up (up (up mt 0 (some (fabC f))) 1 (some (fabC g))) 2 (some (intsC x.2))) (fun x => x.1 ≤ ls.length ∧ x.2 = sumsK g ls x.1 ∧ SumOK f.links.length (8 * x.1) x.2) (0, (List.replicate f.links.length 0)) (show 0 ≤ ls.length ∧ (List.replicate f.links.length 0) = sumsK g ls 0 ∧ SumOK f.links.length (8 * 0) (List.replicate f.links.length 0) from ⟨Nat.zero_le _, (by unfold sumsK; rw [hlk]), SumOK.start _⟩) ?_
    rintro ⟨i, s⟩ hIA ihA
    try (dsimp only at hIA)
    try dsimp only
    obtain ⟨hi, hs, hso⟩ := hIA
    have hsl := hso.1
    by_cases hc : i < ls.length
    · have g1 : decide ((i : Int) < (ls.length : Int)) = true := decide_eq_true (by omega)
      have hr := hlr _ (List.getElem_mem hc)
      have hgi := hgap i hc
      unfold gapB at hgi
      rw [List.getElem?_eq_getElem hc] at hgi
      dsimp only at hgi
      repeat (refine W.seq ?_)
      refine W.region 60 61 (by decide) rfl rfl ?_
      refine RW.opd rfl rfl (LO.lss rfl rfl rfl) ?_
      refine RW.nil ?_
      repeat (refine W.seq ?_)
      refine W.cond_t rfl (by first | rfl | assumption) ?_
      refine W.skip ?_
      repeat (refine W.seq ?_)
      refine W.block ?_
      repeat (refine W.seq ?_)
      refine W.region 65 71 (by decide) rfl rfl ?_
      refine RW.opd rfl rfl (LO.move rfl rfl) ?_
      refine RW.opd rfl rfl (LO.indexAddr_isl rfl rfl rfl rfl rfl ty29 ty51 ?_) ?_; (· (first | omega | decide | assumption | fail | (simp; done) | (simp; omega)))
      refine RW.opd rfl rfl (LO.load_imm_agg rfl rfl ty51 rfl (lds_tk hc)) ?_
      refine RW.opd rfl rfl (LO.alloc rfl ty51) ?_
      refine RW.opd rfl rfl (LO.assign rfl rfl) ?_
      refine RW.opn rfl rfl (LO.store rfl rfl rfl rfl rfl ty51 rfl (by decide) (Sp.lit rfl)) ?_
      refine RW.nil ?_
      have hwi := hway ls[i].a ls[i].b i
      repeat (refine W.seq ?_)
      refine W.region 75 87 (by decide) rfl rfl ?_
      refine RW.opd rfl rfl (LO.load_agg rfl rfl rfl ty28 rfl (Tk.lit rfl)) ?_
      refine RW.opd rfl rfl (LO.fieldAddr rfl rfl ty51 rfl (by decide)) ?_
      refine RW.opd rfl rfl (LO.load rfl rfl rfl rfl ty3 rfl) ?_
      refine RW.opd rfl rfl (LO.fieldAddr rfl rfl ty51 rfl (by decide)) ?_
      refine RW.opd rfl rfl (LO.load rfl rfl rfl rfl ty3 rfl) ?_
      refine RW.opd rfl rfl (LO.move rfl rfl) ?_
      refine RW.opd rfl rfl (LO.call0 (fr := []) rfl rfl (hwi) fok20 (.cons rfl (.pure rfl) (.cons rfl (.pure rfl) (.cons rfl (.pure rfl) (.cons rfl (.pure rfl) .nil)))) rfl) ?_
      refine RW.opd rfl rfl (LO.move rfl rfl) ?_
      refine RW.opd rfl rfl (LO.extract rfl rfl rfl) ?_
      refine RW.opd rfl rfl (LO.extract rfl rfl rfl) ?_
      refine RW.opd rfl rfl (LO.assign rfl rfl) ?_
      refine RW.opd rfl rfl (LO.assign rfl rfl) ?_
      refine RW.nil ?_
      cases hw : wayF g ls[i].a ls[i].b i with
      | none => rw [hw] at hgi; cases hgi
      | some w =>
        have hw8 := wayF_len d1 _ _ _ hw
        have hwin := wayF_in hw
        have hnx := sumsK_succ hc hw
        rw [← hs] at hnx
        repeat (refine W.seq ?_)
        refine W.region 91 93 (by decide) rfl rfl ?_
        refine RW.opd rfl rfl (LO.move rfl rfl) ?_
        refine RW.opd rfl rfl (LO.not rfl rfl) ?_
        refine RW.nil ?_
        repeat (refine W.seq ?_)
        refine W.cond_f rfl (by first | rfl | assumption) ?_
        refine W.skip ?_
        repeat (refine W.seq ?_)
        refine W.region 102 105 (by decide) rfl rfl ?_
        refine RW.opd rfl rfl (LO.move rfl rfl) ?_
        refine RW.opd rfl rfl (LO.len_isl rfl rfl rfl ty23) ?_
        refine RW.opd rfl rfl (LO.move rfl rfl) ?_
        refine RW.nil ?_
        repeat (refine W.seq ?_)
        refine W.block ?_
        refine W.rename [(0, 0), (1, 1), (2, 2), (3, 68)] 4 (T' := up (up (up (up (up (up (up (up (up (up mt 3 (some (.own 0 0))) 6 (some (.own 1 0))) 7 (some (.osl 2 0 f.links.length 1))) 9 (some (.own 3 0))) 36 (some (.isl (ldsC ls) ls.length))) 37 (some (.base (.int .i64 (ls.length : Int))))) 38 (some (.base (.int .i64 (i : Int))))) 55 (some (.isl (intsC w) w.length))) 56 (some (.base (.int .i64 (w.length : Int))))) 57 (some (.base (.int .i64 (0 : Int))))) (H' := up (up (up (up mt 0 (some (fabC f))) 1 (some (fabC g))) 2 (some (intsC s))) 3 (some (ldC ls[i]))) (by decide) ?_ ?_ ?_
        · (repeat' (first | exact all_mt | refine all_up ?_ ?_)) <;> first | exact .inl ⟨rfl, rfl⟩ | exact .inr ⟨rfl, fun _ h => by cases h⟩ | exact .inl ⟨rfl, by first | rfl | assumption | exact (intsC_pure _)⟩
        · (repeat' (first | exact all_mt | refine all_up ?_ ?_)) <;> first | exact ⟨rfl, _, rfl, .inr ⟨rfl, rfl⟩⟩ | exact ⟨rfl, _, rfl, .inl rfl⟩ | exact ⟨rfl, _, rfl, .inr ⟨rfl, by first | rfl | assumption | exact (intsC_pure _)⟩⟩
        refine W.loop_ind (α := Nat × List Int) (fun x => w.length - x.1) 4 (fun x => up (up (up (up (up (up (up (up (up (up mt 3 (some (.own 0 0))) 6 (some (.own 1 0))) 7 (some (.osl 2 0 f.links.length 1))) 9 (some (.own 3 0))) 36 (some (.isl (ldsC ls) ls.length))) 37 (some (.base (.int .i64 (ls.length : Int))))) 38 (some (.base (.int .i64 (i : Int))))) 55 (some (.isl (intsC w) w.length))) 56 (some (.base (.int .i64 (w.length : Int))))) 57 (some (.base (.int .i64 (x.1 : Int))))) (fun x => up (up (up (up mt 0 (some (fabC f))) 1 (some (fabC g))) 2 (some (intsC x.2))) 3 (some (ldC ls[i]))) (fun x => x.1 ≤ w.length ∧ x.2 = addW s (w.take x.1) ls[i].r ∧ SumOK f.links.length (8 * i + x.1) x.2) (0, s) (show 0 ≤ w.length ∧ s = addW s (w.take 0) ls[i].r ∧ SumOK f.links.length (8 * i + 0) s from ⟨Nat.zero_le _, rfl, hso.mono (by omega)⟩) ?_
        rintro ⟨j, s2⟩ hIB ihB
        try (dsimp only at hIB)
        try dsimp only
        obtain ⟨hj, hs2, hso2⟩ := hIB
        have hsl2 := hso2.1
        by_cases hc2 : j < w.length
        · have g2 : decide ((j : Int) < (w.length : Int)) = true := decide_eq_true (by omega)
          obtain ⟨k, hk, hk1, hk2⟩ := hwin _ (List.getElem_mem hc2)
          have hadd := hso2.add (k := w[j]) (r := ls[i].r) (by rw [hk, ← hlk]; omega) hr.1 hr.2 (by omega)
          have hsn := addW_snoc s w ls[i].r hc2
          rw [← hs2] at hsn
          have hg2 := ew_at hc2
          obtain ⟨b1, b2, b3⟩ := hso2.2 w[j]
          rw [hk] at hadd hsn hg2 b2 b3
          rw [hlk] at hk1
          have b2 := b2 (by omega)
          have w1 := hwf (k : Int)
          rw [hww k hk2] at w1
          have w2 := hwg (k : Int)
          rw [hk2] at w2
          repeat (refine W.seq ?_)
          refine W.region 109 110 (by decide) rfl rfl ?_
          refine RW.opd rfl rfl (LO.lss rfl rfl rfl) ?_
          refine RW.nil ?_
          repeat (refine W.seq ?_)
          refine W.cond_t rfl (by first | rfl | assumption) ?_
          refine W.skip ?_
          repeat (refine W.seq ?_)
          refine W.block ?_
          repeat (refine W.seq ?_)
          refine W.region 114 117 (by decide) rfl rfl ?_
          refine RW.opd rfl rfl (LO.indexAddr_isl rfl rfl rfl rfl rfl ty23 ty3 ?_) ?_; (· (first | omega | decide | assumption | fail | (simp; done) | (simp; omega)))
          refine RW.opd rfl rfl (LO.load_imm rfl rfl hg2 ty3 rfl) ?_
          refine RW.opd rfl rfl (LO.assign rfl rfl) ?_
          refine RW.nil ?_
          repeat (refine W.seq ?_)
          refine W.region 121 131 (by decide) rfl rfl ?_
          refine RW.opd rfl rfl (LO.load_agg rfl rfl rfl ty28 rfl (Tk.lit rfl)) ?_
          refine RW.opd rfl rfl (LO.move rfl rfl) ?_
          refine RW.opd rfl rfl (LO.call0 (fr := []) rfl rfl (w1) fok21 (.cons rfl (.pure rfl) (.cons rfl (.pure rfl) .nil)) rfl) ?_
          refine RW.opd rfl rfl (LO.not rfl rfl) ?_
          refine RW.opd rfl rfl (LO.move rfl rfl) ?_
          refine RW.gd rfl rfl rfl ?_ rfl (LO.load_agg rfl rfl rfl ty28 rfl (Tk.lit rfl)) ?_; (· (first | rfl | assumption))
          refine RW.gd rfl rfl rfl ?_ rfl (LO.move rfl rfl) ?_; (· (first | rfl | assumption))
          refine RW.gd rfl rfl rfl ?_ rfl (LO.call0 (fr := []) rfl rfl (w2) fok21 (.cons rfl (.pure rfl) (.cons rfl (.pure rfl) .nil)) rfl) ?_; (· (first | rfl | assumption))
          refine RW.gd rfl rfl rfl ?_ rfl (LO.not rfl rfl) ?_; (· (first | rfl | assumption))
          refine RW.opd rfl rfl (LO.pick_f rfl rfl ?_ rfl) ?_; (· (first | rfl | assumption))
          refine RW.nil ?_
          repeat (refine W.seq ?_)
          refine W.cond_f rfl (by first | rfl | assumption) ?_
          refine W.skip ?_
          repeat (refine W.seq ?_)
          refine W.regionD 140 149 (by decide) rfl mixed rfl ?_
          refine RW.opd rfl rfl (LO.move rfl rfl) ?_
          refine RW.opd rfl rfl (LO.move rfl rfl) ?_
          refine RW.opd rfl rfl (LO.indexAddr rfl rfl rfl rfl ty23 ty3 ?_) ?_; (· (first | omega | decide | assumption | fail | (simp; done) | (simp; omega)))
          refine RW.opd rfl rfl (LO.load rfl rfl rfl (ni_at (k := k) (by omega)) ty3 rfl) ?_
          refine RW.opd rfl rfl (LO.fieldAddr rfl rfl ty51 rfl (by decide)) ?_
          refine RW.opd rfl rfl (LO.load rfl rfl rfl rfl ty3 rfl) ?_
          refine RW.opd rfl rfl (LO.add_in rfl rfl rfl ?_) ?_; (· (first | exact IntWalk.i64_in _ (by omega) | assumption))
          refine RW.opd rfl rfl (LO.indexAddr rfl rfl rfl rfl ty23 ty3 ?_) ?_; (· (first | omega | decide | assumption | fail | (simp; done) | (simp; omega)))
          refine RW.opn rfl rfl (LO.store rfl rfl rfl rfl rfl ty3 rfl (by decide) (ns_at (k := k) (by omega))) ?_
          refine RW.nil ⟨by kernel_rfl, ?_⟩
          repeat (refine W.seq ?_)
          refine W.region 153 155 (by decide) rfl rfl ?_
          refine RW.opd rfl rfl (LO.add_in rfl rfl rfl ?_) ?_; (· (first | exact IntWalk.i64_in _ (by omega) | assumption))
          refine RW.opd rfl rfl (LO.move rfl rfl) ?_
          refine RW.nil ?_
          refine WL.rename [(0, 0), (1, 1), (2, 2), (3, 3)] 4 (by decide) ?_ ?_ (ihB ((j + 1), (s2.set k (gI s2 k + ls[i].r))) (show w.length - (j + 1) < w.length - j from by omega) (show (j + 1) ≤ w.length ∧ (s2.set k (gI s2 k + ls[i].r)) = addW s (w.take (j + 1)) ls[i].r ∧ SumOK f.links.length (8 * i + (j + 1)) (s2.set k (gI s2 k + ls[i].r)) from ⟨by omega, by rw [hsn, sI_nat], by rw [sI_nat] at hadd; exact hadd.mono (by omega)⟩))
          · (repeat' (first | exact all_mt | refine all_up ?_ ?_)) <;> first | exact .inl ⟨rfl, rfl⟩ | exact .inr ⟨rfl, fun _ h => by cases h⟩ | exact .inl ⟨rfl, by first | rfl | assumption | exact (intsC_pure _)⟩
          · (repeat' (first | exact all_mt | refine all_up ?_ ?_)) <;> first | exact ⟨rfl, _, rfl, .inr ⟨rfl, rfl⟩⟩ | exact ⟨rfl, _, rfl, .inl rfl⟩ | exact ⟨rfl, _, rfl, .inr ⟨rfl, by first | rfl | assumption | exact (intsC_pure _)⟩⟩
        · have g2 : decide ((j : Int) < (w.length : Int)) = false := decide_eq_false (by omega)
          obtain rfl : j = w.length := by omega
          rw [List.take_length] at hs2
          repeat (refine W.seq ?_)
          refine W.region 109 110 (by decide) rfl rfl ?_
          refine RW.opd rfl rfl (LO.lss rfl rfl rfl) ?_
          refine RW.nil ?_
          repeat (refine W.seq ?_)
          refine W.cond_f rfl (by first | rfl | assumption) ?_
          refine W.exit ?_
          repeat (refine W.seq ?_)
          refine W.region 159 161 (by decide) rfl rfl ?_
          refine RW.opd rfl rfl (LO.add_in rfl rfl rfl ?_) ?_; (· (first | exact IntWalk.i64_in _ (by omega) | assumption))
          refine RW.opd rfl rfl (LO.move rfl rfl) ?_
          refine RW.nil ?_
          refine WL.rename [(0, 0), (1, 1), (2, 2)] 3 (by decide) ?_ ?_ (ihA ((i + 1), s2) (show ls.length - (i + 1) < ls.length - i from by omega) (show (i + 1) ≤ ls.length ∧ s2 = sumsK g ls (i + 1) ∧ SumOK f.links.length (8 * (i + 1)) s2 from ⟨by omega, by rw [hnx, hs2], hso2.mono (by omega)⟩))
          · (repeat' (first | exact all_mt | refine all_up ?_ ?_)) <;> first | exact .inl ⟨rfl, rfl⟩ | exact .inr ⟨rfl, fun _ h => by cases h⟩ | exact .inl ⟨rfl, by first | rfl | assumption | exact (intsC_pure _)⟩
          · (repeat' (first | exact all_mt | refine all_up ?_ ?_)) <;> first | exact ⟨rfl, _, rfl, .inr ⟨rfl, rfl⟩⟩ | exact ⟨rfl, _, rfl, .inl rfl⟩ | exact ⟨rfl, _, rfl, .inr ⟨rfl, by first | rfl | assumption | exact (intsC_pure _)⟩⟩
    · have g1 : decide ((i : Int) < (ls.length : Int)) = false := decide_eq_false (by omega)
      obtain rfl : i = ls.length := by omega
      repeat (refine W.seq ?_)
      refine W.region 60 61 (by decide) rfl rfl ?_
      refine RW.opd rfl rfl (LO.lss rfl rfl rfl) ?_
      refine RW.nil ?_
      repeat (refine W.seq ?_)
      refine W.cond_f rfl (by first | rfl | assumption) ?_
      refine W.exit ?_
      repeat (refine W.seq ?_)
      refine W.region 165 168 (by decide) rfl rfl ?_
      refine RW.opd rfl rfl (LO.move rfl rfl) ?_
      refine RW.opd rfl rfl (LO.len rfl rfl ty23) ?_
      refine RW.opd rfl rfl (LO.move rfl rfl) ?_
      refine RW.nil ?_
      repeat (refine W.seq ?_)
      refine W.block ?_
      refine W.rename [(0, 0), (1, 2)] 2 (T' := up (up (up (up mt 3 (some (.own 0 0))) 81 (some (.osl 1 0 f.links.length 1))) 82 (some (.base (.int .i64 (f.links.length : Int))))) 83 (some (.base (.int .i64 (0 : Int))))) (H' := up (up mt 0 (some (fabC f))) 1 (some (intsC s))) (by decide) ?_ ?_ ?_
      · (repeat' (first | exact all_mt | refine all_up ?_ ?_)) <;> first | exact .inl ⟨rfl, rfl⟩ | exact .inr ⟨rfl, fun _ h => by cases h⟩ | exact .inl ⟨rfl, by first | rfl | assumption | exact (intsC_pure _)⟩
      · (repeat' (first | exact all_mt | refine all_up ?_ ?_)) <;> first | exact ⟨rfl, _, rfl, .inr ⟨rfl, rfl⟩⟩ | exact ⟨rfl, _, rfl, .inl rfl⟩ | exact ⟨rfl, _, rfl, .inr ⟨rfl, by first | rfl | assumption | exact (intsC_pure _)⟩⟩
      refine W.loop_ind (α := Nat) (fun x => f.links.length - x) 2 (fun x => up (up (up (up mt 3 (some (.own 0 0))) 81 (some (.osl 1 0 f.links.length 1))) 82 (some (.base (.int .i64 (f.links.length : Int))))) 83 (some (.base (.int .i64 (x : Int))))) (fun x => up (up mt 0 (some (fabC f))) 1 (some (intsC s))) (fun x => x ≤ f.links.length) 0 (show 0 ≤ f.links.length from Nat.zero_le _) ?_
      rintro k hIC ihC
      try (dsimp only at hIC)
      try dsimp only
      have hk : k ≤ f.links.length := hIC
      by_cases hck : k < f.links.length
      · have g2 : decide ((k : Int) < (f.links.length : Int)) = true := decide_eq_true (by omega)
        have hcp := b3 _ (List.getElem_mem hck)
        have hgk := hover k hck
        unfold overB at hgk
        rw [hlk, List.getElem?_eq_getElem hck, ← hs] at hgk
        dsimp only at hgk
        repeat (refine W.seq ?_)
        refine W.region 172 173 (by decide) rfl rfl ?_
        refine RW.opd rfl rfl (LO.lss rfl rfl rfl) ?_
        refine RW.nil ?_
        repeat (refine W.seq ?_)
        refine W.cond_t rfl (by first | rfl | assumption) ?_
        refine W.skip ?_
        repeat (refine W.seq ?_)
        refine W.block ?_
        repeat (refine W.seq ?_)
        refine W.region 177 182 (by decide) rfl rfl ?_
        refine RW.opd rfl rfl (LO.move rfl rfl) ?_
        refine RW.opd rfl rfl (LO.indexAddr rfl rfl rfl rfl ty23 ty3 ?_) ?_; (· (first | omega | decide | assumption | fail | (simp; done) | (simp; omega)))
        refine RW.opd rfl rfl (LO.load rfl rfl rfl (ni_at (k := k) (by omega)) ty3 rfl) ?_
        refine RW.opd rfl rfl (LO.assign rfl rfl) ?_
        refine RW.opd rfl rfl (LO.assign rfl rfl) ?_
        refine RW.nil ?_
        repeat (refine W.seq ?_)
        refine W.region 186 195 (by decide) rfl rfl ?_
        refine RW.opd rfl rfl (LO.move rfl rfl) ?_
        refine RW.opd rfl rfl (LO.fieldAddr rfl rfl ty28 rfl (by decide)) ?_
        refine RW.opd rfl rfl (LO.load rfl rfl rfl rfl ty25 rfl) ?_
        refine RW.opd rfl rfl (LO.move rfl rfl) ?_
        refine RW.opd rfl rfl (LO.indexAddr_isl rfl rfl rfl rfl rfl ty25 ty56 ?_) ?_; (· (first | omega | decide | assumption | fail | (simp; done) | (simp; omega)))
        refine RW.opd rfl rfl (LO.fieldAddr_imm rfl rfl ty56 rfl (by decide)) ?_
        refine RW.opd rfl rfl (LO.load_imm rfl rfl (lnksC_at hck).2.2 ty3 rfl) ?_
        refine RW.opd rfl rfl (LO.mul_in rfl rfl rfl ?_) ?_; (· (first | exact IntWalk.i64_in _ (by omega) | assumption))
        refine RW.opd rfl rfl (LO.gtr rfl rfl rfl) ?_
        refine RW.nil ?_
        repeat (refine W.seq ?_)
        refine W.cond_f rfl (by first | rfl | assumption) ?_
        refine W.skip ?_
        repeat (refine W.seq ?_)
        refine W.region 204 206 (by decide) rfl rfl ?_
        refine RW.opd rfl rfl (LO.add_in rfl rfl rfl ?_) ?_; (· (first | exact IntWalk.i64_in _ (by omega) | assumption))
        refine RW.opd rfl rfl (LO.move rfl rfl) ?_
        refine RW.nil ?_
        refine WL.rename [(0, 0), (1, 1)] 2 (by decide) ?_ ?_ (ihC (k + 1) (show f.links.length - (k + 1) < f.links.length - k from by omega) (show (k + 1) ≤ f.links.length from by omega))
        · (repeat' (first | exact all_mt | refine all_up ?_ ?_)) <;> first | exact .inl ⟨rfl, rfl⟩ | exact .inr ⟨rfl, fun _ h => by cases h⟩ | exact .inl ⟨rfl, by first | rfl | assumption | exact (intsC_pure _)⟩
        · (repeat' (first | exact all_mt | refine all_up ?_ ?_)) <;> first | exact ⟨rfl, _, rfl, .inr ⟨rfl, rfl⟩⟩ | exact ⟨rfl, _, rfl, .inl rfl⟩ | exact ⟨rfl, _, rfl, .inr ⟨rfl, by first | rfl | assumption | exact (intsC_pure _)⟩⟩
      · have g2 : decide ((k : Int) < (f.links.length : Int)) = false := decide_eq_false (by omega)
        repeat (refine W.seq ?_)
        refine W.region 172 173 (by decide) rfl rfl ?_
        refine RW.opd rfl rfl (LO.lss rfl rfl rfl) ?_
        refine RW.nil ?_
        repeat (refine W.seq ?_)
        refine W.cond_f rfl (by first | rfl | assumption) ?_
        refine W.exit ?_
        repeat (refine W.seq ?_)
        refine W.region 210 212 (by decide) rfl rfl ?_
        refine RW.opd rfl rfl (LO.call0 (fr := []) rfl rfl (haw) fok8 .nil rfl) ?_
        refine RW.opd rfl rfl (LO.assign rfl rfl) ?_
        refine RW.nil ?_
        repeat (refine W.seq ?_)
        refine W.ret ⟨.inl rfl, _, mt, RVs.cons (RV.tmp rfl) (RVs.nil), all_mt, ?_⟩
        exact ⟨rfl, rfl⟩
  · have k1 : (safeE f ls its != 0) = true := by simpa using hz
    repeat (refine W.seq ?_)
    refine W.region 20 25 (by decide) rfl rfl ?_
    refine RW.opd rfl rfl (LO.load_agg rfl rfl rfl ty28 rfl (Tk.lit rfl)) ?_
    refine RW.opd rfl rfl (LO.move rfl rfl) ?_
    refine RW.opd rfl rfl (LO.move rfl rfl) ?_
    refine RW.opd rfl rfl (LO.call0 (fr := []) rfl rfl (hsf) fok18 (.cons rfl (.pure rfl) (.cons rfl (.pure rfl) (.cons rfl (.pure rfl) .nil))) rfl) ?_
    refine RW.opd rfl rfl (LO.neq rfl rfl rfl) ?_
    refine RW.nil ?_
    repeat (refine W.seq ?_)
    refine W.cond_t rfl (by first | rfl | assumption) ?_
    repeat (refine W.seq ?_)
    refine W.region 29 31 (by decide) rfl rfl ?_
    refine RW.opd rfl rfl (LO.call0 (fr := []) rfl rfl (haw) fok8 .nil rfl) ?_
    refine RW.opd rfl rfl (LO.assign rfl rfl) ?_
    refine RW.nil ?_
    repeat (refine W.seq ?_)
    refine W.ret ⟨.inl rfl, _, mt, RVs.cons (RV.tmp rfl) (RVs.nil), all_mt, ?_⟩
    exact ⟨rfl, rfl⟩
end Go.Proofs.YtbjfaepjpmogjaaDoor
