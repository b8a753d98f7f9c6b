/-
  Distances: both texts.
-/
import Derived.Test.YtbjfaepjpmogjaaDoorFd
namespace Go.Proofs.YtbjfaepjpmogjaaDoor
open Go.RowKit

def wkF (f : Fab) : Nat → Bool := fun i => worksB f i
def dist (f : Fab) (to : Int) : List Int := distW f (wkF f) to
theorem dist_len (f : Fab) (to : Int) : (dist f to).length = f.dead.length := distW_len _ _
theorem wkF_minus (f : Fab) : (fun i : Nat => worksB f i && !((i : Int) == -1)) = wkF f := by
  funext i
  have : ((i : Int) == -1) = false := by simp
  simp [wkF, this]
theorem wkF_wf (f : Fab) : Wf f (wkF f) f.dead.length := wfWorks f _ fun _ h => h

theorem distances_own (f : Fab) (hf : FabS f) (to : Int) : AFn Tryd.prog 53 0 [.agg (fabC f), .base (.int .i64 to)] mt (.osl 0 0 f.dead.length 1) (up mt 0 (some (intsC (dist f to)))) := by
  refine AFn.eq Tryd.func53 rfl rfl (Nat.le_of_ble_eq_true rfl) ?_
  have hr := reach_own f hf to (-1)
  rw [wkF_minus] at hr
  repeat (refine W.seq ?_)
  refine W.region 0 2 (by decide) rfl rfl ?_
  refine RW.opd rfl rfl (LO.box rfl rfl rfl) ?_
  refine RW.opd rfl rfl (LO.assign rfl rfl) ?_
  refine RW.nil ?_
  repeat (refine W.seq ?_)
  refine W.region 6 10 (by decide) rfl rfl ?_
  refine RW.opd rfl rfl (LO.load_agg rfl rfl rfl ty28 rfl (Tk.lit rfl)) ?_
  refine RW.opd rfl rfl (LO.move rfl rfl) ?_
  refine RW.opd rfl rfl (LO.callO (fr := []) rfl rfl (hr) fok56 (.cons rfl (.pure rfl) (.cons rfl (.pure rfl) (.cons rfl (.pure rfl) .nil))) (intsC_pure _) (by decide)) ?_
  refine RW.opd rfl rfl (LO.assign rfl rfl) ?_
  refine RW.nil ?_
  refine W.rename [(0, 8)] 1 (T' := up mt 4 (some (.osl 0 0 (f.dead.length) 1))) (H' := up mt 0 (some (intsC (dist f to)))) (by decide) ?_ ?_ ?_
  · (repeat' (first | exact all_mt | refine all_up ?_ ?_)) <;> first | exact .inl ⟨rfl, rfl⟩ | exact .inr ⟨rfl, fun _ h => by cases h⟩ | exact .inl ⟨rfl, by first | rfl | assumption | exact (intsC_pure _)⟩
  · (repeat' (first | exact all_mt | refine all_up ?_ ?_)) <;> first | exact ⟨rfl, _, rfl, .inr ⟨rfl, rfl⟩⟩ | exact ⟨rfl, _, rfl, .inl rfl⟩ | exact ⟨rfl, _, rfl, .inr ⟨rfl, by first | rfl | assumption | exact (intsC_pure _)⟩⟩
  repeat (refine W.seq ?_)
  refine W.ret ⟨.inl rfl, _, up mt 0 (some (intsC (dist f to))), RVs.cons (RV.tmp rfl) RVs.nil, all_up rfl all_mt, ?_⟩
  exact ⟨rfl, rfl⟩
theorem distances_any (f : Fab) (hf : FabS f) (to : Int) : AFn Tryd.prog 53 0 [.agg (fabC f), .base (.int .i64 to)] mt (intsV (dist f to)) mt := by
  have := AFn.frozen (distances_own f hf to) (ints_tk (dist_len _ _)) (intsC_pure _)
  unfold intsV
  rwa [dist_len]

theorem distancesX_own (f : Fab) (hf : FabS f) (to : Int) : AFn Tryd.prog 40 0 [.agg (fabC f), .base (.int .i64 to)] mt (.osl 0 0 f.dead.length 1) (up mt 0 (some (intsC (dist f to)))) := by
  refine AFn.eq Tryd.func40 rfl rfl (Nat.le_of_ble_eq_true rfl) ?_
  have hdd := deadX_any f
  have hwk := worksX_any f
  obtain ⟨hsw, h8, h24⟩ := hf
  repeat (refine W.seq ?_)
  refine W.region 0 2 (by decide) rfl rfl ?_
  refine RW.opd rfl rfl (LO.box rfl rfl rfl) ?_
  refine RW.opd rfl rfl (LO.assign rfl rfl) ?_
  refine RW.nil ?_
  repeat (refine W.seq ?_)
  refine W.region 6 7 (by decide) rfl rfl ?_
  refine RW.opd rfl rfl (LO.assign rfl rfl) ?_
  refine RW.nil ?_
  repeat (refine W.seq ?_)
  refine W.region 11 14 (by decide) rfl rfl ?_
  refine RW.opd rfl rfl (LO.fieldAddr rfl rfl ty28 rfl (by decide)) ?_
  refine RW.opd rfl rfl (LO.load rfl rfl rfl rfl ty3 rfl) ?_
  refine RW.opd rfl rfl (LO.move rfl rfl) ?_
  refine RW.nil ?_
  refine W.name 14 (14 + 1) (t := 5) (sz := 1) rfl (by decide) (by decide) ?_
  repeat (refine W.seq ?_)
  refine W.block ?_
  refine W.rename [(0, 0), (1, 14)] 2 (T' := up (up (up (up (up mt 1 (some (.base (.int .i64 to)))) 2 (some (.own 0 0))) 5 (some (.osl 1 0 0 1))) 10 (some (.base (.int .i64 f.sw)))) 11 (some (.base (.int .i64 (0 : Int))))) (H' := up (up mt 0 (some (fabC f))) 1 (some (intsC (List.replicate 0 (-1))))) (by decide) ?_ ?_ ?_
  · (repeat' (first | exact all_mt | refine all_up ?_ ?_)) <;> first | exact .inl ⟨rfl, rfl⟩ | exact .inr ⟨rfl, fun _ h => by cases h⟩ | exact .inl ⟨rfl, by first | rfl | assumption | exact (intsC_pure _)⟩
  · (repeat' (first | exact all_mt | refine all_up ?_ ?_)) <;> first | exact ⟨rfl, _, rfl, .inr ⟨rfl, rfl⟩⟩ | exact ⟨rfl, _, rfl, .inl rfl⟩ | exact ⟨rfl, _, rfl, .inr ⟨rfl, by first | rfl | assumption | exact (intsC_pure _)⟩⟩
  refine W.loop_ind (α := Nat) (fun x => f.dead.length - x) 2 (fun x => up (up (up (up (up mt 1 (some (.base (.int .i64 to)))) 2 (some (.own 0 0))) 5 (some (.osl 1 0 x 1))) 10 (some (.base (.int .i64 f.sw)))) 11 (some (.base (.int .i64 (x : Int))))) (fun x => up (up mt 0 (some (fabC f))) 1 (some (intsC (List.replicate x (-1))))) (fun x => x ≤ f.dead.length) 0 (show 0 ≤ f.dead.length from Nat.zero_le _) ?_
  rintro j hIA ihA
  try (dsimp only at hIA)
  try dsimp only
  by_cases hc : j < f.dead.length
  · have g1 : decide ((j : Int) < f.sw) = true := decide_eq_true (by omega)
    repeat (refine W.seq ?_)
    refine W.region 18 19 (by decide) rfl rfl ?_
    refine RW.opd rfl rfl (LO.lss rfl rfl rfl) ?_
    refine RW.nil ?_
    repeat (refine W.seq ?_)
    refine W.cond_t rfl (by first | rfl | assumption) ?_
    refine W.skip ?_
    repeat (refine W.seq ?_)
    refine W.block ?_
    repeat (refine W.seq ?_)
    refine W.region 23 27 (by decide) rfl rfl ?_
    refine RW.opd rfl rfl (LO.move rfl rfl) ?_
    refine RW.opd rfl rfl (LO.buildSlice rfl ty23 ty3 (by decide) (by decide) (.cons rfl rfl rfl rfl (Sp.lit rfl) .nil)) ?_
    refine RW.opd rfl rfl (LO.append rfl rfl (SrcAV.own rfl rfl (Tk.lit rfl)) rfl (ints_tk (by simp)) ty23 ty23 ty3 (by decide) ?_ ?_ ?_) ?_; (· (first | omega | decide | assumption | fail | (simp; done) | (simp; omega))); (· (first | omega | decide | assumption | fail | (simp; done) | (simp; omega))); (· (first | decide | omega))
    refine RW.opd rfl rfl (LO.assign rfl rfl) ?_
    refine RW.nil ?_
    repeat (refine W.seq ?_)
    refine W.region 31 33 (by decide) rfl rfl ?_
    refine RW.opd rfl rfl (LO.add_in rfl rfl rfl ?_) ?_; (· (first | exact IntWalk.i64_in _ (by omega) | assumption))
    refine RW.opd rfl rfl (LO.move rfl rfl) ?_
    refine RW.nil ?_
    rw [ints_snoc, ← List.replicate_succ']
    refine WL.rename [(0, 0), (1, 25)] 2 (by decide) ?_ ?_ (ihA (j + 1) (show f.dead.length - (j + 1) < f.dead.length - j from by omega) (show (j + 1) ≤ f.dead.length from by omega))
    · (repeat' (first | exact all_mt | refine all_up ?_ ?_)) <;> first | exact .inl ⟨rfl, rfl⟩ | exact .inr ⟨rfl, fun _ h => by cases h⟩ | exact .inl ⟨rfl, by first | rfl | assumption | exact (intsC_pure _)⟩
    · (repeat' (first | exact all_mt | refine all_up ?_ ?_)) <;> first | exact ⟨rfl, _, rfl, .inr ⟨rfl, rfl⟩⟩ | exact ⟨rfl, _, rfl, .inl rfl⟩ | exact ⟨rfl, _, rfl, .inr ⟨rfl, by first | rfl | assumption | exact (intsC_pure _)⟩⟩
  · have g1 : decide ((j : Int) < f.sw) = false := decide_eq_false (by omega)
    repeat (refine W.seq ?_)
    refine W.region 18 19 (by decide) rfl rfl ?_
    refine RW.opd rfl rfl (LO.lss rfl rfl rfl) ?_
    refine RW.nil ?_
    repeat (refine W.seq ?_)
    refine W.cond_f rfl (by first | rfl | assumption) ?_
    refine W.exit ?_
    obtain rfl : j = f.dead.length := by omega
    clear ihA hIA hc g1
    cases ha : aliveB f to with
    | false =>
      have ha1 : (!aliveB f to) = true := by rw [ha]; rfl
      repeat (refine W.seq ?_)
      refine W.region 37 40 (by decide) rfl rfl ?_
      refine RW.opd rfl rfl (LO.load_agg rfl rfl rfl ty28 rfl (Tk.lit rfl)) ?_
      refine RW.opd rfl rfl (LO.move rfl rfl) ?_
      refine RW.opd rfl rfl (LO.call0 (fr := []) rfl rfl (hdd _) fok39 (.cons rfl (.pure rfl) (.cons rfl (.pure rfl) .nil)) rfl) ?_
      refine RW.nil ?_
      repeat (refine W.seq ?_)
      refine W.cond_t rfl (by first | rfl | assumption) ?_
      repeat (refine W.seq ?_)
      refine W.region 44 46 (by decide) rfl rfl ?_
      refine RW.opd rfl rfl (LO.move rfl rfl) ?_
      refine RW.opd rfl rfl (LO.assign rfl rfl) ?_
      refine RW.nil ?_
      refine W.rename [(0, 1)] 1 (T' := up mt 4 (some (.osl 0 0 (f.dead.length) 1))) (H' := up mt 0 (some (intsC (List.replicate f.dead.length (-1))))) (by decide) ?_ ?_ ?_
      · (repeat' (first | exact all_mt | refine all_up ?_ ?_)) <;> first | exact .inl ⟨rfl, rfl⟩ | exact .inr ⟨rfl, fun _ h => by cases h⟩ | exact .inl ⟨rfl, by first | rfl | assumption | exact (intsC_pure _)⟩
      · (repeat' (first | exact all_mt | refine all_up ?_ ?_)) <;> first | exact ⟨rfl, _, rfl, .inr ⟨rfl, rfl⟩⟩ | exact ⟨rfl, _, rfl, .inl rfl⟩ | exact ⟨rfl, _, rfl, .inr ⟨rfl, by first | rfl | assumption | exact (intsC_pure _)⟩⟩
      repeat (refine W.seq ?_)
      refine W.ret ⟨.inl rfl, _, up mt 0 (some (intsC (List.replicate f.dead.length (-1)))), RVs.cons (RV.tmp rfl) RVs.nil, all_up rfl all_mt, ?_⟩
      exact ⟨rfl, by unfold dist; rw [distW_dead ha]⟩
    | true =>
      have ha1 : (!aliveB f to) = false := by rw [ha]; rfl
      obtain ⟨h0, h1⟩ := aliveB_lt ha
      repeat (refine W.seq ?_)
      refine W.region 37 40 (by decide) rfl rfl ?_
      refine RW.opd rfl rfl (LO.load_agg rfl rfl rfl ty28 rfl (Tk.lit rfl)) ?_
      refine RW.opd rfl rfl (LO.move rfl rfl) ?_
      refine RW.opd rfl rfl (LO.call0 (fr := []) rfl rfl (hdd _) fok39 (.cons rfl (.pure rfl) (.cons rfl (.pure rfl) .nil)) rfl) ?_
      refine RW.nil ?_
      repeat (refine W.seq ?_)
      refine W.cond_f rfl (by first | rfl | assumption) ?_
      refine W.skip ?_
      repeat (refine W.seq ?_)
      refine W.region 50 54 (by decide) rfl rfl ?_
      refine RW.opd rfl rfl (LO.move rfl rfl) ?_
      refine RW.opd rfl rfl (LO.move rfl rfl) ?_
      refine RW.opd rfl rfl (LO.indexAddr rfl rfl rfl (Int.toNat_of_nonneg h0).symm ty23 ty3 ?_) ?_; (· (first | omega | decide | assumption | fail | (simp; done) | (simp; omega)))
      refine RW.opn rfl rfl (LO.store rfl rfl rfl rfl rfl ty3 rfl (by decide) (si_at h0 (by simpa using h1))) ?_
      refine RW.nil ?_
      repeat (refine W.seq ?_)
      refine W.region 58 61 (by decide) rfl rfl ?_
      refine RW.opd rfl rfl (LO.fieldAddr rfl rfl ty28 rfl (by decide)) ?_
      refine RW.opd rfl rfl (LO.load rfl rfl rfl rfl ty3 rfl) ?_
      refine RW.opd rfl rfl (LO.move rfl rfl) ?_
      refine RW.nil ?_
      repeat (refine W.seq ?_)
      refine W.block ?_
      have hw := wkF_wf f
      refine W.rename [(0, 0), (1, 1)] 2 (T' := up (up (up (up mt 2 (some (.own 0 0))) 5 (some (.osl 1 0 f.dead.length 1))) 25 (some (.base (.int .i64 f.sw)))) 26 (some (.base (.int .i64 (0 : Int))))) (H' := up (up mt 0 (some (fabC f))) 1 (some (intsC (sI (List.replicate f.dead.length (-1)) to 0)))) (by decide) ?_ ?_ ?_
      · (repeat' (first | exact all_mt | refine all_up ?_ ?_)) <;> first | exact .inl ⟨rfl, rfl⟩ | exact .inr ⟨rfl, fun _ h => by cases h⟩ | exact .inl ⟨rfl, by first | rfl | assumption | exact (intsC_pure _)⟩
      · (repeat' (first | exact all_mt | refine all_up ?_ ?_)) <;> first | exact ⟨rfl, _, rfl, .inr ⟨rfl, rfl⟩⟩ | exact ⟨rfl, _, rfl, .inl rfl⟩ | exact ⟨rfl, _, rfl, .inr ⟨rfl, by first | rfl | assumption | exact (intsC_pure _)⟩⟩
      refine W.loop_ind (α := Nat × List Int) (fun x => f.dead.length - x.1) 2 (fun x => up (up (up (up mt 2 (some (.own 0 0))) 5 (some (.osl 1 0 f.dead.length 1))) 25 (some (.base (.int .i64 f.sw)))) 26 (some (.base (.int .i64 (x.1 : Int))))) (fun x => up (up mt 0 (some (fabC f))) 1 (some (intsC x.2))) (fun x => (x.1 ≤ f.dead.length ∧ x.2.length = f.dead.length) ∧ x.2 = (List.range x.1).foldl (roundL f (wkF f)) (sI (List.replicate f.dead.length (-1)) to 0)) (0, (sI (List.replicate f.dead.length (-1)) to 0)) (show (0 ≤ f.dead.length ∧ (sI (List.replicate f.dead.length (-1)) to 0).length = f.dead.length) ∧ (sI (List.replicate f.dead.length (-1)) to 0) = (List.range 0).foldl (roundL f (wkF f)) (sI (List.replicate f.dead.length (-1)) to 0) from ⟨⟨Nat.zero_le _, by rw [sI_len, List.length_replicate]⟩, rfl⟩) ?_
      rintro ⟨j, d⟩ hIB ihB
      try (dsimp only at hIB)
      try dsimp only
      obtain ⟨⟨hj, hdl⟩, hd⟩ := hIB
      by_cases hc : j < f.dead.length
      · have g1 : decide ((j : Int) < f.sw) = true := decide_eq_true (by omega)
        repeat (refine W.seq ?_)
        refine W.region 65 66 (by decide) rfl rfl ?_
        refine RW.opd rfl rfl (LO.lss rfl rfl rfl) ?_
        refine RW.nil ?_
        repeat (refine W.seq ?_)
        refine W.cond_t rfl (by first | rfl | assumption) ?_
        refine W.skip ?_
        repeat (refine W.seq ?_)
        refine W.block ?_
        repeat (refine W.seq ?_)
        refine W.region 70 72 (by decide) rfl rfl ?_
        refine RW.opd rfl rfl (LO.move rfl rfl) ?_
        refine RW.opd rfl rfl (LO.assign rfl rfl) ?_
        refine RW.nil ?_
        repeat (refine W.seq ?_)
        refine W.region 76 80 (by decide) rfl rfl ?_
        refine RW.opd rfl rfl (LO.fieldAddr rfl rfl ty28 rfl (by decide)) ?_
        refine RW.opd rfl rfl (LO.load rfl rfl rfl rfl ty25 rfl) ?_
        refine RW.opd rfl rfl (LO.len_isl rfl rfl rfl ty25) ?_
        refine RW.opd rfl rfl (LO.move rfl rfl) ?_
        refine RW.nil ?_
        repeat (refine W.seq ?_)
        refine W.block ?_
        refine W.rename [(0, 0), (1, 1)] 2 (T' := up (up (up (up (up (up (up (up mt 2 (some (.own 0 0))) 5 (some (.osl 1 0 f.dead.length 1))) 6 (some (.base (.int .i64 (j : Int))))) 25 (some (.base (.int .i64 f.sw)))) 26 (some (.base (.int .i64 (j : Int))))) 30 (some (.isl (lnksC f.links) f.links.length))) 31 (some (.base (.int .i64 (f.links.length : Int))))) 32 (some (.base (.int .i64 (0 : Int))))) (H' := up (up mt 0 (some (fabC f))) 1 (some (intsC d))) (by decide) ?_ ?_ ?_
        · (repeat' (first | exact all_mt | refine all_up ?_ ?_)) <;> first | exact .inl ⟨rfl, rfl⟩ | exact .inr ⟨rfl, fun _ h => by cases h⟩ | exact .inl ⟨rfl, by first | rfl | assumption | exact (intsC_pure _)⟩
        · (repeat' (first | exact all_mt | refine all_up ?_ ?_)) <;> first | exact ⟨rfl, _, rfl, .inr ⟨rfl, rfl⟩⟩ | exact ⟨rfl, _, rfl, .inl rfl⟩ | exact ⟨rfl, _, rfl, .inr ⟨rfl, by first | rfl | assumption | exact (intsC_pure _)⟩⟩
        refine W.loop_ind (α := Nat × List Int) (fun x => f.links.length - x.1) 2 (fun x => up (up (up (up (up (up (up (up mt 2 (some (.own 0 0))) 5 (some (.osl 1 0 f.dead.length 1))) 6 (some (.base (.int .i64 (j : Int))))) 25 (some (.base (.int .i64 f.sw)))) 26 (some (.base (.int .i64 (j : Int))))) 30 (some (.isl (lnksC f.links) f.links.length))) 31 (some (.base (.int .i64 (f.links.length : Int))))) 32 (some (.base (.int .i64 (x.1 : Int))))) (fun x => up (up mt 0 (some (fabC f))) 1 (some (intsC x.2))) (fun x => (x.1 ≤ f.links.length ∧ x.2.length = f.dead.length) ∧ x.2 = (List.range x.1).foldl (stepL f (wkF f) j) d) (0, d) (show (0 ≤ f.links.length ∧ d.length = f.dead.length) ∧ d = (List.range 0).foldl (stepL f (wkF f) j) d from ⟨⟨Nat.zero_le _, hdl⟩, rfl⟩) ?_
        rintro ⟨i, d1⟩ hIC ihC
        try (dsimp only at hIC)
        try dsimp only
        obtain ⟨⟨hi, hdl1⟩, hd1⟩ := hIC
        by_cases hc2 : i < f.links.length
        · have g4 : decide ((i : Int) < (f.links.length : Int)) = true := decide_eq_true (by omega)
          have hl : f.links[i]? = some f.links[i] := by simp [hc2]
          have hfold : ∀ e, e = stepL f (wkF f) j d1 i → e = (List.range (i + 1)).foldl (stepL f (wkF f) j) d := fun e he => by rw [List.range_succ, List.foldl_append, ← hd1, he]; rfl
          repeat (refine W.seq ?_)
          refine W.region 84 85 (by decide) rfl rfl ?_
          refine RW.opd rfl rfl (LO.lss rfl rfl rfl) ?_
          refine RW.nil ?_
          repeat (refine W.seq ?_)
          refine W.cond_t rfl (by first | rfl | assumption) ?_
          refine W.skip ?_
          repeat (refine W.seq ?_)
          refine W.block ?_
          repeat (refine W.seq ?_)
          refine W.region 89 95 (by decide) rfl rfl ?_
          refine RW.opd rfl rfl (LO.move rfl rfl) ?_
          refine RW.opd rfl rfl (LO.indexAddr_isl rfl rfl rfl rfl rfl ty25 ty56 ?_) ?_; (· (first | omega | decide | assumption | fail | (simp; done) | (simp; omega)))
          refine RW.opd rfl rfl (LO.load_imm_agg rfl rfl ty56 rfl (lnksC_tk hc2)) ?_
          refine RW.opd rfl rfl (LO.alloc rfl ty56) ?_
          refine RW.opd rfl rfl (LO.assign rfl rfl) ?_
          refine RW.opn rfl rfl (LO.store rfl rfl rfl rfl rfl ty56 rfl (by decide) (Sp.lit rfl)) ?_
          refine RW.nil ?_
          cases hwi : worksB f i with
          | false =>
            have g6 : (!worksB f i) = true := by rw [hwi]; rfl
            repeat (refine W.seq ?_)
            refine W.region 99 103 (by decide) rfl rfl ?_
            refine RW.opd rfl rfl (LO.load_agg rfl rfl rfl ty28 rfl (Tk.lit rfl)) ?_
            refine RW.opd rfl rfl (LO.move rfl rfl) ?_
            refine RW.opd rfl rfl (LO.call0 (fr := []) rfl rfl (hwk _) fok21 (.cons rfl (.pure rfl) (.cons rfl (.pure rfl) .nil)) rfl) ?_
            refine RW.opd rfl rfl (LO.not rfl rfl) ?_
            refine RW.nil ?_
            repeat (refine W.seq ?_)
            refine W.cond_t rfl (by first | rfl | assumption) ?_
            refine W.exit ?_
            repeat (refine W.seq ?_)
            refine W.region 167 169 (by decide) rfl rfl ?_
            refine RW.opd rfl rfl (LO.add_in rfl rfl rfl ?_) ?_; (· (first | exact IntWalk.i64_in _ (by omega) | assumption))
            refine RW.opd rfl rfl (LO.move rfl rfl) ?_
            refine RW.nil ?_
            refine WL.rename [(0, 0), (1, 1)] 2 (by decide) ?_ ?_ (ihC ((i + 1), d1) (show f.links.length - (i + 1) < f.links.length - i from by omega) (show ((i + 1) ≤ f.links.length ∧ d1.length = f.dead.length) ∧ d1 = (List.range (i + 1)).foldl (stepL f (wkF f) j) d from ⟨⟨by omega, hdl1⟩, hfold _ (by unfold stepL wkF; rw [hl]; simp only [hwi, Bool.false_eq_true, if_false])⟩))
            · (repeat' (first | exact all_mt | refine all_up ?_ ?_)) <;> first | exact .inl ⟨rfl, rfl⟩ | exact .inr ⟨rfl, fun _ h => by cases h⟩ | exact .inl ⟨rfl, by first | rfl | assumption | exact (intsC_pure _)⟩
            · (repeat' (first | exact all_mt | refine all_up ?_ ?_)) <;> first | exact ⟨rfl, _, rfl, .inr ⟨rfl, rfl⟩⟩ | exact ⟨rfl, _, rfl, .inl rfl⟩ | exact ⟨rfl, _, rfl, .inr ⟨rfl, by first | rfl | assumption | exact (intsC_pure _)⟩⟩
          | true =>
            have g6 : (!worksB f i) = false := by rw [hwi]; rfl
            obtain ⟨x1, x2, x3, x4⟩ := hw i _ hl hwi
            repeat (refine W.seq ?_)
            refine W.region 99 103 (by decide) rfl rfl ?_
            refine RW.opd rfl rfl (LO.load_agg rfl rfl rfl ty28 rfl (Tk.lit rfl)) ?_
            refine RW.opd rfl rfl (LO.move rfl rfl) ?_
            refine RW.opd rfl rfl (LO.call0 (fr := []) rfl rfl (hwk _) fok21 (.cons rfl (.pure rfl) (.cons rfl (.pure rfl) .nil)) rfl) ?_
            refine RW.opd rfl rfl (LO.not rfl rfl) ?_
            refine RW.nil ?_
            repeat (refine W.seq ?_)
            refine W.cond_f rfl (by first | rfl | assumption) ?_
            refine W.skip ?_
            obtain ⟨l, hlk⟩ : ∃ l, f.links[i] = l := ⟨_, rfl⟩
            rw [hlk] at hl x1 x2 x3 x4 ⊢
            unfold lnkC
            obtain ⟨la, lb, lc⟩ := l
            dsimp only at x1 x2 x3 x4 ⊢
            have hst : ∀ d2, d2 = (if gI d1 la = j ∧ gI d1 lb < 0 then sI d1 lb (j + 1) else d1) → stepL f (wkF f) j d1 i = if gI d2 lb = j ∧ gI d2 la < 0 then sI d2 la (j + 1) else d2 := by
              intro d2 h2; rw [h2]; unfold stepL; rw [hl]; simp only [show wkF f i = true from hwi, if_true]
            rcases (show (gI d1 la = j ∧ gI d1 lb < 0) ∨ (gI d1 la = j ∧ ¬ gI d1 lb < 0) ∨ ¬ gI d1 la = j by omega) with ⟨e1, e2⟩ | ⟨e1, e2⟩ | e1
            case' inl =>
              have g7 : (gI d1 la == (j : Int)) = true := by simp [e1]
              have g8 : decide (gI d1 lb < 0) = true := decide_eq_true e2
              repeat (refine W.seq ?_)
              refine W.region 107 122 (by decide) rfl rfl ?_
              refine RW.opd rfl rfl (LO.move rfl rfl) ?_
              refine RW.opd rfl rfl (LO.fieldAddr rfl rfl ty56 rfl (by decide)) ?_
              refine RW.opd rfl rfl (LO.load rfl rfl rfl rfl ty3 rfl) ?_
              refine RW.opd rfl rfl (LO.indexAddr rfl rfl rfl (Int.toNat_of_nonneg x1).symm ty23 ty3 ?_) ?_; (· (first | omega | decide | assumption | fail | (simp; done) | (simp; omega)))
              refine RW.opd rfl rfl (LO.load rfl rfl rfl (gi_at x1 (by omega)) ty3 rfl) ?_
              refine RW.opd rfl rfl (LO.move rfl rfl) ?_
              refine RW.opd rfl rfl (LO.eql rfl rfl rfl) ?_
              refine RW.opd rfl rfl (LO.move rfl rfl) ?_
              refine RW.gd rfl rfl rfl ?_ rfl (LO.move rfl rfl) ?_; (· (first | rfl | assumption))
              refine RW.gd rfl rfl rfl ?_ rfl (LO.fieldAddr rfl rfl ty56 rfl (by decide)) ?_; (· (first | rfl | assumption))
              refine RW.gd rfl rfl rfl ?_ rfl (LO.load rfl rfl rfl rfl ty3 rfl) ?_; (· (first | rfl | assumption))
              refine RW.gd rfl rfl rfl ?_ rfl (LO.indexAddr rfl rfl rfl (Int.toNat_of_nonneg x3).symm ty23 ty3 ?_) ?_; (· (first | rfl | assumption)); (· (first | omega | decide | assumption | fail | (simp; done) | (simp; omega)))
              refine RW.gd rfl rfl rfl ?_ rfl (LO.load rfl rfl rfl (gi_at x3 (by omega)) ty3 rfl) ?_; (· (first | rfl | assumption))
              refine RW.gd rfl rfl rfl ?_ rfl (LO.lss rfl rfl rfl) ?_; (· (first | rfl | assumption))
              refine RW.opd rfl rfl (LO.pick_t rfl rfl ?_ rfl) ?_; (· (first | rfl | assumption))
              refine RW.nil ?_
              repeat (refine W.seq ?_)
              refine W.cond_t rfl (by first | rfl | assumption) ?_
              repeat (refine W.seq ?_)
              refine W.region 126 133 (by decide) rfl rfl ?_
              refine RW.opd rfl rfl (LO.move rfl rfl) ?_
              refine RW.opd rfl rfl (LO.fieldAddr rfl rfl ty56 rfl (by decide)) ?_
              refine RW.opd rfl rfl (LO.load rfl rfl rfl rfl ty3 rfl) ?_
              refine RW.opd rfl rfl (LO.move rfl rfl) ?_
              refine RW.opd rfl rfl (LO.add_in rfl rfl rfl ?_) ?_; (· (first | exact IntWalk.i64_in _ (by omega) | assumption))
              refine RW.opd rfl rfl (LO.indexAddr rfl rfl rfl (Int.toNat_of_nonneg x3).symm ty23 ty3 ?_) ?_; (· (first | omega | decide | assumption | fail | (simp; done) | (simp; omega)))
              refine RW.opn rfl rfl (LO.store rfl rfl rfl rfl rfl ty3 rfl (by decide) (si_at x3 (by omega))) ?_
              refine RW.nil ?_
              obtain ⟨d2, hd2⟩ : ∃ d2, d2 = sI d1 lb ((j : Int) + 1) := ⟨_, rfl⟩
              rw [← hd2]
              have hst := hst d2 (by rw [if_pos ⟨e1, e2⟩]; exact hd2)
              have hdl2 : d2.length = f.dead.length := by rw [hd2, sI_len, hdl1]
            case' inr.inl =>
              have g7 : (gI d1 la == (j : Int)) = true := by simp [e1]
              have g8 : decide (gI d1 lb < 0) = false := decide_eq_false e2
              repeat (refine W.seq ?_)
              refine W.region 107 122 (by decide) rfl rfl ?_
              refine RW.opd rfl rfl (LO.move rfl rfl) ?_
              refine RW.opd rfl rfl (LO.fieldAddr rfl rfl ty56 rfl (by decide)) ?_
              refine RW.opd rfl rfl (LO.load rfl rfl rfl rfl ty3 rfl) ?_
              refine RW.opd rfl rfl (LO.indexAddr rfl rfl rfl (Int.toNat_of_nonneg x1).symm ty23 ty3 ?_) ?_; (· (first | omega | decide | assumption | fail | (simp; done) | (simp; omega)))
              refine RW.opd rfl rfl (LO.load rfl rfl rfl (gi_at x1 (by omega)) ty3 rfl) ?_
              refine RW.opd rfl rfl (LO.move rfl rfl) ?_
              refine RW.opd rfl rfl (LO.eql rfl rfl rfl) ?_
              refine RW.opd rfl rfl (LO.move rfl rfl) ?_
              refine RW.gd rfl rfl rfl ?_ rfl (LO.move rfl rfl) ?_; (· (first | rfl | assumption))
              refine RW.gd rfl rfl rfl ?_ rfl (LO.fieldAddr rfl rfl ty56 rfl (by decide)) ?_; (· (first | rfl | assumption))
              refine RW.gd rfl rfl rfl ?_ rfl (LO.load rfl rfl rfl rfl ty3 rfl) ?_; (· (first | rfl | assumption))
              refine RW.gd rfl rfl rfl ?_ rfl (LO.indexAddr rfl rfl rfl (Int.toNat_of_nonneg x3).symm ty23 ty3 ?_) ?_; (· (first | rfl | assumption)); (· (first | omega | decide | assumption | fail | (simp; done) | (simp; omega)))
              refine RW.gd rfl rfl rfl ?_ rfl (LO.load rfl rfl rfl (gi_at x3 (by omega)) ty3 rfl) ?_; (· (first | rfl | assumption))
              refine RW.gd rfl rfl rfl ?_ rfl (LO.lss rfl rfl rfl) ?_; (· (first | rfl | assumption))
              refine RW.opd rfl rfl (LO.pick_t rfl rfl ?_ rfl) ?_; (· (first | rfl | assumption))
              refine RW.nil ?_
              repeat (refine W.seq ?_)
              refine W.cond_f rfl (by first | rfl | assumption) ?_
              refine W.skip ?_
              obtain ⟨d2, hd2⟩ : ∃ d2, d2 = d1 := ⟨_, rfl⟩
              rw [← hd2]
              have hst := hst d2 (by rw [if_neg (fun h => e2 h.2)]; exact hd2)
              have hdl2 : d2.length = f.dead.length := by rw [hd2, hdl1]
            case' inr.inr =>
              have g7 : (gI d1 la == (j : Int)) = false := by simp [e1]
              repeat (refine W.seq ?_)
              refine W.region 107 122 (by decide) rfl rfl ?_
              refine RW.opd rfl rfl (LO.move rfl rfl) ?_
              refine RW.opd rfl rfl (LO.fieldAddr rfl rfl ty56 rfl (by decide)) ?_
              refine RW.opd rfl rfl (LO.load rfl rfl rfl rfl ty3 rfl) ?_
              refine RW.opd rfl rfl (LO.indexAddr rfl rfl rfl (Int.toNat_of_nonneg x1).symm ty23 ty3 ?_) ?_; (· (first | omega | decide | assumption | fail | (simp; done) | (simp; omega)))
              refine RW.opd rfl rfl (LO.load rfl rfl rfl (gi_at x1 (by omega)) ty3 rfl) ?_
              refine RW.opd rfl rfl (LO.move rfl rfl) ?_
              refine RW.opd rfl rfl (LO.eql rfl rfl rfl) ?_
              refine RW.opd rfl rfl (LO.move rfl rfl) ?_
              refine RW.sd rfl rfl rfl ?_ rfl ?_; (· (first | rfl | assumption))
              refine RW.sd rfl rfl rfl ?_ rfl ?_; (· (first | rfl | assumption))
              refine RW.sd rfl rfl rfl ?_ rfl ?_; (· (first | rfl | assumption))
              refine RW.sd rfl rfl rfl ?_ rfl ?_; (· (first | rfl | assumption))
              refine RW.sd rfl rfl rfl ?_ rfl ?_; (· (first | rfl | assumption))
              refine RW.sd rfl rfl rfl ?_ rfl ?_; (· (first | rfl | assumption))
              refine RW.opd rfl rfl (LO.pick_f rfl rfl ?_ rfl) ?_; (· (first | rfl | assumption))
              refine RW.nil ?_
              repeat (refine W.seq ?_)
              refine W.cond_f rfl (by first | rfl | assumption) ?_
              refine W.skip ?_
              obtain ⟨d2, hd2⟩ : ∃ d2, d2 = d1 := ⟨_, rfl⟩
              rw [← hd2]
              have hst := hst d2 (by rw [if_neg (fun h => e1 h.1)]; exact hd2)
              have hdl2 : d2.length = f.dead.length := by rw [hd2, hdl1]
            all_goals
              by_cases e3 : gI d2 lb = j
              · have g9 : (gI d2 lb == (j : Int)) = true := by simp [e3]
                by_cases e4 : gI d2 la < 0
                · have g10 : decide (gI d2 la < 0) = true := decide_eq_true e4
                  repeat (refine W.seq ?_)
                  refine W.region 137 152 (by decide) rfl rfl ?_
                  refine RW.opd rfl rfl (LO.move rfl rfl) ?_
                  refine RW.opd rfl rfl (LO.fieldAddr rfl rfl ty56 rfl (by decide)) ?_
                  refine RW.opd rfl rfl (LO.load rfl rfl rfl rfl ty3 rfl) ?_
                  refine RW.opd rfl rfl (LO.indexAddr rfl rfl rfl (Int.toNat_of_nonneg x3).symm ty23 ty3 ?_) ?_; (· (first | omega | decide | assumption | fail | (simp; done) | (simp; omega)))
                  refine RW.opd rfl rfl (LO.load rfl rfl rfl (gi_at x3 (by omega)) ty3 rfl) ?_
                  refine RW.opd rfl rfl (LO.move rfl rfl) ?_
                  refine RW.opd rfl rfl (LO.eql rfl rfl rfl) ?_
                  refine RW.opd rfl rfl (LO.move rfl rfl) ?_
                  refine RW.gd rfl rfl rfl ?_ rfl (LO.move rfl rfl) ?_; (· (first | rfl | assumption))
                  refine RW.gd rfl rfl rfl ?_ rfl (LO.fieldAddr rfl rfl ty56 rfl (by decide)) ?_; (· (first | rfl | assumption))
                  refine RW.gd rfl rfl rfl ?_ rfl (LO.load rfl rfl rfl rfl ty3 rfl) ?_; (· (first | rfl | assumption))
                  refine RW.gd rfl rfl rfl ?_ rfl (LO.indexAddr rfl rfl rfl (Int.toNat_of_nonneg x1).symm ty23 ty3 ?_) ?_; (· (first | rfl | assumption)); (· (first | omega | decide | assumption | fail | (simp; done) | (simp; omega)))
                  refine RW.gd rfl rfl rfl ?_ rfl (LO.load rfl rfl rfl (gi_at x1 (by omega)) ty3 rfl) ?_; (· (first | rfl | assumption))
                  refine RW.gd rfl rfl rfl ?_ rfl (LO.lss rfl rfl rfl) ?_; (· (first | rfl | assumption))
                  refine RW.opd rfl rfl (LO.pick_t rfl rfl ?_ rfl) ?_; (· (first | rfl | assumption))
                  refine RW.nil ?_
                  repeat (refine W.seq ?_)
                  refine W.cond_t rfl (by first | rfl | assumption) ?_
                  repeat (refine W.seq ?_)
                  refine W.region 156 163 (by decide) rfl rfl ?_
                  refine RW.opd rfl rfl (LO.move rfl rfl) ?_
                  refine RW.opd rfl rfl (LO.fieldAddr rfl rfl ty56 rfl (by decide)) ?_
                  refine RW.opd rfl rfl (LO.load rfl rfl rfl rfl ty3 rfl) ?_
                  refine RW.opd rfl rfl (LO.move rfl rfl) ?_
                  refine RW.opd rfl rfl (LO.add_in rfl rfl rfl ?_) ?_; (· (first | exact IntWalk.i64_in _ (by omega) | assumption))
                  refine RW.opd rfl rfl (LO.indexAddr rfl rfl rfl (Int.toNat_of_nonneg x1).symm ty23 ty3 ?_) ?_; (· (first | omega | decide | assumption | fail | (simp; done) | (simp; omega)))
                  refine RW.opn rfl rfl (LO.store rfl rfl rfl rfl rfl ty3 rfl (by decide) (si_at x1 (by omega))) ?_
                  refine RW.nil ?_
                  repeat (refine W.seq ?_)
                  refine W.region 167 169 (by decide) rfl rfl ?_
                  refine RW.opd rfl rfl (LO.add_in rfl rfl rfl ?_) ?_; (· (first | exact IntWalk.i64_in _ (by omega) | assumption))
                  refine RW.opd rfl rfl (LO.move rfl rfl) ?_
                  refine RW.nil ?_
                  rw [if_pos ⟨e3, e4⟩] at hst
                  refine WL.rename [(0, 0), (1, 1)] 2 (by decide) ?_ ?_ (ihC ((i + 1), (sI d2 la ((j : Int) + 1))) (show f.links.length - (i + 1) < f.links.length - i from by omega) (show ((i + 1) ≤ f.links.length ∧ (sI d2 la ((j : Int) + 1)).length = f.dead.length) ∧ (sI d2 la ((j : Int) + 1)) = (List.range (i + 1)).foldl (stepL f (wkF f) j) d from ⟨⟨by omega, by rw [sI_len, hdl2]⟩, hfold _ hst.symm⟩))
                  · (repeat' (first | exact all_mt | refine all_up ?_ ?_)) <;> first | exact .inl ⟨rfl, rfl⟩ | exact .inr ⟨rfl, fun _ h => by cases h⟩ | exact .inl ⟨rfl, by first | rfl | assumption | exact (intsC_pure _)⟩
                  · (repeat' (first | exact all_mt | refine all_up ?_ ?_)) <;> first | exact ⟨rfl, _, rfl, .inr ⟨rfl, rfl⟩⟩ | exact ⟨rfl, _, rfl, .inl rfl⟩ | exact ⟨rfl, _, rfl, .inr ⟨rfl, by first | rfl | assumption | exact (intsC_pure _)⟩⟩
                · have g10 : decide (gI d2 la < 0) = false := decide_eq_false e4
                  repeat (refine W.seq ?_)
                  refine W.region 137 152 (by decide) rfl rfl ?_
                  refine RW.opd rfl rfl (LO.move rfl rfl) ?_
                  refine RW.opd rfl rfl (LO.fieldAddr rfl rfl ty56 rfl (by decide)) ?_
                  refine RW.opd rfl rfl (LO.load rfl rfl rfl rfl ty3 rfl) ?_
                  refine RW.opd rfl rfl (LO.indexAddr rfl rfl rfl (Int.toNat_of_nonneg x3).symm ty23 ty3 ?_) ?_; (· (first | omega | decide | assumption | fail | (simp; done) | (simp; omega)))
                  refine RW.opd rfl rfl (LO.load rfl rfl rfl (gi_at x3 (by omega)) ty3 rfl) ?_
                  refine RW.opd rfl rfl (LO.move rfl rfl) ?_
                  refine RW.opd rfl rfl (LO.eql rfl rfl rfl) ?_
                  refine RW.opd rfl rfl (LO.move rfl rfl) ?_
                  refine RW.gd rfl rfl rfl ?_ rfl (LO.move rfl rfl) ?_; (· (first | rfl | assumption))
                  refine RW.gd rfl rfl rfl ?_ rfl (LO.fieldAddr rfl rfl ty56 rfl (by decide)) ?_; (· (first | rfl | assumption))
                  refine RW.gd rfl rfl rfl ?_ rfl (LO.load rfl rfl rfl rfl ty3 rfl) ?_; (· (first | rfl | assumption))
                  refine RW.gd rfl rfl rfl ?_ rfl (LO.indexAddr rfl rfl rfl (Int.toNat_of_nonneg x1).symm ty23 ty3 ?_) ?_; (· (first | rfl | assumption)); (· (first | omega | decide | assumption | fail | (simp; done) | (simp; omega)))
                  refine RW.gd rfl rfl rfl ?_ rfl (LO.load rfl rfl rfl (gi_at x1 (by omega)) ty3 rfl) ?_; (· (first | rfl | assumption))
                  refine RW.gd rfl rfl rfl ?_ rfl (LO.lss rfl rfl rfl) ?_; (· (first | rfl | assumption))
                  refine RW.opd rfl rfl (LO.pick_t rfl rfl ?_ rfl) ?_; (· (first | rfl | assumption))
                  refine RW.nil ?_
                  repeat (refine W.seq ?_)
                  refine W.cond_f rfl (by first | rfl | assumption) ?_
                  refine W.skip ?_
                  repeat (refine W.seq ?_)
                  refine W.region 167 169 (by decide) rfl rfl ?_
                  refine RW.opd rfl rfl (LO.add_in rfl rfl rfl ?_) ?_; (· (first | exact IntWalk.i64_in _ (by omega) | assumption))
                  refine RW.opd rfl rfl (LO.move rfl rfl) ?_
                  refine RW.nil ?_
                  rw [if_neg (fun h => e4 h.2)] at hst
                  refine WL.rename [(0, 0), (1, 1)] 2 (by decide) ?_ ?_ (ihC ((i + 1), d2) (show f.links.length - (i + 1) < f.links.length - i from by omega) (show ((i + 1) ≤ f.links.length ∧ d2.length = f.dead.length) ∧ d2 = (List.range (i + 1)).foldl (stepL f (wkF f) j) d from ⟨⟨by omega, hdl2⟩, hfold _ hst.symm⟩))
                  · (repeat' (first | exact all_mt | refine all_up ?_ ?_)) <;> first | exact .inl ⟨rfl, rfl⟩ | exact .inr ⟨rfl, fun _ h => by cases h⟩ | exact .inl ⟨rfl, by first | rfl | assumption | exact (intsC_pure _)⟩
                  · (repeat' (first | exact all_mt | refine all_up ?_ ?_)) <;> first | exact ⟨rfl, _, rfl, .inr ⟨rfl, rfl⟩⟩ | exact ⟨rfl, _, rfl, .inl rfl⟩ | exact ⟨rfl, _, rfl, .inr ⟨rfl, by first | rfl | assumption | exact (intsC_pure _)⟩⟩
              · have g9 : (gI d2 lb == (j : Int)) = false := by simp [e3]
                repeat (refine W.seq ?_)
                refine W.region 137 152 (by decide) rfl rfl ?_
                refine RW.opd rfl rfl (LO.move rfl rfl) ?_
                refine RW.opd rfl rfl (LO.fieldAddr rfl rfl ty56 rfl (by decide)) ?_
                refine RW.opd rfl rfl (LO.load rfl rfl rfl rfl ty3 rfl) ?_
                refine RW.opd rfl rfl (LO.indexAddr rfl rfl rfl (Int.toNat_of_nonneg x3).symm ty23 ty3 ?_) ?_; (· (first | omega | decide | assumption | fail | (simp; done) | (simp; omega)))
                refine RW.opd rfl rfl (LO.load rfl rfl rfl (gi_at x3 (by omega)) ty3 rfl) ?_
                refine RW.opd rfl rfl (LO.move rfl rfl) ?_
                refine RW.opd rfl rfl (LO.eql rfl rfl rfl) ?_
                refine RW.opd rfl rfl (LO.move rfl rfl) ?_
                refine RW.sd rfl rfl rfl ?_ rfl ?_; (· (first | rfl | assumption))
                refine RW.sd rfl rfl rfl ?_ rfl ?_; (· (first | rfl | assumption))
                refine RW.sd rfl rfl rfl ?_ rfl ?_; (· (first | rfl | assumption))
                refine RW.sd rfl rfl rfl ?_ rfl ?_; (· (first | rfl | assumption))
                refine RW.sd rfl rfl rfl ?_ rfl ?_; (· (first | rfl | assumption))
                refine RW.sd rfl rfl rfl ?_ rfl ?_; (· (first | rfl | assumption))
                refine RW.opd rfl rfl (LO.pick_f rfl rfl ?_ rfl) ?_; (· (first | rfl | assumption))
                refine RW.nil ?_
                repeat (refine W.seq ?_)
                refine W.cond_f rfl (by first | rfl | assumption) ?_
                refine W.skip ?_
                repeat (refine W.seq ?_)
                refine W.region 167 169 (by decide) rfl rfl ?_
                refine RW.opd rfl rfl (LO.add_in rfl rfl rfl ?_) ?_; (· (first | exact IntWalk.i64_in _ (by omega) | assumption))
                refine RW.opd rfl rfl (LO.move rfl rfl) ?_
                refine RW.nil ?_
                rw [if_neg (fun h => e3 h.1)] at hst
                refine WL.rename [(0, 0), (1, 1)] 2 (by decide) ?_ ?_ (ihC ((i + 1), d2) (show f.links.length - (i + 1) < f.links.length - i from by omega) (show ((i + 1) ≤ f.links.length ∧ d2.length = f.dead.length) ∧ d2 = (List.range (i + 1)).foldl (stepL f (wkF f) j) d from ⟨⟨by omega, hdl2⟩, hfold _ hst.symm⟩))
                · (repeat' (first | exact all_mt | refine all_up ?_ ?_)) <;> first | exact .inl ⟨rfl, rfl⟩ | exact .inr ⟨rfl, fun _ h => by cases h⟩ | exact .inl ⟨rfl, by first | rfl | assumption | exact (intsC_pure _)⟩
                · (repeat' (first | exact all_mt | refine all_up ?_ ?_)) <;> first | exact ⟨rfl, _, rfl, .inr ⟨rfl, rfl⟩⟩ | exact ⟨rfl, _, rfl, .inl rfl⟩ | exact ⟨rfl, _, rfl, .inr ⟨rfl, by first | rfl | assumption | exact (intsC_pure _)⟩⟩
        · have g4 : decide ((i : Int) < (f.links.length : Int)) = false := decide_eq_false (by omega)
          repeat (refine W.seq ?_)
          refine W.region 84 85 (by decide) rfl rfl ?_
          refine RW.opd rfl rfl (LO.lss rfl rfl rfl) ?_
          refine RW.nil ?_
          repeat (refine W.seq ?_)
          refine W.cond_f rfl (by first | rfl | assumption) ?_
          refine W.exit ?_
          obtain rfl : i = f.links.length := by omega
          repeat (refine W.seq ?_)
          refine W.region 173 175 (by decide) rfl rfl ?_
          refine RW.opd rfl rfl (LO.add_in rfl rfl rfl ?_) ?_; (· (first | exact IntWalk.i64_in _ (by omega) | assumption))
          refine RW.opd rfl rfl (LO.move rfl rfl) ?_
          refine RW.nil ?_
          refine WL.rename [(0, 0), (1, 1)] 2 (by decide) ?_ ?_ (ihB ((j + 1), d1) (show f.dead.length - (j + 1) < f.dead.length - j from by omega) (show ((j + 1) ≤ f.dead.length ∧ d1.length = f.dead.length) ∧ d1 = (List.range (j + 1)).foldl (roundL f (wkF f)) (sI (List.replicate f.dead.length (-1)) to 0) from ⟨⟨by omega, hdl1⟩, by rw [List.range_succ, List.foldl_append, ← hd, hd1]; rfl⟩))
          · (repeat' (first | exact all_mt | refine all_up ?_ ?_)) <;> first | exact .inl ⟨rfl, rfl⟩ | exact .inr ⟨rfl, fun _ h => by cases h⟩ | exact .inl ⟨rfl, by first | rfl | assumption | exact (intsC_pure _)⟩
          · (repeat' (first | exact all_mt | refine all_up ?_ ?_)) <;> first | exact ⟨rfl, _, rfl, .inr ⟨rfl, rfl⟩⟩ | exact ⟨rfl, _, rfl, .inl rfl⟩ | exact ⟨rfl, _, rfl, .inr ⟨rfl, by first | rfl | assumption | exact (intsC_pure _)⟩⟩
      · have g1 : decide ((j : Int) < f.sw) = false := decide_eq_false (by omega)
        repeat (refine W.seq ?_)
        refine W.region 65 66 (by decide) rfl rfl ?_
        refine RW.opd rfl rfl (LO.lss rfl rfl rfl) ?_
        refine RW.nil ?_
        repeat (refine W.seq ?_)
        refine W.cond_f rfl (by first | rfl | assumption) ?_
        refine W.exit ?_
        obtain rfl : j = f.dead.length := by omega
        repeat (refine W.seq ?_)
        refine W.region 179 181 (by decide) rfl rfl ?_
        refine RW.opd rfl rfl (LO.move rfl rfl) ?_
        refine RW.opd rfl rfl (LO.assign rfl rfl) ?_
        refine RW.nil ?_
        refine W.rename [(0, 1)] 1 (T' := up mt 4 (some (.osl 0 0 (f.dead.length) 1))) (H' := up mt 0 (some (intsC d))) (by decide) ?_ ?_ ?_
        · (repeat' (first | exact all_mt | refine all_up ?_ ?_)) <;> first | exact .inl ⟨rfl, rfl⟩ | exact .inr ⟨rfl, fun _ h => by cases h⟩ | exact .inl ⟨rfl, by first | rfl | assumption | exact (intsC_pure _)⟩
        · (repeat' (first | exact all_mt | refine all_up ?_ ?_)) <;> first | exact ⟨rfl, _, rfl, .inr ⟨rfl, rfl⟩⟩ | exact ⟨rfl, _, rfl, .inl rfl⟩ | exact ⟨rfl, _, rfl, .inr ⟨rfl, by first | rfl | assumption | exact (intsC_pure _)⟩⟩
        repeat (refine W.seq ?_)
        refine W.ret ⟨.inl rfl, _, up mt 0 (some (intsC d)), RVs.cons (RV.tmp rfl) RVs.nil, all_up rfl all_mt, ?_⟩
        exact ⟨rfl, by rw [hd]; unfold dist distW; simp only [ha, if_true]⟩
theorem distancesX_any (f : Fab) (hf : FabS f) (to : Int) : AFn Tryd.prog 40 0 [.agg (fabC f), .base (.int .i64 to)] mt (intsV (dist f to)) mt := by
  have := AFn.frozen (distancesX_own f hf to) (ints_tk (dist_len _ _)) (intsC_pure _)
  unfold intsV
  rwa [dist_len]
end Go.Proofs.YtbjfaepjpmogjaaDoor
