/-
  Parts: both texts; comparing lists of numbers.
-/
import Derived.Test.YthbdngfnbpkefaaFe
namespace Go.Proofs.Ythbdngfnbpkefaa
open Go.RowKit

def lst (p : Nat → Bool) (k : Nat) : Int := (List.range k).foldl (fun (m : Int) t => if p t = true ∧ m < 0 then (t : Int) else m) (-1)
theorem lst_succ (p : Nat → Bool) (k : Nat) : lst p (k + 1) = if p k = true ∧ lst p k < 0 then (k : Int) else lst p k := by
  unfold lst; rw [List.range_succ, List.foldl_append]; rfl
/-- the least one that is joined -/
def partsF (f : Fab) : List Int := (List.range f.dead.length).map fun (i : Nat) => lst (fun s => decide (0 ≤ gI (dist f s) i)) f.dead.length
def partsX (f : Fab) : List Int := (List.range f.dead.length).map fun (s : Nat) => lst (fun t => decide (0 ≤ gI (dist f s) t)) f.dead.length
theorem tab_at {g : Nat → Int} {n k : Nat} (h : k < n) : gI ((List.range n).map g) k = g k := by
  rw [gI_at (by simpa using h)]; simp
theorem tab_congr {g g2 : Nat → Int} {n : Nat} (h : ∀ x, x < n → g x = g2 x) : (List.range n).map g = (List.range n).map g2 := by
  refine List.map_congr_left fun x hx => h x (by simpa using hx)
theorem tab_set {g g2 : Nat → Int} {n k : Nat} {v : Int} (hv : g2 k = v) (h : ∀ x, x < n → x ≠ k → g x = g2 x) : ((List.range n).map g).set k v = (List.range n).map g2 := by
  refine List.ext_getElem (by simp) fun i h1 h2 => ?_
  simp only [List.length_set, List.length_map, List.length_range] at h1
  rw [List.getElem_set]
  split
  · rename_i e; subst e; simp [hv]
  · rename_i e; simp [h i h1 (fun e2 => e e2.symm)]
theorem dist_minus (f : Fab) (x : Int) (h : x < 0) : dist f x = List.replicate f.dead.length (-1) := by
  refine distW_dead ?_
  unfold aliveB
  have : ¬ 0 ≤ x := by omega
  simp [this]
theorem ni_at1 {l : List Int} {k : Nat} (h : k < l.length) : (intsC l)[k * 1]? = some (.base (.int .i64 (gI l k))) := by
  rw [← Nat.zero_add (k * 1)]; exact ni_at h
theorem distances_isl (f : Fab) (hf : FabS f) (to : Int) : AFn Try.prog 35 0 [.agg (fabC f), .base (.int .i64 to)] mt (.isl (intsC (dist f to)) f.dead.length) mt :=
  AFn.frozen (distances_own f hf to) (ints_tk (dist_len _ _)) (intsC_pure _)
theorem distancesX_isl (f : Fab) (hf : FabS f) (to : Int) : AFn Try.prog 34 0 [.agg (fabC f), .base (.int .i64 to)] mt (.isl (intsC (dist f to)) f.dead.length) mt :=
  AFn.frozen (distancesX_own f hf to) (ints_tk (dist_len _ _)) (intsC_pure _)

theorem parts_any (f : Fab) (hf : FabS f) : AFn Try.prog 38 0 [.agg (fabC f)] mt (.isl (intsC (partsF f)) f.dead.length) mt := by
  refine AFn.eq Try.func38 rfl rfl (Nat.le_of_ble_eq_true rfl) ?_
  have hr := reach_own f hf (-1) (-1)
  rw [wkF_minus, show distW f (wkF f) (-1) = dist f (-1) from rfl, dist_minus f _ (by omega)] at hr
  have hds := distances_isl f hf
  obtain ⟨hsw, h8, h24⟩ := hf
  repeat (refine W.seq ?_)
  refine W.region 0 2 (by decide) rfl rfl ?_
  refine RW.opd rfl rfl (LO.box rfl rfl rfl) ?_
  refine RW.opd rfl rfl (LO.assign rfl rfl) ?_
  refine RW.nil ?_
  repeat (refine W.seq ?_)
  refine W.region 6 9 (by decide) rfl rfl ?_
  refine RW.opd rfl rfl (LO.load_agg rfl rfl rfl ty25 rfl (Tk.lit rfl)) ?_
  refine RW.opd rfl rfl (LO.callO (fr := []) rfl rfl (hr) fok49 (.cons rfl (.pure rfl) (.cons rfl (.pure rfl) (.cons rfl (.pure rfl) .nil))) (intsC_pure _) (by decide)) ?_
  refine RW.opd rfl rfl (LO.assign rfl rfl) ?_
  refine RW.nil ?_
  repeat (refine W.seq ?_)
  refine W.region 13 16 (by decide) rfl rfl ?_
  refine RW.opd rfl rfl (LO.move rfl rfl) ?_
  refine RW.opd rfl rfl (LO.len rfl rfl ty26) ?_
  refine RW.opd rfl rfl (LO.move rfl rfl) ?_
  refine RW.nil ?_
  repeat (refine W.seq ?_)
  refine W.block ?_
  refine W.rename [(0, 0), (1, 7)] 2 (T' := up (up (up (up mt 1 (some (.own 0 0))) 3 (some (.osl 1 0 f.dead.length 1))) 10 (some (.base (.int .i64 (f.dead.length : Int))))) 11 (some (.base (.int .i64 (0 : Int))))) (H' := up (up mt 0 (some (fabC f))) 1 (some (intsC (List.replicate f.dead.length (-1))))) (by decide) ?_ ?_ ?_
  · (repeat' (first | exact all_mt | refine all_up ?_ ?_)) <;> first | exact .inl ⟨rfl, rfl⟩ | exact .inr ⟨rfl, fun _ h => by cases h⟩ | exact .inl ⟨rfl, by first | rfl | assumption | exact (intsC_pure _)⟩
  · (repeat' (first | exact all_mt | refine all_up ?_ ?_)) <;> first | exact ⟨rfl, _, rfl, .inr ⟨rfl, rfl⟩⟩ | exact ⟨rfl, _, rfl, .inl rfl⟩ | exact ⟨rfl, _, rfl, .inr ⟨rfl, by first | rfl | assumption | exact (intsC_pure _)⟩⟩
  refine W.loop_ind (α := Nat × List Int) (fun x => f.dead.length - x.1) 2 (fun x => up (up (up (up mt 1 (some (.own 0 0))) 3 (some (.osl 1 0 f.dead.length 1))) 10 (some (.base (.int .i64 (f.dead.length : Int))))) 11 (some (.base (.int .i64 (x.1 : Int))))) (fun x => up (up mt 0 (some (fabC f))) 1 (some (intsC x.2))) (fun x => x.1 ≤ f.dead.length ∧ x.2 = (List.range f.dead.length).map fun (y : Nat) => lst (fun u => decide (0 ≤ gI (dist f u) y)) x.1) (0, (List.replicate f.dead.length (-1))) (show 0 ≤ f.dead.length ∧ (List.replicate f.dead.length (-1)) = (List.range f.dead.length).map fun (y : Nat) => lst (fun u => decide (0 ≤ gI (dist f u) y)) 0 from ⟨Nat.zero_le _, by simp [lst, List.map_const']⟩) ?_
  rintro ⟨s, o⟩ hIA ihA
  try (dsimp only at hIA)
  try dsimp only
  obtain ⟨hs, ho⟩ := hIA
  by_cases hc : s < f.dead.length
  · have g1 : decide ((s : Int) < (f.dead.length : Int)) = true := decide_eq_true (by omega)
    repeat (refine W.seq ?_)
    refine W.region 20 21 (by decide) rfl rfl ?_
    refine RW.opd rfl rfl (LO.lss rfl rfl rfl) ?_
    refine RW.nil ?_
    repeat (refine W.seq ?_)
    refine W.cond_t rfl (by first | rfl | assumption) ?_
    refine W.skip ?_
    repeat (refine W.seq ?_)
    refine W.block ?_
    repeat (refine W.seq ?_)
    refine W.region 25 27 (by decide) rfl rfl ?_
    refine RW.opd rfl rfl (LO.move rfl rfl) ?_
    refine RW.opd rfl rfl (LO.assign rfl rfl) ?_
    refine RW.nil ?_
    repeat (refine W.seq ?_)
    refine W.region 31 36 (by decide) rfl rfl ?_
    refine RW.opd rfl rfl (LO.load_agg rfl rfl rfl ty25 rfl (Tk.lit rfl)) ?_
    refine RW.opd rfl rfl (LO.move rfl rfl) ?_
    refine RW.opd rfl rfl (LO.call0 (fr := []) rfl rfl (hds _) fok35 (.cons rfl (.pure rfl) (.cons rfl (.pure rfl) .nil)) rfl) ?_
    refine RW.opd rfl rfl (LO.len_isl rfl rfl rfl ty26) ?_
    refine RW.opd rfl rfl (LO.move rfl rfl) ?_
    refine RW.nil ?_
    repeat (refine W.seq ?_)
    refine W.block ?_
    refine W.rename [(0, 0), (1, 1)] 2 (T' := up (up (up (up (up (up (up (up mt 1 (some (.own 0 0))) 3 (some (.osl 1 0 f.dead.length 1))) 4 (some (.base (.int .i64 (s : Int))))) 10 (some (.base (.int .i64 (f.dead.length : Int))))) 11 (some (.base (.int .i64 (s : Int))))) 16 (some (.isl (intsC (dist f s)) f.dead.length))) 17 (some (.base (.int .i64 (f.dead.length : Int))))) 18 (some (.base (.int .i64 (0 : Int))))) (H' := up (up mt 0 (some (fabC f))) 1 (some (intsC o))) (by decide) ?_ ?_ ?_
    · (repeat' (first | exact all_mt | refine all_up ?_ ?_)) <;> first | exact .inl ⟨rfl, rfl⟩ | exact .inr ⟨rfl, fun _ h => by cases h⟩ | exact .inl ⟨rfl, by first | rfl | assumption | exact (intsC_pure _)⟩
    · (repeat' (first | exact all_mt | refine all_up ?_ ?_)) <;> first | exact ⟨rfl, _, rfl, .inr ⟨rfl, rfl⟩⟩ | exact ⟨rfl, _, rfl, .inl rfl⟩ | exact ⟨rfl, _, rfl, .inr ⟨rfl, by first | rfl | assumption | exact (intsC_pure _)⟩⟩
    refine W.loop_ind (α := Nat × List Int) (fun x => f.dead.length - x.1) 2 (fun x => up (up (up (up (up (up (up (up mt 1 (some (.own 0 0))) 3 (some (.osl 1 0 f.dead.length 1))) 4 (some (.base (.int .i64 (s : Int))))) 10 (some (.base (.int .i64 (f.dead.length : Int))))) 11 (some (.base (.int .i64 (s : Int))))) 16 (some (.isl (intsC (dist f s)) f.dead.length))) 17 (some (.base (.int .i64 (f.dead.length : Int))))) 18 (some (.base (.int .i64 (x.1 : Int))))) (fun x => up (up mt 0 (some (fabC f))) 1 (some (intsC x.2))) (fun x => x.1 ≤ f.dead.length ∧ x.2 = (List.range f.dead.length).map fun (y : Nat) => lst (fun u => decide (0 ≤ gI (dist f u) y)) (if y < x.1 then s + 1 else s)) (0, o) (show 0 ≤ f.dead.length ∧ o = (List.range f.dead.length).map fun (y : Nat) => lst (fun u => decide (0 ≤ gI (dist f u) y)) (if y < 0 then s + 1 else s) from ⟨Nat.zero_le _, by rw [ho]; exact tab_congr fun x hx => by rw [if_neg (by omega)]⟩) ?_
    rintro ⟨i, o1⟩ hIB ihB
    try (dsimp only at hIB)
    try dsimp only
    obtain ⟨hi, ho1⟩ := hIB
    by_cases hc2 : i < f.dead.length
    · have g2 : decide ((i : Int) < (f.dead.length : Int)) = true := decide_eq_true (by omega)
      have hol : o1.length = f.dead.length := by rw [ho1]; simp
      have hoi : gI o1 i = lst (fun s => decide (0 ≤ gI (dist f s) i)) s := by rw [ho1, tab_at hc2, if_neg (by omega)]
      have hnext : ∀ o2, o2 = o1.set i (lst (fun s => decide (0 ≤ gI (dist f s) i)) (s + 1)) → o2 = (List.range f.dead.length).map fun (y : Nat) => lst (fun u => decide (0 ≤ gI (dist f u) y)) (if y < i + 1 then s + 1 else s) := fun o2 h => by
        rw [h, ho1]
        refine tab_set (by rw [if_pos (by omega)]) fun x hx hne => ?_
        by_cases e : x < i
        · rw [if_pos e, if_pos (by omega)]
        · rw [if_neg e, if_neg (by omega)]
      rw [lst_succ] at hnext
      have hself : o1.set i (gI o1 i) = o1 := by rw [gI_at (by omega)]; exact List.set_getElem_self (by omega)
      have hdl : (dist f s).length = f.dead.length := dist_len _ _
      repeat (refine W.seq ?_)
      refine W.region 40 41 (by decide) rfl rfl ?_
      refine RW.opd rfl rfl (LO.lss rfl rfl rfl) ?_
      refine RW.nil ?_
      repeat (refine W.seq ?_)
      refine W.cond_t rfl (by first | rfl | assumption) ?_
      refine W.skip ?_
      repeat (refine W.seq ?_)
      refine W.block ?_
      repeat (refine W.seq ?_)
      refine W.region 45 50 (by decide) rfl rfl ?_
      refine RW.opd rfl rfl (LO.move rfl rfl) ?_
      refine RW.opd rfl rfl (LO.indexAddr_isl rfl rfl rfl rfl rfl ty26 ty3 ?_) ?_; (· (first | omega | decide | assumption | fail | (simp; done) | (simp; omega)))
      refine RW.opd rfl rfl (LO.load_imm rfl rfl (ni_at1 (k := i) (by omega)) ty3 rfl) ?_
      refine RW.opd rfl rfl (LO.assign rfl rfl) ?_
      refine RW.opd rfl rfl (LO.assign rfl rfl) ?_
      refine RW.nil ?_
      by_cases e1 : 0 ≤ gI (dist f s) i
      · have g3 : decide (gI (dist f s) i ≥ 0) = true := decide_eq_true e1
        by_cases e2 : gI o1 i < 0
        · have g4 : decide (gI o1 i < 0) = true := decide_eq_true e2
          rw [if_pos ⟨decide_eq_true e1, by rw [← hoi]; exact e2⟩] at hnext
          repeat (refine W.seq ?_)
          refine W.region 54 63 (by decide) rfl rfl ?_
          refine RW.opd rfl rfl (LO.move rfl rfl) ?_
          refine RW.opd rfl rfl (LO.geq rfl rfl rfl) ?_
          refine RW.opd rfl rfl (LO.move rfl rfl) ?_
          refine RW.gd rfl rfl rfl ?_ rfl (LO.move rfl rfl) ?_; (· (first | rfl | assumption))
          refine RW.gd rfl rfl rfl ?_ rfl (LO.move rfl rfl) ?_; (· (first | rfl | assumption))
          refine RW.gd rfl rfl rfl ?_ rfl (LO.indexAddr rfl rfl rfl rfl ty26 ty3 ?_) ?_; (· (first | rfl | assumption)); (· (first | omega | decide | assumption | fail | (simp; done) | (simp; omega)))
          refine RW.gd rfl rfl rfl ?_ rfl (LO.load rfl rfl rfl (ni_at (k := i) (by omega)) ty3 rfl) ?_; (· (first | rfl | assumption))
          refine RW.gd rfl rfl rfl ?_ rfl (LO.lss rfl rfl rfl) ?_; (· (first | rfl | assumption))
          refine RW.opd rfl rfl (LO.pick_t rfl rfl ?_ rfl) ?_; (· (first | rfl | assumption))
          refine RW.nil ?_
          repeat (refine W.seq ?_)
          refine W.cond_t rfl (by first | rfl | assumption) ?_
          repeat (refine W.seq ?_)
          refine W.region 67 72 (by decide) rfl rfl ?_
          refine RW.opd rfl rfl (LO.move rfl rfl) ?_
          refine RW.opd rfl rfl (LO.move rfl rfl) ?_
          refine RW.opd rfl rfl (LO.move rfl rfl) ?_
          refine RW.opd rfl rfl (LO.indexAddr rfl rfl rfl rfl ty26 ty3 ?_) ?_; (· (first | omega | decide | assumption | fail | (simp; done) | (simp; omega)))
          refine RW.opn rfl rfl (LO.store rfl rfl rfl rfl rfl ty3 rfl (by decide) (ns_at (by omega))) ?_
          refine RW.nil ?_
          repeat (refine W.seq ?_)
          refine W.region 76 78 (by decide) rfl rfl ?_
          refine RW.opd rfl rfl (LO.add_in rfl rfl rfl ?_) ?_; (· (first | exact IntWalk.i64_in _ (by omega) | assumption))
          refine RW.opd rfl rfl (LO.move rfl rfl) ?_
          refine RW.nil ?_
          refine WL.rename [(0, 0), (1, 1)] 2 (by decide) ?_ ?_ (ihB ((i + 1), (o1.set i (s : Int))) (show f.dead.length - (i + 1) < f.dead.length - i from by omega) (show (i + 1) ≤ f.dead.length ∧ (o1.set i (s : Int)) = (List.range f.dead.length).map fun (y : Nat) => lst (fun u => decide (0 ≤ gI (dist f u) y)) (if y < (i + 1) then s + 1 else s) from ⟨by omega, hnext _ rfl⟩))
          · (repeat' (first | exact all_mt | refine all_up ?_ ?_)) <;> first | exact .inl ⟨rfl, rfl⟩ | exact .inr ⟨rfl, fun _ h => by cases h⟩ | exact .inl ⟨rfl, by first | rfl | assumption | exact (intsC_pure _)⟩
          · (repeat' (first | exact all_mt | refine all_up ?_ ?_)) <;> first | exact ⟨rfl, _, rfl, .inr ⟨rfl, rfl⟩⟩ | exact ⟨rfl, _, rfl, .inl rfl⟩ | exact ⟨rfl, _, rfl, .inr ⟨rfl, by first | rfl | assumption | exact (intsC_pure _)⟩⟩
        · have g4 : decide (gI o1 i < 0) = false := decide_eq_false e2
          rw [if_neg (fun h => e2 (by rw [hoi]; exact h.2)), ← hoi, hself] at hnext
          repeat (refine W.seq ?_)
          refine W.region 54 63 (by decide) rfl rfl ?_
          refine RW.opd rfl rfl (LO.move rfl rfl) ?_
          refine RW.opd rfl rfl (LO.geq rfl rfl rfl) ?_
          refine RW.opd rfl rfl (LO.move rfl rfl) ?_
          refine RW.gd rfl rfl rfl ?_ rfl (LO.move rfl rfl) ?_; (· (first | rfl | assumption))
          refine RW.gd rfl rfl rfl ?_ rfl (LO.move rfl rfl) ?_; (· (first | rfl | assumption))
          refine RW.gd rfl rfl rfl ?_ rfl (LO.indexAddr rfl rfl rfl rfl ty26 ty3 ?_) ?_; (· (first | rfl | assumption)); (· (first | omega | decide | assumption | fail | (simp; done) | (simp; omega)))
          refine RW.gd rfl rfl rfl ?_ rfl (LO.load rfl rfl rfl (ni_at (k := i) (by omega)) ty3 rfl) ?_; (· (first | rfl | assumption))
          refine RW.gd rfl rfl rfl ?_ rfl (LO.lss rfl rfl rfl) ?_; (· (first | rfl | assumption))
          refine RW.opd rfl rfl (LO.pick_t rfl rfl ?_ rfl) ?_; (· (first | rfl | assumption))
          refine RW.nil ?_
          repeat (refine W.seq ?_)
          refine W.cond_f rfl (by first | rfl | assumption) ?_
          refine W.skip ?_
          repeat (refine W.seq ?_)
          refine W.region 76 78 (by decide) rfl rfl ?_
          refine RW.opd rfl rfl (LO.add_in rfl rfl rfl ?_) ?_; (· (first | exact IntWalk.i64_in _ (by omega) | assumption))
          refine RW.opd rfl rfl (LO.move rfl rfl) ?_
          refine RW.nil ?_
          refine WL.rename [(0, 0), (1, 1)] 2 (by decide) ?_ ?_ (ihB ((i + 1), o1) (show f.dead.length - (i + 1) < f.dead.length - i from by omega) (show (i + 1) ≤ f.dead.length ∧ o1 = (List.range f.dead.length).map fun (y : Nat) => lst (fun u => decide (0 ≤ gI (dist f u) y)) (if y < (i + 1) then s + 1 else s) from ⟨by omega, hnext _ rfl⟩))
          · (repeat' (first | exact all_mt | refine all_up ?_ ?_)) <;> first | exact .inl ⟨rfl, rfl⟩ | exact .inr ⟨rfl, fun _ h => by cases h⟩ | exact .inl ⟨rfl, by first | rfl | assumption | exact (intsC_pure _)⟩
          · (repeat' (first | exact all_mt | refine all_up ?_ ?_)) <;> first | exact ⟨rfl, _, rfl, .inr ⟨rfl, rfl⟩⟩ | exact ⟨rfl, _, rfl, .inl rfl⟩ | exact ⟨rfl, _, rfl, .inr ⟨rfl, by first | rfl | assumption | exact (intsC_pure _)⟩⟩
      · have g3 : decide (gI (dist f s) i ≥ 0) = false := decide_eq_false e1
        rw [if_neg (fun h => e1 (of_decide_eq_true h.1)), ← hoi, hself] at hnext
        repeat (refine W.seq ?_)
        refine W.region 54 63 (by decide) rfl rfl ?_
        refine RW.opd rfl rfl (LO.move rfl rfl) ?_
        refine RW.opd rfl rfl (LO.geq rfl rfl rfl) ?_
        refine RW.opd rfl rfl (LO.move rfl rfl) ?_
        refine RW.sd rfl rfl rfl ?_ rfl ?_; (· (first | rfl | assumption))
        refine RW.sd rfl rfl rfl ?_ rfl ?_; (· (first | rfl | assumption))
        refine RW.sd rfl rfl rfl ?_ rfl ?_; (· (first | rfl | assumption))
        refine RW.sd rfl rfl rfl ?_ rfl ?_; (· (first | rfl | assumption))
        refine RW.sd rfl rfl rfl ?_ rfl ?_; (· (first | rfl | assumption))
        refine RW.opd rfl rfl (LO.pick_f rfl rfl ?_ rfl) ?_; (· (first | rfl | assumption))
        refine RW.nil ?_
        repeat (refine W.seq ?_)
        refine W.cond_f rfl (by first | rfl | assumption) ?_
        refine W.skip ?_
        repeat (refine W.seq ?_)
        refine W.region 76 78 (by decide) rfl rfl ?_
        refine RW.opd rfl rfl (LO.add_in rfl rfl rfl ?_) ?_; (· (first | exact IntWalk.i64_in _ (by omega) | assumption))
        refine RW.opd rfl rfl (LO.move rfl rfl) ?_
        refine RW.nil ?_
        refine WL.rename [(0, 0), (1, 1)] 2 (by decide) ?_ ?_ (ihB ((i + 1), o1) (show f.dead.length - (i + 1) < f.dead.length - i from by omega) (show (i + 1) ≤ f.dead.length ∧ o1 = (List.range f.dead.length).map fun (y : Nat) => lst (fun u => decide (0 ≤ gI (dist f u) y)) (if y < (i + 1) then s + 1 else s) from ⟨by omega, hnext _ rfl⟩))
        · (repeat' (first | exact all_mt | refine all_up ?_ ?_)) <;> first | exact .inl ⟨rfl, rfl⟩ | exact .inr ⟨rfl, fun _ h => by cases h⟩ | exact .inl ⟨rfl, by first | rfl | assumption | exact (intsC_pure _)⟩
        · (repeat' (first | exact all_mt | refine all_up ?_ ?_)) <;> first | exact ⟨rfl, _, rfl, .inr ⟨rfl, rfl⟩⟩ | exact ⟨rfl, _, rfl, .inl rfl⟩ | exact ⟨rfl, _, rfl, .inr ⟨rfl, by first | rfl | assumption | exact (intsC_pure _)⟩⟩
    · have g2 : decide ((i : Int) < (f.dead.length : Int)) = false := decide_eq_false (by omega)
      repeat (refine W.seq ?_)
      refine W.region 40 41 (by decide) rfl rfl ?_
      refine RW.opd rfl rfl (LO.lss rfl rfl rfl) ?_
      refine RW.nil ?_
      repeat (refine W.seq ?_)
      refine W.cond_f rfl (by first | rfl | assumption) ?_
      refine W.exit ?_
      obtain rfl : i = f.dead.length := by omega
      repeat (refine W.seq ?_)
      refine W.region 82 84 (by decide) rfl rfl ?_
      refine RW.opd rfl rfl (LO.add_in rfl rfl rfl ?_) ?_; (· (first | exact IntWalk.i64_in _ (by omega) | assumption))
      refine RW.opd rfl rfl (LO.move rfl rfl) ?_
      refine RW.nil ?_
      refine WL.rename [(0, 0), (1, 1)] 2 (by decide) ?_ ?_ (ihA ((s + 1), o1) (show f.dead.length - (s + 1) < f.dead.length - s from by omega) (show (s + 1) ≤ f.dead.length ∧ o1 = (List.range f.dead.length).map fun (y : Nat) => lst (fun u => decide (0 ≤ gI (dist f u) y)) (s + 1) from ⟨by omega, by rw [ho1]; exact tab_congr fun x hx => by rw [if_pos hx]⟩))
      · (repeat' (first | exact all_mt | refine all_up ?_ ?_)) <;> first | exact .inl ⟨rfl, rfl⟩ | exact .inr ⟨rfl, fun _ h => by cases h⟩ | exact .inl ⟨rfl, by first | rfl | assumption | exact (intsC_pure _)⟩
      · (repeat' (first | exact all_mt | refine all_up ?_ ?_)) <;> first | exact ⟨rfl, _, rfl, .inr ⟨rfl, rfl⟩⟩ | exact ⟨rfl, _, rfl, .inl rfl⟩ | exact ⟨rfl, _, rfl, .inr ⟨rfl, by first | rfl | assumption | exact (intsC_pure _)⟩⟩
  · have g1 : decide ((s : Int) < (f.dead.length : Int)) = false := decide_eq_false (by omega)
    repeat (refine W.seq ?_)
    refine W.region 20 21 (by decide) rfl rfl ?_
    refine RW.opd rfl rfl (LO.lss rfl rfl rfl) ?_
    refine RW.nil ?_
    repeat (refine W.seq ?_)
    refine W.cond_f rfl (by first | rfl | assumption) ?_
    refine W.exit ?_
    obtain rfl : s = f.dead.length := by omega
    repeat (refine W.seq ?_)
    refine W.region 88 90 (by decide) rfl rfl ?_
    refine RW.opd rfl rfl (LO.move rfl rfl) ?_
    refine RW.opd rfl rfl (LO.assign rfl rfl) ?_
    refine RW.nil ?_
    refine W.frz1 (t := 2) rfl rfl (ints_tk (by rw [ho]; simp)) (intsC_pure _) ?_
    repeat (refine W.seq ?_)
    refine W.ret ⟨.inl rfl, _, mt, RVs.cons (RV.tmp rfl) (RVs.nil), all_mt, ?_⟩
    exact ⟨by rw [ho]; rfl, rfl⟩

theorem partsX_any (f : Fab) (hf : FabS f) : AFn Try.prog 33 0 [.agg (fabC f)] mt (.isl (intsC (partsX f)) f.dead.length) mt := by
  refine AFn.eq Try.func33 rfl rfl (Nat.le_of_ble_eq_true rfl) ?_
  have hds := distancesX_isl f hf
  obtain ⟨hsw, h8, h24⟩ := hf
  repeat (refine W.seq ?_)
  refine W.region 0 2 (by decide) rfl rfl ?_
  refine RW.opd rfl rfl (LO.box rfl rfl rfl) ?_
  refine RW.opd rfl rfl (LO.assign rfl rfl) ?_
  refine RW.nil ?_
  repeat (refine W.seq ?_)
  refine W.region 6 7 (by decide) rfl rfl ?_
  refine RW.opd rfl rfl (LO.assign rfl rfl) ?_
  refine RW.nil ?_
  repeat (refine W.seq ?_)
  refine W.region 11 14 (by decide) rfl rfl ?_
  refine RW.opd rfl rfl (LO.fieldAddr rfl rfl ty25 rfl (by decide)) ?_
  refine RW.opd rfl rfl (LO.load rfl rfl rfl rfl ty3 rfl) ?_
  refine RW.opd rfl rfl (LO.move rfl rfl) ?_
  refine RW.nil ?_
  refine W.name 14 (14 + 1) (t := 3) (sz := 1) rfl (by decide) (by decide) ?_
  repeat (refine W.seq ?_)
  refine W.block ?_
  refine W.rename [(0, 0), (1, 14)] 2 (T' := up (up (up (up mt 1 (some (.own 0 0))) 3 (some (.osl 1 0 0 1))) 9 (some (.base (.int .i64 f.sw)))) 10 (some (.base (.int .i64 (0 : Int))))) (H' := up (up mt 0 (some (fabC f))) 1 (some (intsC (([] : List Int))))) (by decide) ?_ ?_ ?_
  · (repeat' (first | exact all_mt | refine all_up ?_ ?_)) <;> first | exact .inl ⟨rfl, rfl⟩ | exact .inr ⟨rfl, fun _ h => by cases h⟩ | exact .inl ⟨rfl, by first | rfl | assumption | exact (intsC_pure _)⟩
  · (repeat' (first | exact all_mt | refine all_up ?_ ?_)) <;> first | exact ⟨rfl, _, rfl, .inr ⟨rfl, rfl⟩⟩ | exact ⟨rfl, _, rfl, .inl rfl⟩ | exact ⟨rfl, _, rfl, .inr ⟨rfl, by first | rfl | assumption | exact (intsC_pure _)⟩⟩
  refine W.loop_ind (α := Nat × List Int) (fun x => f.dead.length - x.1) 2 (fun x => up (up (up (up mt 1 (some (.own 0 0))) 3 (some (.osl 1 0 x.1 1))) 9 (some (.base (.int .i64 f.sw)))) 10 (some (.base (.int .i64 (x.1 : Int))))) (fun x => up (up mt 0 (some (fabC f))) 1 (some (intsC x.2))) (fun x => x.1 ≤ f.dead.length ∧ x.2 = (List.range x.1).map fun (y : Nat) => lst (fun t => decide (0 ≤ gI (dist f y) t)) f.dead.length) (0, (([] : List Int))) (show 0 ≤ f.dead.length ∧ (([] : List Int)) = (List.range 0).map fun (y : Nat) => lst (fun t => decide (0 ≤ gI (dist f y) t)) f.dead.length from ⟨Nat.zero_le _, rfl⟩) ?_
  rintro ⟨s, o⟩ hIA ihA
  try (dsimp only at hIA)
  try dsimp only
  obtain ⟨hs, ho⟩ := hIA
  have hol : o.length = s := by rw [ho]; simp
  by_cases hc : s < f.dead.length
  · have g1 : decide ((s : Int) < f.sw) = true := decide_eq_true (by omega)
    repeat (refine W.seq ?_)
    refine W.region 18 19 (by decide) rfl rfl ?_
    refine RW.opd rfl rfl (LO.lss rfl rfl rfl) ?_
    refine RW.nil ?_
    repeat (refine W.seq ?_)
    refine W.cond_t rfl (by first | rfl | assumption) ?_
    refine W.skip ?_
    repeat (refine W.seq ?_)
    refine W.block ?_
    repeat (refine W.seq ?_)
    refine W.region 23 25 (by decide) rfl rfl ?_
    refine RW.opd rfl rfl (LO.move rfl rfl) ?_
    refine RW.opd rfl rfl (LO.assign rfl rfl) ?_
    refine RW.nil ?_
    repeat (refine W.seq ?_)
    refine W.region 29 30 (by decide) rfl rfl ?_
    refine RW.opd rfl rfl (LO.assign rfl rfl) ?_
    refine RW.nil ?_
    repeat (refine W.seq ?_)
    refine W.region 34 39 (by decide) rfl rfl ?_
    refine RW.opd rfl rfl (LO.load_agg rfl rfl rfl ty25 rfl (Tk.lit rfl)) ?_
    refine RW.opd rfl rfl (LO.move rfl rfl) ?_
    refine RW.opd rfl rfl (LO.call0 (fr := []) rfl rfl (hds _) fok34 (.cons rfl (.pure rfl) (.cons rfl (.pure rfl) .nil)) rfl) ?_
    refine RW.opd rfl rfl (LO.len_isl rfl rfl rfl ty26) ?_
    refine RW.opd rfl rfl (LO.move rfl rfl) ?_
    refine RW.nil ?_
    repeat (refine W.seq ?_)
    refine W.block ?_
    refine W.rename [(0, 0), (1, 1)] 2 (T' := up (up (up (up (up (up (up (up mt 1 (some (.own 0 0))) 3 (some (.osl 1 0 s 1))) 5 (some (.base (.int .i64 ((-1)))))) 9 (some (.base (.int .i64 f.sw)))) 10 (some (.base (.int .i64 (s : Int))))) 15 (some (.isl (intsC (dist f s)) f.dead.length))) 16 (some (.base (.int .i64 (f.dead.length : Int))))) 17 (some (.base (.int .i64 (0 : Int))))) (H' := up (up mt 0 (some (fabC f))) 1 (some (intsC o))) (by decide) ?_ ?_ ?_
    · (repeat' (first | exact all_mt | refine all_up ?_ ?_)) <;> first | exact .inl ⟨rfl, rfl⟩ | exact .inr ⟨rfl, fun _ h => by cases h⟩ | exact .inl ⟨rfl, by first | rfl | assumption | exact (intsC_pure _)⟩
    · (repeat' (first | exact all_mt | refine all_up ?_ ?_)) <;> first | exact ⟨rfl, _, rfl, .inr ⟨rfl, rfl⟩⟩ | exact ⟨rfl, _, rfl, .inl rfl⟩ | exact ⟨rfl, _, rfl, .inr ⟨rfl, by first | rfl | assumption | exact (intsC_pure _)⟩⟩
    refine W.loop_ind (α := Nat × Int) (fun x => f.dead.length - x.1) 2 (fun x => up (up (up (up (up (up (up (up mt 1 (some (.own 0 0))) 3 (some (.osl 1 0 s 1))) 5 (some (.base (.int .i64 x.2)))) 9 (some (.base (.int .i64 f.sw)))) 10 (some (.base (.int .i64 (s : Int))))) 15 (some (.isl (intsC (dist f s)) f.dead.length))) 16 (some (.base (.int .i64 (f.dead.length : Int))))) 17 (some (.base (.int .i64 (x.1 : Int))))) (fun x => up (up mt 0 (some (fabC f))) 1 (some (intsC o))) (fun x => x.1 ≤ f.dead.length ∧ x.2 = lst (fun t => decide (0 ≤ gI (dist f s) t)) x.1) (0, ((-1))) (show 0 ≤ f.dead.length ∧ ((-1)) = lst (fun t => decide (0 ≤ gI (dist f s) t)) 0 from ⟨Nat.zero_le _, rfl⟩) ?_
    rintro ⟨i, m⟩ hIB ihB
    try (dsimp only at hIB)
    try dsimp only
    obtain ⟨hi, hm⟩ := hIB
    by_cases hc2 : i < f.dead.length
    · have g2 : decide ((i : Int) < (f.dead.length : Int)) = true := decide_eq_true (by omega)
      have hnext := lst_succ (fun t => decide (0 ≤ gI (dist f s) t)) i
      have hdl : (dist f s).length = f.dead.length := dist_len _ _
      rw [← hm] at hnext
      repeat (refine W.seq ?_)
      refine W.region 43 44 (by decide) rfl rfl ?_
      refine RW.opd rfl rfl (LO.lss rfl rfl rfl) ?_
      refine RW.nil ?_
      repeat (refine W.seq ?_)
      refine W.cond_t rfl (by first | rfl | assumption) ?_
      refine W.skip ?_
      repeat (refine W.seq ?_)
      refine W.block ?_
      repeat (refine W.seq ?_)
      refine W.region 48 53 (by decide) rfl rfl ?_
      refine RW.opd rfl rfl (LO.move rfl rfl) ?_
      refine RW.opd rfl rfl (LO.indexAddr_isl rfl rfl rfl rfl rfl ty26 ty3 ?_) ?_; (· (first | omega | decide | assumption | fail | (simp; done) | (simp; omega)))
      refine RW.opd rfl rfl (LO.load_imm rfl rfl (ni_at1 (k := i) (by omega)) ty3 rfl) ?_
      refine RW.opd rfl rfl (LO.assign rfl rfl) ?_
      refine RW.opd rfl rfl (LO.assign rfl rfl) ?_
      refine RW.nil ?_
      by_cases e1 : 0 ≤ gI (dist f s) i
      · have g3 : decide (gI (dist f s) i ≥ 0) = true := decide_eq_true e1
        by_cases e2 : m < 0
        · have g4 : decide (m < 0) = true := decide_eq_true e2
          rw [if_pos ⟨decide_eq_true e1, e2⟩] at hnext
          repeat (refine W.seq ?_)
          refine W.region 57 63 (by decide) rfl rfl ?_
          refine RW.opd rfl rfl (LO.move rfl rfl) ?_
          refine RW.opd rfl rfl (LO.geq rfl rfl rfl) ?_
          refine RW.opd rfl rfl (LO.move rfl rfl) ?_
          refine RW.gd rfl rfl rfl ?_ rfl (LO.move rfl rfl) ?_; (· (first | rfl | assumption))
          refine RW.gd rfl rfl rfl ?_ rfl (LO.lss rfl rfl rfl) ?_; (· (first | rfl | assumption))
          refine RW.opd rfl rfl (LO.pick_t rfl rfl ?_ rfl) ?_; (· (first | rfl | assumption))
          refine RW.nil ?_
          repeat (refine W.seq ?_)
          refine W.cond_t rfl (by first | rfl | assumption) ?_
          repeat (refine W.seq ?_)
          refine W.region 67 69 (by decide) rfl rfl ?_
          refine RW.opd rfl rfl (LO.move rfl rfl) ?_
          refine RW.opd rfl rfl (LO.assign rfl rfl) ?_
          refine RW.nil ?_
          repeat (refine W.seq ?_)
          refine W.region 73 75 (by decide) rfl rfl ?_
          refine RW.opd rfl rfl (LO.add_in rfl rfl rfl ?_) ?_; (· (first | exact IntWalk.i64_in _ (by omega) | assumption))
          refine RW.opd rfl rfl (LO.move rfl rfl) ?_
          refine RW.nil ?_
          refine WL.rename [(0, 0), (1, 1)] 2 (by decide) ?_ ?_ (ihB ((i + 1), ((i : Int))) (show f.dead.length - (i + 1) < f.dead.length - i from by omega) (show (i + 1) ≤ f.dead.length ∧ ((i : Int)) = lst (fun t => decide (0 ≤ gI (dist f s) t)) (i + 1) from ⟨by omega, hnext.symm⟩))
          · (repeat' (first | exact all_mt | refine all_up ?_ ?_)) <;> first | exact .inl ⟨rfl, rfl⟩ | exact .inr ⟨rfl, fun _ h => by cases h⟩ | exact .inl ⟨rfl, by first | rfl | assumption | exact (intsC_pure _)⟩
          · (repeat' (first | exact all_mt | refine all_up ?_ ?_)) <;> first | exact ⟨rfl, _, rfl, .inr ⟨rfl, rfl⟩⟩ | exact ⟨rfl, _, rfl, .inl rfl⟩ | exact ⟨rfl, _, rfl, .inr ⟨rfl, by first | rfl | assumption | exact (intsC_pure _)⟩⟩
        · have g4 : decide (m < 0) = false := decide_eq_false e2
          rw [if_neg (fun h => e2 h.2)] at hnext
          repeat (refine W.seq ?_)
          refine W.region 57 63 (by decide) rfl rfl ?_
          refine RW.opd rfl rfl (LO.move rfl rfl) ?_
          refine RW.opd rfl rfl (LO.geq rfl rfl rfl) ?_
          refine RW.opd rfl rfl (LO.move rfl rfl) ?_
          refine RW.gd rfl rfl rfl ?_ rfl (LO.move rfl rfl) ?_; (· (first | rfl | assumption))
          refine RW.gd rfl rfl rfl ?_ rfl (LO.lss rfl rfl rfl) ?_; (· (first | rfl | assumption))
          refine RW.opd rfl rfl (LO.pick_t rfl rfl ?_ rfl) ?_; (· (first | rfl | assumption))
          refine RW.nil ?_
          repeat (refine W.seq ?_)
          refine W.cond_f rfl (by first | rfl | assumption) ?_
          refine W.skip ?_
          repeat (refine W.seq ?_)
          refine W.region 73 75 (by decide) rfl rfl ?_
          refine RW.opd rfl rfl (LO.add_in rfl rfl rfl ?_) ?_; (· (first | exact IntWalk.i64_in _ (by omega) | assumption))
          refine RW.opd rfl rfl (LO.move rfl rfl) ?_
          refine RW.nil ?_
          refine WL.rename [(0, 0), (1, 1)] 2 (by decide) ?_ ?_ (ihB ((i + 1), m) (show f.dead.length - (i + 1) < f.dead.length - i from by omega) (show (i + 1) ≤ f.dead.length ∧ m = lst (fun t => decide (0 ≤ gI (dist f s) t)) (i + 1) from ⟨by omega, hnext.symm⟩))
          · (repeat' (first | exact all_mt | refine all_up ?_ ?_)) <;> first | exact .inl ⟨rfl, rfl⟩ | exact .inr ⟨rfl, fun _ h => by cases h⟩ | exact .inl ⟨rfl, by first | rfl | assumption | exact (intsC_pure _)⟩
          · (repeat' (first | exact all_mt | refine all_up ?_ ?_)) <;> first | exact ⟨rfl, _, rfl, .inr ⟨rfl, rfl⟩⟩ | exact ⟨rfl, _, rfl, .inl rfl⟩ | exact ⟨rfl, _, rfl, .inr ⟨rfl, by first | rfl | assumption | exact (intsC_pure _)⟩⟩
      · have g3 : decide (gI (dist f s) i ≥ 0) = false := decide_eq_false e1
        rw [if_neg (fun h => e1 (of_decide_eq_true h.1))] at hnext
        repeat (refine W.seq ?_)
        refine W.region 57 63 (by decide) rfl rfl ?_
        refine RW.opd rfl rfl (LO.move rfl rfl) ?_
        refine RW.opd rfl rfl (LO.geq rfl rfl rfl) ?_
        refine RW.opd rfl rfl (LO.move rfl rfl) ?_
        refine RW.sd rfl rfl rfl ?_ rfl ?_; (· (first | rfl | assumption))
        refine RW.sd rfl rfl rfl ?_ rfl ?_; (· (first | rfl | assumption))
        refine RW.opd rfl rfl (LO.pick_f rfl rfl ?_ rfl) ?_; (· (first | rfl | assumption))
        refine RW.nil ?_
        repeat (refine W.seq ?_)
        refine W.cond_f rfl (by first | rfl | assumption) ?_
        refine W.skip ?_
        repeat (refine W.seq ?_)
        refine W.region 73 75 (by decide) rfl rfl ?_
        refine RW.opd rfl rfl (LO.add_in rfl rfl rfl ?_) ?_; (· (first | exact IntWalk.i64_in _ (by omega) | assumption))
        refine RW.opd rfl rfl (LO.move rfl rfl) ?_
        refine RW.nil ?_
        refine WL.rename [(0, 0), (1, 1)] 2 (by decide) ?_ ?_ (ihB ((i + 1), m) (show f.dead.length - (i + 1) < f.dead.length - i from by omega) (show (i + 1) ≤ f.dead.length ∧ m = lst (fun t => decide (0 ≤ gI (dist f s) t)) (i + 1) from ⟨by omega, hnext.symm⟩))
        · (repeat' (first | exact all_mt | refine all_up ?_ ?_)) <;> first | exact .inl ⟨rfl, rfl⟩ | exact .inr ⟨rfl, fun _ h => by cases h⟩ | exact .inl ⟨rfl, by first | rfl | assumption | exact (intsC_pure _)⟩
        · (repeat' (first | exact all_mt | refine all_up ?_ ?_)) <;> first | exact ⟨rfl, _, rfl, .inr ⟨rfl, rfl⟩⟩ | exact ⟨rfl, _, rfl, .inl rfl⟩ | exact ⟨rfl, _, rfl, .inr ⟨rfl, by first | rfl | assumption | exact (intsC_pure _)⟩⟩
    · have g2 : decide ((i : Int) < (f.dead.length : Int)) = false := decide_eq_false (by omega)
      repeat (refine W.seq ?_)
      refine W.region 43 44 (by decide) rfl rfl ?_
      refine RW.opd rfl rfl (LO.lss rfl rfl rfl) ?_
      refine RW.nil ?_
      repeat (refine W.seq ?_)
      refine W.cond_f rfl (by first | rfl | assumption) ?_
      refine W.exit ?_
      obtain rfl : i = f.dead.length := by omega
      repeat (refine W.seq ?_)
      refine W.region 79 84 (by decide) rfl rfl ?_
      refine RW.opd rfl rfl (LO.move rfl rfl) ?_
      refine RW.opd rfl rfl (LO.move rfl rfl) ?_
      refine RW.opd rfl rfl (LO.buildSlice rfl ty26 ty3 (by decide) (by decide) (.cons rfl rfl rfl rfl (Sp.lit rfl) .nil)) ?_
      refine RW.opd rfl rfl (LO.append rfl rfl (SrcAV.own rfl rfl (Tk.lit rfl)) rfl (ints_tk hol) ty26 ty26 ty3 (by decide) ?_ ?_ ?_) ?_; (· (first | omega | decide | assumption | fail | (simp; done) | (simp; omega))); (· (first | omega | decide | assumption | fail | (simp; done) | (simp; omega))); (· (first | decide | omega))
      refine RW.opd rfl rfl (LO.assign rfl rfl) ?_
      refine RW.nil ?_
      repeat (refine W.seq ?_)
      refine W.region 88 90 (by decide) rfl rfl ?_
      refine RW.opd rfl rfl (LO.add_in rfl rfl rfl ?_) ?_; (· (first | exact IntWalk.i64_in _ (by omega) | assumption))
      refine RW.opd rfl rfl (LO.move rfl rfl) ?_
      refine RW.nil ?_
      rw [ints_snoc]
      refine WL.rename [(0, 0), (1, 82)] 2 (by decide) ?_ ?_ (ihA ((s + 1), (o ++ [m])) (show f.dead.length - (s + 1) < f.dead.length - s from by omega) (show (s + 1) ≤ f.dead.length ∧ (o ++ [m]) = (List.range (s + 1)).map fun (y : Nat) => lst (fun t => decide (0 ≤ gI (dist f y) t)) f.dead.length from ⟨by omega, by rw [List.range_succ, List.map_append, ← ho, hm]; rfl⟩))
      · (repeat' (first | exact all_mt | refine all_up ?_ ?_)) <;> first | exact .inl ⟨rfl, rfl⟩ | exact .inr ⟨rfl, fun _ h => by cases h⟩ | exact .inl ⟨rfl, by first | rfl | assumption | exact (intsC_pure _)⟩
      · (repeat' (first | exact all_mt | refine all_up ?_ ?_)) <;> first | exact ⟨rfl, _, rfl, .inr ⟨rfl, rfl⟩⟩ | exact ⟨rfl, _, rfl, .inl rfl⟩ | exact ⟨rfl, _, rfl, .inr ⟨rfl, by first | rfl | assumption | exact (intsC_pure _)⟩⟩
  · have g1 : decide ((s : Int) < f.sw) = false := decide_eq_false (by omega)
    repeat (refine W.seq ?_)
    refine W.region 18 19 (by decide) rfl rfl ?_
    refine RW.opd rfl rfl (LO.lss rfl rfl rfl) ?_
    refine RW.nil ?_
    repeat (refine W.seq ?_)
    refine W.cond_f rfl (by first | rfl | assumption) ?_
    refine W.exit ?_
    obtain rfl : s = f.dead.length := by omega
    repeat (refine W.seq ?_)
    refine W.region 94 96 (by decide) rfl rfl ?_
    refine RW.opd rfl rfl (LO.move rfl rfl) ?_
    refine RW.opd rfl rfl (LO.assign rfl rfl) ?_
    refine RW.nil ?_
    refine W.frz1 (t := 2) rfl rfl (ints_tk hol) (intsC_pure _) ?_
    repeat (refine W.seq ?_)
    refine W.ret ⟨.inl rfl, _, mt, RVs.cons (RV.tmp rfl) (RVs.nil), all_mt, ?_⟩
    exact ⟨by rw [ho]; rfl, rfl⟩
end Go.Proofs.Ythbdngfnbpkefaa
