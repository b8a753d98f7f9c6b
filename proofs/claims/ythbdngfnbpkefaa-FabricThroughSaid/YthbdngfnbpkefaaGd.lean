/-
  FabricThrough returns true.
-/
import Derived.Test.YthbdngfnbpkefaaGc
import Derived.Test.YthbdngfnbpkefaaU14
namespace Go.Proofs.Ythbdngfnbpkefaa
open Go.RowKit

def atI (f : Fab) (s : Int) (i : Nat) : Int := match f.links[i]? with
  | none => 0
  | some l => if wkF f i = true ∧ (l.a = s ∨ l.b = s) then l.c else 0
def mostI (f : Fab) (s t : Int) (i : Nat) : Int := match f.links[i]? with
  | none => 0
  | some l => if wkF f i = true ∧ ((l.a = s ∧ l.b = t) ∨ (l.a = t ∧ l.b = s)) then l.c else 0
def sumK (p : Nat → Int) (k : Nat) : Int := ((List.range k).map p).sum
theorem sumK_succ (p : Nat → Int) (k : Nat) : sumK p (k + 1) = sumK p k + p k := by
  unfold sumK; rw [List.range_succ, List.map_append, List.sum_append]; simp
theorem sumK_bd {p : Nat → Int} {B : Int} (h : ∀ i, 0 ≤ p i ∧ p i ≤ B) (k : Nat) : 0 ≤ sumK p k ∧ sumK p k ≤ k * B := by
  induction k with
  | zero => simp [sumK]
  | succ k ih =>
    rw [sumK_succ, show ((k + 1 : Nat) : Int) * B = k * B + B from by rw [Int.natCast_add, Int.add_mul]; simp]
    have := h k
    omega
theorem atI_bd {f : Fab} (hL : LinksOK f) (s : Int) (i : Nat) : 0 ≤ atI f s i ∧ atI f s i ≤ 1048576 := by
  unfold atI
  cases hl : f.links[i]? with
  | none => simp
  | some l =>
    dsimp only
    split
    · rename_i h
      have := hL i l hl h.1
      exact ⟨this.c1, this.cB⟩
    · simp
theorem mostI_bd {f : Fab} (hL : LinksOK f) (s t : Int) (i : Nat) : 0 ≤ mostI f s t i ∧ mostI f s t i ≤ 1048576 := by
  unfold mostI
  cases hl : f.links[i]? with
  | none => simp
  | some l =>
    dsimp only
    split
    · rename_i h
      have := hL i l hl h.1
      exact ⟨this.c1, this.cB⟩
    · simp
/-- no flow exceeds what the links at one end carry -/
theorem flow_at {f : Fab} (hL : LinksOK f) (s t : Int) : flowF f s t ≤ sumK (atI f s) f.links.length := by
  rcases flow_cases f s t with ⟨h1, h2⟩ | ⟨x, y, rfl, rfl, h1, h2, h3⟩
  · rw [h1]; exact (sumK_bd (atI_bd hL s) _).1
  · refine Int.le_trans ((flow_is hL h1 h2 h3).le (fun z => decide (z = x)) (by simp) (by simp; omega)) ?_
    unfold capC sumK
    refine sum_le2 _ _ _ fun i _ => ?_
    unfold capI atI
    cases hl : f.links[i]? with
    | none => simp
    | some l =>
      dsimp only
      cases hw : wkF f i with
      | false => simp
      | true =>
        have hk := hL i l hl hw
        have h4 := hk.a0
        have h5 := hk.b0
        have h6 := hk.c1
        by_cases c1 : l.a = (x : Int)
        · rw [if_pos (show true = true ∧ (l.a = (x : Int) ∨ l.b = x) from ⟨rfl, .inl c1⟩)]
          split <;> omega
        · by_cases c2 : l.b = (x : Int)
          · rw [if_pos (show true = true ∧ (l.a = (x : Int) ∨ l.b = x) from ⟨rfl, .inr c2⟩)]
            split <;> omega
          · have e1 : decide (l.a.toNat = x) = false := decide_eq_false (by omega)
            have e2 : decide (l.b.toNat = x) = false := decide_eq_false (by omega)
            simp [e1, e2, c1, c2]
theorem flow_most {f : Fab} (hL : LinksOK f) {s t : Int} (hst : s ≠ t) : sumK (mostI f s t) f.links.length ≤ flowF f s t := by
  rcases flow_cases f s t with ⟨h1, h2⟩ | ⟨x, y, rfl, rfl, h1, h2, h3⟩
  · rw [h1]
    refine Int.le_of_eq ?_
    unfold sumK
    refine sum_zero _ _ fun i _ => ?_
    unfold mostI
    cases hl : f.links[i]? with
    | none => rfl
    | some l =>
      dsimp only
      rw [if_neg]
      rintro ⟨hw, h⟩
      have ha := worksB_ends hw hl
      rcases h2 with h2 | h2 | h2
      · exact hst h2
      · rcases h with ⟨rfl, rfl⟩ | ⟨rfl, rfl⟩
        · rw [ha.1] at h2; cases h2
        · rw [ha.2] at h2; cases h2
      · rcases h with ⟨rfl, rfl⟩ | ⟨rfl, rfl⟩
        · rw [ha.2] at h2; cases h2
        · rw [ha.1] at h2; cases h2
  · obtain ⟨χ, c1, c2, c3⟩ := (flow_is hL h1 h2 h3).eq
    rw [c3]
    unfold capC sumK
    refine sum_le2 _ _ _ fun i _ => ?_
    have hb := (capI_bd hL χ i).1
    unfold mostI
    cases hl : f.links[i]? with
    | none => exact hb
    | some l =>
      dsimp only
      split
      · rename_i h
        obtain ⟨hw, h⟩ := h
        unfold capI
        rw [hl]
        dsimp only
        rw [hw, if_pos]
        · exact Int.le_refl _
        · rcases h with ⟨h, h'⟩ | ⟨h, h'⟩
          · rw [h, h', Int.toNat_natCast, Int.toNat_natCast, c1, c2]; rfl
          · rw [h, h', Int.toNat_natCast, Int.toNat_natCast, c1, c2]; rfl
      · exact hb
set_option maxHeartbeats 1000000 in
theorem through_law (l : List Int) (a b : Int) (hl : l.length ≤ 9223372036854775807) : AFn Try.prog 10 0 [.isl (intsC l) l.length, .base (.int .i64 a), .base (.int .i64 b)] mt (.base (.bool true)) mt := by
  refine AFn.eq Try.func10 rfl rfl (Nat.le_of_ble_eq_true rfl) ?_
  have hnew := new_any l
  obtain ⟨v, H', hcall, f, a1, ⟨hf, hsw⟩, rfl, rfl⟩ := fabric_any l 0 2 (by decide) (by decide) hl
  have hds := distances_isl f hf.fs
  have hwk := works_any f
  have hfs := flow_any f hf.fs hf.val
  have hL := hf.lk
  have hs1 := hf.sw1
  have hs7 := hf.sw7
  have hdd := hf.dead
  have h24 := hf.nlinks
  obtain ⟨sn, hsn, hsl⟩ := emod_nat a (show 0 < f.sw by omega)
  obtain ⟨tn, htn, htl⟩ := emod_nat b (show 0 < f.sw by omega)
  have hm1 := mod_any a f.sw hs1 (by omega)
  have hm2 := mod_any b f.sw hs1 (by omega)
  rw [hsn] at hm1
  rw [htn] at hm2
  have hne : ((f.dead.length : Int) != f.sw) = false := by rw [hdd]; simp
  repeat (refine W.seq ?_)
  refine W.region 0 1 (by decide) rfl rfl ?_
  refine RW.opd rfl rfl (LO.assign rfl rfl) ?_
  refine RW.nil ?_
  repeat (refine W.seq ?_)
  refine W.region 5 10 (by decide) rfl rfl ?_
  refine RW.opd rfl rfl (LO.move rfl rfl) ?_
  refine RW.opd rfl rfl (LO.callN (fr := []) rfl rfl (hnew) fok16 (.cons rfl (.pure rfl) .nil) rfl (by decide)) ?_
  refine RW.opd rfl rfl (LO.call1 (fr := []) rfl rfl (hcall) fok17 (.own rfl rfl (.cons rfl (.pure rfl) .nil)) rfl rfl rfl (List.cons_ne_nil _ _) (by decide) rfl) ?_
  refine RW.opd rfl rfl (LO.alloc rfl ty25) ?_
  refine RW.opn rfl rfl (LO.store rfl rfl rfl rfl rfl ty25 rfl (by decide) (Sp.lit rfl)) ?_
  refine RW.nil ?_
  repeat (refine W.seq ?_)
  refine W.regionD 14 24 (by decide) rfl mixed rfl ?_
  refine RW.opd rfl rfl (LO.move rfl rfl) ?_
  refine RW.opd rfl rfl (LO.fieldAddr rfl rfl ty25 rfl (by decide)) ?_
  refine RW.opd rfl rfl (LO.load rfl rfl rfl rfl ty3 rfl) ?_
  refine RW.opd rfl rfl (LO.call0 (fr := []) rfl rfl (hm1) fok21 (.cons rfl (.pure rfl) (.cons rfl (.pure rfl) .nil)) rfl) ?_
  refine RW.opd rfl rfl (LO.move rfl rfl) ?_
  refine RW.opd rfl rfl (LO.fieldAddr rfl rfl ty25 rfl (by decide)) ?_
  refine RW.opd rfl rfl (LO.load rfl rfl rfl rfl ty3 rfl) ?_
  refine RW.opd rfl rfl (LO.call0 (fr := []) rfl rfl (hm2) fok21 (.cons rfl (.pure rfl) (.cons rfl (.pure rfl) .nil)) rfl) ?_
  refine RW.opd rfl rfl (LO.assign rfl rfl) ?_
  refine RW.opd rfl rfl (LO.assign rfl rfl) ?_
  refine RW.nil ⟨by kernel_rfl, ?_⟩
  repeat (refine W.seq ?_)
  refine W.region 28 32 (by decide) rfl rfl ?_
  refine RW.opd rfl rfl (LO.load_agg rfl rfl rfl ty25 rfl (Tk.lit rfl)) ?_
  refine RW.opd rfl rfl (LO.move rfl rfl) ?_
  refine RW.opd rfl rfl (LO.call0 (fr := []) rfl rfl (hds _) fok35 (.cons rfl (.pure rfl) (.cons rfl (.pure rfl) .nil)) rfl) ?_
  refine RW.opd rfl rfl (LO.assign rfl rfl) ?_
  refine RW.nil ?_
  repeat (refine W.seq ?_)
  refine W.region 36 41 (by decide) rfl rfl ?_
  refine RW.opd rfl rfl (LO.move rfl rfl) ?_
  refine RW.opd rfl rfl (LO.len_isl rfl rfl rfl ty26) ?_
  refine RW.opd rfl rfl (LO.fieldAddr rfl rfl ty25 rfl (by decide)) ?_
  refine RW.opd rfl rfl (LO.load rfl rfl rfl rfl ty3 rfl) ?_
  refine RW.opd rfl rfl (LO.neq rfl rfl rfl) ?_
  refine RW.nil ?_
  repeat (refine W.seq ?_)
  refine W.cond_f rfl (by first | rfl | assumption) ?_
  refine W.skip ?_
  repeat (refine W.seq ?_)
  refine W.region 50 53 (by decide) rfl rfl ?_
  refine RW.opd rfl rfl (LO.fieldAddr rfl rfl ty25 rfl (by decide)) ?_
  refine RW.opd rfl rfl (LO.load rfl rfl rfl rfl ty3 rfl) ?_
  refine RW.opd rfl rfl (LO.move rfl rfl) ?_
  refine RW.nil ?_
  repeat (refine W.seq ?_)
  refine W.block ?_
  refine W.rename [(0, 8)] 1 (T' := up (up (up (up (up (up mt 7 (some (.own 0 0))) 8 (some (.base (.int .i64 (sn : Int))))) 9 (some (.base (.int .i64 (tn : Int))))) 10 (some (.isl (intsC (dist f tn)) f.dead.length))) 38 (some (.base (.int .i64 f.sw)))) 39 (some (.base (.int .i64 (0 : Int))))) (H' := up mt 0 (some (fabC f))) (by decide) ?_ ?_ ?_
  · (repeat' (first | exact all_mt | refine all_up ?_ ?_)) <;> first | exact .inl ⟨rfl, rfl⟩ | exact .inr ⟨rfl, fun _ h => by cases h⟩ | exact .inl ⟨rfl, by first | rfl | assumption | exact (intsC_pure _) | exact (boolsC_pure _)⟩
  · (repeat' (first | exact all_mt | refine all_up ?_ ?_)) <;> first | exact ⟨rfl, _, rfl, .inr ⟨rfl, rfl⟩⟩ | exact ⟨rfl, _, rfl, .inl rfl⟩ | exact ⟨rfl, _, rfl, .inr ⟨rfl, by first | rfl | assumption | exact (intsC_pure _) | exact (boolsC_pure _)⟩⟩
  refine W.loop_ind (α := Nat) (fun x => f.dead.length - x) 1 (fun x => up (up (up (up (up (up mt 7 (some (.own 0 0))) 8 (some (.base (.int .i64 (sn : Int))))) 9 (some (.base (.int .i64 (tn : Int))))) 10 (some (.isl (intsC (dist f tn)) f.dead.length))) 38 (some (.base (.int .i64 f.sw)))) 39 (some (.base (.int .i64 (x : Int))))) (fun x => up mt 0 (some (fabC f))) (fun x => x ≤ f.dead.length) 0 (show 0 ≤ f.dead.length from Nat.zero_le _) ?_
  rintro m hIA ihA
  try (dsimp only at hIA)
  try dsimp only
  by_cases hc : m < f.dead.length
  · have g1 : decide ((m : Int) < f.sw) = true := decide_eq_true (by omega)
    have hl1 := dist_len f tn
    have hl2 := dist_len f m
    have htri := dist_tri (f := f) (t := tn) (x := sn) (m := m)
    have q1 := dist_lt f tn m (by omega)
    have q2 := dist_lt f m sn (by omega)
    have q3 := dist_ge f tn m
    have q4 := dist_ge f m sn
    repeat (refine W.seq ?_)
    refine W.region 57 58 (by decide) rfl rfl ?_
    refine RW.opd rfl rfl (LO.lss rfl rfl rfl) ?_
    refine RW.nil ?_
    repeat (refine W.seq ?_)
    refine W.cond_t rfl (by first | rfl | assumption) ?_
    refine W.skip ?_
    repeat (refine W.seq ?_)
    refine W.block ?_
    repeat (refine W.seq ?_)
    refine W.region 62 64 (by decide) rfl rfl ?_
    refine RW.opd rfl rfl (LO.move rfl rfl) ?_
    refine RW.opd rfl rfl (LO.assign rfl rfl) ?_
    refine RW.nil ?_
    repeat (refine W.seq ?_)
    refine W.region 68 72 (by decide) rfl rfl ?_
    refine RW.opd rfl rfl (LO.load_agg rfl rfl rfl ty25 rfl (Tk.lit rfl)) ?_
    refine RW.opd rfl rfl (LO.move rfl rfl) ?_
    refine RW.opd rfl rfl (LO.call0 (fr := []) rfl rfl (hds _) fok35 (.cons rfl (.pure rfl) (.cons rfl (.pure rfl) .nil)) rfl) ?_
    refine RW.opd rfl rfl (LO.assign rfl rfl) ?_
    refine RW.nil ?_
    repeat (refine W.seq ?_)
    refine W.region 76 81 (by decide) rfl rfl ?_
    refine RW.opd rfl rfl (LO.move rfl rfl) ?_
    refine RW.opd rfl rfl (LO.len_isl rfl rfl rfl ty26) ?_
    refine RW.opd rfl rfl (LO.fieldAddr rfl rfl ty25 rfl (by decide)) ?_
    refine RW.opd rfl rfl (LO.load rfl rfl rfl rfl ty3 rfl) ?_
    refine RW.opd rfl rfl (LO.neq rfl rfl rfl) ?_
    refine RW.nil ?_
    repeat (refine W.seq ?_)
    refine W.cond_f rfl (by first | rfl | assumption) ?_
    refine W.skip ?_
    have hcase : (¬ 0 ≤ gI (dist f m) sn) ∨ (0 ≤ gI (dist f m) sn ∧ ¬ 0 ≤ gI (dist f tn) m) ∨ (0 ≤ gI (dist f m) sn ∧ 0 ≤ gI (dist f tn) m) := by omega
    rcases hcase with h1 | ⟨h1, h2⟩ | ⟨h1, h2⟩
    case' inl =>
      have k1 : decide (gI (dist f m) sn ≥ 0) = false := decide_eq_false h1
    case' inr.inl =>
      have k1 : decide (gI (dist f m) sn ≥ 0) = true := decide_eq_true h1
      have k2 : decide (gI (dist f tn) m ≥ 0) = false := decide_eq_false h2
    case' inr.inr =>
      have k1 : decide (gI (dist f m) sn ≥ 0) = true := decide_eq_true h1
      have k2 : decide (gI (dist f tn) m ≥ 0) = true := decide_eq_true h2
      have k3 : decide (gI (dist f tn) sn < 0) = false := decide_eq_false (by have := htri h1 h2; omega)
      have k4 : decide (gI (dist f tn) sn > gI (dist f m) sn + gI (dist f tn) m) = false := decide_eq_false (by have := htri h1 h2; omega)
    all_goals
      repeat (refine W.seq ?_)
      refine W.regionD 90 125 (by decide) rfl mixed rfl ?_
      refine RW.opd rfl rfl (LO.move rfl rfl) ?_
      refine RW.opd rfl rfl (LO.move rfl rfl) ?_
      refine RW.opd rfl rfl (LO.indexAddr_isl rfl rfl rfl rfl rfl ty26 ty3 ?_) ?_; (· (first | omega | decide | assumption | fail | (simp; done) | (simp; omega)))
      refine RW.opd rfl rfl (LO.load_imm rfl rfl (ni_at1 (k := sn) (by omega)) ty3 rfl) ?_
      refine RW.opd rfl rfl (LO.geq rfl rfl rfl) ?_
      refine RW.opd rfl rfl (LO.move rfl rfl) ?_
      first
          | (refine RW.sd rfl rfl rfl ?_ rfl ?_; (· (first | rfl | assumption)))
          | (refine RW.gd rfl rfl rfl ?_ rfl (LO.move rfl rfl) ?_; (· (first | rfl | assumption)))
      first
          | (refine RW.sd rfl rfl rfl ?_ rfl ?_; (· (first | rfl | assumption)))
          | (refine RW.gd rfl rfl rfl ?_ rfl (LO.move rfl rfl) ?_; (· (first | rfl | assumption)))
      first
          | (refine RW.sd rfl rfl rfl ?_ rfl ?_; (· (first | rfl | assumption)))
          | (refine RW.gd rfl rfl rfl ?_ rfl (LO.indexAddr_isl rfl rfl rfl rfl rfl ty26 ty3 ?_) ?_; (· (first | rfl | assumption)); (· (first | omega | decide | assumption | fail | (simp; done) | (simp; omega))))
      first
          | (refine RW.sd rfl rfl rfl ?_ rfl ?_; (· (first | rfl | assumption)))
          | (refine RW.gd rfl rfl rfl ?_ rfl (LO.load_imm rfl rfl (ni_at1 (k := m) (by omega)) ty3 rfl) ?_; (· (first | rfl | assumption)))
      first
          | (refine RW.sd rfl rfl rfl ?_ rfl ?_; (· (first | rfl | assumption)))
          | (refine RW.gd rfl rfl rfl ?_ rfl (LO.geq rfl rfl rfl) ?_; (· (first | rfl | assumption)))
      first
          | (refine RW.opd rfl rfl (LO.pick_t rfl rfl ?_ rfl) ?_; (· (first | rfl | assumption)))
          | (refine RW.opd rfl rfl (LO.pick_f rfl rfl ?_ rfl) ?_; (· (first | rfl | assumption)))
      refine RW.opd rfl rfl (LO.move rfl rfl) ?_
      first
          | (refine RW.sd rfl rfl rfl ?_ rfl ?_; (· (first | rfl | assumption)))
          | (refine RW.gd rfl rfl rfl ?_ rfl (LO.move rfl rfl) ?_; (· (first | rfl | assumption)))
      first
          | (refine RW.sd rfl rfl rfl ?_ rfl ?_; (· (first | rfl | assumption)))
          | (refine RW.gd rfl rfl rfl ?_ rfl (LO.move rfl rfl) ?_; (· (first | rfl | assumption)))
      first
          | (refine RW.sd rfl rfl rfl ?_ rfl ?_; (· (first | rfl | assumption)))
          | (refine RW.gd rfl rfl rfl ?_ rfl (LO.indexAddr_isl rfl rfl rfl rfl rfl ty26 ty3 ?_) ?_; (· (first | rfl | assumption)); (· (first | omega | decide | assumption | fail | (simp; done) | (simp; omega))))
      first
          | (refine RW.sd rfl rfl rfl ?_ rfl ?_; (· (first | rfl | assumption)))
          | (refine RW.gd rfl rfl rfl ?_ rfl (LO.load_imm rfl rfl (ni_at1 (k := sn) (by omega)) ty3 rfl) ?_; (· (first | rfl | assumption)))
      first
          | (refine RW.sd rfl rfl rfl ?_ rfl ?_; (· (first | rfl | assumption)))
          | (refine RW.gd rfl rfl rfl ?_ rfl (LO.lss rfl rfl rfl) ?_; (· (first | rfl | assumption)))
      first
          | (refine RW.sd rfl rfl rfl ?_ rfl ?_; (· (first | rfl | assumption)))
          | (refine RW.gd rfl rfl rfl ?_ rfl (LO.move rfl rfl) ?_; (· (first | rfl | assumption)))
      first
          | (refine RW.gd rfl rfl rfl ?_ rfl (LO.move rfl rfl) ?_; (· (first | rfl | assumption)))
          | (refine RW.ud rfl rfl rfl rfl ?_)
      first
          | (refine RW.gd rfl rfl rfl ?_ rfl (LO.move rfl rfl) ?_; (· (first | rfl | assumption)))
          | (refine RW.ud rfl rfl rfl rfl ?_)
      first
          | (refine RW.gd rfl rfl rfl ?_ rfl (LO.indexAddr_isl rfl rfl rfl rfl rfl ty26 ty3 ?_) ?_; (· (first | rfl | assumption)); (· (first | omega | decide | assumption | fail | (simp; done) | (simp; omega))))
          | (refine RW.ud rfl rfl rfl rfl ?_)
      first
          | (refine RW.gd rfl rfl rfl ?_ rfl (LO.load_imm rfl rfl (ni_at1 (k := sn) (by omega)) ty3 rfl) ?_; (· (first | rfl | assumption)))
          | (refine RW.ud rfl rfl rfl rfl ?_)
      first
          | (refine RW.gd rfl rfl rfl ?_ rfl (LO.move rfl rfl) ?_; (· (first | rfl | assumption)))
          | (refine RW.ud rfl rfl rfl rfl ?_)
      first
          | (refine RW.gd rfl rfl rfl ?_ rfl (LO.move rfl rfl) ?_; (· (first | rfl | assumption)))
          | (refine RW.ud rfl rfl rfl rfl ?_)
      first
          | (refine RW.gd rfl rfl rfl ?_ rfl (LO.indexAddr_isl rfl rfl rfl rfl rfl ty26 ty3 ?_) ?_; (· (first | rfl | assumption)); (· (first | omega | decide | assumption | fail | (simp; done) | (simp; omega))))
          | (refine RW.ud rfl rfl rfl rfl ?_)
      first
          | (refine RW.gd rfl rfl rfl ?_ rfl (LO.load_imm rfl rfl (ni_at1 (k := sn) (by omega)) ty3 rfl) ?_; (· (first | rfl | assumption)))
          | (refine RW.ud rfl rfl rfl rfl ?_)
      first
          | (refine RW.gd rfl rfl rfl ?_ rfl (LO.move rfl rfl) ?_; (· (first | rfl | assumption)))
          | (refine RW.ud rfl rfl rfl rfl ?_)
      first
          | (refine RW.gd rfl rfl rfl ?_ rfl (LO.move rfl rfl) ?_; (· (first | rfl | assumption)))
          | (refine RW.ud rfl rfl rfl rfl ?_)
      first
          | (refine RW.gd rfl rfl rfl ?_ rfl (LO.indexAddr_isl rfl rfl rfl rfl rfl ty26 ty3 ?_) ?_; (· (first | rfl | assumption)); (· (first | omega | decide | assumption | fail | (simp; done) | (simp; omega))))
          | (refine RW.ud rfl rfl rfl rfl ?_)
      first
          | (refine RW.gd rfl rfl rfl ?_ rfl (LO.load_imm rfl rfl (ni_at1 (k := m) (by omega)) ty3 rfl) ?_; (· (first | rfl | assumption)))
          | (refine RW.ud rfl rfl rfl rfl ?_)
      first
          | (refine RW.gd rfl rfl rfl ?_ rfl (LO.add_in rfl rfl rfl ?_) ?_; (· (first | rfl | assumption)); (· (first | exact IntWalk.i64_in _ (by omega) | assumption)))
          | (refine RW.ud rfl rfl rfl rfl ?_)
      first
          | (refine RW.gd rfl rfl rfl ?_ rfl (LO.gtr rfl rfl rfl) ?_; (· (first | rfl | assumption)))
          | (refine RW.ud rfl rfl rfl rfl ?_)
      first
          | (refine RW.sd rfl rfl rfl ?_ rfl ?_; (· (first | rfl | assumption)))
          | (refine RW.gd rfl rfl rfl ?_ rfl (LO.pick_f rfl rfl ?_ rfl) ?_; (· (first | rfl | assumption)); (· (first | rfl | assumption)))
      first
          | (refine RW.opd rfl rfl (LO.pick_t rfl rfl ?_ rfl) ?_; (· (first | rfl | assumption)))
          | (refine RW.opd rfl rfl (LO.pick_f rfl rfl ?_ rfl) ?_; (· (first | rfl | assumption)))
      refine RW.nil ⟨by kernel_rfl, ?_⟩
      repeat (refine W.seq ?_)
      refine W.cond_f rfl (by first | rfl | assumption) ?_
      refine W.skip ?_
      repeat (refine W.seq ?_)
      refine W.region 134 136 (by decide) rfl rfl ?_
      refine RW.opd rfl rfl (LO.add_in rfl rfl rfl ?_) ?_; (· (first | exact IntWalk.i64_in _ (by omega) | assumption))
      refine RW.opd rfl rfl (LO.move rfl rfl) ?_
      refine RW.nil ?_
      refine WL.rename [(0, 0)] 1 (by decide) ?_ ?_ (ihA (m + 1) (show f.dead.length - (m + 1) < f.dead.length - m from by omega) (show (m + 1) ≤ f.dead.length from by omega))
      · (repeat' (first | exact all_mt | refine all_up ?_ ?_)) <;> first | exact .inl ⟨rfl, rfl⟩ | exact .inr ⟨rfl, fun _ h => by cases h⟩ | exact .inl ⟨rfl, by first | rfl | assumption | exact (intsC_pure _) | exact (boolsC_pure _)⟩
      · (repeat' (first | exact all_mt | refine all_up ?_ ?_)) <;> first | exact ⟨rfl, _, rfl, .inr ⟨rfl, rfl⟩⟩ | exact ⟨rfl, _, rfl, .inl rfl⟩ | exact ⟨rfl, _, rfl, .inr ⟨rfl, by first | rfl | assumption | exact (intsC_pure _) | exact (boolsC_pure _)⟩⟩
  · have g1 : decide ((m : Int) < f.sw) = false := decide_eq_false (by omega)
    repeat (refine W.seq ?_)
    refine W.region 57 58 (by decide) rfl rfl ?_
    refine RW.opd rfl rfl (LO.lss rfl rfl rfl) ?_
    refine RW.nil ?_
    repeat (refine W.seq ?_)
    refine W.cond_f rfl (by first | rfl | assumption) ?_
    refine W.exit ?_
    clear ihA
    repeat (refine W.seq ?_)
    refine W.region 140 142 (by decide) rfl rfl ?_
    refine RW.opd rfl rfl (LO.assign rfl rfl) ?_
    refine RW.opd rfl rfl (LO.assign rfl rfl) ?_
    refine RW.nil ?_
    repeat (refine W.seq ?_)
    refine W.region 146 150 (by decide) rfl rfl ?_
    refine RW.opd rfl rfl (LO.fieldAddr rfl rfl ty25 rfl (by decide)) ?_
    refine RW.opd rfl rfl (LO.load rfl rfl rfl rfl ty22 rfl) ?_
    refine RW.opd rfl rfl (LO.len_isl rfl rfl rfl ty22) ?_
    refine RW.opd rfl rfl (LO.move rfl rfl) ?_
    refine RW.nil ?_
    repeat (refine W.seq ?_)
    refine W.block ?_
    refine W.rename [(0, 0)] 1 (T' := up (up (up (up (up (up (up (up mt 7 (some (.own 0 0))) 8 (some (.base (.int .i64 (sn : Int))))) 9 (some (.base (.int .i64 (tn : Int))))) 13 (some (.base (.int .i64 0)))) 14 (some (.base (.int .i64 0)))) 87 (some (.isl (lnksC f.links) f.links.length))) 88 (some (.base (.int .i64 (f.links.length : Int))))) 89 (some (.base (.int .i64 (0 : Int))))) (H' := up mt 0 (some (fabC f))) (by decide) ?_ ?_ ?_
    · (repeat' (first | exact all_mt | refine all_up ?_ ?_)) <;> first | exact .inl ⟨rfl, rfl⟩ | exact .inr ⟨rfl, fun _ h => by cases h⟩ | exact .inl ⟨rfl, by first | rfl | assumption | exact (intsC_pure _) | exact (boolsC_pure _)⟩
    · (repeat' (first | exact all_mt | refine all_up ?_ ?_)) <;> first | exact ⟨rfl, _, rfl, .inr ⟨rfl, rfl⟩⟩ | exact ⟨rfl, _, rfl, .inl rfl⟩ | exact ⟨rfl, _, rfl, .inr ⟨rfl, by first | rfl | assumption | exact (intsC_pure _) | exact (boolsC_pure _)⟩⟩
    refine W.loop_ind (α := Nat × Int × Int) (fun x => f.links.length - x.1) 1 (fun x => up (up (up (up (up (up (up (up mt 7 (some (.own 0 0))) 8 (some (.base (.int .i64 (sn : Int))))) 9 (some (.base (.int .i64 (tn : Int))))) 13 (some (.base (.int .i64 x.2.1)))) 14 (some (.base (.int .i64 x.2.2)))) 87 (some (.isl (lnksC f.links) f.links.length))) 88 (some (.base (.int .i64 (f.links.length : Int))))) 89 (some (.base (.int .i64 (x.1 : Int))))) (fun x => up mt 0 (some (fabC f))) (fun x => x.1 ≤ f.links.length ∧ x.2.1 = sumK (atI f sn) x.1 ∧ x.2.2 = sumK (mostI f sn tn) x.1) (0, 0, 0) (show 0 ≤ f.links.length ∧ 0 = sumK (atI f sn) 0 ∧ 0 = sumK (mostI f sn tn) 0 from ⟨Nat.zero_le _, rfl, rfl⟩) ?_
    rintro ⟨i, n1, n2⟩ hIB ihB
    try (dsimp only at hIB)
    try dsimp only
    obtain ⟨hi, hn1, hn2⟩ := hIB
    by_cases hc2 : i < f.links.length
    · have g7 : decide ((i : Int) < (f.links.length : Int)) = true := decide_eq_true (by omega)
      have hl2 : f.links[i]? = some f.links[i] := by simp [hc2]
      have hb1 := sumK_bd (atI_bd hL sn) i
      have hb2 := sumK_bd (mostI_bd hL sn tn) i
      have hx1 := sumK_succ (atI f sn) i
      have hx2 := sumK_succ (mostI f sn tn) i
      rw [← hn1] at hb1 hx1
      rw [← hn2] at hb2 hx2
      rw [show atI f sn i = if wkF f i = true ∧ (f.links[i].a = sn ∨ f.links[i].b = sn) then f.links[i].c else 0 from by unfold atI; rw [hl2]] at hx1
      rw [show mostI f sn tn i = if wkF f i = true ∧ ((f.links[i].a = sn ∧ f.links[i].b = tn) ∨ (f.links[i].a = tn ∧ f.links[i].b = sn)) then f.links[i].c else 0 from by unfold mostI; rw [hl2]] at hx2
      have hcb : wkF f i = true → 0 ≤ f.links[i].c ∧ f.links[i].c ≤ 1048576 := fun hw => ⟨(hL i _ hl2 hw).c1, (hL i _ hl2 hw).cB⟩
      repeat (refine W.seq ?_)
      refine W.region 154 155 (by decide) rfl rfl ?_
      refine RW.opd rfl rfl (LO.lss rfl rfl rfl) ?_
      refine RW.nil ?_
      repeat (refine W.seq ?_)
      refine W.cond_t rfl (by first | rfl | assumption) ?_
      refine W.skip ?_
      refine W.seqJ (α := Int × Int) 1 (fun x => up (up (up (up (up (up (up (up mt 7 (some (.own 0 0))) 8 (some (.base (.int .i64 (sn : Int))))) 9 (some (.base (.int .i64 (tn : Int))))) 13 (some (.base (.int .i64 x.1)))) 14 (some (.base (.int .i64 x.2)))) 87 (some (.isl (lnksC f.links) f.links.length))) 88 (some (.base (.int .i64 (f.links.length : Int))))) 89 (some (.base (.int .i64 (i : Int))))) (fun x => up mt 0 (some (fabC f))) (fun x => x.1 = sumK (atI f sn) (i + 1) ∧ x.2 = sumK (mostI f sn tn) (i + 1)) ?_ ?_
      rotate_left
      rintro ⟨m1, m2⟩ hID
      try (dsimp only at hID)
      try dsimp only
      rotate_right
      ·
        repeat (refine W.seq ?_)
        refine W.block ?_
        repeat (refine W.seq ?_)
        refine W.region 159 165 (by decide) rfl rfl ?_
        refine RW.opd rfl rfl (LO.move rfl rfl) ?_
        refine RW.opd rfl rfl (LO.indexAddr_isl rfl rfl rfl rfl rfl ty22 ty54 ?_) ?_; (· (first | omega | decide | assumption | fail | (simp; done) | (simp; omega)))
        refine RW.opd rfl rfl (LO.load_imm_agg rfl rfl ty54 rfl (lnksC_tk hc2)) ?_
        refine RW.opd rfl rfl (LO.alloc rfl ty54) ?_
        refine RW.opd rfl rfl (LO.assign rfl rfl) ?_
        refine RW.opn rfl rfl (LO.store rfl rfl rfl rfl rfl ty54 rfl (by decide) (Sp.lit rfl)) ?_
        refine RW.nil ?_
        generalize f.links[i] = lk at *
        refine W.seqJ (α := Int) 2 (fun x => up (up (up (up (up (up (up (up (up (up mt 7 (some (.own 0 0))) 8 (some (.base (.int .i64 (sn : Int))))) 9 (some (.base (.int .i64 (tn : Int))))) 13 (some (.base (.int .i64 x)))) 14 (some (.base (.int .i64 n2)))) 15 (some (.base (.int .i64 (i : Int))))) 16 (some (.own 1 0))) 87 (some (.isl (lnksC f.links) f.links.length))) 88 (some (.base (.int .i64 (f.links.length : Int))))) 89 (some (.base (.int .i64 (i : Int))))) (fun x => up (up mt 0 (some (fabC f))) 1 (some (lnkC lk))) (fun x => x = sumK (atI f sn) (i + 1)) ?_ ?_
        rotate_left
        rintro m1 hIC
        try (dsimp only at hIC)
        try dsimp only
        rotate_right
        ·
          cases hwi : worksB f i with
          | false =>
            repeat (refine W.seq ?_)
            refine W.region 169 184 (by decide) rfl rfl ?_
            refine RW.opd rfl rfl (LO.load_agg rfl rfl rfl ty25 rfl (Tk.lit rfl)) ?_
            refine RW.opd rfl rfl (LO.move rfl rfl) ?_
            refine RW.opd rfl rfl (LO.call0 (fr := []) rfl rfl (hwk _) fok22 (.cons rfl (.pure rfl) (.cons rfl (.pure rfl) .nil)) rfl) ?_
            refine RW.opd rfl rfl (LO.move rfl rfl) ?_
            refine RW.sd rfl rfl rfl ?_ rfl ?_; (· (first | rfl | assumption))
            refine RW.sd rfl rfl rfl ?_ rfl ?_; (· (first | rfl | assumption))
            refine RW.sd rfl rfl rfl ?_ rfl ?_; (· (first | rfl | assumption))
            refine RW.sd rfl rfl rfl ?_ rfl ?_; (· (first | rfl | assumption))
            refine RW.sd rfl rfl rfl ?_ rfl ?_; (· (first | rfl | assumption))
            refine RW.ud rfl rfl rfl rfl ?_
            refine RW.ud rfl rfl rfl rfl ?_
            refine RW.ud rfl rfl rfl rfl ?_
            refine RW.ud rfl rfl rfl rfl ?_
            refine RW.sd rfl rfl rfl ?_ rfl ?_; (· (first | rfl | assumption))
            refine RW.opd rfl rfl (LO.pick_f rfl rfl ?_ rfl) ?_; (· (first | rfl | assumption))
            refine RW.nil ?_
            repeat (refine W.seq ?_)
            refine W.cond_f rfl (by first | rfl | assumption) ?_
            refine W.skip ?_
            intro yJ KJ hJ
            refine W.rename [(0, 0), (1, 162)] 2 (by decide) ?_ ?_ (hJ n1 (show n1 = sumK (atI f sn) (i + 1) from by rw [hx1, if_neg (fun h => by rw [show wkF f i = false from hwi] at h; exact absurd h.1 (by decide)), Int.add_zero]))
            · (repeat' (first | exact all_mt | refine all_up ?_ ?_)) <;> first | exact .inl ⟨rfl, rfl⟩ | exact .inr ⟨rfl, fun _ h => by cases h⟩ | exact .inl ⟨rfl, by first | rfl | assumption | exact (intsC_pure _) | exact (boolsC_pure _)⟩
            · (repeat' (first | exact all_mt | refine all_up ?_ ?_)) <;> first | exact ⟨rfl, _, rfl, .inr ⟨rfl, rfl⟩⟩ | exact ⟨rfl, _, rfl, .inl rfl⟩ | exact ⟨rfl, _, rfl, .inr ⟨rfl, by first | rfl | assumption | exact (intsC_pure _) | exact (boolsC_pure _)⟩⟩
          | true =>
            obtain ⟨hc0, hcB⟩ := hcb hwi
            by_cases c1 : lk.a = (sn : Int)
            · have k1 : (lk.a == (sn : Int)) = true := by simpa using c1
              repeat (refine W.seq ?_)
              refine W.region 169 184 (by decide) rfl rfl ?_
              refine RW.opd rfl rfl (LO.load_agg rfl rfl rfl ty25 rfl (Tk.lit rfl)) ?_
              refine RW.opd rfl rfl (LO.move rfl rfl) ?_
              refine RW.opd rfl rfl (LO.call0 (fr := []) rfl rfl (hwk _) fok22 (.cons rfl (.pure rfl) (.cons rfl (.pure rfl) .nil)) rfl) ?_
              refine RW.opd rfl rfl (LO.move rfl rfl) ?_
              refine RW.gd rfl rfl rfl ?_ rfl (LO.fieldAddr rfl rfl ty54 rfl (by decide)) ?_; (· (first | rfl | assumption))
              refine RW.gd rfl rfl rfl ?_ rfl (LO.load rfl rfl rfl rfl ty3 rfl) ?_; (· (first | rfl | assumption))
              refine RW.gd rfl rfl rfl ?_ rfl (LO.move rfl rfl) ?_; (· (first | rfl | assumption))
              refine RW.gd rfl rfl rfl ?_ rfl (LO.eql rfl rfl rfl) ?_; (· (first | rfl | assumption))
              refine RW.gd rfl rfl rfl ?_ rfl (LO.move rfl rfl) ?_; (· (first | rfl | assumption))
              refine RW.sd rfl rfl rfl ?_ rfl ?_; (· (first | rfl | assumption))
              refine RW.sd rfl rfl rfl ?_ rfl ?_; (· (first | rfl | assumption))
              refine RW.sd rfl rfl rfl ?_ rfl ?_; (· (first | rfl | assumption))
              refine RW.sd rfl rfl rfl ?_ rfl ?_; (· (first | rfl | assumption))
              refine RW.gd rfl rfl rfl ?_ rfl (LO.pick_t rfl rfl ?_ rfl) ?_; (· (first | rfl | assumption)); (· (first | rfl | assumption))
              refine RW.opd rfl rfl (LO.pick_t rfl rfl ?_ rfl) ?_; (· (first | rfl | assumption))
              refine RW.nil ?_
              repeat (refine W.seq ?_)
              refine W.cond_t rfl (by first | rfl | assumption) ?_
              repeat (refine W.seq ?_)
              refine W.region 188 193 (by decide) rfl rfl ?_
              refine RW.opd rfl rfl (LO.move rfl rfl) ?_
              refine RW.opd rfl rfl (LO.fieldAddr rfl rfl ty54 rfl (by decide)) ?_
              refine RW.opd rfl rfl (LO.load rfl rfl rfl rfl ty3 rfl) ?_
              refine RW.opd rfl rfl (LO.add_in rfl rfl rfl ?_) ?_; (· (first | exact IntWalk.i64_in _ (by omega) | assumption))
              refine RW.opd rfl rfl (LO.assign rfl rfl) ?_
              refine RW.nil ?_
              intro yJ KJ hJ
              refine W.rename [(0, 0), (1, 162)] 2 (by decide) ?_ ?_ (hJ (n1 + lk.c) (show (n1 + lk.c) = sumK (atI f sn) (i + 1) from by rw [hx1, if_pos ⟨hwi, .inl c1⟩]))
              · (repeat' (first | exact all_mt | refine all_up ?_ ?_)) <;> first | exact .inl ⟨rfl, rfl⟩ | exact .inr ⟨rfl, fun _ h => by cases h⟩ | exact .inl ⟨rfl, by first | rfl | assumption | exact (intsC_pure _) | exact (boolsC_pure _)⟩
              · (repeat' (first | exact all_mt | refine all_up ?_ ?_)) <;> first | exact ⟨rfl, _, rfl, .inr ⟨rfl, rfl⟩⟩ | exact ⟨rfl, _, rfl, .inl rfl⟩ | exact ⟨rfl, _, rfl, .inr ⟨rfl, by first | rfl | assumption | exact (intsC_pure _) | exact (boolsC_pure _)⟩⟩
            · have k1 : (lk.a == (sn : Int)) = false := by simpa using c1
              by_cases c2 : lk.b = (sn : Int)
              · have k2 : (lk.b == (sn : Int)) = true := by simpa using c2
                repeat (refine W.seq ?_)
                refine W.region 169 184 (by decide) rfl rfl ?_
                refine RW.opd rfl rfl (LO.load_agg rfl rfl rfl ty25 rfl (Tk.lit rfl)) ?_
                refine RW.opd rfl rfl (LO.move rfl rfl) ?_
                refine RW.opd rfl rfl (LO.call0 (fr := []) rfl rfl (hwk _) fok22 (.cons rfl (.pure rfl) (.cons rfl (.pure rfl) .nil)) rfl) ?_
                refine RW.opd rfl rfl (LO.move rfl rfl) ?_
                refine RW.gd rfl rfl rfl ?_ rfl (LO.fieldAddr rfl rfl ty54 rfl (by decide)) ?_; (· (first | rfl | assumption))
                refine RW.gd rfl rfl rfl ?_ rfl (LO.load rfl rfl rfl rfl ty3 rfl) ?_; (· (first | rfl | assumption))
                refine RW.gd rfl rfl rfl ?_ rfl (LO.move rfl rfl) ?_; (· (first | rfl | assumption))
                refine RW.gd rfl rfl rfl ?_ rfl (LO.eql rfl rfl rfl) ?_; (· (first | rfl | assumption))
                refine RW.gd rfl rfl rfl ?_ rfl (LO.move rfl rfl) ?_; (· (first | rfl | assumption))
                refine RW.gd rfl rfl rfl ?_ rfl (LO.fieldAddr rfl rfl ty54 rfl (by decide)) ?_; (· (first | rfl | assumption))
                refine RW.gd rfl rfl rfl ?_ rfl (LO.load rfl rfl rfl rfl ty3 rfl) ?_; (· (first | rfl | assumption))
                refine RW.gd rfl rfl rfl ?_ rfl (LO.move rfl rfl) ?_; (· (first | rfl | assumption))
                refine RW.gd rfl rfl rfl ?_ rfl (LO.eql rfl rfl rfl) ?_; (· (first | rfl | assumption))
                refine RW.gd rfl rfl rfl ?_ rfl (LO.pick_f rfl rfl ?_ rfl) ?_; (· (first | rfl | assumption)); (· (first | rfl | assumption))
                refine RW.opd rfl rfl (LO.pick_t rfl rfl ?_ rfl) ?_; (· (first | rfl | assumption))
                refine RW.nil ?_
                repeat (refine W.seq ?_)
                refine W.cond_t rfl (by first | rfl | assumption) ?_
                repeat (refine W.seq ?_)
                refine W.region 188 193 (by decide) rfl rfl ?_
                refine RW.opd rfl rfl (LO.move rfl rfl) ?_
                refine RW.opd rfl rfl (LO.fieldAddr rfl rfl ty54 rfl (by decide)) ?_
                refine RW.opd rfl rfl (LO.load rfl rfl rfl rfl ty3 rfl) ?_
                refine RW.opd rfl rfl (LO.add_in rfl rfl rfl ?_) ?_; (· (first | exact IntWalk.i64_in _ (by omega) | assumption))
                refine RW.opd rfl rfl (LO.assign rfl rfl) ?_
                refine RW.nil ?_
                intro yJ KJ hJ
                refine W.rename [(0, 0), (1, 162)] 2 (by decide) ?_ ?_ (hJ (n1 + lk.c) (show (n1 + lk.c) = sumK (atI f sn) (i + 1) from by rw [hx1, if_pos ⟨hwi, .inr c2⟩]))
                · (repeat' (first | exact all_mt | refine all_up ?_ ?_)) <;> first | exact .inl ⟨rfl, rfl⟩ | exact .inr ⟨rfl, fun _ h => by cases h⟩ | exact .inl ⟨rfl, by first | rfl | assumption | exact (intsC_pure _) | exact (boolsC_pure _)⟩
                · (repeat' (first | exact all_mt | refine all_up ?_ ?_)) <;> first | exact ⟨rfl, _, rfl, .inr ⟨rfl, rfl⟩⟩ | exact ⟨rfl, _, rfl, .inl rfl⟩ | exact ⟨rfl, _, rfl, .inr ⟨rfl, by first | rfl | assumption | exact (intsC_pure _) | exact (boolsC_pure _)⟩⟩
              · have k2 : (lk.b == (sn : Int)) = false := by simpa using c2
                repeat (refine W.seq ?_)
                refine W.region 169 184 (by decide) rfl rfl ?_
                refine RW.opd rfl rfl (LO.load_agg rfl rfl rfl ty25 rfl (Tk.lit rfl)) ?_
                refine RW.opd rfl rfl (LO.move rfl rfl) ?_
                refine RW.opd rfl rfl (LO.call0 (fr := []) rfl rfl (hwk _) fok22 (.cons rfl (.pure rfl) (.cons rfl (.pure rfl) .nil)) rfl) ?_
                refine RW.opd rfl rfl (LO.move rfl rfl) ?_
                refine RW.gd rfl rfl rfl ?_ rfl (LO.fieldAddr rfl rfl ty54 rfl (by decide)) ?_; (· (first | rfl | assumption))
                refine RW.gd rfl rfl rfl ?_ rfl (LO.load rfl rfl rfl rfl ty3 rfl) ?_; (· (first | rfl | assumption))
                refine RW.gd rfl rfl rfl ?_ rfl (LO.move rfl rfl) ?_; (· (first | rfl | assumption))
                refine RW.gd rfl rfl rfl ?_ rfl (LO.eql rfl rfl rfl) ?_; (· (first | rfl | assumption))
                refine RW.gd rfl rfl rfl ?_ rfl (LO.move rfl rfl) ?_; (· (first | rfl | assumption))
                refine RW.gd rfl rfl rfl ?_ rfl (LO.fieldAddr rfl rfl ty54 rfl (by decide)) ?_; (· (first | rfl | assumption))
                refine RW.gd rfl rfl rfl ?_ rfl (LO.load rfl rfl rfl rfl ty3 rfl) ?_; (· (first | rfl | assumption))
                refine RW.gd rfl rfl rfl ?_ rfl (LO.move rfl rfl) ?_; (· (first | rfl | assumption))
                refine RW.gd rfl rfl rfl ?_ rfl (LO.eql rfl rfl rfl) ?_; (· (first | rfl | assumption))
                refine RW.gd rfl rfl rfl ?_ rfl (LO.pick_f rfl rfl ?_ rfl) ?_; (· (first | rfl | assumption)); (· (first | rfl | assumption))
                refine RW.opd rfl rfl (LO.pick_t rfl rfl ?_ rfl) ?_; (· (first | rfl | assumption))
                refine RW.nil ?_
                repeat (refine W.seq ?_)
                refine W.cond_f rfl (by first | rfl | assumption) ?_
                refine W.skip ?_
                intro yJ KJ hJ
                refine W.rename [(0, 0), (1, 162)] 2 (by decide) ?_ ?_ (hJ n1 (show n1 = sumK (atI f sn) (i + 1) from by rw [hx1, if_neg (fun h => h.2.elim c1 c2), Int.add_zero]))
                · (repeat' (first | exact all_mt | refine all_up ?_ ?_)) <;> first | exact .inl ⟨rfl, rfl⟩ | exact .inr ⟨rfl, fun _ h => by cases h⟩ | exact .inl ⟨rfl, by first | rfl | assumption | exact (intsC_pure _) | exact (boolsC_pure _)⟩
                · (repeat' (first | exact all_mt | refine all_up ?_ ?_)) <;> first | exact ⟨rfl, _, rfl, .inr ⟨rfl, rfl⟩⟩ | exact ⟨rfl, _, rfl, .inl rfl⟩ | exact ⟨rfl, _, rfl, .inr ⟨rfl, by first | rfl | assumption | exact (intsC_pure _) | exact (boolsC_pure _)⟩⟩
        ·
          cases hwi : worksB f i with
          | false =>
            repeat (refine W.seq ?_)
            refine W.region 197 224 (by decide) rfl rfl ?_
            refine RW.opd rfl rfl (LO.load_agg rfl rfl rfl ty25 rfl (Tk.lit rfl)) ?_
            refine RW.opd rfl rfl (LO.move rfl rfl) ?_
            refine RW.opd rfl rfl (LO.call0 (fr := []) rfl rfl (hwk _) fok22 (.cons rfl (.pure rfl) (.cons rfl (.pure rfl) .nil)) rfl) ?_
            refine RW.opd rfl rfl (LO.move rfl rfl) ?_
            refine RW.sd rfl rfl rfl ?_ rfl ?_; (· (first | rfl | assumption))
            refine RW.sd rfl rfl rfl ?_ rfl ?_; (· (first | rfl | assumption))
            refine RW.sd rfl rfl rfl ?_ rfl ?_; (· (first | rfl | assumption))
            refine RW.sd rfl rfl rfl ?_ rfl ?_; (· (first | rfl | assumption))
            refine RW.sd rfl rfl rfl ?_ rfl ?_; (· (first | rfl | assumption))
            refine RW.ud rfl rfl rfl rfl ?_
            refine RW.ud rfl rfl rfl rfl ?_
            refine RW.ud rfl rfl rfl rfl ?_
            refine RW.ud rfl rfl rfl rfl ?_
            refine RW.sd rfl rfl rfl ?_ rfl ?_; (· (first | rfl | assumption))
            refine RW.sd rfl rfl rfl ?_ rfl ?_; (· (first | rfl | assumption))
            refine RW.ud rfl rfl rfl rfl ?_
            refine RW.ud rfl rfl rfl rfl ?_
            refine RW.ud rfl rfl rfl rfl ?_
            refine RW.ud rfl rfl rfl rfl ?_
            refine RW.ud rfl rfl rfl rfl ?_
            refine RW.ud rfl rfl rfl rfl ?_
            refine RW.ud rfl rfl rfl rfl ?_
            refine RW.ud rfl rfl rfl rfl ?_
            refine RW.ud rfl rfl rfl rfl ?_
            refine RW.ud rfl rfl rfl rfl ?_
            refine RW.sd rfl rfl rfl ?_ rfl ?_; (· (first | rfl | assumption))
            refine RW.opd rfl rfl (LO.pick_f rfl rfl ?_ rfl) ?_; (· (first | rfl | assumption))
            refine RW.nil ?_
            repeat (refine W.seq ?_)
            refine W.cond_f rfl (by first | rfl | assumption) ?_
            refine W.skip ?_
            intro yJ KJ hJ
            refine W.rename [(0, 0)] 1 (by decide) ?_ ?_ (hJ (m1, n2) (show m1 = sumK (atI f sn) (i + 1) ∧ n2 = sumK (mostI f sn tn) (i + 1) from by exact ⟨hIC, by rw [hx2, if_neg (fun h => by rw [show wkF f i = false from hwi] at h; exact absurd h.1 (by decide)), Int.add_zero]⟩))
            · (repeat' (first | exact all_mt | refine all_up ?_ ?_)) <;> first | exact .inl ⟨rfl, rfl⟩ | exact .inr ⟨rfl, fun _ h => by cases h⟩ | exact .inl ⟨rfl, by first | rfl | assumption | exact (intsC_pure _) | exact (boolsC_pure _)⟩
            · (repeat' (first | exact all_mt | refine all_up ?_ ?_)) <;> first | exact ⟨rfl, _, rfl, .inr ⟨rfl, rfl⟩⟩ | exact ⟨rfl, _, rfl, .inl rfl⟩ | exact ⟨rfl, _, rfl, .inr ⟨rfl, by first | rfl | assumption | exact (intsC_pure _) | exact (boolsC_pure _)⟩⟩
          | true =>
            obtain ⟨hc0, hcB⟩ := hcb hwi
            have hyes : ((lk.a = (sn : Int) ∧ lk.b = (tn : Int)) ∨ (lk.a = (tn : Int) ∧ lk.b = (sn : Int))) → n2 + lk.c = sumK (mostI f sn tn) (i + 1) := fun h => by rw [hx2, if_pos ⟨hwi, h⟩]
            have hno : ¬ ((lk.a = (sn : Int) ∧ lk.b = (tn : Int)) ∨ (lk.a = (tn : Int) ∧ lk.b = (sn : Int))) → n2 = sumK (mostI f sn tn) (i + 1) := fun h => by rw [hx2, if_neg (fun h2 => h h2.2), Int.add_zero]
            by_cases cas : lk.a = (sn : Int)
            · have kas : (lk.a == (sn : Int)) = true := by simpa using cas
              by_cases cbt : lk.b = (tn : Int)
              · have kbt : (lk.b == (tn : Int)) = true := by simpa using cbt
                repeat (refine W.seq ?_)
                refine W.region 197 224 (by decide) rfl rfl ?_
                refine RW.opd rfl rfl (LO.load_agg rfl rfl rfl ty25 rfl (Tk.lit rfl)) ?_
                refine RW.opd rfl rfl (LO.move rfl rfl) ?_
                refine RW.opd rfl rfl (LO.call0 (fr := []) rfl rfl (hwk _) fok22 (.cons rfl (.pure rfl) (.cons rfl (.pure rfl) .nil)) rfl) ?_
                refine RW.opd rfl rfl (LO.move rfl rfl) ?_
                refine RW.gd rfl rfl rfl ?_ rfl (LO.fieldAddr rfl rfl ty54 rfl (by decide)) ?_; (· (first | rfl | assumption))
                refine RW.gd rfl rfl rfl ?_ rfl (LO.load rfl rfl rfl rfl ty3 rfl) ?_; (· (first | rfl | assumption))
                refine RW.gd rfl rfl rfl ?_ rfl (LO.move rfl rfl) ?_; (· (first | rfl | assumption))
                refine RW.gd rfl rfl rfl ?_ rfl (LO.eql rfl rfl rfl) ?_; (· (first | rfl | assumption))
                refine RW.gd rfl rfl rfl ?_ rfl (LO.move rfl rfl) ?_; (· (first | rfl | assumption))
                refine RW.gd rfl rfl rfl ?_ rfl (LO.fieldAddr rfl rfl ty54 rfl (by decide)) ?_; (· (first | rfl | assumption))
                refine RW.gd rfl rfl rfl ?_ rfl (LO.load rfl rfl rfl rfl ty3 rfl) ?_; (· (first | rfl | assumption))
                refine RW.gd rfl rfl rfl ?_ rfl (LO.move rfl rfl) ?_; (· (first | rfl | assumption))
                refine RW.gd rfl rfl rfl ?_ rfl (LO.eql rfl rfl rfl) ?_; (· (first | rfl | assumption))
                refine RW.gd rfl rfl rfl ?_ rfl (LO.pick_t rfl rfl ?_ rfl) ?_; (· (first | rfl | assumption)); (· (first | rfl | assumption))
                refine RW.gd rfl rfl rfl ?_ rfl (LO.move rfl rfl) ?_; (· (first | rfl | assumption))
                refine RW.sd rfl rfl rfl ?_ rfl ?_; (· (first | rfl | assumption))
                refine RW.sd rfl rfl rfl ?_ rfl ?_; (· (first | rfl | assumption))
                refine RW.sd rfl rfl rfl ?_ rfl ?_; (· (first | rfl | assumption))
                refine RW.sd rfl rfl rfl ?_ rfl ?_; (· (first | rfl | assumption))
                refine RW.sd rfl rfl rfl ?_ rfl ?_; (· (first | rfl | assumption))
                refine RW.ud rfl rfl rfl rfl ?_
                refine RW.ud rfl rfl rfl rfl ?_
                refine RW.ud rfl rfl rfl rfl ?_
                refine RW.ud rfl rfl rfl rfl ?_
                refine RW.sd rfl rfl rfl ?_ rfl ?_; (· (first | rfl | assumption))
                refine RW.gd rfl rfl rfl ?_ rfl (LO.pick_t rfl rfl ?_ rfl) ?_; (· (first | rfl | assumption)); (· (first | rfl | assumption))
                refine RW.opd rfl rfl (LO.pick_t rfl rfl ?_ rfl) ?_; (· (first | rfl | assumption))
                refine RW.nil ?_
                repeat (refine W.seq ?_)
                refine W.cond_t rfl (by first | rfl | assumption) ?_
                repeat (refine W.seq ?_)
                refine W.region 228 233 (by decide) rfl rfl ?_
                refine RW.opd rfl rfl (LO.move rfl rfl) ?_
                refine RW.opd rfl rfl (LO.fieldAddr rfl rfl ty54 rfl (by decide)) ?_
                refine RW.opd rfl rfl (LO.load rfl rfl rfl rfl ty3 rfl) ?_
                refine RW.opd rfl rfl (LO.add_in rfl rfl rfl ?_) ?_; (· (first | exact IntWalk.i64_in _ (by omega) | assumption))
                refine RW.opd rfl rfl (LO.assign rfl rfl) ?_
                refine RW.nil ?_
                intro yJ KJ hJ
                refine W.rename [(0, 0)] 1 (by decide) ?_ ?_ (hJ (m1, (n2 + lk.c)) (show m1 = sumK (atI f sn) (i + 1) ∧ (n2 + lk.c) = sumK (mostI f sn tn) (i + 1) from by exact ⟨hIC, hyes (by omega)⟩))
                · (repeat' (first | exact all_mt | refine all_up ?_ ?_)) <;> first | exact .inl ⟨rfl, rfl⟩ | exact .inr ⟨rfl, fun _ h => by cases h⟩ | exact .inl ⟨rfl, by first | rfl | assumption | exact (intsC_pure _) | exact (boolsC_pure _)⟩
                · (repeat' (first | exact all_mt | refine all_up ?_ ?_)) <;> first | exact ⟨rfl, _, rfl, .inr ⟨rfl, rfl⟩⟩ | exact ⟨rfl, _, rfl, .inl rfl⟩ | exact ⟨rfl, _, rfl, .inr ⟨rfl, by first | rfl | assumption | exact (intsC_pure _) | exact (boolsC_pure _)⟩⟩
              · have kbt : (lk.b == (tn : Int)) = false := by simpa using cbt
                by_cases cat : lk.a = (tn : Int)
                · have kat : (lk.a == (tn : Int)) = true := by simpa using cat
                  by_cases cbs : lk.b = (sn : Int)
                  · have kbs : (lk.b == (sn : Int)) = true := by simpa using cbs
                    repeat (refine W.seq ?_)
                    refine W.region 197 224 (by decide) rfl rfl ?_
                    refine RW.opd rfl rfl (LO.load_agg rfl rfl rfl ty25 rfl (Tk.lit rfl)) ?_
                    refine RW.opd rfl rfl (LO.move rfl rfl) ?_
                    refine RW.opd rfl rfl (LO.call0 (fr := []) rfl rfl (hwk _) fok22 (.cons rfl (.pure rfl) (.cons rfl (.pure rfl) .nil)) rfl) ?_
                    refine RW.opd rfl rfl (LO.move rfl rfl) ?_
                    refine RW.gd rfl rfl rfl ?_ rfl (LO.fieldAddr rfl rfl ty54 rfl (by decide)) ?_; (· (first | rfl | assumption))
                    refine RW.gd rfl rfl rfl ?_ rfl (LO.load rfl rfl rfl rfl ty3 rfl) ?_; (· (first | rfl | assumption))
                    refine RW.gd rfl rfl rfl ?_ rfl (LO.move rfl rfl) ?_; (· (first | rfl | assumption))
                    refine RW.gd rfl rfl rfl ?_ rfl (LO.eql rfl rfl rfl) ?_; (· (first | rfl | assumption))
                    refine RW.gd rfl rfl rfl ?_ rfl (LO.move rfl rfl) ?_; (· (first | rfl | assumption))
                    refine RW.gd rfl rfl rfl ?_ rfl (LO.fieldAddr rfl rfl ty54 rfl (by decide)) ?_; (· (first | rfl | assumption))
                    refine RW.gd rfl rfl rfl ?_ rfl (LO.load rfl rfl rfl rfl ty3 rfl) ?_; (· (first | rfl | assumption))
                    refine RW.gd rfl rfl rfl ?_ rfl (LO.move rfl rfl) ?_; (· (first | rfl | assumption))
                    refine RW.gd rfl rfl rfl ?_ rfl (LO.eql rfl rfl rfl) ?_; (· (first | rfl | assumption))
                    refine RW.gd rfl rfl rfl ?_ rfl (LO.pick_t rfl rfl ?_ rfl) ?_; (· (first | rfl | assumption)); (· (first | rfl | assumption))
                    refine RW.gd rfl rfl rfl ?_ rfl (LO.move rfl rfl) ?_; (· (first | rfl | assumption))
                    refine RW.gd rfl rfl rfl ?_ rfl (LO.fieldAddr rfl rfl ty54 rfl (by decide)) ?_; (· (first | rfl | assumption))
                    refine RW.gd rfl rfl rfl ?_ rfl (LO.load rfl rfl rfl rfl ty3 rfl) ?_; (· (first | rfl | assumption))
                    refine RW.gd rfl rfl rfl ?_ rfl (LO.move rfl rfl) ?_; (· (first | rfl | assumption))
                    refine RW.gd rfl rfl rfl ?_ rfl (LO.eql rfl rfl rfl) ?_; (· (first | rfl | assumption))
                    refine RW.gd rfl rfl rfl ?_ rfl (LO.move rfl rfl) ?_; (· (first | rfl | assumption))
                    refine RW.gd rfl rfl rfl ?_ rfl (LO.fieldAddr rfl rfl ty54 rfl (by decide)) ?_; (· (first | rfl | assumption))
                    refine RW.gd rfl rfl rfl ?_ rfl (LO.load rfl rfl rfl rfl ty3 rfl) ?_; (· (first | rfl | assumption))
                    refine RW.gd rfl rfl rfl ?_ rfl (LO.move rfl rfl) ?_; (· (first | rfl | assumption))
                    refine RW.gd rfl rfl rfl ?_ rfl (LO.eql rfl rfl rfl) ?_; (· (first | rfl | assumption))
                    refine RW.gd rfl rfl rfl ?_ rfl (LO.pick_t rfl rfl ?_ rfl) ?_; (· (first | rfl | assumption)); (· (first | rfl | assumption))
                    refine RW.gd rfl rfl rfl ?_ rfl (LO.pick_f rfl rfl ?_ rfl) ?_; (· (first | rfl | assumption)); (· (first | rfl | assumption))
                    refine RW.opd rfl rfl (LO.pick_t rfl rfl ?_ rfl) ?_; (· (first | rfl | assumption))
                    refine RW.nil ?_
                    repeat (refine W.seq ?_)
                    refine W.cond_t rfl (by first | rfl | assumption) ?_
                    repeat (refine W.seq ?_)
                    refine W.region 228 233 (by decide) rfl rfl ?_
                    refine RW.opd rfl rfl (LO.move rfl rfl) ?_
                    refine RW.opd rfl rfl (LO.fieldAddr rfl rfl ty54 rfl (by decide)) ?_
                    refine RW.opd rfl rfl (LO.load rfl rfl rfl rfl ty3 rfl) ?_
                    refine RW.opd rfl rfl (LO.add_in rfl rfl rfl ?_) ?_; (· (first | exact IntWalk.i64_in _ (by omega) | assumption))
                    refine RW.opd rfl rfl (LO.assign rfl rfl) ?_
                    refine RW.nil ?_
                    intro yJ KJ hJ
                    refine W.rename [(0, 0)] 1 (by decide) ?_ ?_ (hJ (m1, (n2 + lk.c)) (show m1 = sumK (atI f sn) (i + 1) ∧ (n2 + lk.c) = sumK (mostI f sn tn) (i + 1) from by exact ⟨hIC, hyes (by omega)⟩))
                    · (repeat' (first | exact all_mt | refine all_up ?_ ?_)) <;> first | exact .inl ⟨rfl, rfl⟩ | exact .inr ⟨rfl, fun _ h => by cases h⟩ | exact .inl ⟨rfl, by first | rfl | assumption | exact (intsC_pure _) | exact (boolsC_pure _)⟩
                    · (repeat' (first | exact all_mt | refine all_up ?_ ?_)) <;> first | exact ⟨rfl, _, rfl, .inr ⟨rfl, rfl⟩⟩ | exact ⟨rfl, _, rfl, .inl rfl⟩ | exact ⟨rfl, _, rfl, .inr ⟨rfl, by first | rfl | assumption | exact (intsC_pure _) | exact (boolsC_pure _)⟩⟩
                  · have kbs : (lk.b == (sn : Int)) = false := by simpa using cbs
                    repeat (refine W.seq ?_)
                    refine W.region 197 224 (by decide) rfl rfl ?_
                    refine RW.opd rfl rfl (LO.load_agg rfl rfl rfl ty25 rfl (Tk.lit rfl)) ?_
                    refine RW.opd rfl rfl (LO.move rfl rfl) ?_
                    refine RW.opd rfl rfl (LO.call0 (fr := []) rfl rfl (hwk _) fok22 (.cons rfl (.pure rfl) (.cons rfl (.pure rfl) .nil)) rfl) ?_
                    refine RW.opd rfl rfl (LO.move rfl rfl) ?_
                    refine RW.gd rfl rfl rfl ?_ rfl (LO.fieldAddr rfl rfl ty54 rfl (by decide)) ?_; (· (first | rfl | assumption))
                    refine RW.gd rfl rfl rfl ?_ rfl (LO.load rfl rfl rfl rfl ty3 rfl) ?_; (· (first | rfl | assumption))
                    refine RW.gd rfl rfl rfl ?_ rfl (LO.move rfl rfl) ?_; (· (first | rfl | assumption))
                    refine RW.gd rfl rfl rfl ?_ rfl (LO.eql rfl rfl rfl) ?_; (· (first | rfl | assumption))
                    refine RW.gd rfl rfl rfl ?_ rfl (LO.move rfl rfl) ?_; (· (first | rfl | assumption))
                    refine RW.gd rfl rfl rfl ?_ rfl (LO.fieldAddr rfl rfl ty54 rfl (by decide)) ?_; (· (first | rfl | assumption))
                    refine RW.gd rfl rfl rfl ?_ rfl (LO.load rfl rfl rfl rfl ty3 rfl) ?_; (· (first | rfl | assumption))
                    refine RW.gd rfl rfl rfl ?_ rfl (LO.move rfl rfl) ?_; (· (first | rfl | assumption))
                    refine RW.gd rfl rfl rfl ?_ rfl (LO.eql rfl rfl rfl) ?_; (· (first | rfl | assumption))
                    refine RW.gd rfl rfl rfl ?_ rfl (LO.pick_t rfl rfl ?_ rfl) ?_; (· (first | rfl | assumption)); (· (first | rfl | assumption))
                    refine RW.gd rfl rfl rfl ?_ rfl (LO.move rfl rfl) ?_; (· (first | rfl | assumption))
                    refine RW.gd rfl rfl rfl ?_ rfl (LO.fieldAddr rfl rfl ty54 rfl (by decide)) ?_; (· (first | rfl | assumption))
                    refine RW.gd rfl rfl rfl ?_ rfl (LO.load rfl rfl rfl rfl ty3 rfl) ?_; (· (first | rfl | assumption))
                    refine RW.gd rfl rfl rfl ?_ rfl (LO.move rfl rfl) ?_; (· (first | rfl | assumption))
                    refine RW.gd rfl rfl rfl ?_ rfl (LO.eql rfl rfl rfl) ?_; (· (first | rfl | assumption))
                    refine RW.gd rfl rfl rfl ?_ rfl (LO.move rfl rfl) ?_; (· (first | rfl | assumption))
                    refine RW.gd rfl rfl rfl ?_ rfl (LO.fieldAddr rfl rfl ty54 rfl (by decide)) ?_; (· (first | rfl | assumption))
                    refine RW.gd rfl rfl rfl ?_ rfl (LO.load rfl rfl rfl rfl ty3 rfl) ?_; (· (first | rfl | assumption))
                    refine RW.gd rfl rfl rfl ?_ rfl (LO.move rfl rfl) ?_; (· (first | rfl | assumption))
                    refine RW.gd rfl rfl rfl ?_ rfl (LO.eql rfl rfl rfl) ?_; (· (first | rfl | assumption))
                    refine RW.gd rfl rfl rfl ?_ rfl (LO.pick_t rfl rfl ?_ rfl) ?_; (· (first | rfl | assumption)); (· (first | rfl | assumption))
                    refine RW.gd rfl rfl rfl ?_ rfl (LO.pick_f rfl rfl ?_ rfl) ?_; (· (first | rfl | assumption)); (· (first | rfl | assumption))
                    refine RW.opd rfl rfl (LO.pick_t rfl rfl ?_ rfl) ?_; (· (first | rfl | assumption))
                    refine RW.nil ?_
                    repeat (refine W.seq ?_)
                    refine W.cond_f rfl (by first | rfl | assumption) ?_
                    refine W.skip ?_
                    intro yJ KJ hJ
                    refine W.rename [(0, 0)] 1 (by decide) ?_ ?_ (hJ (m1, n2) (show m1 = sumK (atI f sn) (i + 1) ∧ n2 = sumK (mostI f sn tn) (i + 1) from by exact ⟨hIC, hno (by omega)⟩))
                    · (repeat' (first | exact all_mt | refine all_up ?_ ?_)) <;> first | exact .inl ⟨rfl, rfl⟩ | exact .inr ⟨rfl, fun _ h => by cases h⟩ | exact .inl ⟨rfl, by first | rfl | assumption | exact (intsC_pure _) | exact (boolsC_pure _)⟩
                    · (repeat' (first | exact all_mt | refine all_up ?_ ?_)) <;> first | exact ⟨rfl, _, rfl, .inr ⟨rfl, rfl⟩⟩ | exact ⟨rfl, _, rfl, .inl rfl⟩ | exact ⟨rfl, _, rfl, .inr ⟨rfl, by first | rfl | assumption | exact (intsC_pure _) | exact (boolsC_pure _)⟩⟩
                · have kat : (lk.a == (tn : Int)) = false := by simpa using cat
                  repeat (refine W.seq ?_)
                  refine W.region 197 224 (by decide) rfl rfl ?_
                  refine RW.opd rfl rfl (LO.load_agg rfl rfl rfl ty25 rfl (Tk.lit rfl)) ?_
                  refine RW.opd rfl rfl (LO.move rfl rfl) ?_
                  refine RW.opd rfl rfl (LO.call0 (fr := []) rfl rfl (hwk _) fok22 (.cons rfl (.pure rfl) (.cons rfl (.pure rfl) .nil)) rfl) ?_
                  refine RW.opd rfl rfl (LO.move rfl rfl) ?_
                  refine RW.gd rfl rfl rfl ?_ rfl (LO.fieldAddr rfl rfl ty54 rfl (by decide)) ?_; (· (first | rfl | assumption))
                  refine RW.gd rfl rfl rfl ?_ rfl (LO.load rfl rfl rfl rfl ty3 rfl) ?_; (· (first | rfl | assumption))
                  refine RW.gd rfl rfl rfl ?_ rfl (LO.move rfl rfl) ?_; (· (first | rfl | assumption))
                  refine RW.gd rfl rfl rfl ?_ rfl (LO.eql rfl rfl rfl) ?_; (· (first | rfl | assumption))
                  refine RW.gd rfl rfl rfl ?_ rfl (LO.move rfl rfl) ?_; (· (first | rfl | assumption))
                  refine RW.gd rfl rfl rfl ?_ rfl (LO.fieldAddr rfl rfl ty54 rfl (by decide)) ?_; (· (first | rfl | assumption))
                  refine RW.gd rfl rfl rfl ?_ rfl (LO.load rfl rfl rfl rfl ty3 rfl) ?_; (· (first | rfl | assumption))
                  refine RW.gd rfl rfl rfl ?_ rfl (LO.move rfl rfl) ?_; (· (first | rfl | assumption))
                  refine RW.gd rfl rfl rfl ?_ rfl (LO.eql rfl rfl rfl) ?_; (· (first | rfl | assumption))
                  refine RW.gd rfl rfl rfl ?_ rfl (LO.pick_t rfl rfl ?_ rfl) ?_; (· (first | rfl | assumption)); (· (first | rfl | assumption))
                  refine RW.gd rfl rfl rfl ?_ rfl (LO.move rfl rfl) ?_; (· (first | rfl | assumption))
                  refine RW.gd rfl rfl rfl ?_ rfl (LO.fieldAddr rfl rfl ty54 rfl (by decide)) ?_; (· (first | rfl | assumption))
                  refine RW.gd rfl rfl rfl ?_ rfl (LO.load rfl rfl rfl rfl ty3 rfl) ?_; (· (first | rfl | assumption))
                  refine RW.gd rfl rfl rfl ?_ rfl (LO.move rfl rfl) ?_; (· (first | rfl | assumption))
                  refine RW.gd rfl rfl rfl ?_ rfl (LO.eql rfl rfl rfl) ?_; (· (first | rfl | assumption))
                  refine RW.gd rfl rfl rfl ?_ rfl (LO.move rfl rfl) ?_; (· (first | rfl | assumption))
                  refine RW.sd rfl rfl rfl ?_ rfl ?_; (· (first | rfl | assumption))
                  refine RW.sd rfl rfl rfl ?_ rfl ?_; (· (first | rfl | assumption))
                  refine RW.sd rfl rfl rfl ?_ rfl ?_; (· (first | rfl | assumption))
                  refine RW.sd rfl rfl rfl ?_ rfl ?_; (· (first | rfl | assumption))
                  refine RW.gd rfl rfl rfl ?_ rfl (LO.pick_f rfl rfl ?_ rfl) ?_; (· (first | rfl | assumption)); (· (first | rfl | assumption))
                  refine RW.gd rfl rfl rfl ?_ rfl (LO.pick_f rfl rfl ?_ rfl) ?_; (· (first | rfl | assumption)); (· (first | rfl | assumption))
                  refine RW.opd rfl rfl (LO.pick_t rfl rfl ?_ rfl) ?_; (· (first | rfl | assumption))
                  refine RW.nil ?_
                  repeat (refine W.seq ?_)
                  refine W.cond_f rfl (by first | rfl | assumption) ?_
                  refine W.skip ?_
                  intro yJ KJ hJ
                  refine W.rename [(0, 0)] 1 (by decide) ?_ ?_ (hJ (m1, n2) (show m1 = sumK (atI f sn) (i + 1) ∧ n2 = sumK (mostI f sn tn) (i + 1) from by exact ⟨hIC, hno (by omega)⟩))
                  · (repeat' (first | exact all_mt | refine all_up ?_ ?_)) <;> first | exact .inl ⟨rfl, rfl⟩ | exact .inr ⟨rfl, fun _ h => by cases h⟩ | exact .inl ⟨rfl, by first | rfl | assumption | exact (intsC_pure _) | exact (boolsC_pure _)⟩
                  · (repeat' (first | exact all_mt | refine all_up ?_ ?_)) <;> first | exact ⟨rfl, _, rfl, .inr ⟨rfl, rfl⟩⟩ | exact ⟨rfl, _, rfl, .inl rfl⟩ | exact ⟨rfl, _, rfl, .inr ⟨rfl, by first | rfl | assumption | exact (intsC_pure _) | exact (boolsC_pure _)⟩⟩
            · have kas : (lk.a == (sn : Int)) = false := by simpa using cas
              by_cases cat : lk.a = (tn : Int)
              · have kat : (lk.a == (tn : Int)) = true := by simpa using cat
                by_cases cbs : lk.b = (sn : Int)
                · have kbs : (lk.b == (sn : Int)) = true := by simpa using cbs
                  repeat (refine W.seq ?_)
                  refine W.region 197 224 (by decide) rfl rfl ?_
                  refine RW.opd rfl rfl (LO.load_agg rfl rfl rfl ty25 rfl (Tk.lit rfl)) ?_
                  refine RW.opd rfl rfl (LO.move rfl rfl) ?_
                  refine RW.opd rfl rfl (LO.call0 (fr := []) rfl rfl (hwk _) fok22 (.cons rfl (.pure rfl) (.cons rfl (.pure rfl) .nil)) rfl) ?_
                  refine RW.opd rfl rfl (LO.move rfl rfl) ?_
                  refine RW.gd rfl rfl rfl ?_ rfl (LO.fieldAddr rfl rfl ty54 rfl (by decide)) ?_; (· (first | rfl | assumption))
                  refine RW.gd rfl rfl rfl ?_ rfl (LO.load rfl rfl rfl rfl ty3 rfl) ?_; (· (first | rfl | assumption))
                  refine RW.gd rfl rfl rfl ?_ rfl (LO.move rfl rfl) ?_; (· (first | rfl | assumption))
                  refine RW.gd rfl rfl rfl ?_ rfl (LO.eql rfl rfl rfl) ?_; (· (first | rfl | assumption))
                  refine RW.gd rfl rfl rfl ?_ rfl (LO.move rfl rfl) ?_; (· (first | rfl | assumption))
                  refine RW.sd rfl rfl rfl ?_ rfl ?_; (· (first | rfl | assumption))
                  refine RW.sd rfl rfl rfl ?_ rfl ?_; (· (first | rfl | assumption))
                  refine RW.sd rfl rfl rfl ?_ rfl ?_; (· (first | rfl | assumption))
                  refine RW.sd rfl rfl rfl ?_ rfl ?_; (· (first | rfl | assumption))
                  refine RW.gd rfl rfl rfl ?_ rfl (LO.pick_f rfl rfl ?_ rfl) ?_; (· (first | rfl | assumption)); (· (first | rfl | assumption))
                  refine RW.gd rfl rfl rfl ?_ rfl (LO.move rfl rfl) ?_; (· (first | rfl | assumption))
                  refine RW.gd rfl rfl rfl ?_ rfl (LO.fieldAddr rfl rfl ty54 rfl (by decide)) ?_; (· (first | rfl | assumption))
                  refine RW.gd rfl rfl rfl ?_ rfl (LO.load rfl rfl rfl rfl ty3 rfl) ?_; (· (first | rfl | assumption))
                  refine RW.gd rfl rfl rfl ?_ rfl (LO.move rfl rfl) ?_; (· (first | rfl | assumption))
                  refine RW.gd rfl rfl rfl ?_ rfl (LO.eql rfl rfl rfl) ?_; (· (first | rfl | assumption))
                  refine RW.gd rfl rfl rfl ?_ rfl (LO.move rfl rfl) ?_; (· (first | rfl | assumption))
                  refine RW.gd rfl rfl rfl ?_ rfl (LO.fieldAddr rfl rfl ty54 rfl (by decide)) ?_; (· (first | rfl | assumption))
                  refine RW.gd rfl rfl rfl ?_ rfl (LO.load rfl rfl rfl rfl ty3 rfl) ?_; (· (first | rfl | assumption))
                  refine RW.gd rfl rfl rfl ?_ rfl (LO.move rfl rfl) ?_; (· (first | rfl | assumption))
                  refine RW.gd rfl rfl rfl ?_ rfl (LO.eql rfl rfl rfl) ?_; (· (first | rfl | assumption))
                  refine RW.gd rfl rfl rfl ?_ rfl (LO.pick_t rfl rfl ?_ rfl) ?_; (· (first | rfl | assumption)); (· (first | rfl | assumption))
                  refine RW.gd rfl rfl rfl ?_ rfl (LO.pick_f rfl rfl ?_ rfl) ?_; (· (first | rfl | assumption)); (· (first | rfl | assumption))
                  refine RW.opd rfl rfl (LO.pick_t rfl rfl ?_ rfl) ?_; (· (first | rfl | assumption))
                  refine RW.nil ?_
                  repeat (refine W.seq ?_)
                  refine W.cond_t rfl (by first | rfl | assumption) ?_
                  repeat (refine W.seq ?_)
                  refine W.region 228 233 (by decide) rfl rfl ?_
                  refine RW.opd rfl rfl (LO.move rfl rfl) ?_
                  refine RW.opd rfl rfl (LO.fieldAddr rfl rfl ty54 rfl (by decide)) ?_
                  refine RW.opd rfl rfl (LO.load rfl rfl rfl rfl ty3 rfl) ?_
                  refine RW.opd rfl rfl (LO.add_in rfl rfl rfl ?_) ?_; (· (first | exact IntWalk.i64_in _ (by omega) | assumption))
                  refine RW.opd rfl rfl (LO.assign rfl rfl) ?_
                  refine RW.nil ?_
                  intro yJ KJ hJ
                  refine W.rename [(0, 0)] 1 (by decide) ?_ ?_ (hJ (m1, (n2 + lk.c)) (show m1 = sumK (atI f sn) (i + 1) ∧ (n2 + lk.c) = sumK (mostI f sn tn) (i + 1) from by exact ⟨hIC, hyes (by omega)⟩))
                  · (repeat' (first | exact all_mt | refine all_up ?_ ?_)) <;> first | exact .inl ⟨rfl, rfl⟩ | exact .inr ⟨rfl, fun _ h => by cases h⟩ | exact .inl ⟨rfl, by first | rfl | assumption | exact (intsC_pure _) | exact (boolsC_pure _)⟩
                  · (repeat' (first | exact all_mt | refine all_up ?_ ?_)) <;> first | exact ⟨rfl, _, rfl, .inr ⟨rfl, rfl⟩⟩ | exact ⟨rfl, _, rfl, .inl rfl⟩ | exact ⟨rfl, _, rfl, .inr ⟨rfl, by first | rfl | assumption | exact (intsC_pure _) | exact (boolsC_pure _)⟩⟩
                · have kbs : (lk.b == (sn : Int)) = false := by simpa using cbs
                  repeat (refine W.seq ?_)
                  refine W.region 197 224 (by decide) rfl rfl ?_
                  refine RW.opd rfl rfl (LO.load_agg rfl rfl rfl ty25 rfl (Tk.lit rfl)) ?_
                  refine RW.opd rfl rfl (LO.move rfl rfl) ?_
                  refine RW.opd rfl rfl (LO.call0 (fr := []) rfl rfl (hwk _) fok22 (.cons rfl (.pure rfl) (.cons rfl (.pure rfl) .nil)) rfl) ?_
                  refine RW.opd rfl rfl (LO.move rfl rfl) ?_
                  refine RW.gd rfl rfl rfl ?_ rfl (LO.fieldAddr rfl rfl ty54 rfl (by decide)) ?_; (· (first | rfl | assumption))
                  refine RW.gd rfl rfl rfl ?_ rfl (LO.load rfl rfl rfl rfl ty3 rfl) ?_; (· (first | rfl | assumption))
                  refine RW.gd rfl rfl rfl ?_ rfl (LO.move rfl rfl) ?_; (· (first | rfl | assumption))
                  refine RW.gd rfl rfl rfl ?_ rfl (LO.eql rfl rfl rfl) ?_; (· (first | rfl | assumption))
                  refine RW.gd rfl rfl rfl ?_ rfl (LO.move rfl rfl) ?_; (· (first | rfl | assumption))
                  refine RW.sd rfl rfl rfl ?_ rfl ?_; (· (first | rfl | assumption))
                  refine RW.sd rfl rfl rfl ?_ rfl ?_; (· (first | rfl | assumption))
                  refine RW.sd rfl rfl rfl ?_ rfl ?_; (· (first | rfl | assumption))
                  refine RW.sd rfl rfl rfl ?_ rfl ?_; (· (first | rfl | assumption))
                  refine RW.gd rfl rfl rfl ?_ rfl (LO.pick_f rfl rfl ?_ rfl) ?_; (· (first | rfl | assumption)); (· (first | rfl | assumption))
                  refine RW.gd rfl rfl rfl ?_ rfl (LO.move rfl rfl) ?_; (· (first | rfl | assumption))
                  refine RW.gd rfl rfl rfl ?_ rfl (LO.fieldAddr rfl rfl ty54 rfl (by decide)) ?_; (· (first | rfl | assumption))
                  refine RW.gd rfl rfl rfl ?_ rfl (LO.load rfl rfl rfl rfl ty3 rfl) ?_; (· (first | rfl | assumption))
                  refine RW.gd rfl rfl rfl ?_ rfl (LO.move rfl rfl) ?_; (· (first | rfl | assumption))
                  refine RW.gd rfl rfl rfl ?_ rfl (LO.eql rfl rfl rfl) ?_; (· (first | rfl | assumption))
                  refine RW.gd rfl rfl rfl ?_ rfl (LO.move rfl rfl) ?_; (· (first | rfl | assumption))
                  refine RW.gd rfl rfl rfl ?_ rfl (LO.fieldAddr rfl rfl ty54 rfl (by decide)) ?_; (· (first | rfl | assumption))
                  refine RW.gd rfl rfl rfl ?_ rfl (LO.load rfl rfl rfl rfl ty3 rfl) ?_; (· (first | rfl | assumption))
                  refine RW.gd rfl rfl rfl ?_ rfl (LO.move rfl rfl) ?_; (· (first | rfl | assumption))
                  refine RW.gd rfl rfl rfl ?_ rfl (LO.eql rfl rfl rfl) ?_; (· (first | rfl | assumption))
                  refine RW.gd rfl rfl rfl ?_ rfl (LO.pick_t rfl rfl ?_ rfl) ?_; (· (first | rfl | assumption)); (· (first | rfl | assumption))
                  refine RW.gd rfl rfl rfl ?_ rfl (LO.pick_f rfl rfl ?_ rfl) ?_; (· (first | rfl | assumption)); (· (first | rfl | assumption))
                  refine RW.opd rfl rfl (LO.pick_t rfl rfl ?_ rfl) ?_; (· (first | rfl | assumption))
                  refine RW.nil ?_
                  repeat (refine W.seq ?_)
                  refine W.cond_f rfl (by first | rfl | assumption) ?_
                  refine W.skip ?_
                  intro yJ KJ hJ
                  refine W.rename [(0, 0)] 1 (by decide) ?_ ?_ (hJ (m1, n2) (show m1 = sumK (atI f sn) (i + 1) ∧ n2 = sumK (mostI f sn tn) (i + 1) from by exact ⟨hIC, hno (by omega)⟩))
                  · (repeat' (first | exact all_mt | refine all_up ?_ ?_)) <;> first | exact .inl ⟨rfl, rfl⟩ | exact .inr ⟨rfl, fun _ h => by cases h⟩ | exact .inl ⟨rfl, by first | rfl | assumption | exact (intsC_pure _) | exact (boolsC_pure _)⟩
                  · (repeat' (first | exact all_mt | refine all_up ?_ ?_)) <;> first | exact ⟨rfl, _, rfl, .inr ⟨rfl, rfl⟩⟩ | exact ⟨rfl, _, rfl, .inl rfl⟩ | exact ⟨rfl, _, rfl, .inr ⟨rfl, by first | rfl | assumption | exact (intsC_pure _) | exact (boolsC_pure _)⟩⟩
              · have kat : (lk.a == (tn : Int)) = false := by simpa using cat
                repeat (refine W.seq ?_)
                refine W.region 197 224 (by decide) rfl rfl ?_
                refine RW.opd rfl rfl (LO.load_agg rfl rfl rfl ty25 rfl (Tk.lit rfl)) ?_
                refine RW.opd rfl rfl (LO.move rfl rfl) ?_
                refine RW.opd rfl rfl (LO.call0 (fr := []) rfl rfl (hwk _) fok22 (.cons rfl (.pure rfl) (.cons rfl (.pure rfl) .nil)) rfl) ?_
                refine RW.opd rfl rfl (LO.move rfl rfl) ?_
                refine RW.gd rfl rfl rfl ?_ rfl (LO.fieldAddr rfl rfl ty54 rfl (by decide)) ?_; (· (first | rfl | assumption))
                refine RW.gd rfl rfl rfl ?_ rfl (LO.load rfl rfl rfl rfl ty3 rfl) ?_; (· (first | rfl | assumption))
                refine RW.gd rfl rfl rfl ?_ rfl (LO.move rfl rfl) ?_; (· (first | rfl | assumption))
                refine RW.gd rfl rfl rfl ?_ rfl (LO.eql rfl rfl rfl) ?_; (· (first | rfl | assumption))
                refine RW.gd rfl rfl rfl ?_ rfl (LO.move rfl rfl) ?_; (· (first | rfl | assumption))
                refine RW.sd rfl rfl rfl ?_ rfl ?_; (· (first | rfl | assumption))
                refine RW.sd rfl rfl rfl ?_ rfl ?_; (· (first | rfl | assumption))
                refine RW.sd rfl rfl rfl ?_ rfl ?_; (· (first | rfl | assumption))
                refine RW.sd rfl rfl rfl ?_ rfl ?_; (· (first | rfl | assumption))
                refine RW.gd rfl rfl rfl ?_ rfl (LO.pick_f rfl rfl ?_ rfl) ?_; (· (first | rfl | assumption)); (· (first | rfl | assumption))
                refine RW.gd rfl rfl rfl ?_ rfl (LO.move rfl rfl) ?_; (· (first | rfl | assumption))
                refine RW.gd rfl rfl rfl ?_ rfl (LO.fieldAddr rfl rfl ty54 rfl (by decide)) ?_; (· (first | rfl | assumption))
                refine RW.gd rfl rfl rfl ?_ rfl (LO.load rfl rfl rfl rfl ty3 rfl) ?_; (· (first | rfl | assumption))
                refine RW.gd rfl rfl rfl ?_ rfl (LO.move rfl rfl) ?_; (· (first | rfl | assumption))
                refine RW.gd rfl rfl rfl ?_ rfl (LO.eql rfl rfl rfl) ?_; (· (first | rfl | assumption))
                refine RW.gd rfl rfl rfl ?_ rfl (LO.move rfl rfl) ?_; (· (first | rfl | assumption))
                refine RW.sd rfl rfl rfl ?_ rfl ?_; (· (first | rfl | assumption))
                refine RW.sd rfl rfl rfl ?_ rfl ?_; (· (first | rfl | assumption))
                refine RW.sd rfl rfl rfl ?_ rfl ?_; (· (first | rfl | assumption))
                refine RW.sd rfl rfl rfl ?_ rfl ?_; (· (first | rfl | assumption))
                refine RW.gd rfl rfl rfl ?_ rfl (LO.pick_f rfl rfl ?_ rfl) ?_; (· (first | rfl | assumption)); (· (first | rfl | assumption))
                refine RW.gd rfl rfl rfl ?_ rfl (LO.pick_f rfl rfl ?_ rfl) ?_; (· (first | rfl | assumption)); (· (first | rfl | assumption))
                refine RW.opd rfl rfl (LO.pick_t rfl rfl ?_ rfl) ?_; (· (first | rfl | assumption))
                refine RW.nil ?_
                repeat (refine W.seq ?_)
                refine W.cond_f rfl (by first | rfl | assumption) ?_
                refine W.skip ?_
                intro yJ KJ hJ
                refine W.rename [(0, 0)] 1 (by decide) ?_ ?_ (hJ (m1, n2) (show m1 = sumK (atI f sn) (i + 1) ∧ n2 = sumK (mostI f sn tn) (i + 1) from by exact ⟨hIC, hno (by omega)⟩))
                · (repeat' (first | exact all_mt | refine all_up ?_ ?_)) <;> first | exact .inl ⟨rfl, rfl⟩ | exact .inr ⟨rfl, fun _ h => by cases h⟩ | exact .inl ⟨rfl, by first | rfl | assumption | exact (intsC_pure _) | exact (boolsC_pure _)⟩
                · (repeat' (first | exact all_mt | refine all_up ?_ ?_)) <;> first | exact ⟨rfl, _, rfl, .inr ⟨rfl, rfl⟩⟩ | exact ⟨rfl, _, rfl, .inl rfl⟩ | exact ⟨rfl, _, rfl, .inr ⟨rfl, by first | rfl | assumption | exact (intsC_pure _) | exact (boolsC_pure _)⟩⟩
      ·
        repeat (refine W.seq ?_)
        refine W.region 237 239 (by decide) rfl rfl ?_
        refine RW.opd rfl rfl (LO.add_in rfl rfl rfl ?_) ?_; (· (first | exact IntWalk.i64_in _ (by omega) | assumption))
        refine RW.opd rfl rfl (LO.move rfl rfl) ?_
        refine RW.nil ?_
        refine WL.rename [(0, 0)] 1 (by decide) ?_ ?_ (ihB ((i + 1), m1, m2) (show f.links.length - (i + 1) < f.links.length - i from by omega) (show (i + 1) ≤ f.links.length ∧ m1 = sumK (atI f sn) (i + 1) ∧ m2 = sumK (mostI f sn tn) (i + 1) from ⟨by omega, hID.1, hID.2⟩))
        · (repeat' (first | exact all_mt | refine all_up ?_ ?_)) <;> first | exact .inl ⟨rfl, rfl⟩ | exact .inr ⟨rfl, fun _ h => by cases h⟩ | exact .inl ⟨rfl, by first | rfl | assumption | exact (intsC_pure _) | exact (boolsC_pure _)⟩
        · (repeat' (first | exact all_mt | refine all_up ?_ ?_)) <;> first | exact ⟨rfl, _, rfl, .inr ⟨rfl, rfl⟩⟩ | exact ⟨rfl, _, rfl, .inl rfl⟩ | exact ⟨rfl, _, rfl, .inr ⟨rfl, by first | rfl | assumption | exact (intsC_pure _) | exact (boolsC_pure _)⟩⟩
    · have g7 : decide ((i : Int) < (f.links.length : Int)) = false := decide_eq_false (by omega)
      repeat (refine W.seq ?_)
      refine W.region 154 155 (by decide) rfl rfl ?_
      refine RW.opd rfl rfl (LO.lss rfl rfl rfl) ?_
      refine RW.nil ?_
      repeat (refine W.seq ?_)
      refine W.cond_f rfl (by first | rfl | assumption) ?_
      refine W.exit ?_
      obtain rfl : i = f.links.length := by omega
      clear ihB
      have hA := flow_at hL sn tn
      rw [← hn1] at hA
      have hle : decide (flowF f sn tn ≤ n1) = true := decide_eq_true hA
      repeat (refine W.seq ?_)
      refine W.region 243 248 (by decide) rfl rfl ?_
      refine RW.opd rfl rfl (LO.load_agg rfl rfl rfl ty25 rfl (Tk.lit rfl)) ?_
      refine RW.opd rfl rfl (LO.move rfl rfl) ?_
      refine RW.opd rfl rfl (LO.move rfl rfl) ?_
      refine RW.opd rfl rfl (LO.call0 (fr := []) rfl rfl (hfs _ _) fok24 (.cons rfl (.pure rfl) (.cons rfl (.pure rfl) (.cons rfl (.pure rfl) .nil))) rfl) ?_
      refine RW.opd rfl rfl (LO.assign rfl rfl) ?_
      refine RW.nil ?_
      by_cases hst : (sn : Int) = tn
      · have k1 : ((sn : Int) == (tn : Int)) = true := by simpa using hst
        repeat (refine W.seq ?_)
        refine W.region 252 269 (by decide) rfl rfl ?_
        refine RW.opd rfl rfl (LO.move rfl rfl) ?_
        refine RW.opd rfl rfl (LO.move rfl rfl) ?_
        refine RW.opd rfl rfl (LO.leq rfl rfl rfl) ?_
        refine RW.opd rfl rfl (LO.move rfl rfl) ?_
        refine RW.gd rfl rfl rfl ?_ rfl (LO.move rfl rfl) ?_; (· (first | rfl | assumption))
        refine RW.gd rfl rfl rfl ?_ rfl (LO.move rfl rfl) ?_; (· (first | rfl | assumption))
        refine RW.gd rfl rfl rfl ?_ rfl (LO.eql rfl rfl rfl) ?_; (· (first | rfl | assumption))
        refine RW.gd rfl rfl rfl ?_ rfl (LO.move rfl rfl) ?_; (· (first | rfl | assumption))
        refine RW.sd rfl rfl rfl ?_ rfl ?_; (· (first | rfl | assumption))
        refine RW.sd rfl rfl rfl ?_ rfl ?_; (· (first | rfl | assumption))
        refine RW.sd rfl rfl rfl ?_ rfl ?_; (· (first | rfl | assumption))
        refine RW.gd rfl rfl rfl ?_ rfl (LO.pick_t rfl rfl ?_ rfl) ?_; (· (first | rfl | assumption)); (· (first | rfl | assumption))
        refine RW.opd rfl rfl (LO.pick_t rfl rfl ?_ rfl) ?_; (· (first | rfl | assumption))
        refine RW.opd rfl rfl (LO.move rfl rfl) ?_
        refine RW.gd rfl rfl rfl ?_ rfl (LO.call0 (fr := []) rfl rfl (awake13_any) fok15 .nil rfl) ?_; (· (first | rfl | assumption))
        refine RW.opd rfl rfl (LO.pick_t rfl rfl ?_ rfl) ?_; (· (first | rfl | assumption))
        refine RW.opd rfl rfl (LO.assign rfl rfl) ?_
        refine RW.nil ?_
        repeat (refine W.seq ?_)
        refine W.ret ⟨.inl rfl, _, mt, RVs.cons (RV.tmp rfl) (RVs.nil), all_mt, ?_⟩
        exact ⟨rfl, rfl⟩
      · have k1 : ((sn : Int) == (tn : Int)) = false := by simpa using hst
        have hM := flow_most hL hst
        rw [← hn2] at hM
        have k2 : decide (flowF f sn tn ≥ n2) = true := decide_eq_true hM
        repeat (refine W.seq ?_)
        refine W.region 252 269 (by decide) rfl rfl ?_
        refine RW.opd rfl rfl (LO.move rfl rfl) ?_
        refine RW.opd rfl rfl (LO.move rfl rfl) ?_
        refine RW.opd rfl rfl (LO.leq rfl rfl rfl) ?_
        refine RW.opd rfl rfl (LO.move rfl rfl) ?_
        refine RW.gd rfl rfl rfl ?_ rfl (LO.move rfl rfl) ?_; (· (first | rfl | assumption))
        refine RW.gd rfl rfl rfl ?_ rfl (LO.move rfl rfl) ?_; (· (first | rfl | assumption))
        refine RW.gd rfl rfl rfl ?_ rfl (LO.eql rfl rfl rfl) ?_; (· (first | rfl | assumption))
        refine RW.gd rfl rfl rfl ?_ rfl (LO.move rfl rfl) ?_; (· (first | rfl | assumption))
        refine RW.gd rfl rfl rfl ?_ rfl (LO.move rfl rfl) ?_; (· (first | rfl | assumption))
        refine RW.gd rfl rfl rfl ?_ rfl (LO.move rfl rfl) ?_; (· (first | rfl | assumption))
        refine RW.gd rfl rfl rfl ?_ rfl (LO.geq rfl rfl rfl) ?_; (· (first | rfl | assumption))
        refine RW.gd rfl rfl rfl ?_ rfl (LO.pick_f rfl rfl ?_ rfl) ?_; (· (first | rfl | assumption)); (· (first | rfl | assumption))
        refine RW.opd rfl rfl (LO.pick_t rfl rfl ?_ rfl) ?_; (· (first | rfl | assumption))
        refine RW.opd rfl rfl (LO.move rfl rfl) ?_
        refine RW.gd rfl rfl rfl ?_ rfl (LO.call0 (fr := []) rfl rfl (awake13_any) fok15 .nil rfl) ?_; (· (first | rfl | assumption))
        refine RW.opd rfl rfl (LO.pick_t rfl rfl ?_ rfl) ?_; (· (first | rfl | assumption))
        refine RW.opd rfl rfl (LO.assign rfl rfl) ?_
        refine RW.nil ?_
        repeat (refine W.seq ?_)
        refine W.ret ⟨.inl rfl, _, mt, RVs.cons (RV.tmp rfl) (RVs.nil), all_mt, ?_⟩
        exact ⟨rfl, rfl⟩
end Go.Proofs.Ythbdngfnbpkefaa
