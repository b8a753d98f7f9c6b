/-
  FabricSteps returns true.
-/
import Derived.Test.YthbdngfnbpkefaaGa
namespace Go.Proofs.Ythbdngfnbpkefaa
open Go.RowKit

def gB (l : List Bool) (k : Nat) : Bool := l.getD k false
theorem gB_set {l : List Bool} {k : Nat} {b : Bool} (h : k < l.length) (j : Nat) : gB (l.set k b) j = if j = k then b else gB l j := by
  unfold gB
  by_cases e : j = k
  · subst e; simp [h]
  · have e2 : k ≠ j := fun h => e h.symm
    simp [List.getElem?_set_ne e2, e]
theorem gB_keep {l : List Bool} {k : Nat} {b : Bool} (h : k < l.length) (h0 : gB l k = true → b = true) (j : Nat) (hj : gB l j = true) : gB (l.set k b) j = true := by
  rw [gB_set h]
  split
  · rename_i e; rw [e] at hj; exact h0 hj
  · exact hj
theorem bg_at {l : List Bool} {x : Int} (h0 : 0 ≤ x) (h1 : x < l.length) : (boolsC l)[0 + x.toNat * 1]? = some (.base (.bool (gB l x.toNat))) := by
  have : x.toNat < l.length := by omega
  simp [boolsC, gB, this]
theorem bg_nat {l : List Bool} {k : Nat} (h : k < l.length) : (boolsC l)[0 + k * 1]? = some (.base (.bool (gB l k))) := by simp [boolsC, gB, h]
theorem bg_nat1 {l : List Bool} {k : Nat} (h : k < l.length) : (boolsC l)[k * 1]? = some (.base (.bool (gB l k))) := by simp [boolsC, gB, h]
theorem alive_gB {f : Fab} {k : Nat} (h : k < f.dead.length) : aliveB f k = !gB f.dead k := by
  rw [aliveB_at h]; simp [gB, h]
theorem zeros_bools (n : Nat) : zerosL n [.base (.bool false)] = boolsC (List.replicate n false) := by
  unfold zerosL boolsC
  induction n with
  | zero => rfl
  | succ n ih => rw [List.replicate_succ, List.flatten_cons, ih, List.replicate_succ, List.map_cons]; rfl
theorem dist_lt (f : Fab) (t x : Int) (h : 1 ≤ f.dead.length) : gI (dist f t) x < f.dead.length := by
  cases ha : aliveB f t with
  | true => exact (dist_ok ha).toDBase.lt x
  | false => rw [dist_none ha]; omega
/-- one of the two is next to the goal by the other -/
def okB (d : List Int) (x y : Int) : Prop := gI d y = gI d x - 1 ∧ 0 ≤ gI d y
def NearI (f : Fab) (d : List Int) (i : Nat) (nr : List Bool) : Prop := ∀ j l, j < i → f.links[j]? = some l → wkF f j = true → (okB d l.a l.b → gB nr l.a.toNat = true) ∧ (okB d l.b l.a → gB nr l.b.toNat = true)
theorem NearI.done {f : Fab} {t : Int} {nr : List Bool} (h : NearI f (dist f t) f.links.length nr) {x : Nat} (hx : 0 < gI (dist f t) x) : gB nr x = true := by
  have ha := dist_alive (f := f) (t := t) (x := x) (by omega)
  obtain ⟨y, ⟨i, l, hl, hW, h3⟩, h1⟩ := (dist_ok ha).pred x hx
  have := h i l (List.getElem?_eq_some_iff.1 hl).1 hl hW
  rcases h3 with ⟨h3, h4⟩ | ⟨h3, h4⟩
  · have h5 := this.1 ⟨by rw [h3, h4, h1], by rw [h4, h1]; omega⟩
    rw [h3] at h5; exact h5
  · have h5 := this.2 ⟨by rw [h3, h4, h1], by rw [h4, h1]; omega⟩
    rw [h3] at h5; exact h5
theorem steps_law (l : List Int) (to : Int) (hl : l.length ≤ 9223372036854775807) : AFn Try.prog 8 0 [.isl (intsC l) l.length, .base (.int .i64 to)] mt (.base (.bool true)) mt := by
  refine AFn.eq Try.func8 rfl rfl (Nat.le_of_ble_eq_true rfl) ?_
  have hnew := new_any l
  obtain ⟨v, H', hcall, f, a1, ⟨hf, hsw⟩, rfl, rfl⟩ := fabric_any l 0 2 (by decide) (by decide) hl
  have hds := distances_isl f hf.fs
  have hwk := works_any f
  have hs1 := hf.sw1
  have hs7 := hf.sw7
  have hdd := hf.dead
  have h24 := hf.nlinks
  have hsy := dist_symm f
  have hdl := dist_len f
  obtain ⟨tn, htn⟩ := Int.eq_ofNat_of_zero_le (Int.emod_nonneg to (show f.sw ≠ 0 by omega))
  have htl := Int.emod_lt_of_pos to (show 0 < f.sw by omega)
  rw [htn] at htl
  have ht8 : tn < f.dead.length := by omega
  have hmod := mod_any to f.sw hs1 (by omega)
  rw [htn] at hmod
  repeat (refine W.seq ?_)
  refine W.region 0 1 (by decide) rfl rfl ?_
  refine RW.opd rfl rfl (LO.assign rfl rfl) ?_
  refine RW.nil ?_
  repeat (refine W.seq ?_)
  refine W.region 5 10 (by decide) rfl rfl ?_
  refine RW.opd rfl rfl (LO.move rfl rfl) ?_
  refine RW.opd rfl rfl (LO.callN (fr := []) rfl rfl (hnew) fok16 (.cons rfl (.pure rfl) .nil) rfl (by decide)) ?_
  refine RW.opd rfl rfl (LO.call1 (fr := []) rfl rfl (hcall) fok17 (.own rfl rfl (.cons rfl (.pure rfl) .nil)) rfl rfl rfl (List.cons_ne_nil _ _) (by decide) rfl) ?_
  refine RW.opd rfl rfl (LO.alloc rfl ty25) ?_
  refine RW.opn rfl rfl (LO.store rfl rfl rfl rfl rfl ty25 rfl (by decide) (Sp.lit rfl)) ?_
  refine RW.nil ?_
  repeat (refine W.seq ?_)
  refine W.region 14 19 (by decide) rfl rfl ?_
  refine RW.opd rfl rfl (LO.move rfl rfl) ?_
  refine RW.opd rfl rfl (LO.fieldAddr rfl rfl ty25 rfl (by decide)) ?_
  refine RW.opd rfl rfl (LO.load rfl rfl rfl rfl ty3 rfl) ?_
  refine RW.opd rfl rfl (LO.call0 (fr := []) rfl rfl (hmod) fok21 (.cons rfl (.pure rfl) (.cons rfl (.pure rfl) .nil)) rfl) ?_
  refine RW.opd rfl rfl (LO.assign rfl rfl) ?_
  refine RW.nil ?_
  repeat (refine W.seq ?_)
  refine W.region 23 27 (by decide) rfl rfl ?_
  refine RW.opd rfl rfl (LO.load_agg rfl rfl rfl ty25 rfl (Tk.lit rfl)) ?_
  refine RW.opd rfl rfl (LO.move rfl rfl) ?_
  refine RW.opd rfl rfl (LO.call0 (fr := []) rfl rfl (hds _) fok35 (.cons rfl (.pure rfl) (.cons rfl (.pure rfl) .nil)) rfl) ?_
  refine RW.opd rfl rfl (LO.assign rfl rfl) ?_
  refine RW.nil ?_
  have hne : ((f.dead.length : Int) != f.sw) = false := by rw [hdd]; simp
  repeat (refine W.seq ?_)
  refine W.region 31 36 (by decide) rfl rfl ?_
  refine RW.opd rfl rfl (LO.move rfl rfl) ?_
  refine RW.opd rfl rfl (LO.len_isl rfl rfl rfl ty26) ?_
  refine RW.opd rfl rfl (LO.fieldAddr rfl rfl ty25 rfl (by decide)) ?_
  refine RW.opd rfl rfl (LO.load rfl rfl rfl rfl ty3 rfl) ?_
  refine RW.opd rfl rfl (LO.neq rfl rfl rfl) ?_
  refine RW.nil ?_
  repeat (refine W.seq ?_)
  refine W.cond_f rfl (by first | rfl | assumption) ?_
  refine W.skip ?_
  repeat (refine W.seq ?_)
  refine W.region 45 49 (by decide) rfl rfl ?_
  refine RW.opd rfl rfl (LO.fieldAddr rfl rfl ty25 rfl (by decide)) ?_
  refine RW.opd rfl rfl (LO.load rfl rfl rfl rfl ty3 rfl) ?_
  refine RW.opd rfl rfl (LO.makeSlice rfl rfl rfl hdd.symm hdd.symm ty23 ty4 (by decide) ?_ ?_ ?_) ?_; (· (first | omega | decide | assumption | fail | (simp; done) | (simp; omega))); (· (first | omega | decide | assumption | fail | (simp; done) | (simp; omega))); (· (first | omega | decide | assumption | fail | (simp; done) | (simp; omega)))
  refine RW.opd rfl rfl (LO.assign rfl rfl) ?_
  refine RW.nil ?_
  rw [zeros_bools]
  repeat (refine W.seq ?_)
  refine W.region 53 57 (by decide) rfl rfl ?_
  refine RW.opd rfl rfl (LO.fieldAddr rfl rfl ty25 rfl (by decide)) ?_
  refine RW.opd rfl rfl (LO.load rfl rfl rfl rfl ty22 rfl) ?_
  refine RW.opd rfl rfl (LO.len_isl rfl rfl rfl ty22) ?_
  refine RW.opd rfl rfl (LO.move rfl rfl) ?_
  refine RW.nil ?_
  repeat (refine W.seq ?_)
  refine W.block ?_
  refine W.rename [(0, 8), (1, 47)] 2 (T' := up (up (up (up (up (up (up mt 5 (some (.own 0 0))) 6 (some (.base (.int .i64 (tn : Int))))) 7 (some (.isl (intsC (dist f tn)) f.dead.length))) 8 (some (.osl 1 0 f.dead.length 1))) 33 (some (.isl (lnksC f.links) f.links.length))) 34 (some (.base (.int .i64 (f.links.length : Int))))) 35 (some (.base (.int .i64 (0 : Int))))) (H' := up (up mt 0 (some (fabC f))) 1 (some (boolsC (List.replicate f.dead.length false)))) (by decide) ?_ ?_ ?_
  · (repeat' (first | exact all_mt | refine all_up ?_ ?_)) <;> first | exact .inl ⟨rfl, rfl⟩ | exact .inr ⟨rfl, fun _ h => by cases h⟩ | exact .inl ⟨rfl, by first | rfl | assumption | exact (intsC_pure _) | exact (boolsC_pure _)⟩
  · (repeat' (first | exact all_mt | refine all_up ?_ ?_)) <;> first | exact ⟨rfl, _, rfl, .inr ⟨rfl, rfl⟩⟩ | exact ⟨rfl, _, rfl, .inl rfl⟩ | exact ⟨rfl, _, rfl, .inr ⟨rfl, by first | rfl | assumption | exact (intsC_pure _) | exact (boolsC_pure _)⟩⟩
  refine W.loop_ind (α := Nat × List Bool) (fun x => f.links.length - x.1) 2 (fun x => up (up (up (up (up (up (up mt 5 (some (.own 0 0))) 6 (some (.base (.int .i64 (tn : Int))))) 7 (some (.isl (intsC (dist f tn)) f.dead.length))) 8 (some (.osl 1 0 f.dead.length 1))) 33 (some (.isl (lnksC f.links) f.links.length))) 34 (some (.base (.int .i64 (f.links.length : Int))))) 35 (some (.base (.int .i64 (x.1 : Int))))) (fun x => up (up mt 0 (some (fabC f))) 1 (some (boolsC x.2))) (fun x => x.1 ≤ f.links.length ∧ x.2.length = f.dead.length ∧ NearI f (dist f tn) x.1 x.2) (0, (List.replicate f.dead.length false)) (show 0 ≤ f.links.length ∧ (List.replicate f.dead.length false).length = f.dead.length ∧ NearI f (dist f tn) 0 (List.replicate f.dead.length false) from ⟨Nat.zero_le _, by simp, fun j l h => by omega⟩) ?_
  rintro ⟨i, nr⟩ hIA ihA
  try (dsimp only at hIA)
  try dsimp only
  obtain ⟨hi, hnl, hnr⟩ := hIA
  by_cases hc2 : i < f.links.length
  · have g7 : decide ((i : Int) < (f.links.length : Int)) = true := decide_eq_true (by omega)
    have hl2 : f.links[i]? = some f.links[i] := by simp [hc2]
    repeat (refine W.seq ?_)
    refine W.region 61 62 (by decide) rfl rfl ?_
    refine RW.opd rfl rfl (LO.lss rfl rfl rfl) ?_
    refine RW.nil ?_
    repeat (refine W.seq ?_)
    refine W.cond_t rfl (by first | rfl | assumption) ?_
    refine W.skip ?_
    repeat (refine W.seq ?_)
    refine W.block ?_
    repeat (refine W.seq ?_)
    refine W.region 66 72 (by decide) rfl rfl ?_
    refine RW.opd rfl rfl (LO.move rfl rfl) ?_
    refine RW.opd rfl rfl (LO.indexAddr_isl rfl rfl rfl rfl rfl ty22 ty54 ?_) ?_; (· (first | omega | decide | assumption | fail | (simp; done) | (simp; omega)))
    refine RW.opd rfl rfl (LO.load_imm_agg rfl rfl ty54 rfl (lnksC_tk hc2)) ?_
    refine RW.opd rfl rfl (LO.alloc rfl ty54) ?_
    refine RW.opd rfl rfl (LO.assign rfl rfl) ?_
    refine RW.opn rfl rfl (LO.store rfl rfl rfl rfl rfl ty54 rfl (by decide) (Sp.lit rfl)) ?_
    refine RW.nil ?_
    cases hwi : worksB f i with
    | false =>
      have g6 : (!worksB f i) = true := by rw [hwi]; rfl
      have hnext : NearI f (dist f tn) (i + 1) nr := fun j l hj hl hW => by
        by_cases e : j = i
        · subst e; rw [show wkF f j = false from hwi] at hW; cases hW
        · exact hnr j l (by omega) hl hW
      repeat (refine W.seq ?_)
      refine W.region 76 80 (by decide) rfl rfl ?_
      refine RW.opd rfl rfl (LO.load_agg rfl rfl rfl ty25 rfl (Tk.lit rfl)) ?_
      refine RW.opd rfl rfl (LO.move rfl rfl) ?_
      refine RW.opd rfl rfl (LO.call0 (fr := []) rfl rfl (hwk _) fok22 (.cons rfl (.pure rfl) (.cons rfl (.pure rfl) .nil)) rfl) ?_
      refine RW.opd rfl rfl (LO.not rfl rfl) ?_
      refine RW.nil ?_
      repeat (refine W.seq ?_)
      refine W.cond_t rfl (by first | rfl | assumption) ?_
      refine W.exit ?_
      repeat (refine W.seq ?_)
      refine W.region 206 208 (by decide) rfl rfl ?_
      refine RW.opd rfl rfl (LO.add_in rfl rfl rfl ?_) ?_; (· (first | exact IntWalk.i64_in _ (by omega) | assumption))
      refine RW.opd rfl rfl (LO.move rfl rfl) ?_
      refine RW.nil ?_
      refine WL.rename [(0, 0), (1, 1)] 2 (by decide) ?_ ?_ (ihA ((i + 1), nr) (show f.links.length - (i + 1) < f.links.length - i from by omega) (show (i + 1) ≤ f.links.length ∧ nr.length = f.dead.length ∧ NearI f (dist f tn) (i + 1) nr from ⟨by omega, hnl, hnext⟩))
      · (repeat' (first | exact all_mt | refine all_up ?_ ?_)) <;> first | exact .inl ⟨rfl, rfl⟩ | exact .inr ⟨rfl, fun _ h => by cases h⟩ | exact .inl ⟨rfl, by first | rfl | assumption | exact (intsC_pure _) | exact (boolsC_pure _)⟩
      · (repeat' (first | exact all_mt | refine all_up ?_ ?_)) <;> first | exact ⟨rfl, _, rfl, .inr ⟨rfl, rfl⟩⟩ | exact ⟨rfl, _, rfl, .inl rfl⟩ | exact ⟨rfl, _, rfl, .inr ⟨rfl, by first | rfl | assumption | exact (intsC_pure _) | exact (boolsC_pure _)⟩⟩
    | true =>
      have g6 : (!worksB f i) = false := by rw [hwi]; rfl
      obtain ⟨x1, x2, x3, x4⟩ := wkF_wf f i _ hl2 hwi
      have hea : Edge f (wkF f) f.links[i].a f.links[i].b := ⟨i, _, hl2, hwi, .inl ⟨rfl, rfl⟩⟩
      have hstep : (gI (dist f tn) f.links[i].a < 0 ↔ gI (dist f tn) f.links[i].b < 0) ∧ gI (dist f tn) f.links[i].a - gI (dist f tn) f.links[i].b ≤ 1 ∧ gI (dist f tn) f.links[i].b - gI (dist f tn) f.links[i].a ≤ 1 := by
        have q1 := dist_ge f tn f.links[i].a
        have q2 := dist_ge f tn f.links[i].b
        cases ha : aliveB f tn with
        | false => rw [dist_none ha, dist_none ha]; omega
        | true =>
          have k1 := (dist_ok ha).step _ _ hea
          have k2 := (dist_ok ha).step _ _ hea.symm
          rcases Int.lt_or_le (gI (dist f tn) f.links[i].a) 0 with q3 | q3
          · rcases Int.lt_or_le (gI (dist f tn) f.links[i].b) 0 with q4 | q4
            · omega
            · have := k2 q4; omega
          · have := k1 q3
            have := k2 this.1
            omega
      have hlna := dist_lt f tn f.links[i].a (by omega)
      have hlnb := dist_lt f tn f.links[i].b (by omega)
      have hgna := dist_ge f tn f.links[i].a
      have hgnb := dist_ge f tn f.links[i].b
      have hdtl := hdl tn
      repeat (refine W.seq ?_)
      refine W.region 76 80 (by decide) rfl rfl ?_
      refine RW.opd rfl rfl (LO.load_agg rfl rfl rfl ty25 rfl (Tk.lit rfl)) ?_
      refine RW.opd rfl rfl (LO.move rfl rfl) ?_
      refine RW.opd rfl rfl (LO.call0 (fr := []) rfl rfl (hwk _) fok22 (.cons rfl (.pure rfl) (.cons rfl (.pure rfl) .nil)) rfl) ?_
      refine RW.opd rfl rfl (LO.not rfl rfl) ?_
      refine RW.nil ?_
      repeat (refine W.seq ?_)
      refine W.cond_f rfl (by first | rfl | assumption) ?_
      refine W.skip ?_
      obtain ⟨lk, hlk⟩ : ∃ lk, f.links[i] = lk := ⟨_, rfl⟩
      rw [hlk] at hl2 x1 x2 x3 x4 hstep hlna hlnb hgna hgnb ⊢
      unfold lnkC
      obtain ⟨la, lb, lc⟩ := lk
      dsimp only at x1 x2 x3 x4 hstep hlna hlnb hgna hgnb ⊢
      obtain ⟨s1, s2, s3⟩ := hstep
      have k1 : (decide (gI (dist f tn) la < 0) != decide (gI (dist f tn) lb < 0)) = false := by rw [show decide (gI (dist f tn) la < 0) = decide (gI (dist f tn) lb < 0) from decide_eq_decide.2 s1]; simp
      have k2 : decide (gI (dist f tn) la - gI (dist f tn) lb > 1) = false := decide_eq_false (by omega)
      have k3 : decide (gI (dist f tn) lb - gI (dist f tn) la > 1) = false := decide_eq_false (by omega)
      repeat (refine W.seq ?_)
      refine W.regionD 84 125 (by decide) rfl mixed rfl ?_
      refine RW.opd rfl rfl (LO.move rfl rfl) ?_
      refine RW.opd rfl rfl (LO.fieldAddr rfl rfl ty54 rfl (by decide)) ?_
      refine RW.opd rfl rfl (LO.load rfl rfl rfl rfl ty3 rfl) ?_
      refine RW.opd rfl rfl (LO.indexAddr_isl rfl rfl rfl rfl (Int.toNat_of_nonneg x1).symm ty26 ty3 ?_) ?_; (· (first | omega | decide | assumption | fail | (simp; done) | (simp; omega)))
      refine RW.opd rfl rfl (LO.load_imm rfl rfl (gi_at1 x1 (by omega)) ty3 rfl) ?_
      refine RW.opd rfl rfl (LO.lss rfl rfl rfl) ?_
      refine RW.opd rfl rfl (LO.move rfl rfl) ?_
      refine RW.opd rfl rfl (LO.fieldAddr rfl rfl ty54 rfl (by decide)) ?_
      refine RW.opd rfl rfl (LO.load rfl rfl rfl rfl ty3 rfl) ?_
      refine RW.opd rfl rfl (LO.indexAddr_isl rfl rfl rfl rfl (Int.toNat_of_nonneg x3).symm ty26 ty3 ?_) ?_; (· (first | omega | decide | assumption | fail | (simp; done) | (simp; omega)))
      refine RW.opd rfl rfl (LO.load_imm rfl rfl (gi_at1 x3 (by omega)) ty3 rfl) ?_
      refine RW.opd rfl rfl (LO.lss rfl rfl rfl) ?_
      refine RW.opd rfl rfl (LO.neq_bool rfl rfl rfl ty4) ?_
      refine RW.opd rfl rfl (LO.move rfl rfl) ?_
      refine RW.gd rfl rfl rfl ?_ rfl (LO.move rfl rfl) ?_; (· (first | rfl | assumption))
      refine RW.gd rfl rfl rfl ?_ rfl (LO.fieldAddr rfl rfl ty54 rfl (by decide)) ?_; (· (first | rfl | assumption))
      refine RW.gd rfl rfl rfl ?_ rfl (LO.load rfl rfl rfl rfl ty3 rfl) ?_; (· (first | rfl | assumption))
      refine RW.gd rfl rfl rfl ?_ rfl (LO.indexAddr_isl rfl rfl rfl rfl (Int.toNat_of_nonneg x1).symm ty26 ty3 ?_) ?_; (· (first | rfl | assumption)); (· (first | omega | decide | assumption | fail | (simp; done) | (simp; omega)))
      refine RW.gd rfl rfl rfl ?_ rfl (LO.load_imm rfl rfl (gi_at1 x1 (by omega)) ty3 rfl) ?_; (· (first | rfl | assumption))
      refine RW.gd rfl rfl rfl ?_ rfl (LO.move rfl rfl) ?_; (· (first | rfl | assumption))
      refine RW.gd rfl rfl rfl ?_ rfl (LO.fieldAddr rfl rfl ty54 rfl (by decide)) ?_; (· (first | rfl | assumption))
      refine RW.gd rfl rfl rfl ?_ rfl (LO.load rfl rfl rfl rfl ty3 rfl) ?_; (· (first | rfl | assumption))
      refine RW.gd rfl rfl rfl ?_ rfl (LO.indexAddr_isl rfl rfl rfl rfl (Int.toNat_of_nonneg x3).symm ty26 ty3 ?_) ?_; (· (first | rfl | assumption)); (· (first | omega | decide | assumption | fail | (simp; done) | (simp; omega)))
      refine RW.gd rfl rfl rfl ?_ rfl (LO.load_imm rfl rfl (gi_at1 x3 (by omega)) ty3 rfl) ?_; (· (first | rfl | assumption))
      refine RW.gd rfl rfl rfl ?_ rfl (LO.sub_in rfl rfl rfl ?_) ?_; (· (first | rfl | assumption)); (· (first | exact IntWalk.i64_in _ (by omega) | assumption))
      refine RW.gd rfl rfl rfl ?_ rfl (LO.gtr rfl rfl rfl) ?_; (· (first | rfl | assumption))
      refine RW.opd rfl rfl (LO.pick_f rfl rfl ?_ rfl) ?_; (· (first | rfl | assumption))
      refine RW.opd rfl rfl (LO.move rfl rfl) ?_
      refine RW.gd rfl rfl rfl ?_ rfl (LO.move rfl rfl) ?_; (· (first | rfl | assumption))
      refine RW.gd rfl rfl rfl ?_ rfl (LO.fieldAddr rfl rfl ty54 rfl (by decide)) ?_; (· (first | rfl | assumption))
      refine RW.gd rfl rfl rfl ?_ rfl (LO.load rfl rfl rfl rfl ty3 rfl) ?_; (· (first | rfl | assumption))
      refine RW.gd rfl rfl rfl ?_ rfl (LO.indexAddr_isl rfl rfl rfl rfl (Int.toNat_of_nonneg x3).symm ty26 ty3 ?_) ?_; (· (first | rfl | assumption)); (· (first | omega | decide | assumption | fail | (simp; done) | (simp; omega)))
      refine RW.gd rfl rfl rfl ?_ rfl (LO.load_imm rfl rfl (gi_at1 x3 (by omega)) ty3 rfl) ?_; (· (first | rfl | assumption))
      refine RW.gd rfl rfl rfl ?_ rfl (LO.move rfl rfl) ?_; (· (first | rfl | assumption))
      refine RW.gd rfl rfl rfl ?_ rfl (LO.fieldAddr rfl rfl ty54 rfl (by decide)) ?_; (· (first | rfl | assumption))
      refine RW.gd rfl rfl rfl ?_ rfl (LO.load rfl rfl rfl rfl ty3 rfl) ?_; (· (first | rfl | assumption))
      refine RW.gd rfl rfl rfl ?_ rfl (LO.indexAddr_isl rfl rfl rfl rfl (Int.toNat_of_nonneg x1).symm ty26 ty3 ?_) ?_; (· (first | rfl | assumption)); (· (first | omega | decide | assumption | fail | (simp; done) | (simp; omega)))
      refine RW.gd rfl rfl rfl ?_ rfl (LO.load_imm rfl rfl (gi_at1 x1 (by omega)) ty3 rfl) ?_; (· (first | rfl | assumption))
      refine RW.gd rfl rfl rfl ?_ rfl (LO.sub_in rfl rfl rfl ?_) ?_; (· (first | rfl | assumption)); (· (first | exact IntWalk.i64_in _ (by omega) | assumption))
      refine RW.gd rfl rfl rfl ?_ rfl (LO.gtr rfl rfl rfl) ?_; (· (first | rfl | assumption))
      refine RW.opd rfl rfl (LO.pick_f rfl rfl ?_ rfl) ?_; (· (first | rfl | assumption))
      refine RW.nil ⟨by kernel_rfl, ?_⟩
      repeat (refine W.seq ?_)
      refine W.cond_f rfl (by first | rfl | assumption) ?_
      refine W.skip ?_
      have hx1 : ∃ v1 : Bool, (okB (dist f tn) la lb → v1 = true) ∧ (gB nr la.toNat = true → v1 = true) ∧ True := ⟨true, fun _ => rfl, fun _ => rfl, trivial⟩
      rcases (show gB nr la.toNat = true ∨ (gB nr la.toNat = false ∧ gI (dist f tn) lb = gI (dist f tn) la - 1) ∨ (gB nr la.toNat = false ∧ ¬ gI (dist f tn) lb = gI (dist f tn) la - 1) by cases gB nr la.toNat <;> simp <;> omega) with e1 | ⟨e1, e2⟩ | ⟨e1, e2⟩
      case' inl =>
        repeat (refine W.seq ?_)
        refine W.regionD 134 166 (by decide) rfl mixed rfl ?_
        refine RW.opd rfl rfl (LO.move rfl rfl) ?_
        refine RW.opd rfl rfl (LO.fieldAddr rfl rfl ty54 rfl (by decide)) ?_
        refine RW.opd rfl rfl (LO.load rfl rfl rfl rfl ty3 rfl) ?_
        refine RW.opd rfl rfl (LO.move rfl rfl) ?_
        refine RW.opd rfl rfl (LO.fieldAddr rfl rfl ty54 rfl (by decide)) ?_
        refine RW.opd rfl rfl (LO.load rfl rfl rfl rfl ty3 rfl) ?_
        refine RW.opd rfl rfl (LO.indexAddr rfl rfl rfl (Int.toNat_of_nonneg x1).symm ty23 ty4 ?_) ?_; (· (first | omega | decide | assumption | fail | (simp; done) | (simp; omega)))
        refine RW.opd rfl rfl (LO.load rfl rfl rfl (bg_at x1 (by omega)) ty4 rfl) ?_
        refine RW.opd rfl rfl (LO.move rfl rfl) ?_
        refine RW.sd rfl rfl rfl ?_ rfl ?_; (· (first | rfl | assumption))
        refine RW.sd rfl rfl rfl ?_ rfl ?_; (· (first | rfl | assumption))
        refine RW.sd rfl rfl rfl ?_ rfl ?_; (· (first | rfl | assumption))
        refine RW.sd rfl rfl rfl ?_ rfl ?_; (· (first | rfl | assumption))
        refine RW.sd rfl rfl rfl ?_ rfl ?_; (· (first | rfl | assumption))
        refine RW.sd rfl rfl rfl ?_ rfl ?_; (· (first | rfl | assumption))
        refine RW.sd rfl rfl rfl ?_ rfl ?_; (· (first | rfl | assumption))
        refine RW.sd rfl rfl rfl ?_ rfl ?_; (· (first | rfl | assumption))
        refine RW.sd rfl rfl rfl ?_ rfl ?_; (· (first | rfl | assumption))
        refine RW.sd rfl rfl rfl ?_ rfl ?_; (· (first | rfl | assumption))
        refine RW.sd rfl rfl rfl ?_ rfl ?_; (· (first | rfl | assumption))
        refine RW.sd rfl rfl rfl ?_ rfl ?_; (· (first | rfl | assumption))
        refine RW.sd rfl rfl rfl ?_ rfl ?_; (· (first | rfl | assumption))
        refine RW.ud rfl rfl rfl rfl ?_
        refine RW.ud rfl rfl rfl rfl ?_
        refine RW.ud rfl rfl rfl rfl ?_
        refine RW.ud rfl rfl rfl rfl ?_
        refine RW.ud rfl rfl rfl rfl ?_
        refine RW.ud rfl rfl rfl rfl ?_
        refine RW.sd rfl rfl rfl ?_ rfl ?_; (· (first | rfl | assumption))
        refine RW.opd rfl rfl (LO.pick_t rfl rfl ?_ rfl) ?_; (· (first | rfl | assumption))
        refine RW.opd rfl rfl (LO.indexAddr rfl rfl rfl (Int.toNat_of_nonneg x1).symm ty23 ty4 ?_) ?_; (· (first | omega | decide | assumption | fail | (simp; done) | (simp; omega)))
        refine RW.opn rfl rfl (LO.store rfl rfl rfl rfl rfl ty4 rfl (by decide) (bs_at x1 (by omega))) ?_
        refine RW.nil ⟨by kernel_rfl, ?_⟩
        obtain ⟨n1, hn1⟩ : ∃ n1, n1 = nr.set la.toNat true := ⟨_, rfl⟩
        rw [← hn1]
        have hgn : gB n1 la.toNat = true := by rw [hn1, gB_set (by omega), if_pos rfl]
        have hok : okB (dist f tn) la lb → gB n1 la.toNat = true := fun _ => hgn
        have hkp : ∀ s, gB nr s = true → gB n1 s = true := fun s hs => by
          rw [hn1, gB_set (by omega)]; split
          · rfl
          · exact hs
        have hn1l : n1.length = f.dead.length := by rw [hn1, List.length_set, hnl]
      case' inr.inl =>
        have e3 : (gI (dist f tn) lb == gI (dist f tn) la - 1) = true := by simpa using e2
        repeat (refine W.seq ?_)
        refine W.regionD 134 166 (by decide) rfl mixed rfl ?_
        refine RW.opd rfl rfl (LO.move rfl rfl) ?_
        refine RW.opd rfl rfl (LO.fieldAddr rfl rfl ty54 rfl (by decide)) ?_
        refine RW.opd rfl rfl (LO.load rfl rfl rfl rfl ty3 rfl) ?_
        refine RW.opd rfl rfl (LO.move rfl rfl) ?_
        refine RW.opd rfl rfl (LO.fieldAddr rfl rfl ty54 rfl (by decide)) ?_
        refine RW.opd rfl rfl (LO.load rfl rfl rfl rfl ty3 rfl) ?_
        refine RW.opd rfl rfl (LO.indexAddr rfl rfl rfl (Int.toNat_of_nonneg x1).symm ty23 ty4 ?_) ?_; (· (first | omega | decide | assumption | fail | (simp; done) | (simp; omega)))
        refine RW.opd rfl rfl (LO.load rfl rfl rfl (bg_at x1 (by omega)) ty4 rfl) ?_
        refine RW.opd rfl rfl (LO.move rfl rfl) ?_
        refine RW.gd rfl rfl rfl ?_ rfl (LO.move rfl rfl) ?_; (· (first | rfl | assumption))
        refine RW.gd rfl rfl rfl ?_ rfl (LO.fieldAddr rfl rfl ty54 rfl (by decide)) ?_; (· (first | rfl | assumption))
        refine RW.gd rfl rfl rfl ?_ rfl (LO.load rfl rfl rfl rfl ty3 rfl) ?_; (· (first | rfl | assumption))
        refine RW.gd rfl rfl rfl ?_ rfl (LO.indexAddr_isl rfl rfl rfl rfl (Int.toNat_of_nonneg x3).symm ty26 ty3 ?_) ?_; (· (first | rfl | assumption)); (· (first | omega | decide | assumption | fail | (simp; done) | (simp; omega)))
        refine RW.gd rfl rfl rfl ?_ rfl (LO.load_imm rfl rfl (gi_at1 x3 (by omega)) ty3 rfl) ?_; (· (first | rfl | assumption))
        refine RW.gd rfl rfl rfl ?_ rfl (LO.move rfl rfl) ?_; (· (first | rfl | assumption))
        refine RW.gd rfl rfl rfl ?_ rfl (LO.fieldAddr rfl rfl ty54 rfl (by decide)) ?_; (· (first | rfl | assumption))
        refine RW.gd rfl rfl rfl ?_ rfl (LO.load rfl rfl rfl rfl ty3 rfl) ?_; (· (first | rfl | assumption))
        refine RW.gd rfl rfl rfl ?_ rfl (LO.indexAddr_isl rfl rfl rfl rfl (Int.toNat_of_nonneg x1).symm ty26 ty3 ?_) ?_; (· (first | rfl | assumption)); (· (first | omega | decide | assumption | fail | (simp; done) | (simp; omega)))
        refine RW.gd rfl rfl rfl ?_ rfl (LO.load_imm rfl rfl (gi_at1 x1 (by omega)) ty3 rfl) ?_; (· (first | rfl | assumption))
        refine RW.gd rfl rfl rfl ?_ rfl (LO.sub_in rfl rfl rfl ?_) ?_; (· (first | rfl | assumption)); (· (first | exact IntWalk.i64_in _ (by omega) | assumption))
        refine RW.gd rfl rfl rfl ?_ rfl (LO.eql rfl rfl rfl) ?_; (· (first | rfl | assumption))
        refine RW.gd rfl rfl rfl ?_ rfl (LO.move rfl rfl) ?_; (· (first | rfl | assumption))
        refine RW.gd rfl rfl rfl ?_ rfl (LO.move rfl rfl) ?_; (· (first | rfl | assumption))
        refine RW.gd rfl rfl rfl ?_ rfl (LO.fieldAddr rfl rfl ty54 rfl (by decide)) ?_; (· (first | rfl | assumption))
        refine RW.gd rfl rfl rfl ?_ rfl (LO.load rfl rfl rfl rfl ty3 rfl) ?_; (· (first | rfl | assumption))
        refine RW.gd rfl rfl rfl ?_ rfl (LO.indexAddr_isl rfl rfl rfl rfl (Int.toNat_of_nonneg x3).symm ty26 ty3 ?_) ?_; (· (first | rfl | assumption)); (· (first | omega | decide | assumption | fail | (simp; done) | (simp; omega)))
        refine RW.gd rfl rfl rfl ?_ rfl (LO.load_imm rfl rfl (gi_at1 x3 (by omega)) ty3 rfl) ?_; (· (first | rfl | assumption))
        refine RW.gd rfl rfl rfl ?_ rfl (LO.geq rfl rfl rfl) ?_; (· (first | rfl | assumption))
        refine RW.gd rfl rfl rfl ?_ rfl (LO.pick_t rfl rfl ?_ rfl) ?_; (· (first | rfl | assumption)); (· (first | rfl | assumption))
        refine RW.opd rfl rfl (LO.pick_f rfl rfl ?_ rfl) ?_; (· (first | rfl | assumption))
        refine RW.opd rfl rfl (LO.indexAddr rfl rfl rfl (Int.toNat_of_nonneg x1).symm ty23 ty4 ?_) ?_; (· (first | omega | decide | assumption | fail | (simp; done) | (simp; omega)))
        refine RW.opn rfl rfl (LO.store rfl rfl rfl rfl rfl ty4 rfl (by decide) (bs_at x1 (by omega))) ?_
        refine RW.nil ⟨by kernel_rfl, ?_⟩
        obtain ⟨n1, hn1⟩ : ∃ n1, n1 = nr.set la.toNat (decide (gI (dist f tn) lb ≥ 0)) := ⟨_, rfl⟩
        rw [← hn1]
        have hok : okB (dist f tn) la lb → gB n1 la.toNat = true := fun h => by rw [hn1, gB_set (by omega), if_pos rfl]; exact decide_eq_true h.2
        have hkp : ∀ s, gB nr s = true → gB n1 s = true := fun s hs => by
          rw [hn1, gB_set (by omega)]; split
          · rename_i e; rw [e, e1] at hs; cases hs
          · exact hs
        have hn1l : n1.length = f.dead.length := by rw [hn1, List.length_set, hnl]
      case' inr.inr =>
        have e3 : (gI (dist f tn) lb == gI (dist f tn) la - 1) = false := by simpa using e2
        repeat (refine W.seq ?_)
        refine W.regionD 134 166 (by decide) rfl mixed rfl ?_
        refine RW.opd rfl rfl (LO.move rfl rfl) ?_
        refine RW.opd rfl rfl (LO.fieldAddr rfl rfl ty54 rfl (by decide)) ?_
        refine RW.opd rfl rfl (LO.load rfl rfl rfl rfl ty3 rfl) ?_
        refine RW.opd rfl rfl (LO.move rfl rfl) ?_
        refine RW.opd rfl rfl (LO.fieldAddr rfl rfl ty54 rfl (by decide)) ?_
        refine RW.opd rfl rfl (LO.load rfl rfl rfl rfl ty3 rfl) ?_
        refine RW.opd rfl rfl (LO.indexAddr rfl rfl rfl (Int.toNat_of_nonneg x1).symm ty23 ty4 ?_) ?_; (· (first | omega | decide | assumption | fail | (simp; done) | (simp; omega)))
        refine RW.opd rfl rfl (LO.load rfl rfl rfl (bg_at x1 (by omega)) ty4 rfl) ?_
        refine RW.opd rfl rfl (LO.move rfl rfl) ?_
        refine RW.gd rfl rfl rfl ?_ rfl (LO.move rfl rfl) ?_; (· (first | rfl | assumption))
        refine RW.gd rfl rfl rfl ?_ rfl (LO.fieldAddr rfl rfl ty54 rfl (by decide)) ?_; (· (first | rfl | assumption))
        refine RW.gd rfl rfl rfl ?_ rfl (LO.load rfl rfl rfl rfl ty3 rfl) ?_; (· (first | rfl | assumption))
        refine RW.gd rfl rfl rfl ?_ rfl (LO.indexAddr_isl rfl rfl rfl rfl (Int.toNat_of_nonneg x3).symm ty26 ty3 ?_) ?_; (· (first | rfl | assumption)); (· (first | omega | decide | assumption | fail | (simp; done) | (simp; omega)))
        refine RW.gd rfl rfl rfl ?_ rfl (LO.load_imm rfl rfl (gi_at1 x3 (by omega)) ty3 rfl) ?_; (· (first | rfl | assumption))
        refine RW.gd rfl rfl rfl ?_ rfl (LO.move rfl rfl) ?_; (· (first | rfl | assumption))
        refine RW.gd rfl rfl rfl ?_ rfl (LO.fieldAddr rfl rfl ty54 rfl (by decide)) ?_; (· (first | rfl | assumption))
        refine RW.gd rfl rfl rfl ?_ rfl (LO.load rfl rfl rfl rfl ty3 rfl) ?_; (· (first | rfl | assumption))
        refine RW.gd rfl rfl rfl ?_ rfl (LO.indexAddr_isl rfl rfl rfl rfl (Int.toNat_of_nonneg x1).symm ty26 ty3 ?_) ?_; (· (first | rfl | assumption)); (· (first | omega | decide | assumption | fail | (simp; done) | (simp; omega)))
        refine RW.gd rfl rfl rfl ?_ rfl (LO.load_imm rfl rfl (gi_at1 x1 (by omega)) ty3 rfl) ?_; (· (first | rfl | assumption))
        refine RW.gd rfl rfl rfl ?_ rfl (LO.sub_in rfl rfl rfl ?_) ?_; (· (first | rfl | assumption)); (· (first | exact IntWalk.i64_in _ (by omega) | assumption))
        refine RW.gd rfl rfl rfl ?_ rfl (LO.eql rfl rfl rfl) ?_; (· (first | rfl | assumption))
        refine RW.gd rfl rfl rfl ?_ rfl (LO.move rfl rfl) ?_; (· (first | rfl | assumption))
        refine RW.sd rfl rfl rfl ?_ rfl ?_; (· (first | rfl | assumption))
        refine RW.sd rfl rfl rfl ?_ rfl ?_; (· (first | rfl | assumption))
        refine RW.sd rfl rfl rfl ?_ rfl ?_; (· (first | rfl | assumption))
        refine RW.sd rfl rfl rfl ?_ rfl ?_; (· (first | rfl | assumption))
        refine RW.sd rfl rfl rfl ?_ rfl ?_; (· (first | rfl | assumption))
        refine RW.sd rfl rfl rfl ?_ rfl ?_; (· (first | rfl | assumption))
        refine RW.gd rfl rfl rfl ?_ rfl (LO.pick_f rfl rfl ?_ rfl) ?_; (· (first | rfl | assumption)); (· (first | rfl | assumption))
        refine RW.opd rfl rfl (LO.pick_f rfl rfl ?_ rfl) ?_; (· (first | rfl | assumption))
        refine RW.opd rfl rfl (LO.indexAddr rfl rfl rfl (Int.toNat_of_nonneg x1).symm ty23 ty4 ?_) ?_; (· (first | omega | decide | assumption | fail | (simp; done) | (simp; omega)))
        refine RW.opn rfl rfl (LO.store rfl rfl rfl rfl rfl ty4 rfl (by decide) (bs_at x1 (by omega))) ?_
        refine RW.nil ⟨by kernel_rfl, ?_⟩
        obtain ⟨n1, hn1⟩ : ∃ n1, n1 = nr.set la.toNat false := ⟨_, rfl⟩
        rw [← hn1]
        have hok : okB (dist f tn) la lb → gB n1 la.toNat = true := fun h => absurd h.1 e2
        have hkp : ∀ s, gB nr s = true → gB n1 s = true := fun s hs => by
          rw [hn1, gB_set (by omega)]; split
          · rename_i e; rw [e, e1] at hs; cases hs
          · exact hs
        have hn1l : n1.length = f.dead.length := by rw [hn1, List.length_set, hnl]
      all_goals
        have hnext : ∀ n2 : List Bool, (okB (dist f tn) lb la → gB n2 lb.toNat = true) → (∀ s, gB n1 s = true → gB n2 s = true) → NearI f (dist f tn) (i + 1) n2 := fun n2 h1 h2 j l hj hl hW => by
          by_cases e : j = i
          · subst e
            rw [hl2] at hl
            injection hl with hl
            subst hl
            exact ⟨fun h => h2 _ (hok h), fun h => h1 h⟩
          · have := hnr j l (by omega) hl hW
            exact ⟨fun h => h2 _ (hkp _ (this.1 h)), fun h => h2 _ (hkp _ (this.2 h))⟩
        rcases (show gB n1 lb.toNat = true ∨ (gB n1 lb.toNat = false ∧ gI (dist f tn) la = gI (dist f tn) lb - 1) ∨ (gB n1 lb.toNat = false ∧ ¬ gI (dist f tn) la = gI (dist f tn) lb - 1) by cases gB n1 lb.toNat <;> simp <;> omega) with c1 | ⟨c1, c2⟩ | ⟨c1, c2⟩
        ·
          repeat (refine W.seq ?_)
          refine W.regionD 170 202 (by decide) rfl mixed rfl ?_
          refine RW.opd rfl rfl (LO.move rfl rfl) ?_
          refine RW.opd rfl rfl (LO.fieldAddr rfl rfl ty54 rfl (by decide)) ?_
          refine RW.opd rfl rfl (LO.load rfl rfl rfl rfl ty3 rfl) ?_
          refine RW.opd rfl rfl (LO.move rfl rfl) ?_
          refine RW.opd rfl rfl (LO.fieldAddr rfl rfl ty54 rfl (by decide)) ?_
          refine RW.opd rfl rfl (LO.load rfl rfl rfl rfl ty3 rfl) ?_
          refine RW.opd rfl rfl (LO.indexAddr rfl rfl rfl (Int.toNat_of_nonneg x3).symm ty23 ty4 ?_) ?_; (· (first | omega | decide | assumption | fail | (simp; done) | (simp; omega)))
          refine RW.opd rfl rfl (LO.load rfl rfl rfl (bg_at x3 (by omega)) ty4 rfl) ?_
          refine RW.opd rfl rfl (LO.move rfl rfl) ?_
          refine RW.sd rfl rfl rfl ?_ rfl ?_; (· (first | rfl | assumption))
          refine RW.sd rfl rfl rfl ?_ rfl ?_; (· (first | rfl | assumption))
          refine RW.sd rfl rfl rfl ?_ rfl ?_; (· (first | rfl | assumption))
          refine RW.sd rfl rfl rfl ?_ rfl ?_; (· (first | rfl | assumption))
          refine RW.sd rfl rfl rfl ?_ rfl ?_; (· (first | rfl | assumption))
          refine RW.sd rfl rfl rfl ?_ rfl ?_; (· (first | rfl | assumption))
          refine RW.sd rfl rfl rfl ?_ rfl ?_; (· (first | rfl | assumption))
          refine RW.sd rfl rfl rfl ?_ rfl ?_; (· (first | rfl | assumption))
          refine RW.sd rfl rfl rfl ?_ rfl ?_; (· (first | rfl | assumption))
          refine RW.sd rfl rfl rfl ?_ rfl ?_; (· (first | rfl | assumption))
          refine RW.sd rfl rfl rfl ?_ rfl ?_; (· (first | rfl | assumption))
          refine RW.sd rfl rfl rfl ?_ rfl ?_; (· (first | rfl | assumption))
          refine RW.sd rfl rfl rfl ?_ rfl ?_; (· (first | rfl | assumption))
          refine RW.ud rfl rfl rfl rfl ?_
          refine RW.ud rfl rfl rfl rfl ?_
          refine RW.ud rfl rfl rfl rfl ?_
          refine RW.ud rfl rfl rfl rfl ?_
          refine RW.ud rfl rfl rfl rfl ?_
          refine RW.ud rfl rfl rfl rfl ?_
          refine RW.sd rfl rfl rfl ?_ rfl ?_; (· (first | rfl | assumption))
          refine RW.opd rfl rfl (LO.pick_t rfl rfl ?_ rfl) ?_; (· (first | rfl | assumption))
          refine RW.opd rfl rfl (LO.indexAddr rfl rfl rfl (Int.toNat_of_nonneg x3).symm ty23 ty4 ?_) ?_; (· (first | omega | decide | assumption | fail | (simp; done) | (simp; omega)))
          refine RW.opn rfl rfl (LO.store rfl rfl rfl rfl rfl ty4 rfl (by decide) (bs_at x3 (by omega))) ?_
          refine RW.nil ⟨by kernel_rfl, ?_⟩
          repeat (refine W.seq ?_)
          refine W.region 206 208 (by decide) rfl rfl ?_
          refine RW.opd rfl rfl (LO.add_in rfl rfl rfl ?_) ?_; (· (first | exact IntWalk.i64_in _ (by omega) | assumption))
          refine RW.opd rfl rfl (LO.move rfl rfl) ?_
          refine RW.nil ?_
          refine WL.rename [(0, 0), (1, 1)] 2 (by decide) ?_ ?_ (ihA ((i + 1), (n1.set lb.toNat true)) (show f.links.length - (i + 1) < f.links.length - i from by omega) (show (i + 1) ≤ f.links.length ∧ (n1.set lb.toNat true).length = f.dead.length ∧ NearI f (dist f tn) (i + 1) (n1.set lb.toNat true) from ⟨by omega, by rw [List.length_set, hn1l], hnext _ (fun _ => by rw [gB_set (by omega), if_pos rfl]) (gB_keep (by omega) fun _ => rfl)⟩))
          · (repeat' (first | exact all_mt | refine all_up ?_ ?_)) <;> first | exact .inl ⟨rfl, rfl⟩ | exact .inr ⟨rfl, fun _ h => by cases h⟩ | exact .inl ⟨rfl, by first | rfl | assumption | exact (intsC_pure _) | exact (boolsC_pure _)⟩
          · (repeat' (first | exact all_mt | refine all_up ?_ ?_)) <;> first | exact ⟨rfl, _, rfl, .inr ⟨rfl, rfl⟩⟩ | exact ⟨rfl, _, rfl, .inl rfl⟩ | exact ⟨rfl, _, rfl, .inr ⟨rfl, by first | rfl | assumption | exact (intsC_pure _) | exact (boolsC_pure _)⟩⟩
        · have c3 : (gI (dist f tn) la == gI (dist f tn) lb - 1) = true := by simpa using c2
          repeat (refine W.seq ?_)
          refine W.regionD 170 202 (by decide) rfl mixed rfl ?_
          refine RW.opd rfl rfl (LO.move rfl rfl) ?_
          refine RW.opd rfl rfl (LO.fieldAddr rfl rfl ty54 rfl (by decide)) ?_
          refine RW.opd rfl rfl (LO.load rfl rfl rfl rfl ty3 rfl) ?_
          refine RW.opd rfl rfl (LO.move rfl rfl) ?_
          refine RW.opd rfl rfl (LO.fieldAddr rfl rfl ty54 rfl (by decide)) ?_
          refine RW.opd rfl rfl (LO.load rfl rfl rfl rfl ty3 rfl) ?_
          refine RW.opd rfl rfl (LO.indexAddr rfl rfl rfl (Int.toNat_of_nonneg x3).symm ty23 ty4 ?_) ?_; (· (first | omega | decide | assumption | fail | (simp; done) | (simp; omega)))
          refine RW.opd rfl rfl (LO.load rfl rfl rfl (bg_at x3 (by omega)) ty4 rfl) ?_
          refine RW.opd rfl rfl (LO.move rfl rfl) ?_
          refine RW.gd rfl rfl rfl ?_ rfl (LO.move rfl rfl) ?_; (· (first | rfl | assumption))
          refine RW.gd rfl rfl rfl ?_ rfl (LO.fieldAddr rfl rfl ty54 rfl (by decide)) ?_; (· (first | rfl | assumption))
          refine RW.gd rfl rfl rfl ?_ rfl (LO.load rfl rfl rfl rfl ty3 rfl) ?_; (· (first | rfl | assumption))
          refine RW.gd rfl rfl rfl ?_ rfl (LO.indexAddr_isl rfl rfl rfl rfl (Int.toNat_of_nonneg x1).symm ty26 ty3 ?_) ?_; (· (first | rfl | assumption)); (· (first | omega | decide | assumption | fail | (simp; done) | (simp; omega)))
          refine RW.gd rfl rfl rfl ?_ rfl (LO.load_imm rfl rfl (gi_at1 x1 (by omega)) ty3 rfl) ?_; (· (first | rfl | assumption))
          refine RW.gd rfl rfl rfl ?_ rfl (LO.move rfl rfl) ?_; (· (first | rfl | assumption))
          refine RW.gd rfl rfl rfl ?_ rfl (LO.fieldAddr rfl rfl ty54 rfl (by decide)) ?_; (· (first | rfl | assumption))
          refine RW.gd rfl rfl rfl ?_ rfl (LO.load rfl rfl rfl rfl ty3 rfl) ?_; (· (first | rfl | assumption))
          refine RW.gd rfl rfl rfl ?_ rfl (LO.indexAddr_isl rfl rfl rfl rfl (Int.toNat_of_nonneg x3).symm ty26 ty3 ?_) ?_; (· (first | rfl | assumption)); (· (first | omega | decide | assumption | fail | (simp; done) | (simp; omega)))
          refine RW.gd rfl rfl rfl ?_ rfl (LO.load_imm rfl rfl (gi_at1 x3 (by omega)) ty3 rfl) ?_; (· (first | rfl | assumption))
          refine RW.gd rfl rfl rfl ?_ rfl (LO.sub_in rfl rfl rfl ?_) ?_; (· (first | rfl | assumption)); (· (first | exact IntWalk.i64_in _ (by omega) | assumption))
          refine RW.gd rfl rfl rfl ?_ rfl (LO.eql rfl rfl rfl) ?_; (· (first | rfl | assumption))
          refine RW.gd rfl rfl rfl ?_ rfl (LO.move rfl rfl) ?_; (· (first | rfl | assumption))
          refine RW.gd rfl rfl rfl ?_ rfl (LO.move rfl rfl) ?_; (· (first | rfl | assumption))
          refine RW.gd rfl rfl rfl ?_ rfl (LO.fieldAddr rfl rfl ty54 rfl (by decide)) ?_; (· (first | rfl | assumption))
          refine RW.gd rfl rfl rfl ?_ rfl (LO.load rfl rfl rfl rfl ty3 rfl) ?_; (· (first | rfl | assumption))
          refine RW.gd rfl rfl rfl ?_ rfl (LO.indexAddr_isl rfl rfl rfl rfl (Int.toNat_of_nonneg x1).symm ty26 ty3 ?_) ?_; (· (first | rfl | assumption)); (· (first | omega | decide | assumption | fail | (simp; done) | (simp; omega)))
          refine RW.gd rfl rfl rfl ?_ rfl (LO.load_imm rfl rfl (gi_at1 x1 (by omega)) ty3 rfl) ?_; (· (first | rfl | assumption))
          refine RW.gd rfl rfl rfl ?_ rfl (LO.geq rfl rfl rfl) ?_; (· (first | rfl | assumption))
          refine RW.gd rfl rfl rfl ?_ rfl (LO.pick_t rfl rfl ?_ rfl) ?_; (· (first | rfl | assumption)); (· (first | rfl | assumption))
          refine RW.opd rfl rfl (LO.pick_f rfl rfl ?_ rfl) ?_; (· (first | rfl | assumption))
          refine RW.opd rfl rfl (LO.indexAddr rfl rfl rfl (Int.toNat_of_nonneg x3).symm ty23 ty4 ?_) ?_; (· (first | omega | decide | assumption | fail | (simp; done) | (simp; omega)))
          refine RW.opn rfl rfl (LO.store rfl rfl rfl rfl rfl ty4 rfl (by decide) (bs_at x3 (by omega))) ?_
          refine RW.nil ⟨by kernel_rfl, ?_⟩
          repeat (refine W.seq ?_)
          refine W.region 206 208 (by decide) rfl rfl ?_
          refine RW.opd rfl rfl (LO.add_in rfl rfl rfl ?_) ?_; (· (first | exact IntWalk.i64_in _ (by omega) | assumption))
          refine RW.opd rfl rfl (LO.move rfl rfl) ?_
          refine RW.nil ?_
          refine WL.rename [(0, 0), (1, 1)] 2 (by decide) ?_ ?_ (ihA ((i + 1), (n1.set lb.toNat (decide (gI (dist f tn) la ≥ 0)))) (show f.links.length - (i + 1) < f.links.length - i from by omega) (show (i + 1) ≤ f.links.length ∧ (n1.set lb.toNat (decide (gI (dist f tn) la ≥ 0))).length = f.dead.length ∧ NearI f (dist f tn) (i + 1) (n1.set lb.toNat (decide (gI (dist f tn) la ≥ 0))) from ⟨by omega, by rw [List.length_set, hn1l], hnext _ (fun h => by rw [gB_set (by omega), if_pos rfl]; exact decide_eq_true h.2) (gB_keep (by omega) fun h => by rw [c1] at h; cases h)⟩))
          · (repeat' (first | exact all_mt | refine all_up ?_ ?_)) <;> first | exact .inl ⟨rfl, rfl⟩ | exact .inr ⟨rfl, fun _ h => by cases h⟩ | exact .inl ⟨rfl, by first | rfl | assumption | exact (intsC_pure _) | exact (boolsC_pure _)⟩
          · (repeat' (first | exact all_mt | refine all_up ?_ ?_)) <;> first | exact ⟨rfl, _, rfl, .inr ⟨rfl, rfl⟩⟩ | exact ⟨rfl, _, rfl, .inl rfl⟩ | exact ⟨rfl, _, rfl, .inr ⟨rfl, by first | rfl | assumption | exact (intsC_pure _) | exact (boolsC_pure _)⟩⟩
        · have c3 : (gI (dist f tn) la == gI (dist f tn) lb - 1) = false := by simpa using c2
          repeat (refine W.seq ?_)
          refine W.regionD 170 202 (by decide) rfl mixed rfl ?_
          refine RW.opd rfl rfl (LO.move rfl rfl) ?_
          refine RW.opd rfl rfl (LO.fieldAddr rfl rfl ty54 rfl (by decide)) ?_
          refine RW.opd rfl rfl (LO.load rfl rfl rfl rfl ty3 rfl) ?_
          refine RW.opd rfl rfl (LO.move rfl rfl) ?_
          refine RW.opd rfl rfl (LO.fieldAddr rfl rfl ty54 rfl (by decide)) ?_
          refine RW.opd rfl rfl (LO.load rfl rfl rfl rfl ty3 rfl) ?_
          refine RW.opd rfl rfl (LO.indexAddr rfl rfl rfl (Int.toNat_of_nonneg x3).symm ty23 ty4 ?_) ?_; (· (first | omega | decide | assumption | fail | (simp; done) | (simp; omega)))
          refine RW.opd rfl rfl (LO.load rfl rfl rfl (bg_at x3 (by omega)) ty4 rfl) ?_
          refine RW.opd rfl rfl (LO.move rfl rfl) ?_
          refine RW.gd rfl rfl rfl ?_ rfl (LO.move rfl rfl) ?_; (· (first | rfl | assumption))
          refine RW.gd rfl rfl rfl ?_ rfl (LO.fieldAddr rfl rfl ty54 rfl (by decide)) ?_; (· (first | rfl | assumption))
          refine RW.gd rfl rfl rfl ?_ rfl (LO.load rfl rfl rfl rfl ty3 rfl) ?_; (· (first | rfl | assumption))
          refine RW.gd rfl rfl rfl ?_ rfl (LO.indexAddr_isl rfl rfl rfl rfl (Int.toNat_of_nonneg x1).symm ty26 ty3 ?_) ?_; (· (first | rfl | assumption)); (· (first | omega | decide | assumption | fail | (simp; done) | (simp; omega)))
          refine RW.gd rfl rfl rfl ?_ rfl (LO.load_imm rfl rfl (gi_at1 x1 (by omega)) ty3 rfl) ?_; (· (first | rfl | assumption))
          refine RW.gd rfl rfl rfl ?_ rfl (LO.move rfl rfl) ?_; (· (first | rfl | assumption))
          refine RW.gd rfl rfl rfl ?_ rfl (LO.fieldAddr rfl rfl ty54 rfl (by decide)) ?_; (· (first | rfl | assumption))
          refine RW.gd rfl rfl rfl ?_ rfl (LO.load rfl rfl rfl rfl ty3 rfl) ?_; (· (first | rfl | assumption))
          refine RW.gd rfl rfl rfl ?_ rfl (LO.indexAddr_isl rfl rfl rfl rfl (Int.toNat_of_nonneg x3).symm ty26 ty3 ?_) ?_; (· (first | rfl | assumption)); (· (first | omega | decide | assumption | fail | (simp; done) | (simp; omega)))
          refine RW.gd rfl rfl rfl ?_ rfl (LO.load_imm rfl rfl (gi_at1 x3 (by omega)) ty3 rfl) ?_; (· (first | rfl | assumption))
          refine RW.gd rfl rfl rfl ?_ rfl (LO.sub_in rfl rfl rfl ?_) ?_; (· (first | rfl | assumption)); (· (first | exact IntWalk.i64_in _ (by omega) | assumption))
          refine RW.gd rfl rfl rfl ?_ rfl (LO.eql rfl rfl rfl) ?_; (· (first | rfl | assumption))
          refine RW.gd rfl rfl rfl ?_ rfl (LO.move rfl rfl) ?_; (· (first | rfl | assumption))
          refine RW.sd rfl rfl rfl ?_ rfl ?_; (· (first | rfl | assumption))
          refine RW.sd rfl rfl rfl ?_ rfl ?_; (· (first | rfl | assumption))
          refine RW.sd rfl rfl rfl ?_ rfl ?_; (· (first | rfl | assumption))
          refine RW.sd rfl rfl rfl ?_ rfl ?_; (· (first | rfl | assumption))
          refine RW.sd rfl rfl rfl ?_ rfl ?_; (· (first | rfl | assumption))
          refine RW.sd rfl rfl rfl ?_ rfl ?_; (· (first | rfl | assumption))
          refine RW.gd rfl rfl rfl ?_ rfl (LO.pick_f rfl rfl ?_ rfl) ?_; (· (first | rfl | assumption)); (· (first | rfl | assumption))
          refine RW.opd rfl rfl (LO.pick_f rfl rfl ?_ rfl) ?_; (· (first | rfl | assumption))
          refine RW.opd rfl rfl (LO.indexAddr rfl rfl rfl (Int.toNat_of_nonneg x3).symm ty23 ty4 ?_) ?_; (· (first | omega | decide | assumption | fail | (simp; done) | (simp; omega)))
          refine RW.opn rfl rfl (LO.store rfl rfl rfl rfl rfl ty4 rfl (by decide) (bs_at x3 (by omega))) ?_
          refine RW.nil ⟨by kernel_rfl, ?_⟩
          repeat (refine W.seq ?_)
          refine W.region 206 208 (by decide) rfl rfl ?_
          refine RW.opd rfl rfl (LO.add_in rfl rfl rfl ?_) ?_; (· (first | exact IntWalk.i64_in _ (by omega) | assumption))
          refine RW.opd rfl rfl (LO.move rfl rfl) ?_
          refine RW.nil ?_
          refine WL.rename [(0, 0), (1, 1)] 2 (by decide) ?_ ?_ (ihA ((i + 1), (n1.set lb.toNat false)) (show f.links.length - (i + 1) < f.links.length - i from by omega) (show (i + 1) ≤ f.links.length ∧ (n1.set lb.toNat false).length = f.dead.length ∧ NearI f (dist f tn) (i + 1) (n1.set lb.toNat false) from ⟨by omega, by rw [List.length_set, hn1l], hnext _ (fun h => absurd h.1 c2) (gB_keep (by omega) fun h => by rw [c1] at h; cases h)⟩))
          · (repeat' (first | exact all_mt | refine all_up ?_ ?_)) <;> first | exact .inl ⟨rfl, rfl⟩ | exact .inr ⟨rfl, fun _ h => by cases h⟩ | exact .inl ⟨rfl, by first | rfl | assumption | exact (intsC_pure _) | exact (boolsC_pure _)⟩
          · (repeat' (first | exact all_mt | refine all_up ?_ ?_)) <;> first | exact ⟨rfl, _, rfl, .inr ⟨rfl, rfl⟩⟩ | exact ⟨rfl, _, rfl, .inl rfl⟩ | exact ⟨rfl, _, rfl, .inr ⟨rfl, by first | rfl | assumption | exact (intsC_pure _) | exact (boolsC_pure _)⟩⟩
  · have g7 : decide ((i : Int) < (f.links.length : Int)) = false := decide_eq_false (by omega)
    repeat (refine W.seq ?_)
    refine W.region 61 62 (by decide) rfl rfl ?_
    refine RW.opd rfl rfl (LO.lss rfl rfl rfl) ?_
    refine RW.nil ?_
    repeat (refine W.seq ?_)
    refine W.cond_f rfl (by first | rfl | assumption) ?_
    refine W.exit ?_
    obtain rfl : i = f.links.length := by omega
    clear ihA
    repeat (refine W.seq ?_)
    refine W.region 212 215 (by decide) rfl rfl ?_
    refine RW.opd rfl rfl (LO.move rfl rfl) ?_
    refine RW.opd rfl rfl (LO.len_isl rfl rfl rfl ty26) ?_
    refine RW.opd rfl rfl (LO.move rfl rfl) ?_
    refine RW.nil ?_
    repeat (refine W.seq ?_)
    refine W.block ?_
    refine W.rename [(0, 0), (1, 1)] 2 (T' := up (up (up (up (up (up (up mt 5 (some (.own 0 0))) 6 (some (.base (.int .i64 (tn : Int))))) 7 (some (.isl (intsC (dist f tn)) f.dead.length))) 8 (some (.osl 1 0 f.dead.length 1))) 148 (some (.isl (intsC (dist f tn)) f.dead.length))) 149 (some (.base (.int .i64 (f.dead.length : Int))))) 150 (some (.base (.int .i64 (0 : Int))))) (H' := up (up mt 0 (some (fabC f))) 1 (some (boolsC nr))) (by decide) ?_ ?_ ?_
    · (repeat' (first | exact all_mt | refine all_up ?_ ?_)) <;> first | exact .inl ⟨rfl, rfl⟩ | exact .inr ⟨rfl, fun _ h => by cases h⟩ | exact .inl ⟨rfl, by first | rfl | assumption | exact (intsC_pure _) | exact (boolsC_pure _)⟩
    · (repeat' (first | exact all_mt | refine all_up ?_ ?_)) <;> first | exact ⟨rfl, _, rfl, .inr ⟨rfl, rfl⟩⟩ | exact ⟨rfl, _, rfl, .inl rfl⟩ | exact ⟨rfl, _, rfl, .inr ⟨rfl, by first | rfl | assumption | exact (intsC_pure _) | exact (boolsC_pure _)⟩⟩
    refine W.loop_ind (α := Nat) (fun x => f.dead.length - x) 2 (fun x => up (up (up (up (up (up (up mt 5 (some (.own 0 0))) 6 (some (.base (.int .i64 (tn : Int))))) 7 (some (.isl (intsC (dist f tn)) f.dead.length))) 8 (some (.osl 1 0 f.dead.length 1))) 148 (some (.isl (intsC (dist f tn)) f.dead.length))) 149 (some (.base (.int .i64 (f.dead.length : Int))))) 150 (some (.base (.int .i64 (x : Int))))) (fun x => up (up mt 0 (some (fabC f))) 1 (some (boolsC nr))) (fun x => x ≤ f.dead.length) 0 (show 0 ≤ f.dead.length from Nat.zero_le _) ?_
    rintro s hIB ihB
    try (dsimp only at hIB)
    try dsimp only
    by_cases hc3 : s < f.dead.length
    · have g8 : decide ((s : Int) < (f.dead.length : Int)) = true := decide_eq_true (by omega)
      have hdtl := hdl tn
      have hdsl := hdl s
      have hge := dist_ge f tn s
      have hz : gI (dist f tn) s = 0 → (s : Int) = tn := fun h => (dist_ok (dist_alive (f := f) (t := tn) (x := s) (by omega))).zero s h
      have hdead : gB f.dead s = true → gI (dist f tn) s = -1 := fun h => by
        rcases Int.lt_or_le (gI (dist f tn) s) 0 with h1 | h1
        · omega
        · have := dist_alive2 h1
          rw [alive_gB hc3, h] at this; cases this
      have hpos : 0 < gI (dist f tn) s → gB nr s = true := hnr.done
      have hback : (gI (dist f s) tn != gI (dist f tn) s) = false := by rw [hsy]; simp
      have hne2 : ((f.dead.length : Int) != f.sw) = false := by rw [hdd]; simp
      repeat (refine W.seq ?_)
      refine W.region 219 220 (by decide) rfl rfl ?_
      refine RW.opd rfl rfl (LO.lss rfl rfl rfl) ?_
      refine RW.nil ?_
      repeat (refine W.seq ?_)
      refine W.cond_t rfl (by first | rfl | assumption) ?_
      refine W.skip ?_
      repeat (refine W.seq ?_)
      refine W.block ?_
      repeat (refine W.seq ?_)
      refine W.region 224 229 (by decide) rfl rfl ?_
      refine RW.opd rfl rfl (LO.move rfl rfl) ?_
      refine RW.opd rfl rfl (LO.indexAddr_isl rfl rfl rfl rfl rfl ty26 ty3 ?_) ?_; (· (first | omega | decide | assumption | fail | (simp; done) | (simp; omega)))
      refine RW.opd rfl rfl (LO.load_imm rfl rfl (ni_at1 (k := s) (by omega)) ty3 rfl) ?_
      refine RW.opd rfl rfl (LO.assign rfl rfl) ?_
      refine RW.opd rfl rfl (LO.assign rfl rfl) ?_
      refine RW.nil ?_
      have hcase : (0 < gI (dist f tn) s ∧ gB f.dead s = false) ∨ (gI (dist f tn) s = 0 ∧ gB f.dead s = false) ∨ (gI (dist f tn) s = -1 ∧ gB f.dead s = false) ∨ (gI (dist f tn) s = -1 ∧ gB f.dead s = true) := by
        cases h : gB f.dead s with
        | false => simp; omega
        | true => simp [hdead h]
      rcases hcase with ⟨h1, h2⟩ | ⟨h1, h2⟩ | ⟨h1, h2⟩ | ⟨h1, h2⟩
      · have k1 : decide (gI (dist f tn) s > 0) = true := decide_eq_true h1
        have k2 : (!gB nr s) = false := by rw [hpos h1]; rfl
        have k3 : (gI (dist f tn) s == 0) = false := by simp; omega
        repeat (refine W.seq ?_)
        refine W.region 233 262 (by decide) rfl rfl ?_
        refine RW.opd rfl rfl (LO.move rfl rfl) ?_
        refine RW.opd rfl rfl (LO.gtr rfl rfl rfl) ?_
        refine RW.opd rfl rfl (LO.move rfl rfl) ?_
        refine RW.gd rfl rfl rfl ?_ rfl (LO.move rfl rfl) ?_; (· (first | rfl | assumption))
        refine RW.gd rfl rfl rfl ?_ rfl (LO.move rfl rfl) ?_; (· (first | rfl | assumption))
        refine RW.gd rfl rfl rfl ?_ rfl (LO.indexAddr rfl rfl rfl rfl ty23 ty4 ?_) ?_; (· (first | rfl | assumption)); (· (first | omega | decide | assumption | fail | (simp; done) | (simp; omega)))
        refine RW.gd rfl rfl rfl ?_ rfl (LO.load rfl rfl rfl (bg_nat (k := s) (by omega)) ty4 rfl) ?_; (· (first | rfl | assumption))
        refine RW.gd rfl rfl rfl ?_ rfl (LO.not rfl rfl) ?_; (· (first | rfl | assumption))
        refine RW.opd rfl rfl (LO.pick_t rfl rfl ?_ rfl) ?_; (· (first | rfl | assumption))
        refine RW.opd rfl rfl (LO.move rfl rfl) ?_
        refine RW.gd rfl rfl rfl ?_ rfl (LO.move rfl rfl) ?_; (· (first | rfl | assumption))
        refine RW.gd rfl rfl rfl ?_ rfl (LO.eql rfl rfl rfl) ?_; (· (first | rfl | assumption))
        refine RW.gd rfl rfl rfl ?_ rfl (LO.move rfl rfl) ?_; (· (first | rfl | assumption))
        refine RW.sd rfl rfl rfl ?_ rfl ?_; (· (first | rfl | assumption))
        refine RW.sd rfl rfl rfl ?_ rfl ?_; (· (first | rfl | assumption))
        refine RW.sd rfl rfl rfl ?_ rfl ?_; (· (first | rfl | assumption))
        refine RW.gd rfl rfl rfl ?_ rfl (LO.pick_f rfl rfl ?_ rfl) ?_; (· (first | rfl | assumption)); (· (first | rfl | assumption))
        refine RW.opd rfl rfl (LO.pick_f rfl rfl ?_ rfl) ?_; (· (first | rfl | assumption))
        refine RW.opd rfl rfl (LO.move rfl rfl) ?_
        refine RW.gd rfl rfl rfl ?_ rfl (LO.fieldAddr rfl rfl ty25 rfl (by decide)) ?_; (· (first | rfl | assumption))
        refine RW.gd rfl rfl rfl ?_ rfl (LO.load rfl rfl rfl rfl ty23 rfl) ?_; (· (first | rfl | assumption))
        refine RW.gd rfl rfl rfl ?_ rfl (LO.move rfl rfl) ?_; (· (first | rfl | assumption))
        refine RW.gd rfl rfl rfl ?_ rfl (LO.indexAddr_isl rfl rfl rfl rfl rfl ty23 ty4 ?_) ?_; (· (first | rfl | assumption)); (· (first | omega | decide | assumption | fail | (simp; done) | (simp; omega)))
        refine RW.gd rfl rfl rfl ?_ rfl (LO.load_imm rfl rfl (bg_nat1 (k := s) (by omega)) ty4 rfl) ?_; (· (first | rfl | assumption))
        refine RW.gd rfl rfl rfl ?_ rfl (LO.move rfl rfl) ?_; (· (first | rfl | assumption))
        refine RW.sd rfl rfl rfl ?_ rfl ?_; (· (first | rfl | assumption))
        refine RW.sd rfl rfl rfl ?_ rfl ?_; (· (first | rfl | assumption))
        refine RW.gd rfl rfl rfl ?_ rfl (LO.pick_f rfl rfl ?_ rfl) ?_; (· (first | rfl | assumption)); (· (first | rfl | assumption))
        refine RW.opd rfl rfl (LO.pick_f rfl rfl ?_ rfl) ?_; (· (first | rfl | assumption))
        refine RW.nil ?_
        repeat (refine W.seq ?_)
        refine W.cond_f rfl (by first | rfl | assumption) ?_
        refine W.skip ?_
        repeat (refine W.seq ?_)
        refine W.region 271 275 (by decide) rfl rfl ?_
        refine RW.opd rfl rfl (LO.load_agg rfl rfl rfl ty25 rfl (Tk.lit rfl)) ?_
        refine RW.opd rfl rfl (LO.move rfl rfl) ?_
        refine RW.opd rfl rfl (LO.call0 (fr := []) rfl rfl (hds _) fok35 (.cons rfl (.pure rfl) (.cons rfl (.pure rfl) .nil)) rfl) ?_
        refine RW.opd rfl rfl (LO.assign rfl rfl) ?_
        refine RW.nil ?_
        repeat (refine W.seq ?_)
        refine W.region 279 292 (by decide) rfl rfl ?_
        refine RW.opd rfl rfl (LO.move rfl rfl) ?_
        refine RW.opd rfl rfl (LO.len_isl rfl rfl rfl ty26) ?_
        refine RW.opd rfl rfl (LO.fieldAddr rfl rfl ty25 rfl (by decide)) ?_
        refine RW.opd rfl rfl (LO.load rfl rfl rfl rfl ty3 rfl) ?_
        refine RW.opd rfl rfl (LO.neq rfl rfl rfl) ?_
        refine RW.opd rfl rfl (LO.move rfl rfl) ?_
        refine RW.gd rfl rfl rfl ?_ rfl (LO.move rfl rfl) ?_; (· (first | rfl | assumption))
        refine RW.gd rfl rfl rfl ?_ rfl (LO.move rfl rfl) ?_; (· (first | rfl | assumption))
        refine RW.gd rfl rfl rfl ?_ rfl (LO.indexAddr_isl rfl rfl rfl rfl rfl ty26 ty3 ?_) ?_; (· (first | rfl | assumption)); (· (first | omega | decide | assumption | fail | (simp; done) | (simp; omega)))
        refine RW.gd rfl rfl rfl ?_ rfl (LO.load_imm rfl rfl (ni_at1 (k := tn) (by omega)) ty3 rfl) ?_; (· (first | rfl | assumption))
        refine RW.gd rfl rfl rfl ?_ rfl (LO.move rfl rfl) ?_; (· (first | rfl | assumption))
        refine RW.gd rfl rfl rfl ?_ rfl (LO.neq rfl rfl rfl) ?_; (· (first | rfl | assumption))
        refine RW.opd rfl rfl (LO.pick_f rfl rfl ?_ rfl) ?_; (· (first | rfl | assumption))
        refine RW.nil ?_
        repeat (refine W.seq ?_)
        refine W.cond_f rfl (by first | rfl | assumption) ?_
        refine W.skip ?_
        repeat (refine W.seq ?_)
        refine W.region 301 303 (by decide) rfl rfl ?_
        refine RW.opd rfl rfl (LO.add_in rfl rfl rfl ?_) ?_; (· (first | exact IntWalk.i64_in _ (by omega) | assumption))
        refine RW.opd rfl rfl (LO.move rfl rfl) ?_
        refine RW.nil ?_
        refine WL.rename [(0, 0), (1, 1)] 2 (by decide) ?_ ?_ (ihB (s + 1) (show f.dead.length - (s + 1) < f.dead.length - s from by omega) (show (s + 1) ≤ f.dead.length from by omega))
        · (repeat' (first | exact all_mt | refine all_up ?_ ?_)) <;> first | exact .inl ⟨rfl, rfl⟩ | exact .inr ⟨rfl, fun _ h => by cases h⟩ | exact .inl ⟨rfl, by first | rfl | assumption | exact (intsC_pure _) | exact (boolsC_pure _)⟩
        · (repeat' (first | exact all_mt | refine all_up ?_ ?_)) <;> first | exact ⟨rfl, _, rfl, .inr ⟨rfl, rfl⟩⟩ | exact ⟨rfl, _, rfl, .inl rfl⟩ | exact ⟨rfl, _, rfl, .inr ⟨rfl, by first | rfl | assumption | exact (intsC_pure _) | exact (boolsC_pure _)⟩⟩
      · have k1 : decide (gI (dist f tn) s > 0) = false := decide_eq_false (by omega)
        have k3 : (gI (dist f tn) s == 0) = true := by simpa using h1
        have k4 : ((s : Int) != (tn : Int)) = false := by rw [hz h1]; simp
        repeat (refine W.seq ?_)
        refine W.region 233 262 (by decide) rfl rfl ?_
        refine RW.opd rfl rfl (LO.move rfl rfl) ?_
        refine RW.opd rfl rfl (LO.gtr rfl rfl rfl) ?_
        refine RW.opd rfl rfl (LO.move rfl rfl) ?_
        refine RW.sd rfl rfl rfl ?_ rfl ?_; (· (first | rfl | assumption))
        refine RW.sd rfl rfl rfl ?_ rfl ?_; (· (first | rfl | assumption))
        refine RW.sd rfl rfl rfl ?_ rfl ?_; (· (first | rfl | assumption))
        refine RW.sd rfl rfl rfl ?_ rfl ?_; (· (first | rfl | assumption))
        refine RW.sd rfl rfl rfl ?_ rfl ?_; (· (first | rfl | assumption))
        refine RW.opd rfl rfl (LO.pick_f rfl rfl ?_ rfl) ?_; (· (first | rfl | assumption))
        refine RW.opd rfl rfl (LO.move rfl rfl) ?_
        refine RW.gd rfl rfl rfl ?_ rfl (LO.move rfl rfl) ?_; (· (first | rfl | assumption))
        refine RW.gd rfl rfl rfl ?_ rfl (LO.eql rfl rfl rfl) ?_; (· (first | rfl | assumption))
        refine RW.gd rfl rfl rfl ?_ rfl (LO.move rfl rfl) ?_; (· (first | rfl | assumption))
        refine RW.gd rfl rfl rfl ?_ rfl (LO.move rfl rfl) ?_; (· (first | rfl | assumption))
        refine RW.gd rfl rfl rfl ?_ rfl (LO.move rfl rfl) ?_; (· (first | rfl | assumption))
        refine RW.gd rfl rfl rfl ?_ rfl (LO.neq rfl rfl rfl) ?_; (· (first | rfl | assumption))
        refine RW.gd rfl rfl rfl ?_ rfl (LO.pick_t rfl rfl ?_ rfl) ?_; (· (first | rfl | assumption)); (· (first | rfl | assumption))
        refine RW.opd rfl rfl (LO.pick_f rfl rfl ?_ rfl) ?_; (· (first | rfl | assumption))
        refine RW.opd rfl rfl (LO.move rfl rfl) ?_
        refine RW.gd rfl rfl rfl ?_ rfl (LO.fieldAddr rfl rfl ty25 rfl (by decide)) ?_; (· (first | rfl | assumption))
        refine RW.gd rfl rfl rfl ?_ rfl (LO.load rfl rfl rfl rfl ty23 rfl) ?_; (· (first | rfl | assumption))
        refine RW.gd rfl rfl rfl ?_ rfl (LO.move rfl rfl) ?_; (· (first | rfl | assumption))
        refine RW.gd rfl rfl rfl ?_ rfl (LO.indexAddr_isl rfl rfl rfl rfl rfl ty23 ty4 ?_) ?_; (· (first | rfl | assumption)); (· (first | omega | decide | assumption | fail | (simp; done) | (simp; omega)))
        refine RW.gd rfl rfl rfl ?_ rfl (LO.load_imm rfl rfl (bg_nat1 (k := s) (by omega)) ty4 rfl) ?_; (· (first | rfl | assumption))
        refine RW.gd rfl rfl rfl ?_ rfl (LO.move rfl rfl) ?_; (· (first | rfl | assumption))
        refine RW.sd rfl rfl rfl ?_ rfl ?_; (· (first | rfl | assumption))
        refine RW.sd rfl rfl rfl ?_ rfl ?_; (· (first | rfl | assumption))
        refine RW.gd rfl rfl rfl ?_ rfl (LO.pick_f rfl rfl ?_ rfl) ?_; (· (first | rfl | assumption)); (· (first | rfl | assumption))
        refine RW.opd rfl rfl (LO.pick_f rfl rfl ?_ rfl) ?_; (· (first | rfl | assumption))
        refine RW.nil ?_
        repeat (refine W.seq ?_)
        refine W.cond_f rfl (by first | rfl | assumption) ?_
        refine W.skip ?_
        repeat (refine W.seq ?_)
        refine W.region 271 275 (by decide) rfl rfl ?_
        refine RW.opd rfl rfl (LO.load_agg rfl rfl rfl ty25 rfl (Tk.lit rfl)) ?_
        refine RW.opd rfl rfl (LO.move rfl rfl) ?_
        refine RW.opd rfl rfl (LO.call0 (fr := []) rfl rfl (hds _) fok35 (.cons rfl (.pure rfl) (.cons rfl (.pure rfl) .nil)) rfl) ?_
        refine RW.opd rfl rfl (LO.assign rfl rfl) ?_
        refine RW.nil ?_
        repeat (refine W.seq ?_)
        refine W.region 279 292 (by decide) rfl rfl ?_
        refine RW.opd rfl rfl (LO.move rfl rfl) ?_
        refine RW.opd rfl rfl (LO.len_isl rfl rfl rfl ty26) ?_
        refine RW.opd rfl rfl (LO.fieldAddr rfl rfl ty25 rfl (by decide)) ?_
        refine RW.opd rfl rfl (LO.load rfl rfl rfl rfl ty3 rfl) ?_
        refine RW.opd rfl rfl (LO.neq rfl rfl rfl) ?_
        refine RW.opd rfl rfl (LO.move rfl rfl) ?_
        refine RW.gd rfl rfl rfl ?_ rfl (LO.move rfl rfl) ?_; (· (first | rfl | assumption))
        refine RW.gd rfl rfl rfl ?_ rfl (LO.move rfl rfl) ?_; (· (first | rfl | assumption))
        refine RW.gd rfl rfl rfl ?_ rfl (LO.indexAddr_isl rfl rfl rfl rfl rfl ty26 ty3 ?_) ?_; (· (first | rfl | assumption)); (· (first | omega | decide | assumption | fail | (simp; done) | (simp; omega)))
        refine RW.gd rfl rfl rfl ?_ rfl (LO.load_imm rfl rfl (ni_at1 (k := tn) (by omega)) ty3 rfl) ?_; (· (first | rfl | assumption))
        refine RW.gd rfl rfl rfl ?_ rfl (LO.move rfl rfl) ?_; (· (first | rfl | assumption))
        refine RW.gd rfl rfl rfl ?_ rfl (LO.neq rfl rfl rfl) ?_; (· (first | rfl | assumption))
        refine RW.opd rfl rfl (LO.pick_f rfl rfl ?_ rfl) ?_; (· (first | rfl | assumption))
        refine RW.nil ?_
        repeat (refine W.seq ?_)
        refine W.cond_f rfl (by first | rfl | assumption) ?_
        refine W.skip ?_
        repeat (refine W.seq ?_)
        refine W.region 301 303 (by decide) rfl rfl ?_
        refine RW.opd rfl rfl (LO.add_in rfl rfl rfl ?_) ?_; (· (first | exact IntWalk.i64_in _ (by omega) | assumption))
        refine RW.opd rfl rfl (LO.move rfl rfl) ?_
        refine RW.nil ?_
        refine WL.rename [(0, 0), (1, 1)] 2 (by decide) ?_ ?_ (ihB (s + 1) (show f.dead.length - (s + 1) < f.dead.length - s from by omega) (show (s + 1) ≤ f.dead.length from by omega))
        · (repeat' (first | exact all_mt | refine all_up ?_ ?_)) <;> first | exact .inl ⟨rfl, rfl⟩ | exact .inr ⟨rfl, fun _ h => by cases h⟩ | exact .inl ⟨rfl, by first | rfl | assumption | exact (intsC_pure _) | exact (boolsC_pure _)⟩
        · (repeat' (first | exact all_mt | refine all_up ?_ ?_)) <;> first | exact ⟨rfl, _, rfl, .inr ⟨rfl, rfl⟩⟩ | exact ⟨rfl, _, rfl, .inl rfl⟩ | exact ⟨rfl, _, rfl, .inr ⟨rfl, by first | rfl | assumption | exact (intsC_pure _) | exact (boolsC_pure _)⟩⟩
      · have k1 : decide (gI (dist f tn) s > 0) = false := decide_eq_false (by omega)
        have k3 : (gI (dist f tn) s == 0) = false := by simp; omega
        repeat (refine W.seq ?_)
        refine W.region 233 262 (by decide) rfl rfl ?_
        refine RW.opd rfl rfl (LO.move rfl rfl) ?_
        refine RW.opd rfl rfl (LO.gtr rfl rfl rfl) ?_
        refine RW.opd rfl rfl (LO.move rfl rfl) ?_
        refine RW.sd rfl rfl rfl ?_ rfl ?_; (· (first | rfl | assumption))
        refine RW.sd rfl rfl rfl ?_ rfl ?_; (· (first | rfl | assumption))
        refine RW.sd rfl rfl rfl ?_ rfl ?_; (· (first | rfl | assumption))
        refine RW.sd rfl rfl rfl ?_ rfl ?_; (· (first | rfl | assumption))
        refine RW.sd rfl rfl rfl ?_ rfl ?_; (· (first | rfl | assumption))
        refine RW.opd rfl rfl (LO.pick_f rfl rfl ?_ rfl) ?_; (· (first | rfl | assumption))
        refine RW.opd rfl rfl (LO.move rfl rfl) ?_
        refine RW.gd rfl rfl rfl ?_ rfl (LO.move rfl rfl) ?_; (· (first | rfl | assumption))
        refine RW.gd rfl rfl rfl ?_ rfl (LO.eql rfl rfl rfl) ?_; (· (first | rfl | assumption))
        refine RW.gd rfl rfl rfl ?_ rfl (LO.move rfl rfl) ?_; (· (first | rfl | assumption))
        refine RW.sd rfl rfl rfl ?_ rfl ?_; (· (first | rfl | assumption))
        refine RW.sd rfl rfl rfl ?_ rfl ?_; (· (first | rfl | assumption))
        refine RW.sd rfl rfl rfl ?_ rfl ?_; (· (first | rfl | assumption))
        refine RW.gd rfl rfl rfl ?_ rfl (LO.pick_f rfl rfl ?_ rfl) ?_; (· (first | rfl | assumption)); (· (first | rfl | assumption))
        refine RW.opd rfl rfl (LO.pick_f rfl rfl ?_ rfl) ?_; (· (first | rfl | assumption))
        refine RW.opd rfl rfl (LO.move rfl rfl) ?_
        refine RW.gd rfl rfl rfl ?_ rfl (LO.fieldAddr rfl rfl ty25 rfl (by decide)) ?_; (· (first | rfl | assumption))
        refine RW.gd rfl rfl rfl ?_ rfl (LO.load rfl rfl rfl rfl ty23 rfl) ?_; (· (first | rfl | assumption))
        refine RW.gd rfl rfl rfl ?_ rfl (LO.move rfl rfl) ?_; (· (first | rfl | assumption))
        refine RW.gd rfl rfl rfl ?_ rfl (LO.indexAddr_isl rfl rfl rfl rfl rfl ty23 ty4 ?_) ?_; (· (first | rfl | assumption)); (· (first | omega | decide | assumption | fail | (simp; done) | (simp; omega)))
        refine RW.gd rfl rfl rfl ?_ rfl (LO.load_imm rfl rfl (bg_nat1 (k := s) (by omega)) ty4 rfl) ?_; (· (first | rfl | assumption))
        refine RW.gd rfl rfl rfl ?_ rfl (LO.move rfl rfl) ?_; (· (first | rfl | assumption))
        refine RW.sd rfl rfl rfl ?_ rfl ?_; (· (first | rfl | assumption))
        refine RW.sd rfl rfl rfl ?_ rfl ?_; (· (first | rfl | assumption))
        refine RW.gd rfl rfl rfl ?_ rfl (LO.pick_f rfl rfl ?_ rfl) ?_; (· (first | rfl | assumption)); (· (first | rfl | assumption))
        refine RW.opd rfl rfl (LO.pick_f rfl rfl ?_ rfl) ?_; (· (first | rfl | assumption))
        refine RW.nil ?_
        repeat (refine W.seq ?_)
        refine W.cond_f rfl (by first | rfl | assumption) ?_
        refine W.skip ?_
        repeat (refine W.seq ?_)
        refine W.region 271 275 (by decide) rfl rfl ?_
        refine RW.opd rfl rfl (LO.load_agg rfl rfl rfl ty25 rfl (Tk.lit rfl)) ?_
        refine RW.opd rfl rfl (LO.move rfl rfl) ?_
        refine RW.opd rfl rfl (LO.call0 (fr := []) rfl rfl (hds _) fok35 (.cons rfl (.pure rfl) (.cons rfl (.pure rfl) .nil)) rfl) ?_
        refine RW.opd rfl rfl (LO.assign rfl rfl) ?_
        refine RW.nil ?_
        repeat (refine W.seq ?_)
        refine W.region 279 292 (by decide) rfl rfl ?_
        refine RW.opd rfl rfl (LO.move rfl rfl) ?_
        refine RW.opd rfl rfl (LO.len_isl rfl rfl rfl ty26) ?_
        refine RW.opd rfl rfl (LO.fieldAddr rfl rfl ty25 rfl (by decide)) ?_
        refine RW.opd rfl rfl (LO.load rfl rfl rfl rfl ty3 rfl) ?_
        refine RW.opd rfl rfl (LO.neq rfl rfl rfl) ?_
        refine RW.opd rfl rfl (LO.move rfl rfl) ?_
        refine RW.gd rfl rfl rfl ?_ rfl (LO.move rfl rfl) ?_; (· (first | rfl | assumption))
        refine RW.gd rfl rfl rfl ?_ rfl (LO.move rfl rfl) ?_; (· (first | rfl | assumption))
        refine RW.gd rfl rfl rfl ?_ rfl (LO.indexAddr_isl rfl rfl rfl rfl rfl ty26 ty3 ?_) ?_; (· (first | rfl | assumption)); (· (first | omega | decide | assumption | fail | (simp; done) | (simp; omega)))
        refine RW.gd rfl rfl rfl ?_ rfl (LO.load_imm rfl rfl (ni_at1 (k := tn) (by omega)) ty3 rfl) ?_; (· (first | rfl | assumption))
        refine RW.gd rfl rfl rfl ?_ rfl (LO.move rfl rfl) ?_; (· (first | rfl | assumption))
        refine RW.gd rfl rfl rfl ?_ rfl (LO.neq rfl rfl rfl) ?_; (· (first | rfl | assumption))
        refine RW.opd rfl rfl (LO.pick_f rfl rfl ?_ rfl) ?_; (· (first | rfl | assumption))
        refine RW.nil ?_
        repeat (refine W.seq ?_)
        refine W.cond_f rfl (by first | rfl | assumption) ?_
        refine W.skip ?_
        repeat (refine W.seq ?_)
        refine W.region 301 303 (by decide) rfl rfl ?_
        refine RW.opd rfl rfl (LO.add_in rfl rfl rfl ?_) ?_; (· (first | exact IntWalk.i64_in _ (by omega) | assumption))
        refine RW.opd rfl rfl (LO.move rfl rfl) ?_
        refine RW.nil ?_
        refine WL.rename [(0, 0), (1, 1)] 2 (by decide) ?_ ?_ (ihB (s + 1) (show f.dead.length - (s + 1) < f.dead.length - s from by omega) (show (s + 1) ≤ f.dead.length from by omega))
        · (repeat' (first | exact all_mt | refine all_up ?_ ?_)) <;> first | exact .inl ⟨rfl, rfl⟩ | exact .inr ⟨rfl, fun _ h => by cases h⟩ | exact .inl ⟨rfl, by first | rfl | assumption | exact (intsC_pure _) | exact (boolsC_pure _)⟩
        · (repeat' (first | exact all_mt | refine all_up ?_ ?_)) <;> first | exact ⟨rfl, _, rfl, .inr ⟨rfl, rfl⟩⟩ | exact ⟨rfl, _, rfl, .inl rfl⟩ | exact ⟨rfl, _, rfl, .inr ⟨rfl, by first | rfl | assumption | exact (intsC_pure _) | exact (boolsC_pure _)⟩⟩
      · have k1 : decide (gI (dist f tn) s > 0) = false := decide_eq_false (by omega)
        have k3 : (gI (dist f tn) s == 0) = false := by simp; omega
        have k4 : (gI (dist f tn) s != -1) = false := by rw [h1]; rfl
        repeat (refine W.seq ?_)
        refine W.region 233 262 (by decide) rfl rfl ?_
        refine RW.opd rfl rfl (LO.move rfl rfl) ?_
        refine RW.opd rfl rfl (LO.gtr rfl rfl rfl) ?_
        refine RW.opd rfl rfl (LO.move rfl rfl) ?_
        refine RW.sd rfl rfl rfl ?_ rfl ?_; (· (first | rfl | assumption))
        refine RW.sd rfl rfl rfl ?_ rfl ?_; (· (first | rfl | assumption))
        refine RW.sd rfl rfl rfl ?_ rfl ?_; (· (first | rfl | assumption))
        refine RW.sd rfl rfl rfl ?_ rfl ?_; (· (first | rfl | assumption))
        refine RW.sd rfl rfl rfl ?_ rfl ?_; (· (first | rfl | assumption))
        refine RW.opd rfl rfl (LO.pick_f rfl rfl ?_ rfl) ?_; (· (first | rfl | assumption))
        refine RW.opd rfl rfl (LO.move rfl rfl) ?_
        refine RW.gd rfl rfl rfl ?_ rfl (LO.move rfl rfl) ?_; (· (first | rfl | assumption))
        refine RW.gd rfl rfl rfl ?_ rfl (LO.eql rfl rfl rfl) ?_; (· (first | rfl | assumption))
        refine RW.gd rfl rfl rfl ?_ rfl (LO.move rfl rfl) ?_; (· (first | rfl | assumption))
        refine RW.sd rfl rfl rfl ?_ rfl ?_; (· (first | rfl | assumption))
        refine RW.sd rfl rfl rfl ?_ rfl ?_; (· (first | rfl | assumption))
        refine RW.sd rfl rfl rfl ?_ rfl ?_; (· (first | rfl | assumption))
        refine RW.gd rfl rfl rfl ?_ rfl (LO.pick_f rfl rfl ?_ rfl) ?_; (· (first | rfl | assumption)); (· (first | rfl | assumption))
        refine RW.opd rfl rfl (LO.pick_f rfl rfl ?_ rfl) ?_; (· (first | rfl | assumption))
        refine RW.opd rfl rfl (LO.move rfl rfl) ?_
        refine RW.gd rfl rfl rfl ?_ rfl (LO.fieldAddr rfl rfl ty25 rfl (by decide)) ?_; (· (first | rfl | assumption))
        refine RW.gd rfl rfl rfl ?_ rfl (LO.load rfl rfl rfl rfl ty23 rfl) ?_; (· (first | rfl | assumption))
        refine RW.gd rfl rfl rfl ?_ rfl (LO.move rfl rfl) ?_; (· (first | rfl | assumption))
        refine RW.gd rfl rfl rfl ?_ rfl (LO.indexAddr_isl rfl rfl rfl rfl rfl ty23 ty4 ?_) ?_; (· (first | rfl | assumption)); (· (first | omega | decide | assumption | fail | (simp; done) | (simp; omega)))
        refine RW.gd rfl rfl rfl ?_ rfl (LO.load_imm rfl rfl (bg_nat1 (k := s) (by omega)) ty4 rfl) ?_; (· (first | rfl | assumption))
        refine RW.gd rfl rfl rfl ?_ rfl (LO.move rfl rfl) ?_; (· (first | rfl | assumption))
        refine RW.gd rfl rfl rfl ?_ rfl (LO.move rfl rfl) ?_; (· (first | rfl | assumption))
        refine RW.gd rfl rfl rfl ?_ rfl (LO.neq rfl rfl rfl) ?_; (· (first | rfl | assumption))
        refine RW.gd rfl rfl rfl ?_ rfl (LO.pick_t rfl rfl ?_ rfl) ?_; (· (first | rfl | assumption)); (· (first | rfl | assumption))
        refine RW.opd rfl rfl (LO.pick_f rfl rfl ?_ rfl) ?_; (· (first | rfl | assumption))
        refine RW.nil ?_
        repeat (refine W.seq ?_)
        refine W.cond_f rfl (by first | rfl | assumption) ?_
        refine W.skip ?_
        repeat (refine W.seq ?_)
        refine W.region 271 275 (by decide) rfl rfl ?_
        refine RW.opd rfl rfl (LO.load_agg rfl rfl rfl ty25 rfl (Tk.lit rfl)) ?_
        refine RW.opd rfl rfl (LO.move rfl rfl) ?_
        refine RW.opd rfl rfl (LO.call0 (fr := []) rfl rfl (hds _) fok35 (.cons rfl (.pure rfl) (.cons rfl (.pure rfl) .nil)) rfl) ?_
        refine RW.opd rfl rfl (LO.assign rfl rfl) ?_
        refine RW.nil ?_
        repeat (refine W.seq ?_)
        refine W.region 279 292 (by decide) rfl rfl ?_
        refine RW.opd rfl rfl (LO.move rfl rfl) ?_
        refine RW.opd rfl rfl (LO.len_isl rfl rfl rfl ty26) ?_
        refine RW.opd rfl rfl (LO.fieldAddr rfl rfl ty25 rfl (by decide)) ?_
        refine RW.opd rfl rfl (LO.load rfl rfl rfl rfl ty3 rfl) ?_
        refine RW.opd rfl rfl (LO.neq rfl rfl rfl) ?_
        refine RW.opd rfl rfl (LO.move rfl rfl) ?_
        refine RW.gd rfl rfl rfl ?_ rfl (LO.move rfl rfl) ?_; (· (first | rfl | assumption))
        refine RW.gd rfl rfl rfl ?_ rfl (LO.move rfl rfl) ?_; (· (first | rfl | assumption))
        refine RW.gd rfl rfl rfl ?_ rfl (LO.indexAddr_isl rfl rfl rfl rfl rfl ty26 ty3 ?_) ?_; (· (first | rfl | assumption)); (· (first | omega | decide | assumption | fail | (simp; done) | (simp; omega)))
        refine RW.gd rfl rfl rfl ?_ rfl (LO.load_imm rfl rfl (ni_at1 (k := tn) (by omega)) ty3 rfl) ?_; (· (first | rfl | assumption))
        refine RW.gd rfl rfl rfl ?_ rfl (LO.move rfl rfl) ?_; (· (first | rfl | assumption))
        refine RW.gd rfl rfl rfl ?_ rfl (LO.neq rfl rfl rfl) ?_; (· (first | rfl | assumption))
        refine RW.opd rfl rfl (LO.pick_f rfl rfl ?_ rfl) ?_; (· (first | rfl | assumption))
        refine RW.nil ?_
        repeat (refine W.seq ?_)
        refine W.cond_f rfl (by first | rfl | assumption) ?_
        refine W.skip ?_
        repeat (refine W.seq ?_)
        refine W.region 301 303 (by decide) rfl rfl ?_
        refine RW.opd rfl rfl (LO.add_in rfl rfl rfl ?_) ?_; (· (first | exact IntWalk.i64_in _ (by omega) | assumption))
        refine RW.opd rfl rfl (LO.move rfl rfl) ?_
        refine RW.nil ?_
        refine WL.rename [(0, 0), (1, 1)] 2 (by decide) ?_ ?_ (ihB (s + 1) (show f.dead.length - (s + 1) < f.dead.length - s from by omega) (show (s + 1) ≤ f.dead.length from by omega))
        · (repeat' (first | exact all_mt | refine all_up ?_ ?_)) <;> first | exact .inl ⟨rfl, rfl⟩ | exact .inr ⟨rfl, fun _ h => by cases h⟩ | exact .inl ⟨rfl, by first | rfl | assumption | exact (intsC_pure _) | exact (boolsC_pure _)⟩
        · (repeat' (first | exact all_mt | refine all_up ?_ ?_)) <;> first | exact ⟨rfl, _, rfl, .inr ⟨rfl, rfl⟩⟩ | exact ⟨rfl, _, rfl, .inl rfl⟩ | exact ⟨rfl, _, rfl, .inr ⟨rfl, by first | rfl | assumption | exact (intsC_pure _) | exact (boolsC_pure _)⟩⟩
    · have g8 : decide ((s : Int) < (f.dead.length : Int)) = false := decide_eq_false (by omega)
      have hdtl := hdl tn
      repeat (refine W.seq ?_)
      refine W.region 219 220 (by decide) rfl rfl ?_
      refine RW.opd rfl rfl (LO.lss rfl rfl rfl) ?_
      refine RW.nil ?_
      repeat (refine W.seq ?_)
      refine W.cond_f rfl (by first | rfl | assumption) ?_
      refine W.exit ?_
      have hlast : ((gI (dist f tn) tn == 0) == !gB f.dead tn) = true := by
        rw [← alive_gB ht8]
        cases ha : aliveB f tn with
        | true => rw [dist_self ha]; rfl
        | false => rw [dist_none ha]; rfl
      repeat (refine W.seq ?_)
      refine W.regionD 307 323 (by decide) rfl mixed rfl ?_
      refine RW.opd rfl rfl (LO.move rfl rfl) ?_
      refine RW.opd rfl rfl (LO.move rfl rfl) ?_
      refine RW.opd rfl rfl (LO.indexAddr_isl rfl rfl rfl rfl rfl ty26 ty3 ?_) ?_; (· (first | omega | decide | assumption | fail | (simp; done) | (simp; omega)))
      refine RW.opd rfl rfl (LO.load_imm rfl rfl (ni_at1 (k := tn) (by omega)) ty3 rfl) ?_
      refine RW.opd rfl rfl (LO.eql rfl rfl rfl) ?_
      refine RW.opd rfl rfl (LO.fieldAddr rfl rfl ty25 rfl (by decide)) ?_
      refine RW.opd rfl rfl (LO.load rfl rfl rfl rfl ty23 rfl) ?_
      refine RW.opd rfl rfl (LO.move rfl rfl) ?_
      refine RW.opd rfl rfl (LO.indexAddr_isl rfl rfl rfl rfl rfl ty23 ty4 ?_) ?_; (· (first | omega | decide | assumption | fail | (simp; done) | (simp; omega)))
      refine RW.opd rfl rfl (LO.load_imm rfl rfl (bg_nat1 (k := tn) (by omega)) ty4 rfl) ?_
      refine RW.opd rfl rfl (LO.not rfl rfl) ?_
      refine RW.opd rfl rfl (LO.eql_bool rfl rfl rfl ty4) ?_
      refine RW.opd rfl rfl (LO.move rfl rfl) ?_
      refine RW.gd rfl rfl rfl ?_ rfl (LO.call0 (fr := []) rfl rfl (awake13_any) fok15 .nil rfl) ?_; (· (first | rfl | assumption))
      refine RW.opd rfl rfl (LO.pick_t rfl rfl ?_ rfl) ?_; (· (first | rfl | assumption))
      refine RW.opd rfl rfl (LO.assign rfl rfl) ?_
      refine RW.nil ⟨by kernel_rfl, ?_⟩
      repeat (refine W.seq ?_)
      refine W.ret ⟨.inl rfl, _, mt, RVs.cons (RV.tmp rfl) (RVs.nil), all_mt, ?_⟩
      exact ⟨rfl, rfl⟩
end Go.Proofs.Ythbdngfnbpkefaa
