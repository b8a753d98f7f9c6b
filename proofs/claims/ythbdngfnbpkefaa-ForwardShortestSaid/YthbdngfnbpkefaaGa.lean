/-
  FabricWays and FabricFlows return true.
-/
import Derived.Test.YthbdngfnbpkefaaFl
import Derived.Test.YthbdngfnbpkefaaFx
import Derived.Test.YthbdngfnbpkefaaFg
namespace Go.Proofs.Ythbdngfnbpkefaa
open Go.RowKit

theorem FabOK.fs {f : Fab} (h : FabOK f) : FabS f := ⟨h.dead.symm, by have := h.dead; have := h.sw7; omega, by have := h.nlinks; omega⟩
theorem FabOK.val {f : Fab} (h : FabOK f) : validB f = true := by
  unfold validB
  rw [Bool.and_eq_true]
  refine ⟨List.all_eq_true.2 fun x hx => ?_, ?_⟩
  · obtain ⟨h1, h2, h3, h4, h5, h6, h7⟩ := h.links x hx
    unfold lnkB
    simp only [Bool.and_eq_true, decide_eq_true_eq, Bool.not_eq_true', beq_eq_false_iff_ne]
    exact ⟨h1, h2, h3, h4, h5, h6, by omega⟩
  · have h1 := h.sw1
    have h2 := h.sw7
    have h3 := h.nlinks
    unfold sizeB
    simp only [Bool.and_eq_true, decide_eq_true_eq]
    exact ⟨h1, by omega, by omega, h.down, h.dead⟩
theorem FabOK.lk {f : Fab} (h : FabOK f) : LinksOK f := valid_links h.fs.n8 h.val
theorem FabOK.c1 {f : Fab} (h : FabOK f) : ∀ i l, f.links[i]? = some l → wkF f i = true → 1 ≤ l.c := fun i l hl _ => by
  obtain ⟨_, _, _, _, _, h6, _⟩ := h.links l (List.mem_of_getElem? hl)
  exact h6
theorem fabC_pure (f : Fab) : (fabC f).all AV.pure1 = true := rfl
theorem ways_law (l : List Int) (to : Int) (hl : l.length ≤ 9223372036854775807) : AFn Try.prog 11 0 [.isl (intsC l) l.length, .base (.int .i64 to)] mt (.base (.bool true)) mt := by
  refine AFn.eq Try.func11 rfl rfl (Nat.le_of_ble_eq_true rfl) ?_
  have hnew := new_any l
  obtain ⟨v, H', hcall, f, a1, ⟨hf, hsw⟩, rfl, rfl⟩ := fabric_any l 0 1 (by decide) (by decide) hl
  have hd := distances_isl f hf.fs
  have hdX := distancesX_isl f hf.fs
  have hp := parts_any f hf.fs
  have hpX := partsX_any f hf.fs
  rw [parts_eq] at hpX
  have hc := cuts_any f hf.fs
  have hcX := cutsX_any f hf.fs (by have := hf.down; have := hf.nlinks; omega)
  have hi := ints13_any
  have h8 := hf.fs.n8
  have h24 := hf.fs.nl
  repeat (refine W.seq ?_)
  refine W.region 0 1 (by decide) rfl rfl ?_
  refine RW.opd rfl rfl (LO.assign rfl rfl) ?_
  refine RW.nil ?_
  repeat (refine W.seq ?_)
  refine W.region 5 10 (by decide) rfl rfl ?_
  refine RW.opd rfl rfl (LO.move rfl rfl) ?_
  refine RW.opd rfl rfl (LO.callN (fr := []) rfl rfl (hnew) fok16 (.cons rfl (.pure rfl) .nil) rfl (by decide)) ?_
  refine RW.opd rfl rfl (LO.call1 (fr := []) rfl rfl (hcall) fok17 (.own rfl rfl (.cons rfl (.pure rfl) .nil)) rfl rfl rfl (List.cons_ne_nil _ _) (by decide) rfl) ?_
  refine RW.opd rfl rfl (LO.alloc rfl ty25) ?_
  refine RW.opn rfl rfl (LO.store rfl rfl rfl rfl rfl ty25 rfl (by decide) (Sp.lit rfl)) ?_
  refine RW.nil ?_
  repeat (refine W.seq ?_)
  refine W.region 14 21 (by decide) rfl rfl ?_
  refine RW.opd rfl rfl (LO.move rfl rfl) ?_
  refine RW.opd rfl rfl (LO.move rfl rfl) ?_
  refine RW.opd rfl rfl (LO.call0 (fr := []) rfl rfl (mod_any _ 10 (by decide) (by decide)) fok21 (.cons rfl (.pure rfl) (.cons rfl (.pure rfl) .nil)) rfl) ?_
  refine RW.opd rfl rfl (LO.sub_in rfl rfl rfl ?_) ?_; (· (first | exact IntWalk.i64_in _ (by omega) | assumption))
  refine RW.opd rfl rfl (LO.buildSlice rfl ty26 ty3 (by decide) (by decide) (.cons rfl rfl rfl rfl (Sp.lit rfl) (.cons rfl rfl rfl rfl (Sp.lit rfl) .nil))) ?_
  refine RW.opd rfl rfl (LO.len rfl rfl ty26) ?_
  refine RW.opd rfl rfl (LO.move rfl rfl) ?_
  refine RW.nil ?_
  have hi1 : ∀ t : Int, AFn Try.prog 37 0 [.isl (intsC (dist f t)) f.dead.length, .isl (intsC (dist f t)) f.dead.length] mt (.base (.bool true)) mt := fun t => by
    have := hi (dist f t) (dist f t) (by rw [dist_len]; omega)
    rw [dist_len] at this
    simpa using this
  repeat (refine W.seq ?_)
  refine W.block ?_
  refine W.rename [(0, 8), (1, 18)] 2 (T' := up (up (up (up mt 5 (some (.own 0 0))) 15 (some (.osl 1 0 2 1))) 16 (some (.base (.int .i64 2)))) 17 (some (.base (.int .i64 (0 : Int))))) (H' := up (up mt 0 (some (fabC f))) 1 (some (intsC [to, to % 10 - 1]))) (by decide) ?_ ?_ ?_
  · (repeat' (first | exact all_mt | refine all_up ?_ ?_)) <;> first | exact .inl ⟨rfl, rfl⟩ | exact .inr ⟨rfl, fun _ h => by cases h⟩ | exact .inl ⟨rfl, by first | rfl | assumption | exact (intsC_pure _)⟩
  · (repeat' (first | exact all_mt | refine all_up ?_ ?_)) <;> first | exact ⟨rfl, _, rfl, .inr ⟨rfl, rfl⟩⟩ | exact ⟨rfl, _, rfl, .inl rfl⟩ | exact ⟨rfl, _, rfl, .inr ⟨rfl, by first | rfl | assumption | exact (intsC_pure _)⟩⟩
  refine W.loop_ind (α := Nat) (fun x => 2 - x) 2 (fun x => up (up (up (up mt 5 (some (.own 0 0))) 15 (some (.osl 1 0 2 1))) 16 (some (.base (.int .i64 2)))) 17 (some (.base (.int .i64 (x : Int))))) (fun x => up (up mt 0 (some (fabC f))) 1 (some (intsC [to, to % 10 - 1]))) (fun x => x ≤ 2) 0 (show 0 ≤ 2 from Nat.zero_le _) ?_
  rintro i hIA ihA
  try (dsimp only at hIA)
  try dsimp only
  by_cases hc2 : i < 2
  · have g1 : decide ((i : Int) < 2) = true := decide_eq_true (by omega)
    repeat (refine W.seq ?_)
    refine W.region 25 26 (by decide) rfl rfl ?_
    refine RW.opd rfl rfl (LO.lss rfl rfl rfl) ?_
    refine RW.nil ?_
    repeat (refine W.seq ?_)
    refine W.cond_t rfl (by first | rfl | assumption) ?_
    refine W.skip ?_
    repeat (refine W.seq ?_)
    refine W.block ?_
    repeat (refine W.seq ?_)
    refine W.region 30 33 (by decide) rfl rfl ?_
    refine RW.opd rfl rfl (LO.indexAddr rfl rfl rfl rfl ty26 ty3 ?_) ?_; (· (first | omega | decide | assumption | fail | (simp; done) | (simp; omega)))
    refine RW.opd rfl rfl (LO.load rfl rfl rfl (ni_at (k := i) (by simpa using hc2)) ty3 rfl) ?_
    refine RW.opd rfl rfl (LO.assign rfl rfl) ?_
    refine RW.nil ?_
    repeat (refine W.seq ?_)
    refine W.regionD 37 45 (by decide) rfl mixed rfl ?_
    refine RW.opd rfl rfl (LO.load_agg rfl rfl rfl ty25 rfl (Tk.lit rfl)) ?_
    refine RW.opd rfl rfl (LO.move rfl rfl) ?_
    refine RW.opd rfl rfl (LO.call0 (fr := []) rfl rfl (hd _) fok35 (.cons rfl (.pure rfl) (.cons rfl (.pure rfl) .nil)) rfl) ?_
    refine RW.opd rfl rfl (LO.load_agg rfl rfl rfl ty25 rfl (Tk.lit rfl)) ?_
    refine RW.opd rfl rfl (LO.move rfl rfl) ?_
    refine RW.opd rfl rfl (LO.call0 (fr := []) rfl rfl (hdX _) fok34 (.cons rfl (.pure rfl) (.cons rfl (.pure rfl) .nil)) rfl) ?_
    refine RW.opd rfl rfl (LO.call0 (fr := []) rfl rfl (hi1 _) fok37 (.cons rfl (.pure rfl) (.cons rfl (.pure rfl) .nil)) rfl) ?_
    refine RW.opd rfl rfl (LO.not rfl rfl) ?_
    refine RW.nil ⟨by kernel_rfl, ?_⟩
    repeat (refine W.seq ?_)
    refine W.cond_f rfl (by first | rfl | assumption) ?_
    refine W.skip ?_
    repeat (refine W.seq ?_)
    refine W.region 54 56 (by decide) rfl rfl ?_
    refine RW.opd rfl rfl (LO.add_in rfl rfl rfl ?_) ?_; (· (first | exact IntWalk.i64_in _ (by omega) | assumption))
    refine RW.opd rfl rfl (LO.move rfl rfl) ?_
    refine RW.nil ?_
    refine WL.rename [(0, 0), (1, 1)] 2 (by decide) ?_ ?_ (ihA (i + 1) (show 2 - (i + 1) < 2 - i from by omega) (show (i + 1) ≤ 2 from by omega))
    · (repeat' (first | exact all_mt | refine all_up ?_ ?_)) <;> first | exact .inl ⟨rfl, rfl⟩ | exact .inr ⟨rfl, fun _ h => by cases h⟩ | exact .inl ⟨rfl, by first | rfl | assumption | exact (intsC_pure _)⟩
    · (repeat' (first | exact all_mt | refine all_up ?_ ?_)) <;> first | exact ⟨rfl, _, rfl, .inr ⟨rfl, rfl⟩⟩ | exact ⟨rfl, _, rfl, .inl rfl⟩ | exact ⟨rfl, _, rfl, .inr ⟨rfl, by first | rfl | assumption | exact (intsC_pure _)⟩⟩
  · have g1 : decide ((i : Int) < 2) = false := decide_eq_false (by omega)
    repeat (refine W.seq ?_)
    refine W.region 25 26 (by decide) rfl rfl ?_
    refine RW.opd rfl rfl (LO.lss rfl rfl rfl) ?_
    refine RW.nil ?_
    repeat (refine W.seq ?_)
    refine W.cond_f rfl (by first | rfl | assumption) ?_
    refine W.exit ?_
    have hi2 : AFn Try.prog 37 0 [.isl (intsC (partsF f)) f.dead.length, .isl (intsC (partsF f)) f.dead.length] mt (.base (.bool true)) mt := by
      have := hi (partsF f) (partsF f) (by rw [parts_len]; omega)
      rw [parts_len] at this
      simpa using this
    have hi3 : AFn Try.prog 37 0 [intsV (cutsF f), intsV (cutsF f)] mt (.base (.bool true)) mt := by
      have := hi (cutsF f) (cutsF f) (by have := cutsK_len f f.links.length; unfold cutsF; omega)
      rw [decide_eq_true rfl] at this
      exact this
    repeat (refine W.seq ?_)
    refine W.regionD 60 76 (by decide) rfl mixed rfl ?_
    refine RW.opd rfl rfl (LO.load_agg rfl rfl rfl ty25 rfl (Tk.lit rfl)) ?_
    refine RW.opd rfl rfl (LO.call0 (fr := []) rfl rfl (hp) fok38 (.cons rfl (.pure rfl) .nil) rfl) ?_
    refine RW.opd rfl rfl (LO.load_agg rfl rfl rfl ty25 rfl (Tk.lit rfl)) ?_
    refine RW.opd rfl rfl (LO.call0 (fr := []) rfl rfl (hpX) fok33 (.cons rfl (.pure rfl) .nil) rfl) ?_
    refine RW.opd rfl rfl (LO.call0 (fr := []) rfl rfl (hi2) fok37 (.cons rfl (.pure rfl) (.cons rfl (.pure rfl) .nil)) rfl) ?_
    refine RW.opd rfl rfl (LO.move rfl rfl) ?_
    refine RW.gd rfl rfl rfl ?_ rfl (LO.load_agg rfl rfl rfl ty25 rfl (Tk.lit rfl)) ?_; (· (first | rfl | assumption))
    refine RW.gd rfl rfl rfl ?_ rfl (LO.call0 (fr := []) rfl rfl (hc) fok39 (.cons rfl (.pure rfl) .nil) rfl) ?_; (· (first | rfl | assumption))
    refine RW.gd rfl rfl rfl ?_ rfl (LO.load_agg rfl rfl rfl ty25 rfl (Tk.lit rfl)) ?_; (· (first | rfl | assumption))
    refine RW.gd rfl rfl rfl ?_ rfl (LO.call0 (fr := []) rfl rfl (hcX) fok40 (.cons rfl (.pure rfl) .nil) rfl) ?_; (· (first | rfl | assumption))
    refine RW.gd rfl rfl rfl ?_ rfl (LO.call0 (fr := []) rfl rfl (hi3) fok37 (.cons rfl (.pure rfl) (.cons rfl (.pure rfl) .nil)) rfl) ?_; (· (first | rfl | assumption))
    refine RW.opd rfl rfl (LO.pick_t rfl rfl ?_ rfl) ?_; (· (first | rfl | assumption))
    refine RW.opd rfl rfl (LO.move rfl rfl) ?_
    refine RW.gd rfl rfl rfl ?_ rfl (LO.call0 (fr := []) rfl rfl (awake13_any) fok15 .nil rfl) ?_; (· (first | rfl | assumption))
    refine RW.opd rfl rfl (LO.pick_t rfl rfl ?_ rfl) ?_; (· (first | rfl | assumption))
    refine RW.opd rfl rfl (LO.assign rfl rfl) ?_
    refine RW.nil ⟨by kernel_rfl, ?_⟩
    repeat (refine W.seq ?_)
    refine W.ret ⟨.inl rfl, _, mt, RVs.cons (RV.tmp rfl) (RVs.nil), all_mt, ?_⟩
    exact ⟨rfl, rfl⟩

def prsC (l : List (Int × Int)) : List AV := l.flatMap fun p => [.base (.int .i64 p.1), .base (.int .i64 p.2)]
theorem prsC_pure (l : List (Int × Int)) : (prsC l).all AV.pure1 = true := by
  induction l with
  | nil => rfl
  | cons x l ih => rw [show prsC (x :: l) = [.base (.int .i64 x.1), .base (.int .i64 x.2)] ++ prsC l from rfl, List.all_append, ih]; rfl
theorem prs_tk {l : List (Int × Int)} {k : Nat} (h : k < l.length) : Tk (prsC l) (0 + k * 2) 2 [.base (.int .i64 l[k].1), .base (.int .i64 l[k].2)] := by
  have key : (prsC l)[k * 2]? = some (.base (.int .i64 l[k].1)) ∧ (prsC l)[k * 2 + 1]? = some (.base (.int .i64 l[k].2)) := by
    induction l generalizing k with
    | nil => simp at h
    | cons x l ih =>
      cases k with
      | zero => exact ⟨rfl, rfl⟩
      | succ k =>
        have := ih (k := k) (by simpa using h)
        have e : prsC (x :: l) = [.base (.int .i64 x.1), .base (.int .i64 x.2)] ++ prsC l := rfl
        rw [e, show (k + 1) * 2 = 2 + k * 2 from by omega, show 2 + k * 2 + 1 = 2 + (k * 2 + 1) from by omega]
        rw [List.getElem?_append_right (by simp), List.getElem?_append_right (by simp)]
        simpa using this
  refine ⟨rfl, fun j c hj => ?_⟩
  rw [Nat.zero_add]
  match j with
  | 0 => simp at hj; subst hj; exact key.1
  | 1 => simp at hj; subst hj; exact key.2
  | j + 2 => simp at hj
theorem flows_law (l : List Int) (a b : Int) (hl : l.length ≤ 9223372036854775807) : AFn Try.prog 4 0 [.isl (intsC l) l.length, .base (.int .i64 a), .base (.int .i64 b)] mt (.base (.bool true)) mt := by
  refine AFn.eq Try.func4 rfl rfl (Nat.le_of_ble_eq_true rfl) ?_
  have hnew := new_any l
  obtain ⟨v, H', hcall, f, a1, ⟨hf, hsw⟩, rfl, rfl⟩ := fabric_any l 0 2 (by decide) (by decide) hl
  have hf1 := flow_any f hf.fs hf.val
  have hf2 : ∀ a b : Int, AFn Try.prog 24 0 [.agg (fabC f), .base (.int .i64 b), .base (.int .i64 a)] mt (.base (.int .i64 (flowF f a b))) mt := fun a b => by
    have := flow_any f hf.fs hf.val b a
    rwa [flow_symm hf.lk] at this
  have hf3 := flowX_any f hf.fs hf.lk
  have hne : ∀ x : Int, (x != x) = false := fun x => by simp
  have hs7 := hf.sw7
  repeat (refine W.seq ?_)
  refine W.region 0 1 (by decide) rfl rfl ?_
  refine RW.opd rfl rfl (LO.assign rfl rfl) ?_
  refine RW.nil ?_
  repeat (refine W.seq ?_)
  refine W.region 5 10 (by decide) rfl rfl ?_
  refine RW.opd rfl rfl (LO.move rfl rfl) ?_
  refine RW.opd rfl rfl (LO.callN (fr := []) rfl rfl (hnew) fok16 (.cons rfl (.pure rfl) .nil) rfl (by decide)) ?_
  refine RW.opd rfl rfl (LO.call1 (fr := []) rfl rfl (hcall) fok17 (.own rfl rfl (.cons rfl (.pure rfl) .nil)) rfl rfl rfl (List.cons_ne_nil _ _) (by decide) rfl) ?_
  refine RW.opd rfl rfl (LO.alloc rfl ty25) ?_
  refine RW.opn rfl rfl (LO.store rfl rfl rfl rfl rfl ty25 rfl (by decide) (Sp.lit rfl)) ?_
  refine RW.nil ?_
  repeat (refine W.seq ?_)
  refine W.regionD 14 36 (by decide) rfl mixed rfl ?_
  refine RW.opd rfl rfl (LO.move rfl rfl) ?_
  refine RW.opd rfl rfl (LO.move rfl rfl) ?_
  refine RW.opd rfl rfl (LO.build_ar rfl ty37 ty3 (.cons rfl rfl rfl rfl (Sp.lit rfl) (.cons rfl rfl rfl rfl (Sp.lit rfl) .nil))) ?_
  refine RW.opd rfl rfl (LO.move rfl rfl) ?_
  refine RW.opd rfl rfl (LO.fieldAddr rfl rfl ty25 rfl (by decide)) ?_
  refine RW.opd rfl rfl (LO.load rfl rfl rfl rfl ty3 rfl) ?_
  refine RW.opd rfl rfl (LO.call0 (fr := []) rfl rfl (mod_any _ f.sw hf.sw1 (by omega)) fok21 (.cons rfl (.pure rfl) (.cons rfl (.pure rfl) .nil)) rfl) ?_
  refine RW.opd rfl rfl (LO.move rfl rfl) ?_
  refine RW.opd rfl rfl (LO.fieldAddr rfl rfl ty25 rfl (by decide)) ?_
  refine RW.opd rfl rfl (LO.load rfl rfl rfl rfl ty3 rfl) ?_
  refine RW.opd rfl rfl (LO.call0 (fr := []) rfl rfl (mod_any _ f.sw hf.sw1 (by omega)) fok21 (.cons rfl (.pure rfl) (.cons rfl (.pure rfl) .nil)) rfl) ?_
  refine RW.opd rfl rfl (LO.build_ar rfl ty37 ty3 (.cons rfl rfl rfl rfl (Sp.lit rfl) (.cons rfl rfl rfl rfl (Sp.lit rfl) .nil))) ?_
  refine RW.opd rfl rfl (LO.move rfl rfl) ?_
  refine RW.opd rfl rfl (LO.call0 (fr := []) rfl rfl (mod_any _ 10 (by decide) (by decide)) fok21 (.cons rfl (.pure rfl) (.cons rfl (.pure rfl) .nil)) rfl) ?_
  refine RW.opd rfl rfl (LO.sub_in rfl rfl rfl ?_) ?_; (· (first | exact IntWalk.i64_in _ (by omega) | assumption))
  refine RW.opd rfl rfl (LO.move rfl rfl) ?_
  refine RW.opd rfl rfl (LO.call0 (fr := []) rfl rfl (mod_any _ 10 (by decide) (by decide)) fok21 (.cons rfl (.pure rfl) (.cons rfl (.pure rfl) .nil)) rfl) ?_
  refine RW.opd rfl rfl (LO.sub_in rfl rfl rfl ?_) ?_; (· (first | exact IntWalk.i64_in _ (by omega) | assumption))
  refine RW.opd rfl rfl (LO.build_ar rfl ty37 ty3 (.cons rfl rfl rfl rfl (Sp.lit rfl) (.cons rfl rfl rfl rfl (Sp.lit rfl) .nil))) ?_
  refine RW.opd rfl rfl (LO.buildSlice rfl ty38 ty37 (by decide) (by decide) (.cons rfl rfl rfl rfl (Sp.lit rfl) (.cons rfl rfl rfl rfl (Sp.lit rfl) (.cons rfl rfl rfl rfl (Sp.lit rfl) .nil)))) ?_
  refine RW.opd rfl rfl (LO.len rfl rfl ty38) ?_
  refine RW.opd rfl rfl (LO.move rfl rfl) ?_
  refine RW.nil ⟨by kernel_rfl, ?_⟩
  repeat (refine W.seq ?_)
  refine W.block ?_
  refine W.rename [(0, 8), (1, 33)] 2 (T' := up (up (up (up mt 7 (some (.own 0 0))) 33 (some (.osl 1 0 3 2))) 34 (some (.base (.int .i64 3)))) 35 (some (.base (.int .i64 (0 : Int))))) (H' := up (up mt 0 (some (fabC f))) 1 (some (prsC [(a, b), (a % f.sw, b % f.sw), (a % 10 - 1, b % 10 - 1)]))) (by decide) ?_ ?_ ?_
  · (repeat' (first | exact all_mt | refine all_up ?_ ?_)) <;> first | exact .inl ⟨rfl, rfl⟩ | exact .inr ⟨rfl, fun _ h => by cases h⟩ | exact .inl ⟨rfl, by first | rfl | assumption | exact (intsC_pure _) | exact (prsC_pure _)⟩
  · (repeat' (first | exact all_mt | refine all_up ?_ ?_)) <;> first | exact ⟨rfl, _, rfl, .inr ⟨rfl, rfl⟩⟩ | exact ⟨rfl, _, rfl, .inl rfl⟩ | exact ⟨rfl, _, rfl, .inr ⟨rfl, by first | rfl | assumption | exact (intsC_pure _) | exact (prsC_pure _)⟩⟩
  refine W.loop_ind (α := Nat) (fun x => 3 - x) 2 (fun x => up (up (up (up mt 7 (some (.own 0 0))) 33 (some (.osl 1 0 3 2))) 34 (some (.base (.int .i64 3)))) 35 (some (.base (.int .i64 (x : Int))))) (fun x => up (up mt 0 (some (fabC f))) 1 (some (prsC [(a, b), (a % f.sw, b % f.sw), (a % 10 - 1, b % 10 - 1)]))) (fun x => x ≤ 3) 0 (show 0 ≤ 3 from Nat.zero_le _) ?_
  rintro i hIA ihA
  try (dsimp only at hIA)
  try dsimp only
  generalize hps : [(a, b), (a % f.sw, b % f.sw), (a % 10 - 1, b % 10 - 1)] = ps at ihA ⊢
  have hpl : ps.length = 3 := by rw [← hps]; rfl
  by_cases hc : i < 3
  · have g1 : decide ((i : Int) < 3) = true := decide_eq_true (by omega)
    repeat (refine W.seq ?_)
    refine W.region 40 41 (by decide) rfl rfl ?_
    refine RW.opd rfl rfl (LO.lss rfl rfl rfl) ?_
    refine RW.nil ?_
    repeat (refine W.seq ?_)
    refine W.cond_t rfl (by first | rfl | assumption) ?_
    refine W.skip ?_
    repeat (refine W.seq ?_)
    refine W.block ?_
    repeat (refine W.seq ?_)
    refine W.region 45 49 (by decide) rfl rfl ?_
    refine RW.opd rfl rfl (LO.indexAddr rfl rfl rfl rfl ty38 ty37 ?_) ?_; (· (first | omega | decide | assumption | fail | (simp; done) | (simp; omega)))
    refine RW.opd rfl rfl (LO.load_agg rfl rfl rfl ty37 rfl (prs_tk (by omega))) ?_
    refine RW.opd rfl rfl (LO.alloc rfl ty37) ?_
    refine RW.opn rfl rfl (LO.store rfl rfl rfl rfl rfl ty37 rfl (by decide) (Sp.lit rfl)) ?_
    refine RW.nil ?_
    repeat (refine W.seq ?_)
    refine W.region 53 60 (by decide) rfl rfl ?_
    refine RW.opd rfl rfl (LO.load_agg rfl rfl rfl ty25 rfl (Tk.lit rfl)) ?_
    refine RW.opd rfl rfl (LO.indexAddr_ar rfl rfl rfl rfl ty37 ty3 ?_) ?_; (· (first | omega | decide | assumption | fail | (simp; done) | (simp; omega)))
    refine RW.opd rfl rfl (LO.load rfl rfl rfl rfl ty3 rfl) ?_
    refine RW.opd rfl rfl (LO.indexAddr_ar rfl rfl rfl rfl ty37 ty3 ?_) ?_; (· (first | omega | decide | assumption | fail | (simp; done) | (simp; omega)))
    refine RW.opd rfl rfl (LO.load rfl rfl rfl rfl ty3 rfl) ?_
    refine RW.opd rfl rfl (LO.call0 (fr := []) rfl rfl (hf1 _ _) fok24 (.cons rfl (.pure rfl) (.cons rfl (.pure rfl) (.cons rfl (.pure rfl) .nil))) rfl) ?_
    refine RW.opd rfl rfl (LO.assign rfl rfl) ?_
    refine RW.nil ?_
    have g2 := hne (flowF f ps[i].1 ps[i].2)
    repeat (refine W.seq ?_)
    refine W.region 64 82 (by decide) rfl rfl ?_
    refine RW.opd rfl rfl (LO.move rfl rfl) ?_
    refine RW.opd rfl rfl (LO.load_agg rfl rfl rfl ty25 rfl (Tk.lit rfl)) ?_
    refine RW.opd rfl rfl (LO.indexAddr_ar rfl rfl rfl rfl ty37 ty3 ?_) ?_; (· (first | omega | decide | assumption | fail | (simp; done) | (simp; omega)))
    refine RW.opd rfl rfl (LO.load rfl rfl rfl rfl ty3 rfl) ?_
    refine RW.opd rfl rfl (LO.indexAddr_ar rfl rfl rfl rfl ty37 ty3 ?_) ?_; (· (first | omega | decide | assumption | fail | (simp; done) | (simp; omega)))
    refine RW.opd rfl rfl (LO.load rfl rfl rfl rfl ty3 rfl) ?_
    refine RW.opd rfl rfl (LO.call0 (fr := []) rfl rfl (hf3 _ _) fok25 (.cons rfl (.pure rfl) (.cons rfl (.pure rfl) (.cons rfl (.pure rfl) .nil))) rfl) ?_
    refine RW.opd rfl rfl (LO.neq rfl rfl rfl) ?_
    refine RW.opd rfl rfl (LO.move rfl rfl) ?_
    refine RW.gd rfl rfl rfl ?_ rfl (LO.move rfl rfl) ?_; (· (first | rfl | assumption))
    refine RW.gd rfl rfl rfl ?_ rfl (LO.load_agg rfl rfl rfl ty25 rfl (Tk.lit rfl)) ?_; (· (first | rfl | assumption))
    refine RW.gd rfl rfl rfl ?_ rfl (LO.indexAddr_ar rfl rfl rfl rfl ty37 ty3 ?_) ?_; (· (first | rfl | assumption)); (· (first | omega | decide | assumption | fail | (simp; done) | (simp; omega)))
    refine RW.gd rfl rfl rfl ?_ rfl (LO.load rfl rfl rfl rfl ty3 rfl) ?_; (· (first | rfl | assumption))
    refine RW.gd rfl rfl rfl ?_ rfl (LO.indexAddr_ar rfl rfl rfl rfl ty37 ty3 ?_) ?_; (· (first | rfl | assumption)); (· (first | omega | decide | assumption | fail | (simp; done) | (simp; omega)))
    refine RW.gd rfl rfl rfl ?_ rfl (LO.load rfl rfl rfl rfl ty3 rfl) ?_; (· (first | rfl | assumption))
    refine RW.gd rfl rfl rfl ?_ rfl (LO.call0 (fr := []) rfl rfl (hf2 _ _) fok24 (.cons rfl (.pure rfl) (.cons rfl (.pure rfl) (.cons rfl (.pure rfl) .nil))) rfl) ?_; (· (first | rfl | assumption))
    refine RW.gd rfl rfl rfl ?_ rfl (LO.neq rfl rfl rfl) ?_; (· (first | rfl | assumption))
    refine RW.opd rfl rfl (LO.pick_f rfl rfl ?_ rfl) ?_; (· (first | rfl | assumption))
    refine RW.nil ?_
    repeat (refine W.seq ?_)
    refine W.cond_f rfl (by first | rfl | assumption) ?_
    refine W.skip ?_
    repeat (refine W.seq ?_)
    refine W.region 91 93 (by decide) rfl rfl ?_
    refine RW.opd rfl rfl (LO.add_in rfl rfl rfl ?_) ?_; (· (first | exact IntWalk.i64_in _ (by omega) | assumption))
    refine RW.opd rfl rfl (LO.move rfl rfl) ?_
    refine RW.nil ?_
    refine WL.rename [(0, 0), (1, 1)] 2 (by decide) ?_ ?_ (ihA (i + 1) (show 3 - (i + 1) < 3 - i from by omega) (show (i + 1) ≤ 3 from by omega))
    · (repeat' (first | exact all_mt | refine all_up ?_ ?_)) <;> first | exact .inl ⟨rfl, rfl⟩ | exact .inr ⟨rfl, fun _ h => by cases h⟩ | exact .inl ⟨rfl, by first | rfl | assumption | exact (intsC_pure _) | exact (prsC_pure _)⟩
    · (repeat' (first | exact all_mt | refine all_up ?_ ?_)) <;> first | exact ⟨rfl, _, rfl, .inr ⟨rfl, rfl⟩⟩ | exact ⟨rfl, _, rfl, .inl rfl⟩ | exact ⟨rfl, _, rfl, .inr ⟨rfl, by first | rfl | assumption | exact (intsC_pure _) | exact (prsC_pure _)⟩⟩
  · have g1 : decide ((i : Int) < 3) = false := decide_eq_false (by omega)
    repeat (refine W.seq ?_)
    refine W.region 40 41 (by decide) rfl rfl ?_
    refine RW.opd rfl rfl (LO.lss rfl rfl rfl) ?_
    refine RW.nil ?_
    repeat (refine W.seq ?_)
    refine W.cond_f rfl (by first | rfl | assumption) ?_
    refine W.exit ?_
    repeat (refine W.seq ?_)
    refine W.region 97 99 (by decide) rfl rfl ?_
    refine RW.opd rfl rfl (LO.call0 (fr := []) rfl rfl (awake13_any) fok15 .nil rfl) ?_
    refine RW.opd rfl rfl (LO.assign rfl rfl) ?_
    refine RW.nil ?_
    repeat (refine W.seq ?_)
    refine W.ret ⟨.inl rfl, _, mt, RVs.cons (RV.tmp rfl) (RVs.nil), all_mt, ?_⟩
    exact ⟨rfl, rfl⟩
end Go.Proofs.Ythbdngfnbpkefaa
