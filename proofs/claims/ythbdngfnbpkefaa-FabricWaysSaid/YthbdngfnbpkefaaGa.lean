/-
  FabricWays and FabricFlows return true.
-/
import Derived.Test.YthbdngfnbpkefaaFl
import Derived.Test.YthbdngfnbpkefaaFx
import Derived.Test.YthbdngfnbpkefaaFg
namespace Go.Proofs.Ythbdngfnbpkefaa
open Go.RowKit

theorem FabOK.fs {f : Fab} (h : FabOK f) : FabS f := ⟨h.dead.symm, by have := h.dead; have := h.sw7; omega, by have := h.nlinks; omega⟩
theorem FabOK.val {f : Fab} (h : FabOK f) : validB f = true := by
  unfold validB
  rw [Bool.and_eq_true]
  refine ⟨List.all_eq_true.2 fun x hx => ?_, ?_⟩
  · obtain ⟨h1, h2, h3, h4, h5, h6, h7⟩ := h.links x hx
    unfold lnkB
    simp only [Bool.and_eq_true, decide_eq_true_eq, Bool.not_eq_true', beq_eq_false_iff_ne]
    exact ⟨h1, h2, h3, h4, h5, h6, by omega⟩
  · have h1 := h.sw1
    have h2 := h.sw7
    have h3 := h.nlinks
    unfold sizeB
    simp only [Bool.and_eq_true, decide_eq_true_eq]
    exact ⟨h1, by omega, by omega, h.down, h.dead⟩
theorem FabOK.lk {f : Fab} (h : FabOK f) : LinksOK f := valid_links h.fs.n8 h.val
theorem FabOK.c1 {f : Fab} (h : FabOK f) : ∀ i l, f.links[i]? = some l → wkF f i = true → 1 ≤ l.c := fun i l hl _ => by
  obtain ⟨_, _, _, _, _, h6, _⟩ := h.links l (List.mem_of_getElem? hl)
  exact h6
theorem fabC_pure (f : Fab) : (fabC f).all AV.pure1 = true := rfl
theorem ways_law (l : List Int) (to : Int) (hl : l.length ≤ 9223372036854775807) : AFn Try.prog 11 0 [.isl (intsC l) l.length, .base (.int .i64 to)] mt (.base (.bool true)) mt := by
  refine AFn.eq Try.func11 rfl rfl (Nat.le_of_ble_eq_true rfl) ?_
  have hnew := new_any l
  obtain ⟨v, H', hcall, f, a1, ⟨hf, hsw⟩, rfl, rfl⟩ := fabric_any l 0 1 (by decide) (by decide) hl
  have hd := distances_isl f hf.fs
  have hdX := distancesX_isl f hf.fs
  have hp := parts_any f hf.fs
  have hpX := partsX_any f hf.fs
  rw [parts_eq] at hpX
  have hc := cuts_any f hf.fs
  have hcX := cutsX_any f hf.fs (by have := hf.down; have := hf.nlinks; omega)
  have hi := ints13_any
  have h8 := hf.fs.n8
  have h24 := hf.fs.nl
  repeat (refine W.seq ?_)
  refine W.region 0 1 (by decide) rfl rfl ?_
  refine RW.opd rfl rfl (LO.assign rfl rfl) ?_
  refine RW.nil ?_
  repeat (refine W.seq ?_)
  refine W.region 5 10 (by decide) rfl rfl ?_
  refine RW.opd rfl rfl (LO.move rfl rfl) ?_
  first
      | (refine RW.opd rfl rfl (LO.callN (fr := []) rfl rfl (hnew) fok16 (.cons rfl (.pure rfl) .nil) rfl (by decide)) ?_)
      | (refine RW.opd rfl rfl (LO.callN (fr := []) rfl rfl (hnew) fok16 (.cons rfl (.pure rfl) .nil) (intsC_pure _) (by decide)) ?_)
      | (refine RW.opd rfl rfl (LO.callN (fr := []) rfl rfl (hnew) fok16 (.cons rfl (.pure (intsC_pure _)) .nil) rfl (by decide)) ?_)
      | (refine RW.opd rfl rfl (LO.callN (fr := []) rfl rfl (hnew) fok16 (.cons rfl (.pure (intsC_pure _)) .nil) (intsC_pure _) (by decide)) ?_)
  first
      | (refine RW.opd rfl rfl (LO.call1 (fr := []) rfl rfl (hcall) fok17 (.own rfl rfl (.cons rfl (.pure rfl) .nil)) rfl rfl rfl (List.cons_ne_nil _ _) (by decide) rfl) ?_)
      | (refine RW.opd rfl rfl (LO.call1 (fr := []) rfl rfl (hcall) fok17 (.own rfl rfl (.cons rfl (.pure rfl) .nil)) rfl rfl rfl (List.cons_ne_nil _ _) (by decide) (intsC_pure _)) ?_)
      | (refine RW.opd rfl rfl (LO.call1 (fr := []) rfl rfl (hcall) fok17 (.own rfl rfl (.cons rfl (.pure rfl) .nil)) rfl rfl (intsC_pure _) (List.cons_ne_nil _ _) (by decide) rfl) ?_)
      | (refine RW.opd rfl rfl (LO.call1 (fr := []) rfl rfl (hcall) fok17 (.own rfl rfl (.cons rfl (.pure rfl) .nil)) rfl rfl (intsC_pure _) (List.cons_ne_nil _ _) (by decide) (intsC_pure _)) ?_)
      | (refine RW.opd rfl rfl (LO.call1 (fr := []) rfl rfl (hcall) fok17 (.own rfl rfl (.cons rfl (.pure rfl) .nil)) rfl (intsC_pure _) rfl (List.cons_ne_nil _ _) (by decide) rfl) ?_)
      | (refine RW.opd rfl rfl (LO.call1 (fr := []) rfl rfl (hcall) fok17 (.own rfl rfl (.cons rfl (.pure rfl) .nil)) rfl (intsC_pure _) rfl (List.cons_ne_nil _ _) (by decide) (intsC_pure _)) ?_)
      | (refine RW.opd rfl rfl (LO.call1 (fr := []) rfl rfl (hcall) fok17 (.own rfl rfl (.cons rfl (.pure rfl) .nil)) rfl (intsC_pure _) (intsC_pure _) (List.cons_ne_nil _ _) (by decide) rfl) ?_)
      | (refine RW.opd rfl rfl (LO.call1 (fr := []) rfl rfl (hcall) fok17 (.own rfl rfl (.cons rfl (.pure rfl) .nil)) rfl (intsC_pure _) (intsC_pure _) (List.cons_ne_nil _ _) (by decide) (intsC_pure _)) ?_)
      | (refine RW.opd rfl rfl (LO.call1 (fr := []) rfl rfl (hcall) fok17 (.own rfl rfl (.cons rfl (.pure (intsC_pure _)) .nil)) rfl rfl rfl (List.cons_ne_nil _ _) (by decide) rfl) ?_)
      | (refine RW.opd rfl rfl (LO.call1 (fr := []) rfl rfl (hcall) fok17 (.own rfl rfl (.cons rfl (.pure (intsC_pure _)) .nil)) rfl rfl rfl (List.cons_ne_nil _ _) (by decide) (intsC_pure _)) ?_)
      | (refine RW.opd rfl rfl (LO.call1 (fr := []) rfl rfl (hcall) fok17 (.own rfl rfl (.cons rfl (.pure (intsC_pure _)) .nil)) rfl rfl (intsC_pure _) (List.cons_ne_nil _ _) (by decide) rfl) ?_)
      | (refine RW.opd rfl rfl (LO.call1 (fr := []) rfl rfl (hcall) fok17 (.own rfl rfl (.cons rfl (.pure (intsC_pure _)) .nil)) rfl rfl (intsC_pure _) (List.cons_ne_nil _ _) (by decide) (intsC_pure _)) ?_)
      | (refine RW.opd rfl rfl (LO.call1 (fr := []) rfl rfl (hcall) fok17 (.own rfl rfl (.cons rfl (.pure (intsC_pure _)) .nil)) rfl (intsC_pure _) rfl (List.cons_ne_nil _ _) (by decide) rfl) ?_)
      | (refine RW.opd rfl rfl (LO.call1 (fr := []) rfl rfl (hcall) fok17 (.own rfl rfl (.cons rfl (.pure (intsC_pure _)) .nil)) rfl (intsC_pure _) rfl (List.cons_ne_nil _ _) (by decide) (intsC_pure _)) ?_)
      | (refine RW.opd rfl rfl (LO.call1 (fr := []) rfl rfl (hcall) fok17 (.own rfl rfl (.cons rfl (.pure (intsC_pure _)) .nil)) rfl (intsC_pure _) (intsC_pure _) (List.cons_ne_nil _ _) (by decide) rfl) ?_)
      | (refine RW.opd rfl rfl (LO.call1 (fr := []) rfl rfl (hcall) fok17 (.own rfl rfl (.cons rfl (.pure (intsC_pure _)) .nil)) rfl (intsC_pure _) (intsC_pure _) (List.cons_ne_nil _ _) (by decide) (intsC_pure _)) ?_)
  refine RW.opd rfl rfl (LO.alloc rfl ty25) ?_
  refine RW.opn rfl rfl (LO.store rfl rfl rfl rfl rfl ty25 rfl (by decide) (Sp.lit rfl)) ?_
  refine RW.nil ?_
  repeat (refine W.seq ?_)
  refine W.region 14 21 (by decide) rfl rfl ?_
  refine RW.opd rfl rfl (LO.move rfl rfl) ?_
  refine RW.opd rfl rfl (LO.move rfl rfl) ?_
  first
      | (refine RW.opd rfl rfl (LO.call0 (fr := []) rfl rfl (mod_any _ 10 (by decide) (by decide)) fok21 (.cons rfl (.pure rfl) (.cons rfl (.pure rfl) .nil)) rfl) ?_)
      | (refine RW.opd rfl rfl (LO.call0 (fr := []) rfl rfl (mod_any _ 10 (by decide) (by decide)) fok21 (.cons rfl (.pure rfl) (.cons rfl (.pure rfl) .nil)) (intsC_pure _)) ?_)
      | (refine RW.opd rfl rfl (LO.call0 (fr := []) rfl rfl (mod_any _ 10 (by decide) (by decide)) fok21 (.cons rfl (.pure rfl) (.cons rfl (.pure (intsC_pure _)) .nil)) rfl) ?_)
      | (refine RW.opd rfl rfl (LO.call0 (fr := []) rfl rfl (mod_any _ 10 (by decide) (by decide)) fok21 (.cons rfl (.pure rfl) (.cons rfl (.pure (intsC_pure _)) .nil)) (intsC_pure _)) ?_)
      | (refine RW.opd rfl rfl (LO.call0 (fr := []) rfl rfl (mod_any _ 10 (by decide) (by decide)) fok21 (.cons rfl (.pure (intsC_pure _)) (.cons rfl (.pure rfl) .nil)) rfl) ?_)
      | (refine RW.opd rfl rfl (LO.call0 (fr := []) rfl rfl (mod_any _ 10 (by decide) (by decide)) fok21 (.cons rfl (.pure (intsC_pure _)) (.cons rfl (.pure rfl) .nil)) (intsC_pure _)) ?_)
      | (refine RW.opd rfl rfl (LO.call0 (fr := []) rfl rfl (mod_any _ 10 (by decide) (by decide)) fok21 (.cons rfl (.pure (intsC_pure _)) (.cons rfl (.pure (intsC_pure _)) .nil)) rfl) ?_)
      | (refine RW.opd rfl rfl (LO.call0 (fr := []) rfl rfl (mod_any _ 10 (by decide) (by decide)) fok21 (.cons rfl (.pure (intsC_pure _)) (.cons rfl (.pure (intsC_pure _)) .nil)) (intsC_pure _)) ?_)
  first
      | (refine RW.opd rfl rfl (LO.sub_in rfl rfl rfl ?_) ?_; (· (first | exact IntWalk.i64_in _ (by omega) | assumption)))
      | (refine RW.opd rfl rfl (LO.sub rfl rfl rfl) ?_)
  refine RW.opd rfl rfl (LO.buildSlice rfl ty26 ty3 (by decide) (by decide) (.cons rfl rfl rfl rfl (Sp.lit rfl) (.cons rfl rfl rfl rfl (Sp.lit rfl) .nil))) ?_
  first
      | (refine RW.opd rfl rfl (LO.len rfl rfl ty26) ?_)
      | (refine RW.opd rfl rfl (LO.len_isl rfl rfl rfl ty26) ?_)
  refine RW.opd rfl rfl (LO.move rfl rfl) ?_
  refine RW.nil ?_
  have hi1 : ∀ t : Int, AFn Try.prog 37 0 [.isl (intsC (dist f t)) f.dead.length, .isl (intsC (dist f t)) f.dead.length] mt (.base (.bool true)) mt := fun t => by
    have := hi (dist f t) (dist f t) (by rw [dist_len]; omega)
    rw [dist_len] at this
    simpa using this
  repeat (refine W.seq ?_)
  refine W.block ?_
  refine W.rename [(0, 8), (1, 18)] 2 (T' := up (up (up (up mt 5 (some (.own 0 0))) 15 (some (.osl 1 0 2 1))) 16 (some (.base (.int .i64 2)))) 17 (some (.base (.int .i64 (0 : Int))))) (H' := up (up mt 0 (some (fabC f))) 1 (some (intsC [to, to % 10 - 1]))) (by decide) ?_ ?_ ?_
  · (repeat' (first | exact all_mt | refine all_up ?_ ?_)) <;> first | exact .inl ⟨rfl, rfl⟩ | exact .inr ⟨rfl, fun _ h => by cases h⟩ | exact .inl ⟨rfl, by first | rfl | assumption | exact (intsC_pure _)⟩
  · (repeat' (first | exact all_mt | refine all_up ?_ ?_)) <;> first | exact ⟨rfl, _, rfl, .inr ⟨rfl, rfl⟩⟩ | exact ⟨rfl, _, rfl, .inl rfl⟩ | exact ⟨rfl, _, rfl, .inr ⟨rfl, by first | rfl | assumption | exact (intsC_pure _)⟩⟩
  refine W.loop_ind (α := Nat) (fun x => 2 - x) 2 (fun x => up (up (up (up mt 5 (some (.own 0 0))) 15 (some (.osl 1 0 2 1))) 16 (some (.base (.int .i64 2)))) 17 (some (.base (.int .i64 (x : Int))))) (fun x => up (up mt 0 (some (fabC f))) 1 (some (intsC [to, to % 10 - 1]))) (fun x => x ≤ 2) 0 (show 0 ≤ 2 from Nat.zero_le _) ?_
  rintro i hIA ihA
  try (dsimp only at hIA)
  try dsimp only
  by_cases hc2 : i < 2
  · have g1 : decide ((i : Int) < 2) = true := decide_eq_true (by omega)
    repeat (refine W.seq ?_)
    refine W.region 25 26 (by decide) rfl rfl ?_
    refine RW.opd rfl rfl (LO.lss rfl rfl rfl) ?_
    refine RW.nil ?_
    repeat (refine W.seq ?_)
    refine W.cond_t rfl (by first | rfl | assumption) ?_
    refine W.skip ?_
    repeat (refine W.seq ?_)
    refine W.block ?_
    repeat (refine W.seq ?_)
    refine W.region 30 33 (by decide) rfl rfl ?_
    first
        | (refine RW.opd rfl rfl (LO.indexAddr rfl rfl rfl rfl ty26 ty3 ?_) ?_; (· (first | omega | decide | assumption | fail | (simp; done) | (simp; omega))))
        | (refine RW.opd rfl rfl (LO.indexAddr_isl rfl rfl rfl rfl rfl ty26 ty3 ?_) ?_; (· (first | omega | decide | assumption | fail | (simp; done) | (simp; omega))))
    first
        | (refine RW.opd rfl rfl (LO.load rfl rfl rfl rfl ty3 rfl) ?_)
        | (refine RW.opd rfl rfl (LO.load rfl rfl rfl (ni_at (k := i) (by simpa using hc2)) ty3 rfl) ?_)
        | (refine RW.opd rfl rfl (LO.load_imm rfl rfl rfl ty3 rfl) ?_)
        | (refine RW.opd rfl rfl (LO.load_imm rfl rfl (ni_at (k := i) (by simpa using hc2)) ty3 rfl) ?_)
    refine RW.opd rfl rfl (LO.assign rfl rfl) ?_
    refine RW.nil ?_
    repeat (refine W.seq ?_)
    refine W.regionD 37 45 (by decide) rfl mixed rfl ?_
    first
        | (refine RW.opd rfl rfl (LO.load_agg rfl rfl rfl ty25 rfl (Tk.lit rfl)) ?_)
        | (refine RW.opd rfl rfl (LO.load_imm_agg rfl rfl ty25 rfl (Tk.lit rfl)) ?_)
    refine RW.opd rfl rfl (LO.move rfl rfl) ?_
    first
        | (refine RW.opd rfl rfl (LO.call0 (fr := []) rfl rfl (hd _) fok35 (.cons rfl (.pure rfl) (.cons rfl (.pure rfl) .nil)) rfl) ?_)
        | (refine RW.opd rfl rfl (LO.call0 (fr := []) rfl rfl (hd _) fok35 (.cons rfl (.pure rfl) (.cons rfl (.pure rfl) .nil)) (intsC_pure _)) ?_)
        | (refine RW.opd rfl rfl (LO.call0 (fr := []) rfl rfl (hd _) fok35 (.cons rfl (.pure rfl) (.cons rfl (.pure (intsC_pure _)) .nil)) rfl) ?_)
        | (refine RW.opd rfl rfl (LO.call0 (fr := []) rfl rfl (hd _) fok35 (.cons rfl (.pure rfl) (.cons rfl (.pure (intsC_pure _)) .nil)) (intsC_pure _)) ?_)
        | (refine RW.opd rfl rfl (LO.call0 (fr := []) rfl rfl (hd _) fok35 (.cons rfl (.pure (intsC_pure _)) (.cons rfl (.pure rfl) .nil)) rfl) ?_)
        | (refine RW.opd rfl rfl (LO.call0 (fr := []) rfl rfl (hd _) fok35 (.cons rfl (.pure (intsC_pure _)) (.cons rfl (.pure rfl) .nil)) (intsC_pure _)) ?_)
        | (refine RW.opd rfl rfl (LO.call0 (fr := []) rfl rfl (hd _) fok35 (.cons rfl (.pure (intsC_pure _)) (.cons rfl (.pure (intsC_pure _)) .nil)) rfl) ?_)
        | (refine RW.opd rfl rfl (LO.call0 (fr := []) rfl rfl (hd _) fok35 (.cons rfl (.pure (intsC_pure _)) (.cons rfl (.pure (intsC_pure _)) .nil)) (intsC_pure _)) ?_)
    first
        | (refine RW.opd rfl rfl (LO.load_agg rfl rfl rfl ty25 rfl (Tk.lit rfl)) ?_)
        | (refine RW.opd rfl rfl (LO.load_imm_agg rfl rfl ty25 rfl (Tk.lit rfl)) ?_)
    refine RW.opd rfl rfl (LO.move rfl rfl) ?_
    first
        | (refine RW.opd rfl rfl (LO.call0 (fr := []) rfl rfl (hdX _) fok34 (.cons rfl (.pure rfl) (.cons rfl (.pure rfl) .nil)) rfl) ?_)
        | (refine RW.opd rfl rfl (LO.call0 (fr := []) rfl rfl (hdX _) fok34 (.cons rfl (.pure rfl) (.cons rfl (.pure rfl) .nil)) (intsC_pure _)) ?_)
        | (refine RW.opd rfl rfl (LO.call0 (fr := []) rfl rfl (hdX _) fok34 (.cons rfl (.pure rfl) (.cons rfl (.pure (intsC_pure _)) .nil)) rfl) ?_)
        | (refine RW.opd rfl rfl (LO.call0 (fr := []) rfl rfl (hdX _) fok34 (.cons rfl (.pure rfl) (.cons rfl (.pure (intsC_pure _)) .nil)) (intsC_pure _)) ?_)
        | (refine RW.opd rfl rfl (LO.call0 (fr := []) rfl rfl (hdX _) fok34 (.cons rfl (.pure (intsC_pure _)) (.cons rfl (.pure rfl) .nil)) rfl) ?_)
        | (refine RW.opd rfl rfl (LO.call0 (fr := []) rfl rfl (hdX _) fok34 (.cons rfl (.pure (intsC_pure _)) (.cons rfl (.pure rfl) .nil)) (intsC_pure _)) ?_)
        | (refine RW.opd rfl rfl (LO.call0 (fr := []) rfl rfl (hdX _) fok34 (.cons rfl (.pure (intsC_pure _)) (.cons rfl (.pure (intsC_pure _)) .nil)) rfl) ?_)
        | (refine RW.opd rfl rfl (LO.call0 (fr := []) rfl rfl (hdX _) fok34 (.cons rfl (.pure (intsC_pure _)) (.cons rfl (.pure (intsC_pure _)) .nil)) (intsC_pure _)) ?_)
    first
        | (refine RW.opd rfl rfl (LO.call0 (fr := []) rfl rfl (hi1 _) fok37 (.cons rfl (.pure rfl) (.cons rfl (.pure rfl) .nil)) rfl) ?_)
        | (refine RW.opd rfl rfl (LO.call0 (fr := []) rfl rfl (hi1 _) fok37 (.cons rfl (.pure rfl) (.cons rfl (.pure rfl) .nil)) (intsC_pure _)) ?_)
        | (refine RW.opd rfl rfl (LO.call0 (fr := []) rfl rfl (hi1 _) fok37 (.cons rfl (.pure rfl) (.cons rfl (.pure (intsC_pure _)) .nil)) rfl) ?_)
        | (refine RW.opd rfl rfl (LO.call0 (fr := []) rfl rfl (hi1 _) fok37 (.cons rfl (.pure rfl) (.cons rfl (.pure (intsC_pure _)) .nil)) (intsC_pure _)) ?_)
        | (refine RW.opd rfl rfl (LO.call0 (fr := []) rfl rfl (hi1 _) fok37 (.cons rfl (.pure (intsC_pure _)) (.cons rfl (.pure rfl) .nil)) rfl) ?_)
        | (refine RW.opd rfl rfl (LO.call0 (fr := []) rfl rfl (hi1 _) fok37 (.cons rfl (.pure (intsC_pure _)) (.cons rfl (.pure rfl) .nil)) (intsC_pure _)) ?_)
        | (refine RW.opd rfl rfl (LO.call0 (fr := []) rfl rfl (hi1 _) fok37 (.cons rfl (.pure (intsC_pure _)) (.cons rfl (.pure (intsC_pure _)) .nil)) rfl) ?_)
        | (refine RW.opd rfl rfl (LO.call0 (fr := []) rfl rfl (hi1 _) fok37 (.cons rfl (.pure (intsC_pure _)) (.cons rfl (.pure (intsC_pure _)) .nil)) (intsC_pure _)) ?_)
    refine RW.opd rfl rfl (LO.not rfl rfl) ?_
    refine RW.nil ⟨by kernel_rfl, ?_⟩
    repeat (refine W.seq ?_)
    refine W.cond_f rfl (by first | rfl | assumption) ?_
    refine W.skip ?_
    repeat (refine W.seq ?_)
    refine W.region 54 56 (by decide) rfl rfl ?_
    first
        | (refine RW.opd rfl rfl (LO.add_in rfl rfl rfl ?_) ?_; (· (first | exact IntWalk.i64_in _ (by omega) | assumption)))
        | (refine RW.opd rfl rfl (LO.add rfl rfl rfl) ?_)
    refine RW.opd rfl rfl (LO.move rfl rfl) ?_
    refine RW.nil ?_
    refine WL.rename [(0, 0), (1, 1)] 2 (by decide) ?_ ?_ (ihA (i + 1) (show 2 - (i + 1) < 2 - i from by omega) (show (i + 1) ≤ 2 from by omega))
    · (repeat' (first | exact all_mt | refine all_up ?_ ?_)) <;> first | exact .inl ⟨rfl, rfl⟩ | exact .inr ⟨rfl, fun _ h => by cases h⟩ | exact .inl ⟨rfl, by first | rfl | assumption | exact (intsC_pure _)⟩
    · (repeat' (first | exact all_mt | refine all_up ?_ ?_)) <;> first | exact ⟨rfl, _, rfl, .inr ⟨rfl, rfl⟩⟩ | exact ⟨rfl, _, rfl, .inl rfl⟩ | exact ⟨rfl, _, rfl, .inr ⟨rfl, by first | rfl | assumption | exact (intsC_pure _)⟩⟩
  · have g1 : decide ((i : Int) < 2) = false := decide_eq_false (by omega)
    repeat (refine W.seq ?_)
    refine W.region 25 26 (by decide) rfl rfl ?_
    refine RW.opd rfl rfl (LO.lss rfl rfl rfl) ?_
    refine RW.nil ?_
    repeat (refine W.seq ?_)
    refine W.cond_f rfl (by first | rfl | assumption) ?_
    refine W.exit ?_
    have hi2 : AFn Try.prog 37 0 [.isl (intsC (partsF f)) f.dead.length, .isl (intsC (partsF f)) f.dead.length] mt (.base (.bool true)) mt := by
      have := hi (partsF f) (partsF f) (by rw [parts_len]; omega)
      rw [parts_len] at this
      simpa using this
    have hi3 : AFn Try.prog 37 0 [intsV (cutsF f), intsV (cutsF f)] mt (.base (.bool true)) mt := by
      have := hi (cutsF f) (cutsF f) (by have := cutsK_len f f.links.length; unfold cutsF; omega)
      rw [decide_eq_true rfl] at this
      exact this
    repeat (refine W.seq ?_)
    refine W.regionD 60 76 (by decide) rfl mixed rfl ?_
    first
        | (refine RW.opd rfl rfl (LO.load_agg rfl rfl rfl ty25 rfl (Tk.lit rfl)) ?_)
        | (refine RW.opd rfl rfl (LO.load_imm_agg rfl rfl ty25 rfl (Tk.lit rfl)) ?_)
    first
        | (refine RW.opd rfl rfl (LO.call0 (fr := []) rfl rfl (hp) fok38 (.cons rfl (.pure rfl) .nil) rfl) ?_)
        | (refine RW.opd rfl rfl (LO.call0 (fr := []) rfl rfl (hp) fok38 (.cons rfl (.pure rfl) .nil) (intsC_pure _)) ?_)
        | (refine RW.opd rfl rfl (LO.call0 (fr := []) rfl rfl (hp) fok38 (.cons rfl (.pure (intsC_pure _)) .nil) rfl) ?_)
        | (refine RW.opd rfl rfl (LO.call0 (fr := []) rfl rfl (hp) fok38 (.cons rfl (.pure (intsC_pure _)) .nil) (intsC_pure _)) ?_)
    first
        | (refine RW.opd rfl rfl (LO.load_agg rfl rfl rfl ty25 rfl (Tk.lit rfl)) ?_)
        | (refine RW.opd rfl rfl (LO.load_imm_agg rfl rfl ty25 rfl (Tk.lit rfl)) ?_)
    first
        | (refine RW.opd rfl rfl (LO.call0 (fr := []) rfl rfl (hpX) fok33 (.cons rfl (.pure rfl) .nil) rfl) ?_)
        | (refine RW.opd rfl rfl (LO.call0 (fr := []) rfl rfl (hpX) fok33 (.cons rfl (.pure rfl) .nil) (intsC_pure _)) ?_)
        | (refine RW.opd rfl rfl (LO.call0 (fr := []) rfl rfl (hpX) fok33 (.cons rfl (.pure (intsC_pure _)) .nil) rfl) ?_)
        | (refine RW.opd rfl rfl (LO.call0 (fr := []) rfl rfl (hpX) fok33 (.cons rfl (.pure (intsC_pure _)) .nil) (intsC_pure _)) ?_)
    first
        | (refine RW.opd rfl rfl (LO.call0 (fr := []) rfl rfl (hi2) fok37 (.cons rfl (.pure rfl) (.cons rfl (.pure rfl) .nil)) rfl) ?_)
        | (refine RW.opd rfl rfl (LO.call0 (fr := []) rfl rfl (hi2) fok37 (.cons rfl (.pure rfl) (.cons rfl (.pure rfl) .nil)) (intsC_pure _)) ?_)
        | (refine RW.opd rfl rfl (LO.call0 (fr := []) rfl rfl (hi2) fok37 (.cons rfl (.pure rfl) (.cons rfl (.pure (intsC_pure _)) .nil)) rfl) ?_)
        | (refine RW.opd rfl rfl (LO.call0 (fr := []) rfl rfl (hi2) fok37 (.cons rfl (.pure rfl) (.cons rfl (.pure (intsC_pure _)) .nil)) (intsC_pure _)) ?_)
        | (refine RW.opd rfl rfl (LO.call0 (fr := []) rfl rfl (hi2) fok37 (.cons rfl (.pure (intsC_pure _)) (.cons rfl (.pure rfl) .nil)) rfl) ?_)
        | (refine RW.opd rfl rfl (LO.call0 (fr := []) rfl rfl (hi2) fok37 (.cons rfl (.pure (intsC_pure _)) (.cons rfl (.pure rfl) .nil)) (intsC_pure _)) ?_)
        | (refine RW.opd rfl rfl (LO.call0 (fr := []) rfl rfl (hi2) fok37 (.cons rfl (.pure (intsC_pure _)) (.cons rfl (.pure (intsC_pure _)) .nil)) rfl) ?_)
        | (refine RW.opd rfl rfl (LO.call0 (fr := []) rfl rfl (hi2) fok37 (.cons rfl (.pure (intsC_pure _)) (.cons rfl (.pure (intsC_pure _)) .nil)) (intsC_pure _)) ?_)
    refine RW.opd rfl rfl (LO.move rfl rfl) ?_
    first
        | (refine RW.sd rfl rfl rfl ?_ rfl ?_; (· (first | rfl | assumption)))
        | (refine RW.gd rfl rfl rfl ?_ rfl (LO.load_agg rfl rfl rfl ty25 rfl (Tk.lit rfl)) ?_; (· (first | rfl | assumption)))
        | (refine RW.gd rfl rfl rfl ?_ rfl (LO.load_imm_agg rfl rfl ty25 rfl (Tk.lit rfl)) ?_; (· (first | rfl | assumption)))
    first
        | (refine RW.sd rfl rfl rfl ?_ rfl ?_; (· (first | rfl | assumption)))
        | (refine RW.gd rfl rfl rfl ?_ rfl (LO.call0 (fr := []) rfl rfl (hc) fok39 (.cons rfl (.pure rfl) .nil) rfl) ?_; (· (first | rfl | assumption)))
        | (refine RW.gd rfl rfl rfl ?_ rfl (LO.call0 (fr := []) rfl rfl (hc) fok39 (.cons rfl (.pure rfl) .nil) (intsC_pure _)) ?_; (· (first | rfl | assumption)))
        | (refine RW.gd rfl rfl rfl ?_ rfl (LO.call0 (fr := []) rfl rfl (hc) fok39 (.cons rfl (.pure (intsC_pure _)) .nil) rfl) ?_; (· (first | rfl | assumption)))
        | (refine RW.gd rfl rfl rfl ?_ rfl (LO.call0 (fr := []) rfl rfl (hc) fok39 (.cons rfl (.pure (intsC_pure _)) .nil) (intsC_pure _)) ?_; (· (first | rfl | assumption)))
    first
        | (refine RW.sd rfl rfl rfl ?_ rfl ?_; (· (first | rfl | assumption)))
        | (refine RW.gd rfl rfl rfl ?_ rfl (LO.load_agg rfl rfl rfl ty25 rfl (Tk.lit rfl)) ?_; (· (first | rfl | assumption)))
        | (refine RW.gd rfl rfl rfl ?_ rfl (LO.load_imm_agg rfl rfl ty25 rfl (Tk.lit rfl)) ?_; (· (first | rfl | assumption)))
    first
        | (refine RW.sd rfl rfl rfl ?_ rfl ?_; (· (first | rfl | assumption)))
        | (refine RW.gd rfl rfl rfl ?_ rfl (LO.call0 (fr := []) rfl rfl (hcX) fok40 (.cons rfl (.pure rfl) .nil) rfl) ?_; (· (first | rfl | assumption)))
        | (refine RW.gd rfl rfl rfl ?_ rfl (LO.call0 (fr := []) rfl rfl (hcX) fok40 (.cons rfl (.pure rfl) .nil) (intsC_pure _)) ?_; (· (first | rfl | assumption)))
        | (refine RW.gd rfl rfl rfl ?_ rfl (LO.call0 (fr := []) rfl rfl (hcX) fok40 (.cons rfl (.pure (intsC_pure _)) .nil) rfl) ?_; (· (first | rfl | assumption)))
        | (refine RW.gd rfl rfl rfl ?_ rfl (LO.call0 (fr := []) rfl rfl (hcX) fok40 (.cons rfl (.pure (intsC_pure _)) .nil) (intsC_pure _)) ?_; (· (first | rfl | assumption)))
    first
        | (refine RW.sd rfl rfl rfl ?_ rfl ?_; (· (first | rfl | assumption)))
        | (refine RW.gd rfl rfl rfl ?_ rfl (LO.call0 (fr := []) rfl rfl (hi3) fok37 (.cons rfl (.pure rfl) (.cons rfl (.pure rfl) .nil)) rfl) ?_; (· (first | rfl | assumption)))
        | (refine RW.gd rfl rfl rfl ?_ rfl (LO.call0 (fr := []) rfl rfl (hi3) fok37 (.cons rfl (.pure rfl) (.cons rfl (.pure rfl) .nil)) (intsC_pure _)) ?_; (· (first | rfl | assumption)))
        | (refine RW.gd rfl rfl rfl ?_ rfl (LO.call0 (fr := []) rfl rfl (hi3) fok37 (.cons rfl (.pure rfl) (.cons rfl (.pure (intsC_pure _)) .nil)) rfl) ?_; (· (first | rfl | assumption)))
        | (refine RW.gd rfl rfl rfl ?_ rfl (LO.call0 (fr := []) rfl rfl (hi3) fok37 (.cons rfl (.pure rfl) (.cons rfl (.pure (intsC_pure _)) .nil)) (intsC_pure _)) ?_; (· (first | rfl | assumption)))
        | (refine RW.gd rfl rfl rfl ?_ rfl (LO.call0 (fr := []) rfl rfl (hi3) fok37 (.cons rfl (.pure (intsC_pure _)) (.cons rfl (.pure rfl) .nil)) rfl) ?_; (· (first | rfl | assumption)))
        | (refine RW.gd rfl rfl rfl ?_ rfl (LO.call0 (fr := []) rfl rfl (hi3) fok37 (.cons rfl (.pure (intsC_pure _)) (.cons rfl (.pure rfl) .nil)) (intsC_pure _)) ?_; (· (first | rfl | assumption)))
        | (refine RW.gd rfl rfl rfl ?_ rfl (LO.call0 (fr := []) rfl rfl (hi3) fok37 (.cons rfl (.pure (intsC_pure _)) (.cons rfl (.pure (intsC_pure _)) .nil)) rfl) ?_; (· (first | rfl | assumption)))
        | (refine RW.gd rfl rfl rfl ?_ rfl (LO.call0 (fr := []) rfl rfl (hi3) fok37 (.cons rfl (.pure (intsC_pure _)) (.cons rfl (.pure (intsC_pure _)) .nil)) (intsC_pure _)) ?_; (· (first | rfl | assumption)))
    first
        | (refine RW.opd rfl rfl (LO.pick_t rfl rfl ?_ rfl) ?_; (· (first | rfl | assumption)))
        | (refine RW.opd rfl rfl (LO.pick_f rfl rfl ?_ rfl) ?_; (· (first | rfl | assumption)))
    refine RW.opd rfl rfl (LO.move rfl rfl) ?_
    first
        | (refine RW.sd rfl rfl rfl ?_ rfl ?_; (· (first | rfl | assumption)))
        | (refine RW.gd rfl rfl rfl ?_ rfl (LO.call0 (fr := []) rfl rfl (awake13_any) fok15 .nil rfl) ?_; (· (first | rfl | assumption)))
        | (refine RW.gd rfl rfl rfl ?_ rfl (LO.call0 (fr := []) rfl rfl (awake13_any) fok15 .nil (intsC_pure _)) ?_; (· (first | rfl | assumption)))
    first
        | (refine RW.opd rfl rfl (LO.pick_t rfl rfl ?_ rfl) ?_; (· (first | rfl | assumption)))
        | (refine RW.opd rfl rfl (LO.pick_f rfl rfl ?_ rfl) ?_; (· (first | rfl | assumption)))
    refine RW.opd rfl rfl (LO.assign rfl rfl) ?_
    refine RW.nil ⟨by kernel_rfl, ?_⟩
    repeat (refine W.seq ?_)
    refine W.ret ⟨.inl rfl, _, mt, RVs.cons (RV.tmp rfl) (RVs.nil), all_mt, ?_⟩
    exact ⟨rfl, rfl⟩
end Go.Proofs.Ythbdngfnbpkefaa
