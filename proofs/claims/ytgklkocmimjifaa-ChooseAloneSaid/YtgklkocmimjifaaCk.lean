/-
  The comparison of routes is a total order: the statement's function answers true.
-/
import Derived.Test.YtgklkocmimjifaaCj
namespace Go.Proofs.Ytgklkocmimjifaa
open Go.RowKit
set_option maxHeartbeats 4000000 in
theorem total_law (l : List Int) (hl : l.length ≤ 9223372036854775807) : AFn Try.prog 4 0 [.isl (intsC l) l.length] mt (.base (.bool true)) mt := by
  refine AFn.eq Try.func4 rfl rfl (Nat.le_of_ble_eq_true rfl) ?_
  have hnew := new_any l
  have haw := awake_any
  obtain ⟨_, _, hpol, p, a1, ⟨hpl, hpb⟩, rfl, rfl⟩ := policy_any l 0 106 hl
  obtain ⟨_, _, hrts, L, a2, ⟨⟨hrl, hLo, hrp⟩, hL6⟩, rfl, rfl⟩ := routes_any l a1 hl
  unfold intsC
  repeat (refine W.seq ?_)
  refine W.region 0 1 (by decide) rfl rfl ?_
  refine RW.opd rfl rfl (LO.assign rfl rfl) ?_
  refine RW.nil ?_
  repeat (refine W.seq ?_)
  refine W.region 5 8 (by decide) rfl rfl ?_
  refine RW.opd rfl rfl (LO.move rfl rfl) ?_
  refine RW.opd rfl rfl (LO.callN (fr := []) rfl rfl (hnew) fok7 (.cons rfl (.pure rfl) .nil) rfl (by decide)) ?_
  refine RW.opd rfl rfl (LO.assign rfl rfl) ?_
  refine RW.nil ?_
  repeat (refine W.seq ?_)
  refine W.region 12 16 (by decide) rfl rfl ?_
  refine RW.opd rfl rfl (LO.move rfl rfl) ?_
  refine RW.opd rfl rfl (LO.call1 (fr := []) rfl rfl (hpol) fok8 (.own rfl rfl (.cons rfl (.pure rfl) .nil)) rfl rfl rfl (List.cons_ne_nil _ _) (by decide) rfl) ?_
  refine RW.opd rfl rfl (LO.alloc rfl ty27) ?_
  refine RW.opn rfl rfl (LO.store rfl rfl rfl rfl rfl ty27 rfl (by decide) (Sp.lit rfl)) ?_
  refine RW.nil ?_
  repeat (refine W.seq ?_)
  refine W.region 20 23 (by decide) rfl rfl ?_
  refine RW.opd rfl rfl (LO.move rfl rfl) ?_
  refine RW.opd rfl rfl (LO.callP (fr := []) rfl rfl (hrts) fok9 (.own rfl rfl .nil) rfl rfl rfl (rtsC_pure _) (List.cons_ne_nil _ _) (by decide) (by decide) (by decide)) ?_
  refine RW.opd rfl rfl (LO.assign rfl rfl) ?_
  refine RW.nil ?_
  clear hpol hrts hnew
  repeat (refine W.seq ?_)
  refine W.region 27 30 (by decide) rfl rfl ?_
  refine RW.opd rfl rfl (LO.move rfl rfl) ?_
  refine RW.opd rfl rfl (LO.len rfl rfl ty29) ?_
  refine RW.opd rfl rfl (LO.move rfl rfl) ?_
  refine RW.nil ?_
  repeat (refine W.seq ?_)
  refine W.block ?_
  refine W.loop_keep (α := Nat) (fun x => L.length - x) 2 (fun x => [(4, .own 0 0), (5, .osl 1 0 L.length 16), (26, .osl 1 0 L.length 16), (28, .base (.int .i64 (x : Int)))]) (fun x => up (up mt 0 (some (poC p))) 1 (some (rtsC L))) (fun x => x ≤ L.length) 0 [(0, 14), (1, 21)] (.cons (t := 27) rfl (by first | exact .inl rfl | exact .inr ⟨rfl, fun _ h => by cases h⟩ | (exact .inl (by assumption)) | exact .inl rfl | exact .inl (rtsC_pure _)) .nil) (show 0 ≤ L.length from Nat.zero_le _) (by decide) ?_ ?_ ?_
  · (repeat' (first | exact LookR.nil | refine LookR.cons ?_ ?_)) <;> first | exact .inl ⟨rfl, rfl⟩ | exact .inr ⟨rfl, fun _ h => by cases h⟩ | exact .inl ⟨rfl, by first | rfl | assumption | exact rfl | exact (rtsC_pure _)⟩
  · (repeat' (first | exact all_mt | refine all_up ?_ ?_)) <;> first | exact ⟨rfl, _, rfl, .inr ⟨rfl, rfl⟩⟩ | exact ⟨rfl, _, rfl, .inl rfl⟩ | exact ⟨rfl, _, rfl, .inr ⟨rfl, by first | rfl | assumption | exact rfl | exact (rtsC_pure _)⟩⟩
  rintro i hIA ihA
  try (dsimp only at hIA)
  try dsimp only [baseT, List.cons_append, List.nil_append]
  by_cases hc : i < L.length
  rotate_left
  · have g1 : decide ((i : Int) < (L.length : Int)) = false := decide_eq_false (by omega)
    repeat (refine W.seq ?_)
    refine W.region 34 35 (by decide) rfl rfl ?_
    refine RW.opd rfl rfl (LO.lss rfl rfl rfl) ?_
    refine RW.nil ?_
    repeat (refine W.seq ?_)
    refine W.cond_f rfl (by first | rfl | assumption) ?_
    refine W.exit ?_
    repeat (refine W.seq ?_)
    refine W.region 211 213 (by decide) rfl rfl ?_
    refine RW.opd rfl rfl (LO.call0 (fr := []) rfl rfl (haw) fok15 .nil rfl) ?_
    refine RW.opd rfl rfl (LO.assign rfl rfl) ?_
    refine RW.nil ?_
    repeat (refine W.seq ?_)
    refine W.ret ⟨.inl rfl, _, mt, RVs.cons (RV.tmp rfl) (RVs.nil), all_mt, ?_⟩
    exact ⟨rfl, rfl⟩
  have g1 : decide ((i : Int) < (L.length : Int)) = true := decide_eq_true (by omega)
  have hii : (i : Int) + 1 = ((i + 1 : Nat) : Int) := by omega
  have hx := rts_at hc
  have hox := hLo L[i] (List.getElem_mem hc)
  rw [← gR_at hc] at hx hox
  obtain ⟨r, hre⟩ : ∃ r, gR L i = r := ⟨_, rfl⟩
  rw [hre] at hx hox
  obtain ⟨pf, fr, aa⟩ := r
  rw [rt_lit] at hx
  repeat (refine W.seq ?_)
  refine W.region 34 35 (by decide) rfl rfl ?_
  refine RW.opd rfl rfl (LO.lss rfl rfl rfl) ?_
  refine RW.nil ?_
  repeat (refine W.seq ?_)
  refine W.cond_t rfl (by first | rfl | assumption) ?_
  refine W.skip ?_
  repeat (refine W.seq ?_)
  refine W.block ?_
  repeat (refine W.seq ?_)
  refine W.region 39 43 (by decide) rfl rfl ?_
  refine RW.opd rfl rfl (LO.indexAddr rfl rfl rfl rfl ty29 ty43 ?_) ?_; (· (first | omega | decide | assumption | fail | (simp; done) | (simp; omega)))
  refine RW.opd rfl rfl (LO.load_agg rfl rfl rfl ty43 rfl hx) ?_
  refine RW.opd rfl rfl (LO.alloc rfl ty43) ?_
  refine RW.opn rfl rfl (LO.store rfl rfl rfl rfl rfl ty43 rfl (by decide) (Sp.lit rfl)) ?_
  refine RW.nil ?_
  repeat (refine W.seq ?_)
  refine W.region 47 50 (by decide) rfl rfl ?_
  refine RW.opd rfl rfl (LO.move rfl rfl) ?_
  refine RW.opd rfl rfl (LO.len rfl rfl ty29) ?_
  refine RW.opd rfl rfl (LO.move rfl rfl) ?_
  refine RW.nil ?_
  repeat (refine W.seq ?_)
  refine W.block ?_
  refine W.loop_keep (α := Nat) (fun x => L.length - x) 3 (fun x => [(4, .own 0 0), (5, .osl 1 0 L.length 16), (7, .own 2 0), (26, .osl 1 0 L.length 16), (32, .osl 1 0 L.length 16), (34, .base (.int .i64 (x : Int)))]) (fun x => up (up (up mt 0 (some (poC p))) 1 (some (rtsC L))) 2 (some (rtC ⟨pf, fr, aa⟩))) (fun x => x ≤ L.length) 0 [(0, 0), (1, 1), (2, 41)] (.cons (t := 27) rfl (by first | exact .inl rfl | exact .inr ⟨rfl, fun _ h => by cases h⟩ | (exact .inl (by assumption)) | exact .inl rfl | exact .inl (rtsC_pure _)) (.cons (t := 28) rfl (by first | exact .inl rfl | exact .inr ⟨rfl, fun _ h => by cases h⟩ | (exact .inl (by assumption)) | exact .inl rfl | exact .inl (rtsC_pure _)) (.cons (t := 33) rfl (by first | exact .inl rfl | exact .inr ⟨rfl, fun _ h => by cases h⟩ | (exact .inl (by assumption)) | exact .inl rfl | exact .inl (rtsC_pure _)) .nil))) (show 0 ≤ L.length from Nat.zero_le _) (by decide) ?_ ?_ ?_
  · (repeat' (first | exact LookR.nil | refine LookR.cons ?_ ?_)) <;> first | exact .inl ⟨rfl, rfl⟩ | exact .inr ⟨rfl, fun _ h => by cases h⟩ | exact .inl ⟨rfl, by first | rfl | assumption | exact rfl | exact (rtsC_pure _)⟩
  · (repeat' (first | exact all_mt | refine all_up ?_ ?_)) <;> first | exact ⟨rfl, _, rfl, .inr ⟨rfl, rfl⟩⟩ | exact ⟨rfl, _, rfl, .inl rfl⟩ | exact ⟨rfl, _, rfl, .inr ⟨rfl, by first | rfl | assumption | exact rfl | exact (rtsC_pure _)⟩⟩
  rintro j hIB ihB
  try (dsimp only at hIB)
  try dsimp only [baseT, List.cons_append, List.nil_append]
  by_cases hcj : j < L.length
  rotate_left
  · have g2 : decide ((j : Int) < (L.length : Int)) = false := decide_eq_false (by omega)
    repeat (refine W.seq ?_)
    refine W.region 54 55 (by decide) rfl rfl ?_
    refine RW.opd rfl rfl (LO.lss rfl rfl rfl) ?_
    refine RW.nil ?_
    repeat (refine W.seq ?_)
    refine W.cond_f rfl (by first | rfl | assumption) ?_
    refine W.exit ?_
    repeat (refine W.seq ?_)
    refine W.region 205 207 (by decide) rfl rfl ?_
    refine RW.opd rfl rfl (LO.add_in rfl rfl rfl ?_) ?_; (· (first | exact IntWalk.i64_in _ (by omega) | assumption))
    refine RW.opd rfl rfl (LO.move rfl rfl) ?_
    refine RW.nil ?_
    rw [hii]
    refine WL.renameL [(0, 0), (1, 1)] 2 (by decide) ?_ ?_ (ihA (i + 1) (show L.length - (i + 1) < L.length - i from by omega) (show (i + 1) ≤ L.length from (show i + 1 ≤ L.length by omega)))
    · (repeat' (first | exact LookR.nil | refine LookR.cons ?_ ?_)) <;> first | exact .inl ⟨rfl, rfl⟩ | exact .inr ⟨rfl, fun _ h => by cases h⟩ | exact .inl ⟨rfl, by first | rfl | assumption | exact rfl | exact (rtsC_pure _)⟩
    · (repeat' (first | exact all_mt | refine all_up ?_ ?_)) <;> first | exact ⟨rfl, _, rfl, .inr ⟨rfl, rfl⟩⟩ | exact ⟨rfl, _, rfl, .inl rfl⟩ | exact ⟨rfl, _, rfl, .inr ⟨rfl, by first | rfl | assumption | exact rfl | exact (rtsC_pure _)⟩⟩
  have g2 : decide ((j : Int) < (L.length : Int)) = true := decide_eq_true (by omega)
  have hjj : (j : Int) + 1 = ((j + 1 : Nat) : Int) := by omega
  have hz0 := cmp_zero (p := p) hrp hc hcj
  have hy := rts_at hcj
  have hoy := hLo L[j] (List.getElem_mem hcj)
  rw [← gR_at hcj] at hy hoy
  obtain ⟨r', hre'⟩ : ∃ r, gR L j = r := ⟨_, rfl⟩
  rw [hre, hre'] at hz0
  rw [hre'] at hy hoy
  have c1 := compare_any p ⟨pf, fr, aa⟩ r' (by omega) hox hoy
  have c2 := compare_any p r' ⟨pf, fr, aa⟩ (by omega) hoy hox
  rw [cmp_swap p ⟨pf, fr, aa⟩ r'] at c2
  have hbd := cmp_bd p ⟨pf, fr, aa⟩ r'
  have hst := cmp_step p ⟨pf, fr, aa⟩ r'
  unfold cmpV at c1 c2
  obtain ⟨U, hU⟩ : ∃ U, (cmpF p ⟨pf, fr, aa⟩ r').1 = U := ⟨_, rfl⟩
  obtain ⟨W', hW⟩ : ∃ W', (cmpF p ⟨pf, fr, aa⟩ r').2 = W' := ⟨_, rfl⟩
  rw [hU] at hz0 hbd hst
  rw [hW] at hst
  rw [hU, hW] at c1 c2
  dsimp only at c2
  have hneg : IntKind.i64.wrap (0 - -U) = - -U := by rw [Int.zero_sub]; exact IntWalk.i64_in _ (by omega)
  have k2 : (U != - -U) = false := by simp
  have k3 : (W' != W') = false := by simp
  obtain ⟨pf', fr', aa'⟩ := r'
  dsimp only at hz0
  have k4 : (!((U == 0) == (fr == fr'))) = false := by
    by_cases c : U = 0
    · have := hz0.1 c; simp [c, this]
    · have e1 : (U == 0) = false := beq_eq_false_iff_ne.2 c
      have e2 : (fr == fr') = false := beq_eq_false_iff_ne.2 fun e => c (hz0.2 e)
      rw [e1, e2]; rfl
  have k5 : (!((W' == 0) == (U == 0))) = false := by
    by_cases c : U = 0
    · have := hst.2 c; simp [c, this]
    · have e1 : (U == 0) = false := beq_eq_false_iff_ne.2 c
      have e2 : (W' == 0) = false := beq_eq_false_iff_ne.2 fun e => c (hst.1 e)
      rw [e1, e2]; rfl
  rw [rt_lit] at hy
  repeat (refine W.seq ?_)
  refine W.region 54 55 (by decide) rfl rfl ?_
  refine RW.opd rfl rfl (LO.lss rfl rfl rfl) ?_
  refine RW.nil ?_
  repeat (refine W.seq ?_)
  refine W.cond_t rfl (by first | rfl | assumption) ?_
  refine W.skip ?_
  repeat (refine W.seq ?_)
  refine W.block ?_
  repeat (refine W.seq ?_)
  refine W.region 59 63 (by decide) rfl rfl ?_
  refine RW.opd rfl rfl (LO.indexAddr rfl rfl rfl rfl ty29 ty43 ?_) ?_; (· (first | omega | decide | assumption | fail | (simp; done) | (simp; omega)))
  refine RW.opd rfl rfl (LO.load_agg rfl rfl rfl ty43 rfl hy) ?_
  refine RW.opd rfl rfl (LO.alloc rfl ty43) ?_
  refine RW.opn rfl rfl (LO.store rfl rfl rfl rfl rfl ty43 rfl (by decide) (Sp.lit rfl)) ?_
  refine RW.nil ?_
  repeat (refine W.seq ?_)
  refine W.region 67 76 (by decide) rfl rfl ?_
  refine RW.opd rfl rfl (LO.load_agg rfl rfl rfl ty27 rfl (Tk.lit rfl)) ?_
  refine RW.opd rfl rfl (LO.load_agg rfl rfl rfl ty43 rfl (Tk.lit rfl)) ?_
  refine RW.opd rfl rfl (LO.load_agg rfl rfl rfl ty43 rfl (Tk.lit rfl)) ?_
  refine RW.opd rfl rfl (LO.call0 (fr := []) rfl rfl (c1) fok13 (.cons rfl (.pure rfl) (.cons rfl (.pure rfl) (.cons rfl (.pure rfl) .nil))) rfl) ?_
  refine RW.opd rfl rfl (LO.move rfl rfl) ?_
  refine RW.opd rfl rfl (LO.extract rfl rfl rfl) ?_
  refine RW.opd rfl rfl (LO.extract rfl rfl rfl) ?_
  refine RW.opd rfl rfl (LO.assign rfl rfl) ?_
  refine RW.opd rfl rfl (LO.assign rfl rfl) ?_
  refine RW.nil ?_
  repeat (refine W.seq ?_)
  refine W.region 80 89 (by decide) rfl rfl ?_
  refine RW.opd rfl rfl (LO.load_agg rfl rfl rfl ty27 rfl (Tk.lit rfl)) ?_
  refine RW.opd rfl rfl (LO.load_agg rfl rfl rfl ty43 rfl (Tk.lit rfl)) ?_
  refine RW.opd rfl rfl (LO.load_agg rfl rfl rfl ty43 rfl (Tk.lit rfl)) ?_
  refine RW.opd rfl rfl (LO.call0 (fr := []) rfl rfl (c2) fok13 (.cons rfl (.pure rfl) (.cons rfl (.pure rfl) (.cons rfl (.pure rfl) .nil))) rfl) ?_
  refine RW.opd rfl rfl (LO.move rfl rfl) ?_
  refine RW.opd rfl rfl (LO.extract rfl rfl rfl) ?_
  refine RW.opd rfl rfl (LO.extract rfl rfl rfl) ?_
  refine RW.opd rfl rfl (LO.assign rfl rfl) ?_
  refine RW.opd rfl rfl (LO.assign rfl rfl) ?_
  refine RW.nil ?_
  repeat (refine W.seq ?_)
  refine W.region 93 119 (by decide) rfl rfl ?_
  refine RW.opd rfl rfl (LO.move rfl rfl) ?_
  refine RW.opd rfl rfl (LO.move rfl rfl) ?_
  refine RW.opd rfl rfl (LO.neg_in rfl rfl hneg) ?_
  refine RW.opd rfl rfl (LO.neq rfl rfl rfl) ?_
  refine RW.opd rfl rfl (LO.move rfl rfl) ?_
  refine RW.gd rfl rfl rfl ?_ rfl (LO.move rfl rfl) ?_; (· (first | rfl | assumption))
  refine RW.gd rfl rfl rfl ?_ rfl (LO.move rfl rfl) ?_; (· (first | rfl | assumption))
  refine RW.gd rfl rfl rfl ?_ rfl (LO.neq rfl rfl rfl) ?_; (· (first | rfl | assumption))
  refine RW.opd rfl rfl (LO.pick_f rfl rfl ?_ rfl) ?_; (· (first | rfl | assumption))
  refine RW.opd rfl rfl (LO.move rfl rfl) ?_
  refine RW.gd rfl rfl rfl ?_ rfl (LO.move rfl rfl) ?_; (· (first | rfl | assumption))
  refine RW.gd rfl rfl rfl ?_ rfl (LO.eql rfl rfl rfl) ?_; (· (first | rfl | assumption))
  refine RW.gd rfl rfl rfl ?_ rfl (LO.fieldAddr rfl rfl ty43 rfl (by decide)) ?_; (· (first | rfl | assumption))
  refine RW.gd rfl rfl rfl ?_ rfl (LO.load rfl rfl rfl rfl ty3 rfl) ?_; (· (first | rfl | assumption))
  refine RW.gd rfl rfl rfl ?_ rfl (LO.fieldAddr rfl rfl ty43 rfl (by decide)) ?_; (· (first | rfl | assumption))
  refine RW.gd rfl rfl rfl ?_ rfl (LO.load rfl rfl rfl rfl ty3 rfl) ?_; (· (first | rfl | assumption))
  refine RW.gd rfl rfl rfl ?_ rfl (LO.eql rfl rfl rfl) ?_; (· (first | rfl | assumption))
  refine RW.gd rfl rfl rfl ?_ rfl (LO.neq_bool rfl rfl rfl ty4) ?_; (· (first | rfl | assumption))
  refine RW.opd rfl rfl (LO.pick_f rfl rfl ?_ rfl) ?_; (· (first | rfl | assumption))
  refine RW.opd rfl rfl (LO.move rfl rfl) ?_
  refine RW.gd rfl rfl rfl ?_ rfl (LO.move rfl rfl) ?_; (· (first | rfl | assumption))
  refine RW.gd rfl rfl rfl ?_ rfl (LO.eql rfl rfl rfl) ?_; (· (first | rfl | assumption))
  refine RW.gd rfl rfl rfl ?_ rfl (LO.move rfl rfl) ?_; (· (first | rfl | assumption))
  refine RW.gd rfl rfl rfl ?_ rfl (LO.eql rfl rfl rfl) ?_; (· (first | rfl | assumption))
  refine RW.gd rfl rfl rfl ?_ rfl (LO.neq_bool rfl rfl rfl ty4) ?_; (· (first | rfl | assumption))
  refine RW.opd rfl rfl (LO.pick_f rfl rfl ?_ rfl) ?_; (· (first | rfl | assumption))
  refine RW.nil ?_
  repeat (refine W.seq ?_)
  refine W.cond_f rfl (by first | rfl | assumption) ?_
  refine W.skip ?_
  repeat (refine W.seq ?_)
  refine W.region 128 131 (by decide) rfl rfl ?_
  refine RW.opd rfl rfl (LO.move rfl rfl) ?_
  refine RW.opd rfl rfl (LO.len rfl rfl ty29) ?_
  refine RW.opd rfl rfl (LO.move rfl rfl) ?_
  refine RW.nil ?_
  repeat (refine W.seq ?_)
  refine W.block ?_
  refine W.loop_keep (α := Nat) (fun x => L.length - x) 4 (fun x => [(4, .own 0 0), (5, .osl 1 0 L.length 16), (7, .own 2 0), (9, .own 3 0), (26, .osl 1 0 L.length 16), (32, .osl 1 0 L.length 16), (78, .osl 1 0 L.length 16), (80, .base (.int .i64 (x : Int)))]) (fun x => up (up (up (up mt 0 (some (poC p))) 1 (some (rtsC L))) 2 (some (rtC ⟨pf, fr, aa⟩))) 3 (some (rtC ⟨pf', fr', aa'⟩))) (fun x => x ≤ L.length) 0 [(0, 0), (1, 1), (2, 2), (3, 61)] (.cons (t := 10) rfl (by first | exact .inl rfl | exact .inr ⟨rfl, fun _ h => by cases h⟩ | (exact .inl (by assumption)) | exact .inl rfl | exact .inl (rtsC_pure _)) (.cons (t := 27) rfl (by first | exact .inl rfl | exact .inr ⟨rfl, fun _ h => by cases h⟩ | (exact .inl (by assumption)) | exact .inl rfl | exact .inl (rtsC_pure _)) (.cons (t := 28) rfl (by first | exact .inl rfl | exact .inr ⟨rfl, fun _ h => by cases h⟩ | (exact .inl (by assumption)) | exact .inl rfl | exact .inl (rtsC_pure _)) (.cons (t := 33) rfl (by first | exact .inl rfl | exact .inr ⟨rfl, fun _ h => by cases h⟩ | (exact .inl (by assumption)) | exact .inl rfl | exact .inl (rtsC_pure _)) (.cons (t := 34) rfl (by first | exact .inl rfl | exact .inr ⟨rfl, fun _ h => by cases h⟩ | (exact .inl (by assumption)) | exact .inl rfl | exact .inl (rtsC_pure _)) (.cons (t := 79) rfl (by first | exact .inl rfl | exact .inr ⟨rfl, fun _ h => by cases h⟩ | (exact .inl (by assumption)) | exact .inl rfl | exact .inl (rtsC_pure _)) .nil)))))) (show 0 ≤ L.length from Nat.zero_le _) (by decide) ?_ ?_ ?_
  · (repeat' (first | exact LookR.nil | refine LookR.cons ?_ ?_)) <;> first | exact .inl ⟨rfl, rfl⟩ | exact .inr ⟨rfl, fun _ h => by cases h⟩ | exact .inl ⟨rfl, by first | rfl | assumption | exact rfl | exact (rtsC_pure _)⟩
  · (repeat' (first | exact all_mt | refine all_up ?_ ?_)) <;> first | exact ⟨rfl, _, rfl, .inr ⟨rfl, rfl⟩⟩ | exact ⟨rfl, _, rfl, .inl rfl⟩ | exact ⟨rfl, _, rfl, .inr ⟨rfl, by first | rfl | assumption | exact rfl | exact (rtsC_pure _)⟩⟩
  rintro k hID ihD
  try (dsimp only at hID)
  try dsimp only [baseT, List.cons_append, List.nil_append]
  by_cases hck : k < L.length
  rotate_left
  · have g3 : decide ((k : Int) < (L.length : Int)) = false := decide_eq_false (by omega)
    repeat (refine W.seq ?_)
    refine W.region 135 136 (by decide) rfl rfl ?_
    refine RW.opd rfl rfl (LO.lss rfl rfl rfl) ?_
    refine RW.nil ?_
    repeat (refine W.seq ?_)
    refine W.cond_f rfl (by first | rfl | assumption) ?_
    refine W.exit ?_
    repeat (refine W.seq ?_)
    refine W.region 199 201 (by decide) rfl rfl ?_
    refine RW.opd rfl rfl (LO.add_in rfl rfl rfl ?_) ?_; (· (first | exact IntWalk.i64_in _ (by omega) | assumption))
    refine RW.opd rfl rfl (LO.move rfl rfl) ?_
    refine RW.nil ?_
    rw [hjj]
    refine WL.renameL [(0, 0), (1, 1), (2, 2)] 3 (by decide) ?_ ?_ (ihB (j + 1) (show L.length - (j + 1) < L.length - j from by omega) (show (j + 1) ≤ L.length from (show j + 1 ≤ L.length by omega)))
    · (repeat' (first | exact LookR.nil | refine LookR.cons ?_ ?_)) <;> first | exact .inl ⟨rfl, rfl⟩ | exact .inr ⟨rfl, fun _ h => by cases h⟩ | exact .inl ⟨rfl, by first | rfl | assumption | exact rfl | exact (rtsC_pure _)⟩
    · (repeat' (first | exact all_mt | refine all_up ?_ ?_)) <;> first | exact ⟨rfl, _, rfl, .inr ⟨rfl, rfl⟩⟩ | exact ⟨rfl, _, rfl, .inl rfl⟩ | exact ⟨rfl, _, rfl, .inr ⟨rfl, by first | rfl | assumption | exact rfl | exact (rtsC_pure _)⟩⟩
  have g3 : decide ((k : Int) < (L.length : Int)) = true := decide_eq_true (by omega)
  have hkk : (k : Int) + 1 = ((k + 1 : Nat) : Int) := by omega
  have hz := rts_at hck
  have hoz := hLo L[k] (List.getElem_mem hck)
  obtain ⟨r2, hre2⟩ : ∃ r, L[k] = r := ⟨_, rfl⟩
  rw [hre2] at hz hoz
  have d1 := compare_any p ⟨pf', fr', aa'⟩ r2 (by omega) hoy hoz
  have d2 := compare_any p ⟨pf, fr, aa⟩ r2 (by omega) hox hoz
  have htr := cmp_tr (p := p) (a := ⟨pf, fr, aa⟩) (b := ⟨pf', fr', aa'⟩) (c := r2)
  unfold cmpV at d1 d2
  obtain ⟨Y, hY⟩ : ∃ Y, (cmpF p ⟨pf', fr', aa'⟩ r2).1 = Y := ⟨_, rfl⟩
  obtain ⟨Z, hZ⟩ : ∃ Z, (cmpF p ⟨pf, fr, aa⟩ r2).1 = Z := ⟨_, rfl⟩
  rw [hU, hY, hZ] at htr
  rw [hY] at d1
  rw [hZ] at d2
  have hk : decide (U ≤ 0) = false ∨ (decide (U ≤ 0) = true ∧ decide (Y ≤ 0) = false) ∨ (decide (U ≤ 0) = true ∧ decide (Y ≤ 0) = true ∧ decide (Z > 0) = false) := by
    by_cases q1 : U ≤ 0
    · by_cases q2 : Y ≤ 0
      · exact .inr (.inr ⟨decide_eq_true q1, decide_eq_true q2, decide_eq_false (by have := htr q1 q2; omega)⟩)
      · exact .inr (.inl ⟨decide_eq_true q1, decide_eq_false q2⟩)
    · exact .inl (decide_eq_false q1)
  obtain ⟨pf2, fr2, aa2⟩ := r2
  rw [rt_lit] at hz
  repeat (refine W.seq ?_)
  refine W.region 135 136 (by decide) rfl rfl ?_
  refine RW.opd rfl rfl (LO.lss rfl rfl rfl) ?_
  refine RW.nil ?_
  repeat (refine W.seq ?_)
  refine W.cond_t rfl (by first | rfl | assumption) ?_
  refine W.skip ?_
  repeat (refine W.seq ?_)
  refine W.block ?_
  repeat (refine W.seq ?_)
  refine W.region 140 144 (by decide) rfl rfl ?_
  refine RW.opd rfl rfl (LO.indexAddr rfl rfl rfl rfl ty29 ty43 ?_) ?_; (· (first | omega | decide | assumption | fail | (simp; done) | (simp; omega)))
  refine RW.opd rfl rfl (LO.load_agg rfl rfl rfl ty43 rfl hz) ?_
  refine RW.opd rfl rfl (LO.alloc rfl ty43) ?_
  refine RW.opn rfl rfl (LO.store rfl rfl rfl rfl rfl ty43 rfl (by decide) (Sp.lit rfl)) ?_
  refine RW.nil ?_
  repeat (refine W.seq ?_)
  refine W.region 148 157 (by decide) rfl rfl ?_
  refine RW.opd rfl rfl (LO.load_agg rfl rfl rfl ty27 rfl (Tk.lit rfl)) ?_
  refine RW.opd rfl rfl (LO.load_agg rfl rfl rfl ty43 rfl (Tk.lit rfl)) ?_
  refine RW.opd rfl rfl (LO.load_agg rfl rfl rfl ty43 rfl (Tk.lit rfl)) ?_
  refine RW.opd rfl rfl (LO.call0 (fr := []) rfl rfl (d1) fok13 (.cons rfl (.pure rfl) (.cons rfl (.pure rfl) (.cons rfl (.pure rfl) .nil))) rfl) ?_
  refine RW.opd rfl rfl (LO.move rfl rfl) ?_
  refine RW.opd rfl rfl (LO.extract rfl rfl rfl) ?_
  refine RW.opd rfl rfl (LO.extract rfl rfl rfl) ?_
  refine RW.opd rfl rfl (LO.assign rfl rfl) ?_
  refine RW.opd rfl rfl (LO.assign rfl rfl) ?_
  refine RW.nil ?_
  repeat (refine W.seq ?_)
  refine W.region 161 170 (by decide) rfl rfl ?_
  refine RW.opd rfl rfl (LO.load_agg rfl rfl rfl ty27 rfl (Tk.lit rfl)) ?_
  refine RW.opd rfl rfl (LO.load_agg rfl rfl rfl ty43 rfl (Tk.lit rfl)) ?_
  refine RW.opd rfl rfl (LO.load_agg rfl rfl rfl ty43 rfl (Tk.lit rfl)) ?_
  refine RW.opd rfl rfl (LO.call0 (fr := []) rfl rfl (d2) fok13 (.cons rfl (.pure rfl) (.cons rfl (.pure rfl) (.cons rfl (.pure rfl) .nil))) rfl) ?_
  refine RW.opd rfl rfl (LO.move rfl rfl) ?_
  refine RW.opd rfl rfl (LO.extract rfl rfl rfl) ?_
  refine RW.opd rfl rfl (LO.extract rfl rfl rfl) ?_
  refine RW.opd rfl rfl (LO.assign rfl rfl) ?_
  refine RW.opd rfl rfl (LO.assign rfl rfl) ?_
  refine RW.nil ?_
  rcases hk with q1 | ⟨q1, q2⟩ | ⟨q1, q2, q3⟩
  all_goals
    repeat (refine W.seq ?_)
    refine W.region 174 184 (by decide) rfl rfl ?_
    refine RW.opd rfl rfl (LO.move rfl rfl) ?_
    refine RW.opd rfl rfl (LO.leq rfl rfl rfl) ?_
    refine RW.opd rfl rfl (LO.move rfl rfl) ?_
    first
        | (refine RW.sd rfl rfl rfl ?_ rfl ?_; (· (first | rfl | assumption)))
        | (refine RW.gd rfl rfl rfl ?_ rfl (LO.move rfl rfl) ?_; (· (first | rfl | assumption)))
    first
        | (refine RW.sd rfl rfl rfl ?_ rfl ?_; (· (first | rfl | assumption)))
        | (refine RW.gd rfl rfl rfl ?_ rfl (LO.leq rfl rfl rfl) ?_; (· (first | rfl | assumption)))
    first
        | (refine RW.opd rfl rfl (LO.pick_t rfl rfl ?_ rfl) ?_; (· (first | rfl | assumption)))
        | (refine RW.opd rfl rfl (LO.pick_f rfl rfl ?_ rfl) ?_; (· (first | rfl | assumption)))
    refine RW.opd rfl rfl (LO.move rfl rfl) ?_
    first
        | (refine RW.sd rfl rfl rfl ?_ rfl ?_; (· (first | rfl | assumption)))
        | (refine RW.gd rfl rfl rfl ?_ rfl (LO.move rfl rfl) ?_; (· (first | rfl | assumption)))
    first
        | (refine RW.sd rfl rfl rfl ?_ rfl ?_; (· (first | rfl | assumption)))
        | (refine RW.gd rfl rfl rfl ?_ rfl (LO.gtr rfl rfl rfl) ?_; (· (first | rfl | assumption)))
    first
        | (refine RW.opd rfl rfl (LO.pick_t rfl rfl ?_ rfl) ?_; (· (first | rfl | assumption)))
        | (refine RW.opd rfl rfl (LO.pick_f rfl rfl ?_ rfl) ?_; (· (first | rfl | assumption)))
    refine RW.nil ?_
    repeat (refine W.seq ?_)
    refine W.cond_f rfl (by first | rfl | assumption) ?_
    refine W.skip ?_
    repeat (refine W.seq ?_)
    refine W.region 193 195 (by decide) rfl rfl ?_
    refine RW.opd rfl rfl (LO.add_in rfl rfl rfl ?_) ?_; (· (first | exact IntWalk.i64_in _ (by omega) | assumption))
    refine RW.opd rfl rfl (LO.move rfl rfl) ?_
    refine RW.nil ?_
    rw [hkk]
    refine WL.renameL [(0, 0), (1, 1), (2, 2), (3, 3)] 4 (by decide) ?_ ?_ (ihD (k + 1) (show L.length - (k + 1) < L.length - k from by omega) (show (k + 1) ≤ L.length from (show k + 1 ≤ L.length by omega)))
    · (repeat' (first | exact LookR.nil | refine LookR.cons ?_ ?_)) <;> first | exact .inl ⟨rfl, rfl⟩ | exact .inr ⟨rfl, fun _ h => by cases h⟩ | exact .inl ⟨rfl, by first | rfl | assumption | exact rfl | exact (rtsC_pure _)⟩
    · (repeat' (first | exact all_mt | refine all_up ?_ ?_)) <;> first | exact ⟨rfl, _, rfl, .inr ⟨rfl, rfl⟩⟩ | exact ⟨rfl, _, rfl, .inl rfl⟩ | exact ⟨rfl, _, rfl, .inr ⟨rfl, by first | rfl | assumption | exact rfl | exact (rtsC_pure _)⟩⟩
end Go.Proofs.Ytgklkocmimjifaa
