/-
  Which of two routes is better, and in which step: the statement's function answers true.
-/
import Derived.Test.YtgklkocmimjifaaCi
namespace Go.Proofs.Ytgklkocmimjifaa
open Go.RowKit
theorem poC_pure (p : Po) : (poC p).all AV.pure1 = true := rfl
set_option maxHeartbeats 4000000 in
theorem compares_law (l : List Int) (hl : l.length ≤ 9223372036854775807) : AFn Try.prog 3 0 [.isl (intsC l) l.length] mt (.base (.bool true)) mt := by
  refine AFn.eq Try.func3 rfl rfl (Nat.le_of_ble_eq_true rfl) ?_
  have hnew := new_any l
  have haw := awake_any
  obtain ⟨_, _, hpol, p, a1, ⟨hpl, hpb⟩, rfl, rfl⟩ := policy_any l 0 106 hl
  obtain ⟨_, _, hrts, rs, a2, ⟨⟨hrl, hro, hrp⟩, hr5⟩, rfl, rfl⟩ := routes_any l a1 hl
  obtain ⟨_, _, hrt, r3, a3, ⟨hf3, hg3⟩, rfl, rfl⟩ := route_any l a2 103 hl
  unfold intsC
  have hap : ∀ r : Rt, rtsC rs ++ rtC r = rtsC (rs ++ [r]) := fun r => by rw [rtsC_app, rtsC_one]
  have hok3 : OkR r3 := ⟨hg3.2.2.1, hg3.2.2.2, hg3.2.1.1⟩
  repeat (refine W.seq ?_)
  refine W.region 0 1 (by decide) rfl rfl ?_
  refine RW.opd rfl rfl (LO.assign rfl rfl) ?_
  refine RW.nil ?_
  repeat (refine W.seq ?_)
  refine W.region 5 8 (by decide) rfl rfl ?_
  refine RW.opd rfl rfl (LO.move rfl rfl) ?_
  refine RW.opd rfl rfl (LO.callN (fr := []) rfl rfl (hnew) fok7 (.cons rfl (.pure rfl) .nil) rfl (by decide)) ?_
  refine RW.opd rfl rfl (LO.assign rfl rfl) ?_
  refine RW.nil ?_
  repeat (refine W.seq ?_)
  refine W.region 12 16 (by decide) rfl rfl ?_
  refine RW.opd rfl rfl (LO.move rfl rfl) ?_
  refine RW.opd rfl rfl (LO.call1 (fr := []) rfl rfl (hpol) fok8 (.own rfl rfl (.cons rfl (.pure rfl) .nil)) rfl rfl rfl (List.cons_ne_nil _ _) (by decide) rfl) ?_
  refine RW.opd rfl rfl (LO.alloc rfl ty27) ?_
  refine RW.opn rfl rfl (LO.store rfl rfl rfl rfl rfl ty27 rfl (by decide) (Sp.lit rfl)) ?_
  refine RW.nil ?_
  repeat (refine W.seq ?_)
  refine W.region 20 27 (by decide) rfl rfl ?_
  refine RW.opd rfl rfl (LO.move rfl rfl) ?_
  refine RW.opd rfl rfl (LO.callP (fr := []) rfl rfl (hrts) fok9 (.own rfl rfl .nil) rfl rfl rfl (rtsC_pure _) (List.cons_ne_nil _ _) (by decide) (by decide) (by decide)) ?_
  refine RW.opd rfl rfl (LO.move rfl rfl) ?_
  refine RW.opd rfl rfl (LO.call1 (fr := []) rfl rfl (hrt) fok10 (.own rfl rfl (.cons rfl (.pure rfl) .nil)) rfl rfl rfl (List.cons_ne_nil _ _) (by decide) rfl) ?_
  refine RW.opd rfl rfl (LO.buildSlice rfl ty29 ty43 (by decide) (by decide) (.cons rfl rfl rfl rfl (Sp.of_all (ns := rtC r3) rfl) .nil)) ?_
  refine RW.opd rfl rfl (LO.append rfl rfl (SrcAV.own rfl rfl (cells_tk (os := rtC r3) (n := 1) (sz := 16) rfl)) rfl (rts_tk rfl) ty29 ty29 ty43 (by decide) (by omega) (by omega) (by decide)) ?_
  refine RW.opd rfl rfl (LO.assign rfl rfl) ?_
  refine RW.nil ?_
  rw [hap r3]
  obtain ⟨L, hL, hLl, hLo⟩ : ∃ L : List Rt, rs ++ [r3] = L ∧ L.length = rs.length + 1 ∧ ∀ r ∈ L, OkR r := ⟨_, rfl, by simp, fun r hr => by
    rcases List.mem_append.1 hr with h | h
    · exact hro r h
    · rw [List.mem_singleton] at h; subst h; exact hok3⟩
  rw [hL, ← hLl]
  clear hap hL hpol hrts hrt hnew
  have hL6 : L.length ≤ 11 := by omega
  repeat (refine W.seq ?_)
  refine W.region 31 34 (by decide) rfl rfl ?_
  refine RW.opd rfl rfl (LO.move rfl rfl) ?_
  refine RW.opd rfl rfl (LO.len rfl rfl ty29) ?_
  refine RW.opd rfl rfl (LO.move rfl rfl) ?_
  refine RW.nil ?_
  repeat (refine W.seq ?_)
  refine W.block ?_
  refine W.loop_keep (α := Nat) (fun x => L.length - x) 2 (fun x => [(4, .own 0 0), (5, .osl 1 0 L.length 16), (24, .osl 1 0 L.length 16), (26, .base (.int .i64 (x : Int)))]) (fun x => up (up mt 0 (some (poC p))) 1 (some (rtsC L))) (fun x => x ≤ L.length) 0 [(0, 14), (1, 25)] (.cons (t := 25) rfl (by first | exact .inl rfl | exact .inr ⟨rfl, fun _ h => by cases h⟩ | (exact .inl (by assumption)) | exact .inl rfl | exact .inl (rtsC_pure _)) .nil) (show 0 ≤ L.length from Nat.zero_le _) (by decide) ?_ ?_ ?_
  · (repeat' (first | exact LookR.nil | refine LookR.cons ?_ ?_)) <;> first | exact .inl ⟨rfl, rfl⟩ | exact .inr ⟨rfl, fun _ h => by cases h⟩ | exact .inl ⟨rfl, by first | rfl | assumption | exact rfl | exact (rtsC_pure _)⟩
  · (repeat' (first | exact all_mt | refine all_up ?_ ?_)) <;> first | exact ⟨rfl, _, rfl, .inr ⟨rfl, rfl⟩⟩ | exact ⟨rfl, _, rfl, .inl rfl⟩ | exact ⟨rfl, _, rfl, .inr ⟨rfl, by first | rfl | assumption | exact rfl | exact (rtsC_pure _)⟩⟩
  rintro i hIA ihA
  try (dsimp only at hIA)
  try dsimp only [baseT, List.cons_append, List.nil_append]
  by_cases hc : i < L.length
  rotate_left
  · have g1 : decide ((i : Int) < (L.length : Int)) = false := decide_eq_false (by omega)
    repeat (refine W.seq ?_)
    refine W.region 38 39 (by decide) rfl rfl ?_
    refine RW.opd rfl rfl (LO.lss rfl rfl rfl) ?_
    refine RW.nil ?_
    repeat (refine W.seq ?_)
    refine W.cond_f rfl (by first | rfl | assumption) ?_
    refine W.exit ?_
    repeat (refine W.seq ?_)
    refine W.region 144 146 (by decide) rfl rfl ?_
    refine RW.opd rfl rfl (LO.call0 (fr := []) rfl rfl (haw) fok15 .nil rfl) ?_
    refine RW.opd rfl rfl (LO.assign rfl rfl) ?_
    refine RW.nil ?_
    repeat (refine W.seq ?_)
    refine W.ret ⟨.inl rfl, _, mt, RVs.cons (RV.tmp rfl) (RVs.nil), all_mt, ?_⟩
    exact ⟨rfl, rfl⟩
  have g1 : decide ((i : Int) < (L.length : Int)) = true := decide_eq_true (by omega)
  have hii : (i : Int) + 1 = ((i + 1 : Nat) : Int) := by omega
  have hx := rts_at hc
  have hox := hLo L[i] (List.getElem_mem hc)
  obtain ⟨r, hre⟩ : ∃ r, L[i] = r := ⟨_, rfl⟩
  rw [hre] at hx hox
  have v1 := value_any p r.from_ (by omega)
  have v2 := valueX_any p r.from_ (by omega)
  obtain ⟨V, hV⟩ : ∃ V, valP p.pr r.from_ = V := ⟨_, rfl⟩
  rw [hV] at v1 v2
  have k1 : (V != V) = false := by simp
  obtain ⟨pf, fr, aa⟩ := r
  rw [rt_lit] at hx
  dsimp only at v1 v2
  repeat (refine W.seq ?_)
  refine W.region 38 39 (by decide) rfl rfl ?_
  refine RW.opd rfl rfl (LO.lss rfl rfl rfl) ?_
  refine RW.nil ?_
  repeat (refine W.seq ?_)
  refine W.cond_t rfl (by first | rfl | assumption) ?_
  refine W.skip ?_
  repeat (refine W.seq ?_)
  refine W.block ?_
  repeat (refine W.seq ?_)
  refine W.region 43 47 (by decide) rfl rfl ?_
  refine RW.opd rfl rfl (LO.indexAddr rfl rfl rfl rfl ty29 ty43 ?_) ?_; (· (first | omega | decide | assumption | fail | (simp; done) | (simp; omega)))
  refine RW.opd rfl rfl (LO.load_agg rfl rfl rfl ty43 rfl hx) ?_
  refine RW.opd rfl rfl (LO.alloc rfl ty43) ?_
  refine RW.opn rfl rfl (LO.store rfl rfl rfl rfl rfl ty43 rfl (by decide) (Sp.lit rfl)) ?_
  refine RW.nil ?_
  repeat (refine W.seq ?_)
  refine W.regionD 51 60 (by decide) rfl mixed rfl ?_
  refine RW.opd rfl rfl (LO.load_agg rfl rfl rfl ty27 rfl (Tk.lit rfl)) ?_
  refine RW.opd rfl rfl (LO.fieldAddr rfl rfl ty43 rfl (by decide)) ?_
  refine RW.opd rfl rfl (LO.load rfl rfl rfl rfl ty3 rfl) ?_
  refine RW.opd rfl rfl (LO.call0 (fr := []) rfl rfl (v1) fok11 (.cons rfl (.pure rfl) (.cons rfl (.pure rfl) .nil)) rfl) ?_
  refine RW.opd rfl rfl (LO.load_agg rfl rfl rfl ty27 rfl (Tk.lit rfl)) ?_
  refine RW.opd rfl rfl (LO.fieldAddr rfl rfl ty43 rfl (by decide)) ?_
  refine RW.opd rfl rfl (LO.load rfl rfl rfl rfl ty3 rfl) ?_
  refine RW.opd rfl rfl (LO.call0 (fr := []) rfl rfl (v2) fok12 (.cons rfl (.pure rfl) (.cons rfl (.pure rfl) .nil)) rfl) ?_
  refine RW.opd rfl rfl (LO.neq rfl rfl rfl) ?_
  refine RW.nil ⟨by kernel_rfl, ?_⟩
  repeat (refine W.seq ?_)
  refine W.cond_f rfl (by first | rfl | assumption) ?_
  refine W.skip ?_
  repeat (refine W.seq ?_)
  refine W.region 69 72 (by decide) rfl rfl ?_
  refine RW.opd rfl rfl (LO.move rfl rfl) ?_
  refine RW.opd rfl rfl (LO.len rfl rfl ty29) ?_
  refine RW.opd rfl rfl (LO.move rfl rfl) ?_
  refine RW.nil ?_
  repeat (refine W.seq ?_)
  refine W.block ?_
  refine W.loop_keep (α := Nat) (fun x => L.length - x) 3 (fun x => [(4, .own 0 0), (5, .osl 1 0 L.length 16), (7, .own 2 0), (24, .osl 1 0 L.length 16), (39, .osl 1 0 L.length 16), (41, .base (.int .i64 (x : Int)))]) (fun x => up (up (up mt 0 (some (poC p))) 1 (some (rtsC L))) 2 (some (rtC ⟨pf, fr, aa⟩))) (fun x => x ≤ L.length) 0 [(0, 0), (1, 1), (2, 45)] (.cons (t := 25) rfl (by first | exact .inl rfl | exact .inr ⟨rfl, fun _ h => by cases h⟩ | (exact .inl (by assumption)) | exact .inl rfl | exact .inl (rtsC_pure _)) (.cons (t := 26) rfl (by first | exact .inl rfl | exact .inr ⟨rfl, fun _ h => by cases h⟩ | (exact .inl (by assumption)) | exact .inl rfl | exact .inl (rtsC_pure _)) (.cons (t := 40) rfl (by first | exact .inl rfl | exact .inr ⟨rfl, fun _ h => by cases h⟩ | (exact .inl (by assumption)) | exact .inl rfl | exact .inl (rtsC_pure _)) .nil))) (show 0 ≤ L.length from Nat.zero_le _) (by decide) ?_ ?_ ?_
  · (repeat' (first | exact LookR.nil | refine LookR.cons ?_ ?_)) <;> first | exact .inl ⟨rfl, rfl⟩ | exact .inr ⟨rfl, fun _ h => by cases h⟩ | exact .inl ⟨rfl, by first | rfl | assumption | exact rfl | exact (rtsC_pure _)⟩
  · (repeat' (first | exact all_mt | refine all_up ?_ ?_)) <;> first | exact ⟨rfl, _, rfl, .inr ⟨rfl, rfl⟩⟩ | exact ⟨rfl, _, rfl, .inl rfl⟩ | exact ⟨rfl, _, rfl, .inr ⟨rfl, by first | rfl | assumption | exact rfl | exact (rtsC_pure _)⟩⟩
  rintro j hIB ihB
  try (dsimp only at hIB)
  try dsimp only [baseT, List.cons_append, List.nil_append]
  by_cases hcj : j < L.length
  rotate_left
  · have g2 : decide ((j : Int) < (L.length : Int)) = false := decide_eq_false (by omega)
    repeat (refine W.seq ?_)
    refine W.region 76 77 (by decide) rfl rfl ?_
    refine RW.opd rfl rfl (LO.lss rfl rfl rfl) ?_
    refine RW.nil ?_
    repeat (refine W.seq ?_)
    refine W.cond_f rfl (by first | rfl | assumption) ?_
    refine W.exit ?_
    repeat (refine W.seq ?_)
    refine W.region 138 140 (by decide) rfl rfl ?_
    refine RW.opd rfl rfl (LO.add_in rfl rfl rfl ?_) ?_; (· (first | exact IntWalk.i64_in _ (by omega) | assumption))
    refine RW.opd rfl rfl (LO.move rfl rfl) ?_
    refine RW.nil ?_
    rw [hii]
    refine WL.renameL [(0, 0), (1, 1)] 2 (by decide) ?_ ?_ (ihA (i + 1) (show L.length - (i + 1) < L.length - i from by omega) (show (i + 1) ≤ L.length from (show i + 1 ≤ L.length by omega)))
    · (repeat' (first | exact LookR.nil | refine LookR.cons ?_ ?_)) <;> first | exact .inl ⟨rfl, rfl⟩ | exact .inr ⟨rfl, fun _ h => by cases h⟩ | exact .inl ⟨rfl, by first | rfl | assumption | exact rfl | exact (rtsC_pure _)⟩
    · (repeat' (first | exact all_mt | refine all_up ?_ ?_)) <;> first | exact ⟨rfl, _, rfl, .inr ⟨rfl, rfl⟩⟩ | exact ⟨rfl, _, rfl, .inl rfl⟩ | exact ⟨rfl, _, rfl, .inr ⟨rfl, by first | rfl | assumption | exact rfl | exact (rtsC_pure _)⟩⟩
  have g2 : decide ((j : Int) < (L.length : Int)) = true := decide_eq_true (by omega)
  have hjj : (j : Int) + 1 = ((j + 1 : Nat) : Int) := by omega
  have hy := rts_at hcj
  have hoy := hLo L[j] (List.getElem_mem hcj)
  obtain ⟨r', hre'⟩ : ∃ r, L[j] = r := ⟨_, rfl⟩
  rw [hre'] at hy hoy
  have c1 := compare_any p ⟨pf, fr, aa⟩ r' (by omega) hox hoy
  have c2 := rcompare_any p ⟨pf, fr, aa⟩ r' (by omega) hpb hox hoy
  unfold cmpV at c1 c2
  obtain ⟨U, hU⟩ : ∃ U, (cmpF p ⟨pf, fr, aa⟩ r').1 = U := ⟨_, rfl⟩
  obtain ⟨W', hW⟩ : ∃ W', (cmpF p ⟨pf, fr, aa⟩ r').2 = W' := ⟨_, rfl⟩
  rw [hU, hW] at c1 c2
  have k2 : (U != U) = false := by simp
  have k3 : (W' != W') = false := by simp
  obtain ⟨pf', fr', aa'⟩ := r'
  rw [rt_lit] at hy
  repeat (refine W.seq ?_)
  refine W.region 76 77 (by decide) rfl rfl ?_
  refine RW.opd rfl rfl (LO.lss rfl rfl rfl) ?_
  refine RW.nil ?_
  repeat (refine W.seq ?_)
  refine W.cond_t rfl (by first | rfl | assumption) ?_
  refine W.skip ?_
  repeat (refine W.seq ?_)
  refine W.block ?_
  repeat (refine W.seq ?_)
  refine W.region 81 85 (by decide) rfl rfl ?_
  refine RW.opd rfl rfl (LO.indexAddr rfl rfl rfl rfl ty29 ty43 ?_) ?_; (· (first | omega | decide | assumption | fail | (simp; done) | (simp; omega)))
  refine RW.opd rfl rfl (LO.load_agg rfl rfl rfl ty43 rfl hy) ?_
  refine RW.opd rfl rfl (LO.alloc rfl ty43) ?_
  refine RW.opn rfl rfl (LO.store rfl rfl rfl rfl rfl ty43 rfl (by decide) (Sp.lit rfl)) ?_
  refine RW.nil ?_
  repeat (refine W.seq ?_)
  refine W.region 89 98 (by decide) rfl rfl ?_
  refine RW.opd rfl rfl (LO.load_agg rfl rfl rfl ty27 rfl (Tk.lit rfl)) ?_
  refine RW.opd rfl rfl (LO.load_agg rfl rfl rfl ty43 rfl (Tk.lit rfl)) ?_
  refine RW.opd rfl rfl (LO.load_agg rfl rfl rfl ty43 rfl (Tk.lit rfl)) ?_
  refine RW.opd rfl rfl (LO.call0 (fr := []) rfl rfl (c1) fok13 (.cons rfl (.pure rfl) (.cons rfl (.pure rfl) (.cons rfl (.pure rfl) .nil))) rfl) ?_
  refine RW.opd rfl rfl (LO.move rfl rfl) ?_
  refine RW.opd rfl rfl (LO.extract rfl rfl rfl) ?_
  refine RW.opd rfl rfl (LO.extract rfl rfl rfl) ?_
  refine RW.opd rfl rfl (LO.assign rfl rfl) ?_
  refine RW.opd rfl rfl (LO.assign rfl rfl) ?_
  refine RW.nil ?_
  repeat (refine W.seq ?_)
  refine W.region 102 111 (by decide) rfl rfl ?_
  refine RW.opd rfl rfl (LO.load_agg rfl rfl rfl ty27 rfl (Tk.lit rfl)) ?_
  refine RW.opd rfl rfl (LO.load_agg rfl rfl rfl ty43 rfl (Tk.lit rfl)) ?_
  refine RW.opd rfl rfl (LO.load_agg rfl rfl rfl ty43 rfl (Tk.lit rfl)) ?_
  refine RW.opd rfl rfl (LO.call0 (fr := []) rfl rfl (c2) fok14 (.cons rfl (.pure rfl) (.cons rfl (.pure rfl) (.cons rfl (.pure rfl) .nil))) rfl) ?_
  refine RW.opd rfl rfl (LO.move rfl rfl) ?_
  refine RW.opd rfl rfl (LO.extract rfl rfl rfl) ?_
  refine RW.opd rfl rfl (LO.extract rfl rfl rfl) ?_
  refine RW.opd rfl rfl (LO.assign rfl rfl) ?_
  refine RW.opd rfl rfl (LO.assign rfl rfl) ?_
  refine RW.nil ?_
  repeat (refine W.seq ?_)
  refine W.region 115 123 (by decide) rfl rfl ?_
  refine RW.opd rfl rfl (LO.move rfl rfl) ?_
  refine RW.opd rfl rfl (LO.move rfl rfl) ?_
  refine RW.opd rfl rfl (LO.neq rfl rfl rfl) ?_
  refine RW.opd rfl rfl (LO.move rfl rfl) ?_
  refine RW.gd rfl rfl rfl ?_ rfl (LO.move rfl rfl) ?_; (· (first | rfl | assumption))
  refine RW.gd rfl rfl rfl ?_ rfl (LO.move rfl rfl) ?_; (· (first | rfl | assumption))
  refine RW.gd rfl rfl rfl ?_ rfl (LO.neq rfl rfl rfl) ?_; (· (first | rfl | assumption))
  refine RW.opd rfl rfl (LO.pick_f rfl rfl ?_ rfl) ?_; (· (first | rfl | assumption))
  refine RW.nil ?_
  repeat (refine W.seq ?_)
  refine W.cond_f rfl (by first | rfl | assumption) ?_
  refine W.skip ?_
  repeat (refine W.seq ?_)
  refine W.region 132 134 (by decide) rfl rfl ?_
  refine RW.opd rfl rfl (LO.add_in rfl rfl rfl ?_) ?_; (· (first | exact IntWalk.i64_in _ (by omega) | assumption))
  refine RW.opd rfl rfl (LO.move rfl rfl) ?_
  refine RW.nil ?_
  rw [hjj]
  refine WL.renameL [(0, 0), (1, 1), (2, 2)] 3 (by decide) ?_ ?_ (ihB (j + 1) (show L.length - (j + 1) < L.length - j from by omega) (show (j + 1) ≤ L.length from (show j + 1 ≤ L.length by omega)))
  · (repeat' (first | exact LookR.nil | refine LookR.cons ?_ ?_)) <;> first | exact .inl ⟨rfl, rfl⟩ | exact .inr ⟨rfl, fun _ h => by cases h⟩ | exact .inl ⟨rfl, by first | rfl | assumption | exact rfl | exact (rtsC_pure _)⟩
  · (repeat' (first | exact all_mt | refine all_up ?_ ?_)) <;> first | exact ⟨rfl, _, rfl, .inr ⟨rfl, rfl⟩⟩ | exact ⟨rfl, _, rfl, .inl rfl⟩ | exact ⟨rfl, _, rfl, .inr ⟨rfl, by first | rfl | assumption | exact rfl | exact (rtsC_pure _)⟩⟩
end Go.Proofs.Ytgklkocmimjifaa
