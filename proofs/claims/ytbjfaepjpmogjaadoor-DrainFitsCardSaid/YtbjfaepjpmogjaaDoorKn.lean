/-
  Steps by the document's text; comparing rounds and steps.
-/
import Derived.Test.YtbjfaepjpmogjaaDoorKk
import Derived.Test.YtbjfaepjpmogjaaDoorKm
namespace Go.Proofs.YtbjfaepjpmogjaaDoor
open Go.RowKit

set_option maxHeartbeats 1000000 in
theorem stepsX_any (L : List (List Itm)) (hL : L.length ≤ 1000) (hc : ∀ c ∈ L, c.length ≤ 1000) : AFn Tryd.prog 16 0 [.isl (gsC L) L.length] mt (.isl (stsC (stepsF L)) (stepsF L).length) mt := by
  refine AFn.eq Tryd.func16 rfl rfl (Nat.le_of_ble_eq_true rfl) ?_
  repeat (refine W.seq ?_)
  refine W.region 0 1 (by decide) rfl rfl ?_
  refine RW.opd rfl rfl (LO.assign rfl rfl) ?_
  refine RW.nil ?_
  repeat (refine W.seq ?_)
  refine W.region 5 6 (by decide) rfl rfl ?_
  refine RW.opd rfl rfl (LO.assign rfl rfl) ?_
  refine RW.nil ?_
  refine W.name 6 (6 + 1) (t := 3) (sz := 3) rfl (by decide) (by decide) ?_
  repeat (refine W.seq ?_)
  refine W.region 10 13 (by decide) rfl rfl ?_
  refine RW.opd rfl rfl (LO.move rfl rfl) ?_
  refine RW.opd rfl rfl (LO.len_isl rfl rfl rfl ty34) ?_
  refine RW.opd rfl rfl (LO.move rfl rfl) ?_
  refine RW.nil ?_
  repeat (refine W.seq ?_)
  refine W.block ?_
  refine W.rename [(0, 6)] 1 (T' := up (up (up (up mt 3 (some (.osl 0 0 (([] : List Stp)).length 3))) 9 (some (.isl (gsC L) L.length))) 10 (some (.base (.int .i64 (L.length : Int))))) 11 (some (.base (.int .i64 (0 : Int))))) (H' := up mt 0 (some (stsC (([] : List Stp))))) (by decide) ?_ ?_ ?_
  · (repeat' (first | exact all_mt | refine all_up ?_ ?_)) <;> first | exact .inl ⟨rfl, rfl⟩ | exact .inr ⟨rfl, fun _ h => by cases h⟩ | exact .inl ⟨rfl, by first | rfl | assumption | exact (sts_pure _)⟩
  · (repeat' (first | exact all_mt | refine all_up ?_ ?_)) <;> first | exact ⟨rfl, _, rfl, .inr ⟨rfl, rfl⟩⟩ | exact ⟨rfl, _, rfl, .inl rfl⟩ | exact ⟨rfl, _, rfl, .inr ⟨rfl, by first | rfl | assumption | exact (sts_pure _)⟩⟩
  refine W.loop_ind (α := Nat × List Stp) (fun x => L.length - x.1) 1 (fun x => up (up (up (up mt 3 (some (.osl 0 0 x.2.length 3))) 9 (some (.isl (gsC L) L.length))) 10 (some (.base (.int .i64 (L.length : Int))))) 11 (some (.base (.int .i64 (x.1 : Int))))) (fun x => up mt 0 (some (stsC x.2))) (fun x => x.1 ≤ L.length ∧ x.2 = stepsF (L.take x.1)) (0, (([] : List Stp))) (show 0 ≤ L.length ∧ (([] : List Stp)) = stepsF (L.take 0) from ⟨Nat.zero_le _, rfl⟩) ?_
  rintro ⟨i, o⟩ hIA ihA
  try (dsimp only at hIA)
  try dsimp only
  obtain ⟨hi, ho⟩ := hIA
  by_cases hci : i < L.length
  · have g1 : decide ((i : Int) < (L.length : Int)) = true := decide_eq_true (by omega)
    have hol : o.length = i * 4 := by rw [ho, stepsF_len, List.length_take]; congr 1; omega
    have hcl := hc _ (List.getElem_mem hci)
    have hnx := stepsF_take hci
    rw [← ho] at hnx
    repeat (refine W.seq ?_)
    refine W.region 17 18 (by decide) rfl rfl ?_
    refine RW.opd rfl rfl (LO.lss rfl rfl rfl) ?_
    refine RW.nil ?_
    repeat (refine W.seq ?_)
    refine W.cond_t rfl (by first | rfl | assumption) ?_
    refine W.skip ?_
    repeat (refine W.seq ?_)
    refine W.block ?_
    repeat (refine W.seq ?_)
    refine W.region 22 25 (by decide) rfl rfl ?_
    refine RW.opd rfl rfl (LO.indexAddr_isl rfl rfl rfl rfl rfl ty34 ty22 ?_) ?_; (· (first | omega | decide | assumption | fail | (simp; done) | (simp; omega)))
    refine RW.opd rfl rfl (LO.load_imm rfl rfl (gs_at hci) ty22 rfl) ?_
    refine RW.opd rfl rfl (LO.assign rfl rfl) ?_
    refine RW.nil ?_
    repeat (refine W.seq ?_)
    refine W.region 29 32 (by decide) rfl rfl ?_
    refine RW.opd rfl rfl (LO.buildSlice rfl ty23 ty3 (by decide) (by decide) (.cons rfl rfl rfl rfl (Sp.lit rfl) (.cons rfl rfl rfl rfl (Sp.lit rfl) (.cons rfl rfl rfl rfl (Sp.lit rfl) (.cons rfl rfl rfl rfl (Sp.lit rfl) .nil))))) ?_
    refine RW.opd rfl rfl (LO.len rfl rfl ty23) ?_
    refine RW.opd rfl rfl (LO.move rfl rfl) ?_
    refine RW.nil ?_
    repeat (refine W.seq ?_)
    refine W.block ?_
    refine W.rename [(0, 0), (1, 29)] 2 (T' := up (up (up (up (up (up (up (up mt 3 (some (.osl 0 0 o.length 3))) 5 (some (.isl (itsC L[i]) L[i].length))) 9 (some (.isl (gsC L) L.length))) 10 (some (.base (.int .i64 (L.length : Int))))) 11 (some (.base (.int .i64 (i : Int))))) 15 (some (.osl 1 0 4 1))) 16 (some (.base (.int .i64 4)))) 17 (some (.base (.int .i64 (0 : Int))))) (H' := up (up mt 0 (some (stsC o))) 1 (some ([.base (.int .i64 1), .base (.int .i64 2), .base (.int .i64 3), .base (.int .i64 4)]))) (by decide) ?_ ?_ ?_
    · (repeat' (first | exact all_mt | refine all_up ?_ ?_)) <;> first | exact .inl ⟨rfl, rfl⟩ | exact .inr ⟨rfl, fun _ h => by cases h⟩ | exact .inl ⟨rfl, by first | rfl | assumption | exact (sts_pure _)⟩
    · (repeat' (first | exact all_mt | refine all_up ?_ ?_)) <;> first | exact ⟨rfl, _, rfl, .inr ⟨rfl, rfl⟩⟩ | exact ⟨rfl, _, rfl, .inl rfl⟩ | exact ⟨rfl, _, rfl, .inr ⟨rfl, by first | rfl | assumption | exact (sts_pure _)⟩⟩
    refine W.loop_ind (α := Nat × List Stp) (fun x => 4 - x.1) 2 (fun x => up (up (up (up (up (up (up (up mt 3 (some (.osl 0 0 x.2.length 3))) 5 (some (.isl (itsC L[i]) L[i].length))) 9 (some (.isl (gsC L) L.length))) 10 (some (.base (.int .i64 (L.length : Int))))) 11 (some (.base (.int .i64 (i : Int))))) 15 (some (.osl 1 0 4 1))) 16 (some (.base (.int .i64 4)))) 17 (some (.base (.int .i64 (x.1 : Int))))) (fun x => up (up mt 0 (some (stsC x.2))) 1 (some ([.base (.int .i64 1), .base (.int .i64 2), .base (.int .i64 3), .base (.int .i64 4)]))) (fun x => x.1 ≤ 4 ∧ x.2 = o ++ steps4 L[i] x.1) (0, o) (show 0 ≤ 4 ∧ o = o ++ steps4 L[i] 0 from ⟨Nat.zero_le _, (List.append_nil _).symm⟩) ?_
    rintro ⟨j, o2⟩ hIB ihB
    try (dsimp only at hIB)
    try dsimp only
    obtain ⟨hj, ho2⟩ := hIB
    by_cases hcj : j < 4
    · have g2 : decide ((j : Int) < 4) = true := decide_eq_true (by omega)
      have ho2l : o2.length = i * 4 + j := by rw [ho2, List.length_append, hol, steps4_len]
      have hnj := steps4_succ L[i] j
      repeat (refine W.seq ?_)
      refine W.region 36 37 (by decide) rfl rfl ?_
      refine RW.opd rfl rfl (LO.lss rfl rfl rfl) ?_
      refine RW.nil ?_
      repeat (refine W.seq ?_)
      refine W.cond_t rfl (by first | rfl | assumption) ?_
      refine W.skip ?_
      repeat (refine W.seq ?_)
      refine W.block ?_
      repeat (refine W.seq ?_)
      refine W.region 41 44 (by decide) rfl rfl ?_
      refine RW.opd rfl rfl (LO.indexAddr rfl rfl rfl rfl ty23 ty3 ?_) ?_; (· (first | omega | decide | assumption | fail | (simp; done) | (simp; omega)))
      refine RW.opd rfl rfl (LO.load rfl rfl rfl (kinds_at hcj) ty3 rfl) ?_
      refine RW.opd rfl rfl (LO.assign rfl rfl) ?_
      refine RW.nil ?_
      repeat (refine W.seq ?_)
      refine W.region 48 54 (by decide) rfl rfl ?_
      refine RW.opd rfl rfl (LO.move rfl rfl) ?_
      refine RW.opd rfl rfl (LO.move rfl rfl) ?_
      refine RW.opd rfl rfl (LO.append_nil rfl rfl (SrcAV.isl rfl rfl ?_) ty22 ty22 ty45 (by decide) ?_ ?_ ?_) ?_; (· (first | rfl | assumption | exact flatLen (c := itC) (fun _ => rfl) _)); (· (first | omega | decide | assumption | exact flatLen (c := itC) (fun _ => rfl) _ | (simp; done) | (simp; omega))); (· (first | omega | decide | assumption | exact flatLen (c := itC) (fun _ => rfl) _ | (simp; done) | (simp; omega))); (· (first | decide | omega))
      refine RW.opd rfl rfl (LO.build_st rfl ty74 (.cons rfl rfl rfl rfl (Sp.lit rfl) (.cons rfl rfl rfl rfl (Sp.lit rfl) .nil))) ?_
      refine RW.opd rfl rfl (LO.alloc rfl ty74) ?_
      refine RW.opn rfl rfl (LO.store rfl rfl rfl rfl rfl ty74 rfl (by decide) (Sp.lit rfl)) ?_
      refine RW.nil ?_
      refine W.frzc (q := 52) (j := 2) (r := 50) rfl rfl (by decide) rfl (its_all rfl) (its_pure _) (Sp.lit rfl) ?_
      by_cases hj1 : j = 1
      case' pos =>
        have k1 : ((j : Int) + 1 == 2) = true := by subst hj1; rfl
        have hst : step1 L[i] j = ⟨(j : Int) + 1, 8, L[i]⟩ := by unfold step1; rw [if_pos hj1]
        repeat (refine W.seq ?_)
        refine W.region 58 60 (by decide) rfl rfl ?_
        refine RW.opd rfl rfl (LO.move rfl rfl) ?_
        refine RW.opd rfl rfl (LO.eql rfl rfl rfl) ?_
        refine RW.nil ?_
        repeat (refine W.seq ?_)
        refine W.cond_t rfl (by first | rfl | assumption) ?_
        repeat (refine W.seq ?_)
        refine W.region 64 66 (by decide) rfl rfl ?_
        refine RW.opd rfl rfl (LO.fieldAddr rfl rfl ty74 rfl (by decide)) ?_
        refine RW.opn rfl rfl (LO.store rfl rfl rfl rfl rfl ty3 rfl (by decide) (Sp.lit rfl)) ?_
        refine RW.nil ?_
      case' neg =>
        have k1 : ((j : Int) + 1 == 2) = false := by simp; omega
        have hst : step1 L[i] j = ⟨(j : Int) + 1, 0, L[i]⟩ := by unfold step1; rw [if_neg hj1]
        repeat (refine W.seq ?_)
        refine W.region 58 60 (by decide) rfl rfl ?_
        refine RW.opd rfl rfl (LO.move rfl rfl) ?_
        refine RW.opd rfl rfl (LO.eql rfl rfl rfl) ?_
        refine RW.nil ?_
        repeat (refine W.seq ?_)
        refine W.cond_f rfl (by first | rfl | assumption) ?_
        refine W.skip ?_
      case' pos =>
        repeat (refine W.seq ?_)
        refine W.region 70 75 (by decide) rfl rfl ?_
        refine RW.opd rfl rfl (LO.move rfl rfl) ?_
        refine RW.opd rfl rfl (LO.load_agg rfl rfl rfl ty74 rfl (Tk.lit rfl)) ?_
        refine RW.opd rfl rfl (LO.buildSlice rfl ty40 ty74 (by decide) (by decide) (.cons rfl rfl rfl rfl (Sp.lit rfl) .nil)) ?_
        refine RW.opd rfl rfl (LO.append rfl rfl (SrcAV.own rfl rfl (Tk.lit rfl)) rfl (sts_all rfl) ty40 ty40 ty74 (by decide) ?_ ?_ ?_) ?_; (· (first | omega | decide | assumption | fail | (simp; done) | (simp; omega))); (· (first | omega | decide | assumption | fail | (simp; done) | (simp; omega))); (· (first | decide | omega))
        refine RW.opd rfl rfl (LO.assign rfl rfl) ?_
        refine RW.nil ?_
        repeat (refine W.seq ?_)
        refine W.region 79 81 (by decide) rfl rfl ?_
        refine RW.opd rfl rfl (LO.add_in rfl rfl rfl ?_) ?_; (· (first | exact IntWalk.i64_in _ (by omega) | assumption))
        refine RW.opd rfl rfl (LO.move rfl rfl) ?_
        refine RW.nil ?_
        rw [show stsC o2 ++ [AV.base (.int .i64 ((j : Int) + 1)), AV.base (.int .i64 8), AV.isl (itsC L[i]) L[i].length] = stsC (o2 ++ [step1 L[i] j]) from by rw [hst]; exact sts_snoc _ ⟨(j : Int) + 1, 8, L[i]⟩, show o2.length + 1 = (o2 ++ [step1 L[i] j]).length from by simp]
        refine WL.rename [(0, 73), (1, 1)] 2 (by decide) ?_ ?_ (ihB ((j + 1), (o2 ++ [step1 L[i] j])) (show 4 - (j + 1) < 4 - j from by omega) (show (j + 1) ≤ 4 ∧ (o2 ++ [step1 L[i] j]) = o ++ steps4 L[i] (j + 1) from ⟨by omega, by rw [ho2, hnj, List.append_assoc]⟩))
        · (repeat' (first | exact all_mt | refine all_up ?_ ?_)) <;> first | exact .inl ⟨rfl, rfl⟩ | exact .inr ⟨rfl, fun _ h => by cases h⟩ | exact .inl ⟨rfl, by first | rfl | assumption | exact (sts_pure _)⟩
        · (repeat' (first | exact all_mt | refine all_up ?_ ?_)) <;> first | exact ⟨rfl, _, rfl, .inr ⟨rfl, rfl⟩⟩ | exact ⟨rfl, _, rfl, .inl rfl⟩ | exact ⟨rfl, _, rfl, .inr ⟨rfl, by first | rfl | assumption | exact (sts_pure _)⟩⟩
      case' neg =>
        repeat (refine W.seq ?_)
        refine W.region 70 75 (by decide) rfl rfl ?_
        refine RW.opd rfl rfl (LO.move rfl rfl) ?_
        refine RW.opd rfl rfl (LO.load_agg rfl rfl rfl ty74 rfl (Tk.lit rfl)) ?_
        refine RW.opd rfl rfl (LO.buildSlice rfl ty40 ty74 (by decide) (by decide) (.cons rfl rfl rfl rfl (Sp.lit rfl) .nil)) ?_
        refine RW.opd rfl rfl (LO.append rfl rfl (SrcAV.own rfl rfl (Tk.lit rfl)) rfl (sts_all rfl) ty40 ty40 ty74 (by decide) ?_ ?_ ?_) ?_; (· (first | omega | decide | assumption | fail | (simp; done) | (simp; omega))); (· (first | omega | decide | assumption | fail | (simp; done) | (simp; omega))); (· (first | decide | omega))
        refine RW.opd rfl rfl (LO.assign rfl rfl) ?_
        refine RW.nil ?_
        repeat (refine W.seq ?_)
        refine W.region 79 81 (by decide) rfl rfl ?_
        refine RW.opd rfl rfl (LO.add_in rfl rfl rfl ?_) ?_; (· (first | exact IntWalk.i64_in _ (by omega) | assumption))
        refine RW.opd rfl rfl (LO.move rfl rfl) ?_
        refine RW.nil ?_
        rw [show stsC o2 ++ [AV.base (.int .i64 ((j : Int) + 1)), AV.base (.int .i64 0), AV.isl (itsC L[i]) L[i].length] = stsC (o2 ++ [step1 L[i] j]) from by rw [hst]; exact sts_snoc _ ⟨(j : Int) + 1, 0, L[i]⟩, show o2.length + 1 = (o2 ++ [step1 L[i] j]).length from by simp]
        refine WL.rename [(0, 73), (1, 1)] 2 (by decide) ?_ ?_ (ihB ((j + 1), (o2 ++ [step1 L[i] j])) (show 4 - (j + 1) < 4 - j from by omega) (show (j + 1) ≤ 4 ∧ (o2 ++ [step1 L[i] j]) = o ++ steps4 L[i] (j + 1) from ⟨by omega, by rw [ho2, hnj, List.append_assoc]⟩))
        · (repeat' (first | exact all_mt | refine all_up ?_ ?_)) <;> first | exact .inl ⟨rfl, rfl⟩ | exact .inr ⟨rfl, fun _ h => by cases h⟩ | exact .inl ⟨rfl, by first | rfl | assumption | exact (sts_pure _)⟩
        · (repeat' (first | exact all_mt | refine all_up ?_ ?_)) <;> first | exact ⟨rfl, _, rfl, .inr ⟨rfl, rfl⟩⟩ | exact ⟨rfl, _, rfl, .inl rfl⟩ | exact ⟨rfl, _, rfl, .inr ⟨rfl, by first | rfl | assumption | exact (sts_pure _)⟩⟩
    · have g2 : decide ((j : Int) < 4) = false := decide_eq_false (by omega)
      obtain rfl : j = 4 := by omega
      repeat (refine W.seq ?_)
      refine W.region 36 37 (by decide) rfl rfl ?_
      refine RW.opd rfl rfl (LO.lss rfl rfl rfl) ?_
      refine RW.nil ?_
      repeat (refine W.seq ?_)
      refine W.cond_f rfl (by first | rfl | assumption) ?_
      refine W.exit ?_
      repeat (refine W.seq ?_)
      refine W.region 85 87 (by decide) rfl rfl ?_
      refine RW.opd rfl rfl (LO.add_in rfl rfl rfl ?_) ?_; (· (first | exact IntWalk.i64_in _ (by omega) | assumption))
      refine RW.opd rfl rfl (LO.move rfl rfl) ?_
      refine RW.nil ?_
      refine WL.rename [(0, 0)] 1 (by decide) ?_ ?_ (ihA ((i + 1), o2) (show L.length - (i + 1) < L.length - i from by omega) (show (i + 1) ≤ L.length ∧ o2 = stepsF (L.take (i + 1)) from ⟨by omega, by rw [ho2, hnx]⟩))
      · (repeat' (first | exact all_mt | refine all_up ?_ ?_)) <;> first | exact .inl ⟨rfl, rfl⟩ | exact .inr ⟨rfl, fun _ h => by cases h⟩ | exact .inl ⟨rfl, by first | rfl | assumption | exact (sts_pure _)⟩
      · (repeat' (first | exact all_mt | refine all_up ?_ ?_)) <;> first | exact ⟨rfl, _, rfl, .inr ⟨rfl, rfl⟩⟩ | exact ⟨rfl, _, rfl, .inl rfl⟩ | exact ⟨rfl, _, rfl, .inr ⟨rfl, by first | rfl | assumption | exact (sts_pure _)⟩⟩
  · have g1 : decide ((i : Int) < (L.length : Int)) = false := decide_eq_false (by omega)
    obtain rfl : i = L.length := by omega
    rw [List.take_length] at ho
    repeat (refine W.seq ?_)
    refine W.region 17 18 (by decide) rfl rfl ?_
    refine RW.opd rfl rfl (LO.lss rfl rfl rfl) ?_
    refine RW.nil ?_
    repeat (refine W.seq ?_)
    refine W.cond_f rfl (by first | rfl | assumption) ?_
    refine W.exit ?_
    repeat (refine W.seq ?_)
    refine W.region 91 93 (by decide) rfl rfl ?_
    refine RW.opd rfl rfl (LO.move rfl rfl) ?_
    refine RW.opd rfl rfl (LO.assign rfl rfl) ?_
    refine RW.nil ?_
    refine W.frz1 (t := 2) rfl rfl (sts_all rfl) (sts_pure _) ?_
    repeat (refine W.seq ?_)
    refine W.ret ⟨.inl rfl, _, mt, RVs.cons (RV.tmp rfl) (RVs.nil), all_mt, ?_⟩
    exact ⟨by rw [ho]; rfl, rfl⟩
theorem sameI_any (l : List Itm) (hl : l.length ≤ 1000) : AFn Tryd.prog 34 0 [.isl (itsC l) l.length, .isl (itsC l) l.length] mt (.base (.bool true)) mt := by
  refine AFn.eq Tryd.func34 rfl rfl (Nat.le_of_ble_eq_true rfl) ?_
  have hne : ((l.length : Int) != (l.length : Int)) = false := by simp
  repeat (refine W.seq ?_)
  refine W.region 0 1 (by decide) rfl rfl ?_
  refine RW.opd rfl rfl (LO.assign rfl rfl) ?_
  refine RW.nil ?_
  repeat (refine W.seq ?_)
  refine W.region 5 10 (by decide) rfl rfl ?_
  refine RW.opd rfl rfl (LO.move rfl rfl) ?_
  refine RW.opd rfl rfl (LO.len_isl rfl rfl rfl ty22) ?_
  refine RW.opd rfl rfl (LO.move rfl rfl) ?_
  refine RW.opd rfl rfl (LO.len_isl rfl rfl rfl ty22) ?_
  refine RW.opd rfl rfl (LO.neq rfl rfl rfl) ?_
  refine RW.nil ?_
  repeat (refine W.seq ?_)
  refine W.cond_f rfl (by first | rfl | assumption) ?_
  refine W.skip ?_
  repeat (refine W.seq ?_)
  refine W.region 19 22 (by decide) rfl rfl ?_
  refine RW.opd rfl rfl (LO.move rfl rfl) ?_
  refine RW.opd rfl rfl (LO.len_isl rfl rfl rfl ty22) ?_
  refine RW.opd rfl rfl (LO.move rfl rfl) ?_
  refine RW.nil ?_
  repeat (refine W.seq ?_)
  refine W.block ?_
  refine W.rename [] 0 (T' := up (up (up (up mt 0 (some (.isl (itsC l) l.length))) 1 (some (.isl (itsC l) l.length))) 12 (some (.base (.int .i64 (l.length : Int))))) 13 (some (.base (.int .i64 (0 : Int))))) (H' := mt) (by decide) ?_ ?_ ?_
  · (repeat' (first | exact all_mt | refine all_up ?_ ?_)) <;> first | exact .inl ⟨rfl, rfl⟩ | exact .inr ⟨rfl, fun _ h => by cases h⟩ | exact .inl ⟨rfl, by first | rfl | assumption ⟩
  · (repeat' (first | exact all_mt | refine all_up ?_ ?_)) <;> first | exact ⟨rfl, _, rfl, .inr ⟨rfl, rfl⟩⟩ | exact ⟨rfl, _, rfl, .inl rfl⟩ | exact ⟨rfl, _, rfl, .inr ⟨rfl, by first | rfl | assumption ⟩⟩
  refine W.loop_ind (α := Nat) (fun x => l.length - x) 0 (fun x => up (up (up (up mt 0 (some (.isl (itsC l) l.length))) 1 (some (.isl (itsC l) l.length))) 12 (some (.base (.int .i64 (l.length : Int))))) 13 (some (.base (.int .i64 (x : Int))))) (fun x => mt) (fun x => x ≤ l.length) 0 (show 0 ≤ l.length from Nat.zero_le _) ?_
  rintro i hIA ihA
  try (dsimp only at hIA)
  try dsimp only
  have hi : i ≤ l.length := hIA
  by_cases hc : i < l.length
  · have g1 : decide ((i : Int) < (l.length : Int)) = true := decide_eq_true (by omega)
    have he : (!decide (l[i] = l[i])) = false := by simp
    repeat (refine W.seq ?_)
    refine W.region 26 27 (by decide) rfl rfl ?_
    refine RW.opd rfl rfl (LO.lss rfl rfl rfl) ?_
    refine RW.nil ?_
    repeat (refine W.seq ?_)
    refine W.cond_t rfl (by first | rfl | assumption) ?_
    refine W.skip ?_
    repeat (refine W.seq ?_)
    refine W.block ?_
    repeat (refine W.seq ?_)
    refine W.region 31 33 (by decide) rfl rfl ?_
    refine RW.opd rfl rfl (LO.move rfl rfl) ?_
    refine RW.opd rfl rfl (LO.assign rfl rfl) ?_
    refine RW.nil ?_
    repeat (refine W.seq ?_)
    refine W.regionD 37 46 (by decide) rfl mixed rfl ?_
    refine RW.opd rfl rfl (LO.move rfl rfl) ?_
    refine RW.opd rfl rfl (LO.move rfl rfl) ?_
    refine RW.opd rfl rfl (LO.indexAddr_isl rfl rfl rfl rfl rfl ty22 ty45 ?_) ?_; (· (first | omega | decide | assumption | fail | (simp; done) | (simp; omega)))
    refine RW.opd rfl rfl (LO.load_imm_agg rfl rfl ty45 rfl (its_tk hc)) ?_
    refine RW.opd rfl rfl (LO.move rfl rfl) ?_
    refine RW.opd rfl rfl (LO.move rfl rfl) ?_
    refine RW.opd rfl rfl (LO.indexAddr_isl rfl rfl rfl rfl rfl ty22 ty45 ?_) ?_; (· (first | omega | decide | assumption | fail | (simp; done) | (simp; omega)))
    refine RW.opd rfl rfl (LO.load_imm_agg rfl rfl ty45 rfl (its_tk hc)) ?_
    refine RW.opd rfl rfl (LO.neIt l[i] l[i] rfl rfl rfl) ?_
    refine RW.nil ⟨by kernel_rfl, ?_⟩
    repeat (refine W.seq ?_)
    refine W.cond_f rfl (by first | rfl | assumption) ?_
    refine W.skip ?_
    repeat (refine W.seq ?_)
    refine W.region 55 57 (by decide) rfl rfl ?_
    refine RW.opd rfl rfl (LO.add_in rfl rfl rfl ?_) ?_; (· (first | exact IntWalk.i64_in _ (by omega) | assumption))
    refine RW.opd rfl rfl (LO.move rfl rfl) ?_
    refine RW.nil ?_
    refine WL.rename [] 0 (by decide) ?_ ?_ (ihA (i + 1) (show l.length - (i + 1) < l.length - i from by omega) (show (i + 1) ≤ l.length from by omega))
    · (repeat' (first | exact all_mt | refine all_up ?_ ?_)) <;> first | exact .inl ⟨rfl, rfl⟩ | exact .inr ⟨rfl, fun _ h => by cases h⟩ | exact .inl ⟨rfl, by first | rfl | assumption ⟩
    · (repeat' (first | exact all_mt | refine all_up ?_ ?_)) <;> first | exact ⟨rfl, _, rfl, .inr ⟨rfl, rfl⟩⟩ | exact ⟨rfl, _, rfl, .inl rfl⟩ | exact ⟨rfl, _, rfl, .inr ⟨rfl, by first | rfl | assumption ⟩⟩
  · have g1 : decide ((i : Int) < (l.length : Int)) = false := decide_eq_false (by omega)
    repeat (refine W.seq ?_)
    refine W.region 26 27 (by decide) rfl rfl ?_
    refine RW.opd rfl rfl (LO.lss rfl rfl rfl) ?_
    refine RW.nil ?_
    repeat (refine W.seq ?_)
    refine W.cond_f rfl (by first | rfl | assumption) ?_
    refine W.exit ?_
    repeat (refine W.seq ?_)
    refine W.region 61 62 (by decide) rfl rfl ?_
    refine RW.opd rfl rfl (LO.assign rfl rfl) ?_
    refine RW.nil ?_
    repeat (refine W.seq ?_)
    refine W.ret ⟨.inl rfl, _, mt, RVs.cons (RV.tmp rfl) (RVs.nil), all_mt, ?_⟩
    exact ⟨rfl, rfl⟩
theorem sameR_any (l : List (List Itm)) (hl : l.length ≤ 1000) (hc1 : ∀ c ∈ l, c.length ≤ 1000) : AFn Tryd.prog 13 0 [.isl (gsC l) l.length, .isl (gsC l) l.length] mt (.base (.bool true)) mt := by
  refine AFn.eq Tryd.func13 rfl rfl (Nat.le_of_ble_eq_true rfl) ?_
  have hne : ((l.length : Int) != (l.length : Int)) = false := by simp
  repeat (refine W.seq ?_)
  refine W.region 0 1 (by decide) rfl rfl ?_
  refine RW.opd rfl rfl (LO.assign rfl rfl) ?_
  refine RW.nil ?_
  repeat (refine W.seq ?_)
  refine W.region 5 10 (by decide) rfl rfl ?_
  refine RW.opd rfl rfl (LO.move rfl rfl) ?_
  refine RW.opd rfl rfl (LO.len_isl rfl rfl rfl ty34) ?_
  refine RW.opd rfl rfl (LO.move rfl rfl) ?_
  refine RW.opd rfl rfl (LO.len_isl rfl rfl rfl ty34) ?_
  refine RW.opd rfl rfl (LO.neq rfl rfl rfl) ?_
  refine RW.nil ?_
  repeat (refine W.seq ?_)
  refine W.cond_f rfl (by first | rfl | assumption) ?_
  refine W.skip ?_
  repeat (refine W.seq ?_)
  refine W.region 19 22 (by decide) rfl rfl ?_
  refine RW.opd rfl rfl (LO.move rfl rfl) ?_
  refine RW.opd rfl rfl (LO.len_isl rfl rfl rfl ty34) ?_
  refine RW.opd rfl rfl (LO.move rfl rfl) ?_
  refine RW.nil ?_
  repeat (refine W.seq ?_)
  refine W.block ?_
  refine W.rename [] 0 (T' := up (up (up (up mt 0 (some (.isl (gsC l) l.length))) 1 (some (.isl (gsC l) l.length))) 12 (some (.base (.int .i64 (l.length : Int))))) 13 (some (.base (.int .i64 (0 : Int))))) (H' := mt) (by decide) ?_ ?_ ?_
  · (repeat' (first | exact all_mt | refine all_up ?_ ?_)) <;> first | exact .inl ⟨rfl, rfl⟩ | exact .inr ⟨rfl, fun _ h => by cases h⟩ | exact .inl ⟨rfl, by first | rfl | assumption ⟩
  · (repeat' (first | exact all_mt | refine all_up ?_ ?_)) <;> first | exact ⟨rfl, _, rfl, .inr ⟨rfl, rfl⟩⟩ | exact ⟨rfl, _, rfl, .inl rfl⟩ | exact ⟨rfl, _, rfl, .inr ⟨rfl, by first | rfl | assumption ⟩⟩
  refine W.loop_ind (α := Nat) (fun x => l.length - x) 0 (fun x => up (up (up (up mt 0 (some (.isl (gsC l) l.length))) 1 (some (.isl (gsC l) l.length))) 12 (some (.base (.int .i64 (l.length : Int))))) 13 (some (.base (.int .i64 (x : Int))))) (fun x => mt) (fun x => x ≤ l.length) 0 (show 0 ≤ l.length from Nat.zero_le _) ?_
  rintro i hIA ihA
  try (dsimp only at hIA)
  try dsimp only
  have hi : i ≤ l.length := hIA
  by_cases hc : i < l.length
  · have g1 : decide ((i : Int) < (l.length : Int)) = true := decide_eq_true (by omega)
    have hs := sameI_any l[i] (hc1 _ (List.getElem_mem hc))
    repeat (refine W.seq ?_)
    refine W.region 26 27 (by decide) rfl rfl ?_
    refine RW.opd rfl rfl (LO.lss rfl rfl rfl) ?_
    refine RW.nil ?_
    repeat (refine W.seq ?_)
    refine W.cond_t rfl (by first | rfl | assumption) ?_
    refine W.skip ?_
    repeat (refine W.seq ?_)
    refine W.block ?_
    repeat (refine W.seq ?_)
    refine W.region 31 33 (by decide) rfl rfl ?_
    refine RW.opd rfl rfl (LO.move rfl rfl) ?_
    refine RW.opd rfl rfl (LO.assign rfl rfl) ?_
    refine RW.nil ?_
    repeat (refine W.seq ?_)
    refine W.regionD 37 47 (by decide) rfl mixed rfl ?_
    refine RW.opd rfl rfl (LO.move rfl rfl) ?_
    refine RW.opd rfl rfl (LO.move rfl rfl) ?_
    refine RW.opd rfl rfl (LO.indexAddr_isl rfl rfl rfl rfl rfl ty34 ty22 ?_) ?_; (· (first | omega | decide | assumption | fail | (simp; done) | (simp; omega)))
    refine RW.opd rfl rfl (LO.load_imm rfl rfl (gs_at hc) ty22 rfl) ?_
    refine RW.opd rfl rfl (LO.move rfl rfl) ?_
    refine RW.opd rfl rfl (LO.move rfl rfl) ?_
    refine RW.opd rfl rfl (LO.indexAddr_isl rfl rfl rfl rfl rfl ty34 ty22 ?_) ?_; (· (first | omega | decide | assumption | fail | (simp; done) | (simp; omega)))
    refine RW.opd rfl rfl (LO.load_imm rfl rfl (gs_at hc) ty22 rfl) ?_
    refine RW.opd rfl rfl (LO.call0 (fr := []) rfl rfl (hs) fok34 (.cons rfl (.pure rfl) (.cons rfl (.pure rfl) .nil)) rfl) ?_
    refine RW.opd rfl rfl (LO.not rfl rfl) ?_
    refine RW.nil ⟨by kernel_rfl, ?_⟩
    repeat (refine W.seq ?_)
    refine W.cond_f rfl (by first | rfl | assumption) ?_
    refine W.skip ?_
    repeat (refine W.seq ?_)
    refine W.region 56 58 (by decide) rfl rfl ?_
    refine RW.opd rfl rfl (LO.add_in rfl rfl rfl ?_) ?_; (· (first | exact IntWalk.i64_in _ (by omega) | assumption))
    refine RW.opd rfl rfl (LO.move rfl rfl) ?_
    refine RW.nil ?_
    refine WL.rename [] 0 (by decide) ?_ ?_ (ihA (i + 1) (show l.length - (i + 1) < l.length - i from by omega) (show (i + 1) ≤ l.length from by omega))
    · (repeat' (first | exact all_mt | refine all_up ?_ ?_)) <;> first | exact .inl ⟨rfl, rfl⟩ | exact .inr ⟨rfl, fun _ h => by cases h⟩ | exact .inl ⟨rfl, by first | rfl | assumption ⟩
    · (repeat' (first | exact all_mt | refine all_up ?_ ?_)) <;> first | exact ⟨rfl, _, rfl, .inr ⟨rfl, rfl⟩⟩ | exact ⟨rfl, _, rfl, .inl rfl⟩ | exact ⟨rfl, _, rfl, .inr ⟨rfl, by first | rfl | assumption ⟩⟩
  · have g1 : decide ((i : Int) < (l.length : Int)) = false := decide_eq_false (by omega)
    repeat (refine W.seq ?_)
    refine W.region 26 27 (by decide) rfl rfl ?_
    refine RW.opd rfl rfl (LO.lss rfl rfl rfl) ?_
    refine RW.nil ?_
    repeat (refine W.seq ?_)
    refine W.cond_f rfl (by first | rfl | assumption) ?_
    refine W.exit ?_
    repeat (refine W.seq ?_)
    refine W.region 62 63 (by decide) rfl rfl ?_
    refine RW.opd rfl rfl (LO.assign rfl rfl) ?_
    refine RW.nil ?_
    repeat (refine W.seq ?_)
    refine W.ret ⟨.inl rfl, _, mt, RVs.cons (RV.tmp rfl) (RVs.nil), all_mt, ?_⟩
    exact ⟨rfl, rfl⟩
theorem sts_at {l : List Stp} {k : Nat} (h : k < l.length) : (stsC l)[k * 3]? = some (.base (.int .i64 l[k].k)) ∧ (stsC l)[k * 3 + 1]? = some (.base (.int .i64 l[k].w)) ∧ (stsC l)[k * 3 + 2]? = some (.isl (itsC l[k].its) l[k].its.length) := by
  obtain ⟨_, h2⟩ := sts_tk h
  exact ⟨h2 0 _ rfl, h2 1 _ rfl, h2 2 _ rfl⟩
theorem sameS_any (l : List Stp) (hl : l.length ≤ 1000000) (hc1 : ∀ s ∈ l, s.its.length ≤ 1000) : AFn Tryd.prog 14 0 [.isl (stsC l) l.length, .isl (stsC l) l.length] mt (.base (.bool true)) mt := by
  refine AFn.eq Tryd.func14 rfl rfl (Nat.le_of_ble_eq_true rfl) ?_
  have hne : ((l.length : Int) != (l.length : Int)) = false := by simp
  repeat (refine W.seq ?_)
  refine W.region 0 1 (by decide) rfl rfl ?_
  refine RW.opd rfl rfl (LO.assign rfl rfl) ?_
  refine RW.nil ?_
  repeat (refine W.seq ?_)
  refine W.region 5 10 (by decide) rfl rfl ?_
  refine RW.opd rfl rfl (LO.move rfl rfl) ?_
  refine RW.opd rfl rfl (LO.len_isl rfl rfl rfl ty40) ?_
  refine RW.opd rfl rfl (LO.move rfl rfl) ?_
  refine RW.opd rfl rfl (LO.len_isl rfl rfl rfl ty40) ?_
  refine RW.opd rfl rfl (LO.neq rfl rfl rfl) ?_
  refine RW.nil ?_
  repeat (refine W.seq ?_)
  refine W.cond_f rfl (by first | rfl | assumption) ?_
  refine W.skip ?_
  repeat (refine W.seq ?_)
  refine W.region 19 22 (by decide) rfl rfl ?_
  refine RW.opd rfl rfl (LO.move rfl rfl) ?_
  refine RW.opd rfl rfl (LO.len_isl rfl rfl rfl ty40) ?_
  refine RW.opd rfl rfl (LO.move rfl rfl) ?_
  refine RW.nil ?_
  repeat (refine W.seq ?_)
  refine W.block ?_
  refine W.rename [] 0 (T' := up (up (up (up mt 0 (some (.isl (stsC l) l.length))) 1 (some (.isl (stsC l) l.length))) 12 (some (.base (.int .i64 (l.length : Int))))) 13 (some (.base (.int .i64 (0 : Int))))) (H' := mt) (by decide) ?_ ?_ ?_
  · (repeat' (first | exact all_mt | refine all_up ?_ ?_)) <;> first | exact .inl ⟨rfl, rfl⟩ | exact .inr ⟨rfl, fun _ h => by cases h⟩ | exact .inl ⟨rfl, by first | rfl | assumption ⟩
  · (repeat' (first | exact all_mt | refine all_up ?_ ?_)) <;> first | exact ⟨rfl, _, rfl, .inr ⟨rfl, rfl⟩⟩ | exact ⟨rfl, _, rfl, .inl rfl⟩ | exact ⟨rfl, _, rfl, .inr ⟨rfl, by first | rfl | assumption ⟩⟩
  refine W.loop_ind (α := Nat) (fun x => l.length - x) 0 (fun x => up (up (up (up mt 0 (some (.isl (stsC l) l.length))) 1 (some (.isl (stsC l) l.length))) 12 (some (.base (.int .i64 (l.length : Int))))) 13 (some (.base (.int .i64 (x : Int))))) (fun x => mt) (fun x => x ≤ l.length) 0 (show 0 ≤ l.length from Nat.zero_le _) ?_
  rintro i hIA ihA
  try (dsimp only at hIA)
  try dsimp only
  have hi : i ≤ l.length := hIA
  by_cases hc : i < l.length
  · have g1 : decide ((i : Int) < (l.length : Int)) = true := decide_eq_true (by omega)
    have hs := sameI_any l[i].its (hc1 _ (List.getElem_mem hc))
    have k1 : (l[i].k != l[i].k) = false := by simp
    have k2 : (l[i].w != l[i].w) = false := by simp
    repeat (refine W.seq ?_)
    refine W.region 26 27 (by decide) rfl rfl ?_
    refine RW.opd rfl rfl (LO.lss rfl rfl rfl) ?_
    refine RW.nil ?_
    repeat (refine W.seq ?_)
    refine W.cond_t rfl (by first | rfl | assumption) ?_
    refine W.skip ?_
    repeat (refine W.seq ?_)
    refine W.block ?_
    repeat (refine W.seq ?_)
    refine W.region 31 33 (by decide) rfl rfl ?_
    refine RW.opd rfl rfl (LO.move rfl rfl) ?_
    refine RW.opd rfl rfl (LO.assign rfl rfl) ?_
    refine RW.nil ?_
    repeat (refine W.seq ?_)
    refine W.regionD 37 75 (by decide) rfl mixed rfl ?_
    refine RW.opd rfl rfl (LO.move rfl rfl) ?_
    refine RW.opd rfl rfl (LO.move rfl rfl) ?_
    refine RW.opd rfl rfl (LO.indexAddr_isl rfl rfl rfl rfl rfl ty40 ty74 ?_) ?_; (· (first | omega | decide | assumption | fail | (simp; done) | (simp; omega)))
    refine RW.opd rfl rfl (LO.fieldAddr_imm rfl rfl ty74 rfl (by decide)) ?_
    refine RW.opd rfl rfl (LO.load_imm rfl rfl (sts_at hc).1 ty3 rfl) ?_
    refine RW.opd rfl rfl (LO.move rfl rfl) ?_
    refine RW.opd rfl rfl (LO.move rfl rfl) ?_
    refine RW.opd rfl rfl (LO.indexAddr_isl rfl rfl rfl rfl rfl ty40 ty74 ?_) ?_; (· (first | omega | decide | assumption | fail | (simp; done) | (simp; omega)))
    refine RW.opd rfl rfl (LO.fieldAddr_imm rfl rfl ty74 rfl (by decide)) ?_
    refine RW.opd rfl rfl (LO.load_imm rfl rfl (sts_at hc).1 ty3 rfl) ?_
    refine RW.opd rfl rfl (LO.neq rfl rfl rfl) ?_
    refine RW.opd rfl rfl (LO.move rfl rfl) ?_
    refine RW.gd rfl rfl rfl ?_ rfl (LO.move rfl rfl) ?_; (· (first | rfl | assumption))
    refine RW.gd rfl rfl rfl ?_ rfl (LO.move rfl rfl) ?_; (· (first | rfl | assumption))
    refine RW.gd rfl rfl rfl ?_ rfl (LO.indexAddr_isl rfl rfl rfl rfl rfl ty40 ty74 ?_) ?_; (· (first | rfl | assumption)); (· (first | omega | decide | assumption | fail | (simp; done) | (simp; omega)))
    refine RW.gd rfl rfl rfl ?_ rfl (LO.fieldAddr_imm rfl rfl ty74 rfl (by decide)) ?_; (· (first | rfl | assumption))
    refine RW.gd rfl rfl rfl ?_ rfl (LO.load_imm rfl rfl (sts_at hc).2.1 ty3 rfl) ?_; (· (first | rfl | assumption))
    refine RW.gd rfl rfl rfl ?_ rfl (LO.move rfl rfl) ?_; (· (first | rfl | assumption))
    refine RW.gd rfl rfl rfl ?_ rfl (LO.move rfl rfl) ?_; (· (first | rfl | assumption))
    refine RW.gd rfl rfl rfl ?_ rfl (LO.indexAddr_isl rfl rfl rfl rfl rfl ty40 ty74 ?_) ?_; (· (first | rfl | assumption)); (· (first | omega | decide | assumption | fail | (simp; done) | (simp; omega)))
    refine RW.gd rfl rfl rfl ?_ rfl (LO.fieldAddr_imm rfl rfl ty74 rfl (by decide)) ?_; (· (first | rfl | assumption))
    refine RW.gd rfl rfl rfl ?_ rfl (LO.load_imm rfl rfl (sts_at hc).2.1 ty3 rfl) ?_; (· (first | rfl | assumption))
    refine RW.gd rfl rfl rfl ?_ rfl (LO.neq rfl rfl rfl) ?_; (· (first | rfl | assumption))
    refine RW.opd rfl rfl (LO.pick_f rfl rfl ?_ rfl) ?_; (· (first | rfl | assumption))
    refine RW.opd rfl rfl (LO.move rfl rfl) ?_
    refine RW.gd rfl rfl rfl ?_ rfl (LO.move rfl rfl) ?_; (· (first | rfl | assumption))
    refine RW.gd rfl rfl rfl ?_ rfl (LO.move rfl rfl) ?_; (· (first | rfl | assumption))
    refine RW.gd rfl rfl rfl ?_ rfl (LO.indexAddr_isl rfl rfl rfl rfl rfl ty40 ty74 ?_) ?_; (· (first | rfl | assumption)); (· (first | omega | decide | assumption | fail | (simp; done) | (simp; omega)))
    refine RW.gd rfl rfl rfl ?_ rfl (LO.fieldAddr_imm rfl rfl ty74 rfl (by decide)) ?_; (· (first | rfl | assumption))
    refine RW.gd rfl rfl rfl ?_ rfl (LO.load_imm rfl rfl (sts_at hc).2.2 ty22 rfl) ?_; (· (first | rfl | assumption))
    refine RW.gd rfl rfl rfl ?_ rfl (LO.move rfl rfl) ?_; (· (first | rfl | assumption))
    refine RW.gd rfl rfl rfl ?_ rfl (LO.move rfl rfl) ?_; (· (first | rfl | assumption))
    refine RW.gd rfl rfl rfl ?_ rfl (LO.indexAddr_isl rfl rfl rfl rfl rfl ty40 ty74 ?_) ?_; (· (first | rfl | assumption)); (· (first | omega | decide | assumption | fail | (simp; done) | (simp; omega)))
    refine RW.gd rfl rfl rfl ?_ rfl (LO.fieldAddr_imm rfl rfl ty74 rfl (by decide)) ?_; (· (first | rfl | assumption))
    refine RW.gd rfl rfl rfl ?_ rfl (LO.load_imm rfl rfl (sts_at hc).2.2 ty22 rfl) ?_; (· (first | rfl | assumption))
    refine RW.gd rfl rfl rfl ?_ rfl (LO.call0 (fr := []) rfl rfl (hs) fok34 (.cons rfl (.pure rfl) (.cons rfl (.pure rfl) .nil)) rfl) ?_; (· (first | rfl | assumption))
    refine RW.gd rfl rfl rfl ?_ rfl (LO.not rfl rfl) ?_; (· (first | rfl | assumption))
    refine RW.opd rfl rfl (LO.pick_f rfl rfl ?_ rfl) ?_; (· (first | rfl | assumption))
    refine RW.nil ⟨by kernel_rfl, ?_⟩
    repeat (refine W.seq ?_)
    refine W.cond_f rfl (by first | rfl | assumption) ?_
    refine W.skip ?_
    repeat (refine W.seq ?_)
    refine W.region 84 86 (by decide) rfl rfl ?_
    refine RW.opd rfl rfl (LO.add_in rfl rfl rfl ?_) ?_; (· (first | exact IntWalk.i64_in _ (by omega) | assumption))
    refine RW.opd rfl rfl (LO.move rfl rfl) ?_
    refine RW.nil ?_
    refine WL.rename [] 0 (by decide) ?_ ?_ (ihA (i + 1) (show l.length - (i + 1) < l.length - i from by omega) (show (i + 1) ≤ l.length from by omega))
    · (repeat' (first | exact all_mt | refine all_up ?_ ?_)) <;> first | exact .inl ⟨rfl, rfl⟩ | exact .inr ⟨rfl, fun _ h => by cases h⟩ | exact .inl ⟨rfl, by first | rfl | assumption ⟩
    · (repeat' (first | exact all_mt | refine all_up ?_ ?_)) <;> first | exact ⟨rfl, _, rfl, .inr ⟨rfl, rfl⟩⟩ | exact ⟨rfl, _, rfl, .inl rfl⟩ | exact ⟨rfl, _, rfl, .inr ⟨rfl, by first | rfl | assumption ⟩⟩
  · have g1 : decide ((i : Int) < (l.length : Int)) = false := decide_eq_false (by omega)
    repeat (refine W.seq ?_)
    refine W.region 26 27 (by decide) rfl rfl ?_
    refine RW.opd rfl rfl (LO.lss rfl rfl rfl) ?_
    refine RW.nil ?_
    repeat (refine W.seq ?_)
    refine W.cond_f rfl (by first | rfl | assumption) ?_
    refine W.exit ?_
    repeat (refine W.seq ?_)
    refine W.region 90 91 (by decide) rfl rfl ?_
    refine RW.opd rfl rfl (LO.assign rfl rfl) ?_
    refine RW.nil ?_
    repeat (refine W.seq ?_)
    refine W.ret ⟨.inl rfl, _, mt, RVs.cons (RV.tmp rfl) (RVs.nil), all_mt, ?_⟩
    exact ⟨rfl, rfl⟩
theorem stepsF_its {L : List (List Itm)} (hc : ∀ c ∈ L, c.length ≤ 1000) : ∀ s ∈ stepsF L, s.its.length ≤ 1000 := fun s hs => by
  unfold stepsF at hs
  rw [List.mem_flatMap] at hs
  obtain ⟨c, hcm, hs⟩ := hs
  unfold steps4 at hs
  rw [List.mem_map] at hs
  obtain ⟨j, _, rfl⟩ := hs
  exact hc c hcm
theorem divs_len {safe : Nat → Bool} {s : Nat} : (divs safe s).length = rr safe s := divsN_len _ _ _
theorem roundsF_bd (f : Fab) (ls : List Ld) (its : List Itm) : (roundsF f ls its).1.length ≤ 8 ∧ ∀ c ∈ (roundsF f ls its).1, c.length ≤ its.length := by
  unfold roundsF
  split
  · split
    · rename_i h
      refine ⟨by rw [List.length_map, divs_len]; omega, fun c hc => ?_⟩
      obtain ⟨t, _, rfl⟩ := List.mem_map.1 hc
      exact chF_len _ _
    · exact ⟨by decide, fun c hc => absurd hc List.not_mem_nil⟩
  · exact ⟨by decide, fun c hc => absurd hc List.not_mem_nil⟩
end Go.Proofs.YtbjfaepjpmogjaaDoor
