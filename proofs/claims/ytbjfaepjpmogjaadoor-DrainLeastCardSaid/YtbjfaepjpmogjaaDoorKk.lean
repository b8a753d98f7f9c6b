/-
  The scene; the steps of rounds; the example of the chapter.
-/
import Derived.Test.YtbjfaepjpmogjaaDoorKj
import Derived.Test.YtbjfaepjpmogjaaDoorKh
namespace Go.Proofs.YtbjfaepjpmogjaaDoor
open Go.RowKit

structure SceneOK (f : Fab) (ls : List Ld) (its : List Itm) : Prop where
  fab : FabM f
  nls : ls.length ≤ 6
  lds : ∀ z ∈ ls, LdM f.sw z
  nit : its.length ≤ 5
  its : validD f [] its = true
theorem SceneOK.val {f : Fab} {ls : List Ld} {its : List Itm} (h : SceneOK f ls its) : validD f ls its = true := by
  obtain ⟨h1, h2, h3⟩ := (validD_its h.fab.val).1 h.its
  have h4 : ls.all (ldB f) = true := List.all_eq_true.2 fun x hx => by
    obtain ⟨a1, a2, a3, a4, a5, a6⟩ := h.lds x hx
    unfold ldB
    simp only [Bool.and_eq_true, decide_eq_true_eq]
    exact ⟨a1, a2, a3, a4, a5, by omega⟩
  have h5 : its.all (itB f) = true := List.all_eq_true.2 h2
  unfold validD
  have := h.nls
  rw [h.fab.val, h4, h5, decide_eq_true (show ls.length ≤ 16 by omega), decide_eq_true h1, decide_eq_true h3]; rfl
theorem scene_any (l : List Int) (at_ : Nat) (hl : l.length ≤ 9223372036854775807) :
    ∃ v H', AFn Tryd.prog 9 1 [.own 0 0] (up mt 0 (some (deckC l at_))) v H' ∧ ∃ (f : Fab) (ls : List Ld) (its : List Itm) (at' : Nat), SceneOK f ls its ∧ v = .tup [.agg (fabC f), .isl (ldsC ls) ls.length, .isl (itsC its) its.length] ∧ H' = up mt 0 (some (deckC l at')) := by
  obtain ⟨v1, H1, hc1, f, a1, hf, rfl, rfl⟩ := fabM_any l at_ hl
  obtain ⟨v2, H2, hc2, ls, a2, ⟨hn, hls⟩, rfl, rfl⟩ := loadsM_any l a1 f ⟨hf.sw1, hf.sw5⟩ hl
  obtain ⟨v3, H3, hc3, its, a3, ⟨hni, hits⟩, rfl, rfl⟩ := itsM_any l a2 f hf hl
  refine AFn.ex Tryd.func9 rfl rfl (Nat.le_of_ble_eq_true rfl) ?_
  repeat (refine W.seq ?_)
  refine W.region 1 4 (by decide) rfl rfl ?_
  refine RW.opd rfl rfl (LO.alloc rfl ty28) ?_
  refine RW.opd rfl rfl (LO.assign rfl rfl) ?_
  refine RW.opd rfl rfl (LO.assign rfl rfl) ?_
  refine RW.nil ?_
  repeat (refine W.seq ?_)
  refine W.region 8 12 (by decide) rfl rfl ?_
  refine RW.opd rfl rfl (LO.move rfl rfl) ?_
  refine RW.opd rfl rfl (LO.call1 (fr := []) rfl rfl (hc1) fok28 (.own rfl rfl .nil) rfl rfl rfl (List.cons_ne_nil _ _) (by decide) rfl) ?_
  refine RW.opd rfl rfl (LO.alloc rfl ty28) ?_
  refine RW.opn rfl rfl (LO.store rfl rfl rfl rfl rfl ty28 rfl (by decide) (Sp.lit rfl)) ?_
  refine RW.nil ?_
  repeat (refine W.seq ?_)
  refine W.regionD 16 26 (by decide) rfl mixed rfl ?_
  refine RW.opd rfl rfl (LO.load_agg rfl rfl rfl ty28 rfl (Tk.lit rfl)) ?_
  refine RW.opd rfl rfl (LO.move rfl rfl) ?_
  refine RW.opd rfl rfl (LO.load_agg rfl rfl rfl ty28 rfl (Tk.lit rfl)) ?_
  refine RW.opd rfl rfl (LO.call1 (fr := []) rfl rfl (hc2) fok29 (.own rfl rfl (.cons rfl (.pure rfl) .nil)) rfl rfl rfl (List.cons_ne_nil _ _) (by decide) rfl) ?_
  refine RW.opd rfl rfl (LO.move rfl rfl) ?_
  refine RW.opd rfl rfl (LO.load_agg rfl rfl rfl ty28 rfl (Tk.lit rfl)) ?_
  refine RW.opd rfl rfl (LO.call1 (fr := []) rfl rfl (hc3) fok30 (.own rfl rfl (.cons rfl (.pure rfl) (.cons rfl (.pure rfl) .nil))) rfl rfl rfl (List.cons_ne_nil _ _) (by decide) rfl) ?_
  refine RW.opn rfl rfl (LO.store rfl rfl rfl rfl rfl ty28 rfl (by decide) (Sp.lit rfl)) ?_
  refine RW.opd rfl rfl (LO.assign rfl rfl) ?_
  refine RW.opd rfl rfl (LO.assign rfl rfl) ?_
  refine RW.nil ⟨by kernel_rfl, ?_⟩
  repeat (refine W.seq ?_)
  refine W.ret ⟨.inl rfl, _, up mt 0 (some (deckC l a3)), (RVs.cons (RV.cellA rfl rfl ty28 rfl (Tk.lit rfl)) (RVs.cons (RV.tmp rfl) (RVs.cons (RV.tmp rfl) RVs.nil))), (by (repeat' (first | exact all_mt | refine all_up ?_ ?_)) <;> rfl), ?_⟩
  exact ⟨f, ls, its, a3, ⟨hf, hn, hls, hni, hits⟩, rfl, rfl⟩
structure Stp where
  k : Int
  w : Int
  its : List Itm
def stC (s : Stp) : List AV := [.base (.int .i64 s.k), .base (.int .i64 s.w), .isl (itsC s.its) s.its.length]
def stsC (l : List Stp) : List AV := l.flatMap stC
theorem sts_pure (l : List Stp) : (stsC l).all AV.pure1 = true := flatPure (fun _ => rfl) l
theorem sts_all {l : List Stp} {n : Nat} (h : l.length = n) : Tk (stsC l) 0 (n * 3) (stsC l) := flatAll (c := stC) (fun _ => rfl) h
theorem sts_tk {l : List Stp} {k : Nat} (h : k < l.length) : Tk (stsC l) (k * 3) 3 (stC l[k]) := flatTk (c := stC) (fun _ => rfl) h
theorem sts_snoc (l : List Stp) (x : Stp) : stsC l ++ stC x = stsC (l ++ [x]) := by simp [stsC]
def step1 (c : List Itm) (j : Nat) : Stp := ⟨(j : Int) + 1, if j = 1 then 8 else 0, c⟩
def steps4 (c : List Itm) (n : Nat) : List Stp := (List.range n).map (step1 c)
theorem steps4_succ (c : List Itm) (n : Nat) : steps4 c (n + 1) = steps4 c n ++ [step1 c n] := by unfold steps4; rw [List.range_succ, List.map_append]; rfl
theorem steps4_len (c : List Itm) (n : Nat) : (steps4 c n).length = n := by simp [steps4]
def stepsF (L : List (List Itm)) : List Stp := L.flatMap fun c => steps4 c 4
theorem stepsF_len (L : List (List Itm)) : (stepsF L).length = L.length * 4 := by
  induction L with
  | nil => rfl
  | cons c L ih => rw [show stepsF (c :: L) = steps4 c 4 ++ stepsF L from rfl, List.length_append, ih, steps4_len, List.length_cons]; omega
theorem stepsF_take {L : List (List Itm)} {i : Nat} (h : i < L.length) : stepsF (L.take (i + 1)) = stepsF (L.take i) ++ steps4 L[i] 4 := by
  unfold stepsF
  rw [List.take_succ_eq_append_getElem h, List.flatMap_append]; simp
theorem gs_at {l : List (List Itm)} {k : Nat} (h : k < l.length) : (gsC l)[k * 1]? = some (.isl (itsC l[k]) l[k].length) := by simp [gsC, h]
theorem kinds_at {j : Nat} (h : j < 4) : ([.base (.int .i64 1), .base (.int .i64 2), .base (.int .i64 3), .base (.int .i64 4)] : List AV)[0 + j * 1]? = some (.base (.int .i64 ((j : Int) + 1))) := by
  rcases (show j = 0 ∨ j = 1 ∨ j = 2 ∨ j = 3 by omega) with rfl | rfl | rfl | rfl <;> rfl
set_option maxHeartbeats 1000000 in
theorem steps_any (L : List (List Itm)) (hL : L.length ≤ 1000) (hc : ∀ c ∈ L, c.length ≤ 1000) : AFn Tryd.prog 15 0 [.isl (gsC L) L.length] mt (.isl (stsC (stepsF L)) (stepsF L).length) mt := by
  refine AFn.eq Tryd.func15 rfl rfl (Nat.le_of_ble_eq_true rfl) ?_
  repeat (refine W.seq ?_)
  refine W.region 0 1 (by decide) rfl rfl ?_
  refine RW.opd rfl rfl (LO.assign rfl rfl) ?_
  refine RW.nil ?_
  repeat (refine W.seq ?_)
  refine W.region 5 6 (by decide) rfl rfl ?_
  refine RW.opd rfl rfl (LO.assign rfl rfl) ?_
  refine RW.nil ?_
  refine W.name 6 (6 + 1) (t := 3) (sz := 3) rfl (by decide) (by decide) ?_
  repeat (refine W.seq ?_)
  refine W.region 10 13 (by decide) rfl rfl ?_
  refine RW.opd rfl rfl (LO.move rfl rfl) ?_
  refine RW.opd rfl rfl (LO.len_isl rfl rfl rfl ty34) ?_
  refine RW.opd rfl rfl (LO.move rfl rfl) ?_
  refine RW.nil ?_
  repeat (refine W.seq ?_)
  refine W.block ?_
  refine W.rename [(0, 6)] 1 (T' := up (up (up (up mt 3 (some (.osl 0 0 (([] : List Stp)).length 3))) 9 (some (.isl (gsC L) L.length))) 10 (some (.base (.int .i64 (L.length : Int))))) 11 (some (.base (.int .i64 (0 : Int))))) (H' := up mt 0 (some (stsC (([] : List Stp))))) (by decide) ?_ ?_ ?_
  · (repeat' (first | exact all_mt | refine all_up ?_ ?_)) <;> first | exact .inl ⟨rfl, rfl⟩ | exact .inr ⟨rfl, fun _ h => by cases h⟩ | exact .inl ⟨rfl, by first | rfl | assumption | exact (sts_pure _)⟩
  · (repeat' (first | exact all_mt | refine all_up ?_ ?_)) <;> first | exact ⟨rfl, _, rfl, .inr ⟨rfl, rfl⟩⟩ | exact ⟨rfl, _, rfl, .inl rfl⟩ | exact ⟨rfl, _, rfl, .inr ⟨rfl, by first | rfl | assumption | exact (sts_pure _)⟩⟩
  refine W.loop_ind (α := Nat × List Stp) (fun x => L.length - x.1) 1 (fun x => up (up (up (up mt 3 (some (.osl 0 0 x.2.length 3))) 9 (some (.isl (gsC L) L.length))) 10 (some (.base (.int .i64 (L.length : Int))))) 11 (some (.base (.int .i64 (x.1 : Int))))) (fun x => up mt 0 (some (stsC x.2))) (fun x => x.1 ≤ L.length ∧ x.2 = stepsF (L.take x.1)) (0, (([] : List Stp))) (show 0 ≤ L.length ∧ (([] : List Stp)) = stepsF (L.take 0) from ⟨Nat.zero_le _, rfl⟩) ?_
  rintro ⟨i, o⟩ hIA ihA
  try (dsimp only at hIA)
  try dsimp only
  obtain ⟨hi, ho⟩ := hIA
  by_cases hci : i < L.length
  · have g1 : decide ((i : Int) < (L.length : Int)) = true := decide_eq_true (by omega)
    have hol : o.length = i * 4 := by rw [ho, stepsF_len, List.length_take]; congr 1; omega
    have hcl := hc _ (List.getElem_mem hci)
    have hnx := stepsF_take hci
    have hli := AFn.frozen (listI_any L[i] hcl) (its_all rfl) (its_pure _)
    rw [← ho] at hnx
    repeat (refine W.seq ?_)
    refine W.region 17 18 (by decide) rfl rfl ?_
    refine RW.opd rfl rfl (LO.lss rfl rfl rfl) ?_
    refine RW.nil ?_
    repeat (refine W.seq ?_)
    refine W.cond_t rfl (by first | rfl | assumption) ?_
    refine W.skip ?_
    repeat (refine W.seq ?_)
    refine W.block ?_
    repeat (refine W.seq ?_)
    refine W.region 22 25 (by decide) rfl rfl ?_
    refine RW.opd rfl rfl (LO.indexAddr_isl rfl rfl rfl rfl rfl ty34 ty22 ?_) ?_; (· (first | omega | decide | assumption | fail | (simp; done) | (simp; omega)))
    refine RW.opd rfl rfl (LO.load_imm rfl rfl (gs_at hci) ty22 rfl) ?_
    refine RW.opd rfl rfl (LO.assign rfl rfl) ?_
    refine RW.nil ?_
    repeat (refine W.seq ?_)
    refine W.region 29 32 (by decide) rfl rfl ?_
    refine RW.opd rfl rfl (LO.buildSlice rfl ty23 ty3 (by decide) (by decide) (.cons rfl rfl rfl rfl (Sp.lit rfl) (.cons rfl rfl rfl rfl (Sp.lit rfl) (.cons rfl rfl rfl rfl (Sp.lit rfl) (.cons rfl rfl rfl rfl (Sp.lit rfl) .nil))))) ?_
    refine RW.opd rfl rfl (LO.len rfl rfl ty23) ?_
    refine RW.opd rfl rfl (LO.move rfl rfl) ?_
    refine RW.nil ?_
    repeat (refine W.seq ?_)
    refine W.block ?_
    refine W.rename [(0, 0), (1, 29)] 2 (T' := up (up (up (up (up (up (up (up mt 3 (some (.osl 0 0 o.length 3))) 5 (some (.isl (itsC L[i]) L[i].length))) 9 (some (.isl (gsC L) L.length))) 10 (some (.base (.int .i64 (L.length : Int))))) 11 (some (.base (.int .i64 (i : Int))))) 15 (some (.osl 1 0 4 1))) 16 (some (.base (.int .i64 4)))) 17 (some (.base (.int .i64 (0 : Int))))) (H' := up (up mt 0 (some (stsC o))) 1 (some ([.base (.int .i64 1), .base (.int .i64 2), .base (.int .i64 3), .base (.int .i64 4)]))) (by decide) ?_ ?_ ?_
    · (repeat' (first | exact all_mt | refine all_up ?_ ?_)) <;> first | exact .inl ⟨rfl, rfl⟩ | exact .inr ⟨rfl, fun _ h => by cases h⟩ | exact .inl ⟨rfl, by first | rfl | assumption | exact (sts_pure _)⟩
    · (repeat' (first | exact all_mt | refine all_up ?_ ?_)) <;> first | exact ⟨rfl, _, rfl, .inr ⟨rfl, rfl⟩⟩ | exact ⟨rfl, _, rfl, .inl rfl⟩ | exact ⟨rfl, _, rfl, .inr ⟨rfl, by first | rfl | assumption | exact (sts_pure _)⟩⟩
    refine W.loop_ind (α := Nat × List Stp) (fun x => 4 - x.1) 2 (fun x => up (up (up (up (up (up (up (up mt 3 (some (.osl 0 0 x.2.length 3))) 5 (some (.isl (itsC L[i]) L[i].length))) 9 (some (.isl (gsC L) L.length))) 10 (some (.base (.int .i64 (L.length : Int))))) 11 (some (.base (.int .i64 (i : Int))))) 15 (some (.osl 1 0 4 1))) 16 (some (.base (.int .i64 4)))) 17 (some (.base (.int .i64 (x.1 : Int))))) (fun x => up (up mt 0 (some (stsC x.2))) 1 (some ([.base (.int .i64 1), .base (.int .i64 2), .base (.int .i64 3), .base (.int .i64 4)]))) (fun x => x.1 ≤ 4 ∧ x.2 = o ++ steps4 L[i] x.1) (0, o) (show 0 ≤ 4 ∧ o = o ++ steps4 L[i] 0 from ⟨Nat.zero_le _, (List.append_nil _).symm⟩) ?_
    rintro ⟨j, o2⟩ hIB ihB
    try (dsimp only at hIB)
    try dsimp only
    obtain ⟨hj, ho2⟩ := hIB
    by_cases hcj : j < 4
    · have g2 : decide ((j : Int) < 4) = true := decide_eq_true (by omega)
      have ho2l : o2.length = i * 4 + j := by rw [ho2, List.length_append, hol, steps4_len]
      have hnj := steps4_succ L[i] j
      repeat (refine W.seq ?_)
      refine W.region 36 37 (by decide) rfl rfl ?_
      refine RW.opd rfl rfl (LO.lss rfl rfl rfl) ?_
      refine RW.nil ?_
      repeat (refine W.seq ?_)
      refine W.cond_t rfl (by first | rfl | assumption) ?_
      refine W.skip ?_
      repeat (refine W.seq ?_)
      refine W.block ?_
      repeat (refine W.seq ?_)
      refine W.region 41 44 (by decide) rfl rfl ?_
      refine RW.opd rfl rfl (LO.indexAddr rfl rfl rfl rfl ty23 ty3 ?_) ?_; (· (first | omega | decide | assumption | fail | (simp; done) | (simp; omega)))
      refine RW.opd rfl rfl (LO.load rfl rfl rfl (kinds_at hcj) ty3 rfl) ?_
      refine RW.opd rfl rfl (LO.assign rfl rfl) ?_
      refine RW.nil ?_
      repeat (refine W.seq ?_)
      refine W.region 48 54 (by decide) rfl rfl ?_
      refine RW.opd rfl rfl (LO.move rfl rfl) ?_
      refine RW.opd rfl rfl (LO.move rfl rfl) ?_
      refine RW.opd rfl rfl (LO.call0 (fr := []) rfl rfl (hli) fok35 (.cons rfl (.pure rfl) .nil) rfl) ?_
      refine RW.opd rfl rfl (LO.build_st rfl ty74 (.cons rfl rfl rfl rfl (Sp.lit rfl) (.cons rfl rfl rfl rfl (Sp.lit rfl) .nil))) ?_
      refine RW.opd rfl rfl (LO.alloc rfl ty74) ?_
      refine RW.opn rfl rfl (LO.store rfl rfl rfl rfl rfl ty74 rfl (by decide) (Sp.lit rfl)) ?_
      refine RW.nil ?_
      by_cases hj1 : j = 1
      case' pos =>
        have k1 : ((j : Int) + 1 == 2) = true := by subst hj1; rfl
        have hst : step1 L[i] j = ⟨(j : Int) + 1, 8, L[i]⟩ := by unfold step1; rw [if_pos hj1]
        repeat (refine W.seq ?_)
        refine W.region 58 60 (by decide) rfl rfl ?_
        refine RW.opd rfl rfl (LO.move rfl rfl) ?_
        refine RW.opd rfl rfl (LO.eql rfl rfl rfl) ?_
        refine RW.nil ?_
        repeat (refine W.seq ?_)
        refine W.cond_t rfl (by first | rfl | assumption) ?_
        repeat (refine W.seq ?_)
        refine W.region 64 66 (by decide) rfl rfl ?_
        refine RW.opd rfl rfl (LO.fieldAddr rfl rfl ty74 rfl (by decide)) ?_
        refine RW.opn rfl rfl (LO.store rfl rfl rfl rfl rfl ty3 rfl (by decide) (Sp.lit rfl)) ?_
        refine RW.nil ?_
      case' neg =>
        have k1 : ((j : Int) + 1 == 2) = false := by simp; omega
        have hst : step1 L[i] j = ⟨(j : Int) + 1, 0, L[i]⟩ := by unfold step1; rw [if_neg hj1]
        repeat (refine W.seq ?_)
        refine W.region 58 60 (by decide) rfl rfl ?_
        refine RW.opd rfl rfl (LO.move rfl rfl) ?_
        refine RW.opd rfl rfl (LO.eql rfl rfl rfl) ?_
        refine RW.nil ?_
        repeat (refine W.seq ?_)
        refine W.cond_f rfl (by first | rfl | assumption) ?_
        refine W.skip ?_
      case' pos =>
        repeat (refine W.seq ?_)
        refine W.region 70 75 (by decide) rfl rfl ?_
        refine RW.opd rfl rfl (LO.move rfl rfl) ?_
        refine RW.opd rfl rfl (LO.load_agg rfl rfl rfl ty74 rfl (Tk.lit rfl)) ?_
        refine RW.opd rfl rfl (LO.buildSlice rfl ty40 ty74 (by decide) (by decide) (.cons rfl rfl rfl rfl (Sp.lit rfl) .nil)) ?_
        refine RW.opd rfl rfl (LO.append rfl rfl (SrcAV.own rfl rfl (Tk.lit rfl)) rfl (sts_all rfl) ty40 ty40 ty74 (by decide) ?_ ?_ ?_) ?_; (· (first | omega | decide | assumption | fail | (simp; done) | (simp; omega))); (· (first | omega | decide | assumption | fail | (simp; done) | (simp; omega))); (· (first | decide | omega))
        refine RW.opd rfl rfl (LO.assign rfl rfl) ?_
        refine RW.nil ?_
        repeat (refine W.seq ?_)
        refine W.region 79 81 (by decide) rfl rfl ?_
        refine RW.opd rfl rfl (LO.add_in rfl rfl rfl ?_) ?_; (· (first | exact IntWalk.i64_in _ (by omega) | assumption))
        refine RW.opd rfl rfl (LO.move rfl rfl) ?_
        refine RW.nil ?_
        rw [show stsC o2 ++ [AV.base (.int .i64 ((j : Int) + 1)), AV.base (.int .i64 8), AV.isl (itsC L[i]) L[i].length] = stsC (o2 ++ [step1 L[i] j]) from by rw [hst]; exact sts_snoc _ ⟨(j : Int) + 1, 8, L[i]⟩, show o2.length + 1 = (o2 ++ [step1 L[i] j]).length from by simp]
        refine WL.rename [(0, 73), (1, 1)] 2 (by decide) ?_ ?_ (ihB ((j + 1), (o2 ++ [step1 L[i] j])) (show 4 - (j + 1) < 4 - j from by omega) (show (j + 1) ≤ 4 ∧ (o2 ++ [step1 L[i] j]) = o ++ steps4 L[i] (j + 1) from ⟨by omega, by rw [ho2, hnj, List.append_assoc]⟩))
        · (repeat' (first | exact all_mt | refine all_up ?_ ?_)) <;> first | exact .inl ⟨rfl, rfl⟩ | exact .inr ⟨rfl, fun _ h => by cases h⟩ | exact .inl ⟨rfl, by first | rfl | assumption | exact (sts_pure _)⟩
        · (repeat' (first | exact all_mt | refine all_up ?_ ?_)) <;> first | exact ⟨rfl, _, rfl, .inr ⟨rfl, rfl⟩⟩ | exact ⟨rfl, _, rfl, .inl rfl⟩ | exact ⟨rfl, _, rfl, .inr ⟨rfl, by first | rfl | assumption | exact (sts_pure _)⟩⟩
      case' neg =>
        repeat (refine W.seq ?_)
        refine W.region 70 75 (by decide) rfl rfl ?_
        refine RW.opd rfl rfl (LO.move rfl rfl) ?_
        refine RW.opd rfl rfl (LO.load_agg rfl rfl rfl ty74 rfl (Tk.lit rfl)) ?_
        refine RW.opd rfl rfl (LO.buildSlice rfl ty40 ty74 (by decide) (by decide) (.cons rfl rfl rfl rfl (Sp.lit rfl) .nil)) ?_
        refine RW.opd rfl rfl (LO.append rfl rfl (SrcAV.own rfl rfl (Tk.lit rfl)) rfl (sts_all rfl) ty40 ty40 ty74 (by decide) ?_ ?_ ?_) ?_; (· (first | omega | decide | assumption | fail | (simp; done) | (simp; omega))); (· (first | omega | decide | assumption | fail | (simp; done) | (simp; omega))); (· (first | decide | omega))
        refine RW.opd rfl rfl (LO.assign rfl rfl) ?_
        refine RW.nil ?_
        repeat (refine W.seq ?_)
        refine W.region 79 81 (by decide) rfl rfl ?_
        refine RW.opd rfl rfl (LO.add_in rfl rfl rfl ?_) ?_; (· (first | exact IntWalk.i64_in _ (by omega) | assumption))
        refine RW.opd rfl rfl (LO.move rfl rfl) ?_
        refine RW.nil ?_
        rw [show stsC o2 ++ [AV.base (.int .i64 ((j : Int) + 1)), AV.base (.int .i64 0), AV.isl (itsC L[i]) L[i].length] = stsC (o2 ++ [step1 L[i] j]) from by rw [hst]; exact sts_snoc _ ⟨(j : Int) + 1, 0, L[i]⟩, show o2.length + 1 = (o2 ++ [step1 L[i] j]).length from by simp]
        refine WL.rename [(0, 73), (1, 1)] 2 (by decide) ?_ ?_ (ihB ((j + 1), (o2 ++ [step1 L[i] j])) (show 4 - (j + 1) < 4 - j from by omega) (show (j + 1) ≤ 4 ∧ (o2 ++ [step1 L[i] j]) = o ++ steps4 L[i] (j + 1) from ⟨by omega, by rw [ho2, hnj, List.append_assoc]⟩))
        · (repeat' (first | exact all_mt | refine all_up ?_ ?_)) <;> first | exact .inl ⟨rfl, rfl⟩ | exact .inr ⟨rfl, fun _ h => by cases h⟩ | exact .inl ⟨rfl, by first | rfl | assumption | exact (sts_pure _)⟩
        · (repeat' (first | exact all_mt | refine all_up ?_ ?_)) <;> first | exact ⟨rfl, _, rfl, .inr ⟨rfl, rfl⟩⟩ | exact ⟨rfl, _, rfl, .inl rfl⟩ | exact ⟨rfl, _, rfl, .inr ⟨rfl, by first | rfl | assumption | exact (sts_pure _)⟩⟩
    · have g2 : decide ((j : Int) < 4) = false := decide_eq_false (by omega)
      obtain rfl : j = 4 := by omega
      repeat (refine W.seq ?_)
      refine W.region 36 37 (by decide) rfl rfl ?_
      refine RW.opd rfl rfl (LO.lss rfl rfl rfl) ?_
      refine RW.nil ?_
      repeat (refine W.seq ?_)
      refine W.cond_f rfl (by first | rfl | assumption) ?_
      refine W.exit ?_
      repeat (refine W.seq ?_)
      refine W.region 85 87 (by decide) rfl rfl ?_
      refine RW.opd rfl rfl (LO.add_in rfl rfl rfl ?_) ?_; (· (first | exact IntWalk.i64_in _ (by omega) | assumption))
      refine RW.opd rfl rfl (LO.move rfl rfl) ?_
      refine RW.nil ?_
      refine WL.rename [(0, 0)] 1 (by decide) ?_ ?_ (ihA ((i + 1), o2) (show L.length - (i + 1) < L.length - i from by omega) (show (i + 1) ≤ L.length ∧ o2 = stepsF (L.take (i + 1)) from ⟨by omega, by rw [ho2, hnx]⟩))
      · (repeat' (first | exact all_mt | refine all_up ?_ ?_)) <;> first | exact .inl ⟨rfl, rfl⟩ | exact .inr ⟨rfl, fun _ h => by cases h⟩ | exact .inl ⟨rfl, by first | rfl | assumption | exact (sts_pure _)⟩
      · (repeat' (first | exact all_mt | refine all_up ?_ ?_)) <;> first | exact ⟨rfl, _, rfl, .inr ⟨rfl, rfl⟩⟩ | exact ⟨rfl, _, rfl, .inl rfl⟩ | exact ⟨rfl, _, rfl, .inr ⟨rfl, by first | rfl | assumption | exact (sts_pure _)⟩⟩
  · have g1 : decide ((i : Int) < (L.length : Int)) = false := decide_eq_false (by omega)
    obtain rfl : i = L.length := by omega
    rw [List.take_length] at ho
    repeat (refine W.seq ?_)
    refine W.region 17 18 (by decide) rfl rfl ?_
    refine RW.opd rfl rfl (LO.lss rfl rfl rfl) ?_
    refine RW.nil ?_
    repeat (refine W.seq ?_)
    refine W.cond_f rfl (by first | rfl | assumption) ?_
    refine W.exit ?_
    repeat (refine W.seq ?_)
    refine W.region 91 93 (by decide) rfl rfl ?_
    refine RW.opd rfl rfl (LO.move rfl rfl) ?_
    refine RW.opd rfl rfl (LO.assign rfl rfl) ?_
    refine RW.nil ?_
    refine W.frz1 (t := 2) rfl rfl (sts_all rfl) (sts_pure _) ?_
    repeat (refine W.seq ?_)
    refine W.ret ⟨.inl rfl, _, mt, RVs.cons (RV.tmp rfl) (RVs.nil), all_mt, ?_⟩
    exact ⟨by rw [ho]; rfl, rfl⟩
def ring3 : Fab := ⟨3, [⟨0, 1, 1⟩, ⟨1, 2, 1⟩, ⟨2, 0, 1⟩], [false, false, false], [false, false, false]⟩
theorem ring_any : AFn Tryd.prog 27 0 [] mt (.agg (fabC ring3)) mt := by
  refine AFn.eq Tryd.func27 rfl rfl (Nat.le_of_ble_eq_true rfl) ?_
  repeat (refine W.seq ?_)
  refine W.region 0 1 (by decide) rfl rfl ?_
  refine RW.opd rfl rfl (LO.alloc rfl ty28) ?_
  refine RW.nil ?_
  repeat (refine W.seq ?_)
  refine W.regionD 5 13 (by decide) rfl mixed rfl ?_
  refine RW.opd rfl rfl (LO.build_st rfl ty56 (.cons rfl rfl rfl rfl (Sp.lit rfl) (.cons rfl rfl rfl rfl (Sp.lit rfl) (.cons rfl rfl rfl rfl (Sp.lit rfl) .nil)))) ?_
  refine RW.opd rfl rfl (LO.build_st rfl ty56 (.cons rfl rfl rfl rfl (Sp.lit rfl) (.cons rfl rfl rfl rfl (Sp.lit rfl) (.cons rfl rfl rfl rfl (Sp.lit rfl) .nil)))) ?_
  refine RW.opd rfl rfl (LO.build_st rfl ty56 (.cons rfl rfl rfl rfl (Sp.lit rfl) (.cons rfl rfl rfl rfl (Sp.lit rfl) (.cons rfl rfl rfl rfl (Sp.lit rfl) .nil)))) ?_
  refine RW.opd rfl rfl (LO.buildSlice rfl ty25 ty56 (by decide) (by decide) (.cons rfl rfl rfl rfl (Sp.lit rfl) (.cons rfl rfl rfl rfl (Sp.lit rfl) (.cons rfl rfl rfl rfl (Sp.lit rfl) .nil)))) ?_
  refine RW.opd rfl rfl (LO.makeSlice rfl rfl rfl rfl rfl ty26 ty4 (by decide) ?_ ?_ ?_) ?_; (· (first | omega | decide | assumption | fail | (simp; done) | (simp; omega))); (· (first | omega | decide | assumption | fail | (simp; done) | (simp; omega))); (· (first | omega | decide | assumption | fail | (simp; done) | (simp; omega)))
  refine RW.opd rfl rfl (LO.makeSlice rfl rfl rfl rfl rfl ty26 ty4 (by decide) ?_ ?_ ?_) ?_; (· (first | omega | decide | assumption | fail | (simp; done) | (simp; omega))); (· (first | omega | decide | assumption | fail | (simp; done) | (simp; omega))); (· (first | omega | decide | assumption | fail | (simp; done) | (simp; omega)))
  refine RW.opd rfl rfl (LO.build_st rfl ty28 (.cons rfl rfl rfl rfl (Sp.lit rfl) (.cons rfl rfl rfl rfl (Sp.lit rfl) (.cons rfl rfl rfl rfl (Sp.lit rfl) (.cons rfl rfl rfl rfl (Sp.lit rfl) .nil))))) ?_
  refine RW.opn rfl rfl (LO.store rfl rfl rfl rfl rfl ty28 rfl (by decide) (Sp.lit rfl)) ?_
  refine RW.nil ⟨by kernel_rfl, ?_⟩
  refine W.frzc (q := 0) (j := 1) (r := 8) rfl rfl (by decide) rfl (lnks_all (l := ring3.links) rfl) (lnks_pure _) (Sp.lit rfl) ?_
  refine W.frzc (q := 0) (j := 2) (r := 9) rfl rfl (by decide) rfl (bools_tk (l := ring3.down) rfl) (boolsC_pure _) (Sp.lit rfl) ?_
  refine W.frzc (q := 0) (j := 3) (r := 10) rfl rfl (by decide) rfl (bools_tk (l := ring3.dead) rfl) (boolsC_pure _) (Sp.lit rfl) ?_
  repeat (refine W.seq ?_)
  refine W.ret ⟨.inl rfl, _, mt, (RVs.cons (RV.cellA rfl rfl ty28 rfl (Tk.lit rfl)) RVs.nil), (by (repeat' (first | exact all_mt | refine all_up ?_ ?_)) <;> rfl), ?_⟩
  exact ⟨rfl, rfl⟩
def ld3 : List Ld := [⟨0, 1, 0⟩, ⟨1, 2, 0⟩, ⟨2, 0, 0⟩]
def it3 : List Itm := [⟨false, 0⟩, ⟨false, 1⟩, ⟨false, 2⟩]
def it2 : List Itm := [⟨false, 0⟩, ⟨false, 1⟩]
theorem ring_rounds : roundsF ring3 ld3 it3 = ([[⟨false, 0⟩], [⟨false, 1⟩], [⟨false, 2⟩]], 0) := by decide +kernel
theorem ring_safe : safeE ring3 ld3 it2 = 16 := by decide +kernel
theorem awake_any : AFn Tryd.prog 8 0 [] mt (.base (.bool true)) mt := by
  refine AFn.eq Tryd.func8 rfl rfl (Nat.le_of_ble_eq_true rfl) ?_
  have hr := rounds_any ring3 ld3 it3 (by decide) (by decide) (by decide)
  rw [ring_rounds] at hr
  have hs := steps_any [[⟨false, 0⟩], [⟨false, 1⟩], [⟨false, 2⟩]] (by decide) (by decide)
  have hf := safe_any ring3 ld3 it2 (by decide) (by decide) (by decide)
  rw [ring_safe] at hf
  have hring := ring_any
  repeat (refine W.seq ?_)
  refine W.region 0 1 (by decide) rfl rfl ?_
  refine RW.opd rfl rfl (LO.assign rfl rfl) ?_
  refine RW.nil ?_
  repeat (refine W.seq ?_)
  refine W.region 5 10 (by decide) rfl rfl ?_
  refine RW.opd rfl rfl (LO.build_st rfl ty51 (.cons rfl rfl rfl rfl (Sp.lit rfl) (.cons rfl rfl rfl rfl (Sp.lit rfl) .nil))) ?_
  refine RW.opd rfl rfl (LO.build_st rfl ty51 (.cons rfl rfl rfl rfl (Sp.lit rfl) (.cons rfl rfl rfl rfl (Sp.lit rfl) .nil))) ?_
  refine RW.opd rfl rfl (LO.build_st rfl ty51 (.cons rfl rfl rfl rfl (Sp.lit rfl) (.cons rfl rfl rfl rfl (Sp.lit rfl) .nil))) ?_
  refine RW.opd rfl rfl (LO.buildSlice rfl ty29 ty51 (by decide) (by decide) (.cons rfl rfl rfl rfl (Sp.lit rfl) (.cons rfl rfl rfl rfl (Sp.lit rfl) (.cons rfl rfl rfl rfl (Sp.lit rfl) .nil)))) ?_
  refine RW.opd rfl rfl (LO.assign rfl rfl) ?_
  refine RW.nil ?_
  refine W.frz1 (t := 1) rfl rfl (lds_all (l := ld3) rfl) (lds_pure _) ?_
  repeat (refine W.seq ?_)
  refine W.region 14 26 (by decide) rfl rfl ?_
  refine RW.opd rfl rfl (LO.call0 (fr := []) rfl rfl (hring) fok27 .nil rfl) ?_
  refine RW.opd rfl rfl (LO.move rfl rfl) ?_
  refine RW.opd rfl rfl (LO.build_st rfl ty45 (.cons rfl rfl rfl rfl (Sp.lit rfl) .nil)) ?_
  refine RW.opd rfl rfl (LO.build_st rfl ty45 (.cons rfl rfl rfl rfl (Sp.lit rfl) .nil)) ?_
  refine RW.opd rfl rfl (LO.build_st rfl ty45 (.cons rfl rfl rfl rfl (Sp.lit rfl) .nil)) ?_
  refine RW.opd rfl rfl (LO.buildSlice rfl ty22 ty45 (by decide) (by decide) (.cons rfl rfl rfl rfl (Sp.lit rfl) (.cons rfl rfl rfl rfl (Sp.lit rfl) (.cons rfl rfl rfl rfl (Sp.lit rfl) .nil)))) ?_
  refine RW.opd rfl rfl (LO.call0 (fr := [19]) rfl rfl (hr) fok11 (.cons rfl (.pure rfl) (.cons rfl (.pure rfl) (.cons rfl (.one (.osl (by decide) rfl (its_all (l := it3) rfl) (its_pure _))) .nil))) rfl) ?_
  refine RW.opd rfl rfl (LO.move rfl rfl) ?_
  refine RW.opd rfl rfl (LO.extract rfl rfl rfl) ?_
  refine RW.opd rfl rfl (LO.extract rfl rfl rfl) ?_
  refine RW.opd rfl rfl (LO.assign rfl rfl) ?_
  refine RW.opd rfl rfl (LO.assign rfl rfl) ?_
  refine RW.nil ?_
  repeat (refine W.seq ?_)
  refine W.region 30 53 (by decide) rfl rfl ?_
  refine RW.opd rfl rfl (LO.move rfl rfl) ?_
  refine RW.opd rfl rfl (LO.eql rfl rfl rfl) ?_
  refine RW.opd rfl rfl (LO.move rfl rfl) ?_
  refine RW.gd rfl rfl rfl ?_ rfl (LO.move rfl rfl) ?_; (· (first | rfl | assumption))
  refine RW.gd rfl rfl rfl ?_ rfl (LO.len_isl rfl rfl rfl ty34) ?_; (· (first | rfl | assumption))
  refine RW.gd rfl rfl rfl ?_ rfl (LO.eql rfl rfl rfl) ?_; (· (first | rfl | assumption))
  refine RW.opd rfl rfl (LO.pick_t rfl rfl ?_ rfl) ?_; (· (first | rfl | assumption))
  refine RW.opd rfl rfl (LO.move rfl rfl) ?_
  refine RW.gd rfl rfl rfl ?_ rfl (LO.move rfl rfl) ?_; (· (first | rfl | assumption))
  refine RW.gd rfl rfl rfl ?_ rfl (LO.call0 (fr := []) rfl rfl (hs) fok15 (.cons rfl (.pure rfl) .nil) rfl) ?_; (· (first | rfl | assumption))
  refine RW.gd rfl rfl rfl ?_ rfl (LO.len_isl rfl rfl rfl ty40) ?_; (· (first | rfl | assumption))
  refine RW.gd rfl rfl rfl ?_ rfl (LO.eql rfl rfl rfl) ?_; (· (first | rfl | assumption))
  refine RW.opd rfl rfl (LO.pick_t rfl rfl ?_ rfl) ?_; (· (first | rfl | assumption))
  refine RW.opd rfl rfl (LO.move rfl rfl) ?_
  refine RW.gd rfl rfl rfl ?_ rfl (LO.call0 (fr := []) rfl rfl (hring) fok27 .nil rfl) ?_; (· (first | rfl | assumption))
  refine RW.gd rfl rfl rfl ?_ rfl (LO.move rfl rfl) ?_; (· (first | rfl | assumption))
  refine RW.gd rfl rfl rfl ?_ rfl (LO.build_st rfl ty45 (.cons rfl rfl rfl rfl (Sp.lit rfl) .nil)) ?_; (· (first | rfl | assumption))
  refine RW.gd rfl rfl rfl ?_ rfl (LO.build_st rfl ty45 (.cons rfl rfl rfl rfl (Sp.lit rfl) .nil)) ?_; (· (first | rfl | assumption))
  refine RW.gd rfl rfl rfl ?_ rfl (LO.buildSlice rfl ty22 ty45 (by decide) (by decide) (.cons rfl rfl rfl rfl (Sp.lit rfl) (.cons rfl rfl rfl rfl (Sp.lit rfl) .nil))) ?_; (· (first | rfl | assumption))
  refine RW.gd rfl rfl rfl ?_ rfl (LO.call0 (fr := [48]) rfl rfl (hf) fok18 (.cons rfl (.pure rfl) (.cons rfl (.pure rfl) (.cons rfl (.one (.osl (by decide) rfl (its_all (l := it2) rfl) (its_pure _))) .nil))) rfl) ?_; (· (first | rfl | assumption))
  refine RW.gd rfl rfl rfl ?_ rfl (LO.eql rfl rfl rfl) ?_; (· (first | rfl | assumption))
  refine RW.opd rfl rfl (LO.pick_t rfl rfl ?_ rfl) ?_; (· (first | rfl | assumption))
  refine RW.opd rfl rfl (LO.assign rfl rfl) ?_
  refine RW.nil ?_
  repeat (refine W.seq ?_)
  refine W.ret ⟨.inl rfl, _, mt, RVs.cons (RV.tmp rfl) (RVs.nil), all_mt, ?_⟩
  exact ⟨rfl, rfl⟩
end Go.Proofs.YtbjfaepjpmogjaaDoor
