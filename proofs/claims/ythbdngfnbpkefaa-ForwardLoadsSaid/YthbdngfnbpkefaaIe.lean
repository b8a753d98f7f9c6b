/-
  Chapter 14: the document's loads.
-/
import Derived.Test.YthbdngfnbpkefaaId
namespace Go.Proofs.Ythbdngfnbpkefaa
open Go.RowKit
def rowX (w : List Int) (as_ : List Int) (i : Nat) (out : List Int) (k : Nat) : List Int := if i < as_.length then rowK w (gI as_ i) out k else out
def onB (w : List Int) (k : Int) : Nat → Bool
  | 0 => false
  | j + 1 => onB w k j || (gI w j == k)
theorem onB_take (w : List Int) (k : Int) (j : Nat) (hj : j ≤ w.length) : onB w k j = decide (k ∈ w.take j) := by
  induction j with
  | zero => simp [onB]
  | succ j ih =>
    have e : w.take (j + 1) = w.take j ++ [w[j]'(by omega)] := by rw [List.take_add_one]; simp [show j < w.length by omega]
    rw [e, show onB w k (j + 1) = (onB w k j || (gI w j == k)) from rfl, ih (by omega), gI_at (show j < w.length by omega)]
    by_cases h1 : k ∈ w.take j
    · simp only [h1, decide_true, Bool.true_or, List.mem_append, true_or]
    · have h2 : (w[j]'(by omega) == k) = decide (k = w[j]'(by omega)) := by
        rw [Bool.eq_iff_iff]; simp only [beq_iff_eq, decide_eq_true_eq]; exact eq_comm
      rw [h2]
      simp only [h1, decide_false, Bool.false_or, List.mem_append, List.mem_singleton, false_or]
set_option maxHeartbeats 1000000 in
theorem loadsX_any (f : Fab) (hn : f.links.length ≤ 1000) (ws : List (List Int)) (as_ : List Int) (hw : ws.length ≤ 1000) (hws : ∀ w ∈ ws, w.length ≤ 9223372036854775807) : AFn Try.prog 43 0 [.agg (fabC f), .isl (listsC ws) ws.length, .isl (intsC as_) as_.length] mt (intsV (loadsF f ws as_)) mt := by
  refine AFn.eq Try.func43 rfl rfl (Nat.le_of_ble_eq_true rfl) ?_
  obtain ⟨n, hnn⟩ : ∃ n, f.links.length = n := ⟨_, rfl⟩
  unfold loadsF fabC
  rw [hnn] at hn ⊢
  repeat (refine W.seq ?_)
  refine W.region 0 2 (by decide) rfl rfl ?_
  refine RW.opd rfl rfl (LO.box rfl rfl rfl) ?_
  refine RW.opd rfl rfl (LO.assign rfl rfl) ?_
  refine RW.nil ?_
  repeat (refine W.seq ?_)
  refine W.region 6 11 (by decide) rfl rfl ?_
  refine RW.opd rfl rfl (LO.fieldAddr rfl rfl ty25 rfl (by decide)) ?_
  refine RW.opd rfl rfl (LO.load rfl rfl rfl rfl ty22 rfl) ?_
  refine RW.opd rfl rfl (LO.len_isl rfl rfl rfl ty22) ?_
  refine RW.opd rfl rfl (LO.makeSlice rfl rfl rfl rfl rfl ty26 ty3 (by decide) ?_ ?_ ?_) ?_; (· (first | omega | decide | assumption | fail | (simp; done) | (simp; omega))); (· (first | omega | decide | assumption | fail | (simp; done) | (simp; omega))); (· (first | omega | decide | assumption | fail | (simp; done) | (simp; omega)))
  refine RW.opd rfl rfl (LO.assign rfl rfl) ?_
  refine RW.nil ?_
  rw [zeros_ints]
  repeat (refine W.seq ?_)
  refine W.region 15 18 (by decide) rfl rfl ?_
  refine RW.opd rfl rfl (LO.move rfl rfl) ?_
  refine RW.opd rfl rfl (LO.len_isl rfl rfl rfl ty60) ?_
  refine RW.opd rfl rfl (LO.move rfl rfl) ?_
  refine RW.nil ?_
  repeat (refine W.seq ?_)
  refine W.block ?_
  refine W.loop_keep (α := Nat) (fun x => ws.length - x) 1 (fun x => [(7, .osl 0 0 n 1), (20, .base (.int .i64 (x : Int)))]) (fun x => up mt 0 (some (intsC (loadsK n ws as_ x)))) (fun x => x ≤ ws.length) 0 [(0, 9)] (.cons (t := 2) rfl (by first | exact .inl rfl | exact .inr ⟨rfl, fun _ h => by cases h⟩ | (exact .inl (by assumption)) | exact .inl (intsC_pure _) | exact .inl (listsC_pure _)) (.cons (t := 18) rfl (by first | exact .inl rfl | exact .inr ⟨rfl, fun _ h => by cases h⟩ | (exact .inl (by assumption)) | exact .inl (intsC_pure _) | exact .inl (listsC_pure _)) (.cons (t := 19) rfl (by first | exact .inl rfl | exact .inr ⟨rfl, fun _ h => by cases h⟩ | (exact .inl (by assumption)) | exact .inl (intsC_pure _) | exact .inl (listsC_pure _)) .nil))) (show 0 ≤ ws.length from Nat.zero_le _) (by decide) ?_ ?_ ?_
  · (repeat' (first | exact LookR.nil | refine LookR.cons ?_ ?_)) <;> first | exact .inl ⟨rfl, rfl⟩ | exact .inr ⟨rfl, fun _ h => by cases h⟩ | exact .inl ⟨rfl, by first | rfl | assumption | exact (intsC_pure _) | exact (listsC_pure _)⟩
  · (repeat' (first | exact all_mt | refine all_up ?_ ?_)) <;> first | exact ⟨rfl, _, rfl, .inr ⟨rfl, rfl⟩⟩ | exact ⟨rfl, _, rfl, .inl rfl⟩ | exact ⟨rfl, _, rfl, .inr ⟨rfl, by first | rfl | assumption | exact (intsC_pure _) | exact (listsC_pure _)⟩⟩
  rintro i hIA ihA
  try (dsimp only at hIA)
  try dsimp only [baseT, List.cons_append, List.nil_append]
  have hlk := loadsK_len n ws as_ i
  by_cases hc : i < ws.length
  · have g1 : decide ((i : Int) < (ws.length : Int)) = true := decide_eq_true (by omega)
    have hwi := hws ws[i] (List.getElem_mem _)
    repeat (refine W.seq ?_)
    refine W.region 22 23 (by decide) rfl rfl ?_
    refine RW.opd rfl rfl (LO.lss rfl rfl rfl) ?_
    refine RW.nil ?_
    repeat (refine W.seq ?_)
    refine W.cond_t rfl (by first | rfl | assumption) ?_
    refine W.skip ?_
    repeat (refine W.seq ?_)
    refine W.block ?_
    repeat (refine W.seq ?_)
    refine W.region 27 32 (by decide) rfl rfl ?_
    refine RW.opd rfl rfl (LO.move rfl rfl) ?_
    refine RW.opd rfl rfl (LO.indexAddr_isl rfl rfl rfl rfl rfl ty60 ty26 ?_) ?_; (· (first | omega | decide | assumption | fail | (simp; done) | (simp; omega)))
    refine RW.opd rfl rfl (LO.load_imm rfl rfl (lists_at hc) ty26 rfl) ?_
    refine RW.opd rfl rfl (LO.assign rfl rfl) ?_
    refine RW.opd rfl rfl (LO.assign rfl rfl) ?_
    refine RW.nil ?_
    have hnx : loadsK n ws as_ (i + 1) = rowX ws[i] as_ i (loadsK n ws as_ i) n := by
      rw [show loadsK n ws as_ (i + 1) = if i < as_.length then rowK (ws[i]?.getD []) (gI as_ i) (loadsK n ws as_ i) n else loadsK n ws as_ i from rfl]
      unfold rowX
      simp [hc]
    obtain ⟨w, hwe⟩ : ∃ w, ws[i] = w := ⟨_, rfl⟩
    rw [hwe] at hnx hwi ⊢
    have hz : intsC (loadsK n ws as_ i) = intsC (rowX w as_ i (loadsK n ws as_ i) 0) := by unfold rowX; rw [rowK_zero]; simp
    rw [hz]
    repeat (refine W.seq ?_)
    refine W.region 36 39 (by decide) rfl rfl ?_
    refine RW.opd rfl rfl (LO.move rfl rfl) ?_
    refine RW.opd rfl rfl (LO.len rfl rfl ty26) ?_
    refine RW.opd rfl rfl (LO.move rfl rfl) ?_
    refine RW.nil ?_
    repeat (refine W.seq ?_)
    refine W.block ?_
    refine W.loop_keep (α := Nat) (fun x => n - x) 1 (fun x => [(7, .osl 0 0 n 1), (27, .base (.int .i64 (x : Int)))]) (fun x => up mt 0 (some (intsC (rowX w as_ i (loadsK n ws as_ i) x)))) (fun x => x ≤ n) 0 [(0, 0)] (.cons (t := 2) rfl (by first | exact .inl rfl | exact .inr ⟨rfl, fun _ h => by cases h⟩ | (exact .inl (by assumption)) | exact .inl (intsC_pure _) | exact .inl (listsC_pure _)) (.cons (t := 8) rfl (by first | exact .inl rfl | exact .inr ⟨rfl, fun _ h => by cases h⟩ | (exact .inl (by assumption)) | exact .inl (intsC_pure _) | exact .inl (listsC_pure _)) (.cons (t := 9) rfl (by first | exact .inl rfl | exact .inr ⟨rfl, fun _ h => by cases h⟩ | (exact .inl (by assumption)) | exact .inl (intsC_pure _) | exact .inl (listsC_pure _)) (.cons (t := 18) rfl (by first | exact .inl rfl | exact .inr ⟨rfl, fun _ h => by cases h⟩ | (exact .inl (by assumption)) | exact .inl (intsC_pure _) | exact .inl (listsC_pure _)) (.cons (t := 19) rfl (by first | exact .inl rfl | exact .inr ⟨rfl, fun _ h => by cases h⟩ | (exact .inl (by assumption)) | exact .inl (intsC_pure _) | exact .inl (listsC_pure _)) (.cons (t := 20) rfl (by first | exact .inl rfl | exact .inr ⟨rfl, fun _ h => by cases h⟩ | (exact .inl (by assumption)) | exact .inl (intsC_pure _) | exact .inl (listsC_pure _)) (.cons (t := 26) rfl (by first | exact .inl rfl | exact .inr ⟨rfl, fun _ h => by cases h⟩ | (exact .inl (by assumption)) | exact .inl (intsC_pure _) | exact .inl (listsC_pure _)) .nil))))))) (show 0 ≤ n from Nat.zero_le _) (by decide) ?_ ?_ ?_
    · (repeat' (first | exact LookR.nil | refine LookR.cons ?_ ?_)) <;> first | exact .inl ⟨rfl, rfl⟩ | exact .inr ⟨rfl, fun _ h => by cases h⟩ | exact .inl ⟨rfl, by first | rfl | assumption | exact (intsC_pure _) | exact (listsC_pure _)⟩
    · (repeat' (first | exact all_mt | refine all_up ?_ ?_)) <;> first | exact ⟨rfl, _, rfl, .inr ⟨rfl, rfl⟩⟩ | exact ⟨rfl, _, rfl, .inl rfl⟩ | exact ⟨rfl, _, rfl, .inr ⟨rfl, by first | rfl | assumption | exact (intsC_pure _) | exact (listsC_pure _)⟩⟩
    rintro k hIB ihB
    try (dsimp only at hIB)
    try dsimp only [baseT, List.cons_append, List.nil_append]
    have hrl : (rowX w as_ i (loadsK n ws as_ i) k).length = n := by
      unfold rowX; split
      · rw [rowK_len, hlk]
      · exact hlk
    by_cases hk : k < n
    · have g3 : decide ((k : Int) < (n : Int)) = true := decide_eq_true (by omega)
      repeat (refine W.seq ?_)
      refine W.region 43 44 (by decide) rfl rfl ?_
      refine RW.opd rfl rfl (LO.lss rfl rfl rfl) ?_
      refine RW.nil ?_
      repeat (refine W.seq ?_)
      refine W.cond_t rfl (by first | rfl | assumption) ?_
      refine W.skip ?_
      repeat (refine W.seq ?_)
      refine W.block ?_
      repeat (refine W.seq ?_)
      refine W.region 48 50 (by decide) rfl rfl ?_
      refine RW.opd rfl rfl (LO.move rfl rfl) ?_
      refine RW.opd rfl rfl (LO.assign rfl rfl) ?_
      refine RW.nil ?_
      repeat (refine W.seq ?_)
      refine W.region 54 55 (by decide) rfl rfl ?_
      refine RW.opd rfl rfl (LO.assign rfl rfl) ?_
      refine RW.nil ?_
      repeat (refine W.seq ?_)
      refine W.region 59 62 (by decide) rfl rfl ?_
      refine RW.opd rfl rfl (LO.move rfl rfl) ?_
      refine RW.opd rfl rfl (LO.len_isl rfl rfl rfl ty26) ?_
      refine RW.opd rfl rfl (LO.move rfl rfl) ?_
      refine RW.nil ?_
      repeat (refine W.seq ?_)
      refine W.block ?_
      refine W.loop_keep (α := Nat) (fun x => w.length - x) 1 (fun x => [(7, .osl 0 0 n 1), (11, .base (.bool (onB w k x))), (32, .base (.int .i64 (x : Int)))]) (fun x => up mt 0 (some (intsC (rowX w as_ i (loadsK n ws as_ i) k)))) (fun x => x ≤ w.length) 0 [(0, 0)] (.cons (t := 2) rfl (by first | exact .inl rfl | exact .inr ⟨rfl, fun _ h => by cases h⟩ | (exact .inl (by assumption)) | exact .inl (intsC_pure _) | exact .inl (listsC_pure _)) (.cons (t := 8) rfl (by first | exact .inl rfl | exact .inr ⟨rfl, fun _ h => by cases h⟩ | (exact .inl (by assumption)) | exact .inl (intsC_pure _) | exact .inl (listsC_pure _)) (.cons (t := 9) rfl (by first | exact .inl rfl | exact .inr ⟨rfl, fun _ h => by cases h⟩ | (exact .inl (by assumption)) | exact .inl (intsC_pure _) | exact .inl (listsC_pure _)) (.cons (t := 10) rfl (by first | exact .inl rfl | exact .inr ⟨rfl, fun _ h => by cases h⟩ | (exact .inl (by assumption)) | exact .inl (intsC_pure _) | exact .inl (listsC_pure _)) (.cons (t := 18) rfl (by first | exact .inl rfl | exact .inr ⟨rfl, fun _ h => by cases h⟩ | (exact .inl (by assumption)) | exact .inl (intsC_pure _) | exact .inl (listsC_pure _)) (.cons (t := 19) rfl (by first | exact .inl rfl | exact .inr ⟨rfl, fun _ h => by cases h⟩ | (exact .inl (by assumption)) | exact .inl (intsC_pure _) | exact .inl (listsC_pure _)) (.cons (t := 20) rfl (by first | exact .inl rfl | exact .inr ⟨rfl, fun _ h => by cases h⟩ | (exact .inl (by assumption)) | exact .inl (intsC_pure _) | exact .inl (listsC_pure _)) (.cons (t := 26) rfl (by first | exact .inl rfl | exact .inr ⟨rfl, fun _ h => by cases h⟩ | (exact .inl (by assumption)) | exact .inl (intsC_pure _) | exact .inl (listsC_pure _)) (.cons (t := 27) rfl (by first | exact .inl rfl | exact .inr ⟨rfl, fun _ h => by cases h⟩ | (exact .inl (by assumption)) | exact .inl (intsC_pure _) | exact .inl (listsC_pure _)) (.cons (t := 30) rfl (by first | exact .inl rfl | exact .inr ⟨rfl, fun _ h => by cases h⟩ | (exact .inl (by assumption)) | exact .inl (intsC_pure _) | exact .inl (listsC_pure _)) (.cons (t := 31) rfl (by first | exact .inl rfl | exact .inr ⟨rfl, fun _ h => by cases h⟩ | (exact .inl (by assumption)) | exact .inl (intsC_pure _) | exact .inl (listsC_pure _)) .nil))))))))))) (show 0 ≤ w.length from Nat.zero_le _) (by decide) ?_ ?_ ?_
      · (repeat' (first | exact LookR.nil | refine LookR.cons ?_ ?_)) <;> first | exact .inl ⟨rfl, rfl⟩ | exact .inr ⟨rfl, fun _ h => by cases h⟩ | exact .inl ⟨rfl, by first | rfl | assumption | exact (intsC_pure _) | exact (listsC_pure _)⟩
      · (repeat' (first | exact all_mt | refine all_up ?_ ?_)) <;> first | exact ⟨rfl, _, rfl, .inr ⟨rfl, rfl⟩⟩ | exact ⟨rfl, _, rfl, .inl rfl⟩ | exact ⟨rfl, _, rfl, .inr ⟨rfl, by first | rfl | assumption | exact (intsC_pure _) | exact (listsC_pure _)⟩⟩
      rintro j hIC ihC
      try (dsimp only at hIC)
      try dsimp only [baseT, List.cons_append, List.nil_append]
      by_cases hj : j < w.length
      · have g4 : decide ((j : Int) < (w.length : Int)) = true := decide_eq_true (by omega)
        have ht : onB w k (j + 1) = (onB w k j || (gI w j == (k : Int))) := rfl
        repeat (refine W.seq ?_)
        refine W.region 66 67 (by decide) rfl rfl ?_
        refine RW.opd rfl rfl (LO.lss rfl rfl rfl) ?_
        refine RW.nil ?_
        repeat (refine W.seq ?_)
        refine W.cond_t rfl (by first | rfl | assumption) ?_
        refine W.skip ?_
        repeat (refine W.seq ?_)
        refine W.block ?_
        repeat (refine W.seq ?_)
        refine W.region 71 74 (by decide) rfl rfl ?_
        refine RW.opd rfl rfl (LO.indexAddr_isl rfl rfl rfl rfl rfl ty26 ty3 ?_) ?_; (· (first | omega | decide | assumption | fail | (simp; done) | (simp; omega)))
        refine RW.opd rfl rfl (LO.load_imm rfl rfl (ni_at1 (k := j) hj) ty3 rfl) ?_
        refine RW.opd rfl rfl (LO.assign rfl rfl) ?_
        refine RW.nil ?_
        cases hb : onB w k j with
        | true =>
          rw [hb, Bool.true_or] at ht
          have ht2 : AV.base (.bool true) = AV.base (.bool (onB w k (j + 1))) := by rw [ht]
          repeat (refine W.seq ?_)
          refine W.region 78 85 (by decide) rfl rfl ?_
          refine RW.opd rfl rfl (LO.move rfl rfl) ?_
          refine RW.opd rfl rfl (LO.move rfl rfl) ?_
          refine RW.sd rfl rfl rfl ?_ rfl ?_; (· (first | rfl | assumption))
          refine RW.sd rfl rfl rfl ?_ rfl ?_; (· (first | rfl | assumption))
          refine RW.sd rfl rfl rfl ?_ rfl ?_; (· (first | rfl | assumption))
          refine RW.opd rfl rfl (LO.pick_t rfl rfl ?_ rfl) ?_; (· (first | rfl | assumption))
          refine RW.opd rfl rfl (LO.assign rfl rfl) ?_
          refine RW.nil ?_
          repeat (refine W.seq ?_)
          refine W.region 89 91 (by decide) rfl rfl ?_
          refine RW.opd rfl rfl (LO.add_in rfl rfl rfl ?_) ?_; (· (first | exact IntWalk.i64_in _ (by omega) | assumption))
          refine RW.opd rfl rfl (LO.move rfl rfl) ?_
          refine RW.nil ?_
          rw [ht2]
          refine WL.renameL [(0, 0)] 1 (by decide) ?_ ?_ (ihC (j + 1) (show w.length - (j + 1) < w.length - j from by omega) (show (j + 1) ≤ w.length from by omega))
          · (repeat' (first | exact LookR.nil | refine LookR.cons ?_ ?_)) <;> first | exact .inl ⟨rfl, rfl⟩ | exact .inr ⟨rfl, fun _ h => by cases h⟩ | exact .inl ⟨rfl, by first | rfl | assumption | exact (intsC_pure _) | exact (listsC_pure _)⟩
          · (repeat' (first | exact all_mt | refine all_up ?_ ?_)) <;> first | exact ⟨rfl, _, rfl, .inr ⟨rfl, rfl⟩⟩ | exact ⟨rfl, _, rfl, .inl rfl⟩ | exact ⟨rfl, _, rfl, .inr ⟨rfl, by first | rfl | assumption | exact (intsC_pure _) | exact (listsC_pure _)⟩⟩
        | false =>
          rw [hb, Bool.false_or] at ht
          repeat (refine W.seq ?_)
          refine W.region 78 85 (by decide) rfl rfl ?_
          refine RW.opd rfl rfl (LO.move rfl rfl) ?_
          refine RW.opd rfl rfl (LO.move rfl rfl) ?_
          refine RW.gd rfl rfl rfl ?_ rfl (LO.move rfl rfl) ?_; (· (first | rfl | assumption))
          refine RW.gd rfl rfl rfl ?_ rfl (LO.move rfl rfl) ?_; (· (first | rfl | assumption))
          refine RW.gd rfl rfl rfl ?_ rfl (LO.eql rfl rfl rfl) ?_; (· (first | rfl | assumption))
          refine RW.opd rfl rfl (LO.pick_f rfl rfl ?_ rfl) ?_; (· (first | rfl | assumption))
          refine RW.opd rfl rfl (LO.assign rfl rfl) ?_
          refine RW.nil ?_
          repeat (refine W.seq ?_)
          refine W.region 89 91 (by decide) rfl rfl ?_
          refine RW.opd rfl rfl (LO.add_in rfl rfl rfl ?_) ?_; (· (first | exact IntWalk.i64_in _ (by omega) | assumption))
          refine RW.opd rfl rfl (LO.move rfl rfl) ?_
          refine RW.nil ?_
          rw [← ht]
          refine WL.renameL [(0, 0)] 1 (by decide) ?_ ?_ (ihC (j + 1) (show w.length - (j + 1) < w.length - j from by omega) (show (j + 1) ≤ w.length from by omega))
          · (repeat' (first | exact LookR.nil | refine LookR.cons ?_ ?_)) <;> first | exact .inl ⟨rfl, rfl⟩ | exact .inr ⟨rfl, fun _ h => by cases h⟩ | exact .inl ⟨rfl, by first | rfl | assumption | exact (intsC_pure _) | exact (listsC_pure _)⟩
          · (repeat' (first | exact all_mt | refine all_up ?_ ?_)) <;> first | exact ⟨rfl, _, rfl, .inr ⟨rfl, rfl⟩⟩ | exact ⟨rfl, _, rfl, .inl rfl⟩ | exact ⟨rfl, _, rfl, .inr ⟨rfl, by first | rfl | assumption | exact (intsC_pure _) | exact (listsC_pure _)⟩⟩
      · have g4 : decide ((j : Int) < (w.length : Int)) = false := decide_eq_false (by omega)
        repeat (refine W.seq ?_)
        refine W.region 66 67 (by decide) rfl rfl ?_
        refine RW.opd rfl rfl (LO.lss rfl rfl rfl) ?_
        refine RW.nil ?_
        repeat (refine W.seq ?_)
        refine W.cond_f rfl (by first | rfl | assumption) ?_
        refine W.exit ?_
        obtain rfl : j = w.length := by omega
        rw [onB_take w k w.length (Nat.le_refl _), List.take_length]
        by_cases hm : (k : Int) ∈ w
        · have g5 : decide ((k : Int) ∈ w) = true := decide_eq_true hm
          by_cases hal : i < as_.length
          · have g6 : decide ((i : Int) < (as_.length : Int)) = true := decide_eq_true (by omega)
            have hri : (rowX w as_ i (loadsK n ws as_ i) k).set k (IntKind.i64.wrap (gI (rowX w as_ i (loadsK n ws as_ i) k) k + gI as_ i)) = rowX w as_ i (loadsK n ws as_ i) (k + 1) := by
              unfold rowX
              rw [if_pos hal, if_pos hal]
              exact rowK_in (by omega) hm
            repeat (refine W.seq ?_)
            refine W.region 95 102 (by decide) rfl rfl ?_
            refine RW.opd rfl rfl (LO.move rfl rfl) ?_
            refine RW.opd rfl rfl (LO.move rfl rfl) ?_
            refine RW.gd rfl rfl rfl ?_ rfl (LO.move rfl rfl) ?_; (· (first | rfl | assumption))
            refine RW.gd rfl rfl rfl ?_ rfl (LO.move rfl rfl) ?_; (· (first | rfl | assumption))
            refine RW.gd rfl rfl rfl ?_ rfl (LO.len_isl rfl rfl rfl ty26) ?_; (· (first | rfl | assumption))
            refine RW.gd rfl rfl rfl ?_ rfl (LO.lss rfl rfl rfl) ?_; (· (first | rfl | assumption))
            refine RW.opd rfl rfl (LO.pick_t rfl rfl ?_ rfl) ?_; (· (first | rfl | assumption))
            refine RW.nil ?_
            repeat (refine W.seq ?_)
            refine W.cond_t rfl (by first | rfl | assumption) ?_
            repeat (refine W.seq ?_)
            refine W.regionD 106 117 (by decide) rfl mixed rfl ?_
            refine RW.opd rfl rfl (LO.move rfl rfl) ?_
            refine RW.opd rfl rfl (LO.move rfl rfl) ?_
            refine RW.opd rfl rfl (LO.indexAddr rfl rfl rfl rfl ty26 ty3 ?_) ?_; (· (first | omega | decide | assumption | fail | (simp; done) | (simp; omega)))
            refine RW.opd rfl rfl (LO.load rfl rfl rfl (ni_at (k := k) (by omega)) ty3 rfl) ?_
            refine RW.opd rfl rfl (LO.move rfl rfl) ?_
            refine RW.opd rfl rfl (LO.move rfl rfl) ?_
            refine RW.opd rfl rfl (LO.indexAddr_isl rfl rfl rfl rfl rfl ty26 ty3 ?_) ?_; (· (first | omega | decide | assumption | fail | (simp; done) | (simp; omega)))
            refine RW.opd rfl rfl (LO.load_imm rfl rfl (ni_at1 (k := i) hal) ty3 rfl) ?_
            refine RW.opd rfl rfl (LO.add rfl rfl rfl) ?_
            refine RW.opd rfl rfl (LO.indexAddr rfl rfl rfl rfl ty26 ty3 ?_) ?_; (· (first | omega | decide | assumption | fail | (simp; done) | (simp; omega)))
            refine RW.opn rfl rfl (LO.store rfl rfl rfl rfl rfl ty3 rfl (by decide) (ns_at (k := k) (by omega))) ?_
            refine RW.nil ⟨by kernel_rfl, ?_⟩
            rw [hri]
            repeat (refine W.seq ?_)
            refine W.region 121 123 (by decide) rfl rfl ?_
            refine RW.opd rfl rfl (LO.add_in rfl rfl rfl ?_) ?_; (· (first | exact IntWalk.i64_in _ (by omega) | assumption))
            refine RW.opd rfl rfl (LO.move rfl rfl) ?_
            refine RW.nil ?_
            refine WL.renameL [(0, 0)] 1 (by decide) ?_ ?_ (ihB (k + 1) (show n - (k + 1) < n - k from by omega) (show (k + 1) ≤ n from by omega))
            · (repeat' (first | exact LookR.nil | refine LookR.cons ?_ ?_)) <;> first | exact .inl ⟨rfl, rfl⟩ | exact .inr ⟨rfl, fun _ h => by cases h⟩ | exact .inl ⟨rfl, by first | rfl | assumption | exact (intsC_pure _) | exact (listsC_pure _)⟩
            · (repeat' (first | exact all_mt | refine all_up ?_ ?_)) <;> first | exact ⟨rfl, _, rfl, .inr ⟨rfl, rfl⟩⟩ | exact ⟨rfl, _, rfl, .inl rfl⟩ | exact ⟨rfl, _, rfl, .inr ⟨rfl, by first | rfl | assumption | exact (intsC_pure _) | exact (listsC_pure _)⟩⟩
          · have g6 : decide ((i : Int) < (as_.length : Int)) = false := decide_eq_false (by omega)
            have hri : rowX w as_ i (loadsK n ws as_ i) k = rowX w as_ i (loadsK n ws as_ i) (k + 1) := by
              unfold rowX; rw [if_neg hal, if_neg hal]
            repeat (refine W.seq ?_)
            refine W.region 95 102 (by decide) rfl rfl ?_
            refine RW.opd rfl rfl (LO.move rfl rfl) ?_
            refine RW.opd rfl rfl (LO.move rfl rfl) ?_
            refine RW.gd rfl rfl rfl ?_ rfl (LO.move rfl rfl) ?_; (· (first | rfl | assumption))
            refine RW.gd rfl rfl rfl ?_ rfl (LO.move rfl rfl) ?_; (· (first | rfl | assumption))
            refine RW.gd rfl rfl rfl ?_ rfl (LO.len_isl rfl rfl rfl ty26) ?_; (· (first | rfl | assumption))
            refine RW.gd rfl rfl rfl ?_ rfl (LO.lss rfl rfl rfl) ?_; (· (first | rfl | assumption))
            refine RW.opd rfl rfl (LO.pick_t rfl rfl ?_ rfl) ?_; (· (first | rfl | assumption))
            refine RW.nil ?_
            repeat (refine W.seq ?_)
            refine W.cond_f rfl (by first | rfl | assumption) ?_
            refine W.skip ?_
            rw [hri]
            repeat (refine W.seq ?_)
            refine W.region 121 123 (by decide) rfl rfl ?_
            refine RW.opd rfl rfl (LO.add_in rfl rfl rfl ?_) ?_; (· (first | exact IntWalk.i64_in _ (by omega) | assumption))
            refine RW.opd rfl rfl (LO.move rfl rfl) ?_
            refine RW.nil ?_
            refine WL.renameL [(0, 0)] 1 (by decide) ?_ ?_ (ihB (k + 1) (show n - (k + 1) < n - k from by omega) (show (k + 1) ≤ n from by omega))
            · (repeat' (first | exact LookR.nil | refine LookR.cons ?_ ?_)) <;> first | exact .inl ⟨rfl, rfl⟩ | exact .inr ⟨rfl, fun _ h => by cases h⟩ | exact .inl ⟨rfl, by first | rfl | assumption | exact (intsC_pure _) | exact (listsC_pure _)⟩
            · (repeat' (first | exact all_mt | refine all_up ?_ ?_)) <;> first | exact ⟨rfl, _, rfl, .inr ⟨rfl, rfl⟩⟩ | exact ⟨rfl, _, rfl, .inl rfl⟩ | exact ⟨rfl, _, rfl, .inr ⟨rfl, by first | rfl | assumption | exact (intsC_pure _) | exact (listsC_pure _)⟩⟩
        · have g5 : decide ((k : Int) ∈ w) = false := decide_eq_false hm
          have hri : rowX w as_ i (loadsK n ws as_ i) k = rowX w as_ i (loadsK n ws as_ i) (k + 1) := by
            unfold rowX
            split
            · exact rowK_out hm
            · rfl
          repeat (refine W.seq ?_)
          refine W.region 95 102 (by decide) rfl rfl ?_
          refine RW.opd rfl rfl (LO.move rfl rfl) ?_
          refine RW.opd rfl rfl (LO.move rfl rfl) ?_
          refine RW.sd rfl rfl rfl ?_ rfl ?_; (· (first | rfl | assumption))
          refine RW.sd rfl rfl rfl ?_ rfl ?_; (· (first | rfl | assumption))
          refine RW.sd rfl rfl rfl ?_ rfl ?_; (· (first | rfl | assumption))
          refine RW.sd rfl rfl rfl ?_ rfl ?_; (· (first | rfl | assumption))
          refine RW.opd rfl rfl (LO.pick_f rfl rfl ?_ rfl) ?_; (· (first | rfl | assumption))
          refine RW.nil ?_
          repeat (refine W.seq ?_)
          refine W.cond_f rfl (by first | rfl | assumption) ?_
          refine W.skip ?_
          rw [hri]
          repeat (refine W.seq ?_)
          refine W.region 121 123 (by decide) rfl rfl ?_
          refine RW.opd rfl rfl (LO.add_in rfl rfl rfl ?_) ?_; (· (first | exact IntWalk.i64_in _ (by omega) | assumption))
          refine RW.opd rfl rfl (LO.move rfl rfl) ?_
          refine RW.nil ?_
          refine WL.renameL [(0, 0)] 1 (by decide) ?_ ?_ (ihB (k + 1) (show n - (k + 1) < n - k from by omega) (show (k + 1) ≤ n from by omega))
          · (repeat' (first | exact LookR.nil | refine LookR.cons ?_ ?_)) <;> first | exact .inl ⟨rfl, rfl⟩ | exact .inr ⟨rfl, fun _ h => by cases h⟩ | exact .inl ⟨rfl, by first | rfl | assumption | exact (intsC_pure _) | exact (listsC_pure _)⟩
          · (repeat' (first | exact all_mt | refine all_up ?_ ?_)) <;> first | exact ⟨rfl, _, rfl, .inr ⟨rfl, rfl⟩⟩ | exact ⟨rfl, _, rfl, .inl rfl⟩ | exact ⟨rfl, _, rfl, .inr ⟨rfl, by first | rfl | assumption | exact (intsC_pure _) | exact (listsC_pure _)⟩⟩
    · have g3 : decide ((k : Int) < (n : Int)) = false := decide_eq_false (by omega)
      repeat (refine W.seq ?_)
      refine W.region 43 44 (by decide) rfl rfl ?_
      refine RW.opd rfl rfl (LO.lss rfl rfl rfl) ?_
      refine RW.nil ?_
      repeat (refine W.seq ?_)
      refine W.cond_f rfl (by first | rfl | assumption) ?_
      refine W.exit ?_
      obtain rfl : k = n := by omega
      rw [← hnx]
      repeat (refine W.seq ?_)
      refine W.region 127 129 (by decide) rfl rfl ?_
      refine RW.opd rfl rfl (LO.add_in rfl rfl rfl ?_) ?_; (· (first | exact IntWalk.i64_in _ (by omega) | assumption))
      refine RW.opd rfl rfl (LO.move rfl rfl) ?_
      refine RW.nil ?_
      refine WL.renameL [(0, 0)] 1 (by decide) ?_ ?_ (ihA (i + 1) (show ws.length - (i + 1) < ws.length - i from by omega) (show (i + 1) ≤ ws.length from by omega))
      · (repeat' (first | exact LookR.nil | refine LookR.cons ?_ ?_)) <;> first | exact .inl ⟨rfl, rfl⟩ | exact .inr ⟨rfl, fun _ h => by cases h⟩ | exact .inl ⟨rfl, by first | rfl | assumption | exact (intsC_pure _) | exact (listsC_pure _)⟩
      · (repeat' (first | exact all_mt | refine all_up ?_ ?_)) <;> first | exact ⟨rfl, _, rfl, .inr ⟨rfl, rfl⟩⟩ | exact ⟨rfl, _, rfl, .inl rfl⟩ | exact ⟨rfl, _, rfl, .inr ⟨rfl, by first | rfl | assumption | exact (intsC_pure _) | exact (listsC_pure _)⟩⟩
  · have g1 : decide ((i : Int) < (ws.length : Int)) = false := decide_eq_false (by omega)
    repeat (refine W.seq ?_)
    refine W.region 22 23 (by decide) rfl rfl ?_
    refine RW.opd rfl rfl (LO.lss rfl rfl rfl) ?_
    refine RW.nil ?_
    repeat (refine W.seq ?_)
    refine W.cond_f rfl (by first | rfl | assumption) ?_
    refine W.exit ?_
    obtain rfl : i = ws.length := by omega
    repeat (refine W.seq ?_)
    refine W.region 133 135 (by decide) rfl rfl ?_
    refine RW.opd rfl rfl (LO.move rfl rfl) ?_
    refine RW.opd rfl rfl (LO.assign rfl rfl) ?_
    refine RW.nil ?_
    refine W.frz1 (t := 6) rfl rfl (ints_tk (loadsK_len _ _ _ _)) (intsC_pure _) ?_
    repeat (refine W.seq ?_)
    refine W.ret ⟨.inl rfl, _, mt, RVs.cons (RV.tmp rfl) (RVs.nil), all_mt, ?_⟩
    exact ⟨by show AV.isl _ _ = AV.isl _ _; rw [loadsK_len], rfl⟩
end Go.Proofs.Ythbdngfnbpkefaa
