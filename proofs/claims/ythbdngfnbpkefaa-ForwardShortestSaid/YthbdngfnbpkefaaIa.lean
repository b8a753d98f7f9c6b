/-
  The hash of two addresses; the example of chapter 14.
-/
import Derived.Test.YthbdngfnbpkefaaHb
import Derived.Test.YthbdngfnbpkefaaMab
namespace Go.Proofs.Ythbdngfnbpkefaa
open Go.RowKit

def bytesC (l : List Int) : List AV := l.map fun z => .base (.int .u8 z)
theorem bytesC_pure (l : List Int) : (bytesC l).all AV.pure1 = true := by
  induction l with
  | nil => rfl
  | cons x l ih => rw [show bytesC (x :: l) = [.base (.int .u8 x)] ++ bytesC l from rfl, List.all_append, ih]; rfl
theorem bytes_tk {l : List Int} {n : Nat} (h : l.length = n) : Tk (bytesC l) 0 (n * 1) (bytesC l) := by
  have := Tk.all (bytesC l)
  rwa [show (bytesC l).length = n * 1 from by simp [bytesC, h]] at this
theorem by_at {l : List Int} {k : Nat} (h : k < l.length) : (bytesC l)[0 + k * 1]? = some (.base (.int .u8 l[k])) := by simp [bytesC, h]
def lsC (L : List (List Int)) : List AV := L.map fun l => .isl (bytesC l) l.length
theorem lsC_pure (L : List (List Int)) : (lsC L).all AV.pure1 = true := by
  induction L with
  | nil => rfl
  | cons x l ih => rw [show lsC (x :: l) = [.isl (bytesC x) x.length] ++ lsC l from rfl, List.all_append, ih]; rfl
theorem ls_at {L : List (List Int)} {k : Nat} (h : k < L.length) : (lsC L)[k * 1]? = some (.isl (bytesC L[k]) L[k].length) := by simp [lsC, h]
theorem grow_any (n : Nat) (h1 : 1 ≤ n) (h2 : n ≤ 1000000) : AFn Try.prog 51 0 [.nils, .base (.int .i64 (n : Int))] mt (.osl 0 0 0 1) (up mt 0 (some [])) := by
  refine AFn.eq Try.func51 rfl rfl (Nat.le_of_ble_eq_true rfl) ?_
  have g1 : decide ((n : Int) < 0) = false := decide_eq_false (by omega)
  repeat (refine W.seq ?_)
  refine W.region 0 1 (by decide) rfl rfl ?_
  refine RW.opd rfl rfl (LO.assign rfl rfl) ?_
  refine RW.nil ?_
  repeat (refine W.seq ?_)
  refine W.region 5 7 (by decide) rfl rfl ?_
  refine RW.opd rfl rfl (LO.move rfl rfl) ?_
  refine RW.opd rfl rfl (LO.lss rfl rfl rfl) ?_
  refine RW.nil ?_
  repeat (refine W.seq ?_)
  refine W.cond_f rfl (by first | rfl | assumption) ?_
  refine W.skip ?_
  repeat (refine W.seq ?_)
  refine W.region 17 25 (by decide) rfl rfl ?_
  refine RW.opd rfl rfl (LO.move rfl rfl) ?_
  refine RW.opd rfl rfl (LO.move rfl rfl) ?_
  refine RW.opd rfl rfl (LO.cap_nil rfl rfl ty73) ?_
  refine RW.opd rfl rfl (LO.move rfl rfl) ?_
  refine RW.opd rfl rfl (LO.len_isl rfl rfl rfl ty73) ?_
  refine RW.opd rfl rfl (LO.sub_in rfl rfl rfl ?_) ?_; (· (first | exact IntWalk.i64_in _ (by omega) | assumption))
  refine RW.opd rfl rfl (LO.sub_in rfl rfl rfl ?_) ?_; (· (first | exact IntWalk.i64_in _ (by omega) | assumption))
  refine RW.opd rfl rfl (LO.assign rfl rfl) ?_
  refine RW.nil ?_
  rw [show (n : Int) - (0 - ((0 : Nat) : Int)) = (n : Int) from by omega]
  have g2 : decide ((n : Int) > 0) = true := decide_eq_true (by omega)
  repeat (refine W.seq ?_)
  refine W.region 29 31 (by decide) rfl rfl ?_
  refine RW.opd rfl rfl (LO.move rfl rfl) ?_
  refine RW.opd rfl rfl (LO.gtr rfl rfl rfl) ?_
  refine RW.nil ?_
  repeat (refine W.seq ?_)
  refine W.cond_t rfl (by first | rfl | assumption) ?_
  repeat (refine W.seq ?_)
  refine W.region 35 45 (by decide) rfl rfl ?_
  refine RW.opd rfl rfl (LO.move rfl rfl) ?_
  refine RW.opd rfl rfl (LO.move rfl rfl) ?_
  refine RW.opd rfl rfl (LO.cap_nil rfl rfl ty73) ?_
  refine RW.opd rfl rfl (LO.slice_nil rfl rfl rfl ty73 ty5) ?_
  refine RW.opd rfl rfl (LO.move rfl rfl) ?_
  refine RW.opd rfl rfl (LO.append_make rfl rfl rfl ty73 ty3 ty5 (by decide) ?_ ?_ ?_) ?_; (· (first | omega | decide | assumption | fail | (simp; done) | (simp; omega))); (· (first | omega | decide | assumption | fail | (simp; done) | (simp; omega))); (· (first | omega | decide | assumption | fail | (simp; done) | (simp; omega)))
  refine RW.opd rfl rfl (LO.move rfl rfl) ?_
  refine RW.opd rfl rfl (LO.len_isl rfl rfl rfl ty73) ?_
  refine RW.opd rfl rfl (LO.slice rfl rfl Bnd.no (Bnd.at rfl rfl) ?_ ?_ ty73 ty5) ?_; (· (first | omega | decide | assumption | fail | (simp; done) | (simp; omega))); (· (first | omega | decide | assumption | fail | (simp; done) | (simp; omega)))
  refine RW.opd rfl rfl (LO.assign rfl rfl) ?_
  refine RW.nil ?_
  repeat (refine W.seq ?_)
  refine W.region 49 51 (by decide) rfl rfl ?_
  refine RW.opd rfl rfl (LO.move rfl rfl) ?_
  refine RW.opd rfl rfl (LO.assign rfl rfl) ?_
  refine RW.nil ?_
  refine W.rename [(0, 40)] 1 (T' := up mt 4 (some (.osl 0 0 (0) 1))) (H' := up mt 0 (some ([]))) (by decide) ?_ ?_ ?_
  · (repeat' (first | exact all_mt | refine all_up ?_ ?_)) <;> first | exact .inl ⟨rfl, rfl⟩ | exact .inr ⟨rfl, fun _ h => by cases h⟩ | exact .inl ⟨rfl, by first | rfl | assumption ⟩
  · (repeat' (first | exact all_mt | refine all_up ?_ ?_)) <;> first | exact ⟨rfl, _, rfl, .inr ⟨rfl, rfl⟩⟩ | exact ⟨rfl, _, rfl, .inl rfl⟩ | exact ⟨rfl, _, rfl, .inr ⟨rfl, by first | rfl | assumption ⟩⟩
  repeat (refine W.seq ?_)
  refine W.ret ⟨.inl rfl, _, up mt 0 (some ([])), RVs.cons (RV.tmp rfl) RVs.nil, all_up rfl all_mt, ?_⟩
  exact ⟨rfl, rfl⟩
theorem flat_take {L : List (List Int)} {k : Nat} (h : k < L.length) : (L.take (k + 1)).flatten = (L.take k).flatten ++ L[k] := by
  rw [List.take_add_one, List.flatten_append]
  simp [h]
theorem flat_le {L : List (List Int)} (k : Nat) : (L.take k).flatten.length ≤ L.flatten.length := by
  have : L.flatten = (L.take k).flatten ++ (L.drop k).flatten := by rw [← List.flatten_append, List.take_append_drop]
  rw [this, List.length_append]; omega
theorem concat_any (L : List (List Int)) (h1 : 1 ≤ L.flatten.length) (h2 : L.flatten.length ≤ 1000000) (h3 : L.length ≤ 1000) : AFn Try.prog 48 0 [.isl (lsC L) L.length] mt (.osl 0 0 L.flatten.length 1) (up mt 0 (some (bytesC L.flatten))) := by
  refine AFn.eq Try.func48 rfl rfl (Nat.le_of_ble_eq_true rfl) ?_
  have hg := grow_any L.flatten.length h1 h2
  repeat (refine W.seq ?_)
  refine W.region 0 1 (by decide) rfl rfl ?_
  refine RW.opd rfl rfl (LO.assign rfl rfl) ?_
  refine RW.nil ?_
  repeat (refine W.seq ?_)
  refine W.region 5 6 (by decide) rfl rfl ?_
  refine RW.opd rfl rfl (LO.assign rfl rfl) ?_
  refine RW.nil ?_
  repeat (refine W.seq ?_)
  refine W.region 10 13 (by decide) rfl rfl ?_
  refine RW.opd rfl rfl (LO.move rfl rfl) ?_
  refine RW.opd rfl rfl (LO.len_isl rfl rfl rfl ty77) ?_
  refine RW.opd rfl rfl (LO.move rfl rfl) ?_
  refine RW.nil ?_
  repeat (refine W.seq ?_)
  refine W.block ?_
  refine W.rename [] 0 (T' := up (up (up (up (up mt 0 (some (.isl (lsC L) L.length))) 3 (some (.base (.int .i64 ((L.take 0).flatten.length : Int))))) 9 (some (.isl (lsC L) L.length))) 10 (some (.base (.int .i64 (L.length : Int))))) 11 (some (.base (.int .i64 (0 : Int))))) (H' := mt) (by decide) ?_ ?_ ?_
  · (repeat' (first | exact all_mt | refine all_up ?_ ?_)) <;> first | exact .inl ⟨rfl, rfl⟩ | exact .inr ⟨rfl, fun _ h => by cases h⟩ | exact .inl ⟨rfl, by first | rfl | assumption | exact (bytesC_pure _) | exact (lsC_pure _)⟩
  · (repeat' (first | exact all_mt | refine all_up ?_ ?_)) <;> first | exact ⟨rfl, _, rfl, .inr ⟨rfl, rfl⟩⟩ | exact ⟨rfl, _, rfl, .inl rfl⟩ | exact ⟨rfl, _, rfl, .inr ⟨rfl, by first | rfl | assumption | exact (bytesC_pure _) | exact (lsC_pure _)⟩⟩
  refine W.loop_ind (α := Nat) (fun x => L.length - x) 0 (fun x => up (up (up (up (up mt 0 (some (.isl (lsC L) L.length))) 3 (some (.base (.int .i64 ((L.take x).flatten.length : Int))))) 9 (some (.isl (lsC L) L.length))) 10 (some (.base (.int .i64 (L.length : Int))))) 11 (some (.base (.int .i64 (x : Int))))) (fun x => mt) (fun x => x ≤ L.length) 0 (show 0 ≤ L.length from Nat.zero_le _) ?_
  rintro i hIA ihA
  try (dsimp only at hIA)
  try dsimp only
  have hfl := flat_le (L := L) i
  by_cases hc : i < L.length
  · have g1 : decide ((i : Int) < (L.length : Int)) = true := decide_eq_true (by omega)
    have hfl2 := flat_le (L := L) (i + 1)
    have hn := flat_take hc
    have hnl : (L.take (i + 1)).flatten.length = (L.take i).flatten.length + L[i].length := by rw [hn, List.length_append]
    have g2 : decide ((((L.take i).flatten.length : Int) + (L[i].length : Int)) < 0) = false := decide_eq_false (by omega)
    repeat (refine W.seq ?_)
    refine W.region 17 18 (by decide) rfl rfl ?_
    refine RW.opd rfl rfl (LO.lss rfl rfl rfl) ?_
    refine RW.nil ?_
    repeat (refine W.seq ?_)
    refine W.cond_t rfl (by first | rfl | assumption) ?_
    refine W.skip ?_
    repeat (refine W.seq ?_)
    refine W.block ?_
    repeat (refine W.seq ?_)
    refine W.region 22 25 (by decide) rfl rfl ?_
    refine RW.opd rfl rfl (LO.indexAddr_isl rfl rfl rfl rfl rfl ty77 ty73 ?_) ?_; (· (first | omega | decide | assumption | fail | (simp; done) | (simp; omega)))
    refine RW.opd rfl rfl (LO.load_imm rfl rfl (ls_at hc) ty73 rfl) ?_
    refine RW.opd rfl rfl (LO.assign rfl rfl) ?_
    refine RW.nil ?_
    repeat (refine W.seq ?_)
    refine W.region 29 34 (by decide) rfl rfl ?_
    refine RW.opd rfl rfl (LO.move rfl rfl) ?_
    refine RW.opd rfl rfl (LO.move rfl rfl) ?_
    refine RW.opd rfl rfl (LO.len_isl rfl rfl rfl ty73) ?_
    refine RW.opd rfl rfl (LO.add_in rfl rfl rfl ?_) ?_; (· (first | exact IntWalk.i64_in _ (by omega) | assumption))
    refine RW.opd rfl rfl (LO.assign rfl rfl) ?_
    refine RW.nil ?_
    repeat (refine W.seq ?_)
    refine W.region 38 40 (by decide) rfl rfl ?_
    refine RW.opd rfl rfl (LO.move rfl rfl) ?_
    refine RW.opd rfl rfl (LO.lss rfl rfl rfl) ?_
    refine RW.nil ?_
    repeat (refine W.seq ?_)
    refine W.cond_f rfl (by first | rfl | assumption) ?_
    refine W.skip ?_
    repeat (refine W.seq ?_)
    refine W.region 50 52 (by decide) rfl rfl ?_
    refine RW.opd rfl rfl (LO.add_in rfl rfl rfl ?_) ?_; (· (first | exact IntWalk.i64_in _ (by omega) | assumption))
    refine RW.opd rfl rfl (LO.move rfl rfl) ?_
    refine RW.nil ?_
    rw [show (((L.take i).flatten.length : Int) + (L[i].length : Int)) = ((L.take (i + 1)).flatten.length : Int) from by rw [hnl]; omega]
    refine WL.rename [] 0 (by decide) ?_ ?_ (ihA (i + 1) (show L.length - (i + 1) < L.length - i from by omega) (show (i + 1) ≤ L.length from by omega))
    · (repeat' (first | exact all_mt | refine all_up ?_ ?_)) <;> first | exact .inl ⟨rfl, rfl⟩ | exact .inr ⟨rfl, fun _ h => by cases h⟩ | exact .inl ⟨rfl, by first | rfl | assumption | exact (bytesC_pure _) | exact (lsC_pure _)⟩
    · (repeat' (first | exact all_mt | refine all_up ?_ ?_)) <;> first | exact ⟨rfl, _, rfl, .inr ⟨rfl, rfl⟩⟩ | exact ⟨rfl, _, rfl, .inl rfl⟩ | exact ⟨rfl, _, rfl, .inr ⟨rfl, by first | rfl | assumption | exact (bytesC_pure _) | exact (lsC_pure _)⟩⟩
  · have g1 : decide ((i : Int) < (L.length : Int)) = false := decide_eq_false (by omega)
    repeat (refine W.seq ?_)
    refine W.region 17 18 (by decide) rfl rfl ?_
    refine RW.opd rfl rfl (LO.lss rfl rfl rfl) ?_
    refine RW.nil ?_
    repeat (refine W.seq ?_)
    refine W.cond_f rfl (by first | rfl | assumption) ?_
    refine W.exit ?_
    obtain rfl : i = L.length := by omega
    rw [List.take_length]
    repeat (refine W.seq ?_)
    refine W.region 56 59 (by decide) rfl rfl ?_
    refine RW.opd rfl rfl (LO.move rfl rfl) ?_
    refine RW.opd rfl rfl (LO.callO (fr := []) rfl rfl (hg) fok51 (.cons rfl (.pure rfl) (.cons rfl (.pure rfl) .nil)) rfl (by decide)) ?_
    refine RW.opd rfl rfl (LO.assign rfl rfl) ?_
    refine RW.nil ?_
    repeat (refine W.seq ?_)
    refine W.region 63 66 (by decide) rfl rfl ?_
    refine RW.opd rfl rfl (LO.move rfl rfl) ?_
    refine RW.opd rfl rfl (LO.len_isl rfl rfl rfl ty77) ?_
    refine RW.opd rfl rfl (LO.move rfl rfl) ?_
    refine RW.nil ?_
    repeat (refine W.seq ?_)
    refine W.block ?_
    refine W.rename [(0, 57)] 1 (T' := up (up (up (up mt 6 (some (.osl 0 0 (([] : List Int)).length 1))) 25 (some (.isl (lsC L) L.length))) 26 (some (.base (.int .i64 (L.length : Int))))) 27 (some (.base (.int .i64 (0 : Int))))) (H' := up mt 0 (some (bytesC (([] : List Int))))) (by decide) ?_ ?_ ?_
    · (repeat' (first | exact all_mt | refine all_up ?_ ?_)) <;> first | exact .inl ⟨rfl, rfl⟩ | exact .inr ⟨rfl, fun _ h => by cases h⟩ | exact .inl ⟨rfl, by first | rfl | assumption | exact (bytesC_pure _) | exact (lsC_pure _)⟩
    · (repeat' (first | exact all_mt | refine all_up ?_ ?_)) <;> first | exact ⟨rfl, _, rfl, .inr ⟨rfl, rfl⟩⟩ | exact ⟨rfl, _, rfl, .inl rfl⟩ | exact ⟨rfl, _, rfl, .inr ⟨rfl, by first | rfl | assumption | exact (bytesC_pure _) | exact (lsC_pure _)⟩⟩
    refine W.loop_ind (α := Nat × List Int) (fun x => L.length - x.1) 1 (fun x => up (up (up (up mt 6 (some (.osl 0 0 x.2.length 1))) 25 (some (.isl (lsC L) L.length))) 26 (some (.base (.int .i64 (L.length : Int))))) 27 (some (.base (.int .i64 (x.1 : Int))))) (fun x => up mt 0 (some (bytesC x.2))) (fun x => x.1 ≤ L.length ∧ x.2 = (L.take x.1).flatten) (0, (([] : List Int))) (show 0 ≤ L.length ∧ (([] : List Int)) = (L.take 0).flatten from ⟨Nat.zero_le _, rfl⟩) ?_
    rintro ⟨i, acc⟩ hIB ihB
    try (dsimp only at hIB)
    try dsimp only
    obtain ⟨hi, hacc⟩ := hIB
    have hfl := flat_le (L := L) i
    rw [← hacc] at hfl
    by_cases hc : i < L.length
    · have g1 : decide ((i : Int) < (L.length : Int)) = true := decide_eq_true (by omega)
      have hfl2 := flat_le (L := L) (i + 1)
      have hn := flat_take hc
      rw [← hacc] at hn
      have hnl : (acc ++ L[i]).length ≤ L.flatten.length := by rw [← hn]; exact hfl2
      rw [List.length_append] at hnl
      repeat (refine W.seq ?_)
      refine W.region 70 71 (by decide) rfl rfl ?_
      refine RW.opd rfl rfl (LO.lss rfl rfl rfl) ?_
      refine RW.nil ?_
      repeat (refine W.seq ?_)
      refine W.cond_t rfl (by first | rfl | assumption) ?_
      refine W.skip ?_
      repeat (refine W.seq ?_)
      refine W.block ?_
      repeat (refine W.seq ?_)
      refine W.region 75 78 (by decide) rfl rfl ?_
      refine RW.opd rfl rfl (LO.indexAddr_isl rfl rfl rfl rfl rfl ty77 ty73 ?_) ?_; (· (first | omega | decide | assumption | fail | (simp; done) | (simp; omega)))
      refine RW.opd rfl rfl (LO.load_imm rfl rfl (ls_at hc) ty73 rfl) ?_
      refine RW.opd rfl rfl (LO.assign rfl rfl) ?_
      refine RW.nil ?_
      repeat (refine W.seq ?_)
      refine W.region 82 86 (by decide) rfl rfl ?_
      refine RW.opd rfl rfl (LO.move rfl rfl) ?_
      refine RW.opd rfl rfl (LO.move rfl rfl) ?_
      refine RW.opd rfl rfl (LO.append rfl rfl (SrcAV.isl rfl rfl ?_) rfl (bytes_tk rfl) ty73 ty73 ty5 (by decide) ?_ ?_ ?_) ?_; (· (first | rfl | assumption | simp [bytesC])); (· (first | omega | decide | assumption | simp [bytesC] | (simp; done) | (simp; omega))); (· (first | omega | decide | assumption | simp [bytesC] | (simp; done) | (simp; omega))); (· (first | decide | omega))
      refine RW.opd rfl rfl (LO.assign rfl rfl) ?_
      refine RW.nil ?_
      repeat (refine W.seq ?_)
      refine W.region 90 92 (by decide) rfl rfl ?_
      refine RW.opd rfl rfl (LO.add_in rfl rfl rfl ?_) ?_; (· (first | exact IntWalk.i64_in _ (by omega) | assumption))
      refine RW.opd rfl rfl (LO.move rfl rfl) ?_
      refine RW.nil ?_
      rw [show bytesC acc ++ bytesC L[i] = bytesC (acc ++ L[i]) from by simp [bytesC], show acc.length + L[i].length = (acc ++ L[i]).length from by simp]
      refine WL.rename [(0, 84)] 1 (by decide) ?_ ?_ (ihB ((i + 1), (acc ++ L[i])) (show L.length - (i + 1) < L.length - i from by omega) (show (i + 1) ≤ L.length ∧ (acc ++ L[i]) = (L.take (i + 1)).flatten from ⟨by omega, hn.symm⟩))
      · (repeat' (first | exact all_mt | refine all_up ?_ ?_)) <;> first | exact .inl ⟨rfl, rfl⟩ | exact .inr ⟨rfl, fun _ h => by cases h⟩ | exact .inl ⟨rfl, by first | rfl | assumption | exact (bytesC_pure _) | exact (lsC_pure _)⟩
      · (repeat' (first | exact all_mt | refine all_up ?_ ?_)) <;> first | exact ⟨rfl, _, rfl, .inr ⟨rfl, rfl⟩⟩ | exact ⟨rfl, _, rfl, .inl rfl⟩ | exact ⟨rfl, _, rfl, .inr ⟨rfl, by first | rfl | assumption | exact (bytesC_pure _) | exact (lsC_pure _)⟩⟩
    · have g1 : decide ((i : Int) < (L.length : Int)) = false := decide_eq_false (by omega)
      repeat (refine W.seq ?_)
      refine W.region 70 71 (by decide) rfl rfl ?_
      refine RW.opd rfl rfl (LO.lss rfl rfl rfl) ?_
      refine RW.nil ?_
      repeat (refine W.seq ?_)
      refine W.cond_f rfl (by first | rfl | assumption) ?_
      refine W.exit ?_
      obtain rfl : i = L.length := by omega
      rw [List.take_length] at hacc
      subst hacc
      repeat (refine W.seq ?_)
      refine W.region 96 98 (by decide) rfl rfl ?_
      refine RW.opd rfl rfl (LO.move rfl rfl) ?_
      refine RW.opd rfl rfl (LO.assign rfl rfl) ?_
      refine RW.nil ?_
      refine W.rename [(0, 0)] 1 (T' := up mt 2 (some (.osl 0 0 (L.flatten.length) 1))) (H' := up mt 0 (some (bytesC L.flatten))) (by decide) ?_ ?_ ?_
      · (repeat' (first | exact all_mt | refine all_up ?_ ?_)) <;> first | exact .inl ⟨rfl, rfl⟩ | exact .inr ⟨rfl, fun _ h => by cases h⟩ | exact .inl ⟨rfl, by first | rfl | assumption | exact (bytesC_pure _) | exact (lsC_pure _)⟩
      · (repeat' (first | exact all_mt | refine all_up ?_ ?_)) <;> first | exact ⟨rfl, _, rfl, .inr ⟨rfl, rfl⟩⟩ | exact ⟨rfl, _, rfl, .inl rfl⟩ | exact ⟨rfl, _, rfl, .inr ⟨rfl, by first | rfl | assumption | exact (bytesC_pure _) | exact (lsC_pure _)⟩⟩
      repeat (refine W.seq ?_)
      refine W.ret ⟨.inl rfl, _, up mt 0 (some (bytesC L.flatten)), RVs.cons (RV.tmp rfl) RVs.nil, all_up rfl all_mt, ?_⟩
      exact ⟨rfl, rfl⟩

def hashK (l : List Int) (k : Nat) : Int := ((List.range k).map fun (j : Nat) => ((j : Int) + 1) * gI l j).sum
theorem hashK_succ (l : List Int) (k : Nat) : hashK l (k + 1) = hashK l k + ((k : Int) + 1) * gI l k := by
  unfold hashK; rw [List.range_succ, List.map_append, List.sum_append]; simp
def hashF (l : List Int) : Int := hashK l l.length % 65521
def IsBy (l : List Int) : Prop := ∀ x ∈ l, 0 ≤ x ∧ x ≤ 255
theorem hash_term {l : List Int} (hb : IsBy l) (h12 : l.length = 12) {k : Nat} (hk : k < 12) : 0 ≤ ((k : Int) + 1) * gI l k ∧ ((k : Int) + 1) * gI l k ≤ 3060 := by
  have h1 := hb (l[k]'(by omega)) (List.getElem_mem _)
  rw [gI_at (by omega)]
  generalize l[k]'(by omega) = x at h1
  have h2 : 0 ≤ ((k : Int) + 1) * x := Int.mul_nonneg (by omega) h1.1
  have h3 : ((k : Int) + 1) * x ≤ 12 * 255 := Int.mul_le_mul (by omega) h1.2 h1.1 (by omega)
  omega
theorem hashK_bd {l : List Int} (hb : IsBy l) (h12 : l.length = 12) (k : Nat) (hk : k ≤ 12) : 0 ≤ hashK l k ∧ hashK l k ≤ k * 3060 := by
  induction k with
  | zero => simp [hashK]
  | succ k ih =>
    rw [hashK_succ]
    have := ih (by omega)
    have := hash_term hb h12 (k := k) (by omega)
    omega
theorem IsBy.app {a b : List Int} (ha : IsBy a) (hb : IsBy b) : IsBy (a ++ b) := fun x hx => (List.mem_append.1 hx).elim (ha x) (hb x)
theorem hash_any (a b : List Int) (ha : a.length = 6) (hb : b.length = 6) (hba : IsBy a) (hbb : IsBy b) : AFn Try.prog 29 0 [.agg (bytesC a), .agg (bytesC b)] mt (.base (.int .i64 (hashF (a ++ b)))) mt := by
  refine AFn.eq Try.func29 rfl rfl (Nat.le_of_ble_eq_true rfl) ?_
  have h12 : (a ++ b).length = 12 := by rw [List.length_append, ha, hb]
  have hcc := concat_any [a, b] (by simp; omega) (by simp; omega) (by simp)
  rw [show [a, b].flatten = a ++ b from by simp, h12, show lsC [a, b] = [.isl (bytesC a) a.length, .isl (bytesC b) b.length] from rfl, ha, hb] at hcc
  have hby := hba.app hbb
  unfold hashF
  rw [h12]
  generalize hl : a ++ b = l at *
  repeat (refine W.seq ?_)
  refine W.region 0 3 (by decide) rfl rfl ?_
  refine RW.opd rfl rfl (LO.box rfl rfl rfl) ?_
  refine RW.opd rfl rfl (LO.box rfl rfl rfl) ?_
  refine RW.opd rfl rfl (LO.assign rfl rfl) ?_
  refine RW.nil ?_
  repeat (refine W.seq ?_)
  refine W.region 7 8 (by decide) rfl rfl ?_
  refine RW.opd rfl rfl (LO.assign rfl rfl) ?_
  refine RW.nil ?_
  repeat (refine W.seq ?_)
  refine W.regionD 12 18 (by decide) rfl mixed rfl ?_
  refine RW.opd rfl rfl (LO.slice_arf rfl rfl rfl ty42 ty5 (bytes_tk ha) (bytesC_pure _) (by decide)) ?_
  refine RW.opd rfl rfl (LO.slice_arf rfl rfl rfl ty42 ty5 (bytes_tk hb) (bytesC_pure _) (by decide)) ?_
  refine RW.opd rfl rfl (LO.buildSlice rfl ty77 ty73 (by decide) (by decide) (.cons rfl rfl rfl rfl (Sp.lit rfl) (.cons rfl rfl rfl rfl (Sp.lit rfl) .nil))) ?_
  refine RW.opd rfl rfl (LO.callO (fr := [14]) rfl rfl (hcc) fok48 (.cons rfl (.one (.osl (by decide) rfl (Tk.lit rfl) rfl)) .nil) (bytesC_pure _) (by decide)) ?_
  refine RW.opd rfl rfl (LO.len rfl rfl ty73) ?_
  refine RW.opd rfl rfl (LO.move rfl rfl) ?_
  refine RW.nil ⟨by kernel_rfl, ?_⟩
  repeat (refine W.seq ?_)
  refine W.block ?_
  refine W.loop_keep (α := Nat) (fun x => 12 - x) 1 (fun x => [(5, .base (.int .i64 (hashK l x))), (11, .osl 0 0 12 1), (13, .base (.int .i64 (x : Int)))]) (fun x => up mt 0 (some (bytesC l))) (fun x => x ≤ 12) 0 [(0, 15)] (.cons (t := 12) rfl (by first | exact .inl rfl | exact .inr ⟨rfl, fun _ h => by cases h⟩ | (exact .inl (by assumption)) | exact .inl (bytesC_pure _)) .nil) (show 0 ≤ 12 from Nat.zero_le _) (by decide) ?_ ?_ ?_
  · (repeat' (first | exact LookR.nil | refine LookR.cons ?_ ?_)) <;> first | exact .inl ⟨rfl, rfl⟩ | exact .inr ⟨rfl, fun _ h => by cases h⟩ | exact .inl ⟨rfl, by first | rfl | assumption | exact (bytesC_pure _)⟩
  · (repeat' (first | exact all_mt | refine all_up ?_ ?_)) <;> first | exact ⟨rfl, _, rfl, .inr ⟨rfl, rfl⟩⟩ | exact ⟨rfl, _, rfl, .inl rfl⟩ | exact ⟨rfl, _, rfl, .inr ⟨rfl, by first | rfl | assumption | exact (bytesC_pure _)⟩⟩
  rintro i hIA ihA
  try (dsimp only at hIA)
  try dsimp only [baseT, List.cons_append, List.nil_append]
  by_cases hc : i < 12
  · have g1 : decide ((i : Int) < 12) = true := decide_eq_true (by omega)
    have hk := hashK_bd hby h12 i hIA
    have ht := hash_term hby h12 hc
    have hs := hashK_succ l i
    have hil : i < l.length := by omega
    rw [gI_at hil] at ht hs
    have hb2 := hby l[i] (List.getElem_mem _)
    repeat (refine W.seq ?_)
    refine W.region 22 23 (by decide) rfl rfl ?_
    refine RW.opd rfl rfl (LO.lss rfl rfl rfl) ?_
    refine RW.nil ?_
    repeat (refine W.seq ?_)
    refine W.cond_t rfl (by first | rfl | assumption) ?_
    refine W.skip ?_
    repeat (refine W.seq ?_)
    refine W.block ?_
    repeat (refine W.seq ?_)
    refine W.region 27 32 (by decide) rfl rfl ?_
    refine RW.opd rfl rfl (LO.move rfl rfl) ?_
    refine RW.opd rfl rfl (LO.indexAddr rfl rfl rfl rfl ty73 ty5 ?_) ?_; (· (first | omega | decide | assumption | fail | (simp; done) | (simp; omega)))
    refine RW.opd rfl rfl (LO.load rfl rfl rfl (by_at hil) ty5 rfl) ?_
    refine RW.opd rfl rfl (LO.assign rfl rfl) ?_
    refine RW.opd rfl rfl (LO.assign rfl rfl) ?_
    refine RW.nil ?_
    repeat (refine W.seq ?_)
    refine W.region 36 44 (by decide) rfl rfl ?_
    refine RW.opd rfl rfl (LO.move rfl rfl) ?_
    refine RW.opd rfl rfl (LO.move rfl rfl) ?_
    refine RW.opd rfl rfl (LO.add_in rfl rfl rfl ?_) ?_; (· (first | exact IntWalk.i64_in _ (by omega) | assumption))
    refine RW.opd rfl rfl (LO.move rfl rfl) ?_
    refine RW.opd rfl rfl (LO.conv_in rfl rfl ty5 ty3 ?_) ?_; (· (first | exact IntWalk.i64_in _ (by omega) | assumption))
    refine RW.opd rfl rfl (LO.mul_in rfl rfl rfl ?_) ?_; (· (first | exact IntWalk.i64_in _ (by omega) | assumption))
    refine RW.opd rfl rfl (LO.add_in rfl rfl rfl ?_) ?_; (· (first | exact IntWalk.i64_in _ (by omega) | assumption))
    refine RW.opd rfl rfl (LO.assign rfl rfl) ?_
    refine RW.nil ?_
    rw [← hs]
    repeat (refine W.seq ?_)
    refine W.region 48 50 (by decide) rfl rfl ?_
    refine RW.opd rfl rfl (LO.add_in rfl rfl rfl ?_) ?_; (· (first | exact IntWalk.i64_in _ (by omega) | assumption))
    refine RW.opd rfl rfl (LO.move rfl rfl) ?_
    refine RW.nil ?_
    refine WL.renameL [(0, 0)] 1 (by decide) ?_ ?_ (ihA (i + 1) (show 12 - (i + 1) < 12 - i from by omega) (show (i + 1) ≤ 12 from by omega))
    · (repeat' (first | exact LookR.nil | refine LookR.cons ?_ ?_)) <;> first | exact .inl ⟨rfl, rfl⟩ | exact .inr ⟨rfl, fun _ h => by cases h⟩ | exact .inl ⟨rfl, by first | rfl | assumption | exact (bytesC_pure _)⟩
    · (repeat' (first | exact all_mt | refine all_up ?_ ?_)) <;> first | exact ⟨rfl, _, rfl, .inr ⟨rfl, rfl⟩⟩ | exact ⟨rfl, _, rfl, .inl rfl⟩ | exact ⟨rfl, _, rfl, .inr ⟨rfl, by first | rfl | assumption | exact (bytesC_pure _)⟩⟩
  · have g1 : decide ((i : Int) < 12) = false := decide_eq_false (by omega)
    repeat (refine W.seq ?_)
    refine W.region 22 23 (by decide) rfl rfl ?_
    refine RW.opd rfl rfl (LO.lss rfl rfl rfl) ?_
    refine RW.nil ?_
    repeat (refine W.seq ?_)
    refine W.cond_f rfl (by first | rfl | assumption) ?_
    refine W.exit ?_
    obtain rfl : i = 12 := by omega
    have hk := hashK_bd hby h12 12 (by omega)
    repeat (refine W.seq ?_)
    refine W.region 54 57 (by decide) rfl rfl ?_
    refine RW.opd rfl rfl (LO.move rfl rfl) ?_
    refine RW.opd rfl rfl (LO.rem_in rfl rfl rfl ?_ ?_) ?_; (· (first | omega)); (· (first | omega | decide | assumption | fail | (simp; done) | (simp; omega)))
    refine RW.opd rfl rfl (LO.assign rfl rfl) ?_
    refine RW.nil ?_
    repeat (refine W.seq ?_)
    refine W.ret ⟨.inl rfl, _, mt, RVs.cons (RV.tmp rfl) (RVs.nil), all_mt, ?_⟩
    exact ⟨rfl, rfl⟩
end Go.Proofs.Ythbdngfnbpkefaa
