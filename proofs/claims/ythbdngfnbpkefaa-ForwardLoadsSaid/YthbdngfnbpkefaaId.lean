/-
  Chapter 14: the loads of links, both texts.
-/
import Derived.Test.YthbdngfnbpkefaaIb
namespace Go.Proofs.Ythbdngfnbpkefaa
open Go.RowKit

def listsC (l : List (List Int)) : List AV := l.map fun x => .isl (intsC x) x.length
theorem listsC_pure (l : List (List Int)) : (listsC l).all AV.pure1 = true := by
  induction l with
  | nil => rfl
  | cons x l ih => rw [show listsC (x :: l) = [.isl (intsC x) x.length] ++ listsC l from rfl, List.all_append, ih]; rfl
theorem lists_at {l : List (List Int)} {k : Nat} (h : k < l.length) : (listsC l)[k * 1]? = some (.isl (intsC l[k]) l[k].length) := by simp [listsC, h]
theorem lists_tk {l : List (List Int)} {n : Nat} (h : l.length = n) : Tk (listsC l) 0 (n * 1) (listsC l) := by
  have := Tk.all (listsC l)
  rwa [show (listsC l).length = n * 1 from by simp [listsC, h]] at this
/-- the first place of a number -/
def idxF (l : List Int) (v : Int) : Int := if v ∈ l then (l.idxOf v : Int) else -1
theorem index_any (l : List Int) (v : Int) (hl : l.length ≤ 9223372036854775807) : AFn Try.prog 52 0 [.isl (intsC l) l.length, .base (.int .i64 v)] mt (.base (.int .i64 (idxF l v))) mt := by
  refine AFn.eq Try.func52 rfl rfl (Nat.le_of_ble_eq_true rfl) ?_
  repeat (refine W.seq ?_)
  refine W.region 0 1 (by decide) rfl rfl ?_
  refine RW.opd rfl rfl (LO.assign rfl rfl) ?_
  refine RW.nil ?_
  repeat (refine W.seq ?_)
  refine W.region 5 8 (by decide) rfl rfl ?_
  refine RW.opd rfl rfl (LO.move rfl rfl) ?_
  refine RW.opd rfl rfl (LO.len_isl rfl rfl rfl ty26) ?_
  refine RW.opd rfl rfl (LO.move rfl rfl) ?_
  refine RW.nil ?_
  repeat (refine W.seq ?_)
  refine W.block ?_
  refine W.loop_keep (α := Nat) (fun x => l.length - x) 0 (fun x => [(8, .base (.int .i64 (x : Int)))]) (fun x => mt) (fun x => x ≤ l.length ∧ v ∉ l.take x) 0 [] (.cons (t := 0) rfl (by first | exact .inl rfl | exact .inr ⟨rfl, fun _ h => by cases h⟩ | (exact .inl (by assumption)) | exact .inl (intsC_pure _)) (.cons (t := 1) rfl (by first | exact .inl rfl | exact .inr ⟨rfl, fun _ h => by cases h⟩ | (exact .inl (by assumption)) | exact .inl (intsC_pure _)) (.cons (t := 7) rfl (by first | exact .inl rfl | exact .inr ⟨rfl, fun _ h => by cases h⟩ | (exact .inl (by assumption)) | exact .inl (intsC_pure _)) .nil))) (show 0 ≤ l.length ∧ v ∉ l.take 0 from ⟨Nat.zero_le _, by simp⟩) (by decide) ?_ ?_ ?_
  · (repeat' (first | exact LookR.nil | refine LookR.cons ?_ ?_)) <;> first | exact .inl ⟨rfl, rfl⟩ | exact .inr ⟨rfl, fun _ h => by cases h⟩ | exact .inl ⟨rfl, by first | rfl | assumption | exact (intsC_pure _)⟩
  · (repeat' (first | exact all_mt | refine all_up ?_ ?_)) <;> first | exact ⟨rfl, _, rfl, .inr ⟨rfl, rfl⟩⟩ | exact ⟨rfl, _, rfl, .inl rfl⟩ | exact ⟨rfl, _, rfl, .inr ⟨rfl, by first | rfl | assumption | exact (intsC_pure _)⟩⟩
  rintro i hIA ihA
  try (dsimp only at hIA)
  try dsimp only [baseT, List.cons_append, List.nil_append]
  obtain ⟨hi, hni⟩ := hIA
  by_cases hc : i < l.length
  · have g1 : decide ((i : Int) < (l.length : Int)) = true := decide_eq_true (by omega)
    repeat (refine W.seq ?_)
    refine W.region 12 13 (by decide) rfl rfl ?_
    refine RW.opd rfl rfl (LO.lss rfl rfl rfl) ?_
    refine RW.nil ?_
    repeat (refine W.seq ?_)
    refine W.cond_t rfl (by first | rfl | assumption) ?_
    refine W.skip ?_
    repeat (refine W.seq ?_)
    refine W.block ?_
    repeat (refine W.seq ?_)
    refine W.region 17 19 (by decide) rfl rfl ?_
    refine RW.opd rfl rfl (LO.move rfl rfl) ?_
    refine RW.opd rfl rfl (LO.assign rfl rfl) ?_
    refine RW.nil ?_
    repeat (refine W.seq ?_)
    refine W.region 23 29 (by decide) rfl rfl ?_
    refine RW.opd rfl rfl (LO.move rfl rfl) ?_
    refine RW.opd rfl rfl (LO.move rfl rfl) ?_
    refine RW.opd rfl rfl (LO.move rfl rfl) ?_
    refine RW.opd rfl rfl (LO.indexAddr_isl rfl rfl rfl rfl rfl ty26 ty3 ?_) ?_; (· (first | omega | decide | assumption | fail | (simp; done) | (simp; omega)))
    refine RW.opd rfl rfl (LO.load_imm rfl rfl (ni_at1 (k := i) hc) ty3 rfl) ?_
    refine RW.opd rfl rfl (LO.eql rfl rfl rfl) ?_
    refine RW.nil ?_
    have ht : l.take (i + 1) = l.take i ++ [l[i]] := by rw [List.take_add_one]; simp [hc]
    by_cases he : v = gI l i
    · have g2 : (v == gI l i) = true := by simpa using he
      repeat (refine W.seq ?_)
      refine W.cond_t rfl (by first | rfl | assumption) ?_
      repeat (refine W.seq ?_)
      refine W.region 33 35 (by decide) rfl rfl ?_
      refine RW.opd rfl rfl (LO.move rfl rfl) ?_
      refine RW.opd rfl rfl (LO.assign rfl rfl) ?_
      refine RW.nil ?_
      repeat (refine W.seq ?_)
      refine W.ret ⟨.inl rfl, _, mt, RVs.cons (RV.tmp rfl) (RVs.nil), all_mt, ?_⟩
      refine ⟨?_, rfl⟩
      rw [gI_at hc] at he
      have hm : v ∈ l := by rw [he]; exact List.getElem_mem _
      have hx : l.idxOf v = i := by
        rcases Nat.lt_trichotomy (l.idxOf v) i with h | h | h
        · exfalso
          have h1 : l[l.idxOf v]'(by omega) = v := List.getElem_idxOf _
          refine hni ?_
          rw [List.mem_take_iff_getElem]
          exact ⟨l.idxOf v, by omega, h1⟩
        · exact h
        · exfalso
          have := List.not_of_lt_findIdx (p := (· == v)) (xs := l) (i := i) h
          simp [he] at this
      unfold idxF
      rw [if_pos hm, hx]; rfl
    · have g2 : (v == gI l i) = false := by simpa using he
      repeat (refine W.seq ?_)
      refine W.cond_f rfl (by first | rfl | assumption) ?_
      refine W.skip ?_
      repeat (refine W.seq ?_)
      refine W.region 39 41 (by decide) rfl rfl ?_
      refine RW.opd rfl rfl (LO.add_in rfl rfl rfl ?_) ?_; (· (first | exact IntWalk.i64_in _ (by omega) | assumption))
      refine RW.opd rfl rfl (LO.move rfl rfl) ?_
      refine RW.nil ?_
      rw [gI_at hc] at he
      refine WL.renameL [] 0 (by decide) ?_ ?_ (ihA (i + 1) (show l.length - (i + 1) < l.length - i from by omega) (show (i + 1) ≤ l.length ∧ v ∉ l.take (i + 1) from ⟨by omega, by rw [ht, List.mem_append, not_or]; exact ⟨hni, by simpa using he⟩⟩))
      · (repeat' (first | exact LookR.nil | refine LookR.cons ?_ ?_)) <;> first | exact .inl ⟨rfl, rfl⟩ | exact .inr ⟨rfl, fun _ h => by cases h⟩ | exact .inl ⟨rfl, by first | rfl | assumption | exact (intsC_pure _)⟩
      · (repeat' (first | exact all_mt | refine all_up ?_ ?_)) <;> first | exact ⟨rfl, _, rfl, .inr ⟨rfl, rfl⟩⟩ | exact ⟨rfl, _, rfl, .inl rfl⟩ | exact ⟨rfl, _, rfl, .inr ⟨rfl, by first | rfl | assumption | exact (intsC_pure _)⟩⟩
  · have g1 : decide ((i : Int) < (l.length : Int)) = false := decide_eq_false (by omega)
    repeat (refine W.seq ?_)
    refine W.region 12 13 (by decide) rfl rfl ?_
    refine RW.opd rfl rfl (LO.lss rfl rfl rfl) ?_
    refine RW.nil ?_
    repeat (refine W.seq ?_)
    refine W.cond_f rfl (by first | rfl | assumption) ?_
    refine W.exit ?_
    obtain rfl : i = l.length := by omega
    rw [List.take_length] at hni
    repeat (refine W.seq ?_)
    refine W.region 45 46 (by decide) rfl rfl ?_
    refine RW.opd rfl rfl (LO.assign rfl rfl) ?_
    refine RW.nil ?_
    repeat (refine W.seq ?_)
    refine W.ret ⟨.inl rfl, _, mt, RVs.cons (RV.tmp rfl) (RVs.nil), all_mt, ?_⟩
    exact ⟨by unfold idxF; rw [if_neg hni]; rfl, rfl⟩
theorem contains_any (l : List Int) (v : Int) (hl : l.length ≤ 9223372036854775807) : AFn Try.prog 50 0 [.isl (intsC l) l.length, .base (.int .i64 v)] mt (.base (.bool (decide (v ∈ l)))) mt := by
  refine AFn.eq Try.func50 rfl rfl (Nat.le_of_ble_eq_true rfl) ?_
  have hx := index_any l v hl
  have hd : decide (idxF l v ≥ 0) = decide (v ∈ l) := by
    unfold idxF
    by_cases h : v ∈ l
    · rw [if_pos h]; simp [h]
    · rw [if_neg h]; simp [h]
  repeat (refine W.seq ?_)
  refine W.region 0 1 (by decide) rfl rfl ?_
  refine RW.opd rfl rfl (LO.assign rfl rfl) ?_
  refine RW.nil ?_
  repeat (refine W.seq ?_)
  refine W.region 5 10 (by decide) rfl rfl ?_
  refine RW.opd rfl rfl (LO.move rfl rfl) ?_
  refine RW.opd rfl rfl (LO.move rfl rfl) ?_
  refine RW.opd rfl rfl (LO.call0 (fr := []) rfl rfl (hx) fok52 (.cons rfl (.pure rfl) (.cons rfl (.pure rfl) .nil)) rfl) ?_
  refine RW.opd rfl rfl (LO.geq rfl rfl rfl) ?_
  refine RW.opd rfl rfl (LO.assign rfl rfl) ?_
  refine RW.nil ?_
  rw [hd]
  repeat (refine W.seq ?_)
  refine W.ret ⟨.inl rfl, _, mt, RVs.cons (RV.tmp rfl) (RVs.nil), all_mt, ?_⟩
  exact ⟨rfl, rfl⟩

/-- after the first k links of a way -/
def rowK (w : List Int) (a : Int) (out : List Int) (k : Nat) : List Int := (List.range out.length).map fun (j : Nat) => if j < k ∧ (j : Int) ∈ w then IntKind.i64.wrap (gI out j + a) else gI out j
theorem rowK_len (w : List Int) (a : Int) (out : List Int) (k : Nat) : (rowK w a out k).length = out.length := by simp [rowK]
theorem rowK_zero (w : List Int) (a : Int) (out : List Int) : rowK w a out 0 = out := by
  unfold rowK
  refine List.ext_getElem (by simp) fun k h1 h2 => ?_
  simp [gI_at h2]
theorem rowK_at {w : List Int} {a : Int} {out : List Int} {k j : Nat} (h : j < out.length) : gI (rowK w a out k) j = if j < k ∧ (j : Int) ∈ w then IntKind.i64.wrap (gI out j + a) else gI out j := by
  unfold rowK; exact tab_at (g := fun (x : Nat) => if x < k ∧ (x : Int) ∈ w then IntKind.i64.wrap (gI out x + a) else gI out x) h
theorem rowK_in {w : List Int} {a : Int} {out : List Int} {k : Nat} (h : k < out.length) (hm : (k : Int) ∈ w) : (rowK w a out k).set k (IntKind.i64.wrap (gI (rowK w a out k) k + a)) = rowK w a out (k + 1) := by
  rw [rowK_at h, if_neg (by omega)]
  refine List.ext_getElem (by simp [rowK]) fun j h1 h2 => ?_
  simp only [rowK, List.getElem_set, List.getElem_map, List.getElem_range]
  by_cases e : k = j
  · subst e; simp [hm]
  · rw [if_neg e]
    by_cases hj : j < k
    · simp [hj, show j < k + 1 by omega]
    · simp [hj, show ¬ j < k + 1 by omega]
theorem rowK_out {w : List Int} {a : Int} {out : List Int} {k : Nat} (hm : (k : Int) ∉ w) : rowK w a out k = rowK w a out (k + 1) := by
  unfold rowK
  refine List.map_congr_left fun j _ => ?_
  by_cases e : j = k
  · subst e; simp [hm]
  · by_cases hj : j < k
    · simp [hj, show j < k + 1 by omega]
    · simp [hj, show ¬ j < k + 1 by omega]
def loadsK (n : Nat) (ws : List (List Int)) (as_ : List Int) : Nat → List Int
  | 0 => List.replicate n 0
  | i + 1 => if i < as_.length then rowK (ws[i]?.getD []) (gI as_ i) (loadsK n ws as_ i) n else loadsK n ws as_ i
theorem loadsK_len (n : Nat) (ws : List (List Int)) (as_ : List Int) (i : Nat) : (loadsK n ws as_ i).length = n := by
  induction i with
  | zero => simp [loadsK]
  | succ i ih =>
    unfold loadsK
    split
    · rw [rowK_len, ih]
    · exact ih
theorem loadsK_stop {n : Nat} {ws : List (List Int)} {as_ : List Int} {i : Nat} (h : as_.length ≤ i) (k : Nat) (hk : i ≤ k) : loadsK n ws as_ k = loadsK n ws as_ i := by
  induction k with
  | zero => rw [show i = 0 by omega]
  | succ k ih =>
    by_cases e : i = k + 1
    · rw [e]
    · rw [show loadsK n ws as_ (k + 1) = if k < as_.length then rowK (ws[k]?.getD []) (gI as_ k) (loadsK n ws as_ k) n else loadsK n ws as_ k from rfl, if_neg (by omega)]
      exact ih (by omega)
def loadsF (f : Fab) (ws : List (List Int)) (as_ : List Int) : List Int := loadsK f.links.length ws as_ ws.length
set_option maxHeartbeats 1000000 in
theorem loads_any (f : Fab) (hn : f.links.length ≤ 1000) (ws : List (List Int)) (as_ : List Int) (hw : ws.length ≤ 1000) (hws : ∀ w ∈ ws, w.length ≤ 9223372036854775807) : AFn Try.prog 42 0 [.agg (fabC f), .isl (listsC ws) ws.length, .isl (intsC as_) as_.length] mt (intsV (loadsF f ws as_)) mt := by
  refine AFn.eq Try.func42 rfl rfl (Nat.le_of_ble_eq_true rfl) ?_
  have hct := contains_any
  obtain ⟨n, hnn⟩ : ∃ n, f.links.length = n := ⟨_, rfl⟩
  unfold loadsF fabC
  rw [hnn] at hn ⊢
  repeat (refine W.seq ?_)
  refine W.region 0 2 (by decide) rfl rfl ?_
  refine RW.opd rfl rfl (LO.box rfl rfl rfl) ?_
  refine RW.opd rfl rfl (LO.assign rfl rfl) ?_
  refine RW.nil ?_
  repeat (refine W.seq ?_)
  refine W.region 6 11 (by decide) rfl rfl ?_
  refine RW.opd rfl rfl (LO.fieldAddr rfl rfl ty25 rfl (by decide)) ?_
  refine RW.opd rfl rfl (LO.load rfl rfl rfl rfl ty22 rfl) ?_
  refine RW.opd rfl rfl (LO.len_isl rfl rfl rfl ty22) ?_
  refine RW.opd rfl rfl (LO.makeSlice rfl rfl rfl rfl rfl ty26 ty3 (by decide) ?_ ?_ ?_) ?_; (· (first | omega | decide | assumption | fail | (simp; done) | (simp; omega))); (· (first | omega | decide | assumption | fail | (simp; done) | (simp; omega))); (· (first | omega | decide | assumption | fail | (simp; done) | (simp; omega)))
  refine RW.opd rfl rfl (LO.assign rfl rfl) ?_
  refine RW.nil ?_
  rw [zeros_ints]
  repeat (refine W.seq ?_)
  refine W.region 15 18 (by decide) rfl rfl ?_
  refine RW.opd rfl rfl (LO.move rfl rfl) ?_
  refine RW.opd rfl rfl (LO.len_isl rfl rfl rfl ty60) ?_
  refine RW.opd rfl rfl (LO.move rfl rfl) ?_
  refine RW.nil ?_
  repeat (refine W.seq ?_)
  refine W.block ?_
  refine W.loop_keep (α := Nat) (fun x => ws.length - x) 1 (fun x => [(7, .osl 0 0 n 1), (17, .base (.int .i64 (x : Int)))]) (fun x => up mt 0 (some (intsC (loadsK n ws as_ x)))) (fun x => x ≤ ws.length) 0 [(0, 9)] (.cons (t := 2) rfl (by first | exact .inl rfl | exact .inr ⟨rfl, fun _ h => by cases h⟩ | (exact .inl (by assumption)) | exact .inl (intsC_pure _) | exact .inl (listsC_pure _)) (.cons (t := 15) rfl (by first | exact .inl rfl | exact .inr ⟨rfl, fun _ h => by cases h⟩ | (exact .inl (by assumption)) | exact .inl (intsC_pure _) | exact .inl (listsC_pure _)) (.cons (t := 16) rfl (by first | exact .inl rfl | exact .inr ⟨rfl, fun _ h => by cases h⟩ | (exact .inl (by assumption)) | exact .inl (intsC_pure _) | exact .inl (listsC_pure _)) .nil))) (show 0 ≤ ws.length from Nat.zero_le _) (by decide) ?_ ?_ ?_
  · (repeat' (first | exact LookR.nil | refine LookR.cons ?_ ?_)) <;> first | exact .inl ⟨rfl, rfl⟩ | exact .inr ⟨rfl, fun _ h => by cases h⟩ | exact .inl ⟨rfl, by first | rfl | assumption | exact (intsC_pure _) | exact (listsC_pure _)⟩
  · (repeat' (first | exact all_mt | refine all_up ?_ ?_)) <;> first | exact ⟨rfl, _, rfl, .inr ⟨rfl, rfl⟩⟩ | exact ⟨rfl, _, rfl, .inl rfl⟩ | exact ⟨rfl, _, rfl, .inr ⟨rfl, by first | rfl | assumption | exact (intsC_pure _) | exact (listsC_pure _)⟩⟩
  rintro i hIA ihA
  try (dsimp only at hIA)
  try dsimp only [baseT, List.cons_append, List.nil_append]
  have hlk := loadsK_len n ws as_ i
  have hlast : (i = ws.length ∨ as_.length ≤ i) → loadsK n ws as_ i = loadsK n ws as_ ws.length := fun h => by
    rcases h with h | h
    · rw [h]
    · exact (loadsK_stop h _ hIA).symm
  have hfin : ∀ m, m = i → m = i := fun m h => h
  by_cases hc : i < ws.length
  · have g1 : decide ((i : Int) < (ws.length : Int)) = true := decide_eq_true (by omega)
    have hwi := hws ws[i] (List.getElem_mem _)
    repeat (refine W.seq ?_)
    refine W.region 22 23 (by decide) rfl rfl ?_
    refine RW.opd rfl rfl (LO.lss rfl rfl rfl) ?_
    refine RW.nil ?_
    repeat (refine W.seq ?_)
    refine W.cond_t rfl (by first | rfl | assumption) ?_
    refine W.skip ?_
    repeat (refine W.seq ?_)
    refine W.block ?_
    repeat (refine W.seq ?_)
    refine W.region 27 32 (by decide) rfl rfl ?_
    refine RW.opd rfl rfl (LO.move rfl rfl) ?_
    refine RW.opd rfl rfl (LO.indexAddr_isl rfl rfl rfl rfl rfl ty60 ty26 ?_) ?_; (· (first | omega | decide | assumption | fail | (simp; done) | (simp; omega)))
    refine RW.opd rfl rfl (LO.load_imm rfl rfl (lists_at hc) ty26 rfl) ?_
    refine RW.opd rfl rfl (LO.assign rfl rfl) ?_
    refine RW.opd rfl rfl (LO.assign rfl rfl) ?_
    refine RW.nil ?_
    by_cases hal : i < as_.length
    · have g2 : decide ((i : Int) ≥ (as_.length : Int)) = false := decide_eq_false (by omega)
      have hnx : loadsK n ws as_ (i + 1) = rowK ws[i] (gI as_ i) (loadsK n ws as_ i) n := by
        rw [show loadsK n ws as_ (i + 1) = if i < as_.length then rowK (ws[i]?.getD []) (gI as_ i) (loadsK n ws as_ i) n else loadsK n ws as_ i from rfl, if_pos hal]
        simp [hc]
      obtain ⟨w, hwe⟩ : ∃ w, ws[i] = w := ⟨_, rfl⟩
      rw [hwe] at hnx hwi ⊢
      repeat (refine W.seq ?_)
      refine W.region 36 40 (by decide) rfl rfl ?_
      refine RW.opd rfl rfl (LO.move rfl rfl) ?_
      refine RW.opd rfl rfl (LO.move rfl rfl) ?_
      refine RW.opd rfl rfl (LO.len_isl rfl rfl rfl ty26) ?_
      refine RW.opd rfl rfl (LO.geq rfl rfl rfl) ?_
      refine RW.nil ?_
      repeat (refine W.seq ?_)
      refine W.cond_f rfl (by first | rfl | assumption) ?_
      refine W.skip ?_
      repeat (refine W.seq ?_)
      refine W.region 44 47 (by decide) rfl rfl ?_
      refine RW.opd rfl rfl (LO.move rfl rfl) ?_
      refine RW.opd rfl rfl (LO.len rfl rfl ty26) ?_
      refine RW.opd rfl rfl (LO.move rfl rfl) ?_
      refine RW.nil ?_
      have hz : intsC (loadsK n ws as_ i) = intsC (rowK w (gI as_ i) (loadsK n ws as_ i) 0) := by rw [rowK_zero]
      rw [hz]
      repeat (refine W.seq ?_)
      refine W.block ?_
      refine W.loop_keep (α := Nat) (fun x => n - x) 1 (fun x => [(7, .osl 0 0 n 1), (28, .base (.int .i64 (x : Int)))]) (fun x => up mt 0 (some (intsC (rowK w (gI as_ i) (loadsK n ws as_ i) x)))) (fun x => x ≤ n) 0 [(0, 0)] (.cons (t := 2) rfl (by first | exact .inl rfl | exact .inr ⟨rfl, fun _ h => by cases h⟩ | (exact .inl (by assumption)) | exact .inl (intsC_pure _) | exact .inl (listsC_pure _)) (.cons (t := 8) rfl (by first | exact .inl rfl | exact .inr ⟨rfl, fun _ h => by cases h⟩ | (exact .inl (by assumption)) | exact .inl (intsC_pure _) | exact .inl (listsC_pure _)) (.cons (t := 9) rfl (by first | exact .inl rfl | exact .inr ⟨rfl, fun _ h => by cases h⟩ | (exact .inl (by assumption)) | exact .inl (intsC_pure _) | exact .inl (listsC_pure _)) (.cons (t := 15) rfl (by first | exact .inl rfl | exact .inr ⟨rfl, fun _ h => by cases h⟩ | (exact .inl (by assumption)) | exact .inl (intsC_pure _) | exact .inl (listsC_pure _)) (.cons (t := 16) rfl (by first | exact .inl rfl | exact .inr ⟨rfl, fun _ h => by cases h⟩ | (exact .inl (by assumption)) | exact .inl (intsC_pure _) | exact .inl (listsC_pure _)) (.cons (t := 17) rfl (by first | exact .inl rfl | exact .inr ⟨rfl, fun _ h => by cases h⟩ | (exact .inl (by assumption)) | exact .inl (intsC_pure _) | exact .inl (listsC_pure _)) (.cons (t := 27) rfl (by first | exact .inl rfl | exact .inr ⟨rfl, fun _ h => by cases h⟩ | (exact .inl (by assumption)) | exact .inl (intsC_pure _) | exact .inl (listsC_pure _)) .nil))))))) (show 0 ≤ n from Nat.zero_le _) (by decide) ?_ ?_ ?_
      · (repeat' (first | exact LookR.nil | refine LookR.cons ?_ ?_)) <;> first | exact .inl ⟨rfl, rfl⟩ | exact .inr ⟨rfl, fun _ h => by cases h⟩ | exact .inl ⟨rfl, by first | rfl | assumption | exact (intsC_pure _) | exact (listsC_pure _)⟩
      · (repeat' (first | exact all_mt | refine all_up ?_ ?_)) <;> first | exact ⟨rfl, _, rfl, .inr ⟨rfl, rfl⟩⟩ | exact ⟨rfl, _, rfl, .inl rfl⟩ | exact ⟨rfl, _, rfl, .inr ⟨rfl, by first | rfl | assumption | exact (intsC_pure _) | exact (listsC_pure _)⟩⟩
      rintro k hIB ihB
      try (dsimp only at hIB)
      try dsimp only [baseT, List.cons_append, List.nil_append]
      have hrl := rowK_len w (gI as_ i) (loadsK n ws as_ i) k
      rw [hlk] at hrl
      by_cases hk : k < n
      · have g3 : decide ((k : Int) < (n : Int)) = true := decide_eq_true (by omega)
        repeat (refine W.seq ?_)
        refine W.region 51 52 (by decide) rfl rfl ?_
        refine RW.opd rfl rfl (LO.lss rfl rfl rfl) ?_
        refine RW.nil ?_
        repeat (refine W.seq ?_)
        refine W.cond_t rfl (by first | rfl | assumption) ?_
        refine W.skip ?_
        repeat (refine W.seq ?_)
        refine W.block ?_
        repeat (refine W.seq ?_)
        refine W.region 56 58 (by decide) rfl rfl ?_
        refine RW.opd rfl rfl (LO.move rfl rfl) ?_
        refine RW.opd rfl rfl (LO.assign rfl rfl) ?_
        refine RW.nil ?_
        repeat (refine W.seq ?_)
        refine W.region 62 65 (by decide) rfl rfl ?_
        refine RW.opd rfl rfl (LO.move rfl rfl) ?_
        refine RW.opd rfl rfl (LO.move rfl rfl) ?_
        refine RW.opd rfl rfl (LO.call0 (fr := []) rfl rfl (hct w (k : Int) hwi) fok50 (.cons rfl (.pure rfl) (.cons rfl (.pure rfl) .nil)) rfl) ?_
        refine RW.nil ?_
        by_cases hm : (k : Int) ∈ w
        · have g4 : decide ((k : Int) ∈ w) = true := decide_eq_true hm
          have hri := rowK_in (a := gI as_ i) (out := loadsK n ws as_ i) (by omega) hm
          repeat (refine W.seq ?_)
          refine W.cond_t rfl (by first | rfl | assumption) ?_
          repeat (refine W.seq ?_)
          refine W.regionD 69 80 (by decide) rfl mixed rfl ?_
          refine RW.opd rfl rfl (LO.move rfl rfl) ?_
          refine RW.opd rfl rfl (LO.move rfl rfl) ?_
          refine RW.opd rfl rfl (LO.indexAddr rfl rfl rfl rfl ty26 ty3 ?_) ?_; (· (first | omega | decide | assumption | fail | (simp; done) | (simp; omega)))
          refine RW.opd rfl rfl (LO.load rfl rfl rfl (ni_at (k := k) (by omega)) ty3 rfl) ?_
          refine RW.opd rfl rfl (LO.move rfl rfl) ?_
          refine RW.opd rfl rfl (LO.move rfl rfl) ?_
          refine RW.opd rfl rfl (LO.indexAddr_isl rfl rfl rfl rfl rfl ty26 ty3 ?_) ?_; (· (first | omega | decide | assumption | fail | (simp; done) | (simp; omega)))
          refine RW.opd rfl rfl (LO.load_imm rfl rfl (ni_at1 (k := i) hal) ty3 rfl) ?_
          refine RW.opd rfl rfl (LO.add rfl rfl rfl) ?_
          refine RW.opd rfl rfl (LO.indexAddr rfl rfl rfl rfl ty26 ty3 ?_) ?_; (· (first | omega | decide | assumption | fail | (simp; done) | (simp; omega)))
          refine RW.opn rfl rfl (LO.store rfl rfl rfl rfl rfl ty3 rfl (by decide) (ns_at (k := k) (by omega))) ?_
          refine RW.nil ⟨by kernel_rfl, ?_⟩
          rw [hri]
          repeat (refine W.seq ?_)
          refine W.region 84 86 (by decide) rfl rfl ?_
          refine RW.opd rfl rfl (LO.add_in rfl rfl rfl ?_) ?_; (· (first | exact IntWalk.i64_in _ (by omega) | assumption))
          refine RW.opd rfl rfl (LO.move rfl rfl) ?_
          refine RW.nil ?_
          refine WL.renameL [(0, 0)] 1 (by decide) ?_ ?_ (ihB (k + 1) (show n - (k + 1) < n - k from by omega) (show (k + 1) ≤ n from by omega))
          · (repeat' (first | exact LookR.nil | refine LookR.cons ?_ ?_)) <;> first | exact .inl ⟨rfl, rfl⟩ | exact .inr ⟨rfl, fun _ h => by cases h⟩ | exact .inl ⟨rfl, by first | rfl | assumption | exact (intsC_pure _) | exact (listsC_pure _)⟩
          · (repeat' (first | exact all_mt | refine all_up ?_ ?_)) <;> first | exact ⟨rfl, _, rfl, .inr ⟨rfl, rfl⟩⟩ | exact ⟨rfl, _, rfl, .inl rfl⟩ | exact ⟨rfl, _, rfl, .inr ⟨rfl, by first | rfl | assumption | exact (intsC_pure _) | exact (listsC_pure _)⟩⟩
        · have g4 : decide ((k : Int) ∈ w) = false := decide_eq_false hm
          repeat (refine W.seq ?_)
          refine W.cond_f rfl (by first | rfl | assumption) ?_
          refine W.skip ?_
          rw [rowK_out hm]
          repeat (refine W.seq ?_)
          refine W.region 84 86 (by decide) rfl rfl ?_
          refine RW.opd rfl rfl (LO.add_in rfl rfl rfl ?_) ?_; (· (first | exact IntWalk.i64_in _ (by omega) | assumption))
          refine RW.opd rfl rfl (LO.move rfl rfl) ?_
          refine RW.nil ?_
          refine WL.renameL [(0, 0)] 1 (by decide) ?_ ?_ (ihB (k + 1) (show n - (k + 1) < n - k from by omega) (show (k + 1) ≤ n from by omega))
          · (repeat' (first | exact LookR.nil | refine LookR.cons ?_ ?_)) <;> first | exact .inl ⟨rfl, rfl⟩ | exact .inr ⟨rfl, fun _ h => by cases h⟩ | exact .inl ⟨rfl, by first | rfl | assumption | exact (intsC_pure _) | exact (listsC_pure _)⟩
          · (repeat' (first | exact all_mt | refine all_up ?_ ?_)) <;> first | exact ⟨rfl, _, rfl, .inr ⟨rfl, rfl⟩⟩ | exact ⟨rfl, _, rfl, .inl rfl⟩ | exact ⟨rfl, _, rfl, .inr ⟨rfl, by first | rfl | assumption | exact (intsC_pure _) | exact (listsC_pure _)⟩⟩
      · have g3 : decide ((k : Int) < (n : Int)) = false := decide_eq_false (by omega)
        repeat (refine W.seq ?_)
        refine W.region 51 52 (by decide) rfl rfl ?_
        refine RW.opd rfl rfl (LO.lss rfl rfl rfl) ?_
        refine RW.nil ?_
        repeat (refine W.seq ?_)
        refine W.cond_f rfl (by first | rfl | assumption) ?_
        refine W.exit ?_
        obtain rfl : k = n := by omega
        rw [← hnx]
        repeat (refine W.seq ?_)
        refine W.region 90 92 (by decide) rfl rfl ?_
        refine RW.opd rfl rfl (LO.add_in rfl rfl rfl ?_) ?_; (· (first | exact IntWalk.i64_in _ (by omega) | assumption))
        refine RW.opd rfl rfl (LO.move rfl rfl) ?_
        refine RW.nil ?_
        refine WL.renameL [(0, 0)] 1 (by decide) ?_ ?_ (ihA (i + 1) (show ws.length - (i + 1) < ws.length - i from by omega) (show (i + 1) ≤ ws.length from by omega))
        · (repeat' (first | exact LookR.nil | refine LookR.cons ?_ ?_)) <;> first | exact .inl ⟨rfl, rfl⟩ | exact .inr ⟨rfl, fun _ h => by cases h⟩ | exact .inl ⟨rfl, by first | rfl | assumption | exact (intsC_pure _) | exact (listsC_pure _)⟩
        · (repeat' (first | exact all_mt | refine all_up ?_ ?_)) <;> first | exact ⟨rfl, _, rfl, .inr ⟨rfl, rfl⟩⟩ | exact ⟨rfl, _, rfl, .inl rfl⟩ | exact ⟨rfl, _, rfl, .inr ⟨rfl, by first | rfl | assumption | exact (intsC_pure _) | exact (listsC_pure _)⟩⟩
    · have g2 : decide ((i : Int) ≥ (as_.length : Int)) = true := decide_eq_true (by omega)
      repeat (refine W.seq ?_)
      refine W.region 36 40 (by decide) rfl rfl ?_
      refine RW.opd rfl rfl (LO.move rfl rfl) ?_
      refine RW.opd rfl rfl (LO.move rfl rfl) ?_
      refine RW.opd rfl rfl (LO.len_isl rfl rfl rfl ty26) ?_
      refine RW.opd rfl rfl (LO.geq rfl rfl rfl) ?_
      refine RW.nil ?_
      repeat (refine W.seq ?_)
      refine W.cond_t rfl (by first | rfl | assumption) ?_
      refine W.exit ?_
      rw [hlast (.inr (by omega))]
      repeat (refine W.seq ?_)
      refine W.region 96 98 (by decide) rfl rfl ?_
      refine RW.opd rfl rfl (LO.move rfl rfl) ?_
      refine RW.opd rfl rfl (LO.assign rfl rfl) ?_
      refine RW.nil ?_
      refine W.frz1 (t := 6) rfl rfl (ints_tk (loadsK_len _ _ _ _)) (intsC_pure _) ?_
      repeat (refine W.seq ?_)
      refine W.ret ⟨.inl rfl, _, mt, RVs.cons (RV.tmp rfl) (RVs.nil), all_mt, ?_⟩
      exact ⟨by show AV.isl _ _ = AV.isl _ _; rw [loadsK_len], rfl⟩
  · have g1 : decide ((i : Int) < (ws.length : Int)) = false := decide_eq_false (by omega)
    repeat (refine W.seq ?_)
    refine W.region 22 23 (by decide) rfl rfl ?_
    refine RW.opd rfl rfl (LO.lss rfl rfl rfl) ?_
    refine RW.nil ?_
    repeat (refine W.seq ?_)
    refine W.cond_f rfl (by first | rfl | assumption) ?_
    refine W.exit ?_
    rw [hlast (.inl (by omega))]
    repeat (refine W.seq ?_)
    refine W.region 96 98 (by decide) rfl rfl ?_
    refine RW.opd rfl rfl (LO.move rfl rfl) ?_
    refine RW.opd rfl rfl (LO.assign rfl rfl) ?_
    refine RW.nil ?_
    refine W.frz1 (t := 6) rfl rfl (ints_tk (loadsK_len _ _ _ _)) (intsC_pure _) ?_
    repeat (refine W.seq ?_)
    refine W.ret ⟨.inl rfl, _, mt, RVs.cons (RV.tmp rfl) (RVs.nil), all_mt, ?_⟩
    exact ⟨by show AV.isl _ _ = AV.isl _ _; rw [loadsK_len], rfl⟩
end Go.Proofs.Ythbdngfnbpkefaa
