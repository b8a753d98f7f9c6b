/-
  Loads and items in memory; is an item in a list.
-/
import Derived.Test.YtbjfaepjpmogjaaDoorFv
import Derived.Test.YtbjfaepjpmogjaaDoorMab
namespace Go.Proofs.YtbjfaepjpmogjaaDoor
open Go.RowKit

structure Ld where
  a : Int
  b : Int
  r : Int
structure Itm where
  sw : Bool
  ix : Int
deriving DecidableEq
def ldC (x : Ld) : List AV := [.base (.int .i64 x.a), .base (.int .i64 x.b), .base (.int .i64 x.r)]
def ldsC (l : List Ld) : List AV := l.flatMap ldC
def itC (x : Itm) : List AV := [.base (.bool x.sw), .base (.int .i64 x.ix)]
def itsC (l : List Itm) : List AV := l.flatMap itC
theorem lds_tk {l : List Ld} {k : Nat} (h : k < l.length) : Tk (ldsC l) (k * 3) 3 (ldC l[k]) := flatTk (c := ldC) (fun _ => rfl) h
theorem its_tk {l : List Itm} {k : Nat} (h : k < l.length) : Tk (itsC l) (k * 2) 2 (itC l[k]) := flatTk (c := itC) (fun _ => rfl) h
theorem its_pure (l : List Itm) : (itsC l).all AV.pure1 = true := flatPure (fun _ => rfl) l
theorem lds_pure (l : List Ld) : (ldsC l).all AV.pure1 = true := flatPure (fun _ => rfl) l
theorem its_all {l : List Itm} {n : Nat} (h : l.length = n) : Tk (itsC l) 0 (n * 2) (itsC l) := flatAll (c := itC) (fun _ => rfl) h
theorem its_pre {l : List Itm} {k : Nat} (h : k ≤ l.length) : Tk (itsC l) (0 * 2) ((k - 0) * 2) (itsC (l.take k)) := flatPre (c := itC) (n := 2) (fun _ => rfl) h (by omega)
theorem its_snoc (l : List Itm) (x : Itm) : itsC l ++ itC x = itsC (l ++ [x]) := by simp [itsC]
def itV (x : Itm) : List Value := [.bool x.sw, .int .i64 x.ix]
theorem eqIt_in (d : Nat) (a b : Itm) (w : World) : (Op.equalIn (d + 2) 45 (.agg #[.bool a.sw, .int .i64 a.ix]) (.agg #[.bool b.sw, .int .i64 b.ix])).run Tryd.prog w = .ok (decide (a = b)) w := by
  rw [run_equalIn_struct w (d + 1) 45 _ _ (by kernel_rfl) (by kernel_rfl)]
  have hu := Tryd.underlying45
  have hb := Tryd.underlying4
  have hi := Tryd.underlying3
  simp [Program.fieldsOf, hu, Op.eqFields, part, isAgg, run_underlying hb, run_underlying hi, run_equalIn_bool' _ _ _ _ _ hb, run_equalIn_int _ _ _ _ _ _ _ hi]
  obtain ⟨a1, a2⟩ := a
  obtain ⟨b1, b2⟩ := b
  by_cases h1 : a1 = b1 <;> by_cases h2 : a2 = b2 <;> simp [h1, h2]
theorem LO.eqIt {o : Oper} {E : Operand → Option AV} {H : Hp} {f : Nat} {ty : TypeId} {x y : Operand} (a b : Itm) (ho : o.op = .binOp .eql 45 x y ty) (hx : E x = some (.agg (itC a))) (hy : E y = some (.agg (itC b))) : LO Tryd.prog o E H f [] [] (.base (.bool (decide (a = b)))) H :=
  LO.eqBases false (itV a) (itV b) ho hx hy rfl rfl (guardRun x y false (by kernel_rfl)) (eqIt_in 9998 a b)
theorem LO.neIt {o : Oper} {E : Operand → Option AV} {H : Hp} {f : Nat} {ty : TypeId} {x y : Operand} (a b : Itm) (ho : o.op = .binOp .neq 45 x y ty) (hx : E x = some (.agg (itC a))) (hy : E y = some (.agg (itC b))) : LO Tryd.prog o E H f [] [] (.base (.bool (!decide (a = b)))) H :=
  LO.eqBases true (itV a) (itV b) ho hx hy rfl rfl (guardRun x y true (by kernel_rfl)) (eqIt_in 9998 a b)
theorem no_next {l : List Itm} {v : Itm} {i : Nat} (hno : ∀ j, j < i → l[j]? ≠ some v) (hc : i < l.length) (e : ¬ v = l[i]) : ∀ j, j < i + 1 → l[j]? ≠ some v := fun j hj h => by
  rcases Nat.lt_or_ge j i with h1 | h1
  · exact hno j h1 h
  · obtain rfl : j = i := by omega
    rw [List.getElem?_eq_getElem hc] at h
    injection h with h
    exact e h.symm
def idxIt (l : List Itm) (v : Itm) : Int := if v ∈ l then (l.idxOf v : Int) else -1
theorem indexIt_any (l : List Itm) (v : Itm) (hl : l.length ≤ 1000) : AFn Tryd.prog 51 0 [.isl (itsC l) l.length, .agg (itC v)] mt (.base (.int .i64 (idxIt l v))) mt := by
  refine AFn.eq Tryd.func51 rfl rfl (Nat.le_of_ble_eq_true rfl) ?_
  repeat (refine W.seq ?_)
  refine W.region 0 2 (by decide) rfl rfl ?_
  refine RW.opd rfl rfl (LO.box rfl rfl rfl) ?_
  refine RW.opd rfl rfl (LO.assign rfl rfl) ?_
  refine RW.nil ?_
  repeat (refine W.seq ?_)
  refine W.region 6 9 (by decide) rfl rfl ?_
  refine RW.opd rfl rfl (LO.move rfl rfl) ?_
  refine RW.opd rfl rfl (LO.len_isl rfl rfl rfl ty22) ?_
  refine RW.opd rfl rfl (LO.move rfl rfl) ?_
  refine RW.nil ?_
  repeat (refine W.seq ?_)
  refine W.block ?_
  refine W.rename [(0, 0)] 1 (T' := up (up (up (up mt 0 (some (.isl (itsC l) l.length))) 3 (some (.own 0 0))) 7 (some (.base (.int .i64 (l.length : Int))))) 8 (some (.base (.int .i64 (0 : Int))))) (H' := up mt 0 (some (itC v))) (by decide) ?_ ?_ ?_
  · (repeat' (first | exact all_mt | refine all_up ?_ ?_)) <;> first | exact .inl ⟨rfl, rfl⟩ | exact .inr ⟨rfl, fun _ h => by cases h⟩ | exact .inl ⟨rfl, by first | rfl | assumption ⟩
  · (repeat' (first | exact all_mt | refine all_up ?_ ?_)) <;> first | exact ⟨rfl, _, rfl, .inr ⟨rfl, rfl⟩⟩ | exact ⟨rfl, _, rfl, .inl rfl⟩ | exact ⟨rfl, _, rfl, .inr ⟨rfl, by first | rfl | assumption ⟩⟩
  refine W.loop_ind (α := Nat) (fun x => l.length - x) 1 (fun x => up (up (up (up mt 0 (some (.isl (itsC l) l.length))) 3 (some (.own 0 0))) 7 (some (.base (.int .i64 (l.length : Int))))) 8 (some (.base (.int .i64 (x : Int))))) (fun x => up mt 0 (some (itC v))) (fun x => x ≤ l.length ∧ ∀ j, j < x → l[j]? ≠ some v) 0 (show 0 ≤ l.length ∧ ∀ j, j < 0 → l[j]? ≠ some v from ⟨Nat.zero_le _, fun j h => absurd h (Nat.not_lt_zero _)⟩) ?_
  rintro i hIA ihA
  try (dsimp only at hIA)
  try dsimp only
  obtain ⟨hi, hno⟩ := hIA
  by_cases hc : i < l.length
  · have g1 : decide ((i : Int) < (l.length : Int)) = true := decide_eq_true (by omega)
    repeat (refine W.seq ?_)
    refine W.region 13 14 (by decide) rfl rfl ?_
    refine RW.opd rfl rfl (LO.lss rfl rfl rfl) ?_
    refine RW.nil ?_
    repeat (refine W.seq ?_)
    refine W.cond_t rfl (by first | rfl | assumption) ?_
    refine W.skip ?_
    repeat (refine W.seq ?_)
    refine W.block ?_
    repeat (refine W.seq ?_)
    refine W.region 18 20 (by decide) rfl rfl ?_
    refine RW.opd rfl rfl (LO.move rfl rfl) ?_
    refine RW.opd rfl rfl (LO.assign rfl rfl) ?_
    refine RW.nil ?_
    by_cases e : v = l[i]
    · have he : decide (v = l[i]) = true := decide_eq_true e
      repeat (refine W.seq ?_)
      refine W.regionD 24 30 (by decide) rfl mixed rfl ?_
      refine RW.opd rfl rfl (LO.load_agg rfl rfl rfl ty45 rfl (Tk.lit rfl)) ?_
      refine RW.opd rfl rfl (LO.move rfl rfl) ?_
      refine RW.opd rfl rfl (LO.move rfl rfl) ?_
      refine RW.opd rfl rfl (LO.indexAddr_isl rfl rfl rfl rfl rfl ty22 ty45 ?_) ?_; (· (first | omega | decide | assumption | fail | (simp; done) | (simp; omega)))
      refine RW.opd rfl rfl (LO.load_imm_agg rfl rfl ty45 rfl (its_tk hc)) ?_
      refine RW.opd rfl rfl (LO.eqIt v l[i] rfl rfl rfl) ?_
      refine RW.nil ⟨by kernel_rfl, ?_⟩
      repeat (refine W.seq ?_)
      refine W.cond_t rfl (by first | rfl | assumption) ?_
      repeat (refine W.seq ?_)
      refine W.region 34 36 (by decide) rfl rfl ?_
      refine RW.opd rfl rfl (LO.move rfl rfl) ?_
      refine RW.opd rfl rfl (LO.assign rfl rfl) ?_
      refine RW.nil ?_
      repeat (refine W.seq ?_)
      refine W.ret ⟨.inl rfl, _, mt, RVs.cons (RV.tmp rfl) (RVs.nil), all_mt, ?_⟩
      refine ⟨?_, rfl⟩
      have hm : v ∈ l := by rw [e]; exact List.getElem_mem hc
      have hx : l.idxOf v = i := by
        have h1 : l.idxOf v < l.length := List.idxOf_lt_length_iff.2 hm
        have h2 : l[l.idxOf v] = v := List.getElem_idxOf h1
        rcases Nat.lt_trichotomy (l.idxOf v) i with h3 | h3 | h3
        · exact absurd (by rw [List.getElem?_eq_getElem h1, h2]) (hno _ h3)
        · exact h3
        · have h4 := List.not_of_lt_findIdx (xs := l) (p := (· == v)) (i := i) (by simpa [List.idxOf] using h3)
          simp [← e] at h4
      unfold idxIt
      rw [if_pos hm, hx]; rfl
    · have he : decide (v = l[i]) = false := decide_eq_false e
      repeat (refine W.seq ?_)
      refine W.regionD 24 30 (by decide) rfl mixed rfl ?_
      refine RW.opd rfl rfl (LO.load_agg rfl rfl rfl ty45 rfl (Tk.lit rfl)) ?_
      refine RW.opd rfl rfl (LO.move rfl rfl) ?_
      refine RW.opd rfl rfl (LO.move rfl rfl) ?_
      refine RW.opd rfl rfl (LO.indexAddr_isl rfl rfl rfl rfl rfl ty22 ty45 ?_) ?_; (· (first | omega | decide | assumption | fail | (simp; done) | (simp; omega)))
      refine RW.opd rfl rfl (LO.load_imm_agg rfl rfl ty45 rfl (its_tk hc)) ?_
      refine RW.opd rfl rfl (LO.eqIt v l[i] rfl rfl rfl) ?_
      refine RW.nil ⟨by kernel_rfl, ?_⟩
      repeat (refine W.seq ?_)
      refine W.cond_f rfl (by first | rfl | assumption) ?_
      refine W.skip ?_
      repeat (refine W.seq ?_)
      refine W.region 40 42 (by decide) rfl rfl ?_
      refine RW.opd rfl rfl (LO.add_in rfl rfl rfl ?_) ?_; (· (first | exact IntWalk.i64_in _ (by omega) | assumption))
      refine RW.opd rfl rfl (LO.move rfl rfl) ?_
      refine RW.nil ?_
      refine WL.rename [(0, 0)] 1 (by decide) ?_ ?_ (ihA (i + 1) (show l.length - (i + 1) < l.length - i from by omega) (show (i + 1) ≤ l.length ∧ ∀ j, j < (i + 1) → l[j]? ≠ some v from ⟨by omega, no_next hno hc e⟩))
      · (repeat' (first | exact all_mt | refine all_up ?_ ?_)) <;> first | exact .inl ⟨rfl, rfl⟩ | exact .inr ⟨rfl, fun _ h => by cases h⟩ | exact .inl ⟨rfl, by first | rfl | assumption ⟩
      · (repeat' (first | exact all_mt | refine all_up ?_ ?_)) <;> first | exact ⟨rfl, _, rfl, .inr ⟨rfl, rfl⟩⟩ | exact ⟨rfl, _, rfl, .inl rfl⟩ | exact ⟨rfl, _, rfl, .inr ⟨rfl, by first | rfl | assumption ⟩⟩
  · have g1 : decide ((i : Int) < (l.length : Int)) = false := decide_eq_false (by omega)
    repeat (refine W.seq ?_)
    refine W.region 13 14 (by decide) rfl rfl ?_
    refine RW.opd rfl rfl (LO.lss rfl rfl rfl) ?_
    refine RW.nil ?_
    repeat (refine W.seq ?_)
    refine W.cond_f rfl (by first | rfl | assumption) ?_
    refine W.exit ?_
    repeat (refine W.seq ?_)
    refine W.region 46 47 (by decide) rfl rfl ?_
    refine RW.opd rfl rfl (LO.assign rfl rfl) ?_
    refine RW.nil ?_
    repeat (refine W.seq ?_)
    refine W.ret ⟨.inl rfl, _, mt, RVs.cons (RV.tmp rfl) (RVs.nil), all_mt, ?_⟩
    refine ⟨?_, rfl⟩
    have hm : v ∉ l := fun hm => by
      obtain ⟨j, hj, e⟩ := List.getElem_of_mem hm
      exact hno j (by omega) (by rw [List.getElem?_eq_getElem hj, e])
    unfold idxIt
    rw [if_neg hm]; rfl
theorem containsIt_any (l : List Itm) (v : Itm) (hl : l.length ≤ 1000) : AFn Tryd.prog 42 0 [.isl (itsC l) l.length, .agg (itC v)] mt (.base (.bool (decide (v ∈ l)))) mt := by
  refine AFn.eq Tryd.func42 rfl rfl (Nat.le_of_ble_eq_true rfl) ?_
  have hix := indexIt_any l v hl
  repeat (refine W.seq ?_)
  refine W.region 0 2 (by decide) rfl rfl ?_
  refine RW.opd rfl rfl (LO.box rfl rfl rfl) ?_
  refine RW.opd rfl rfl (LO.assign rfl rfl) ?_
  refine RW.nil ?_
  repeat (refine W.seq ?_)
  refine W.region 6 11 (by decide) rfl rfl ?_
  refine RW.opd rfl rfl (LO.move rfl rfl) ?_
  refine RW.opd rfl rfl (LO.load_agg rfl rfl rfl ty45 rfl (Tk.lit rfl)) ?_
  refine RW.opd rfl rfl (LO.call0 (fr := []) rfl rfl (hix) fok51 (.cons rfl (.pure rfl) (.cons rfl (.pure rfl) .nil)) rfl) ?_
  refine RW.opd rfl rfl (LO.geq rfl rfl rfl) ?_
  refine RW.opd rfl rfl (LO.assign rfl rfl) ?_
  refine RW.nil ?_
  repeat (refine W.seq ?_)
  refine W.ret ⟨.inl rfl, _, mt, RVs.cons (RV.tmp rfl) (RVs.nil), all_mt, ?_⟩
  refine ⟨?_, rfl⟩
  unfold idxIt
  by_cases hm : v ∈ l
  · rw [if_pos hm, decide_eq_true hm]; simp [retOf]
  · rw [if_neg hm, decide_eq_false hm]; rfl
end Go.Proofs.YtbjfaepjpmogjaaDoor
