/-
  Fabrics: what is alive, what works.
-/
import Derived.Test.YtbjfaepjpmogjaaDoorDk
import Derived.Test.YtbjfaepjpmogjaaDoorPf
namespace Go.Proofs.YtbjfaepjpmogjaaDoor
open Go.RowKit

def lnkC (x : Lnk) : List AV := [.base (.int .i64 x.a), .base (.int .i64 x.b), .base (.int .i64 x.c)]
def lnksC (l : List Lnk) : List AV := l.flatMap lnkC
def boolsC (l : List Bool) : List AV := l.map fun b => .base (.bool b)
def fabC (f : Fab) : List AV := [.base (.int .i64 f.sw), .isl (lnksC f.links) f.links.length, .isl (boolsC f.down) f.down.length, .isl (boolsC f.dead) f.dead.length]
theorem lnksC_at {l : List Lnk} {k : Nat} (h : k < l.length) : (lnksC l)[k * 3]? = some (.base (.int .i64 l[k].a)) ∧ (lnksC l)[k * 3 + 1]? = some (.base (.int .i64 l[k].b)) ∧ (lnksC l)[k * 3 + 2]? = some (.base (.int .i64 l[k].c)) := by
  induction l generalizing k with
  | nil => simp at h
  | cons x l ih =>
    cases k with
    | zero => exact ⟨rfl, rfl, rfl⟩
    | succ k =>
      obtain ⟨h1, h2, h3⟩ := ih (k := k) (by simpa using h)
      have e : lnksC (x :: l) = lnkC x ++ lnksC l := rfl
      rw [e]
      refine ⟨?_, ?_, ?_⟩
      all_goals (rw [List.getElem?_append_right (by simp [lnkC]; omega)])
      · rw [show (k + 1) * 3 - (lnkC x).length = k * 3 from by simp [lnkC]; omega]; exact h1
      · rw [show (k + 1) * 3 + 1 - (lnkC x).length = k * 3 + 1 from by simp [lnkC]; omega]; exact h2
      · rw [show (k + 1) * 3 + 2 - (lnkC x).length = k * 3 + 2 from by simp [lnkC]; omega]; exact h3
theorem lnksC_len (l : List Lnk) : (lnksC l).length = l.length * 3 := by
  induction l with
  | nil => rfl
  | cons x l ih => rw [show lnksC (x :: l) = lnkC x ++ lnksC l from rfl, List.length_append, ih]; simp [lnkC]; omega
theorem lnksC_tk {l : List Lnk} {k : Nat} (h : k < l.length) : Tk (lnksC l) (k * 3) 3 (lnkC l[k]) := by
  obtain ⟨h1, h2, h3⟩ := lnksC_at h
  refine ⟨rfl, fun j c hj => ?_⟩
  match j with
  | 0 => simp [lnkC] at hj; subst hj; exact h1
  | 1 => simp [lnkC] at hj; subst hj; exact h2
  | 2 => simp [lnkC] at hj; subst hj; exact h3
  | j + 3 => simp [lnkC] at hj
theorem boolsC_at {l : List Bool} {k : Nat} (h : k < l.length) : (boolsC l)[k * 1]? = some (.base (.bool l[k])) := by simp [boolsC, h]

theorem alive_any (f : Fab) (s : Int) : AFn Tryd.prog 57 0 [.agg (fabC f), .base (.int .i64 s)] mt (.base (.bool (aliveB f s))) mt := by
  refine AFn.eq Tryd.func57 rfl rfl (Nat.le_of_ble_eq_true rfl) ?_
  unfold fabC
  repeat (refine W.seq ?_)
  refine W.region 0 2 (by decide) rfl rfl ?_
  refine RW.opd rfl rfl (LO.box rfl rfl rfl) ?_
  refine RW.opd rfl rfl (LO.assign rfl rfl) ?_
  refine RW.nil ?_
  by_cases h0 : 0 ≤ s
  · obtain ⟨j, rfl⟩ := Int.eq_ofNat_of_zero_le h0
    have g0 : decide (0 ≤ (j : Int)) = true := decide_eq_true h0
    by_cases h1 : j < f.dead.length
    · have g1 : decide ((j : Int) < f.dead.length) = true := decide_eq_true (by omega)
      repeat (refine W.seq ?_)
      refine W.region 6 24 (by decide) rfl rfl ?_
      refine RW.opd rfl rfl (LO.move rfl rfl) ?_
      refine RW.opd rfl rfl (LO.geq rfl rfl rfl) ?_
      refine RW.opd rfl rfl (LO.move rfl rfl) ?_
      refine RW.gd rfl rfl rfl ?_ rfl (LO.move rfl rfl) ?_; (· (first | rfl | assumption))
      refine RW.gd rfl rfl rfl ?_ rfl (LO.fieldAddr rfl rfl ty28 rfl (by decide)) ?_; (· (first | rfl | assumption))
      refine RW.gd rfl rfl rfl ?_ rfl (LO.load rfl rfl rfl rfl ty26 rfl) ?_; (· (first | rfl | assumption))
      refine RW.gd rfl rfl rfl ?_ rfl (LO.len_isl rfl rfl rfl ty26) ?_; (· (first | rfl | assumption))
      refine RW.gd rfl rfl rfl ?_ rfl (LO.lss rfl rfl rfl) ?_; (· (first | rfl | assumption))
      refine RW.opd rfl rfl (LO.pick_t rfl rfl ?_ rfl) ?_; (· (first | rfl | assumption))
      refine RW.opd rfl rfl (LO.move rfl rfl) ?_
      refine RW.gd rfl rfl rfl ?_ rfl (LO.fieldAddr rfl rfl ty28 rfl (by decide)) ?_; (· (first | rfl | assumption))
      refine RW.gd rfl rfl rfl ?_ rfl (LO.load rfl rfl rfl rfl ty26 rfl) ?_; (· (first | rfl | assumption))
      refine RW.gd rfl rfl rfl ?_ rfl (LO.move rfl rfl) ?_; (· (first | rfl | assumption))
      refine RW.gd rfl rfl rfl ?_ rfl (LO.indexAddr_isl rfl rfl rfl rfl rfl ty26 ty4 ?_) ?_; (· (first | rfl | assumption)); (· (first | omega | decide | assumption | fail | (simp; done) | (simp; omega)))
      refine RW.gd rfl rfl rfl ?_ rfl (LO.load_imm rfl rfl (boolsC_at h1) ty4 rfl) ?_; (· (first | rfl | assumption))
      refine RW.gd rfl rfl rfl ?_ rfl (LO.not rfl rfl) ?_; (· (first | rfl | assumption))
      refine RW.opd rfl rfl (LO.pick_t rfl rfl ?_ rfl) ?_; (· (first | rfl | assumption))
      refine RW.opd rfl rfl (LO.assign rfl rfl) ?_
      refine RW.nil ?_
      repeat (refine W.seq ?_)
      refine W.ret ⟨.inl rfl, _, mt, RVs.cons (RV.tmp rfl) (RVs.nil), all_mt, ?_⟩
      exact ⟨by rw [aliveB_at h1]; rfl, rfl⟩
    · have g1 : decide ((j : Int) < f.dead.length) = false := decide_eq_false (by omega)
      repeat (refine W.seq ?_)
      refine W.region 6 24 (by decide) rfl rfl ?_
      refine RW.opd rfl rfl (LO.move rfl rfl) ?_
      refine RW.opd rfl rfl (LO.geq rfl rfl rfl) ?_
      refine RW.opd rfl rfl (LO.move rfl rfl) ?_
      refine RW.gd rfl rfl rfl ?_ rfl (LO.move rfl rfl) ?_; (· (first | rfl | assumption))
      refine RW.gd rfl rfl rfl ?_ rfl (LO.fieldAddr rfl rfl ty28 rfl (by decide)) ?_; (· (first | rfl | assumption))
      refine RW.gd rfl rfl rfl ?_ rfl (LO.load rfl rfl rfl rfl ty26 rfl) ?_; (· (first | rfl | assumption))
      refine RW.gd rfl rfl rfl ?_ rfl (LO.len_isl rfl rfl rfl ty26) ?_; (· (first | rfl | assumption))
      refine RW.gd rfl rfl rfl ?_ rfl (LO.lss rfl rfl rfl) ?_; (· (first | rfl | assumption))
      refine RW.opd rfl rfl (LO.pick_t rfl rfl ?_ rfl) ?_; (· (first | rfl | assumption))
      refine RW.opd rfl rfl (LO.move rfl rfl) ?_
      refine RW.sd rfl rfl rfl ?_ rfl ?_; (· (first | rfl | assumption))
      refine RW.sd rfl rfl rfl ?_ rfl ?_; (· (first | rfl | assumption))
      refine RW.sd rfl rfl rfl ?_ rfl ?_; (· (first | rfl | assumption))
      refine RW.sd rfl rfl rfl ?_ rfl ?_; (· (first | rfl | assumption))
      refine RW.sd rfl rfl rfl ?_ rfl ?_; (· (first | rfl | assumption))
      refine RW.sd rfl rfl rfl ?_ rfl ?_; (· (first | rfl | assumption))
      refine RW.opd rfl rfl (LO.pick_f rfl rfl ?_ rfl) ?_; (· (first | rfl | assumption))
      refine RW.opd rfl rfl (LO.assign rfl rfl) ?_
      refine RW.nil ?_
      repeat (refine W.seq ?_)
      refine W.ret ⟨.inl rfl, _, mt, RVs.cons (RV.tmp rfl) (RVs.nil), all_mt, ?_⟩
      exact ⟨by unfold aliveB; rw [g1]; simp [retOf], rfl⟩
  · have g0 : decide (0 ≤ s) = false := decide_eq_false h0
    repeat (refine W.seq ?_)
    refine W.region 6 24 (by decide) rfl rfl ?_
    refine RW.opd rfl rfl (LO.move rfl rfl) ?_
    refine RW.opd rfl rfl (LO.geq rfl rfl rfl) ?_
    refine RW.opd rfl rfl (LO.move rfl rfl) ?_
    refine RW.sd rfl rfl rfl ?_ rfl ?_; (· (first | rfl | assumption))
    refine RW.sd rfl rfl rfl ?_ rfl ?_; (· (first | rfl | assumption))
    refine RW.sd rfl rfl rfl ?_ rfl ?_; (· (first | rfl | assumption))
    refine RW.sd rfl rfl rfl ?_ rfl ?_; (· (first | rfl | assumption))
    refine RW.sd rfl rfl rfl ?_ rfl ?_; (· (first | rfl | assumption))
    refine RW.opd rfl rfl (LO.pick_f rfl rfl ?_ rfl) ?_; (· (first | rfl | assumption))
    refine RW.opd rfl rfl (LO.move rfl rfl) ?_
    refine RW.sd rfl rfl rfl ?_ rfl ?_; (· (first | rfl | assumption))
    refine RW.sd rfl rfl rfl ?_ rfl ?_; (· (first | rfl | assumption))
    refine RW.sd rfl rfl rfl ?_ rfl ?_; (· (first | rfl | assumption))
    refine RW.sd rfl rfl rfl ?_ rfl ?_; (· (first | rfl | assumption))
    refine RW.sd rfl rfl rfl ?_ rfl ?_; (· (first | rfl | assumption))
    refine RW.sd rfl rfl rfl ?_ rfl ?_; (· (first | rfl | assumption))
    refine RW.opd rfl rfl (LO.pick_f rfl rfl ?_ rfl) ?_; (· (first | rfl | assumption))
    refine RW.opd rfl rfl (LO.assign rfl rfl) ?_
    refine RW.nil ?_
    repeat (refine W.seq ?_)
    refine W.ret ⟨.inl rfl, _, mt, RVs.cons (RV.tmp rfl) (RVs.nil), all_mt, ?_⟩
    exact ⟨by unfold aliveB; rw [g0]; rfl, rfl⟩
end Go.Proofs.YtbjfaepjpmogjaaDoor
