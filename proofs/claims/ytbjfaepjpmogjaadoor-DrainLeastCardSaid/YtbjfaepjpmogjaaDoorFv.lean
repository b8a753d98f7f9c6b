/-
  Which fabrics are valid: both texts.
-/
import Derived.Test.YtbjfaepjpmogjaaDoorFc
namespace Go.Proofs.YtbjfaepjpmogjaaDoor
open Go.RowKit

def lnkB (f : Fab) (l : Lnk) : Bool := decide (0 ≤ l.a) && (decide (l.a < f.sw) && (decide (0 ≤ l.b) && (decide (l.b < f.sw) && (!(l.a == l.b) && (decide (1 ≤ l.c) && decide (l.c ≤ 1048576))))))
def sizeB (f : Fab) : Bool := decide (1 ≤ f.sw) && (decide (f.sw ≤ 8) && (decide (f.links.length ≤ 24) && (decide (f.down.length = f.links.length) && decide ((f.dead.length : Int) = f.sw))))
def validB (f : Fab) : Bool := f.links.all (lnkB f) && sizeB f
theorem all_take_succ {α : Type} {l : List α} (p : α → Bool) {i : Nat} (h : i < l.length) : (l.take (i + 1)).all p = ((l.take i).all p && p l[i]) := by
  rw [List.take_add_one, List.all_append]
  simp [h]
theorem validB_bad {f : Fab} {i : Nat} (h : i < f.links.length) (hb : lnkB f f.links[i] = false) : validB f = false := by
  have : f.links.all (lnkB f) = false := List.all_eq_false.2 ⟨f.links[i], List.getElem_mem h, by rw [hb]; decide⟩
  unfold validB
  rw [this]; rfl
theorem validB_all {f : Fab} (h : (f.links.take f.links.length).all (lnkB f) = true) : validB f = sizeB f := by
  rw [List.take_length] at h
  unfold validB
  rw [h]; rfl
theorem valid_any (f : Fab) (hb : f.links.length ≤ 1000) : AFn Tryd.prog 41 0 [.agg (fabC f)] mt (.base (.bool (validB f))) mt := by
  refine AFn.eq Tryd.func41 rfl rfl (Nat.le_of_ble_eq_true rfl) ?_
  repeat (refine W.seq ?_)
  refine W.region 0 2 (by decide) rfl rfl ?_
  refine RW.opd rfl rfl (LO.box rfl rfl rfl) ?_
  refine RW.opd rfl rfl (LO.assign rfl rfl) ?_
  refine RW.nil ?_
  repeat (refine W.seq ?_)
  refine W.region 6 10 (by decide) rfl rfl ?_
  refine RW.opd rfl rfl (LO.fieldAddr rfl rfl ty28 rfl (by decide)) ?_
  refine RW.opd rfl rfl (LO.load rfl rfl rfl rfl ty25 rfl) ?_
  refine RW.opd rfl rfl (LO.len_isl rfl rfl rfl ty25) ?_
  refine RW.opd rfl rfl (LO.move rfl rfl) ?_
  refine RW.nil ?_
  repeat (refine W.seq ?_)
  refine W.block ?_
  refine W.rename [(0, 0)] 1 (T' := up (up (up (up mt 1 (some (.own 0 0))) 6 (some (.isl (lnksC f.links) f.links.length))) 7 (some (.base (.int .i64 (f.links.length : Int))))) 8 (some (.base (.int .i64 (0 : Int))))) (H' := up mt 0 (some (fabC f))) (by decide) ?_ ?_ ?_
  · (repeat' (first | exact all_mt | refine all_up ?_ ?_)) <;> first | exact .inl ⟨rfl, rfl⟩ | exact .inr ⟨rfl, fun _ h => by cases h⟩ | exact .inl ⟨rfl, by first | rfl | assumption ⟩
  · (repeat' (first | exact all_mt | refine all_up ?_ ?_)) <;> first | exact ⟨rfl, _, rfl, .inr ⟨rfl, rfl⟩⟩ | exact ⟨rfl, _, rfl, .inl rfl⟩ | exact ⟨rfl, _, rfl, .inr ⟨rfl, by first | rfl | assumption ⟩⟩
  refine W.loop_ind (α := Nat) (fun x => f.links.length - x) 1 (fun x => up (up (up (up mt 1 (some (.own 0 0))) 6 (some (.isl (lnksC f.links) f.links.length))) 7 (some (.base (.int .i64 (f.links.length : Int))))) 8 (some (.base (.int .i64 (x : Int))))) (fun x => up mt 0 (some (fabC f))) (fun x => x ≤ f.links.length ∧ (f.links.take x).all (lnkB f) = true) 0 (show 0 ≤ f.links.length ∧ (f.links.take 0).all (lnkB f) = true from ⟨Nat.zero_le _, rfl⟩) ?_
  rintro i hIA ihA
  try (dsimp only at hIA)
  try dsimp only
  obtain ⟨hi, hall⟩ := hIA
  by_cases hc : i < f.links.length
  · have g1 : decide ((i : Int) < (f.links.length : Int)) = true := decide_eq_true (by omega)
    repeat (refine W.seq ?_)
    refine W.region 14 15 (by decide) rfl rfl ?_
    refine RW.opd rfl rfl (LO.lss rfl rfl rfl) ?_
    refine RW.nil ?_
    repeat (refine W.seq ?_)
    refine W.cond_t rfl (by first | rfl | assumption) ?_
    refine W.skip ?_
    repeat (refine W.seq ?_)
    refine W.block ?_
    repeat (refine W.seq ?_)
    refine W.region 19 23 (by decide) rfl rfl ?_
    refine RW.opd rfl rfl (LO.indexAddr_isl rfl rfl rfl rfl rfl ty25 ty56 ?_) ?_; (· (first | omega | decide | assumption | fail | (simp; done) | (simp; omega)))
    refine RW.opd rfl rfl (LO.load_imm_agg rfl rfl ty56 rfl (lnksC_tk hc)) ?_
    refine RW.opd rfl rfl (LO.alloc rfl ty56) ?_
    refine RW.opn rfl rfl (LO.store rfl rfl rfl rfl rfl ty56 rfl (by decide) (Sp.lit rfl)) ?_
    refine RW.nil ?_
    by_cases t0 : f.links[i].a < 0
    · have ht0 : decide (f.links[i].a < 0) = true := decide_eq_true t0
      repeat (refine W.seq ?_)
      refine W.region 27 66 (by decide) rfl rfl ?_
      refine RW.opd rfl rfl (LO.fieldAddr rfl rfl ty56 rfl (by decide)) ?_
      refine RW.opd rfl rfl (LO.load rfl rfl rfl rfl ty3 rfl) ?_
      refine RW.opd rfl rfl (LO.lss rfl rfl rfl) ?_
      refine RW.opd rfl rfl (LO.move rfl rfl) ?_
      refine RW.sd rfl rfl rfl ?_ rfl ?_; (· (first | rfl | assumption))
      refine RW.sd rfl rfl rfl ?_ rfl ?_; (· (first | rfl | assumption))
      refine RW.sd rfl rfl rfl ?_ rfl ?_; (· (first | rfl | assumption))
      refine RW.sd rfl rfl rfl ?_ rfl ?_; (· (first | rfl | assumption))
      refine RW.sd rfl rfl rfl ?_ rfl ?_; (· (first | rfl | assumption))
      refine RW.opd rfl rfl (LO.pick_t rfl rfl ?_ rfl) ?_; (· (first | rfl | assumption))
      refine RW.opd rfl rfl (LO.move rfl rfl) ?_
      refine RW.sd rfl rfl rfl ?_ rfl ?_; (· (first | rfl | assumption))
      refine RW.sd rfl rfl rfl ?_ rfl ?_; (· (first | rfl | assumption))
      refine RW.sd rfl rfl rfl ?_ rfl ?_; (· (first | rfl | assumption))
      refine RW.opd rfl rfl (LO.pick_t rfl rfl ?_ rfl) ?_; (· (first | rfl | assumption))
      refine RW.opd rfl rfl (LO.move rfl rfl) ?_
      refine RW.sd rfl rfl rfl ?_ rfl ?_; (· (first | rfl | assumption))
      refine RW.sd rfl rfl rfl ?_ rfl ?_; (· (first | rfl | assumption))
      refine RW.sd rfl rfl rfl ?_ rfl ?_; (· (first | rfl | assumption))
      refine RW.sd rfl rfl rfl ?_ rfl ?_; (· (first | rfl | assumption))
      refine RW.sd rfl rfl rfl ?_ rfl ?_; (· (first | rfl | assumption))
      refine RW.opd rfl rfl (LO.pick_t rfl rfl ?_ rfl) ?_; (· (first | rfl | assumption))
      refine RW.opd rfl rfl (LO.move rfl rfl) ?_
      refine RW.sd rfl rfl rfl ?_ rfl ?_; (· (first | rfl | assumption))
      refine RW.sd rfl rfl rfl ?_ rfl ?_; (· (first | rfl | assumption))
      refine RW.sd rfl rfl rfl ?_ rfl ?_; (· (first | rfl | assumption))
      refine RW.sd rfl rfl rfl ?_ rfl ?_; (· (first | rfl | assumption))
      refine RW.sd rfl rfl rfl ?_ rfl ?_; (· (first | rfl | assumption))
      refine RW.opd rfl rfl (LO.pick_t rfl rfl ?_ rfl) ?_; (· (first | rfl | assumption))
      refine RW.opd rfl rfl (LO.move rfl rfl) ?_
      refine RW.sd rfl rfl rfl ?_ rfl ?_; (· (first | rfl | assumption))
      refine RW.sd rfl rfl rfl ?_ rfl ?_; (· (first | rfl | assumption))
      refine RW.sd rfl rfl rfl ?_ rfl ?_; (· (first | rfl | assumption))
      refine RW.opd rfl rfl (LO.pick_t rfl rfl ?_ rfl) ?_; (· (first | rfl | assumption))
      refine RW.opd rfl rfl (LO.move rfl rfl) ?_
      refine RW.sd rfl rfl rfl ?_ rfl ?_; (· (first | rfl | assumption))
      refine RW.sd rfl rfl rfl ?_ rfl ?_; (· (first | rfl | assumption))
      refine RW.sd rfl rfl rfl ?_ rfl ?_; (· (first | rfl | assumption))
      refine RW.opd rfl rfl (LO.pick_t rfl rfl ?_ rfl) ?_; (· (first | rfl | assumption))
      refine RW.nil ?_
      repeat (refine W.seq ?_)
      refine W.cond_t rfl (by first | rfl | assumption) ?_
      repeat (refine W.seq ?_)
      refine W.region 70 71 (by decide) rfl rfl ?_
      refine RW.opd rfl rfl (LO.assign rfl rfl) ?_
      refine RW.nil ?_
      repeat (refine W.seq ?_)
      refine W.ret ⟨.inl rfl, _, mt, RVs.cons (RV.tmp rfl) (RVs.nil), all_mt, ?_⟩
      exact ⟨by rw [validB_bad hc (by unfold lnkB; simp; omega)]; rfl, rfl⟩
    · have ht0 : decide (f.links[i].a < 0) = false := decide_eq_false t0
      by_cases t1 : f.links[i].a ≥ f.sw
      · have ht1 : decide (f.links[i].a ≥ f.sw) = true := decide_eq_true t1
        repeat (refine W.seq ?_)
        refine W.region 27 66 (by decide) rfl rfl ?_
        refine RW.opd rfl rfl (LO.fieldAddr rfl rfl ty56 rfl (by decide)) ?_
        refine RW.opd rfl rfl (LO.load rfl rfl rfl rfl ty3 rfl) ?_
        refine RW.opd rfl rfl (LO.lss rfl rfl rfl) ?_
        refine RW.opd rfl rfl (LO.move rfl rfl) ?_
        refine RW.gd rfl rfl rfl ?_ rfl (LO.fieldAddr rfl rfl ty56 rfl (by decide)) ?_; (· (first | rfl | assumption))
        refine RW.gd rfl rfl rfl ?_ rfl (LO.load rfl rfl rfl rfl ty3 rfl) ?_; (· (first | rfl | assumption))
        refine RW.gd rfl rfl rfl ?_ rfl (LO.fieldAddr rfl rfl ty28 rfl (by decide)) ?_; (· (first | rfl | assumption))
        refine RW.gd rfl rfl rfl ?_ rfl (LO.load rfl rfl rfl rfl ty3 rfl) ?_; (· (first | rfl | assumption))
        refine RW.gd rfl rfl rfl ?_ rfl (LO.geq rfl rfl rfl) ?_; (· (first | rfl | assumption))
        refine RW.opd rfl rfl (LO.pick_f rfl rfl ?_ rfl) ?_; (· (first | rfl | assumption))
        refine RW.opd rfl rfl (LO.move rfl rfl) ?_
        refine RW.sd rfl rfl rfl ?_ rfl ?_; (· (first | rfl | assumption))
        refine RW.sd rfl rfl rfl ?_ rfl ?_; (· (first | rfl | assumption))
        refine RW.sd rfl rfl rfl ?_ rfl ?_; (· (first | rfl | assumption))
        refine RW.opd rfl rfl (LO.pick_t rfl rfl ?_ rfl) ?_; (· (first | rfl | assumption))
        refine RW.opd rfl rfl (LO.move rfl rfl) ?_
        refine RW.sd rfl rfl rfl ?_ rfl ?_; (· (first | rfl | assumption))
        refine RW.sd rfl rfl rfl ?_ rfl ?_; (· (first | rfl | assumption))
        refine RW.sd rfl rfl rfl ?_ rfl ?_; (· (first | rfl | assumption))
        refine RW.sd rfl rfl rfl ?_ rfl ?_; (· (first | rfl | assumption))
        refine RW.sd rfl rfl rfl ?_ rfl ?_; (· (first | rfl | assumption))
        refine RW.opd rfl rfl (LO.pick_t rfl rfl ?_ rfl) ?_; (· (first | rfl | assumption))
        refine RW.opd rfl rfl (LO.move rfl rfl) ?_
        refine RW.sd rfl rfl rfl ?_ rfl ?_; (· (first | rfl | assumption))
        refine RW.sd rfl rfl rfl ?_ rfl ?_; (· (first | rfl | assumption))
        refine RW.sd rfl rfl rfl ?_ rfl ?_; (· (first | rfl | assumption))
        refine RW.sd rfl rfl rfl ?_ rfl ?_; (· (first | rfl | assumption))
        refine RW.sd rfl rfl rfl ?_ rfl ?_; (· (first | rfl | assumption))
        refine RW.opd rfl rfl (LO.pick_t rfl rfl ?_ rfl) ?_; (· (first | rfl | assumption))
        refine RW.opd rfl rfl (LO.move rfl rfl) ?_
        refine RW.sd rfl rfl rfl ?_ rfl ?_; (· (first | rfl | assumption))
        refine RW.sd rfl rfl rfl ?_ rfl ?_; (· (first | rfl | assumption))
        refine RW.sd rfl rfl rfl ?_ rfl ?_; (· (first | rfl | assumption))
        refine RW.opd rfl rfl (LO.pick_t rfl rfl ?_ rfl) ?_; (· (first | rfl | assumption))
        refine RW.opd rfl rfl (LO.move rfl rfl) ?_
        refine RW.sd rfl rfl rfl ?_ rfl ?_; (· (first | rfl | assumption))
        refine RW.sd rfl rfl rfl ?_ rfl ?_; (· (first | rfl | assumption))
        refine RW.sd rfl rfl rfl ?_ rfl ?_; (· (first | rfl | assumption))
        refine RW.opd rfl rfl (LO.pick_t rfl rfl ?_ rfl) ?_; (· (first | rfl | assumption))
        refine RW.nil ?_
        repeat (refine W.seq ?_)
        refine W.cond_t rfl (by first | rfl | assumption) ?_
        repeat (refine W.seq ?_)
        refine W.region 70 71 (by decide) rfl rfl ?_
        refine RW.opd rfl rfl (LO.assign rfl rfl) ?_
        refine RW.nil ?_
        repeat (refine W.seq ?_)
        refine W.ret ⟨.inl rfl, _, mt, RVs.cons (RV.tmp rfl) (RVs.nil), all_mt, ?_⟩
        exact ⟨by rw [validB_bad hc (by unfold lnkB; simp; omega)]; rfl, rfl⟩
      · have ht1 : decide (f.links[i].a ≥ f.sw) = false := decide_eq_false t1
        by_cases t2 : f.links[i].b < 0
        · have ht2 : decide (f.links[i].b < 0) = true := decide_eq_true t2
          repeat (refine W.seq ?_)
          refine W.region 27 66 (by decide) rfl rfl ?_
          refine RW.opd rfl rfl (LO.fieldAddr rfl rfl ty56 rfl (by decide)) ?_
          refine RW.opd rfl rfl (LO.load rfl rfl rfl rfl ty3 rfl) ?_
          refine RW.opd rfl rfl (LO.lss rfl rfl rfl) ?_
          refine RW.opd rfl rfl (LO.move rfl rfl) ?_
          refine RW.gd rfl rfl rfl ?_ rfl (LO.fieldAddr rfl rfl ty56 rfl (by decide)) ?_; (· (first | rfl | assumption))
          refine RW.gd rfl rfl rfl ?_ rfl (LO.load rfl rfl rfl rfl ty3 rfl) ?_; (· (first | rfl | assumption))
          refine RW.gd rfl rfl rfl ?_ rfl (LO.fieldAddr rfl rfl ty28 rfl (by decide)) ?_; (· (first | rfl | assumption))
          refine RW.gd rfl rfl rfl ?_ rfl (LO.load rfl rfl rfl rfl ty3 rfl) ?_; (· (first | rfl | assumption))
          refine RW.gd rfl rfl rfl ?_ rfl (LO.geq rfl rfl rfl) ?_; (· (first | rfl | assumption))
          refine RW.opd rfl rfl (LO.pick_f rfl rfl ?_ rfl) ?_; (· (first | rfl | assumption))
          refine RW.opd rfl rfl (LO.move rfl rfl) ?_
          refine RW.gd rfl rfl rfl ?_ rfl (LO.fieldAddr rfl rfl ty56 rfl (by decide)) ?_; (· (first | rfl | assumption))
          refine RW.gd rfl rfl rfl ?_ rfl (LO.load rfl rfl rfl rfl ty3 rfl) ?_; (· (first | rfl | assumption))
          refine RW.gd rfl rfl rfl ?_ rfl (LO.lss rfl rfl rfl) ?_; (· (first | rfl | assumption))
          refine RW.opd rfl rfl (LO.pick_f rfl rfl ?_ rfl) ?_; (· (first | rfl | assumption))
          refine RW.opd rfl rfl (LO.move rfl rfl) ?_
          refine RW.sd rfl rfl rfl ?_ rfl ?_; (· (first | rfl | assumption))
          refine RW.sd rfl rfl rfl ?_ rfl ?_; (· (first | rfl | assumption))
          refine RW.sd rfl rfl rfl ?_ rfl ?_; (· (first | rfl | assumption))
          refine RW.sd rfl rfl rfl ?_ rfl ?_; (· (first | rfl | assumption))
          refine RW.sd rfl rfl rfl ?_ rfl ?_; (· (first | rfl | assumption))
          refine RW.opd rfl rfl (LO.pick_t rfl rfl ?_ rfl) ?_; (· (first | rfl | assumption))
          refine RW.opd rfl rfl (LO.move rfl rfl) ?_
          refine RW.sd rfl rfl rfl ?_ rfl ?_; (· (first | rfl | assumption))
          refine RW.sd rfl rfl rfl ?_ rfl ?_; (· (first | rfl | assumption))
          refine RW.sd rfl rfl rfl ?_ rfl ?_; (· (first | rfl | assumption))
          refine RW.sd rfl rfl rfl ?_ rfl ?_; (· (first | rfl | assumption))
          refine RW.sd rfl rfl rfl ?_ rfl ?_; (· (first | rfl | assumption))
          refine RW.opd rfl rfl (LO.pick_t rfl rfl ?_ rfl) ?_; (· (first | rfl | assumption))
          refine RW.opd rfl rfl (LO.move rfl rfl) ?_
          refine RW.sd rfl rfl rfl ?_ rfl ?_; (· (first | rfl | assumption))
          refine RW.sd rfl rfl rfl ?_ rfl ?_; (· (first | rfl | assumption))
          refine RW.sd rfl rfl rfl ?_ rfl ?_; (· (first | rfl | assumption))
          refine RW.opd rfl rfl (LO.pick_t rfl rfl ?_ rfl) ?_; (· (first | rfl | assumption))
          refine RW.opd rfl rfl (LO.move rfl rfl) ?_
          refine RW.sd rfl rfl rfl ?_ rfl ?_; (· (first | rfl | assumption))
          refine RW.sd rfl rfl rfl ?_ rfl ?_; (· (first | rfl | assumption))
          refine RW.sd rfl rfl rfl ?_ rfl ?_; (· (first | rfl | assumption))
          refine RW.opd rfl rfl (LO.pick_t rfl rfl ?_ rfl) ?_; (· (first | rfl | assumption))
          refine RW.nil ?_
          repeat (refine W.seq ?_)
          refine W.cond_t rfl (by first | rfl | assumption) ?_
          repeat (refine W.seq ?_)
          refine W.region 70 71 (by decide) rfl rfl ?_
          refine RW.opd rfl rfl (LO.assign rfl rfl) ?_
          refine RW.nil ?_
          repeat (refine W.seq ?_)
          refine W.ret ⟨.inl rfl, _, mt, RVs.cons (RV.tmp rfl) (RVs.nil), all_mt, ?_⟩
          exact ⟨by rw [validB_bad hc (by unfold lnkB; simp; omega)]; rfl, rfl⟩
        · have ht2 : decide (f.links[i].b < 0) = false := decide_eq_false t2
          by_cases t3 : f.links[i].b ≥ f.sw
          · have ht3 : decide (f.links[i].b ≥ f.sw) = true := decide_eq_true t3
            repeat (refine W.seq ?_)
            refine W.region 27 66 (by decide) rfl rfl ?_
            refine RW.opd rfl rfl (LO.fieldAddr rfl rfl ty56 rfl (by decide)) ?_
            refine RW.opd rfl rfl (LO.load rfl rfl rfl rfl ty3 rfl) ?_
            refine RW.opd rfl rfl (LO.lss rfl rfl rfl) ?_
            refine RW.opd rfl rfl (LO.move rfl rfl) ?_
            refine RW.gd rfl rfl rfl ?_ rfl (LO.fieldAddr rfl rfl ty56 rfl (by decide)) ?_; (· (first | rfl | assumption))
            refine RW.gd rfl rfl rfl ?_ rfl (LO.load rfl rfl rfl rfl ty3 rfl) ?_; (· (first | rfl | assumption))
            refine RW.gd rfl rfl rfl ?_ rfl (LO.fieldAddr rfl rfl ty28 rfl (by decide)) ?_; (· (first | rfl | assumption))
            refine RW.gd rfl rfl rfl ?_ rfl (LO.load rfl rfl rfl rfl ty3 rfl) ?_; (· (first | rfl | assumption))
            refine RW.gd rfl rfl rfl ?_ rfl (LO.geq rfl rfl rfl) ?_; (· (first | rfl | assumption))
            refine RW.opd rfl rfl (LO.pick_f rfl rfl ?_ rfl) ?_; (· (first | rfl | assumption))
            refine RW.opd rfl rfl (LO.move rfl rfl) ?_
            refine RW.gd rfl rfl rfl ?_ rfl (LO.fieldAddr rfl rfl ty56 rfl (by decide)) ?_; (· (first | rfl | assumption))
            refine RW.gd rfl rfl rfl ?_ rfl (LO.load rfl rfl rfl rfl ty3 rfl) ?_; (· (first | rfl | assumption))
            refine RW.gd rfl rfl rfl ?_ rfl (LO.lss rfl rfl rfl) ?_; (· (first | rfl | assumption))
            refine RW.opd rfl rfl (LO.pick_f rfl rfl ?_ rfl) ?_; (· (first | rfl | assumption))
            refine RW.opd rfl rfl (LO.move rfl rfl) ?_
            refine RW.gd rfl rfl rfl ?_ rfl (LO.fieldAddr rfl rfl ty56 rfl (by decide)) ?_; (· (first | rfl | assumption))
            refine RW.gd rfl rfl rfl ?_ rfl (LO.load rfl rfl rfl rfl ty3 rfl) ?_; (· (first | rfl | assumption))
            refine RW.gd rfl rfl rfl ?_ rfl (LO.fieldAddr rfl rfl ty28 rfl (by decide)) ?_; (· (first | rfl | assumption))
            refine RW.gd rfl rfl rfl ?_ rfl (LO.load rfl rfl rfl rfl ty3 rfl) ?_; (· (first | rfl | assumption))
            refine RW.gd rfl rfl rfl ?_ rfl (LO.geq rfl rfl rfl) ?_; (· (first | rfl | assumption))
            refine RW.opd rfl rfl (LO.pick_f rfl rfl ?_ rfl) ?_; (· (first | rfl | assumption))
            refine RW.opd rfl rfl (LO.move rfl rfl) ?_
            refine RW.sd rfl rfl rfl ?_ rfl ?_; (· (first | rfl | assumption))
            refine RW.sd rfl rfl rfl ?_ rfl ?_; (· (first | rfl | assumption))
            refine RW.sd rfl rfl rfl ?_ rfl ?_; (· (first | rfl | assumption))
            refine RW.sd rfl rfl rfl ?_ rfl ?_; (· (first | rfl | assumption))
            refine RW.sd rfl rfl rfl ?_ rfl ?_; (· (first | rfl | assumption))
            refine RW.opd rfl rfl (LO.pick_t rfl rfl ?_ rfl) ?_; (· (first | rfl | assumption))
            refine RW.opd rfl rfl (LO.move rfl rfl) ?_
            refine RW.sd rfl rfl rfl ?_ rfl ?_; (· (first | rfl | assumption))
            refine RW.sd rfl rfl rfl ?_ rfl ?_; (· (first | rfl | assumption))
            refine RW.sd rfl rfl rfl ?_ rfl ?_; (· (first | rfl | assumption))
            refine RW.opd rfl rfl (LO.pick_t rfl rfl ?_ rfl) ?_; (· (first | rfl | assumption))
            refine RW.opd rfl rfl (LO.move rfl rfl) ?_
            refine RW.sd rfl rfl rfl ?_ rfl ?_; (· (first | rfl | assumption))
            refine RW.sd rfl rfl rfl ?_ rfl ?_; (· (first | rfl | assumption))
            refine RW.sd rfl rfl rfl ?_ rfl ?_; (· (first | rfl | assumption))
            refine RW.opd rfl rfl (LO.pick_t rfl rfl ?_ rfl) ?_; (· (first | rfl | assumption))
            refine RW.nil ?_
            repeat (refine W.seq ?_)
            refine W.cond_t rfl (by first | rfl | assumption) ?_
            repeat (refine W.seq ?_)
            refine W.region 70 71 (by decide) rfl rfl ?_
            refine RW.opd rfl rfl (LO.assign rfl rfl) ?_
            refine RW.nil ?_
            repeat (refine W.seq ?_)
            refine W.ret ⟨.inl rfl, _, mt, RVs.cons (RV.tmp rfl) (RVs.nil), all_mt, ?_⟩
            exact ⟨by rw [validB_bad hc (by unfold lnkB; simp; omega)]; rfl, rfl⟩
          · have ht3 : decide (f.links[i].b ≥ f.sw) = false := decide_eq_false t3
            by_cases t4 : f.links[i].a = f.links[i].b
            · have ht4 : (f.links[i].a == f.links[i].b) = true := by simpa using t4
              repeat (refine W.seq ?_)
              refine W.region 27 66 (by decide) rfl rfl ?_
              refine RW.opd rfl rfl (LO.fieldAddr rfl rfl ty56 rfl (by decide)) ?_
              refine RW.opd rfl rfl (LO.load rfl rfl rfl rfl ty3 rfl) ?_
              refine RW.opd rfl rfl (LO.lss rfl rfl rfl) ?_
              refine RW.opd rfl rfl (LO.move rfl rfl) ?_
              refine RW.gd rfl rfl rfl ?_ rfl (LO.fieldAddr rfl rfl ty56 rfl (by decide)) ?_; (· (first | rfl | assumption))
              refine RW.gd rfl rfl rfl ?_ rfl (LO.load rfl rfl rfl rfl ty3 rfl) ?_; (· (first | rfl | assumption))
              refine RW.gd rfl rfl rfl ?_ rfl (LO.fieldAddr rfl rfl ty28 rfl (by decide)) ?_; (· (first | rfl | assumption))
              refine RW.gd rfl rfl rfl ?_ rfl (LO.load rfl rfl rfl rfl ty3 rfl) ?_; (· (first | rfl | assumption))
              refine RW.gd rfl rfl rfl ?_ rfl (LO.geq rfl rfl rfl) ?_; (· (first | rfl | assumption))
              refine RW.opd rfl rfl (LO.pick_f rfl rfl ?_ rfl) ?_; (· (first | rfl | assumption))
              refine RW.opd rfl rfl (LO.move rfl rfl) ?_
              refine RW.gd rfl rfl rfl ?_ rfl (LO.fieldAddr rfl rfl ty56 rfl (by decide)) ?_; (· (first | rfl | assumption))
              refine RW.gd rfl rfl rfl ?_ rfl (LO.load rfl rfl rfl rfl ty3 rfl) ?_; (· (first | rfl | assumption))
              refine RW.gd rfl rfl rfl ?_ rfl (LO.lss rfl rfl rfl) ?_; (· (first | rfl | assumption))
              refine RW.opd rfl rfl (LO.pick_f rfl rfl ?_ rfl) ?_; (· (first | rfl | assumption))
              refine RW.opd rfl rfl (LO.move rfl rfl) ?_
              refine RW.gd rfl rfl rfl ?_ rfl (LO.fieldAddr rfl rfl ty56 rfl (by decide)) ?_; (· (first | rfl | assumption))
              refine RW.gd rfl rfl rfl ?_ rfl (LO.load rfl rfl rfl rfl ty3 rfl) ?_; (· (first | rfl | assumption))
              refine RW.gd rfl rfl rfl ?_ rfl (LO.fieldAddr rfl rfl ty28 rfl (by decide)) ?_; (· (first | rfl | assumption))
              refine RW.gd rfl rfl rfl ?_ rfl (LO.load rfl rfl rfl rfl ty3 rfl) ?_; (· (first | rfl | assumption))
              refine RW.gd rfl rfl rfl ?_ rfl (LO.geq rfl rfl rfl) ?_; (· (first | rfl | assumption))
              refine RW.opd rfl rfl (LO.pick_f rfl rfl ?_ rfl) ?_; (· (first | rfl | assumption))
              refine RW.opd rfl rfl (LO.move rfl rfl) ?_
              refine RW.gd rfl rfl rfl ?_ rfl (LO.fieldAddr rfl rfl ty56 rfl (by decide)) ?_; (· (first | rfl | assumption))
              refine RW.gd rfl rfl rfl ?_ rfl (LO.load rfl rfl rfl rfl ty3 rfl) ?_; (· (first | rfl | assumption))
              refine RW.gd rfl rfl rfl ?_ rfl (LO.fieldAddr rfl rfl ty56 rfl (by decide)) ?_; (· (first | rfl | assumption))
              refine RW.gd rfl rfl rfl ?_ rfl (LO.load rfl rfl rfl rfl ty3 rfl) ?_; (· (first | rfl | assumption))
              refine RW.gd rfl rfl rfl ?_ rfl (LO.eql rfl rfl rfl) ?_; (· (first | rfl | assumption))
              refine RW.opd rfl rfl (LO.pick_f rfl rfl ?_ rfl) ?_; (· (first | rfl | assumption))
              refine RW.opd rfl rfl (LO.move rfl rfl) ?_
              refine RW.sd rfl rfl rfl ?_ rfl ?_; (· (first | rfl | assumption))
              refine RW.sd rfl rfl rfl ?_ rfl ?_; (· (first | rfl | assumption))
              refine RW.sd rfl rfl rfl ?_ rfl ?_; (· (first | rfl | assumption))
              refine RW.opd rfl rfl (LO.pick_t rfl rfl ?_ rfl) ?_; (· (first | rfl | assumption))
              refine RW.opd rfl rfl (LO.move rfl rfl) ?_
              refine RW.sd rfl rfl rfl ?_ rfl ?_; (· (first | rfl | assumption))
              refine RW.sd rfl rfl rfl ?_ rfl ?_; (· (first | rfl | assumption))
              refine RW.sd rfl rfl rfl ?_ rfl ?_; (· (first | rfl | assumption))
              refine RW.opd rfl rfl (LO.pick_t rfl rfl ?_ rfl) ?_; (· (first | rfl | assumption))
              refine RW.nil ?_
              repeat (refine W.seq ?_)
              refine W.cond_t rfl (by first | rfl | assumption) ?_
              repeat (refine W.seq ?_)
              refine W.region 70 71 (by decide) rfl rfl ?_
              refine RW.opd rfl rfl (LO.assign rfl rfl) ?_
              refine RW.nil ?_
              repeat (refine W.seq ?_)
              refine W.ret ⟨.inl rfl, _, mt, RVs.cons (RV.tmp rfl) (RVs.nil), all_mt, ?_⟩
              exact ⟨by rw [validB_bad hc (by unfold lnkB; simp; omega)]; rfl, rfl⟩
            · have ht4 : (f.links[i].a == f.links[i].b) = false := by simpa using t4
              by_cases t5 : f.links[i].c < 1
              · have ht5 : decide (f.links[i].c < 1) = true := decide_eq_true t5
                repeat (refine W.seq ?_)
                refine W.region 27 66 (by decide) rfl rfl ?_
                refine RW.opd rfl rfl (LO.fieldAddr rfl rfl ty56 rfl (by decide)) ?_
                refine RW.opd rfl rfl (LO.load rfl rfl rfl rfl ty3 rfl) ?_
                refine RW.opd rfl rfl (LO.lss rfl rfl rfl) ?_
                refine RW.opd rfl rfl (LO.move rfl rfl) ?_
                refine RW.gd rfl rfl rfl ?_ rfl (LO.fieldAddr rfl rfl ty56 rfl (by decide)) ?_; (· (first | rfl | assumption))
                refine RW.gd rfl rfl rfl ?_ rfl (LO.load rfl rfl rfl rfl ty3 rfl) ?_; (· (first | rfl | assumption))
                refine RW.gd rfl rfl rfl ?_ rfl (LO.fieldAddr rfl rfl ty28 rfl (by decide)) ?_; (· (first | rfl | assumption))
                refine RW.gd rfl rfl rfl ?_ rfl (LO.load rfl rfl rfl rfl ty3 rfl) ?_; (· (first | rfl | assumption))
                refine RW.gd rfl rfl rfl ?_ rfl (LO.geq rfl rfl rfl) ?_; (· (first | rfl | assumption))
                refine RW.opd rfl rfl (LO.pick_f rfl rfl ?_ rfl) ?_; (· (first | rfl | assumption))
                refine RW.opd rfl rfl (LO.move rfl rfl) ?_
                refine RW.gd rfl rfl rfl ?_ rfl (LO.fieldAddr rfl rfl ty56 rfl (by decide)) ?_; (· (first | rfl | assumption))
                refine RW.gd rfl rfl rfl ?_ rfl (LO.load rfl rfl rfl rfl ty3 rfl) ?_; (· (first | rfl | assumption))
                refine RW.gd rfl rfl rfl ?_ rfl (LO.lss rfl rfl rfl) ?_; (· (first | rfl | assumption))
                refine RW.opd rfl rfl (LO.pick_f rfl rfl ?_ rfl) ?_; (· (first | rfl | assumption))
                refine RW.opd rfl rfl (LO.move rfl rfl) ?_
                refine RW.gd rfl rfl rfl ?_ rfl (LO.fieldAddr rfl rfl ty56 rfl (by decide)) ?_; (· (first | rfl | assumption))
                refine RW.gd rfl rfl rfl ?_ rfl (LO.load rfl rfl rfl rfl ty3 rfl) ?_; (· (first | rfl | assumption))
                refine RW.gd rfl rfl rfl ?_ rfl (LO.fieldAddr rfl rfl ty28 rfl (by decide)) ?_; (· (first | rfl | assumption))
                refine RW.gd rfl rfl rfl ?_ rfl (LO.load rfl rfl rfl rfl ty3 rfl) ?_; (· (first | rfl | assumption))
                refine RW.gd rfl rfl rfl ?_ rfl (LO.geq rfl rfl rfl) ?_; (· (first | rfl | assumption))
                refine RW.opd rfl rfl (LO.pick_f rfl rfl ?_ rfl) ?_; (· (first | rfl | assumption))
                refine RW.opd rfl rfl (LO.move rfl rfl) ?_
                refine RW.gd rfl rfl rfl ?_ rfl (LO.fieldAddr rfl rfl ty56 rfl (by decide)) ?_; (· (first | rfl | assumption))
                refine RW.gd rfl rfl rfl ?_ rfl (LO.load rfl rfl rfl rfl ty3 rfl) ?_; (· (first | rfl | assumption))
                refine RW.gd rfl rfl rfl ?_ rfl (LO.fieldAddr rfl rfl ty56 rfl (by decide)) ?_; (· (first | rfl | assumption))
                refine RW.gd rfl rfl rfl ?_ rfl (LO.load rfl rfl rfl rfl ty3 rfl) ?_; (· (first | rfl | assumption))
                refine RW.gd rfl rfl rfl ?_ rfl (LO.eql rfl rfl rfl) ?_; (· (first | rfl | assumption))
                refine RW.opd rfl rfl (LO.pick_f rfl rfl ?_ rfl) ?_; (· (first | rfl | assumption))
                refine RW.opd rfl rfl (LO.move rfl rfl) ?_
                refine RW.gd rfl rfl rfl ?_ rfl (LO.fieldAddr rfl rfl ty56 rfl (by decide)) ?_; (· (first | rfl | assumption))
                refine RW.gd rfl rfl rfl ?_ rfl (LO.load rfl rfl rfl rfl ty3 rfl) ?_; (· (first | rfl | assumption))
                refine RW.gd rfl rfl rfl ?_ rfl (LO.lss rfl rfl rfl) ?_; (· (first | rfl | assumption))
                refine RW.opd rfl rfl (LO.pick_f rfl rfl ?_ rfl) ?_; (· (first | rfl | assumption))
                refine RW.opd rfl rfl (LO.move rfl rfl) ?_
                refine RW.sd rfl rfl rfl ?_ rfl ?_; (· (first | rfl | assumption))
                refine RW.sd rfl rfl rfl ?_ rfl ?_; (· (first | rfl | assumption))
                refine RW.sd rfl rfl rfl ?_ rfl ?_; (· (first | rfl | assumption))
                refine RW.opd rfl rfl (LO.pick_t rfl rfl ?_ rfl) ?_; (· (first | rfl | assumption))
                refine RW.nil ?_
                repeat (refine W.seq ?_)
                refine W.cond_t rfl (by first | rfl | assumption) ?_
                repeat (refine W.seq ?_)
                refine W.region 70 71 (by decide) rfl rfl ?_
                refine RW.opd rfl rfl (LO.assign rfl rfl) ?_
                refine RW.nil ?_
                repeat (refine W.seq ?_)
                refine W.ret ⟨.inl rfl, _, mt, RVs.cons (RV.tmp rfl) (RVs.nil), all_mt, ?_⟩
                exact ⟨by rw [validB_bad hc (by unfold lnkB; simp; omega)]; rfl, rfl⟩
              · have ht5 : decide (f.links[i].c < 1) = false := decide_eq_false t5
                by_cases t6 : f.links[i].c > 1048576
                · have ht6 : decide (f.links[i].c > 1048576) = true := decide_eq_true t6
                  repeat (refine W.seq ?_)
                  refine W.region 27 66 (by decide) rfl rfl ?_
                  refine RW.opd rfl rfl (LO.fieldAddr rfl rfl ty56 rfl (by decide)) ?_
                  refine RW.opd rfl rfl (LO.load rfl rfl rfl rfl ty3 rfl) ?_
                  refine RW.opd rfl rfl (LO.lss rfl rfl rfl) ?_
                  refine RW.opd rfl rfl (LO.move rfl rfl) ?_
                  refine RW.gd rfl rfl rfl ?_ rfl (LO.fieldAddr rfl rfl ty56 rfl (by decide)) ?_; (· (first | rfl | assumption))
                  refine RW.gd rfl rfl rfl ?_ rfl (LO.load rfl rfl rfl rfl ty3 rfl) ?_; (· (first | rfl | assumption))
                  refine RW.gd rfl rfl rfl ?_ rfl (LO.fieldAddr rfl rfl ty28 rfl (by decide)) ?_; (· (first | rfl | assumption))
                  refine RW.gd rfl rfl rfl ?_ rfl (LO.load rfl rfl rfl rfl ty3 rfl) ?_; (· (first | rfl | assumption))
                  refine RW.gd rfl rfl rfl ?_ rfl (LO.geq rfl rfl rfl) ?_; (· (first | rfl | assumption))
                  refine RW.opd rfl rfl (LO.pick_f rfl rfl ?_ rfl) ?_; (· (first | rfl | assumption))
                  refine RW.opd rfl rfl (LO.move rfl rfl) ?_
                  refine RW.gd rfl rfl rfl ?_ rfl (LO.fieldAddr rfl rfl ty56 rfl (by decide)) ?_; (· (first | rfl | assumption))
                  refine RW.gd rfl rfl rfl ?_ rfl (LO.load rfl rfl rfl rfl ty3 rfl) ?_; (· (first | rfl | assumption))
                  refine RW.gd rfl rfl rfl ?_ rfl (LO.lss rfl rfl rfl) ?_; (· (first | rfl | assumption))
                  refine RW.opd rfl rfl (LO.pick_f rfl rfl ?_ rfl) ?_; (· (first | rfl | assumption))
                  refine RW.opd rfl rfl (LO.move rfl rfl) ?_
                  refine RW.gd rfl rfl rfl ?_ rfl (LO.fieldAddr rfl rfl ty56 rfl (by decide)) ?_; (· (first | rfl | assumption))
                  refine RW.gd rfl rfl rfl ?_ rfl (LO.load rfl rfl rfl rfl ty3 rfl) ?_; (· (first | rfl | assumption))
                  refine RW.gd rfl rfl rfl ?_ rfl (LO.fieldAddr rfl rfl ty28 rfl (by decide)) ?_; (· (first | rfl | assumption))
                  refine RW.gd rfl rfl rfl ?_ rfl (LO.load rfl rfl rfl rfl ty3 rfl) ?_; (· (first | rfl | assumption))
                  refine RW.gd rfl rfl rfl ?_ rfl (LO.geq rfl rfl rfl) ?_; (· (first | rfl | assumption))
                  refine RW.opd rfl rfl (LO.pick_f rfl rfl ?_ rfl) ?_; (· (first | rfl | assumption))
                  refine RW.opd rfl rfl (LO.move rfl rfl) ?_
                  refine RW.gd rfl rfl rfl ?_ rfl (LO.fieldAddr rfl rfl ty56 rfl (by decide)) ?_; (· (first | rfl | assumption))
                  refine RW.gd rfl rfl rfl ?_ rfl (LO.load rfl rfl rfl rfl ty3 rfl) ?_; (· (first | rfl | assumption))
                  refine RW.gd rfl rfl rfl ?_ rfl (LO.fieldAddr rfl rfl ty56 rfl (by decide)) ?_; (· (first | rfl | assumption))
                  refine RW.gd rfl rfl rfl ?_ rfl (LO.load rfl rfl rfl rfl ty3 rfl) ?_; (· (first | rfl | assumption))
                  refine RW.gd rfl rfl rfl ?_ rfl (LO.eql rfl rfl rfl) ?_; (· (first | rfl | assumption))
                  refine RW.opd rfl rfl (LO.pick_f rfl rfl ?_ rfl) ?_; (· (first | rfl | assumption))
                  refine RW.opd rfl rfl (LO.move rfl rfl) ?_
                  refine RW.gd rfl rfl rfl ?_ rfl (LO.fieldAddr rfl rfl ty56 rfl (by decide)) ?_; (· (first | rfl | assumption))
                  refine RW.gd rfl rfl rfl ?_ rfl (LO.load rfl rfl rfl rfl ty3 rfl) ?_; (· (first | rfl | assumption))
                  refine RW.gd rfl rfl rfl ?_ rfl (LO.lss rfl rfl rfl) ?_; (· (first | rfl | assumption))
                  refine RW.opd rfl rfl (LO.pick_f rfl rfl ?_ rfl) ?_; (· (first | rfl | assumption))
                  refine RW.opd rfl rfl (LO.move rfl rfl) ?_
                  refine RW.gd rfl rfl rfl ?_ rfl (LO.fieldAddr rfl rfl ty56 rfl (by decide)) ?_; (· (first | rfl | assumption))
                  refine RW.gd rfl rfl rfl ?_ rfl (LO.load rfl rfl rfl rfl ty3 rfl) ?_; (· (first | rfl | assumption))
                  refine RW.gd rfl rfl rfl ?_ rfl (LO.gtr rfl rfl rfl) ?_; (· (first | rfl | assumption))
                  refine RW.opd rfl rfl (LO.pick_f rfl rfl ?_ rfl) ?_; (· (first | rfl | assumption))
                  refine RW.nil ?_
                  repeat (refine W.seq ?_)
                  refine W.cond_t rfl (by first | rfl | assumption) ?_
                  repeat (refine W.seq ?_)
                  refine W.region 70 71 (by decide) rfl rfl ?_
                  refine RW.opd rfl rfl (LO.assign rfl rfl) ?_
                  refine RW.nil ?_
                  repeat (refine W.seq ?_)
                  refine W.ret ⟨.inl rfl, _, mt, RVs.cons (RV.tmp rfl) (RVs.nil), all_mt, ?_⟩
                  exact ⟨by rw [validB_bad hc (by unfold lnkB; simp; omega)]; rfl, rfl⟩
                · have ht6 : decide (f.links[i].c > 1048576) = false := decide_eq_false t6
                  repeat (refine W.seq ?_)
                  refine W.region 27 66 (by decide) rfl rfl ?_
                  refine RW.opd rfl rfl (LO.fieldAddr rfl rfl ty56 rfl (by decide)) ?_
                  refine RW.opd rfl rfl (LO.load rfl rfl rfl rfl ty3 rfl) ?_
                  refine RW.opd rfl rfl (LO.lss rfl rfl rfl) ?_
                  refine RW.opd rfl rfl (LO.move rfl rfl) ?_
                  refine RW.gd rfl rfl rfl ?_ rfl (LO.fieldAddr rfl rfl ty56 rfl (by decide)) ?_; (· (first | rfl | assumption))
                  refine RW.gd rfl rfl rfl ?_ rfl (LO.load rfl rfl rfl rfl ty3 rfl) ?_; (· (first | rfl | assumption))
                  refine RW.gd rfl rfl rfl ?_ rfl (LO.fieldAddr rfl rfl ty28 rfl (by decide)) ?_; (· (first | rfl | assumption))
                  refine RW.gd rfl rfl rfl ?_ rfl (LO.load rfl rfl rfl rfl ty3 rfl) ?_; (· (first | rfl | assumption))
                  refine RW.gd rfl rfl rfl ?_ rfl (LO.geq rfl rfl rfl) ?_; (· (first | rfl | assumption))
                  refine RW.opd rfl rfl (LO.pick_f rfl rfl ?_ rfl) ?_; (· (first | rfl | assumption))
                  refine RW.opd rfl rfl (LO.move rfl rfl) ?_
                  refine RW.gd rfl rfl rfl ?_ rfl (LO.fieldAddr rfl rfl ty56 rfl (by decide)) ?_; (· (first | rfl | assumption))
                  refine RW.gd rfl rfl rfl ?_ rfl (LO.load rfl rfl rfl rfl ty3 rfl) ?_; (· (first | rfl | assumption))
                  refine RW.gd rfl rfl rfl ?_ rfl (LO.lss rfl rfl rfl) ?_; (· (first | rfl | assumption))
                  refine RW.opd rfl rfl (LO.pick_f rfl rfl ?_ rfl) ?_; (· (first | rfl | assumption))
                  refine RW.opd rfl rfl (LO.move rfl rfl) ?_
                  refine RW.gd rfl rfl rfl ?_ rfl (LO.fieldAddr rfl rfl ty56 rfl (by decide)) ?_; (· (first | rfl | assumption))
                  refine RW.gd rfl rfl rfl ?_ rfl (LO.load rfl rfl rfl rfl ty3 rfl) ?_; (· (first | rfl | assumption))
                  refine RW.gd rfl rfl rfl ?_ rfl (LO.fieldAddr rfl rfl ty28 rfl (by decide)) ?_; (· (first | rfl | assumption))
                  refine RW.gd rfl rfl rfl ?_ rfl (LO.load rfl rfl rfl rfl ty3 rfl) ?_; (· (first | rfl | assumption))
                  refine RW.gd rfl rfl rfl ?_ rfl (LO.geq rfl rfl rfl) ?_; (· (first | rfl | assumption))
                  refine RW.opd rfl rfl (LO.pick_f rfl rfl ?_ rfl) ?_; (· (first | rfl | assumption))
                  refine RW.opd rfl rfl (LO.move rfl rfl) ?_
                  refine RW.gd rfl rfl rfl ?_ rfl (LO.fieldAddr rfl rfl ty56 rfl (by decide)) ?_; (· (first | rfl | assumption))
                  refine RW.gd rfl rfl rfl ?_ rfl (LO.load rfl rfl rfl rfl ty3 rfl) ?_; (· (first | rfl | assumption))
                  refine RW.gd rfl rfl rfl ?_ rfl (LO.fieldAddr rfl rfl ty56 rfl (by decide)) ?_; (· (first | rfl | assumption))
                  refine RW.gd rfl rfl rfl ?_ rfl (LO.load rfl rfl rfl rfl ty3 rfl) ?_; (· (first | rfl | assumption))
                  refine RW.gd rfl rfl rfl ?_ rfl (LO.eql rfl rfl rfl) ?_; (· (first | rfl | assumption))
                  refine RW.opd rfl rfl (LO.pick_f rfl rfl ?_ rfl) ?_; (· (first | rfl | assumption))
                  refine RW.opd rfl rfl (LO.move rfl rfl) ?_
                  refine RW.gd rfl rfl rfl ?_ rfl (LO.fieldAddr rfl rfl ty56 rfl (by decide)) ?_; (· (first | rfl | assumption))
                  refine RW.gd rfl rfl rfl ?_ rfl (LO.load rfl rfl rfl rfl ty3 rfl) ?_; (· (first | rfl | assumption))
                  refine RW.gd rfl rfl rfl ?_ rfl (LO.lss rfl rfl rfl) ?_; (· (first | rfl | assumption))
                  refine RW.opd rfl rfl (LO.pick_f rfl rfl ?_ rfl) ?_; (· (first | rfl | assumption))
                  refine RW.opd rfl rfl (LO.move rfl rfl) ?_
                  refine RW.gd rfl rfl rfl ?_ rfl (LO.fieldAddr rfl rfl ty56 rfl (by decide)) ?_; (· (first | rfl | assumption))
                  refine RW.gd rfl rfl rfl ?_ rfl (LO.load rfl rfl rfl rfl ty3 rfl) ?_; (· (first | rfl | assumption))
                  refine RW.gd rfl rfl rfl ?_ rfl (LO.gtr rfl rfl rfl) ?_; (· (first | rfl | assumption))
                  refine RW.opd rfl rfl (LO.pick_f rfl rfl ?_ rfl) ?_; (· (first | rfl | assumption))
                  refine RW.nil ?_
                  repeat (refine W.seq ?_)
                  refine W.cond_f rfl (by first | rfl | assumption) ?_
                  refine W.skip ?_
                  repeat (refine W.seq ?_)
                  refine W.region 75 77 (by decide) rfl rfl ?_
                  refine RW.opd rfl rfl (LO.add_in rfl rfl rfl ?_) ?_; (· (first | exact IntWalk.i64_in _ (by omega) | assumption))
                  refine RW.opd rfl rfl (LO.move rfl rfl) ?_
                  refine RW.nil ?_
                  refine WL.rename [(0, 0)] 1 (by decide) ?_ ?_ (ihA (i + 1) (show f.links.length - (i + 1) < f.links.length - i from by omega) (show (i + 1) ≤ f.links.length ∧ (f.links.take (i + 1)).all (lnkB f) = true from ⟨by omega, by rw [all_take_succ _ hc, hall]; unfold lnkB; simp; omega⟩))
                  · (repeat' (first | exact all_mt | refine all_up ?_ ?_)) <;> first | exact .inl ⟨rfl, rfl⟩ | exact .inr ⟨rfl, fun _ h => by cases h⟩ | exact .inl ⟨rfl, by first | rfl | assumption ⟩
                  · (repeat' (first | exact all_mt | refine all_up ?_ ?_)) <;> first | exact ⟨rfl, _, rfl, .inr ⟨rfl, rfl⟩⟩ | exact ⟨rfl, _, rfl, .inl rfl⟩ | exact ⟨rfl, _, rfl, .inr ⟨rfl, by first | rfl | assumption ⟩⟩
  · have g1 : decide ((i : Int) < (f.links.length : Int)) = false := decide_eq_false (by omega)
    repeat (refine W.seq ?_)
    refine W.region 14 15 (by decide) rfl rfl ?_
    refine RW.opd rfl rfl (LO.lss rfl rfl rfl) ?_
    refine RW.nil ?_
    repeat (refine W.seq ?_)
    refine W.cond_f rfl (by first | rfl | assumption) ?_
    refine W.exit ?_
    obtain rfl : i = f.links.length := by omega
    by_cases s0 : f.sw ≥ 1
    · have hs0 : decide (f.sw ≥ 1) = true := decide_eq_true s0
      by_cases s1 : f.sw ≤ 8
      · have hs1 : decide (f.sw ≤ 8) = true := decide_eq_true s1
        by_cases s2 : (f.links.length : Int) ≤ 24
        · have hs2 : decide ((f.links.length : Int) ≤ 24) = true := decide_eq_true s2
          by_cases s3 : (f.down.length : Int) = f.links.length
          · have hs3 : ((f.down.length : Int) == (f.links.length : Int)) = true := by simpa using s3
            by_cases s4 : (f.dead.length : Int) = f.sw
            · have hs4 : ((f.dead.length : Int) == f.sw) = true := by simpa using s4
              repeat (refine W.seq ?_)
              refine W.region 81 113 (by decide) rfl rfl ?_
              refine RW.opd rfl rfl (LO.fieldAddr rfl rfl ty28 rfl (by decide)) ?_
              refine RW.opd rfl rfl (LO.load rfl rfl rfl rfl ty3 rfl) ?_
              refine RW.opd rfl rfl (LO.geq rfl rfl rfl) ?_
              refine RW.opd rfl rfl (LO.move rfl rfl) ?_
              refine RW.gd rfl rfl rfl ?_ rfl (LO.fieldAddr rfl rfl ty28 rfl (by decide)) ?_; (· (first | rfl | assumption))
              refine RW.gd rfl rfl rfl ?_ rfl (LO.load rfl rfl rfl rfl ty3 rfl) ?_; (· (first | rfl | assumption))
              refine RW.gd rfl rfl rfl ?_ rfl (LO.leq rfl rfl rfl) ?_; (· (first | rfl | assumption))
              refine RW.opd rfl rfl (LO.pick_t rfl rfl ?_ rfl) ?_; (· (first | rfl | assumption))
              refine RW.opd rfl rfl (LO.move rfl rfl) ?_
              refine RW.gd rfl rfl rfl ?_ rfl (LO.fieldAddr rfl rfl ty28 rfl (by decide)) ?_; (· (first | rfl | assumption))
              refine RW.gd rfl rfl rfl ?_ rfl (LO.load rfl rfl rfl rfl ty25 rfl) ?_; (· (first | rfl | assumption))
              refine RW.gd rfl rfl rfl ?_ rfl (LO.len_isl rfl rfl rfl ty25) ?_; (· (first | rfl | assumption))
              refine RW.gd rfl rfl rfl ?_ rfl (LO.leq rfl rfl rfl) ?_; (· (first | rfl | assumption))
              refine RW.opd rfl rfl (LO.pick_t rfl rfl ?_ rfl) ?_; (· (first | rfl | assumption))
              refine RW.opd rfl rfl (LO.move rfl rfl) ?_
              refine RW.gd rfl rfl rfl ?_ rfl (LO.fieldAddr rfl rfl ty28 rfl (by decide)) ?_; (· (first | rfl | assumption))
              refine RW.gd rfl rfl rfl ?_ rfl (LO.load rfl rfl rfl rfl ty26 rfl) ?_; (· (first | rfl | assumption))
              refine RW.gd rfl rfl rfl ?_ rfl (LO.len_isl rfl rfl rfl ty26) ?_; (· (first | rfl | assumption))
              refine RW.gd rfl rfl rfl ?_ rfl (LO.fieldAddr rfl rfl ty28 rfl (by decide)) ?_; (· (first | rfl | assumption))
              refine RW.gd rfl rfl rfl ?_ rfl (LO.load rfl rfl rfl rfl ty25 rfl) ?_; (· (first | rfl | assumption))
              refine RW.gd rfl rfl rfl ?_ rfl (LO.len_isl rfl rfl rfl ty25) ?_; (· (first | rfl | assumption))
              refine RW.gd rfl rfl rfl ?_ rfl (LO.eql rfl rfl rfl) ?_; (· (first | rfl | assumption))
              refine RW.opd rfl rfl (LO.pick_t rfl rfl ?_ rfl) ?_; (· (first | rfl | assumption))
              refine RW.opd rfl rfl (LO.move rfl rfl) ?_
              refine RW.gd rfl rfl rfl ?_ rfl (LO.fieldAddr rfl rfl ty28 rfl (by decide)) ?_; (· (first | rfl | assumption))
              refine RW.gd rfl rfl rfl ?_ rfl (LO.load rfl rfl rfl rfl ty26 rfl) ?_; (· (first | rfl | assumption))
              refine RW.gd rfl rfl rfl ?_ rfl (LO.len_isl rfl rfl rfl ty26) ?_; (· (first | rfl | assumption))
              refine RW.gd rfl rfl rfl ?_ rfl (LO.fieldAddr rfl rfl ty28 rfl (by decide)) ?_; (· (first | rfl | assumption))
              refine RW.gd rfl rfl rfl ?_ rfl (LO.load rfl rfl rfl rfl ty3 rfl) ?_; (· (first | rfl | assumption))
              refine RW.gd rfl rfl rfl ?_ rfl (LO.eql rfl rfl rfl) ?_; (· (first | rfl | assumption))
              refine RW.opd rfl rfl (LO.pick_t rfl rfl ?_ rfl) ?_; (· (first | rfl | assumption))
              refine RW.opd rfl rfl (LO.assign rfl rfl) ?_
              refine RW.nil ?_
              repeat (refine W.seq ?_)
              refine W.ret ⟨.inl rfl, _, mt, RVs.cons (RV.tmp rfl) (RVs.nil), all_mt, ?_⟩
              have hval : sizeB f = true := by unfold sizeB; simp; omega
              exact ⟨by rw [validB_all hall, hval]; first | rfl | (show AV.base (.bool _) = _; rw [hs4]), rfl⟩
            · have hs4 : ((f.dead.length : Int) == f.sw) = false := by simpa using s4
              repeat (refine W.seq ?_)
              refine W.region 81 113 (by decide) rfl rfl ?_
              refine RW.opd rfl rfl (LO.fieldAddr rfl rfl ty28 rfl (by decide)) ?_
              refine RW.opd rfl rfl (LO.load rfl rfl rfl rfl ty3 rfl) ?_
              refine RW.opd rfl rfl (LO.geq rfl rfl rfl) ?_
              refine RW.opd rfl rfl (LO.move rfl rfl) ?_
              refine RW.gd rfl rfl rfl ?_ rfl (LO.fieldAddr rfl rfl ty28 rfl (by decide)) ?_; (· (first | rfl | assumption))
              refine RW.gd rfl rfl rfl ?_ rfl (LO.load rfl rfl rfl rfl ty3 rfl) ?_; (· (first | rfl | assumption))
              refine RW.gd rfl rfl rfl ?_ rfl (LO.leq rfl rfl rfl) ?_; (· (first | rfl | assumption))
              refine RW.opd rfl rfl (LO.pick_t rfl rfl ?_ rfl) ?_; (· (first | rfl | assumption))
              refine RW.opd rfl rfl (LO.move rfl rfl) ?_
              refine RW.gd rfl rfl rfl ?_ rfl (LO.fieldAddr rfl rfl ty28 rfl (by decide)) ?_; (· (first | rfl | assumption))
              refine RW.gd rfl rfl rfl ?_ rfl (LO.load rfl rfl rfl rfl ty25 rfl) ?_; (· (first | rfl | assumption))
              refine RW.gd rfl rfl rfl ?_ rfl (LO.len_isl rfl rfl rfl ty25) ?_; (· (first | rfl | assumption))
              refine RW.gd rfl rfl rfl ?_ rfl (LO.leq rfl rfl rfl) ?_; (· (first | rfl | assumption))
              refine RW.opd rfl rfl (LO.pick_t rfl rfl ?_ rfl) ?_; (· (first | rfl | assumption))
              refine RW.opd rfl rfl (LO.move rfl rfl) ?_
              refine RW.gd rfl rfl rfl ?_ rfl (LO.fieldAddr rfl rfl ty28 rfl (by decide)) ?_; (· (first | rfl | assumption))
              refine RW.gd rfl rfl rfl ?_ rfl (LO.load rfl rfl rfl rfl ty26 rfl) ?_; (· (first | rfl | assumption))
              refine RW.gd rfl rfl rfl ?_ rfl (LO.len_isl rfl rfl rfl ty26) ?_; (· (first | rfl | assumption))
              refine RW.gd rfl rfl rfl ?_ rfl (LO.fieldAddr rfl rfl ty28 rfl (by decide)) ?_; (· (first | rfl | assumption))
              refine RW.gd rfl rfl rfl ?_ rfl (LO.load rfl rfl rfl rfl ty25 rfl) ?_; (· (first | rfl | assumption))
              refine RW.gd rfl rfl rfl ?_ rfl (LO.len_isl rfl rfl rfl ty25) ?_; (· (first | rfl | assumption))
              refine RW.gd rfl rfl rfl ?_ rfl (LO.eql rfl rfl rfl) ?_; (· (first | rfl | assumption))
              refine RW.opd rfl rfl (LO.pick_t rfl rfl ?_ rfl) ?_; (· (first | rfl | assumption))
              refine RW.opd rfl rfl (LO.move rfl rfl) ?_
              refine RW.gd rfl rfl rfl ?_ rfl (LO.fieldAddr rfl rfl ty28 rfl (by decide)) ?_; (· (first | rfl | assumption))
              refine RW.gd rfl rfl rfl ?_ rfl (LO.load rfl rfl rfl rfl ty26 rfl) ?_; (· (first | rfl | assumption))
              refine RW.gd rfl rfl rfl ?_ rfl (LO.len_isl rfl rfl rfl ty26) ?_; (· (first | rfl | assumption))
              refine RW.gd rfl rfl rfl ?_ rfl (LO.fieldAddr rfl rfl ty28 rfl (by decide)) ?_; (· (first | rfl | assumption))
              refine RW.gd rfl rfl rfl ?_ rfl (LO.load rfl rfl rfl rfl ty3 rfl) ?_; (· (first | rfl | assumption))
              refine RW.gd rfl rfl rfl ?_ rfl (LO.eql rfl rfl rfl) ?_; (· (first | rfl | assumption))
              refine RW.opd rfl rfl (LO.pick_t rfl rfl ?_ rfl) ?_; (· (first | rfl | assumption))
              refine RW.opd rfl rfl (LO.assign rfl rfl) ?_
              refine RW.nil ?_
              repeat (refine W.seq ?_)
              refine W.ret ⟨.inl rfl, _, mt, RVs.cons (RV.tmp rfl) (RVs.nil), all_mt, ?_⟩
              have hval : sizeB f = false := by unfold sizeB; simp; omega
              exact ⟨by rw [validB_all hall, hval]; first | rfl | (show AV.base (.bool _) = _; rw [hs4]), rfl⟩
          · have hs3 : ((f.down.length : Int) == (f.links.length : Int)) = false := by simpa using s3
            repeat (refine W.seq ?_)
            refine W.region 81 113 (by decide) rfl rfl ?_
            refine RW.opd rfl rfl (LO.fieldAddr rfl rfl ty28 rfl (by decide)) ?_
            refine RW.opd rfl rfl (LO.load rfl rfl rfl rfl ty3 rfl) ?_
            refine RW.opd rfl rfl (LO.geq rfl rfl rfl) ?_
            refine RW.opd rfl rfl (LO.move rfl rfl) ?_
            refine RW.gd rfl rfl rfl ?_ rfl (LO.fieldAddr rfl rfl ty28 rfl (by decide)) ?_; (· (first | rfl | assumption))
            refine RW.gd rfl rfl rfl ?_ rfl (LO.load rfl rfl rfl rfl ty3 rfl) ?_; (· (first | rfl | assumption))
            refine RW.gd rfl rfl rfl ?_ rfl (LO.leq rfl rfl rfl) ?_; (· (first | rfl | assumption))
            refine RW.opd rfl rfl (LO.pick_t rfl rfl ?_ rfl) ?_; (· (first | rfl | assumption))
            refine RW.opd rfl rfl (LO.move rfl rfl) ?_
            refine RW.gd rfl rfl rfl ?_ rfl (LO.fieldAddr rfl rfl ty28 rfl (by decide)) ?_; (· (first | rfl | assumption))
            refine RW.gd rfl rfl rfl ?_ rfl (LO.load rfl rfl rfl rfl ty25 rfl) ?_; (· (first | rfl | assumption))
            refine RW.gd rfl rfl rfl ?_ rfl (LO.len_isl rfl rfl rfl ty25) ?_; (· (first | rfl | assumption))
            refine RW.gd rfl rfl rfl ?_ rfl (LO.leq rfl rfl rfl) ?_; (· (first | rfl | assumption))
            refine RW.opd rfl rfl (LO.pick_t rfl rfl ?_ rfl) ?_; (· (first | rfl | assumption))
            refine RW.opd rfl rfl (LO.move rfl rfl) ?_
            refine RW.gd rfl rfl rfl ?_ rfl (LO.fieldAddr rfl rfl ty28 rfl (by decide)) ?_; (· (first | rfl | assumption))
            refine RW.gd rfl rfl rfl ?_ rfl (LO.load rfl rfl rfl rfl ty26 rfl) ?_; (· (first | rfl | assumption))
            refine RW.gd rfl rfl rfl ?_ rfl (LO.len_isl rfl rfl rfl ty26) ?_; (· (first | rfl | assumption))
            refine RW.gd rfl rfl rfl ?_ rfl (LO.fieldAddr rfl rfl ty28 rfl (by decide)) ?_; (· (first | rfl | assumption))
            refine RW.gd rfl rfl rfl ?_ rfl (LO.load rfl rfl rfl rfl ty25 rfl) ?_; (· (first | rfl | assumption))
            refine RW.gd rfl rfl rfl ?_ rfl (LO.len_isl rfl rfl rfl ty25) ?_; (· (first | rfl | assumption))
            refine RW.gd rfl rfl rfl ?_ rfl (LO.eql rfl rfl rfl) ?_; (· (first | rfl | assumption))
            refine RW.opd rfl rfl (LO.pick_t rfl rfl ?_ rfl) ?_; (· (first | rfl | assumption))
            refine RW.opd rfl rfl (LO.move rfl rfl) ?_
            refine RW.sd rfl rfl rfl ?_ rfl ?_; (· (first | rfl | assumption))
            refine RW.sd rfl rfl rfl ?_ rfl ?_; (· (first | rfl | assumption))
            refine RW.sd rfl rfl rfl ?_ rfl ?_; (· (first | rfl | assumption))
            refine RW.sd rfl rfl rfl ?_ rfl ?_; (· (first | rfl | assumption))
            refine RW.sd rfl rfl rfl ?_ rfl ?_; (· (first | rfl | assumption))
            refine RW.sd rfl rfl rfl ?_ rfl ?_; (· (first | rfl | assumption))
            refine RW.opd rfl rfl (LO.pick_f rfl rfl ?_ rfl) ?_; (· (first | rfl | assumption))
            refine RW.opd rfl rfl (LO.assign rfl rfl) ?_
            refine RW.nil ?_
            repeat (refine W.seq ?_)
            refine W.ret ⟨.inl rfl, _, mt, RVs.cons (RV.tmp rfl) (RVs.nil), all_mt, ?_⟩
            have hval : sizeB f = false := by unfold sizeB; simp; omega
            exact ⟨by rw [validB_all hall, hval]; first | rfl | (show AV.base (.bool _) = _; rw [hs4]), rfl⟩
        · have hs2 : decide ((f.links.length : Int) ≤ 24) = false := decide_eq_false s2
          repeat (refine W.seq ?_)
          refine W.region 81 113 (by decide) rfl rfl ?_
          refine RW.opd rfl rfl (LO.fieldAddr rfl rfl ty28 rfl (by decide)) ?_
          refine RW.opd rfl rfl (LO.load rfl rfl rfl rfl ty3 rfl) ?_
          refine RW.opd rfl rfl (LO.geq rfl rfl rfl) ?_
          refine RW.opd rfl rfl (LO.move rfl rfl) ?_
          refine RW.gd rfl rfl rfl ?_ rfl (LO.fieldAddr rfl rfl ty28 rfl (by decide)) ?_; (· (first | rfl | assumption))
          refine RW.gd rfl rfl rfl ?_ rfl (LO.load rfl rfl rfl rfl ty3 rfl) ?_; (· (first | rfl | assumption))
          refine RW.gd rfl rfl rfl ?_ rfl (LO.leq rfl rfl rfl) ?_; (· (first | rfl | assumption))
          refine RW.opd rfl rfl (LO.pick_t rfl rfl ?_ rfl) ?_; (· (first | rfl | assumption))
          refine RW.opd rfl rfl (LO.move rfl rfl) ?_
          refine RW.gd rfl rfl rfl ?_ rfl (LO.fieldAddr rfl rfl ty28 rfl (by decide)) ?_; (· (first | rfl | assumption))
          refine RW.gd rfl rfl rfl ?_ rfl (LO.load rfl rfl rfl rfl ty25 rfl) ?_; (· (first | rfl | assumption))
          refine RW.gd rfl rfl rfl ?_ rfl (LO.len_isl rfl rfl rfl ty25) ?_; (· (first | rfl | assumption))
          refine RW.gd rfl rfl rfl ?_ rfl (LO.leq rfl rfl rfl) ?_; (· (first | rfl | assumption))
          refine RW.opd rfl rfl (LO.pick_t rfl rfl ?_ rfl) ?_; (· (first | rfl | assumption))
          refine RW.opd rfl rfl (LO.move rfl rfl) ?_
          refine RW.sd rfl rfl rfl ?_ rfl ?_; (· (first | rfl | assumption))
          refine RW.sd rfl rfl rfl ?_ rfl ?_; (· (first | rfl | assumption))
          refine RW.sd rfl rfl rfl ?_ rfl ?_; (· (first | rfl | assumption))
          refine RW.sd rfl rfl rfl ?_ rfl ?_; (· (first | rfl | assumption))
          refine RW.sd rfl rfl rfl ?_ rfl ?_; (· (first | rfl | assumption))
          refine RW.sd rfl rfl rfl ?_ rfl ?_; (· (first | rfl | assumption))
          refine RW.sd rfl rfl rfl ?_ rfl ?_; (· (first | rfl | assumption))
          refine RW.opd rfl rfl (LO.pick_f rfl rfl ?_ rfl) ?_; (· (first | rfl | assumption))
          refine RW.opd rfl rfl (LO.move rfl rfl) ?_
          refine RW.sd rfl rfl rfl ?_ rfl ?_; (· (first | rfl | assumption))
          refine RW.sd rfl rfl rfl ?_ rfl ?_; (· (first | rfl | assumption))
          refine RW.sd rfl rfl rfl ?_ rfl ?_; (· (first | rfl | assumption))
          refine RW.sd rfl rfl rfl ?_ rfl ?_; (· (first | rfl | assumption))
          refine RW.sd rfl rfl rfl ?_ rfl ?_; (· (first | rfl | assumption))
          refine RW.sd rfl rfl rfl ?_ rfl ?_; (· (first | rfl | assumption))
          refine RW.opd rfl rfl (LO.pick_f rfl rfl ?_ rfl) ?_; (· (first | rfl | assumption))
          refine RW.opd rfl rfl (LO.assign rfl rfl) ?_
          refine RW.nil ?_
          repeat (refine W.seq ?_)
          refine W.ret ⟨.inl rfl, _, mt, RVs.cons (RV.tmp rfl) (RVs.nil), all_mt, ?_⟩
          have hval : sizeB f = false := by unfold sizeB; simp; omega
          exact ⟨by rw [validB_all hall, hval]; first | rfl | (show AV.base (.bool _) = _; rw [hs4]), rfl⟩
      · have hs1 : decide (f.sw ≤ 8) = false := decide_eq_false s1
        repeat (refine W.seq ?_)
        refine W.region 81 113 (by decide) rfl rfl ?_
        refine RW.opd rfl rfl (LO.fieldAddr rfl rfl ty28 rfl (by decide)) ?_
        refine RW.opd rfl rfl (LO.load rfl rfl rfl rfl ty3 rfl) ?_
        refine RW.opd rfl rfl (LO.geq rfl rfl rfl) ?_
        refine RW.opd rfl rfl (LO.move rfl rfl) ?_
        refine RW.gd rfl rfl rfl ?_ rfl (LO.fieldAddr rfl rfl ty28 rfl (by decide)) ?_; (· (first | rfl | assumption))
        refine RW.gd rfl rfl rfl ?_ rfl (LO.load rfl rfl rfl rfl ty3 rfl) ?_; (· (first | rfl | assumption))
        refine RW.gd rfl rfl rfl ?_ rfl (LO.leq rfl rfl rfl) ?_; (· (first | rfl | assumption))
        refine RW.opd rfl rfl (LO.pick_t rfl rfl ?_ rfl) ?_; (· (first | rfl | assumption))
        refine RW.opd rfl rfl (LO.move rfl rfl) ?_
        refine RW.sd rfl rfl rfl ?_ rfl ?_; (· (first | rfl | assumption))
        refine RW.sd rfl rfl rfl ?_ rfl ?_; (· (first | rfl | assumption))
        refine RW.sd rfl rfl rfl ?_ rfl ?_; (· (first | rfl | assumption))
        refine RW.sd rfl rfl rfl ?_ rfl ?_; (· (first | rfl | assumption))
        refine RW.opd rfl rfl (LO.pick_f rfl rfl ?_ rfl) ?_; (· (first | rfl | assumption))
        refine RW.opd rfl rfl (LO.move rfl rfl) ?_
        refine RW.sd rfl rfl rfl ?_ rfl ?_; (· (first | rfl | assumption))
        refine RW.sd rfl rfl rfl ?_ rfl ?_; (· (first | rfl | assumption))
        refine RW.sd rfl rfl rfl ?_ rfl ?_; (· (first | rfl | assumption))
        refine RW.sd rfl rfl rfl ?_ rfl ?_; (· (first | rfl | assumption))
        refine RW.sd rfl rfl rfl ?_ rfl ?_; (· (first | rfl | assumption))
        refine RW.sd rfl rfl rfl ?_ rfl ?_; (· (first | rfl | assumption))
        refine RW.sd rfl rfl rfl ?_ rfl ?_; (· (first | rfl | assumption))
        refine RW.opd rfl rfl (LO.pick_f rfl rfl ?_ rfl) ?_; (· (first | rfl | assumption))
        refine RW.opd rfl rfl (LO.move rfl rfl) ?_
        refine RW.sd rfl rfl rfl ?_ rfl ?_; (· (first | rfl | assumption))
        refine RW.sd rfl rfl rfl ?_ rfl ?_; (· (first | rfl | assumption))
        refine RW.sd rfl rfl rfl ?_ rfl ?_; (· (first | rfl | assumption))
        refine RW.sd rfl rfl rfl ?_ rfl ?_; (· (first | rfl | assumption))
        refine RW.sd rfl rfl rfl ?_ rfl ?_; (· (first | rfl | assumption))
        refine RW.sd rfl rfl rfl ?_ rfl ?_; (· (first | rfl | assumption))
        refine RW.opd rfl rfl (LO.pick_f rfl rfl ?_ rfl) ?_; (· (first | rfl | assumption))
        refine RW.opd rfl rfl (LO.assign rfl rfl) ?_
        refine RW.nil ?_
        repeat (refine W.seq ?_)
        refine W.ret ⟨.inl rfl, _, mt, RVs.cons (RV.tmp rfl) (RVs.nil), all_mt, ?_⟩
        have hval : sizeB f = false := by unfold sizeB; simp; omega
        exact ⟨by rw [validB_all hall, hval]; first | rfl | (show AV.base (.bool _) = _; rw [hs4]), rfl⟩
    · have hs0 : decide (f.sw ≥ 1) = false := decide_eq_false s0
      repeat (refine W.seq ?_)
      refine W.region 81 113 (by decide) rfl rfl ?_
      refine RW.opd rfl rfl (LO.fieldAddr rfl rfl ty28 rfl (by decide)) ?_
      refine RW.opd rfl rfl (LO.load rfl rfl rfl rfl ty3 rfl) ?_
      refine RW.opd rfl rfl (LO.geq rfl rfl rfl) ?_
      refine RW.opd rfl rfl (LO.move rfl rfl) ?_
      refine RW.sd rfl rfl rfl ?_ rfl ?_; (· (first | rfl | assumption))
      refine RW.sd rfl rfl rfl ?_ rfl ?_; (· (first | rfl | assumption))
      refine RW.sd rfl rfl rfl ?_ rfl ?_; (· (first | rfl | assumption))
      refine RW.opd rfl rfl (LO.pick_f rfl rfl ?_ rfl) ?_; (· (first | rfl | assumption))
      refine RW.opd rfl rfl (LO.move rfl rfl) ?_
      refine RW.sd rfl rfl rfl ?_ rfl ?_; (· (first | rfl | assumption))
      refine RW.sd rfl rfl rfl ?_ rfl ?_; (· (first | rfl | assumption))
      refine RW.sd rfl rfl rfl ?_ rfl ?_; (· (first | rfl | assumption))
      refine RW.sd rfl rfl rfl ?_ rfl ?_; (· (first | rfl | assumption))
      refine RW.opd rfl rfl (LO.pick_f rfl rfl ?_ rfl) ?_; (· (first | rfl | assumption))
      refine RW.opd rfl rfl (LO.move rfl rfl) ?_
      refine RW.sd rfl rfl rfl ?_ rfl ?_; (· (first | rfl | assumption))
      refine RW.sd rfl rfl rfl ?_ rfl ?_; (· (first | rfl | assumption))
      refine RW.sd rfl rfl rfl ?_ rfl ?_; (· (first | rfl | assumption))
      refine RW.sd rfl rfl rfl ?_ rfl ?_; (· (first | rfl | assumption))
      refine RW.sd rfl rfl rfl ?_ rfl ?_; (· (first | rfl | assumption))
      refine RW.sd rfl rfl rfl ?_ rfl ?_; (· (first | rfl | assumption))
      refine RW.sd rfl rfl rfl ?_ rfl ?_; (· (first | rfl | assumption))
      refine RW.opd rfl rfl (LO.pick_f rfl rfl ?_ rfl) ?_; (· (first | rfl | assumption))
      refine RW.opd rfl rfl (LO.move rfl rfl) ?_
      refine RW.sd rfl rfl rfl ?_ rfl ?_; (· (first | rfl | assumption))
      refine RW.sd rfl rfl rfl ?_ rfl ?_; (· (first | rfl | assumption))
      refine RW.sd rfl rfl rfl ?_ rfl ?_; (· (first | rfl | assumption))
      refine RW.sd rfl rfl rfl ?_ rfl ?_; (· (first | rfl | assumption))
      refine RW.sd rfl rfl rfl ?_ rfl ?_; (· (first | rfl | assumption))
      refine RW.sd rfl rfl rfl ?_ rfl ?_; (· (first | rfl | assumption))
      refine RW.opd rfl rfl (LO.pick_f rfl rfl ?_ rfl) ?_; (· (first | rfl | assumption))
      refine RW.opd rfl rfl (LO.assign rfl rfl) ?_
      refine RW.nil ?_
      repeat (refine W.seq ?_)
      refine W.ret ⟨.inl rfl, _, mt, RVs.cons (RV.tmp rfl) (RVs.nil), all_mt, ?_⟩
      have hval : sizeB f = false := by unfold sizeB; simp; omega
      exact ⟨by rw [validB_all hall, hval]; first | rfl | (show AV.base (.bool _) = _; rw [hs4]), rfl⟩
theorem validX_any (f : Fab) (hb : f.links.length ≤ 1000) : AFn Tryd.prog 43 0 [.agg (fabC f)] mt (.base (.bool (validB f))) mt := by
  refine AFn.eq Tryd.func43 rfl rfl (Nat.le_of_ble_eq_true rfl) ?_
  repeat (refine W.seq ?_)
  refine W.region 0 2 (by decide) rfl rfl ?_
  refine RW.opd rfl rfl (LO.box rfl rfl rfl) ?_
  refine RW.opd rfl rfl (LO.assign rfl rfl) ?_
  refine RW.nil ?_
  by_cases s0 : f.sw < 1
  · have hs0 : decide (f.sw < 1) = true := decide_eq_true s0
    repeat (refine W.seq ?_)
    refine W.region 6 37 (by decide) rfl rfl ?_
    refine RW.opd rfl rfl (LO.fieldAddr rfl rfl ty28 rfl (by decide)) ?_
    refine RW.opd rfl rfl (LO.load rfl rfl rfl rfl ty3 rfl) ?_
    refine RW.opd rfl rfl (LO.lss rfl rfl rfl) ?_
    refine RW.opd rfl rfl (LO.move rfl rfl) ?_
    refine RW.sd rfl rfl rfl ?_ rfl ?_; (· (first | rfl | assumption))
    refine RW.sd rfl rfl rfl ?_ rfl ?_; (· (first | rfl | assumption))
    refine RW.sd rfl rfl rfl ?_ rfl ?_; (· (first | rfl | assumption))
    refine RW.opd rfl rfl (LO.pick_t rfl rfl ?_ rfl) ?_; (· (first | rfl | assumption))
    refine RW.opd rfl rfl (LO.move rfl rfl) ?_
    refine RW.sd rfl rfl rfl ?_ rfl ?_; (· (first | rfl | assumption))
    refine RW.sd rfl rfl rfl ?_ rfl ?_; (· (first | rfl | assumption))
    refine RW.sd rfl rfl rfl ?_ rfl ?_; (· (first | rfl | assumption))
    refine RW.sd rfl rfl rfl ?_ rfl ?_; (· (first | rfl | assumption))
    refine RW.opd rfl rfl (LO.pick_t rfl rfl ?_ rfl) ?_; (· (first | rfl | assumption))
    refine RW.opd rfl rfl (LO.move rfl rfl) ?_
    refine RW.sd rfl rfl rfl ?_ rfl ?_; (· (first | rfl | assumption))
    refine RW.sd rfl rfl rfl ?_ rfl ?_; (· (first | rfl | assumption))
    refine RW.sd rfl rfl rfl ?_ rfl ?_; (· (first | rfl | assumption))
    refine RW.sd rfl rfl rfl ?_ rfl ?_; (· (first | rfl | assumption))
    refine RW.sd rfl rfl rfl ?_ rfl ?_; (· (first | rfl | assumption))
    refine RW.sd rfl rfl rfl ?_ rfl ?_; (· (first | rfl | assumption))
    refine RW.sd rfl rfl rfl ?_ rfl ?_; (· (first | rfl | assumption))
    refine RW.opd rfl rfl (LO.pick_t rfl rfl ?_ rfl) ?_; (· (first | rfl | assumption))
    refine RW.opd rfl rfl (LO.move rfl rfl) ?_
    refine RW.sd rfl rfl rfl ?_ rfl ?_; (· (first | rfl | assumption))
    refine RW.sd rfl rfl rfl ?_ rfl ?_; (· (first | rfl | assumption))
    refine RW.sd rfl rfl rfl ?_ rfl ?_; (· (first | rfl | assumption))
    refine RW.sd rfl rfl rfl ?_ rfl ?_; (· (first | rfl | assumption))
    refine RW.sd rfl rfl rfl ?_ rfl ?_; (· (first | rfl | assumption))
    refine RW.sd rfl rfl rfl ?_ rfl ?_; (· (first | rfl | assumption))
    refine RW.opd rfl rfl (LO.pick_t rfl rfl ?_ rfl) ?_; (· (first | rfl | assumption))
    refine RW.nil ?_
    repeat (refine W.seq ?_)
    refine W.cond_t rfl (by first | rfl | assumption) ?_
    repeat (refine W.seq ?_)
    refine W.region 41 42 (by decide) rfl rfl ?_
    refine RW.opd rfl rfl (LO.assign rfl rfl) ?_
    refine RW.nil ?_
    repeat (refine W.seq ?_)
    refine W.ret ⟨.inl rfl, _, mt, RVs.cons (RV.tmp rfl) (RVs.nil), all_mt, ?_⟩
    exact ⟨by unfold validB; rw [show sizeB f = false from by unfold sizeB; simp; omega, Bool.and_false]; rfl, rfl⟩
  · have hs0 : decide (f.sw < 1) = false := decide_eq_false s0
    by_cases s1 : f.sw > 8
    · have hs1 : decide (f.sw > 8) = true := decide_eq_true s1
      repeat (refine W.seq ?_)
      refine W.region 6 37 (by decide) rfl rfl ?_
      refine RW.opd rfl rfl (LO.fieldAddr rfl rfl ty28 rfl (by decide)) ?_
      refine RW.opd rfl rfl (LO.load rfl rfl rfl rfl ty3 rfl) ?_
      refine RW.opd rfl rfl (LO.lss rfl rfl rfl) ?_
      refine RW.opd rfl rfl (LO.move rfl rfl) ?_
      refine RW.gd rfl rfl rfl ?_ rfl (LO.fieldAddr rfl rfl ty28 rfl (by decide)) ?_; (· (first | rfl | assumption))
      refine RW.gd rfl rfl rfl ?_ rfl (LO.load rfl rfl rfl rfl ty3 rfl) ?_; (· (first | rfl | assumption))
      refine RW.gd rfl rfl rfl ?_ rfl (LO.gtr rfl rfl rfl) ?_; (· (first | rfl | assumption))
      refine RW.opd rfl rfl (LO.pick_f rfl rfl ?_ rfl) ?_; (· (first | rfl | assumption))
      refine RW.opd rfl rfl (LO.move rfl rfl) ?_
      refine RW.sd rfl rfl rfl ?_ rfl ?_; (· (first | rfl | assumption))
      refine RW.sd rfl rfl rfl ?_ rfl ?_; (· (first | rfl | assumption))
      refine RW.sd rfl rfl rfl ?_ rfl ?_; (· (first | rfl | assumption))
      refine RW.sd rfl rfl rfl ?_ rfl ?_; (· (first | rfl | assumption))
      refine RW.opd rfl rfl (LO.pick_t rfl rfl ?_ rfl) ?_; (· (first | rfl | assumption))
      refine RW.opd rfl rfl (LO.move rfl rfl) ?_
      refine RW.sd rfl rfl rfl ?_ rfl ?_; (· (first | rfl | assumption))
      refine RW.sd rfl rfl rfl ?_ rfl ?_; (· (first | rfl | assumption))
      refine RW.sd rfl rfl rfl ?_ rfl ?_; (· (first | rfl | assumption))
      refine RW.sd rfl rfl rfl ?_ rfl ?_; (· (first | rfl | assumption))
      refine RW.sd rfl rfl rfl ?_ rfl ?_; (· (first | rfl | assumption))
      refine RW.sd rfl rfl rfl ?_ rfl ?_; (· (first | rfl | assumption))
      refine RW.sd rfl rfl rfl ?_ rfl ?_; (· (first | rfl | assumption))
      refine RW.opd rfl rfl (LO.pick_t rfl rfl ?_ rfl) ?_; (· (first | rfl | assumption))
      refine RW.opd rfl rfl (LO.move rfl rfl) ?_
      refine RW.sd rfl rfl rfl ?_ rfl ?_; (· (first | rfl | assumption))
      refine RW.sd rfl rfl rfl ?_ rfl ?_; (· (first | rfl | assumption))
      refine RW.sd rfl rfl rfl ?_ rfl ?_; (· (first | rfl | assumption))
      refine RW.sd rfl rfl rfl ?_ rfl ?_; (· (first | rfl | assumption))
      refine RW.sd rfl rfl rfl ?_ rfl ?_; (· (first | rfl | assumption))
      refine RW.sd rfl rfl rfl ?_ rfl ?_; (· (first | rfl | assumption))
      refine RW.opd rfl rfl (LO.pick_t rfl rfl ?_ rfl) ?_; (· (first | rfl | assumption))
      refine RW.nil ?_
      repeat (refine W.seq ?_)
      refine W.cond_t rfl (by first | rfl | assumption) ?_
      repeat (refine W.seq ?_)
      refine W.region 41 42 (by decide) rfl rfl ?_
      refine RW.opd rfl rfl (LO.assign rfl rfl) ?_
      refine RW.nil ?_
      repeat (refine W.seq ?_)
      refine W.ret ⟨.inl rfl, _, mt, RVs.cons (RV.tmp rfl) (RVs.nil), all_mt, ?_⟩
      exact ⟨by unfold validB; rw [show sizeB f = false from by unfold sizeB; simp; omega, Bool.and_false]; rfl, rfl⟩
    · have hs1 : decide (f.sw > 8) = false := decide_eq_false s1
      by_cases s2 : (f.links.length : Int) > 24
      · have hs2 : decide ((f.links.length : Int) > 24) = true := decide_eq_true s2
        repeat (refine W.seq ?_)
        refine W.region 6 37 (by decide) rfl rfl ?_
        refine RW.opd rfl rfl (LO.fieldAddr rfl rfl ty28 rfl (by decide)) ?_
        refine RW.opd rfl rfl (LO.load rfl rfl rfl rfl ty3 rfl) ?_
        refine RW.opd rfl rfl (LO.lss rfl rfl rfl) ?_
        refine RW.opd rfl rfl (LO.move rfl rfl) ?_
        refine RW.gd rfl rfl rfl ?_ rfl (LO.fieldAddr rfl rfl ty28 rfl (by decide)) ?_; (· (first | rfl | assumption))
        refine RW.gd rfl rfl rfl ?_ rfl (LO.load rfl rfl rfl rfl ty3 rfl) ?_; (· (first | rfl | assumption))
        refine RW.gd rfl rfl rfl ?_ rfl (LO.gtr rfl rfl rfl) ?_; (· (first | rfl | assumption))
        refine RW.opd rfl rfl (LO.pick_f rfl rfl ?_ rfl) ?_; (· (first | rfl | assumption))
        refine RW.opd rfl rfl (LO.move rfl rfl) ?_
        refine RW.gd rfl rfl rfl ?_ rfl (LO.fieldAddr rfl rfl ty28 rfl (by decide)) ?_; (· (first | rfl | assumption))
        refine RW.gd rfl rfl rfl ?_ rfl (LO.load rfl rfl rfl rfl ty25 rfl) ?_; (· (first | rfl | assumption))
        refine RW.gd rfl rfl rfl ?_ rfl (LO.len_isl rfl rfl rfl ty25) ?_; (· (first | rfl | assumption))
        refine RW.gd rfl rfl rfl ?_ rfl (LO.gtr rfl rfl rfl) ?_; (· (first | rfl | assumption))
        refine RW.opd rfl rfl (LO.pick_f rfl rfl ?_ rfl) ?_; (· (first | rfl | assumption))
        refine RW.opd rfl rfl (LO.move rfl rfl) ?_
        refine RW.sd rfl rfl rfl ?_ rfl ?_; (· (first | rfl | assumption))
        refine RW.sd rfl rfl rfl ?_ rfl ?_; (· (first | rfl | assumption))
        refine RW.sd rfl rfl rfl ?_ rfl ?_; (· (first | rfl | assumption))
        refine RW.sd rfl rfl rfl ?_ rfl ?_; (· (first | rfl | assumption))
        refine RW.sd rfl rfl rfl ?_ rfl ?_; (· (first | rfl | assumption))
        refine RW.sd rfl rfl rfl ?_ rfl ?_; (· (first | rfl | assumption))
        refine RW.sd rfl rfl rfl ?_ rfl ?_; (· (first | rfl | assumption))
        refine RW.opd rfl rfl (LO.pick_t rfl rfl ?_ rfl) ?_; (· (first | rfl | assumption))
        refine RW.opd rfl rfl (LO.move rfl rfl) ?_
        refine RW.sd rfl rfl rfl ?_ rfl ?_; (· (first | rfl | assumption))
        refine RW.sd rfl rfl rfl ?_ rfl ?_; (· (first | rfl | assumption))
        refine RW.sd rfl rfl rfl ?_ rfl ?_; (· (first | rfl | assumption))
        refine RW.sd rfl rfl rfl ?_ rfl ?_; (· (first | rfl | assumption))
        refine RW.sd rfl rfl rfl ?_ rfl ?_; (· (first | rfl | assumption))
        refine RW.sd rfl rfl rfl ?_ rfl ?_; (· (first | rfl | assumption))
        refine RW.opd rfl rfl (LO.pick_t rfl rfl ?_ rfl) ?_; (· (first | rfl | assumption))
        refine RW.nil ?_
        repeat (refine W.seq ?_)
        refine W.cond_t rfl (by first | rfl | assumption) ?_
        repeat (refine W.seq ?_)
        refine W.region 41 42 (by decide) rfl rfl ?_
        refine RW.opd rfl rfl (LO.assign rfl rfl) ?_
        refine RW.nil ?_
        repeat (refine W.seq ?_)
        refine W.ret ⟨.inl rfl, _, mt, RVs.cons (RV.tmp rfl) (RVs.nil), all_mt, ?_⟩
        exact ⟨by unfold validB; rw [show sizeB f = false from by unfold sizeB; simp; omega, Bool.and_false]; rfl, rfl⟩
      · have hs2 : decide ((f.links.length : Int) > 24) = false := decide_eq_false s2
        by_cases s3 : (f.down.length : Int) ≠ f.links.length
        · have hs3 : ((f.down.length : Int) != (f.links.length : Int)) = true := by simpa using s3
          repeat (refine W.seq ?_)
          refine W.region 6 37 (by decide) rfl rfl ?_
          refine RW.opd rfl rfl (LO.fieldAddr rfl rfl ty28 rfl (by decide)) ?_
          refine RW.opd rfl rfl (LO.load rfl rfl rfl rfl ty3 rfl) ?_
          refine RW.opd rfl rfl (LO.lss rfl rfl rfl) ?_
          refine RW.opd rfl rfl (LO.move rfl rfl) ?_
          refine RW.gd rfl rfl rfl ?_ rfl (LO.fieldAddr rfl rfl ty28 rfl (by decide)) ?_; (· (first | rfl | assumption))
          refine RW.gd rfl rfl rfl ?_ rfl (LO.load rfl rfl rfl rfl ty3 rfl) ?_; (· (first | rfl | assumption))
          refine RW.gd rfl rfl rfl ?_ rfl (LO.gtr rfl rfl rfl) ?_; (· (first | rfl | assumption))
          refine RW.opd rfl rfl (LO.pick_f rfl rfl ?_ rfl) ?_; (· (first | rfl | assumption))
          refine RW.opd rfl rfl (LO.move rfl rfl) ?_
          refine RW.gd rfl rfl rfl ?_ rfl (LO.fieldAddr rfl rfl ty28 rfl (by decide)) ?_; (· (first | rfl | assumption))
          refine RW.gd rfl rfl rfl ?_ rfl (LO.load rfl rfl rfl rfl ty25 rfl) ?_; (· (first | rfl | assumption))
          refine RW.gd rfl rfl rfl ?_ rfl (LO.len_isl rfl rfl rfl ty25) ?_; (· (first | rfl | assumption))
          refine RW.gd rfl rfl rfl ?_ rfl (LO.gtr rfl rfl rfl) ?_; (· (first | rfl | assumption))
          refine RW.opd rfl rfl (LO.pick_f rfl rfl ?_ rfl) ?_; (· (first | rfl | assumption))
          refine RW.opd rfl rfl (LO.move rfl rfl) ?_
          refine RW.gd rfl rfl rfl ?_ rfl (LO.fieldAddr rfl rfl ty28 rfl (by decide)) ?_; (· (first | rfl | assumption))
          refine RW.gd rfl rfl rfl ?_ rfl (LO.load rfl rfl rfl rfl ty26 rfl) ?_; (· (first | rfl | assumption))
          refine RW.gd rfl rfl rfl ?_ rfl (LO.len_isl rfl rfl rfl ty26) ?_; (· (first | rfl | assumption))
          refine RW.gd rfl rfl rfl ?_ rfl (LO.fieldAddr rfl rfl ty28 rfl (by decide)) ?_; (· (first | rfl | assumption))
          refine RW.gd rfl rfl rfl ?_ rfl (LO.load rfl rfl rfl rfl ty25 rfl) ?_; (· (first | rfl | assumption))
          refine RW.gd rfl rfl rfl ?_ rfl (LO.len_isl rfl rfl rfl ty25) ?_; (· (first | rfl | assumption))
          refine RW.gd rfl rfl rfl ?_ rfl (LO.neq rfl rfl rfl) ?_; (· (first | rfl | assumption))
          refine RW.opd rfl rfl (LO.pick_f rfl rfl ?_ rfl) ?_; (· (first | rfl | assumption))
          refine RW.opd rfl rfl (LO.move rfl rfl) ?_
          refine RW.sd rfl rfl rfl ?_ rfl ?_; (· (first | rfl | assumption))
          refine RW.sd rfl rfl rfl ?_ rfl ?_; (· (first | rfl | assumption))
          refine RW.sd rfl rfl rfl ?_ rfl ?_; (· (first | rfl | assumption))
          refine RW.sd rfl rfl rfl ?_ rfl ?_; (· (first | rfl | assumption))
          refine RW.sd rfl rfl rfl ?_ rfl ?_; (· (first | rfl | assumption))
          refine RW.sd rfl rfl rfl ?_ rfl ?_; (· (first | rfl | assumption))
          refine RW.opd rfl rfl (LO.pick_t rfl rfl ?_ rfl) ?_; (· (first | rfl | assumption))
          refine RW.nil ?_
          repeat (refine W.seq ?_)
          refine W.cond_t rfl (by first | rfl | assumption) ?_
          repeat (refine W.seq ?_)
          refine W.region 41 42 (by decide) rfl rfl ?_
          refine RW.opd rfl rfl (LO.assign rfl rfl) ?_
          refine RW.nil ?_
          repeat (refine W.seq ?_)
          refine W.ret ⟨.inl rfl, _, mt, RVs.cons (RV.tmp rfl) (RVs.nil), all_mt, ?_⟩
          exact ⟨by unfold validB; rw [show sizeB f = false from by unfold sizeB; simp; omega, Bool.and_false]; rfl, rfl⟩
        · have hs3 : ((f.down.length : Int) != (f.links.length : Int)) = false := by simpa using s3
          by_cases s4 : (f.dead.length : Int) ≠ f.sw
          · have hs4 : ((f.dead.length : Int) != f.sw) = true := by simpa using s4
            repeat (refine W.seq ?_)
            refine W.region 6 37 (by decide) rfl rfl ?_
            refine RW.opd rfl rfl (LO.fieldAddr rfl rfl ty28 rfl (by decide)) ?_
            refine RW.opd rfl rfl (LO.load rfl rfl rfl rfl ty3 rfl) ?_
            refine RW.opd rfl rfl (LO.lss rfl rfl rfl) ?_
            refine RW.opd rfl rfl (LO.move rfl rfl) ?_
            refine RW.gd rfl rfl rfl ?_ rfl (LO.fieldAddr rfl rfl ty28 rfl (by decide)) ?_; (· (first | rfl | assumption))
            refine RW.gd rfl rfl rfl ?_ rfl (LO.load rfl rfl rfl rfl ty3 rfl) ?_; (· (first | rfl | assumption))
            refine RW.gd rfl rfl rfl ?_ rfl (LO.gtr rfl rfl rfl) ?_; (· (first | rfl | assumption))
            refine RW.opd rfl rfl (LO.pick_f rfl rfl ?_ rfl) ?_; (· (first | rfl | assumption))
            refine RW.opd rfl rfl (LO.move rfl rfl) ?_
            refine RW.gd rfl rfl rfl ?_ rfl (LO.fieldAddr rfl rfl ty28 rfl (by decide)) ?_; (· (first | rfl | assumption))
            refine RW.gd rfl rfl rfl ?_ rfl (LO.load rfl rfl rfl rfl ty25 rfl) ?_; (· (first | rfl | assumption))
            refine RW.gd rfl rfl rfl ?_ rfl (LO.len_isl rfl rfl rfl ty25) ?_; (· (first | rfl | assumption))
            refine RW.gd rfl rfl rfl ?_ rfl (LO.gtr rfl rfl rfl) ?_; (· (first | rfl | assumption))
            refine RW.opd rfl rfl (LO.pick_f rfl rfl ?_ rfl) ?_; (· (first | rfl | assumption))
            refine RW.opd rfl rfl (LO.move rfl rfl) ?_
            refine RW.gd rfl rfl rfl ?_ rfl (LO.fieldAddr rfl rfl ty28 rfl (by decide)) ?_; (· (first | rfl | assumption))
            refine RW.gd rfl rfl rfl ?_ rfl (LO.load rfl rfl rfl rfl ty26 rfl) ?_; (· (first | rfl | assumption))
            refine RW.gd rfl rfl rfl ?_ rfl (LO.len_isl rfl rfl rfl ty26) ?_; (· (first | rfl | assumption))
            refine RW.gd rfl rfl rfl ?_ rfl (LO.fieldAddr rfl rfl ty28 rfl (by decide)) ?_; (· (first | rfl | assumption))
            refine RW.gd rfl rfl rfl ?_ rfl (LO.load rfl rfl rfl rfl ty25 rfl) ?_; (· (first | rfl | assumption))
            refine RW.gd rfl rfl rfl ?_ rfl (LO.len_isl rfl rfl rfl ty25) ?_; (· (first | rfl | assumption))
            refine RW.gd rfl rfl rfl ?_ rfl (LO.neq rfl rfl rfl) ?_; (· (first | rfl | assumption))
            refine RW.opd rfl rfl (LO.pick_f rfl rfl ?_ rfl) ?_; (· (first | rfl | assumption))
            refine RW.opd rfl rfl (LO.move rfl rfl) ?_
            refine RW.gd rfl rfl rfl ?_ rfl (LO.fieldAddr rfl rfl ty28 rfl (by decide)) ?_; (· (first | rfl | assumption))
            refine RW.gd rfl rfl rfl ?_ rfl (LO.load rfl rfl rfl rfl ty26 rfl) ?_; (· (first | rfl | assumption))
            refine RW.gd rfl rfl rfl ?_ rfl (LO.len_isl rfl rfl rfl ty26) ?_; (· (first | rfl | assumption))
            refine RW.gd rfl rfl rfl ?_ rfl (LO.fieldAddr rfl rfl ty28 rfl (by decide)) ?_; (· (first | rfl | assumption))
            refine RW.gd rfl rfl rfl ?_ rfl (LO.load rfl rfl rfl rfl ty3 rfl) ?_; (· (first | rfl | assumption))
            refine RW.gd rfl rfl rfl ?_ rfl (LO.neq rfl rfl rfl) ?_; (· (first | rfl | assumption))
            refine RW.opd rfl rfl (LO.pick_f rfl rfl ?_ rfl) ?_; (· (first | rfl | assumption))
            refine RW.nil ?_
            repeat (refine W.seq ?_)
            refine W.cond_t rfl (by first | rfl | assumption) ?_
            repeat (refine W.seq ?_)
            refine W.region 41 42 (by decide) rfl rfl ?_
            refine RW.opd rfl rfl (LO.assign rfl rfl) ?_
            refine RW.nil ?_
            repeat (refine W.seq ?_)
            refine W.ret ⟨.inl rfl, _, mt, RVs.cons (RV.tmp rfl) (RVs.nil), all_mt, ?_⟩
            exact ⟨by unfold validB; rw [show sizeB f = false from by unfold sizeB; simp; omega, Bool.and_false]; rfl, rfl⟩
          · have hs4 : ((f.dead.length : Int) != f.sw) = false := by simpa using s4
            have hsz : sizeB f = true := by unfold sizeB; simp; omega
            repeat (refine W.seq ?_)
            refine W.region 6 37 (by decide) rfl rfl ?_
            refine RW.opd rfl rfl (LO.fieldAddr rfl rfl ty28 rfl (by decide)) ?_
            refine RW.opd rfl rfl (LO.load rfl rfl rfl rfl ty3 rfl) ?_
            refine RW.opd rfl rfl (LO.lss rfl rfl rfl) ?_
            refine RW.opd rfl rfl (LO.move rfl rfl) ?_
            refine RW.gd rfl rfl rfl ?_ rfl (LO.fieldAddr rfl rfl ty28 rfl (by decide)) ?_; (· (first | rfl | assumption))
            refine RW.gd rfl rfl rfl ?_ rfl (LO.load rfl rfl rfl rfl ty3 rfl) ?_; (· (first | rfl | assumption))
            refine RW.gd rfl rfl rfl ?_ rfl (LO.gtr rfl rfl rfl) ?_; (· (first | rfl | assumption))
            refine RW.opd rfl rfl (LO.pick_f rfl rfl ?_ rfl) ?_; (· (first | rfl | assumption))
            refine RW.opd rfl rfl (LO.move rfl rfl) ?_
            refine RW.gd rfl rfl rfl ?_ rfl (LO.fieldAddr rfl rfl ty28 rfl (by decide)) ?_; (· (first | rfl | assumption))
            refine RW.gd rfl rfl rfl ?_ rfl (LO.load rfl rfl rfl rfl ty25 rfl) ?_; (· (first | rfl | assumption))
            refine RW.gd rfl rfl rfl ?_ rfl (LO.len_isl rfl rfl rfl ty25) ?_; (· (first | rfl | assumption))
            refine RW.gd rfl rfl rfl ?_ rfl (LO.gtr rfl rfl rfl) ?_; (· (first | rfl | assumption))
            refine RW.opd rfl rfl (LO.pick_f rfl rfl ?_ rfl) ?_; (· (first | rfl | assumption))
            refine RW.opd rfl rfl (LO.move rfl rfl) ?_
            refine RW.gd rfl rfl rfl ?_ rfl (LO.fieldAddr rfl rfl ty28 rfl (by decide)) ?_; (· (first | rfl | assumption))
            refine RW.gd rfl rfl rfl ?_ rfl (LO.load rfl rfl rfl rfl ty26 rfl) ?_; (· (first | rfl | assumption))
            refine RW.gd rfl rfl rfl ?_ rfl (LO.len_isl rfl rfl rfl ty26) ?_; (· (first | rfl | assumption))
            refine RW.gd rfl rfl rfl ?_ rfl (LO.fieldAddr rfl rfl ty28 rfl (by decide)) ?_; (· (first | rfl | assumption))
            refine RW.gd rfl rfl rfl ?_ rfl (LO.load rfl rfl rfl rfl ty25 rfl) ?_; (· (first | rfl | assumption))
            refine RW.gd rfl rfl rfl ?_ rfl (LO.len_isl rfl rfl rfl ty25) ?_; (· (first | rfl | assumption))
            refine RW.gd rfl rfl rfl ?_ rfl (LO.neq rfl rfl rfl) ?_; (· (first | rfl | assumption))
            refine RW.opd rfl rfl (LO.pick_f rfl rfl ?_ rfl) ?_; (· (first | rfl | assumption))
            refine RW.opd rfl rfl (LO.move rfl rfl) ?_
            refine RW.gd rfl rfl rfl ?_ rfl (LO.fieldAddr rfl rfl ty28 rfl (by decide)) ?_; (· (first | rfl | assumption))
            refine RW.gd rfl rfl rfl ?_ rfl (LO.load rfl rfl rfl rfl ty26 rfl) ?_; (· (first | rfl | assumption))
            refine RW.gd rfl rfl rfl ?_ rfl (LO.len_isl rfl rfl rfl ty26) ?_; (· (first | rfl | assumption))
            refine RW.gd rfl rfl rfl ?_ rfl (LO.fieldAddr rfl rfl ty28 rfl (by decide)) ?_; (· (first | rfl | assumption))
            refine RW.gd rfl rfl rfl ?_ rfl (LO.load rfl rfl rfl rfl ty3 rfl) ?_; (· (first | rfl | assumption))
            refine RW.gd rfl rfl rfl ?_ rfl (LO.neq rfl rfl rfl) ?_; (· (first | rfl | assumption))
            refine RW.opd rfl rfl (LO.pick_f rfl rfl ?_ rfl) ?_; (· (first | rfl | assumption))
            refine RW.nil ?_
            repeat (refine W.seq ?_)
            refine W.cond_f rfl (by first | rfl | assumption) ?_
            refine W.skip ?_
            repeat (refine W.seq ?_)
            refine W.region 46 50 (by decide) rfl rfl ?_
            refine RW.opd rfl rfl (LO.fieldAddr rfl rfl ty28 rfl (by decide)) ?_
            refine RW.opd rfl rfl (LO.load rfl rfl rfl rfl ty25 rfl) ?_
            refine RW.opd rfl rfl (LO.len_isl rfl rfl rfl ty25) ?_
            refine RW.opd rfl rfl (LO.move rfl rfl) ?_
            refine RW.nil ?_
            repeat (refine W.seq ?_)
            refine W.block ?_
            refine W.rename [(0, 0)] 1 (T' := up (up (up (up mt 1 (some (.own 0 0))) 37 (some (.isl (lnksC f.links) f.links.length))) 38 (some (.base (.int .i64 (f.links.length : Int))))) 39 (some (.base (.int .i64 (0 : Int))))) (H' := up mt 0 (some (fabC f))) (by decide) ?_ ?_ ?_
            · (repeat' (first | exact all_mt | refine all_up ?_ ?_)) <;> first | exact .inl ⟨rfl, rfl⟩ | exact .inr ⟨rfl, fun _ h => by cases h⟩ | exact .inl ⟨rfl, by first | rfl | assumption ⟩
            · (repeat' (first | exact all_mt | refine all_up ?_ ?_)) <;> first | exact ⟨rfl, _, rfl, .inr ⟨rfl, rfl⟩⟩ | exact ⟨rfl, _, rfl, .inl rfl⟩ | exact ⟨rfl, _, rfl, .inr ⟨rfl, by first | rfl | assumption ⟩⟩
            refine W.loop_ind (α := Nat) (fun x => f.links.length - x) 1 (fun x => up (up (up (up mt 1 (some (.own 0 0))) 37 (some (.isl (lnksC f.links) f.links.length))) 38 (some (.base (.int .i64 (f.links.length : Int))))) 39 (some (.base (.int .i64 (x : Int))))) (fun x => up mt 0 (some (fabC f))) (fun x => x ≤ f.links.length ∧ (f.links.take x).all (lnkB f) = true) 0 (show 0 ≤ f.links.length ∧ (f.links.take 0).all (lnkB f) = true from ⟨Nat.zero_le _, rfl⟩) ?_
            rintro i hIA ihA
            try (dsimp only at hIA)
            try dsimp only
            obtain ⟨hi, hall⟩ := hIA
            by_cases hc : i < f.links.length
            · have g1 : decide ((i : Int) < (f.links.length : Int)) = true := decide_eq_true (by omega)
              repeat (refine W.seq ?_)
              refine W.region 54 55 (by decide) rfl rfl ?_
              refine RW.opd rfl rfl (LO.lss rfl rfl rfl) ?_
              refine RW.nil ?_
              repeat (refine W.seq ?_)
              refine W.cond_t rfl (by first | rfl | assumption) ?_
              refine W.skip ?_
              repeat (refine W.seq ?_)
              refine W.block ?_
              repeat (refine W.seq ?_)
              refine W.region 59 63 (by decide) rfl rfl ?_
              refine RW.opd rfl rfl (LO.indexAddr_isl rfl rfl rfl rfl rfl ty25 ty56 ?_) ?_; (· (first | omega | decide | assumption | fail | (simp; done) | (simp; omega)))
              refine RW.opd rfl rfl (LO.load_imm_agg rfl rfl ty56 rfl (lnksC_tk hc)) ?_
              refine RW.opd rfl rfl (LO.alloc rfl ty56) ?_
              refine RW.opn rfl rfl (LO.store rfl rfl rfl rfl rfl ty56 rfl (by decide) (Sp.lit rfl)) ?_
              refine RW.nil ?_
              by_cases t0 : f.links[i].a = f.links[i].b
              · have ht0 : (f.links[i].a == f.links[i].b) = true := by simpa using t0
                repeat (refine W.seq ?_)
                refine W.region 67 106 (by decide) rfl rfl ?_
                refine RW.opd rfl rfl (LO.fieldAddr rfl rfl ty56 rfl (by decide)) ?_
                refine RW.opd rfl rfl (LO.load rfl rfl rfl rfl ty3 rfl) ?_
                refine RW.opd rfl rfl (LO.fieldAddr rfl rfl ty56 rfl (by decide)) ?_
                refine RW.opd rfl rfl (LO.load rfl rfl rfl rfl ty3 rfl) ?_
                refine RW.opd rfl rfl (LO.eql rfl rfl rfl) ?_
                refine RW.opd rfl rfl (LO.move rfl rfl) ?_
                refine RW.sd rfl rfl rfl ?_ rfl ?_; (· (first | rfl | assumption))
                refine RW.sd rfl rfl rfl ?_ rfl ?_; (· (first | rfl | assumption))
                refine RW.sd rfl rfl rfl ?_ rfl ?_; (· (first | rfl | assumption))
                refine RW.opd rfl rfl (LO.pick_t rfl rfl ?_ rfl) ?_; (· (first | rfl | assumption))
                refine RW.opd rfl rfl (LO.move rfl rfl) ?_
                refine RW.sd rfl rfl rfl ?_ rfl ?_; (· (first | rfl | assumption))
                refine RW.sd rfl rfl rfl ?_ rfl ?_; (· (first | rfl | assumption))
                refine RW.sd rfl rfl rfl ?_ rfl ?_; (· (first | rfl | assumption))
                refine RW.sd rfl rfl rfl ?_ rfl ?_; (· (first | rfl | assumption))
                refine RW.sd rfl rfl rfl ?_ rfl ?_; (· (first | rfl | assumption))
                refine RW.opd rfl rfl (LO.pick_t rfl rfl ?_ rfl) ?_; (· (first | rfl | assumption))
                refine RW.opd rfl rfl (LO.move rfl rfl) ?_
                refine RW.sd rfl rfl rfl ?_ rfl ?_; (· (first | rfl | assumption))
                refine RW.sd rfl rfl rfl ?_ rfl ?_; (· (first | rfl | assumption))
                refine RW.sd rfl rfl rfl ?_ rfl ?_; (· (first | rfl | assumption))
                refine RW.opd rfl rfl (LO.pick_t rfl rfl ?_ rfl) ?_; (· (first | rfl | assumption))
                refine RW.opd rfl rfl (LO.move rfl rfl) ?_
                refine RW.sd rfl rfl rfl ?_ rfl ?_; (· (first | rfl | assumption))
                refine RW.sd rfl rfl rfl ?_ rfl ?_; (· (first | rfl | assumption))
                refine RW.sd rfl rfl rfl ?_ rfl ?_; (· (first | rfl | assumption))
                refine RW.sd rfl rfl rfl ?_ rfl ?_; (· (first | rfl | assumption))
                refine RW.sd rfl rfl rfl ?_ rfl ?_; (· (first | rfl | assumption))
                refine RW.opd rfl rfl (LO.pick_t rfl rfl ?_ rfl) ?_; (· (first | rfl | assumption))
                refine RW.opd rfl rfl (LO.move rfl rfl) ?_
                refine RW.sd rfl rfl rfl ?_ rfl ?_; (· (first | rfl | assumption))
                refine RW.sd rfl rfl rfl ?_ rfl ?_; (· (first | rfl | assumption))
                refine RW.sd rfl rfl rfl ?_ rfl ?_; (· (first | rfl | assumption))
                refine RW.opd rfl rfl (LO.pick_t rfl rfl ?_ rfl) ?_; (· (first | rfl | assumption))
                refine RW.opd rfl rfl (LO.move rfl rfl) ?_
                refine RW.sd rfl rfl rfl ?_ rfl ?_; (· (first | rfl | assumption))
                refine RW.sd rfl rfl rfl ?_ rfl ?_; (· (first | rfl | assumption))
                refine RW.sd rfl rfl rfl ?_ rfl ?_; (· (first | rfl | assumption))
                refine RW.opd rfl rfl (LO.pick_t rfl rfl ?_ rfl) ?_; (· (first | rfl | assumption))
                refine RW.nil ?_
                repeat (refine W.seq ?_)
                refine W.cond_t rfl (by first | rfl | assumption) ?_
                repeat (refine W.seq ?_)
                refine W.region 110 111 (by decide) rfl rfl ?_
                refine RW.opd rfl rfl (LO.assign rfl rfl) ?_
                refine RW.nil ?_
                repeat (refine W.seq ?_)
                refine W.ret ⟨.inl rfl, _, mt, RVs.cons (RV.tmp rfl) (RVs.nil), all_mt, ?_⟩
                exact ⟨by rw [validB_bad hc (by unfold lnkB; simp; omega)]; rfl, rfl⟩
              · have ht0 : (f.links[i].a == f.links[i].b) = false := by simpa using t0
                by_cases t1 : f.links[i].a < 0
                · have ht1 : decide (f.links[i].a < 0) = true := decide_eq_true t1
                  repeat (refine W.seq ?_)
                  refine W.region 67 106 (by decide) rfl rfl ?_
                  refine RW.opd rfl rfl (LO.fieldAddr rfl rfl ty56 rfl (by decide)) ?_
                  refine RW.opd rfl rfl (LO.load rfl rfl rfl rfl ty3 rfl) ?_
                  refine RW.opd rfl rfl (LO.fieldAddr rfl rfl ty56 rfl (by decide)) ?_
                  refine RW.opd rfl rfl (LO.load rfl rfl rfl rfl ty3 rfl) ?_
                  refine RW.opd rfl rfl (LO.eql rfl rfl rfl) ?_
                  refine RW.opd rfl rfl (LO.move rfl rfl) ?_
                  refine RW.gd rfl rfl rfl ?_ rfl (LO.fieldAddr rfl rfl ty56 rfl (by decide)) ?_; (· (first | rfl | assumption))
                  refine RW.gd rfl rfl rfl ?_ rfl (LO.load rfl rfl rfl rfl ty3 rfl) ?_; (· (first | rfl | assumption))
                  refine RW.gd rfl rfl rfl ?_ rfl (LO.lss rfl rfl rfl) ?_; (· (first | rfl | assumption))
                  refine RW.opd rfl rfl (LO.pick_f rfl rfl ?_ rfl) ?_; (· (first | rfl | assumption))
                  refine RW.opd rfl rfl (LO.move rfl rfl) ?_
                  refine RW.sd rfl rfl rfl ?_ rfl ?_; (· (first | rfl | assumption))
                  refine RW.sd rfl rfl rfl ?_ rfl ?_; (· (first | rfl | assumption))
                  refine RW.sd rfl rfl rfl ?_ rfl ?_; (· (first | rfl | assumption))
                  refine RW.sd rfl rfl rfl ?_ rfl ?_; (· (first | rfl | assumption))
                  refine RW.sd rfl rfl rfl ?_ rfl ?_; (· (first | rfl | assumption))
                  refine RW.opd rfl rfl (LO.pick_t rfl rfl ?_ rfl) ?_; (· (first | rfl | assumption))
                  refine RW.opd rfl rfl (LO.move rfl rfl) ?_
                  refine RW.sd rfl rfl rfl ?_ rfl ?_; (· (first | rfl | assumption))
                  refine RW.sd rfl rfl rfl ?_ rfl ?_; (· (first | rfl | assumption))
                  refine RW.sd rfl rfl rfl ?_ rfl ?_; (· (first | rfl | assumption))
                  refine RW.opd rfl rfl (LO.pick_t rfl rfl ?_ rfl) ?_; (· (first | rfl | assumption))
                  refine RW.opd rfl rfl (LO.move rfl rfl) ?_
                  refine RW.sd rfl rfl rfl ?_ rfl ?_; (· (first | rfl | assumption))
                  refine RW.sd rfl rfl rfl ?_ rfl ?_; (· (first | rfl | assumption))
                  refine RW.sd rfl rfl rfl ?_ rfl ?_; (· (first | rfl | assumption))
                  refine RW.sd rfl rfl rfl ?_ rfl ?_; (· (first | rfl | assumption))
                  refine RW.sd rfl rfl rfl ?_ rfl ?_; (· (first | rfl | assumption))
                  refine RW.opd rfl rfl (LO.pick_t rfl rfl ?_ rfl) ?_; (· (first | rfl | assumption))
                  refine RW.opd rfl rfl (LO.move rfl rfl) ?_
                  refine RW.sd rfl rfl rfl ?_ rfl ?_; (· (first | rfl | assumption))
                  refine RW.sd rfl rfl rfl ?_ rfl ?_; (· (first | rfl | assumption))
                  refine RW.sd rfl rfl rfl ?_ rfl ?_; (· (first | rfl | assumption))
                  refine RW.opd rfl rfl (LO.pick_t rfl rfl ?_ rfl) ?_; (· (first | rfl | assumption))
                  refine RW.opd rfl rfl (LO.move rfl rfl) ?_
                  refine RW.sd rfl rfl rfl ?_ rfl ?_; (· (first | rfl | assumption))
                  refine RW.sd rfl rfl rfl ?_ rfl ?_; (· (first | rfl | assumption))
                  refine RW.sd rfl rfl rfl ?_ rfl ?_; (· (first | rfl | assumption))
                  refine RW.opd rfl rfl (LO.pick_t rfl rfl ?_ rfl) ?_; (· (first | rfl | assumption))
                  refine RW.nil ?_
                  repeat (refine W.seq ?_)
                  refine W.cond_t rfl (by first | rfl | assumption) ?_
                  repeat (refine W.seq ?_)
                  refine W.region 110 111 (by decide) rfl rfl ?_
                  refine RW.opd rfl rfl (LO.assign rfl rfl) ?_
                  refine RW.nil ?_
                  repeat (refine W.seq ?_)
                  refine W.ret ⟨.inl rfl, _, mt, RVs.cons (RV.tmp rfl) (RVs.nil), all_mt, ?_⟩
                  exact ⟨by rw [validB_bad hc (by unfold lnkB; simp; omega)]; rfl, rfl⟩
                · have ht1 : decide (f.links[i].a < 0) = false := decide_eq_false t1
                  by_cases t2 : f.links[i].a ≥ f.sw
                  · have ht2 : decide (f.links[i].a ≥ f.sw) = true := decide_eq_true t2
                    repeat (refine W.seq ?_)
                    refine W.region 67 106 (by decide) rfl rfl ?_
                    refine RW.opd rfl rfl (LO.fieldAddr rfl rfl ty56 rfl (by decide)) ?_
                    refine RW.opd rfl rfl (LO.load rfl rfl rfl rfl ty3 rfl) ?_
                    refine RW.opd rfl rfl (LO.fieldAddr rfl rfl ty56 rfl (by decide)) ?_
                    refine RW.opd rfl rfl (LO.load rfl rfl rfl rfl ty3 rfl) ?_
                    refine RW.opd rfl rfl (LO.eql rfl rfl rfl) ?_
                    refine RW.opd rfl rfl (LO.move rfl rfl) ?_
                    refine RW.gd rfl rfl rfl ?_ rfl (LO.fieldAddr rfl rfl ty56 rfl (by decide)) ?_; (· (first | rfl | assumption))
                    refine RW.gd rfl rfl rfl ?_ rfl (LO.load rfl rfl rfl rfl ty3 rfl) ?_; (· (first | rfl | assumption))
                    refine RW.gd rfl rfl rfl ?_ rfl (LO.lss rfl rfl rfl) ?_; (· (first | rfl | assumption))
                    refine RW.opd rfl rfl (LO.pick_f rfl rfl ?_ rfl) ?_; (· (first | rfl | assumption))
                    refine RW.opd rfl rfl (LO.move rfl rfl) ?_
                    refine RW.gd rfl rfl rfl ?_ rfl (LO.fieldAddr rfl rfl ty56 rfl (by decide)) ?_; (· (first | rfl | assumption))
                    refine RW.gd rfl rfl rfl ?_ rfl (LO.load rfl rfl rfl rfl ty3 rfl) ?_; (· (first | rfl | assumption))
                    refine RW.gd rfl rfl rfl ?_ rfl (LO.fieldAddr rfl rfl ty28 rfl (by decide)) ?_; (· (first | rfl | assumption))
                    refine RW.gd rfl rfl rfl ?_ rfl (LO.load rfl rfl rfl rfl ty3 rfl) ?_; (· (first | rfl | assumption))
                    refine RW.gd rfl rfl rfl ?_ rfl (LO.geq rfl rfl rfl) ?_; (· (first | rfl | assumption))
                    refine RW.opd rfl rfl (LO.pick_f rfl rfl ?_ rfl) ?_; (· (first | rfl | assumption))
                    refine RW.opd rfl rfl (LO.move rfl rfl) ?_
                    refine RW.sd rfl rfl rfl ?_ rfl ?_; (· (first | rfl | assumption))
                    refine RW.sd rfl rfl rfl ?_ rfl ?_; (· (first | rfl | assumption))
                    refine RW.sd rfl rfl rfl ?_ rfl ?_; (· (first | rfl | assumption))
                    refine RW.opd rfl rfl (LO.pick_t rfl rfl ?_ rfl) ?_; (· (first | rfl | assumption))
                    refine RW.opd rfl rfl (LO.move rfl rfl) ?_
                    refine RW.sd rfl rfl rfl ?_ rfl ?_; (· (first | rfl | assumption))
                    refine RW.sd rfl rfl rfl ?_ rfl ?_; (· (first | rfl | assumption))
                    refine RW.sd rfl rfl rfl ?_ rfl ?_; (· (first | rfl | assumption))
                    refine RW.sd rfl rfl rfl ?_ rfl ?_; (· (first | rfl | assumption))
                    refine RW.sd rfl rfl rfl ?_ rfl ?_; (· (first | rfl | assumption))
                    refine RW.opd rfl rfl (LO.pick_t rfl rfl ?_ rfl) ?_; (· (first | rfl | assumption))
                    refine RW.opd rfl rfl (LO.move rfl rfl) ?_
                    refine RW.sd rfl rfl rfl ?_ rfl ?_; (· (first | rfl | assumption))
                    refine RW.sd rfl rfl rfl ?_ rfl ?_; (· (first | rfl | assumption))
                    refine RW.sd rfl rfl rfl ?_ rfl ?_; (· (first | rfl | assumption))
                    refine RW.opd rfl rfl (LO.pick_t rfl rfl ?_ rfl) ?_; (· (first | rfl | assumption))
                    refine RW.opd rfl rfl (LO.move rfl rfl) ?_
                    refine RW.sd rfl rfl rfl ?_ rfl ?_; (· (first | rfl | assumption))
                    refine RW.sd rfl rfl rfl ?_ rfl ?_; (· (first | rfl | assumption))
                    refine RW.sd rfl rfl rfl ?_ rfl ?_; (· (first | rfl | assumption))
                    refine RW.opd rfl rfl (LO.pick_t rfl rfl ?_ rfl) ?_; (· (first | rfl | assumption))
                    refine RW.nil ?_
                    repeat (refine W.seq ?_)
                    refine W.cond_t rfl (by first | rfl | assumption) ?_
                    repeat (refine W.seq ?_)
                    refine W.region 110 111 (by decide) rfl rfl ?_
                    refine RW.opd rfl rfl (LO.assign rfl rfl) ?_
                    refine RW.nil ?_
                    repeat (refine W.seq ?_)
                    refine W.ret ⟨.inl rfl, _, mt, RVs.cons (RV.tmp rfl) (RVs.nil), all_mt, ?_⟩
                    exact ⟨by rw [validB_bad hc (by unfold lnkB; simp; omega)]; rfl, rfl⟩
                  · have ht2 : decide (f.links[i].a ≥ f.sw) = false := decide_eq_false t2
                    by_cases t3 : f.links[i].b < 0
                    · have ht3 : decide (f.links[i].b < 0) = true := decide_eq_true t3
                      repeat (refine W.seq ?_)
                      refine W.region 67 106 (by decide) rfl rfl ?_
                      refine RW.opd rfl rfl (LO.fieldAddr rfl rfl ty56 rfl (by decide)) ?_
                      refine RW.opd rfl rfl (LO.load rfl rfl rfl rfl ty3 rfl) ?_
                      refine RW.opd rfl rfl (LO.fieldAddr rfl rfl ty56 rfl (by decide)) ?_
                      refine RW.opd rfl rfl (LO.load rfl rfl rfl rfl ty3 rfl) ?_
                      refine RW.opd rfl rfl (LO.eql rfl rfl rfl) ?_
                      refine RW.opd rfl rfl (LO.move rfl rfl) ?_
                      refine RW.gd rfl rfl rfl ?_ rfl (LO.fieldAddr rfl rfl ty56 rfl (by decide)) ?_; (· (first | rfl | assumption))
                      refine RW.gd rfl rfl rfl ?_ rfl (LO.load rfl rfl rfl rfl ty3 rfl) ?_; (· (first | rfl | assumption))
                      refine RW.gd rfl rfl rfl ?_ rfl (LO.lss rfl rfl rfl) ?_; (· (first | rfl | assumption))
                      refine RW.opd rfl rfl (LO.pick_f rfl rfl ?_ rfl) ?_; (· (first | rfl | assumption))
                      refine RW.opd rfl rfl (LO.move rfl rfl) ?_
                      refine RW.gd rfl rfl rfl ?_ rfl (LO.fieldAddr rfl rfl ty56 rfl (by decide)) ?_; (· (first | rfl | assumption))
                      refine RW.gd rfl rfl rfl ?_ rfl (LO.load rfl rfl rfl rfl ty3 rfl) ?_; (· (first | rfl | assumption))
                      refine RW.gd rfl rfl rfl ?_ rfl (LO.fieldAddr rfl rfl ty28 rfl (by decide)) ?_; (· (first | rfl | assumption))
                      refine RW.gd rfl rfl rfl ?_ rfl (LO.load rfl rfl rfl rfl ty3 rfl) ?_; (· (first | rfl | assumption))
                      refine RW.gd rfl rfl rfl ?_ rfl (LO.geq rfl rfl rfl) ?_; (· (first | rfl | assumption))
                      refine RW.opd rfl rfl (LO.pick_f rfl rfl ?_ rfl) ?_; (· (first | rfl | assumption))
                      refine RW.opd rfl rfl (LO.move rfl rfl) ?_
                      refine RW.gd rfl rfl rfl ?_ rfl (LO.fieldAddr rfl rfl ty56 rfl (by decide)) ?_; (· (first | rfl | assumption))
                      refine RW.gd rfl rfl rfl ?_ rfl (LO.load rfl rfl rfl rfl ty3 rfl) ?_; (· (first | rfl | assumption))
                      refine RW.gd rfl rfl rfl ?_ rfl (LO.lss rfl rfl rfl) ?_; (· (first | rfl | assumption))
                      refine RW.opd rfl rfl (LO.pick_f rfl rfl ?_ rfl) ?_; (· (first | rfl | assumption))
                      refine RW.opd rfl rfl (LO.move rfl rfl) ?_
                      refine RW.sd rfl rfl rfl ?_ rfl ?_; (· (first | rfl | assumption))
                      refine RW.sd rfl rfl rfl ?_ rfl ?_; (· (first | rfl | assumption))
                      refine RW.sd rfl rfl rfl ?_ rfl ?_; (· (first | rfl | assumption))
                      refine RW.sd rfl rfl rfl ?_ rfl ?_; (· (first | rfl | assumption))
                      refine RW.sd rfl rfl rfl ?_ rfl ?_; (· (first | rfl | assumption))
                      refine RW.opd rfl rfl (LO.pick_t rfl rfl ?_ rfl) ?_; (· (first | rfl | assumption))
                      refine RW.opd rfl rfl (LO.move rfl rfl) ?_
                      refine RW.sd rfl rfl rfl ?_ rfl ?_; (· (first | rfl | assumption))
                      refine RW.sd rfl rfl rfl ?_ rfl ?_; (· (first | rfl | assumption))
                      refine RW.sd rfl rfl rfl ?_ rfl ?_; (· (first | rfl | assumption))
                      refine RW.opd rfl rfl (LO.pick_t rfl rfl ?_ rfl) ?_; (· (first | rfl | assumption))
                      refine RW.opd rfl rfl (LO.move rfl rfl) ?_
                      refine RW.sd rfl rfl rfl ?_ rfl ?_; (· (first | rfl | assumption))
                      refine RW.sd rfl rfl rfl ?_ rfl ?_; (· (first | rfl | assumption))
                      refine RW.sd rfl rfl rfl ?_ rfl ?_; (· (first | rfl | assumption))
                      refine RW.opd rfl rfl (LO.pick_t rfl rfl ?_ rfl) ?_; (· (first | rfl | assumption))
                      refine RW.nil ?_
                      repeat (refine W.seq ?_)
                      refine W.cond_t rfl (by first | rfl | assumption) ?_
                      repeat (refine W.seq ?_)
                      refine W.region 110 111 (by decide) rfl rfl ?_
                      refine RW.opd rfl rfl (LO.assign rfl rfl) ?_
                      refine RW.nil ?_
                      repeat (refine W.seq ?_)
                      refine W.ret ⟨.inl rfl, _, mt, RVs.cons (RV.tmp rfl) (RVs.nil), all_mt, ?_⟩
                      exact ⟨by rw [validB_bad hc (by unfold lnkB; simp; omega)]; rfl, rfl⟩
                    · have ht3 : decide (f.links[i].b < 0) = false := decide_eq_false t3
                      by_cases t4 : f.links[i].b ≥ f.sw
                      · have ht4 : decide (f.links[i].b ≥ f.sw) = true := decide_eq_true t4
                        repeat (refine W.seq ?_)
                        refine W.region 67 106 (by decide) rfl rfl ?_
                        refine RW.opd rfl rfl (LO.fieldAddr rfl rfl ty56 rfl (by decide)) ?_
                        refine RW.opd rfl rfl (LO.load rfl rfl rfl rfl ty3 rfl) ?_
                        refine RW.opd rfl rfl (LO.fieldAddr rfl rfl ty56 rfl (by decide)) ?_
                        refine RW.opd rfl rfl (LO.load rfl rfl rfl rfl ty3 rfl) ?_
                        refine RW.opd rfl rfl (LO.eql rfl rfl rfl) ?_
                        refine RW.opd rfl rfl (LO.move rfl rfl) ?_
                        refine RW.gd rfl rfl rfl ?_ rfl (LO.fieldAddr rfl rfl ty56 rfl (by decide)) ?_; (· (first | rfl | assumption))
                        refine RW.gd rfl rfl rfl ?_ rfl (LO.load rfl rfl rfl rfl ty3 rfl) ?_; (· (first | rfl | assumption))
                        refine RW.gd rfl rfl rfl ?_ rfl (LO.lss rfl rfl rfl) ?_; (· (first | rfl | assumption))
                        refine RW.opd rfl rfl (LO.pick_f rfl rfl ?_ rfl) ?_; (· (first | rfl | assumption))
                        refine RW.opd rfl rfl (LO.move rfl rfl) ?_
                        refine RW.gd rfl rfl rfl ?_ rfl (LO.fieldAddr rfl rfl ty56 rfl (by decide)) ?_; (· (first | rfl | assumption))
                        refine RW.gd rfl rfl rfl ?_ rfl (LO.load rfl rfl rfl rfl ty3 rfl) ?_; (· (first | rfl | assumption))
                        refine RW.gd rfl rfl rfl ?_ rfl (LO.fieldAddr rfl rfl ty28 rfl (by decide)) ?_; (· (first | rfl | assumption))
                        refine RW.gd rfl rfl rfl ?_ rfl (LO.load rfl rfl rfl rfl ty3 rfl) ?_; (· (first | rfl | assumption))
                        refine RW.gd rfl rfl rfl ?_ rfl (LO.geq rfl rfl rfl) ?_; (· (first | rfl | assumption))
                        refine RW.opd rfl rfl (LO.pick_f rfl rfl ?_ rfl) ?_; (· (first | rfl | assumption))
                        refine RW.opd rfl rfl (LO.move rfl rfl) ?_
                        refine RW.gd rfl rfl rfl ?_ rfl (LO.fieldAddr rfl rfl ty56 rfl (by decide)) ?_; (· (first | rfl | assumption))
                        refine RW.gd rfl rfl rfl ?_ rfl (LO.load rfl rfl rfl rfl ty3 rfl) ?_; (· (first | rfl | assumption))
                        refine RW.gd rfl rfl rfl ?_ rfl (LO.lss rfl rfl rfl) ?_; (· (first | rfl | assumption))
                        refine RW.opd rfl rfl (LO.pick_f rfl rfl ?_ rfl) ?_; (· (first | rfl | assumption))
                        refine RW.opd rfl rfl (LO.move rfl rfl) ?_
                        refine RW.gd rfl rfl rfl ?_ rfl (LO.fieldAddr rfl rfl ty56 rfl (by decide)) ?_; (· (first | rfl | assumption))
                        refine RW.gd rfl rfl rfl ?_ rfl (LO.load rfl rfl rfl rfl ty3 rfl) ?_; (· (first | rfl | assumption))
                        refine RW.gd rfl rfl rfl ?_ rfl (LO.fieldAddr rfl rfl ty28 rfl (by decide)) ?_; (· (first | rfl | assumption))
                        refine RW.gd rfl rfl rfl ?_ rfl (LO.load rfl rfl rfl rfl ty3 rfl) ?_; (· (first | rfl | assumption))
                        refine RW.gd rfl rfl rfl ?_ rfl (LO.geq rfl rfl rfl) ?_; (· (first | rfl | assumption))
                        refine RW.opd rfl rfl (LO.pick_f rfl rfl ?_ rfl) ?_; (· (first | rfl | assumption))
                        refine RW.opd rfl rfl (LO.move rfl rfl) ?_
                        refine RW.sd rfl rfl rfl ?_ rfl ?_; (· (first | rfl | assumption))
                        refine RW.sd rfl rfl rfl ?_ rfl ?_; (· (first | rfl | assumption))
                        refine RW.sd rfl rfl rfl ?_ rfl ?_; (· (first | rfl | assumption))
                        refine RW.opd rfl rfl (LO.pick_t rfl rfl ?_ rfl) ?_; (· (first | rfl | assumption))
                        refine RW.opd rfl rfl (LO.move rfl rfl) ?_
                        refine RW.sd rfl rfl rfl ?_ rfl ?_; (· (first | rfl | assumption))
                        refine RW.sd rfl rfl rfl ?_ rfl ?_; (· (first | rfl | assumption))
                        refine RW.sd rfl rfl rfl ?_ rfl ?_; (· (first | rfl | assumption))
                        refine RW.opd rfl rfl (LO.pick_t rfl rfl ?_ rfl) ?_; (· (first | rfl | assumption))
                        refine RW.nil ?_
                        repeat (refine W.seq ?_)
                        refine W.cond_t rfl (by first | rfl | assumption) ?_
                        repeat (refine W.seq ?_)
                        refine W.region 110 111 (by decide) rfl rfl ?_
                        refine RW.opd rfl rfl (LO.assign rfl rfl) ?_
                        refine RW.nil ?_
                        repeat (refine W.seq ?_)
                        refine W.ret ⟨.inl rfl, _, mt, RVs.cons (RV.tmp rfl) (RVs.nil), all_mt, ?_⟩
                        exact ⟨by rw [validB_bad hc (by unfold lnkB; simp; omega)]; rfl, rfl⟩
                      · have ht4 : decide (f.links[i].b ≥ f.sw) = false := decide_eq_false t4
                        by_cases t5 : f.links[i].c < 1
                        · have ht5 : decide (f.links[i].c < 1) = true := decide_eq_true t5
                          repeat (refine W.seq ?_)
                          refine W.region 67 106 (by decide) rfl rfl ?_
                          refine RW.opd rfl rfl (LO.fieldAddr rfl rfl ty56 rfl (by decide)) ?_
                          refine RW.opd rfl rfl (LO.load rfl rfl rfl rfl ty3 rfl) ?_
                          refine RW.opd rfl rfl (LO.fieldAddr rfl rfl ty56 rfl (by decide)) ?_
                          refine RW.opd rfl rfl (LO.load rfl rfl rfl rfl ty3 rfl) ?_
                          refine RW.opd rfl rfl (LO.eql rfl rfl rfl) ?_
                          refine RW.opd rfl rfl (LO.move rfl rfl) ?_
                          refine RW.gd rfl rfl rfl ?_ rfl (LO.fieldAddr rfl rfl ty56 rfl (by decide)) ?_; (· (first | rfl | assumption))
                          refine RW.gd rfl rfl rfl ?_ rfl (LO.load rfl rfl rfl rfl ty3 rfl) ?_; (· (first | rfl | assumption))
                          refine RW.gd rfl rfl rfl ?_ rfl (LO.lss rfl rfl rfl) ?_; (· (first | rfl | assumption))
                          refine RW.opd rfl rfl (LO.pick_f rfl rfl ?_ rfl) ?_; (· (first | rfl | assumption))
                          refine RW.opd rfl rfl (LO.move rfl rfl) ?_
                          refine RW.gd rfl rfl rfl ?_ rfl (LO.fieldAddr rfl rfl ty56 rfl (by decide)) ?_; (· (first | rfl | assumption))
                          refine RW.gd rfl rfl rfl ?_ rfl (LO.load rfl rfl rfl rfl ty3 rfl) ?_; (· (first | rfl | assumption))
                          refine RW.gd rfl rfl rfl ?_ rfl (LO.fieldAddr rfl rfl ty28 rfl (by decide)) ?_; (· (first | rfl | assumption))
                          refine RW.gd rfl rfl rfl ?_ rfl (LO.load rfl rfl rfl rfl ty3 rfl) ?_; (· (first | rfl | assumption))
                          refine RW.gd rfl rfl rfl ?_ rfl (LO.geq rfl rfl rfl) ?_; (· (first | rfl | assumption))
                          refine RW.opd rfl rfl (LO.pick_f rfl rfl ?_ rfl) ?_; (· (first | rfl | assumption))
                          refine RW.opd rfl rfl (LO.move rfl rfl) ?_
                          refine RW.gd rfl rfl rfl ?_ rfl (LO.fieldAddr rfl rfl ty56 rfl (by decide)) ?_; (· (first | rfl | assumption))
                          refine RW.gd rfl rfl rfl ?_ rfl (LO.load rfl rfl rfl rfl ty3 rfl) ?_; (· (first | rfl | assumption))
                          refine RW.gd rfl rfl rfl ?_ rfl (LO.lss rfl rfl rfl) ?_; (· (first | rfl | assumption))
                          refine RW.opd rfl rfl (LO.pick_f rfl rfl ?_ rfl) ?_; (· (first | rfl | assumption))
                          refine RW.opd rfl rfl (LO.move rfl rfl) ?_
                          refine RW.gd rfl rfl rfl ?_ rfl (LO.fieldAddr rfl rfl ty56 rfl (by decide)) ?_; (· (first | rfl | assumption))
                          refine RW.gd rfl rfl rfl ?_ rfl (LO.load rfl rfl rfl rfl ty3 rfl) ?_; (· (first | rfl | assumption))
                          refine RW.gd rfl rfl rfl ?_ rfl (LO.fieldAddr rfl rfl ty28 rfl (by decide)) ?_; (· (first | rfl | assumption))
                          refine RW.gd rfl rfl rfl ?_ rfl (LO.load rfl rfl rfl rfl ty3 rfl) ?_; (· (first | rfl | assumption))
                          refine RW.gd rfl rfl rfl ?_ rfl (LO.geq rfl rfl rfl) ?_; (· (first | rfl | assumption))
                          refine RW.opd rfl rfl (LO.pick_f rfl rfl ?_ rfl) ?_; (· (first | rfl | assumption))
                          refine RW.opd rfl rfl (LO.move rfl rfl) ?_
                          refine RW.gd rfl rfl rfl ?_ rfl (LO.fieldAddr rfl rfl ty56 rfl (by decide)) ?_; (· (first | rfl | assumption))
                          refine RW.gd rfl rfl rfl ?_ rfl (LO.load rfl rfl rfl rfl ty3 rfl) ?_; (· (first | rfl | assumption))
                          refine RW.gd rfl rfl rfl ?_ rfl (LO.lss rfl rfl rfl) ?_; (· (first | rfl | assumption))
                          refine RW.opd rfl rfl (LO.pick_f rfl rfl ?_ rfl) ?_; (· (first | rfl | assumption))
                          refine RW.opd rfl rfl (LO.move rfl rfl) ?_
                          refine RW.sd rfl rfl rfl ?_ rfl ?_; (· (first | rfl | assumption))
                          refine RW.sd rfl rfl rfl ?_ rfl ?_; (· (first | rfl | assumption))
                          refine RW.sd rfl rfl rfl ?_ rfl ?_; (· (first | rfl | assumption))
                          refine RW.opd rfl rfl (LO.pick_t rfl rfl ?_ rfl) ?_; (· (first | rfl | assumption))
                          refine RW.nil ?_
                          repeat (refine W.seq ?_)
                          refine W.cond_t rfl (by first | rfl | assumption) ?_
                          repeat (refine W.seq ?_)
                          refine W.region 110 111 (by decide) rfl rfl ?_
                          refine RW.opd rfl rfl (LO.assign rfl rfl) ?_
                          refine RW.nil ?_
                          repeat (refine W.seq ?_)
                          refine W.ret ⟨.inl rfl, _, mt, RVs.cons (RV.tmp rfl) (RVs.nil), all_mt, ?_⟩
                          exact ⟨by rw [validB_bad hc (by unfold lnkB; simp; omega)]; rfl, rfl⟩
                        · have ht5 : decide (f.links[i].c < 1) = false := decide_eq_false t5
                          by_cases t6 : f.links[i].c > 1048576
                          · have ht6 : decide (f.links[i].c > 1048576) = true := decide_eq_true t6
                            repeat (refine W.seq ?_)
                            refine W.region 67 106 (by decide) rfl rfl ?_
                            refine RW.opd rfl rfl (LO.fieldAddr rfl rfl ty56 rfl (by decide)) ?_
                            refine RW.opd rfl rfl (LO.load rfl rfl rfl rfl ty3 rfl) ?_
                            refine RW.opd rfl rfl (LO.fieldAddr rfl rfl ty56 rfl (by decide)) ?_
                            refine RW.opd rfl rfl (LO.load rfl rfl rfl rfl ty3 rfl) ?_
                            refine RW.opd rfl rfl (LO.eql rfl rfl rfl) ?_
                            refine RW.opd rfl rfl (LO.move rfl rfl) ?_
                            refine RW.gd rfl rfl rfl ?_ rfl (LO.fieldAddr rfl rfl ty56 rfl (by decide)) ?_; (· (first | rfl | assumption))
                            refine RW.gd rfl rfl rfl ?_ rfl (LO.load rfl rfl rfl rfl ty3 rfl) ?_; (· (first | rfl | assumption))
                            refine RW.gd rfl rfl rfl ?_ rfl (LO.lss rfl rfl rfl) ?_; (· (first | rfl | assumption))
                            refine RW.opd rfl rfl (LO.pick_f rfl rfl ?_ rfl) ?_; (· (first | rfl | assumption))
                            refine RW.opd rfl rfl (LO.move rfl rfl) ?_
                            refine RW.gd rfl rfl rfl ?_ rfl (LO.fieldAddr rfl rfl ty56 rfl (by decide)) ?_; (· (first | rfl | assumption))
                            refine RW.gd rfl rfl rfl ?_ rfl (LO.load rfl rfl rfl rfl ty3 rfl) ?_; (· (first | rfl | assumption))
                            refine RW.gd rfl rfl rfl ?_ rfl (LO.fieldAddr rfl rfl ty28 rfl (by decide)) ?_; (· (first | rfl | assumption))
                            refine RW.gd rfl rfl rfl ?_ rfl (LO.load rfl rfl rfl rfl ty3 rfl) ?_; (· (first | rfl | assumption))
                            refine RW.gd rfl rfl rfl ?_ rfl (LO.geq rfl rfl rfl) ?_; (· (first | rfl | assumption))
                            refine RW.opd rfl rfl (LO.pick_f rfl rfl ?_ rfl) ?_; (· (first | rfl | assumption))
                            refine RW.opd rfl rfl (LO.move rfl rfl) ?_
                            refine RW.gd rfl rfl rfl ?_ rfl (LO.fieldAddr rfl rfl ty56 rfl (by decide)) ?_; (· (first | rfl | assumption))
                            refine RW.gd rfl rfl rfl ?_ rfl (LO.load rfl rfl rfl rfl ty3 rfl) ?_; (· (first | rfl | assumption))
                            refine RW.gd rfl rfl rfl ?_ rfl (LO.lss rfl rfl rfl) ?_; (· (first | rfl | assumption))
                            refine RW.opd rfl rfl (LO.pick_f rfl rfl ?_ rfl) ?_; (· (first | rfl | assumption))
                            refine RW.opd rfl rfl (LO.move rfl rfl) ?_
                            refine RW.gd rfl rfl rfl ?_ rfl (LO.fieldAddr rfl rfl ty56 rfl (by decide)) ?_; (· (first | rfl | assumption))
                            refine RW.gd rfl rfl rfl ?_ rfl (LO.load rfl rfl rfl rfl ty3 rfl) ?_; (· (first | rfl | assumption))
                            refine RW.gd rfl rfl rfl ?_ rfl (LO.fieldAddr rfl rfl ty28 rfl (by decide)) ?_; (· (first | rfl | assumption))
                            refine RW.gd rfl rfl rfl ?_ rfl (LO.load rfl rfl rfl rfl ty3 rfl) ?_; (· (first | rfl | assumption))
                            refine RW.gd rfl rfl rfl ?_ rfl (LO.geq rfl rfl rfl) ?_; (· (first | rfl | assumption))
                            refine RW.opd rfl rfl (LO.pick_f rfl rfl ?_ rfl) ?_; (· (first | rfl | assumption))
                            refine RW.opd rfl rfl (LO.move rfl rfl) ?_
                            refine RW.gd rfl rfl rfl ?_ rfl (LO.fieldAddr rfl rfl ty56 rfl (by decide)) ?_; (· (first | rfl | assumption))
                            refine RW.gd rfl rfl rfl ?_ rfl (LO.load rfl rfl rfl rfl ty3 rfl) ?_; (· (first | rfl | assumption))
                            refine RW.gd rfl rfl rfl ?_ rfl (LO.lss rfl rfl rfl) ?_; (· (first | rfl | assumption))
                            refine RW.opd rfl rfl (LO.pick_f rfl rfl ?_ rfl) ?_; (· (first | rfl | assumption))
                            refine RW.opd rfl rfl (LO.move rfl rfl) ?_
                            refine RW.gd rfl rfl rfl ?_ rfl (LO.fieldAddr rfl rfl ty56 rfl (by decide)) ?_; (· (first | rfl | assumption))
                            refine RW.gd rfl rfl rfl ?_ rfl (LO.load rfl rfl rfl rfl ty3 rfl) ?_; (· (first | rfl | assumption))
                            refine RW.gd rfl rfl rfl ?_ rfl (LO.gtr rfl rfl rfl) ?_; (· (first | rfl | assumption))
                            refine RW.opd rfl rfl (LO.pick_f rfl rfl ?_ rfl) ?_; (· (first | rfl | assumption))
                            refine RW.nil ?_
                            repeat (refine W.seq ?_)
                            refine W.cond_t rfl (by first | rfl | assumption) ?_
                            repeat (refine W.seq ?_)
                            refine W.region 110 111 (by decide) rfl rfl ?_
                            refine RW.opd rfl rfl (LO.assign rfl rfl) ?_
                            refine RW.nil ?_
                            repeat (refine W.seq ?_)
                            refine W.ret ⟨.inl rfl, _, mt, RVs.cons (RV.tmp rfl) (RVs.nil), all_mt, ?_⟩
                            exact ⟨by rw [validB_bad hc (by unfold lnkB; simp; omega)]; rfl, rfl⟩
                          · have ht6 : decide (f.links[i].c > 1048576) = false := decide_eq_false t6
                            repeat (refine W.seq ?_)
                            refine W.region 67 106 (by decide) rfl rfl ?_
                            refine RW.opd rfl rfl (LO.fieldAddr rfl rfl ty56 rfl (by decide)) ?_
                            refine RW.opd rfl rfl (LO.load rfl rfl rfl rfl ty3 rfl) ?_
                            refine RW.opd rfl rfl (LO.fieldAddr rfl rfl ty56 rfl (by decide)) ?_
                            refine RW.opd rfl rfl (LO.load rfl rfl rfl rfl ty3 rfl) ?_
                            refine RW.opd rfl rfl (LO.eql rfl rfl rfl) ?_
                            refine RW.opd rfl rfl (LO.move rfl rfl) ?_
                            refine RW.gd rfl rfl rfl ?_ rfl (LO.fieldAddr rfl rfl ty56 rfl (by decide)) ?_; (· (first | rfl | assumption))
                            refine RW.gd rfl rfl rfl ?_ rfl (LO.load rfl rfl rfl rfl ty3 rfl) ?_; (· (first | rfl | assumption))
                            refine RW.gd rfl rfl rfl ?_ rfl (LO.lss rfl rfl rfl) ?_; (· (first | rfl | assumption))
                            refine RW.opd rfl rfl (LO.pick_f rfl rfl ?_ rfl) ?_; (· (first | rfl | assumption))
                            refine RW.opd rfl rfl (LO.move rfl rfl) ?_
                            refine RW.gd rfl rfl rfl ?_ rfl (LO.fieldAddr rfl rfl ty56 rfl (by decide)) ?_; (· (first | rfl | assumption))
                            refine RW.gd rfl rfl rfl ?_ rfl (LO.load rfl rfl rfl rfl ty3 rfl) ?_; (· (first | rfl | assumption))
                            refine RW.gd rfl rfl rfl ?_ rfl (LO.fieldAddr rfl rfl ty28 rfl (by decide)) ?_; (· (first | rfl | assumption))
                            refine RW.gd rfl rfl rfl ?_ rfl (LO.load rfl rfl rfl rfl ty3 rfl) ?_; (· (first | rfl | assumption))
                            refine RW.gd rfl rfl rfl ?_ rfl (LO.geq rfl rfl rfl) ?_; (· (first | rfl | assumption))
                            refine RW.opd rfl rfl (LO.pick_f rfl rfl ?_ rfl) ?_; (· (first | rfl | assumption))
                            refine RW.opd rfl rfl (LO.move rfl rfl) ?_
                            refine RW.gd rfl rfl rfl ?_ rfl (LO.fieldAddr rfl rfl ty56 rfl (by decide)) ?_; (· (first | rfl | assumption))
                            refine RW.gd rfl rfl rfl ?_ rfl (LO.load rfl rfl rfl rfl ty3 rfl) ?_; (· (first | rfl | assumption))
                            refine RW.gd rfl rfl rfl ?_ rfl (LO.lss rfl rfl rfl) ?_; (· (first | rfl | assumption))
                            refine RW.opd rfl rfl (LO.pick_f rfl rfl ?_ rfl) ?_; (· (first | rfl | assumption))
                            refine RW.opd rfl rfl (LO.move rfl rfl) ?_
                            refine RW.gd rfl rfl rfl ?_ rfl (LO.fieldAddr rfl rfl ty56 rfl (by decide)) ?_; (· (first | rfl | assumption))
                            refine RW.gd rfl rfl rfl ?_ rfl (LO.load rfl rfl rfl rfl ty3 rfl) ?_; (· (first | rfl | assumption))
                            refine RW.gd rfl rfl rfl ?_ rfl (LO.fieldAddr rfl rfl ty28 rfl (by decide)) ?_; (· (first | rfl | assumption))
                            refine RW.gd rfl rfl rfl ?_ rfl (LO.load rfl rfl rfl rfl ty3 rfl) ?_; (· (first | rfl | assumption))
                            refine RW.gd rfl rfl rfl ?_ rfl (LO.geq rfl rfl rfl) ?_; (· (first | rfl | assumption))
                            refine RW.opd rfl rfl (LO.pick_f rfl rfl ?_ rfl) ?_; (· (first | rfl | assumption))
                            refine RW.opd rfl rfl (LO.move rfl rfl) ?_
                            refine RW.gd rfl rfl rfl ?_ rfl (LO.fieldAddr rfl rfl ty56 rfl (by decide)) ?_; (· (first | rfl | assumption))
                            refine RW.gd rfl rfl rfl ?_ rfl (LO.load rfl rfl rfl rfl ty3 rfl) ?_; (· (first | rfl | assumption))
                            refine RW.gd rfl rfl rfl ?_ rfl (LO.lss rfl rfl rfl) ?_; (· (first | rfl | assumption))
                            refine RW.opd rfl rfl (LO.pick_f rfl rfl ?_ rfl) ?_; (· (first | rfl | assumption))
                            refine RW.opd rfl rfl (LO.move rfl rfl) ?_
                            refine RW.gd rfl rfl rfl ?_ rfl (LO.fieldAddr rfl rfl ty56 rfl (by decide)) ?_; (· (first | rfl | assumption))
                            refine RW.gd rfl rfl rfl ?_ rfl (LO.load rfl rfl rfl rfl ty3 rfl) ?_; (· (first | rfl | assumption))
                            refine RW.gd rfl rfl rfl ?_ rfl (LO.gtr rfl rfl rfl) ?_; (· (first | rfl | assumption))
                            refine RW.opd rfl rfl (LO.pick_f rfl rfl ?_ rfl) ?_; (· (first | rfl | assumption))
                            refine RW.nil ?_
                            repeat (refine W.seq ?_)
                            refine W.cond_f rfl (by first | rfl | assumption) ?_
                            refine W.skip ?_
                            repeat (refine W.seq ?_)
                            refine W.region 115 117 (by decide) rfl rfl ?_
                            refine RW.opd rfl rfl (LO.add_in rfl rfl rfl ?_) ?_; (· (first | exact IntWalk.i64_in _ (by omega) | assumption))
                            refine RW.opd rfl rfl (LO.move rfl rfl) ?_
                            refine RW.nil ?_
                            refine WL.rename [(0, 0)] 1 (by decide) ?_ ?_ (ihA (i + 1) (show f.links.length - (i + 1) < f.links.length - i from by omega) (show (i + 1) ≤ f.links.length ∧ (f.links.take (i + 1)).all (lnkB f) = true from ⟨by omega, by rw [all_take_succ _ hc, hall]; unfold lnkB; simp; omega⟩))
                            · (repeat' (first | exact all_mt | refine all_up ?_ ?_)) <;> first | exact .inl ⟨rfl, rfl⟩ | exact .inr ⟨rfl, fun _ h => by cases h⟩ | exact .inl ⟨rfl, by first | rfl | assumption ⟩
                            · (repeat' (first | exact all_mt | refine all_up ?_ ?_)) <;> first | exact ⟨rfl, _, rfl, .inr ⟨rfl, rfl⟩⟩ | exact ⟨rfl, _, rfl, .inl rfl⟩ | exact ⟨rfl, _, rfl, .inr ⟨rfl, by first | rfl | assumption ⟩⟩
            · have g1 : decide ((i : Int) < (f.links.length : Int)) = false := decide_eq_false (by omega)
              repeat (refine W.seq ?_)
              refine W.region 54 55 (by decide) rfl rfl ?_
              refine RW.opd rfl rfl (LO.lss rfl rfl rfl) ?_
              refine RW.nil ?_
              repeat (refine W.seq ?_)
              refine W.cond_f rfl (by first | rfl | assumption) ?_
              refine W.exit ?_
              obtain rfl : i = f.links.length := by omega
              repeat (refine W.seq ?_)
              refine W.region 121 122 (by decide) rfl rfl ?_
              refine RW.opd rfl rfl (LO.assign rfl rfl) ?_
              refine RW.nil ?_
              repeat (refine W.seq ?_)
              refine W.ret ⟨.inl rfl, _, mt, RVs.cons (RV.tmp rfl) (RVs.nil), all_mt, ?_⟩
              exact ⟨by rw [validB_all hall, hsz]; rfl, rfl⟩
end Go.Proofs.YtbjfaepjpmogjaaDoor
