/-
  DrainFits returns true.
-/
import Derived.Test.YtbjfaepjpmogjaaDoorKo
namespace Go.Proofs.YtbjfaepjpmogjaaDoor
open Go.RowKit

def lnkV (x : Lnk) : List Value := [.int .i64 x.a, .int .i64 x.b, .int .i64 x.c]
theorem eqLnk_in (d : Nat) (a : Lnk) (w : World) : (Op.equalIn (d + 2) 56 (.agg #[.int .i64 a.a, .int .i64 a.b, .int .i64 a.c]) (.agg #[.int .i64 a.a, .int .i64 a.b, .int .i64 a.c])).run Tryd.prog w = .ok true w := by
  rw [run_equalIn_struct w (d + 1) 56 _ _ (by kernel_rfl) (by kernel_rfl)]
  have hu := Tryd.underlying56
  have hi := Tryd.underlying3
  simp [Program.fieldsOf, hu, Op.eqFields, part, isAgg, run_underlying hi, run_equalIn_int _ _ _ _ _ _ _ hi]
theorem LO.neLnk {o : Oper} {E : Operand → Option AV} {H : Hp} {f : Nat} {ty : TypeId} {x y : Operand} (a : Lnk) (ho : o.op = .binOp .neq 56 x y ty) (hx : E x = some (.agg (lnkC a))) (hy : E y = some (.agg (lnkC a))) : LO Tryd.prog o E H f [] [] (.base (.bool false)) H :=
  LO.eqBases (r := true) true (lnkV a) (lnkV a) ho hx hy rfl rfl (guardRun x y true (by kernel_rfl)) (eqLnk_in 9998 a)
theorem pick_fab {a b : Fab} {k : Nat} (h : k < 2) : Tk (fabC a ++ fabC b) (0 + k * 4) 4 (fabC (pickL a b k)) := by
  rcases (show k = 0 ∨ k = 1 by omega) with rfl | rfl
  · exact Tk.lit rfl
  · exact Tk.lit rfl
theorem pick_lds {a b : List Ld} {k : Nat} (h : k < 2) : ([.isl (ldsC a) a.length, .isl (ldsC b) b.length] : List AV)[0 + k * 1]? = some (.isl (ldsC (pickL a b k)) (pickL a b k).length) := by
  rcases (show k = 0 ∨ k = 1 by omega) with rfl | rfl <;> rfl
def pick3 {α : Type} (a b c : α) (k : Nat) : α := if k = 0 then a else if k = 1 then b else c
theorem pick_its3 {a b c : List Itm} {k : Nat} (h : k < 3) : ([.isl (itsC a) a.length, .isl (itsC b) b.length, .isl (itsC c) c.length] : List AV)[0 + k * 1]? = some (.isl (itsC (pick3 a b c k)) (pick3 a b c k).length) := by
  rcases (show k = 0 ∨ k = 1 ∨ k = 2 by omega) with rfl | rfl | rfl <;> rfl
theorem pick3_le {α : Type} {a b c : List α} {k n : Nat} (h1 : a.length ≤ n) (h2 : b.length ≤ n) (h3 : c.length ≤ n) : (pick3 a b c k).length ≤ n := by
  unfold pick3
  split
  · exact h1
  · split
    · exact h2
    · exact h3
theorem its_app (a b : List Itm) : itsC a ++ itsC b = itsC (a ++ b) := by simp [itsC]
set_option maxHeartbeats 1000000 in
theorem fits_law (raw : Fab) (rls : List Ld) (it : List Itm) (l : List Int) (hl : l.length ≤ 9223372036854775807) : AFn Tryd.prog 7 0 [.agg (fabC raw), .isl (ldsC rls) rls.length, .isl (itsC it) it.length, .isl (intsC l) l.length] mt (.base (.bool true)) mt := by
  refine AFn.eq Tryd.func7 rfl rfl (Nat.le_of_ble_eq_true rfl) ?_
  have haw := awake_any
  repeat (refine W.seq ?_)
  refine W.region 0 2 (by decide) rfl rfl ?_
  refine RW.opd rfl rfl (LO.box rfl rfl rfl) ?_
  refine RW.opd rfl rfl (LO.assign rfl rfl) ?_
  refine RW.nil ?_
  by_cases c1 : raw.links.length > 30
  case' pos =>
    have k1 : decide ((raw.links.length : Int) > 30) = true := decide_eq_true (by omega)
    repeat (refine W.seq ?_)
    refine W.region 6 32 (by decide) rfl rfl ?_
    refine RW.opd rfl rfl (LO.fieldAddr rfl rfl ty28 rfl (by decide)) ?_
    refine RW.opd rfl rfl (LO.load rfl rfl rfl rfl ty25 rfl) ?_
    refine RW.opd rfl rfl (LO.len_isl rfl rfl rfl ty25) ?_
    refine RW.opd rfl rfl (LO.gtr rfl rfl rfl) ?_
    refine RW.opd rfl rfl (LO.move rfl rfl) ?_
    refine RW.sd rfl rfl rfl ?_ rfl ?_; (· (first | rfl | assumption))
    refine RW.sd rfl rfl rfl ?_ rfl ?_; (· (first | rfl | assumption))
    refine RW.sd rfl rfl rfl ?_ rfl ?_; (· (first | rfl | assumption))
    refine RW.sd rfl rfl rfl ?_ rfl ?_; (· (first | rfl | assumption))
    refine RW.opd rfl rfl (LO.pick_t rfl rfl ?_ rfl) ?_; (· (first | rfl | assumption))
    refine RW.opd rfl rfl (LO.move rfl rfl) ?_
    refine RW.sd rfl rfl rfl ?_ rfl ?_; (· (first | rfl | assumption))
    refine RW.sd rfl rfl rfl ?_ rfl ?_; (· (first | rfl | assumption))
    refine RW.sd rfl rfl rfl ?_ rfl ?_; (· (first | rfl | assumption))
    refine RW.sd rfl rfl rfl ?_ rfl ?_; (· (first | rfl | assumption))
    refine RW.opd rfl rfl (LO.pick_t rfl rfl ?_ rfl) ?_; (· (first | rfl | assumption))
    refine RW.opd rfl rfl (LO.move rfl rfl) ?_
    refine RW.sd rfl rfl rfl ?_ rfl ?_; (· (first | rfl | assumption))
    refine RW.sd rfl rfl rfl ?_ rfl ?_; (· (first | rfl | assumption))
    refine RW.sd rfl rfl rfl ?_ rfl ?_; (· (first | rfl | assumption))
    refine RW.opd rfl rfl (LO.pick_t rfl rfl ?_ rfl) ?_; (· (first | rfl | assumption))
    refine RW.opd rfl rfl (LO.move rfl rfl) ?_
    refine RW.sd rfl rfl rfl ?_ rfl ?_; (· (first | rfl | assumption))
    refine RW.sd rfl rfl rfl ?_ rfl ?_; (· (first | rfl | assumption))
    refine RW.sd rfl rfl rfl ?_ rfl ?_; (· (first | rfl | assumption))
    refine RW.opd rfl rfl (LO.pick_t rfl rfl ?_ rfl) ?_; (· (first | rfl | assumption))
    refine RW.nil ?_
  case' neg =>
    have k1 : decide ((raw.links.length : Int) > 30) = false := decide_eq_false (by omega)
    by_cases c2 : raw.down.length > 40
    case' pos =>
      have k2 : decide ((raw.down.length : Int) > 40) = true := decide_eq_true (by omega)
      repeat (refine W.seq ?_)
      refine W.region 6 32 (by decide) rfl rfl ?_
      refine RW.opd rfl rfl (LO.fieldAddr rfl rfl ty28 rfl (by decide)) ?_
      refine RW.opd rfl rfl (LO.load rfl rfl rfl rfl ty25 rfl) ?_
      refine RW.opd rfl rfl (LO.len_isl rfl rfl rfl ty25) ?_
      refine RW.opd rfl rfl (LO.gtr rfl rfl rfl) ?_
      refine RW.opd rfl rfl (LO.move rfl rfl) ?_
      refine RW.gd rfl rfl rfl ?_ rfl (LO.fieldAddr rfl rfl ty28 rfl (by decide)) ?_; (· (first | rfl | assumption))
      refine RW.gd rfl rfl rfl ?_ rfl (LO.load rfl rfl rfl rfl ty26 rfl) ?_; (· (first | rfl | assumption))
      refine RW.gd rfl rfl rfl ?_ rfl (LO.len_isl rfl rfl rfl ty26) ?_; (· (first | rfl | assumption))
      refine RW.gd rfl rfl rfl ?_ rfl (LO.gtr rfl rfl rfl) ?_; (· (first | rfl | assumption))
      refine RW.opd rfl rfl (LO.pick_f rfl rfl ?_ rfl) ?_; (· (first | rfl | assumption))
      refine RW.opd rfl rfl (LO.move rfl rfl) ?_
      refine RW.sd rfl rfl rfl ?_ rfl ?_; (· (first | rfl | assumption))
      refine RW.sd rfl rfl rfl ?_ rfl ?_; (· (first | rfl | assumption))
      refine RW.sd rfl rfl rfl ?_ rfl ?_; (· (first | rfl | assumption))
      refine RW.sd rfl rfl rfl ?_ rfl ?_; (· (first | rfl | assumption))
      refine RW.opd rfl rfl (LO.pick_t rfl rfl ?_ rfl) ?_; (· (first | rfl | assumption))
      refine RW.opd rfl rfl (LO.move rfl rfl) ?_
      refine RW.sd rfl rfl rfl ?_ rfl ?_; (· (first | rfl | assumption))
      refine RW.sd rfl rfl rfl ?_ rfl ?_; (· (first | rfl | assumption))
      refine RW.sd rfl rfl rfl ?_ rfl ?_; (· (first | rfl | assumption))
      refine RW.opd rfl rfl (LO.pick_t rfl rfl ?_ rfl) ?_; (· (first | rfl | assumption))
      refine RW.opd rfl rfl (LO.move rfl rfl) ?_
      refine RW.sd rfl rfl rfl ?_ rfl ?_; (· (first | rfl | assumption))
      refine RW.sd rfl rfl rfl ?_ rfl ?_; (· (first | rfl | assumption))
      refine RW.sd rfl rfl rfl ?_ rfl ?_; (· (first | rfl | assumption))
      refine RW.opd rfl rfl (LO.pick_t rfl rfl ?_ rfl) ?_; (· (first | rfl | assumption))
      refine RW.nil ?_
    case' neg =>
      have k2 : decide ((raw.down.length : Int) > 40) = false := decide_eq_false (by omega)
      by_cases c3 : raw.dead.length > 40
      case' pos =>
        have k3 : decide ((raw.dead.length : Int) > 40) = true := decide_eq_true (by omega)
        repeat (refine W.seq ?_)
        refine W.region 6 32 (by decide) rfl rfl ?_
        refine RW.opd rfl rfl (LO.fieldAddr rfl rfl ty28 rfl (by decide)) ?_
        refine RW.opd rfl rfl (LO.load rfl rfl rfl rfl ty25 rfl) ?_
        refine RW.opd rfl rfl (LO.len_isl rfl rfl rfl ty25) ?_
        refine RW.opd rfl rfl (LO.gtr rfl rfl rfl) ?_
        refine RW.opd rfl rfl (LO.move rfl rfl) ?_
        refine RW.gd rfl rfl rfl ?_ rfl (LO.fieldAddr rfl rfl ty28 rfl (by decide)) ?_; (· (first | rfl | assumption))
        refine RW.gd rfl rfl rfl ?_ rfl (LO.load rfl rfl rfl rfl ty26 rfl) ?_; (· (first | rfl | assumption))
        refine RW.gd rfl rfl rfl ?_ rfl (LO.len_isl rfl rfl rfl ty26) ?_; (· (first | rfl | assumption))
        refine RW.gd rfl rfl rfl ?_ rfl (LO.gtr rfl rfl rfl) ?_; (· (first | rfl | assumption))
        refine RW.opd rfl rfl (LO.pick_f rfl rfl ?_ rfl) ?_; (· (first | rfl | assumption))
        refine RW.opd rfl rfl (LO.move rfl rfl) ?_
        refine RW.gd rfl rfl rfl ?_ rfl (LO.fieldAddr rfl rfl ty28 rfl (by decide)) ?_; (· (first | rfl | assumption))
        refine RW.gd rfl rfl rfl ?_ rfl (LO.load rfl rfl rfl rfl ty26 rfl) ?_; (· (first | rfl | assumption))
        refine RW.gd rfl rfl rfl ?_ rfl (LO.len_isl rfl rfl rfl ty26) ?_; (· (first | rfl | assumption))
        refine RW.gd rfl rfl rfl ?_ rfl (LO.gtr rfl rfl rfl) ?_; (· (first | rfl | assumption))
        refine RW.opd rfl rfl (LO.pick_f rfl rfl ?_ rfl) ?_; (· (first | rfl | assumption))
        refine RW.opd rfl rfl (LO.move rfl rfl) ?_
        refine RW.sd rfl rfl rfl ?_ rfl ?_; (· (first | rfl | assumption))
        refine RW.sd rfl rfl rfl ?_ rfl ?_; (· (first | rfl | assumption))
        refine RW.sd rfl rfl rfl ?_ rfl ?_; (· (first | rfl | assumption))
        refine RW.opd rfl rfl (LO.pick_t rfl rfl ?_ rfl) ?_; (· (first | rfl | assumption))
        refine RW.opd rfl rfl (LO.move rfl rfl) ?_
        refine RW.sd rfl rfl rfl ?_ rfl ?_; (· (first | rfl | assumption))
        refine RW.sd rfl rfl rfl ?_ rfl ?_; (· (first | rfl | assumption))
        refine RW.sd rfl rfl rfl ?_ rfl ?_; (· (first | rfl | assumption))
        refine RW.opd rfl rfl (LO.pick_t rfl rfl ?_ rfl) ?_; (· (first | rfl | assumption))
        refine RW.nil ?_
      case' neg =>
        have k3 : decide ((raw.dead.length : Int) > 40) = false := decide_eq_false (by omega)
        by_cases c4 : rls.length > 30
        case' pos =>
          have k4 : decide ((rls.length : Int) > 30) = true := decide_eq_true (by omega)
          repeat (refine W.seq ?_)
          refine W.region 6 32 (by decide) rfl rfl ?_
          refine RW.opd rfl rfl (LO.fieldAddr rfl rfl ty28 rfl (by decide)) ?_
          refine RW.opd rfl rfl (LO.load rfl rfl rfl rfl ty25 rfl) ?_
          refine RW.opd rfl rfl (LO.len_isl rfl rfl rfl ty25) ?_
          refine RW.opd rfl rfl (LO.gtr rfl rfl rfl) ?_
          refine RW.opd rfl rfl (LO.move rfl rfl) ?_
          refine RW.gd rfl rfl rfl ?_ rfl (LO.fieldAddr rfl rfl ty28 rfl (by decide)) ?_; (· (first | rfl | assumption))
          refine RW.gd rfl rfl rfl ?_ rfl (LO.load rfl rfl rfl rfl ty26 rfl) ?_; (· (first | rfl | assumption))
          refine RW.gd rfl rfl rfl ?_ rfl (LO.len_isl rfl rfl rfl ty26) ?_; (· (first | rfl | assumption))
          refine RW.gd rfl rfl rfl ?_ rfl (LO.gtr rfl rfl rfl) ?_; (· (first | rfl | assumption))
          refine RW.opd rfl rfl (LO.pick_f rfl rfl ?_ rfl) ?_; (· (first | rfl | assumption))
          refine RW.opd rfl rfl (LO.move rfl rfl) ?_
          refine RW.gd rfl rfl rfl ?_ rfl (LO.fieldAddr rfl rfl ty28 rfl (by decide)) ?_; (· (first | rfl | assumption))
          refine RW.gd rfl rfl rfl ?_ rfl (LO.load rfl rfl rfl rfl ty26 rfl) ?_; (· (first | rfl | assumption))
          refine RW.gd rfl rfl rfl ?_ rfl (LO.len_isl rfl rfl rfl ty26) ?_; (· (first | rfl | assumption))
          refine RW.gd rfl rfl rfl ?_ rfl (LO.gtr rfl rfl rfl) ?_; (· (first | rfl | assumption))
          refine RW.opd rfl rfl (LO.pick_f rfl rfl ?_ rfl) ?_; (· (first | rfl | assumption))
          refine RW.opd rfl rfl (LO.move rfl rfl) ?_
          refine RW.gd rfl rfl rfl ?_ rfl (LO.move rfl rfl) ?_; (· (first | rfl | assumption))
          refine RW.gd rfl rfl rfl ?_ rfl (LO.len_isl rfl rfl rfl ty29) ?_; (· (first | rfl | assumption))
          refine RW.gd rfl rfl rfl ?_ rfl (LO.gtr rfl rfl rfl) ?_; (· (first | rfl | assumption))
          refine RW.opd rfl rfl (LO.pick_f rfl rfl ?_ rfl) ?_; (· (first | rfl | assumption))
          refine RW.opd rfl rfl (LO.move rfl rfl) ?_
          refine RW.sd rfl rfl rfl ?_ rfl ?_; (· (first | rfl | assumption))
          refine RW.sd rfl rfl rfl ?_ rfl ?_; (· (first | rfl | assumption))
          refine RW.sd rfl rfl rfl ?_ rfl ?_; (· (first | rfl | assumption))
          refine RW.opd rfl rfl (LO.pick_t rfl rfl ?_ rfl) ?_; (· (first | rfl | assumption))
          refine RW.nil ?_
        case' neg =>
          have k4 : decide ((rls.length : Int) > 30) = false := decide_eq_false (by omega)
          by_cases c5 : it.length > 20
          case' pos =>
            have k5 : decide ((it.length : Int) > 20) = true := decide_eq_true (by omega)
            repeat (refine W.seq ?_)
            refine W.region 6 32 (by decide) rfl rfl ?_
            refine RW.opd rfl rfl (LO.fieldAddr rfl rfl ty28 rfl (by decide)) ?_
            refine RW.opd rfl rfl (LO.load rfl rfl rfl rfl ty25 rfl) ?_
            refine RW.opd rfl rfl (LO.len_isl rfl rfl rfl ty25) ?_
            refine RW.opd rfl rfl (LO.gtr rfl rfl rfl) ?_
            refine RW.opd rfl rfl (LO.move rfl rfl) ?_
            refine RW.gd rfl rfl rfl ?_ rfl (LO.fieldAddr rfl rfl ty28 rfl (by decide)) ?_; (· (first | rfl | assumption))
            refine RW.gd rfl rfl rfl ?_ rfl (LO.load rfl rfl rfl rfl ty26 rfl) ?_; (· (first | rfl | assumption))
            refine RW.gd rfl rfl rfl ?_ rfl (LO.len_isl rfl rfl rfl ty26) ?_; (· (first | rfl | assumption))
            refine RW.gd rfl rfl rfl ?_ rfl (LO.gtr rfl rfl rfl) ?_; (· (first | rfl | assumption))
            refine RW.opd rfl rfl (LO.pick_f rfl rfl ?_ rfl) ?_; (· (first | rfl | assumption))
            refine RW.opd rfl rfl (LO.move rfl rfl) ?_
            refine RW.gd rfl rfl rfl ?_ rfl (LO.fieldAddr rfl rfl ty28 rfl (by decide)) ?_; (· (first | rfl | assumption))
            refine RW.gd rfl rfl rfl ?_ rfl (LO.load rfl rfl rfl rfl ty26 rfl) ?_; (· (first | rfl | assumption))
            refine RW.gd rfl rfl rfl ?_ rfl (LO.len_isl rfl rfl rfl ty26) ?_; (· (first | rfl | assumption))
            refine RW.gd rfl rfl rfl ?_ rfl (LO.gtr rfl rfl rfl) ?_; (· (first | rfl | assumption))
            refine RW.opd rfl rfl (LO.pick_f rfl rfl ?_ rfl) ?_; (· (first | rfl | assumption))
            refine RW.opd rfl rfl (LO.move rfl rfl) ?_
            refine RW.gd rfl rfl rfl ?_ rfl (LO.move rfl rfl) ?_; (· (first | rfl | assumption))
            refine RW.gd rfl rfl rfl ?_ rfl (LO.len_isl rfl rfl rfl ty29) ?_; (· (first | rfl | assumption))
            refine RW.gd rfl rfl rfl ?_ rfl (LO.gtr rfl rfl rfl) ?_; (· (first | rfl | assumption))
            refine RW.opd rfl rfl (LO.pick_f rfl rfl ?_ rfl) ?_; (· (first | rfl | assumption))
            refine RW.opd rfl rfl (LO.move rfl rfl) ?_
            refine RW.gd rfl rfl rfl ?_ rfl (LO.move rfl rfl) ?_; (· (first | rfl | assumption))
            refine RW.gd rfl rfl rfl ?_ rfl (LO.len_isl rfl rfl rfl ty22) ?_; (· (first | rfl | assumption))
            refine RW.gd rfl rfl rfl ?_ rfl (LO.gtr rfl rfl rfl) ?_; (· (first | rfl | assumption))
            refine RW.opd rfl rfl (LO.pick_f rfl rfl ?_ rfl) ?_; (· (first | rfl | assumption))
            refine RW.nil ?_
          case' neg =>
            have k5 : decide ((it.length : Int) > 20) = false := decide_eq_false (by omega)
            have hnew := new_any l
            obtain ⟨v, H', hsc, f, ls, its, a1, hok, rfl, rfl⟩ := scene_any l 0 hl
            have h24 := hok.fab.nl
            have hni := hok.nit
            have hnl := hok.nls
            have hfd := hok.fab.down
            have hfe := hok.fab.dead
            have hf5 := hok.fab.sw5
            obtain ⟨_, _, _, hin, _, _⟩ := validD_all2 hok.val
            repeat (refine W.seq ?_)
            refine W.region 6 32 (by decide) rfl rfl ?_
            refine RW.opd rfl rfl (LO.fieldAddr rfl rfl ty28 rfl (by decide)) ?_
            refine RW.opd rfl rfl (LO.load rfl rfl rfl rfl ty25 rfl) ?_
            refine RW.opd rfl rfl (LO.len_isl rfl rfl rfl ty25) ?_
            refine RW.opd rfl rfl (LO.gtr rfl rfl rfl) ?_
            refine RW.opd rfl rfl (LO.move rfl rfl) ?_
            refine RW.gd rfl rfl rfl ?_ rfl (LO.fieldAddr rfl rfl ty28 rfl (by decide)) ?_; (· (first | rfl | assumption))
            refine RW.gd rfl rfl rfl ?_ rfl (LO.load rfl rfl rfl rfl ty26 rfl) ?_; (· (first | rfl | assumption))
            refine RW.gd rfl rfl rfl ?_ rfl (LO.len_isl rfl rfl rfl ty26) ?_; (· (first | rfl | assumption))
            refine RW.gd rfl rfl rfl ?_ rfl (LO.gtr rfl rfl rfl) ?_; (· (first | rfl | assumption))
            refine RW.opd rfl rfl (LO.pick_f rfl rfl ?_ rfl) ?_; (· (first | rfl | assumption))
            refine RW.opd rfl rfl (LO.move rfl rfl) ?_
            refine RW.gd rfl rfl rfl ?_ rfl (LO.fieldAddr rfl rfl ty28 rfl (by decide)) ?_; (· (first | rfl | assumption))
            refine RW.gd rfl rfl rfl ?_ rfl (LO.load rfl rfl rfl rfl ty26 rfl) ?_; (· (first | rfl | assumption))
            refine RW.gd rfl rfl rfl ?_ rfl (LO.len_isl rfl rfl rfl ty26) ?_; (· (first | rfl | assumption))
            refine RW.gd rfl rfl rfl ?_ rfl (LO.gtr rfl rfl rfl) ?_; (· (first | rfl | assumption))
            refine RW.opd rfl rfl (LO.pick_f rfl rfl ?_ rfl) ?_; (· (first | rfl | assumption))
            refine RW.opd rfl rfl (LO.move rfl rfl) ?_
            refine RW.gd rfl rfl rfl ?_ rfl (LO.move rfl rfl) ?_; (· (first | rfl | assumption))
            refine RW.gd rfl rfl rfl ?_ rfl (LO.len_isl rfl rfl rfl ty29) ?_; (· (first | rfl | assumption))
            refine RW.gd rfl rfl rfl ?_ rfl (LO.gtr rfl rfl rfl) ?_; (· (first | rfl | assumption))
            refine RW.opd rfl rfl (LO.pick_f rfl rfl ?_ rfl) ?_; (· (first | rfl | assumption))
            refine RW.opd rfl rfl (LO.move rfl rfl) ?_
            refine RW.gd rfl rfl rfl ?_ rfl (LO.move rfl rfl) ?_; (· (first | rfl | assumption))
            refine RW.gd rfl rfl rfl ?_ rfl (LO.len_isl rfl rfl rfl ty22) ?_; (· (first | rfl | assumption))
            refine RW.gd rfl rfl rfl ?_ rfl (LO.gtr rfl rfl rfl) ?_; (· (first | rfl | assumption))
            refine RW.opd rfl rfl (LO.pick_f rfl rfl ?_ rfl) ?_; (· (first | rfl | assumption))
            refine RW.nil ?_
            repeat (refine W.seq ?_)
            refine W.cond_f rfl (by first | rfl | assumption) ?_
            refine W.skip ?_
            repeat (refine W.seq ?_)
            refine W.region 42 53 (by decide) rfl rfl ?_
            refine RW.opd rfl rfl (LO.move rfl rfl) ?_
            refine RW.opd rfl rfl (LO.callN (fr := []) rfl rfl (hnew) fok10 (.cons rfl (.pure rfl) .nil) rfl (by decide)) ?_
            refine RW.opd rfl rfl (LO.call1 (fr := []) rfl rfl (hsc) fok9 (.own rfl rfl .nil) rfl rfl rfl (List.cons_ne_nil _ _) (by decide) rfl) ?_
            refine RW.opd rfl rfl (LO.move rfl rfl) ?_
            refine RW.opd rfl rfl (LO.extract rfl rfl rfl) ?_
            refine RW.opd rfl rfl (LO.extract rfl rfl rfl) ?_
            refine RW.opd rfl rfl (LO.extract rfl rfl rfl) ?_
            refine RW.opd rfl rfl (LO.alloc rfl ty28) ?_
            refine RW.opn rfl rfl (LO.store rfl rfl rfl rfl rfl ty28 rfl (by decide) (Sp.lit rfl)) ?_
            refine RW.opd rfl rfl (LO.assign rfl rfl) ?_
            refine RW.opd rfl rfl (LO.assign rfl rfl) ?_
            refine RW.nil ?_
            repeat (refine W.seq ?_)
            refine W.region 57 62 (by decide) rfl rfl ?_
            refine RW.opd rfl rfl (LO.load_agg rfl rfl rfl ty28 rfl (Tk.lit rfl)) ?_
            refine RW.opd rfl rfl (LO.load_agg rfl rfl rfl ty28 rfl (Tk.lit rfl)) ?_
            refine RW.opd rfl rfl (LO.buildSlice rfl ty57 ty28 (by decide) (by decide) (.cons rfl rfl rfl rfl (Sp.lit rfl) (.cons rfl rfl rfl rfl (Sp.lit rfl) .nil))) ?_
            refine RW.opd rfl rfl (LO.len rfl rfl ty57) ?_
            refine RW.opd rfl rfl (LO.move rfl rfl) ?_
            refine RW.nil ?_
            repeat (refine W.seq ?_)
            refine W.block ?_
            refine W.rename [(0, 49), (1, 59)] 2 (T' := up (up (up (up (up (up (up (up mt 1 (some (.isl (ldsC rls) rls.length))) 2 (some (.isl (itsC it) it.length))) 9 (some (.own 0 0))) 10 (some (.isl (ldsC ls) ls.length))) 11 (some (.isl (itsC its) its.length))) 62 (some (.osl 1 0 2 4))) 63 (some (.base (.int .i64 2)))) 64 (some (.base (.int .i64 (0 : Int))))) (H' := up (up mt 0 (some (fabC f))) 1 (some (fabC f ++ fabC raw))) (by decide) ?_ ?_ ?_
            · (repeat' (first | exact all_mt | refine all_up ?_ ?_)) <;> first | exact .inl ⟨rfl, rfl⟩ | exact .inr ⟨rfl, fun _ h => by cases h⟩ | exact .inl ⟨rfl, by first | rfl | assumption ⟩
            · (repeat' (first | exact all_mt | refine all_up ?_ ?_)) <;> first | exact ⟨rfl, _, rfl, .inr ⟨rfl, rfl⟩⟩ | exact ⟨rfl, _, rfl, .inl rfl⟩ | exact ⟨rfl, _, rfl, .inr ⟨rfl, by first | rfl | assumption ⟩⟩
            refine W.loop_ind (α := Nat) (fun x => 2 - x) 2 (fun x => up (up (up (up (up (up (up (up mt 1 (some (.isl (ldsC rls) rls.length))) 2 (some (.isl (itsC it) it.length))) 9 (some (.own 0 0))) 10 (some (.isl (ldsC ls) ls.length))) 11 (some (.isl (itsC its) its.length))) 62 (some (.osl 1 0 2 4))) 63 (some (.base (.int .i64 2)))) 64 (some (.base (.int .i64 (x : Int))))) (fun x => up (up mt 0 (some (fabC f))) 1 (some (fabC f ++ fabC raw))) (fun x => x ≤ 2) 0 (show 0 ≤ 2 from Nat.zero_le _) ?_
            rintro k hIA ihA
            try (dsimp only at hIA)
            try dsimp only
            have hk : k ≤ 2 := hIA
            by_cases hc : k < 2
            case' pos =>
              have g1 : decide ((k : Int) < 2) = true := decide_eq_true (by omega)
              have hx : (pickL f raw k).links.length ≤ 30 ∧ (pickL f raw k).down.length ≤ 40 ∧ (pickL f raw k).dead.length ≤ 40 := by unfold pickL; split <;> omega
              repeat (refine W.seq ?_)
              refine W.region 66 67 (by decide) rfl rfl ?_
              refine RW.opd rfl rfl (LO.lss rfl rfl rfl) ?_
              refine RW.nil ?_
              repeat (refine W.seq ?_)
              refine W.cond_t rfl (by first | rfl | assumption) ?_
              refine W.skip ?_
              repeat (refine W.seq ?_)
              refine W.block ?_
              repeat (refine W.seq ?_)
              refine W.region 71 75 (by decide) rfl rfl ?_
              refine RW.opd rfl rfl (LO.indexAddr rfl rfl rfl rfl ty57 ty28 ?_) ?_; (· (first | omega | decide | assumption | fail | (simp; done) | (simp; omega)))
              refine RW.opd rfl rfl (LO.load_agg rfl rfl rfl ty28 rfl (pick_fab hc)) ?_
              refine RW.opd rfl rfl (LO.alloc rfl ty28) ?_
              refine RW.opn rfl rfl (LO.store rfl rfl rfl rfl rfl ty28 rfl (by decide) (Sp.lit rfl)) ?_
              refine RW.nil ?_
              generalize hX : pickL f raw k = X at hx ⊢
              clear hX
              obtain ⟨hx1, hx2, hx3⟩ := hx
              repeat (refine W.seq ?_)
              refine W.region 79 84 (by decide) rfl rfl ?_
              refine RW.opd rfl rfl (LO.move rfl rfl) ?_
              refine RW.opd rfl rfl (LO.move rfl rfl) ?_
              refine RW.opd rfl rfl (LO.buildSlice rfl ty58 ty29 (by decide) (by decide) (.cons rfl rfl rfl rfl (Sp.lit rfl) (.cons rfl rfl rfl rfl (Sp.lit rfl) .nil))) ?_
              refine RW.opd rfl rfl (LO.len rfl rfl ty58) ?_
              refine RW.opd rfl rfl (LO.move rfl rfl) ?_
              refine RW.nil ?_
              repeat (refine W.seq ?_)
              refine W.block ?_
              refine W.rename [(0, 0), (1, 1), (2, 73), (3, 81)] 4 (T' := up (up (up (up (up (up (up (up (up (up (up (up mt 1 (some (.isl (ldsC rls) rls.length))) 2 (some (.isl (itsC it) it.length))) 9 (some (.own 0 0))) 10 (some (.isl (ldsC ls) ls.length))) 11 (some (.isl (itsC its) its.length))) 13 (some (.own 2 0))) 62 (some (.osl 1 0 2 4))) 63 (some (.base (.int .i64 2)))) 64 (some (.base (.int .i64 (k : Int))))) 70 (some (.osl 3 0 2 1))) 71 (some (.base (.int .i64 2)))) 72 (some (.base (.int .i64 (0 : Int))))) (H' := up (up (up (up mt 0 (some (fabC f))) 1 (some (fabC f ++ fabC raw))) 2 (some (fabC X))) 3 (some ([.isl (ldsC ls) ls.length, .isl (ldsC rls) rls.length]))) (by decide) ?_ ?_ ?_
              · (repeat' (first | exact all_mt | refine all_up ?_ ?_)) <;> first | exact .inl ⟨rfl, rfl⟩ | exact .inr ⟨rfl, fun _ h => by cases h⟩ | exact .inl ⟨rfl, by first | rfl | assumption ⟩
              · (repeat' (first | exact all_mt | refine all_up ?_ ?_)) <;> first | exact ⟨rfl, _, rfl, .inr ⟨rfl, rfl⟩⟩ | exact ⟨rfl, _, rfl, .inl rfl⟩ | exact ⟨rfl, _, rfl, .inr ⟨rfl, by first | rfl | assumption ⟩⟩
              refine W.loop_ind (α := Nat) (fun x => 2 - x) 4 (fun x => up (up (up (up (up (up (up (up (up (up (up (up mt 1 (some (.isl (ldsC rls) rls.length))) 2 (some (.isl (itsC it) it.length))) 9 (some (.own 0 0))) 10 (some (.isl (ldsC ls) ls.length))) 11 (some (.isl (itsC its) its.length))) 13 (some (.own 2 0))) 62 (some (.osl 1 0 2 4))) 63 (some (.base (.int .i64 2)))) 64 (some (.base (.int .i64 (k : Int))))) 70 (some (.osl 3 0 2 1))) 71 (some (.base (.int .i64 2)))) 72 (some (.base (.int .i64 (x : Int))))) (fun x => up (up (up (up mt 0 (some (fabC f))) 1 (some (fabC f ++ fabC raw))) 2 (some (fabC X))) 3 (some ([.isl (ldsC ls) ls.length, .isl (ldsC rls) rls.length]))) (fun x => x ≤ 2) 0 (show 0 ≤ 2 from Nat.zero_le _) ?_
              rintro j hIB ihB
              try (dsimp only at hIB)
              try dsimp only
              have hj : j ≤ 2 := hIB
              by_cases hc2 : j < 2
              · have g2 : decide ((j : Int) < 2) = true := decide_eq_true (by omega)
                have hy : (pickL ls rls j).length ≤ 30 := by unfold pickL; split <;> omega
                repeat (refine W.seq ?_)
                refine W.region 88 89 (by decide) rfl rfl ?_
                refine RW.opd rfl rfl (LO.lss rfl rfl rfl) ?_
                refine RW.nil ?_
                repeat (refine W.seq ?_)
                refine W.cond_t rfl (by first | rfl | assumption) ?_
                refine W.skip ?_
                repeat (refine W.seq ?_)
                refine W.block ?_
                repeat (refine W.seq ?_)
                refine W.region 93 96 (by decide) rfl rfl ?_
                refine RW.opd rfl rfl (LO.indexAddr rfl rfl rfl rfl ty58 ty29 ?_) ?_; (· (first | omega | decide | assumption | fail | (simp; done) | (simp; omega)))
                refine RW.opd rfl rfl (LO.load rfl rfl rfl (pick_lds hc2) ty29 rfl) ?_
                refine RW.opd rfl rfl (LO.assign rfl rfl) ?_
                refine RW.nil ?_
                generalize hY : pickL ls rls j = Y at hy ⊢
                clear hY
                have hF1 := fitsTop_any X Y (by omega) (by omega)
                have hF2 := fitsTopX_any X Y (by omega) (by omega)
                obtain ⟨r, hr⟩ : ∃ r, fitsE X Y = r := ⟨_, rfl⟩
                rw [hr] at hF1 hF2
                have n1 : (r.1 != r.1) = false := by simp
                have n2 : (r.2 != r.2) = false := by simp
                repeat (refine W.seq ?_)
                refine W.region 100 108 (by decide) rfl rfl ?_
                refine RW.opd rfl rfl (LO.load_agg rfl rfl rfl ty28 rfl (Tk.lit rfl)) ?_
                refine RW.opd rfl rfl (LO.move rfl rfl) ?_
                refine RW.opd rfl rfl (LO.call0 (fr := []) rfl rfl (hF1) fok22 (.cons rfl (.pure rfl) (.cons rfl (.pure rfl) .nil)) rfl) ?_
                refine RW.opd rfl rfl (LO.move rfl rfl) ?_
                refine RW.opd rfl rfl (LO.extract rfl rfl rfl) ?_
                refine RW.opd rfl rfl (LO.extract rfl rfl rfl) ?_
                refine RW.opd rfl rfl (LO.assign rfl rfl) ?_
                refine RW.opd rfl rfl (LO.assign rfl rfl) ?_
                refine RW.nil ?_
                repeat (refine W.seq ?_)
                refine W.region 112 120 (by decide) rfl rfl ?_
                refine RW.opd rfl rfl (LO.load_agg rfl rfl rfl ty28 rfl (Tk.lit rfl)) ?_
                refine RW.opd rfl rfl (LO.move rfl rfl) ?_
                refine RW.opd rfl rfl (LO.call0 (fr := []) rfl rfl (hF2) fok23 (.cons rfl (.pure rfl) (.cons rfl (.pure rfl) .nil)) rfl) ?_
                refine RW.opd rfl rfl (LO.move rfl rfl) ?_
                refine RW.opd rfl rfl (LO.extract rfl rfl rfl) ?_
                refine RW.opd rfl rfl (LO.extract rfl rfl rfl) ?_
                refine RW.opd rfl rfl (LO.assign rfl rfl) ?_
                refine RW.opd rfl rfl (LO.assign rfl rfl) ?_
                refine RW.nil ?_
                repeat (refine W.seq ?_)
                refine W.region 124 132 (by decide) rfl rfl ?_
                refine RW.opd rfl rfl (LO.move rfl rfl) ?_
                refine RW.opd rfl rfl (LO.move rfl rfl) ?_
                refine RW.opd rfl rfl (LO.neq rfl rfl rfl) ?_
                refine RW.opd rfl rfl (LO.move rfl rfl) ?_
                refine RW.gd rfl rfl rfl ?_ rfl (LO.move rfl rfl) ?_; (· (first | rfl | assumption))
                refine RW.gd rfl rfl rfl ?_ rfl (LO.move rfl rfl) ?_; (· (first | rfl | assumption))
                refine RW.gd rfl rfl rfl ?_ rfl (LO.neq rfl rfl rfl) ?_; (· (first | rfl | assumption))
                refine RW.opd rfl rfl (LO.pick_f rfl rfl ?_ rfl) ?_; (· (first | rfl | assumption))
                refine RW.nil ?_
                repeat (refine W.seq ?_)
                refine W.cond_f rfl (by first | rfl | assumption) ?_
                refine W.skip ?_
                repeat (refine W.seq ?_)
                refine W.region 141 150 (by decide) rfl rfl ?_
                refine RW.opd rfl rfl (LO.move rfl rfl) ?_
                refine RW.opd rfl rfl (LO.move rfl rfl) ?_
                refine RW.opd rfl rfl (LO.move rfl rfl) ?_
                refine RW.opd rfl rfl (LO.append_nil rfl rfl (SrcAV.isl rfl rfl ?_) ty22 ty22 ty45 (by decide) ?_ ?_ ?_) ?_; (· (first | rfl | assumption | exact flatLen (c := itC) (fun _ => rfl) _)); (· (first | omega | decide | assumption | exact flatLen (c := itC) (fun _ => rfl) _ | (simp; done) | (simp; omega))); (· (first | omega | decide | assumption | exact flatLen (c := itC) (fun _ => rfl) _ | (simp; done) | (simp; omega))); (· (first | decide | omega))
                refine RW.opd rfl rfl (LO.move rfl rfl) ?_
                refine RW.opd rfl rfl (LO.append rfl rfl (SrcAV.isl rfl rfl ?_) rfl (its_all rfl) ty22 ty22 ty45 (by decide) ?_ ?_ ?_) ?_; (· (first | rfl | assumption | exact flatLen (c := itC) (fun _ => rfl) _)); (· (first | omega | decide | assumption | exact flatLen (c := itC) (fun _ => rfl) _ | (simp; done) | (simp; omega))); (· (first | omega | decide | assumption | exact flatLen (c := itC) (fun _ => rfl) _ | (simp; done) | (simp; omega))); (· (first | decide | omega))
                refine RW.opd rfl rfl (LO.buildSlice rfl ty34 ty22 (by decide) (by decide) (.cons rfl rfl rfl rfl (Sp.lit rfl) (.cons rfl rfl rfl rfl (Sp.lit rfl) (.cons rfl rfl rfl rfl (Sp.lit rfl) .nil)))) ?_
                refine RW.opd rfl rfl (LO.len rfl rfl ty34) ?_
                refine RW.opd rfl rfl (LO.move rfl rfl) ?_
                refine RW.nil ?_
                rw [its_app, show its.length + its.length = (its ++ its).length from by simp]
                refine W.frzc (q := 147) (j := 2) (r := 146) rfl rfl (by decide) rfl (its_all rfl) (its_pure _) (Sp.lit rfl) ?_
                repeat (refine W.seq ?_)
                refine W.block ?_
                refine W.rename [(0, 0), (1, 1), (2, 2), (3, 3), (4, 147)] 5 (T' := up (up (up (up (up (up (up (up (up (up (up (up (up (up (up (up mt 1 (some (.isl (ldsC rls) rls.length))) 2 (some (.isl (itsC it) it.length))) 9 (some (.own 0 0))) 10 (some (.isl (ldsC ls) ls.length))) 11 (some (.isl (itsC its) its.length))) 13 (some (.own 2 0))) 15 (some (.isl (ldsC Y) Y.length))) 62 (some (.osl 1 0 2 4))) 63 (some (.base (.int .i64 2)))) 64 (some (.base (.int .i64 (k : Int))))) 70 (some (.osl 3 0 2 1))) 71 (some (.base (.int .i64 2)))) 72 (some (.base (.int .i64 (j : Int))))) 102 (some (.osl 4 0 3 1))) 103 (some (.base (.int .i64 3)))) 104 (some (.base (.int .i64 (0 : Int))))) (H' := up (up (up (up (up mt 0 (some (fabC f))) 1 (some (fabC f ++ fabC raw))) 2 (some (fabC X))) 3 (some ([.isl (ldsC ls) ls.length, .isl (ldsC rls) rls.length]))) 4 (some ([.isl (itsC its) its.length, .isl (itsC it) it.length, .isl (itsC (its ++ its)) (its ++ its).length]))) (by decide) ?_ ?_ ?_
                · (repeat' (first | exact all_mt | refine all_up ?_ ?_)) <;> first | exact .inl ⟨rfl, rfl⟩ | exact .inr ⟨rfl, fun _ h => by cases h⟩ | exact .inl ⟨rfl, by first | rfl | assumption ⟩
                · (repeat' (first | exact all_mt | refine all_up ?_ ?_)) <;> first | exact ⟨rfl, _, rfl, .inr ⟨rfl, rfl⟩⟩ | exact ⟨rfl, _, rfl, .inl rfl⟩ | exact ⟨rfl, _, rfl, .inr ⟨rfl, by first | rfl | assumption ⟩⟩
                refine W.loop_ind (α := Nat) (fun x => 3 - x) 5 (fun x => up (up (up (up (up (up (up (up (up (up (up (up (up (up (up (up mt 1 (some (.isl (ldsC rls) rls.length))) 2 (some (.isl (itsC it) it.length))) 9 (some (.own 0 0))) 10 (some (.isl (ldsC ls) ls.length))) 11 (some (.isl (itsC its) its.length))) 13 (some (.own 2 0))) 15 (some (.isl (ldsC Y) Y.length))) 62 (some (.osl 1 0 2 4))) 63 (some (.base (.int .i64 2)))) 64 (some (.base (.int .i64 (k : Int))))) 70 (some (.osl 3 0 2 1))) 71 (some (.base (.int .i64 2)))) 72 (some (.base (.int .i64 (j : Int))))) 102 (some (.osl 4 0 3 1))) 103 (some (.base (.int .i64 3)))) 104 (some (.base (.int .i64 (x : Int))))) (fun x => up (up (up (up (up mt 0 (some (fabC f))) 1 (some (fabC f ++ fabC raw))) 2 (some (fabC X))) 3 (some ([.isl (ldsC ls) ls.length, .isl (ldsC rls) rls.length]))) 4 (some ([.isl (itsC its) its.length, .isl (itsC it) it.length, .isl (itsC (its ++ its)) (its ++ its).length]))) (fun x => x ≤ 3) 0 (show 0 ≤ 3 from Nat.zero_le _) ?_
                rintro i hIC ihC
                try (dsimp only at hIC)
                try dsimp only
                have hi : i ≤ 3 := hIC
                by_cases hc3 : i < 3
                · have g3 : decide ((i : Int) < 3) = true := decide_eq_true (by omega)
                  have hz : (pick3 its it (its ++ its) i).length ≤ 30 := pick3_le (by omega) (by omega) (by rw [List.length_append]; omega)
                  repeat (refine W.seq ?_)
                  refine W.region 154 155 (by decide) rfl rfl ?_
                  refine RW.opd rfl rfl (LO.lss rfl rfl rfl) ?_
                  refine RW.nil ?_
                  repeat (refine W.seq ?_)
                  refine W.cond_t rfl (by first | rfl | assumption) ?_
                  refine W.skip ?_
                  repeat (refine W.seq ?_)
                  refine W.block ?_
                  repeat (refine W.seq ?_)
                  refine W.region 159 162 (by decide) rfl rfl ?_
                  refine RW.opd rfl rfl (LO.indexAddr rfl rfl rfl rfl ty34 ty22 ?_) ?_; (· (first | omega | decide | assumption | fail | (simp; done) | (simp; omega)))
                  refine RW.opd rfl rfl (LO.load rfl rfl rfl (pick_its3 hc3) ty22 rfl) ?_
                  refine RW.opd rfl rfl (LO.assign rfl rfl) ?_
                  refine RW.nil ?_
                  generalize hZ : pick3 its it (its ++ its) i = Z at hz ⊢
                  clear hZ
                  have v1 := validD_any X Y Z (by omega) (by omega) (by omega)
                  have v2 := validDX_any X Y Z (by omega) (by omega) (by omega)
                  have v3 := safe_any X Y Z (by omega) (by omega) (by omega)
                  have v4 := safeX_any X Y Z (by omega) (by omega) (by omega)
                  have n3 : (!(validD X Y Z == validD X Y Z)) = false := by simp
                  have n4 : (safeE X Y Z != safeE X Y Z) = false := by simp
                  repeat (refine W.seq ?_)
                  refine W.regionD 166 186 (by decide) rfl mixed rfl ?_
                  refine RW.opd rfl rfl (LO.load_agg rfl rfl rfl ty28 rfl (Tk.lit rfl)) ?_
                  refine RW.opd rfl rfl (LO.move rfl rfl) ?_
                  refine RW.opd rfl rfl (LO.move rfl rfl) ?_
                  refine RW.opd rfl rfl (LO.call0 (fr := []) rfl rfl (v1) fok24 (.cons rfl (.pure rfl) (.cons rfl (.pure rfl) (.cons rfl (.pure rfl) .nil))) rfl) ?_
                  refine RW.opd rfl rfl (LO.load_agg rfl rfl rfl ty28 rfl (Tk.lit rfl)) ?_
                  refine RW.opd rfl rfl (LO.move rfl rfl) ?_
                  refine RW.opd rfl rfl (LO.move rfl rfl) ?_
                  refine RW.opd rfl rfl (LO.call0 (fr := []) rfl rfl (v2) fok25 (.cons rfl (.pure rfl) (.cons rfl (.pure rfl) (.cons rfl (.pure rfl) .nil))) rfl) ?_
                  refine RW.opd rfl rfl (LO.neq_bool rfl rfl rfl ty4) ?_
                  refine RW.opd rfl rfl (LO.move rfl rfl) ?_
                  refine RW.gd rfl rfl rfl ?_ rfl (LO.load_agg rfl rfl rfl ty28 rfl (Tk.lit rfl)) ?_; (· (first | rfl | assumption))
                  refine RW.gd rfl rfl rfl ?_ rfl (LO.move rfl rfl) ?_; (· (first | rfl | assumption))
                  refine RW.gd rfl rfl rfl ?_ rfl (LO.move rfl rfl) ?_; (· (first | rfl | assumption))
                  refine RW.gd rfl rfl rfl ?_ rfl (LO.call0 (fr := []) rfl rfl (v3) fok18 (.cons rfl (.pure rfl) (.cons rfl (.pure rfl) (.cons rfl (.pure rfl) .nil))) rfl) ?_; (· (first | rfl | assumption))
                  refine RW.gd rfl rfl rfl ?_ rfl (LO.load_agg rfl rfl rfl ty28 rfl (Tk.lit rfl)) ?_; (· (first | rfl | assumption))
                  refine RW.gd rfl rfl rfl ?_ rfl (LO.move rfl rfl) ?_; (· (first | rfl | assumption))
                  refine RW.gd rfl rfl rfl ?_ rfl (LO.move rfl rfl) ?_; (· (first | rfl | assumption))
                  refine RW.gd rfl rfl rfl ?_ rfl (LO.call0 (fr := []) rfl rfl (v4) fok17 (.cons rfl (.pure rfl) (.cons rfl (.pure rfl) (.cons rfl (.pure rfl) .nil))) rfl) ?_; (· (first | rfl | assumption))
                  refine RW.gd rfl rfl rfl ?_ rfl (LO.neq rfl rfl rfl) ?_; (· (first | rfl | assumption))
                  refine RW.opd rfl rfl (LO.pick_f rfl rfl ?_ rfl) ?_; (· (first | rfl | assumption))
                  refine RW.nil ⟨by kernel_rfl, ?_⟩
                  repeat (refine W.seq ?_)
                  refine W.cond_f rfl (by first | rfl | assumption) ?_
                  refine W.skip ?_
                  repeat (refine W.seq ?_)
                  refine W.region 195 197 (by decide) rfl rfl ?_
                  refine RW.opd rfl rfl (LO.add_in rfl rfl rfl ?_) ?_; (· (first | exact IntWalk.i64_in _ (by omega) | assumption))
                  refine RW.opd rfl rfl (LO.move rfl rfl) ?_
                  refine RW.nil ?_
                  refine WL.rename [(0, 0), (1, 1), (2, 2), (3, 3), (4, 4)] 5 (by decide) ?_ ?_ (ihC (i + 1) (show 3 - (i + 1) < 3 - i from by omega) (show (i + 1) ≤ 3 from by omega))
                  · (repeat' (first | exact all_mt | refine all_up ?_ ?_)) <;> first | exact .inl ⟨rfl, rfl⟩ | exact .inr ⟨rfl, fun _ h => by cases h⟩ | exact .inl ⟨rfl, by first | rfl | assumption ⟩
                  · (repeat' (first | exact all_mt | refine all_up ?_ ?_)) <;> first | exact ⟨rfl, _, rfl, .inr ⟨rfl, rfl⟩⟩ | exact ⟨rfl, _, rfl, .inl rfl⟩ | exact ⟨rfl, _, rfl, .inr ⟨rfl, by first | rfl | assumption ⟩⟩
                · have g3 : decide ((i : Int) < 3) = false := decide_eq_false (by omega)
                  repeat (refine W.seq ?_)
                  refine W.region 154 155 (by decide) rfl rfl ?_
                  refine RW.opd rfl rfl (LO.lss rfl rfl rfl) ?_
                  refine RW.nil ?_
                  repeat (refine W.seq ?_)
                  refine W.cond_f rfl (by first | rfl | assumption) ?_
                  refine W.exit ?_
                  repeat (refine W.seq ?_)
                  refine W.region 201 203 (by decide) rfl rfl ?_
                  refine RW.opd rfl rfl (LO.add_in rfl rfl rfl ?_) ?_; (· (first | exact IntWalk.i64_in _ (by omega) | assumption))
                  refine RW.opd rfl rfl (LO.move rfl rfl) ?_
                  refine RW.nil ?_
                  refine WL.rename [(0, 0), (1, 1), (2, 2), (3, 3)] 4 (by decide) ?_ ?_ (ihB (j + 1) (show 2 - (j + 1) < 2 - j from by omega) (show (j + 1) ≤ 2 from by omega))
                  · (repeat' (first | exact all_mt | refine all_up ?_ ?_)) <;> first | exact .inl ⟨rfl, rfl⟩ | exact .inr ⟨rfl, fun _ h => by cases h⟩ | exact .inl ⟨rfl, by first | rfl | assumption ⟩
                  · (repeat' (first | exact all_mt | refine all_up ?_ ?_)) <;> first | exact ⟨rfl, _, rfl, .inr ⟨rfl, rfl⟩⟩ | exact ⟨rfl, _, rfl, .inl rfl⟩ | exact ⟨rfl, _, rfl, .inr ⟨rfl, by first | rfl | assumption ⟩⟩
              · have g2 : decide ((j : Int) < 2) = false := decide_eq_false (by omega)
                repeat (refine W.seq ?_)
                refine W.region 88 89 (by decide) rfl rfl ?_
                refine RW.opd rfl rfl (LO.lss rfl rfl rfl) ?_
                refine RW.nil ?_
                repeat (refine W.seq ?_)
                refine W.cond_f rfl (by first | rfl | assumption) ?_
                refine W.exit ?_
                repeat (refine W.seq ?_)
                refine W.region 207 209 (by decide) rfl rfl ?_
                refine RW.opd rfl rfl (LO.add_in rfl rfl rfl ?_) ?_; (· (first | exact IntWalk.i64_in _ (by omega) | assumption))
                refine RW.opd rfl rfl (LO.move rfl rfl) ?_
                refine RW.nil ?_
                refine WL.rename [(0, 0), (1, 1)] 2 (by decide) ?_ ?_ (ihA (k + 1) (show 2 - (k + 1) < 2 - k from by omega) (show (k + 1) ≤ 2 from by omega))
                · (repeat' (first | exact all_mt | refine all_up ?_ ?_)) <;> first | exact .inl ⟨rfl, rfl⟩ | exact .inr ⟨rfl, fun _ h => by cases h⟩ | exact .inl ⟨rfl, by first | rfl | assumption ⟩
                · (repeat' (first | exact all_mt | refine all_up ?_ ?_)) <;> first | exact ⟨rfl, _, rfl, .inr ⟨rfl, rfl⟩⟩ | exact ⟨rfl, _, rfl, .inl rfl⟩ | exact ⟨rfl, _, rfl, .inr ⟨rfl, by first | rfl | assumption ⟩⟩
            case' neg =>
              have g1 : decide ((k : Int) < 2) = false := decide_eq_false (by omega)
              have hw1 := without_any f its (by omega) (by omega) (by omega) (by omega)
              have hw2 := withoutX_any f its (by omega) (by omega) (by omega) (by omega) hin
              obtain ⟨w1, w2⟩ := withoutF_len f its
              have w3 : (withoutF f its).links.length = f.links.length := rfl
              repeat (refine W.seq ?_)
              refine W.region 66 67 (by decide) rfl rfl ?_
              refine RW.opd rfl rfl (LO.lss rfl rfl rfl) ?_
              refine RW.nil ?_
              repeat (refine W.seq ?_)
              refine W.cond_f rfl (by first | rfl | assumption) ?_
              refine W.exit ?_
              obtain ⟨g, hg⟩ : ∃ g, withoutF f its = g := ⟨_, rfl⟩
              rw [hg] at hw1 hw2 w1 w2 w3
              clear hg
              have n1 : ((g.down.length : Int) != (g.down.length : Int)) = false := by simp
              have n2 : ((g.dead.length : Int) != (g.dead.length : Int)) = false := by simp
              have n3 : ((g.links.length : Int) != (g.links.length : Int)) = false := by simp
              have n4 : (g.sw != g.sw) = false := by simp
              repeat (refine W.seq ?_)
              refine W.regionD 213 223 (by decide) rfl mixed rfl ?_
              refine RW.opd rfl rfl (LO.load_agg rfl rfl rfl ty28 rfl (Tk.lit rfl)) ?_
              refine RW.opd rfl rfl (LO.move rfl rfl) ?_
              refine RW.opd rfl rfl (LO.call0 (fr := []) rfl rfl (hw1) fok19 (.cons rfl (.pure rfl) (.cons rfl (.pure rfl) .nil)) rfl) ?_
              refine RW.opd rfl rfl (LO.load_agg rfl rfl rfl ty28 rfl (Tk.lit rfl)) ?_
              refine RW.opd rfl rfl (LO.move rfl rfl) ?_
              refine RW.opd rfl rfl (LO.call0 (fr := []) rfl rfl (hw2) fok26 (.cons rfl (.pure rfl) (.cons rfl (.pure rfl) .nil)) rfl) ?_
              refine RW.opd rfl rfl (LO.alloc rfl ty28) ?_
              refine RW.opd rfl rfl (LO.alloc rfl ty28) ?_
              refine RW.opn rfl rfl (LO.store rfl rfl rfl rfl rfl ty28 rfl (by decide) (Sp.lit rfl)) ?_
              refine RW.opn rfl rfl (LO.store rfl rfl rfl rfl rfl ty28 rfl (by decide) (Sp.lit rfl)) ?_
              refine RW.nil ⟨by kernel_rfl, ?_⟩
              repeat (refine W.seq ?_)
              refine W.region 227 259 (by decide) rfl rfl ?_
              refine RW.opd rfl rfl (LO.fieldAddr rfl rfl ty28 rfl (by decide)) ?_
              refine RW.opd rfl rfl (LO.load rfl rfl rfl rfl ty26 rfl) ?_
              refine RW.opd rfl rfl (LO.len_isl rfl rfl rfl ty26) ?_
              refine RW.opd rfl rfl (LO.fieldAddr rfl rfl ty28 rfl (by decide)) ?_
              refine RW.opd rfl rfl (LO.load rfl rfl rfl rfl ty26 rfl) ?_
              refine RW.opd rfl rfl (LO.len_isl rfl rfl rfl ty26) ?_
              refine RW.opd rfl rfl (LO.neq rfl rfl rfl) ?_
              refine RW.opd rfl rfl (LO.move rfl rfl) ?_
              refine RW.gd rfl rfl rfl ?_ rfl (LO.fieldAddr rfl rfl ty28 rfl (by decide)) ?_; (· (first | rfl | assumption))
              refine RW.gd rfl rfl rfl ?_ rfl (LO.load rfl rfl rfl rfl ty26 rfl) ?_; (· (first | rfl | assumption))
              refine RW.gd rfl rfl rfl ?_ rfl (LO.len_isl rfl rfl rfl ty26) ?_; (· (first | rfl | assumption))
              refine RW.gd rfl rfl rfl ?_ rfl (LO.fieldAddr rfl rfl ty28 rfl (by decide)) ?_; (· (first | rfl | assumption))
              refine RW.gd rfl rfl rfl ?_ rfl (LO.load rfl rfl rfl rfl ty26 rfl) ?_; (· (first | rfl | assumption))
              refine RW.gd rfl rfl rfl ?_ rfl (LO.len_isl rfl rfl rfl ty26) ?_; (· (first | rfl | assumption))
              refine RW.gd rfl rfl rfl ?_ rfl (LO.neq rfl rfl rfl) ?_; (· (first | rfl | assumption))
              refine RW.opd rfl rfl (LO.pick_f rfl rfl ?_ rfl) ?_; (· (first | rfl | assumption))
              refine RW.opd rfl rfl (LO.move rfl rfl) ?_
              refine RW.gd rfl rfl rfl ?_ rfl (LO.fieldAddr rfl rfl ty28 rfl (by decide)) ?_; (· (first | rfl | assumption))
              refine RW.gd rfl rfl rfl ?_ rfl (LO.load rfl rfl rfl rfl ty25 rfl) ?_; (· (first | rfl | assumption))
              refine RW.gd rfl rfl rfl ?_ rfl (LO.len_isl rfl rfl rfl ty25) ?_; (· (first | rfl | assumption))
              refine RW.gd rfl rfl rfl ?_ rfl (LO.fieldAddr rfl rfl ty28 rfl (by decide)) ?_; (· (first | rfl | assumption))
              refine RW.gd rfl rfl rfl ?_ rfl (LO.load rfl rfl rfl rfl ty25 rfl) ?_; (· (first | rfl | assumption))
              refine RW.gd rfl rfl rfl ?_ rfl (LO.len_isl rfl rfl rfl ty25) ?_; (· (first | rfl | assumption))
              refine RW.gd rfl rfl rfl ?_ rfl (LO.neq rfl rfl rfl) ?_; (· (first | rfl | assumption))
              refine RW.opd rfl rfl (LO.pick_f rfl rfl ?_ rfl) ?_; (· (first | rfl | assumption))
              refine RW.opd rfl rfl (LO.move rfl rfl) ?_
              refine RW.gd rfl rfl rfl ?_ rfl (LO.fieldAddr rfl rfl ty28 rfl (by decide)) ?_; (· (first | rfl | assumption))
              refine RW.gd rfl rfl rfl ?_ rfl (LO.load rfl rfl rfl rfl ty3 rfl) ?_; (· (first | rfl | assumption))
              refine RW.gd rfl rfl rfl ?_ rfl (LO.fieldAddr rfl rfl ty28 rfl (by decide)) ?_; (· (first | rfl | assumption))
              refine RW.gd rfl rfl rfl ?_ rfl (LO.load rfl rfl rfl rfl ty3 rfl) ?_; (· (first | rfl | assumption))
              refine RW.gd rfl rfl rfl ?_ rfl (LO.neq rfl rfl rfl) ?_; (· (first | rfl | assumption))
              refine RW.opd rfl rfl (LO.pick_f rfl rfl ?_ rfl) ?_; (· (first | rfl | assumption))
              refine RW.nil ?_
              repeat (refine W.seq ?_)
              refine W.cond_f rfl (by first | rfl | assumption) ?_
              refine W.skip ?_
              repeat (refine W.seq ?_)
              refine W.region 268 272 (by decide) rfl rfl ?_
              refine RW.opd rfl rfl (LO.fieldAddr rfl rfl ty28 rfl (by decide)) ?_
              refine RW.opd rfl rfl (LO.load rfl rfl rfl rfl ty26 rfl) ?_
              refine RW.opd rfl rfl (LO.len_isl rfl rfl rfl ty26) ?_
              refine RW.opd rfl rfl (LO.move rfl rfl) ?_
              refine RW.nil ?_
              repeat (refine W.seq ?_)
              refine W.block ?_
              refine W.rename [(0, 219), (1, 220)] 2 (T' := up (up (up (up mt 22 (some (.own 0 0))) 23 (some (.own 1 0))) 171 (some (.base (.int .i64 (g.down.length : Int))))) 172 (some (.base (.int .i64 (0 : Int))))) (H' := up (up mt 0 (some (fabC g))) 1 (some (fabC g))) (by decide) ?_ ?_ ?_
              · (repeat' (first | exact all_mt | refine all_up ?_ ?_)) <;> first | exact .inl ⟨rfl, rfl⟩ | exact .inr ⟨rfl, fun _ h => by cases h⟩ | exact .inl ⟨rfl, by first | rfl | assumption ⟩
              · (repeat' (first | exact all_mt | refine all_up ?_ ?_)) <;> first | exact ⟨rfl, _, rfl, .inr ⟨rfl, rfl⟩⟩ | exact ⟨rfl, _, rfl, .inl rfl⟩ | exact ⟨rfl, _, rfl, .inr ⟨rfl, by first | rfl | assumption ⟩⟩
              refine W.loop_ind (α := Nat) (fun x => g.down.length - x) 2 (fun x => up (up (up (up mt 22 (some (.own 0 0))) 23 (some (.own 1 0))) 171 (some (.base (.int .i64 (g.down.length : Int))))) 172 (some (.base (.int .i64 (x : Int))))) (fun x => up (up mt 0 (some (fabC g))) 1 (some (fabC g))) (fun x => x ≤ g.down.length) 0 (show 0 ≤ g.down.length from Nat.zero_le _) ?_
              rintro i hID ihD
              try (dsimp only at hID)
              try dsimp only
              have hi : i ≤ g.down.length := hID
              by_cases hc4 : i < g.down.length
              · have g2 : decide ((i : Int) < (g.down.length : Int)) = true := decide_eq_true (by omega)
                have hlk : i < g.links.length := by omega
                have n5 : (!(g.down[i] == g.down[i])) = false := by simp
                repeat (refine W.seq ?_)
                refine W.region 276 277 (by decide) rfl rfl ?_
                refine RW.opd rfl rfl (LO.lss rfl rfl rfl) ?_
                refine RW.nil ?_
                repeat (refine W.seq ?_)
                refine W.cond_t rfl (by first | rfl | assumption) ?_
                refine W.skip ?_
                repeat (refine W.seq ?_)
                refine W.block ?_
                repeat (refine W.seq ?_)
                refine W.region 281 283 (by decide) rfl rfl ?_
                refine RW.opd rfl rfl (LO.move rfl rfl) ?_
                refine RW.opd rfl rfl (LO.assign rfl rfl) ?_
                refine RW.nil ?_
                repeat (refine W.seq ?_)
                refine W.regionD 287 311 (by decide) rfl mixed rfl ?_
                refine RW.opd rfl rfl (LO.fieldAddr rfl rfl ty28 rfl (by decide)) ?_
                refine RW.opd rfl rfl (LO.load rfl rfl rfl rfl ty26 rfl) ?_
                refine RW.opd rfl rfl (LO.move rfl rfl) ?_
                refine RW.opd rfl rfl (LO.indexAddr_isl rfl rfl rfl rfl rfl ty26 ty4 ?_) ?_; (· (first | omega | decide | assumption | fail | (simp; done) | (simp; omega)))
                refine RW.opd rfl rfl (LO.load_imm rfl rfl (boolsC_at hc4) ty4 rfl) ?_
                refine RW.opd rfl rfl (LO.fieldAddr rfl rfl ty28 rfl (by decide)) ?_
                refine RW.opd rfl rfl (LO.load rfl rfl rfl rfl ty26 rfl) ?_
                refine RW.opd rfl rfl (LO.move rfl rfl) ?_
                refine RW.opd rfl rfl (LO.indexAddr_isl rfl rfl rfl rfl rfl ty26 ty4 ?_) ?_; (· (first | omega | decide | assumption | fail | (simp; done) | (simp; omega)))
                refine RW.opd rfl rfl (LO.load_imm rfl rfl (boolsC_at hc4) ty4 rfl) ?_
                refine RW.opd rfl rfl (LO.neq_bool rfl rfl rfl ty4) ?_
                refine RW.opd rfl rfl (LO.move rfl rfl) ?_
                refine RW.gd rfl rfl rfl ?_ rfl (LO.fieldAddr rfl rfl ty28 rfl (by decide)) ?_; (· (first | rfl | assumption))
                refine RW.gd rfl rfl rfl ?_ rfl (LO.load rfl rfl rfl rfl ty25 rfl) ?_; (· (first | rfl | assumption))
                refine RW.gd rfl rfl rfl ?_ rfl (LO.move rfl rfl) ?_; (· (first | rfl | assumption))
                refine RW.gd rfl rfl rfl ?_ rfl (LO.indexAddr_isl rfl rfl rfl rfl rfl ty25 ty56 ?_) ?_; (· (first | rfl | assumption)); (· (first | omega | decide | assumption | fail | (simp; done) | (simp; omega)))
                refine RW.gd rfl rfl rfl ?_ rfl (LO.load_imm_agg rfl rfl ty56 rfl (lnksC_tk hlk)) ?_; (· (first | rfl | assumption))
                refine RW.gd rfl rfl rfl ?_ rfl (LO.fieldAddr rfl rfl ty28 rfl (by decide)) ?_; (· (first | rfl | assumption))
                refine RW.gd rfl rfl rfl ?_ rfl (LO.load rfl rfl rfl rfl ty25 rfl) ?_; (· (first | rfl | assumption))
                refine RW.gd rfl rfl rfl ?_ rfl (LO.move rfl rfl) ?_; (· (first | rfl | assumption))
                refine RW.gd rfl rfl rfl ?_ rfl (LO.indexAddr_isl rfl rfl rfl rfl rfl ty25 ty56 ?_) ?_; (· (first | rfl | assumption)); (· (first | omega | decide | assumption | fail | (simp; done) | (simp; omega)))
                refine RW.gd rfl rfl rfl ?_ rfl (LO.load_imm_agg rfl rfl ty56 rfl (lnksC_tk hlk)) ?_; (· (first | rfl | assumption))
                refine RW.gd rfl rfl rfl ?_ rfl (LO.neLnk g.links[i] rfl rfl rfl) ?_; (· (first | rfl | assumption))
                refine RW.opd rfl rfl (LO.pick_f rfl rfl ?_ rfl) ?_; (· (first | rfl | assumption))
                refine RW.nil ⟨by kernel_rfl, ?_⟩
                repeat (refine W.seq ?_)
                refine W.cond_f rfl (by first | rfl | assumption) ?_
                refine W.skip ?_
                repeat (refine W.seq ?_)
                refine W.region 320 322 (by decide) rfl rfl ?_
                refine RW.opd rfl rfl (LO.add_in rfl rfl rfl ?_) ?_; (· (first | exact IntWalk.i64_in _ (by omega) | assumption))
                refine RW.opd rfl rfl (LO.move rfl rfl) ?_
                refine RW.nil ?_
                refine WL.rename [(0, 0), (1, 1)] 2 (by decide) ?_ ?_ (ihD (i + 1) (show g.down.length - (i + 1) < g.down.length - i from by omega) (show (i + 1) ≤ g.down.length from by omega))
                · (repeat' (first | exact all_mt | refine all_up ?_ ?_)) <;> first | exact .inl ⟨rfl, rfl⟩ | exact .inr ⟨rfl, fun _ h => by cases h⟩ | exact .inl ⟨rfl, by first | rfl | assumption ⟩
                · (repeat' (first | exact all_mt | refine all_up ?_ ?_)) <;> first | exact ⟨rfl, _, rfl, .inr ⟨rfl, rfl⟩⟩ | exact ⟨rfl, _, rfl, .inl rfl⟩ | exact ⟨rfl, _, rfl, .inr ⟨rfl, by first | rfl | assumption ⟩⟩
              · have g2 : decide ((i : Int) < (g.down.length : Int)) = false := decide_eq_false (by omega)
                repeat (refine W.seq ?_)
                refine W.region 276 277 (by decide) rfl rfl ?_
                refine RW.opd rfl rfl (LO.lss rfl rfl rfl) ?_
                refine RW.nil ?_
                repeat (refine W.seq ?_)
                refine W.cond_f rfl (by first | rfl | assumption) ?_
                refine W.exit ?_
                repeat (refine W.seq ?_)
                refine W.region 326 330 (by decide) rfl rfl ?_
                refine RW.opd rfl rfl (LO.fieldAddr rfl rfl ty28 rfl (by decide)) ?_
                refine RW.opd rfl rfl (LO.load rfl rfl rfl rfl ty26 rfl) ?_
                refine RW.opd rfl rfl (LO.len_isl rfl rfl rfl ty26) ?_
                refine RW.opd rfl rfl (LO.move rfl rfl) ?_
                refine RW.nil ?_
                repeat (refine W.seq ?_)
                refine W.block ?_
                refine W.rename [(0, 0), (1, 1)] 2 (T' := up (up (up (up mt 22 (some (.own 0 0))) 23 (some (.own 1 0))) 202 (some (.base (.int .i64 (g.dead.length : Int))))) 203 (some (.base (.int .i64 (0 : Int))))) (H' := up (up mt 0 (some (fabC g))) 1 (some (fabC g))) (by decide) ?_ ?_ ?_
                · (repeat' (first | exact all_mt | refine all_up ?_ ?_)) <;> first | exact .inl ⟨rfl, rfl⟩ | exact .inr ⟨rfl, fun _ h => by cases h⟩ | exact .inl ⟨rfl, by first | rfl | assumption ⟩
                · (repeat' (first | exact all_mt | refine all_up ?_ ?_)) <;> first | exact ⟨rfl, _, rfl, .inr ⟨rfl, rfl⟩⟩ | exact ⟨rfl, _, rfl, .inl rfl⟩ | exact ⟨rfl, _, rfl, .inr ⟨rfl, by first | rfl | assumption ⟩⟩
                refine W.loop_ind (α := Nat) (fun x => g.dead.length - x) 2 (fun x => up (up (up (up mt 22 (some (.own 0 0))) 23 (some (.own 1 0))) 202 (some (.base (.int .i64 (g.dead.length : Int))))) 203 (some (.base (.int .i64 (x : Int))))) (fun x => up (up mt 0 (some (fabC g))) 1 (some (fabC g))) (fun x => x ≤ g.dead.length) 0 (show 0 ≤ g.dead.length from Nat.zero_le _) ?_
                rintro j hIE ihE
                try (dsimp only at hIE)
                try dsimp only
                have hj : j ≤ g.dead.length := hIE
                by_cases hc5 : j < g.dead.length
                · have g3 : decide ((j : Int) < (g.dead.length : Int)) = true := decide_eq_true (by omega)
                  have n5 : (!(g.dead[j] == g.dead[j])) = false := by simp
                  repeat (refine W.seq ?_)
                  refine W.region 334 335 (by decide) rfl rfl ?_
                  refine RW.opd rfl rfl (LO.lss rfl rfl rfl) ?_
                  refine RW.nil ?_
                  repeat (refine W.seq ?_)
                  refine W.cond_t rfl (by first | rfl | assumption) ?_
                  refine W.skip ?_
                  repeat (refine W.seq ?_)
                  refine W.block ?_
                  repeat (refine W.seq ?_)
                  refine W.region 339 341 (by decide) rfl rfl ?_
                  refine RW.opd rfl rfl (LO.move rfl rfl) ?_
                  refine RW.opd rfl rfl (LO.assign rfl rfl) ?_
                  refine RW.nil ?_
                  repeat (refine W.seq ?_)
                  refine W.regionD 345 356 (by decide) rfl mixed rfl ?_
                  refine RW.opd rfl rfl (LO.fieldAddr rfl rfl ty28 rfl (by decide)) ?_
                  refine RW.opd rfl rfl (LO.load rfl rfl rfl rfl ty26 rfl) ?_
                  refine RW.opd rfl rfl (LO.move rfl rfl) ?_
                  refine RW.opd rfl rfl (LO.indexAddr_isl rfl rfl rfl rfl rfl ty26 ty4 ?_) ?_; (· (first | omega | decide | assumption | fail | (simp; done) | (simp; omega)))
                  refine RW.opd rfl rfl (LO.load_imm rfl rfl (boolsC_at hc5) ty4 rfl) ?_
                  refine RW.opd rfl rfl (LO.fieldAddr rfl rfl ty28 rfl (by decide)) ?_
                  refine RW.opd rfl rfl (LO.load rfl rfl rfl rfl ty26 rfl) ?_
                  refine RW.opd rfl rfl (LO.move rfl rfl) ?_
                  refine RW.opd rfl rfl (LO.indexAddr_isl rfl rfl rfl rfl rfl ty26 ty4 ?_) ?_; (· (first | omega | decide | assumption | fail | (simp; done) | (simp; omega)))
                  refine RW.opd rfl rfl (LO.load_imm rfl rfl (boolsC_at hc5) ty4 rfl) ?_
                  refine RW.opd rfl rfl (LO.neq_bool rfl rfl rfl ty4) ?_
                  refine RW.nil ⟨by kernel_rfl, ?_⟩
                  repeat (refine W.seq ?_)
                  refine W.cond_f rfl (by first | rfl | assumption) ?_
                  refine W.skip ?_
                  repeat (refine W.seq ?_)
                  refine W.region 365 367 (by decide) rfl rfl ?_
                  refine RW.opd rfl rfl (LO.add_in rfl rfl rfl ?_) ?_; (· (first | exact IntWalk.i64_in _ (by omega) | assumption))
                  refine RW.opd rfl rfl (LO.move rfl rfl) ?_
                  refine RW.nil ?_
                  refine WL.rename [(0, 0), (1, 1)] 2 (by decide) ?_ ?_ (ihE (j + 1) (show g.dead.length - (j + 1) < g.dead.length - j from by omega) (show (j + 1) ≤ g.dead.length from by omega))
                  · (repeat' (first | exact all_mt | refine all_up ?_ ?_)) <;> first | exact .inl ⟨rfl, rfl⟩ | exact .inr ⟨rfl, fun _ h => by cases h⟩ | exact .inl ⟨rfl, by first | rfl | assumption ⟩
                  · (repeat' (first | exact all_mt | refine all_up ?_ ?_)) <;> first | exact ⟨rfl, _, rfl, .inr ⟨rfl, rfl⟩⟩ | exact ⟨rfl, _, rfl, .inl rfl⟩ | exact ⟨rfl, _, rfl, .inr ⟨rfl, by first | rfl | assumption ⟩⟩
                · have g3 : decide ((j : Int) < (g.dead.length : Int)) = false := decide_eq_false (by omega)
                  repeat (refine W.seq ?_)
                  refine W.region 334 335 (by decide) rfl rfl ?_
                  refine RW.opd rfl rfl (LO.lss rfl rfl rfl) ?_
                  refine RW.nil ?_
                  repeat (refine W.seq ?_)
                  refine W.cond_f rfl (by first | rfl | assumption) ?_
                  refine W.exit ?_
                  repeat (refine W.seq ?_)
                  refine W.region 371 373 (by decide) rfl rfl ?_
                  refine RW.opd rfl rfl (LO.call0 (fr := []) rfl rfl (haw) fok8 .nil rfl) ?_
                  refine RW.opd rfl rfl (LO.assign rfl rfl) ?_
                  refine RW.nil ?_
                  repeat (refine W.seq ?_)
                  refine W.ret ⟨.inl rfl, _, mt, RVs.cons (RV.tmp rfl) (RVs.nil), all_mt, ?_⟩
                  exact ⟨rfl, rfl⟩
  all_goals
    repeat (refine W.seq ?_)
    refine W.cond_t rfl (by first | rfl | assumption) ?_
    repeat (refine W.seq ?_)
    refine W.region 36 38 (by decide) rfl rfl ?_
    refine RW.opd rfl rfl (LO.call0 (fr := []) rfl rfl (haw) fok8 .nil rfl) ?_
    refine RW.opd rfl rfl (LO.assign rfl rfl) ?_
    refine RW.nil ?_
    repeat (refine W.seq ?_)
    refine W.ret ⟨.inl rfl, _, mt, RVs.cons (RV.tmp rfl) (RVs.nil), all_mt, ?_⟩
    exact ⟨rfl, rfl⟩
end Go.Proofs.YtbjfaepjpmogjaaDoor
