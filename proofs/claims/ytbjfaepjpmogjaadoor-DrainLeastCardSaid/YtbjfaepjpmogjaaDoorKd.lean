/-
  A fabric without items: both texts.
-/
import Derived.Test.YtbjfaepjpmogjaaDoorKc
namespace Go.Proofs.YtbjfaepjpmogjaaDoor
open Go.RowKit

def wset (l : List Bool) (x : Int) : List Bool := if 0 ≤ x ∧ x < l.length then l.set x.toNat true else l
theorem wset_len (l : List Bool) (x : Int) : (wset l x).length = l.length := by unfold wset; split <;> simp
def stepW (p : List Bool × List Bool) (x : Itm) : List Bool × List Bool := if x.sw then (p.1, wset p.2 x.ix) else (wset p.1 x.ix, p.2)
def wK (f : Fab) (its : List Itm) (k : Nat) : List Bool × List Bool := (its.take k).foldl stepW (f.down, f.dead)
theorem wK_succ (f : Fab) {its : List Itm} {k : Nat} (h : k < its.length) : wK f its (k + 1) = stepW (wK f its k) its[k] := by
  unfold wK
  rw [List.take_succ_eq_append_getElem h, List.foldl_append]; rfl
theorem wK_len (f : Fab) (its : List Itm) (k : Nat) : (wK f its k).1.length = f.down.length ∧ (wK f its k).2.length = f.dead.length := by
  unfold wK
  have : ∀ (l : List Itm) (p : List Bool × List Bool), (l.foldl stepW p).1.length = p.1.length ∧ (l.foldl stepW p).2.length = p.2.length := fun l => by
    induction l with
    | nil => intro p; exact ⟨rfl, rfl⟩
    | cons x l ih =>
      intro p
      rw [List.foldl_cons]
      obtain ⟨h1, h2⟩ := ih (stepW p x)
      rw [h1, h2]
      unfold stepW
      split
      · exact ⟨rfl, wset_len _ _⟩
      · exact ⟨wset_len _ _, rfl⟩
  exact this _ _
/-- a fabric without items -/
def withoutF (f : Fab) (its : List Itm) : Fab := { f with down := (wK f its its.length).1, dead := (wK f its its.length).2 }
theorem withoutF_len (f : Fab) (its : List Itm) : (withoutF f its).down.length = f.down.length ∧ (withoutF f its).dead.length = f.dead.length := wK_len f its _
theorem bs_in {l : List Bool} {x : Int} (h0 : 0 ≤ x) (h1 : x < l.length) : Sp (boolsC l) (0 + x.toNat * 1) [.base (.bool true)] (boolsC (wset l x)) := by
  unfold wset; rw [if_pos ⟨h0, h1⟩]; exact bs_at h0 h1
theorem wset_out {l : List Bool} {x : Int} (h : x < 0 ∨ (l.length : Int) ≤ x) : wset l x = l := by
  unfold wset; rw [if_neg (by omega)]
theorem without_any (f : Fab) (its : List Itm) (h1 : f.links.length ≤ 1000) (h2 : f.down.length ≤ 1000) (h3 : f.dead.length ≤ 1000) (hits : its.length ≤ 1000) : AFn Tryd.prog 19 0 [.agg (fabC f), .isl (itsC its) its.length] mt (.agg (fabC (withoutF f its))) mt := by
  refine AFn.eq Tryd.func19 rfl rfl (Nat.le_of_ble_eq_true rfl) ?_
  have hcl := cloneF_any f h1 h2 h3
  repeat (refine W.seq ?_)
  refine W.region 0 2 (by decide) rfl rfl ?_
  refine RW.opd rfl rfl (LO.box rfl rfl rfl) ?_
  refine RW.opd rfl rfl (LO.alloc rfl ty28) ?_
  refine RW.nil ?_
  repeat (refine W.seq ?_)
  refine W.regionM (pre := [_]) (post := [_, _]) 1 3 6 (10 + 3) rfl rfl (by decide) rfl rfl ?_
  refine RW.opd rfl rfl (LO.load_agg rfl rfl rfl ty28 rfl (Tk.lit rfl)) ?_
  refine RW.nil ⟨rfl, _, _, SOpM.call3 (N := 10) (fr := []) rfl rfl hcl fok38 (.cons rfl (.pure rfl) .nil) (.cons (.base _) (.cons (.osl (by decide)) (.cons (.osl (by decide)) (.cons (.osl (by decide)) .nil)))) (fun c h => by injection h with h; rw [← h]; exact lnks_pure _) (fun c h => by injection h with h; rw [← h]; exact boolsC_pure _) (fun c h => by injection h with h; rw [← h]; exact boolsC_pure _) rfl rfl rfl, ?_⟩
  refine RW.opd rfl rfl (LO.alloc rfl ty28) ?_
  refine RW.opn rfl rfl (LO.store rfl rfl rfl rfl rfl ty28 rfl (by decide) (Sp.lit rfl)) ?_
  refine RW.nil ?_
  repeat (refine W.seq ?_)
  refine W.region 14 17 (by decide) rfl rfl ?_
  refine RW.opd rfl rfl (LO.move rfl rfl) ?_
  refine RW.opd rfl rfl (LO.len_isl rfl rfl rfl ty22) ?_
  refine RW.opd rfl rfl (LO.move rfl rfl) ?_
  refine RW.nil ?_
  repeat (refine W.seq ?_)
  refine W.block ?_
  refine W.rename [(0, 1), (1, 8), (2, 10), (3, (10 + 1)), (4, (10 + 2))] 5 (T' := up (up (up (up (up mt 4 (some (.own 0 0))) 5 (some (.own 1 0))) 11 (some (.isl (itsC its) its.length))) 12 (some (.base (.int .i64 (its.length : Int))))) 13 (some (.base (.int .i64 (0 : Int))))) (H' := up (up (up (up (up mt 0 (some ([.base (.int .i64 0), .nils, .nils, .nils]))) 1 (some ([.base (.int .i64 f.sw), .osl 2 0 f.links.length 3, .osl 3 0 f.down.length 1, .osl 4 0 f.dead.length 1]))) 2 (some (lnksC f.links))) 3 (some (boolsC f.down))) 4 (some (boolsC f.dead))) (by decide) ?_ ?_ ?_
  · (repeat' (first | exact all_mt | refine all_up ?_ ?_)) <;> first | exact .inl ⟨rfl, rfl⟩ | exact .inr ⟨rfl, fun _ h => by cases h⟩ | exact .inl ⟨rfl, by first | rfl | assumption | exact (lnks_pure _) | exact (boolsC_pure _)⟩
  · (repeat' (first | exact all_mt | refine all_up ?_ ?_)) <;> first | exact ⟨rfl, _, rfl, .inr ⟨rfl, rfl⟩⟩ | exact ⟨rfl, _, rfl, .inl rfl⟩ | exact ⟨rfl, _, rfl, .inr ⟨rfl, by first | rfl | assumption | exact (lnks_pure _) | exact (boolsC_pure _)⟩⟩
  refine W.loop_ind (α := Nat × List Bool × List Bool) (fun x => its.length - x.1) 5 (fun x => up (up (up (up (up mt 4 (some (.own 0 0))) 5 (some (.own 1 0))) 11 (some (.isl (itsC its) its.length))) 12 (some (.base (.int .i64 (its.length : Int))))) 13 (some (.base (.int .i64 (x.1 : Int))))) (fun x => up (up (up (up (up mt 0 (some ([.base (.int .i64 0), .nils, .nils, .nils]))) 1 (some ([.base (.int .i64 f.sw), .osl 2 0 f.links.length 3, .osl 3 0 f.down.length 1, .osl 4 0 f.dead.length 1]))) 2 (some (lnksC f.links))) 3 (some (boolsC x.2.1))) 4 (some (boolsC x.2.2))) (fun x => x.1 ≤ its.length ∧ (x.2.1, x.2.2) = wK f its x.1) (0, f.down, f.dead) (show 0 ≤ its.length ∧ (f.down, f.dead) = wK f its 0 from ⟨Nat.zero_le _, rfl⟩) ?_
  rintro ⟨i, d, e⟩ hIA ihA
  try (dsimp only at hIA)
  try dsimp only
  obtain ⟨hi, hde⟩ := hIA
  have hln := wK_len f its i
  rw [← hde] at hln
  obtain ⟨hd, he⟩ := hln
  dsimp only at hd he
  by_cases hc : i < its.length
  · have g1 : decide ((i : Int) < (its.length : Int)) = true := decide_eq_true (by omega)
    have hnx := wK_succ f hc
    rw [← hde] at hnx
    repeat (refine W.seq ?_)
    refine W.region 21 22 (by decide) rfl rfl ?_
    refine RW.opd rfl rfl (LO.lss rfl rfl rfl) ?_
    refine RW.nil ?_
    repeat (refine W.seq ?_)
    refine W.cond_t rfl (by first | rfl | assumption) ?_
    refine W.skip ?_
    repeat (refine W.seq ?_)
    refine W.block ?_
    repeat (refine W.seq ?_)
    refine W.region 26 30 (by decide) rfl rfl ?_
    refine RW.opd rfl rfl (LO.indexAddr_isl rfl rfl rfl rfl rfl ty22 ty45 ?_) ?_; (· (first | omega | decide | assumption | fail | (simp; done) | (simp; omega)))
    refine RW.opd rfl rfl (LO.load_imm_agg rfl rfl ty45 rfl (its_tk hc)) ?_
    refine RW.opd rfl rfl (LO.alloc rfl ty45) ?_
    refine RW.opn rfl rfl (LO.store rfl rfl rfl rfl rfl ty45 rfl (by decide) (Sp.lit rfl)) ?_
    refine RW.nil ?_
    obtain ⟨it, hit⟩ : ∃ it, its[i] = it := ⟨_, rfl⟩
    rw [hit] at hnx ⊢
    obtain ⟨s, ix⟩ := it
    repeat (refine W.seq ?_)
    refine W.region 34 37 (by decide) rfl rfl ?_
    refine RW.opd rfl rfl (LO.fieldAddr rfl rfl ty28 rfl (by decide)) ?_
    refine RW.opd rfl rfl (LO.load rfl rfl rfl rfl ty26 rfl) ?_
    refine RW.opd rfl rfl (LO.assign rfl rfl) ?_
    refine RW.nil ?_
    cases s
    case' false =>
      have hnx2 : wK f its (i + 1) = (wset d ix, e) := hnx
      repeat (refine W.seq ?_)
      refine W.region 41 43 (by decide) rfl rfl ?_
      refine RW.opd rfl rfl (LO.fieldAddr rfl rfl ty45 rfl (by decide)) ?_
      refine RW.opd rfl rfl (LO.load rfl rfl rfl rfl ty4 rfl) ?_
      refine RW.nil ?_
      repeat (refine W.seq ?_)
      refine W.cond_f rfl (by first | rfl | assumption) ?_
      refine W.skip ?_
      by_cases u0 : ix < 0
      · have hu0 : decide (ix ≥ 0) = false := decide_eq_false (by omega)
        rw [wset_out (.inl u0)] at hnx2
        repeat (refine W.seq ?_)
        refine W.region 54 64 (by decide) rfl rfl ?_
        refine RW.opd rfl rfl (LO.fieldAddr rfl rfl ty45 rfl (by decide)) ?_
        refine RW.opd rfl rfl (LO.load rfl rfl rfl rfl ty3 rfl) ?_
        refine RW.opd rfl rfl (LO.geq rfl rfl rfl) ?_
        refine RW.opd rfl rfl (LO.move rfl rfl) ?_
        refine RW.sd rfl rfl rfl ?_ rfl ?_; (· (first | rfl | assumption))
        refine RW.sd rfl rfl rfl ?_ rfl ?_; (· (first | rfl | assumption))
        refine RW.sd rfl rfl rfl ?_ rfl ?_; (· (first | rfl | assumption))
        refine RW.sd rfl rfl rfl ?_ rfl ?_; (· (first | rfl | assumption))
        refine RW.sd rfl rfl rfl ?_ rfl ?_; (· (first | rfl | assumption))
        refine RW.opd rfl rfl (LO.pick_f rfl rfl ?_ rfl) ?_; (· (first | rfl | assumption))
        refine RW.nil ?_
        repeat (refine W.seq ?_)
        refine W.cond_f rfl (by first | rfl | assumption) ?_
        refine W.skip ?_
        repeat (refine W.seq ?_)
        refine W.region 77 79 (by decide) rfl rfl ?_
        refine RW.opd rfl rfl (LO.add_in rfl rfl rfl ?_) ?_; (· (first | exact IntWalk.i64_in _ (by omega) | assumption))
        refine RW.opd rfl rfl (LO.move rfl rfl) ?_
        refine RW.nil ?_
        refine WL.rename [(0, 0), (1, 1), (2, 2), (3, 3), (4, 4)] 5 (by decide) ?_ ?_ (ihA ((i + 1), d, e) (show its.length - (i + 1) < its.length - i from by omega) (show (i + 1) ≤ its.length ∧ (d, e) = wK f its (i + 1) from ⟨by omega, hnx2.symm⟩))
        · (repeat' (first | exact all_mt | refine all_up ?_ ?_)) <;> first | exact .inl ⟨rfl, rfl⟩ | exact .inr ⟨rfl, fun _ h => by cases h⟩ | exact .inl ⟨rfl, by first | rfl | assumption | exact (lnks_pure _) | exact (boolsC_pure _)⟩
        · (repeat' (first | exact all_mt | refine all_up ?_ ?_)) <;> first | exact ⟨rfl, _, rfl, .inr ⟨rfl, rfl⟩⟩ | exact ⟨rfl, _, rfl, .inl rfl⟩ | exact ⟨rfl, _, rfl, .inr ⟨rfl, by first | rfl | assumption | exact (lnks_pure _) | exact (boolsC_pure _)⟩⟩
      · have hu0 : decide (ix ≥ 0) = true := decide_eq_true (by omega)
        have hx0 : 0 ≤ ix := by omega
        by_cases u1 : ix < f.down.length
        · have hu1 : decide (ix < (f.down.length : Int)) = true := decide_eq_true u1
          repeat (refine W.seq ?_)
          refine W.region 54 64 (by decide) rfl rfl ?_
          refine RW.opd rfl rfl (LO.fieldAddr rfl rfl ty45 rfl (by decide)) ?_
          refine RW.opd rfl rfl (LO.load rfl rfl rfl rfl ty3 rfl) ?_
          refine RW.opd rfl rfl (LO.geq rfl rfl rfl) ?_
          refine RW.opd rfl rfl (LO.move rfl rfl) ?_
          refine RW.gd rfl rfl rfl ?_ rfl (LO.fieldAddr rfl rfl ty45 rfl (by decide)) ?_; (· (first | rfl | assumption))
          refine RW.gd rfl rfl rfl ?_ rfl (LO.load rfl rfl rfl rfl ty3 rfl) ?_; (· (first | rfl | assumption))
          refine RW.gd rfl rfl rfl ?_ rfl (LO.move rfl rfl) ?_; (· (first | rfl | assumption))
          refine RW.gd rfl rfl rfl ?_ rfl (LO.len rfl rfl ty26) ?_; (· (first | rfl | assumption))
          refine RW.gd rfl rfl rfl ?_ rfl (LO.lss rfl rfl rfl) ?_; (· (first | rfl | assumption))
          refine RW.opd rfl rfl (LO.pick_t rfl rfl ?_ rfl) ?_; (· (first | rfl | assumption))
          refine RW.nil ?_
          repeat (refine W.seq ?_)
          refine W.cond_t rfl (by first | rfl | assumption) ?_
          repeat (refine W.seq ?_)
          refine W.region 68 73 (by decide) rfl rfl ?_
          refine RW.opd rfl rfl (LO.move rfl rfl) ?_
          refine RW.opd rfl rfl (LO.fieldAddr rfl rfl ty45 rfl (by decide)) ?_
          refine RW.opd rfl rfl (LO.load rfl rfl rfl rfl ty3 rfl) ?_
          refine RW.opd rfl rfl (LO.indexAddr rfl rfl rfl (Int.toNat_of_nonneg hx0).symm ty26 ty4 ?_) ?_; (· (first | omega | decide | assumption | fail | (simp; done) | (simp; omega)))
          refine RW.opn rfl rfl (LO.store rfl rfl rfl rfl rfl ty4 rfl (by decide) (bs_in hx0 (by omega))) ?_
          refine RW.nil ?_
          repeat (refine W.seq ?_)
          refine W.region 77 79 (by decide) rfl rfl ?_
          refine RW.opd rfl rfl (LO.add_in rfl rfl rfl ?_) ?_; (· (first | exact IntWalk.i64_in _ (by omega) | assumption))
          refine RW.opd rfl rfl (LO.move rfl rfl) ?_
          refine RW.nil ?_
          refine WL.rename [(0, 0), (1, 1), (2, 2), (3, 3), (4, 4)] 5 (by decide) ?_ ?_ (ihA ((i + 1), (wset d ix), e) (show its.length - (i + 1) < its.length - i from by omega) (show (i + 1) ≤ its.length ∧ ((wset d ix), e) = wK f its (i + 1) from ⟨by omega, hnx2.symm⟩))
          · (repeat' (first | exact all_mt | refine all_up ?_ ?_)) <;> first | exact .inl ⟨rfl, rfl⟩ | exact .inr ⟨rfl, fun _ h => by cases h⟩ | exact .inl ⟨rfl, by first | rfl | assumption | exact (lnks_pure _) | exact (boolsC_pure _)⟩
          · (repeat' (first | exact all_mt | refine all_up ?_ ?_)) <;> first | exact ⟨rfl, _, rfl, .inr ⟨rfl, rfl⟩⟩ | exact ⟨rfl, _, rfl, .inl rfl⟩ | exact ⟨rfl, _, rfl, .inr ⟨rfl, by first | rfl | assumption | exact (lnks_pure _) | exact (boolsC_pure _)⟩⟩
        · have hu1 : decide (ix < (f.down.length : Int)) = false := decide_eq_false u1
          rw [wset_out (.inr (by omega))] at hnx2
          repeat (refine W.seq ?_)
          refine W.region 54 64 (by decide) rfl rfl ?_
          refine RW.opd rfl rfl (LO.fieldAddr rfl rfl ty45 rfl (by decide)) ?_
          refine RW.opd rfl rfl (LO.load rfl rfl rfl rfl ty3 rfl) ?_
          refine RW.opd rfl rfl (LO.geq rfl rfl rfl) ?_
          refine RW.opd rfl rfl (LO.move rfl rfl) ?_
          refine RW.gd rfl rfl rfl ?_ rfl (LO.fieldAddr rfl rfl ty45 rfl (by decide)) ?_; (· (first | rfl | assumption))
          refine RW.gd rfl rfl rfl ?_ rfl (LO.load rfl rfl rfl rfl ty3 rfl) ?_; (· (first | rfl | assumption))
          refine RW.gd rfl rfl rfl ?_ rfl (LO.move rfl rfl) ?_; (· (first | rfl | assumption))
          refine RW.gd rfl rfl rfl ?_ rfl (LO.len rfl rfl ty26) ?_; (· (first | rfl | assumption))
          refine RW.gd rfl rfl rfl ?_ rfl (LO.lss rfl rfl rfl) ?_; (· (first | rfl | assumption))
          refine RW.opd rfl rfl (LO.pick_t rfl rfl ?_ rfl) ?_; (· (first | rfl | assumption))
          refine RW.nil ?_
          repeat (refine W.seq ?_)
          refine W.cond_f rfl (by first | rfl | assumption) ?_
          refine W.skip ?_
          repeat (refine W.seq ?_)
          refine W.region 77 79 (by decide) rfl rfl ?_
          refine RW.opd rfl rfl (LO.add_in rfl rfl rfl ?_) ?_; (· (first | exact IntWalk.i64_in _ (by omega) | assumption))
          refine RW.opd rfl rfl (LO.move rfl rfl) ?_
          refine RW.nil ?_
          refine WL.rename [(0, 0), (1, 1), (2, 2), (3, 3), (4, 4)] 5 (by decide) ?_ ?_ (ihA ((i + 1), d, e) (show its.length - (i + 1) < its.length - i from by omega) (show (i + 1) ≤ its.length ∧ (d, e) = wK f its (i + 1) from ⟨by omega, hnx2.symm⟩))
          · (repeat' (first | exact all_mt | refine all_up ?_ ?_)) <;> first | exact .inl ⟨rfl, rfl⟩ | exact .inr ⟨rfl, fun _ h => by cases h⟩ | exact .inl ⟨rfl, by first | rfl | assumption | exact (lnks_pure _) | exact (boolsC_pure _)⟩
          · (repeat' (first | exact all_mt | refine all_up ?_ ?_)) <;> first | exact ⟨rfl, _, rfl, .inr ⟨rfl, rfl⟩⟩ | exact ⟨rfl, _, rfl, .inl rfl⟩ | exact ⟨rfl, _, rfl, .inr ⟨rfl, by first | rfl | assumption | exact (lnks_pure _) | exact (boolsC_pure _)⟩⟩
    case' true =>
      have hnx2 : wK f its (i + 1) = (d, wset e ix) := hnx
      repeat (refine W.seq ?_)
      refine W.region 41 43 (by decide) rfl rfl ?_
      refine RW.opd rfl rfl (LO.fieldAddr rfl rfl ty45 rfl (by decide)) ?_
      refine RW.opd rfl rfl (LO.load rfl rfl rfl rfl ty4 rfl) ?_
      refine RW.nil ?_
      repeat (refine W.seq ?_)
      refine W.cond_t rfl (by first | rfl | assumption) ?_
      repeat (refine W.seq ?_)
      refine W.region 47 50 (by decide) rfl rfl ?_
      refine RW.opd rfl rfl (LO.fieldAddr rfl rfl ty28 rfl (by decide)) ?_
      refine RW.opd rfl rfl (LO.load rfl rfl rfl rfl ty26 rfl) ?_
      refine RW.opd rfl rfl (LO.assign rfl rfl) ?_
      refine RW.nil ?_
      by_cases u0 : ix < 0
      · have hu0 : decide (ix ≥ 0) = false := decide_eq_false (by omega)
        rw [wset_out (.inl u0)] at hnx2
        repeat (refine W.seq ?_)
        refine W.region 54 64 (by decide) rfl rfl ?_
        refine RW.opd rfl rfl (LO.fieldAddr rfl rfl ty45 rfl (by decide)) ?_
        refine RW.opd rfl rfl (LO.load rfl rfl rfl rfl ty3 rfl) ?_
        refine RW.opd rfl rfl (LO.geq rfl rfl rfl) ?_
        refine RW.opd rfl rfl (LO.move rfl rfl) ?_
        refine RW.sd rfl rfl rfl ?_ rfl ?_; (· (first | rfl | assumption))
        refine RW.sd rfl rfl rfl ?_ rfl ?_; (· (first | rfl | assumption))
        refine RW.sd rfl rfl rfl ?_ rfl ?_; (· (first | rfl | assumption))
        refine RW.sd rfl rfl rfl ?_ rfl ?_; (· (first | rfl | assumption))
        refine RW.sd rfl rfl rfl ?_ rfl ?_; (· (first | rfl | assumption))
        refine RW.opd rfl rfl (LO.pick_f rfl rfl ?_ rfl) ?_; (· (first | rfl | assumption))
        refine RW.nil ?_
        repeat (refine W.seq ?_)
        refine W.cond_f rfl (by first | rfl | assumption) ?_
        refine W.skip ?_
        repeat (refine W.seq ?_)
        refine W.region 77 79 (by decide) rfl rfl ?_
        refine RW.opd rfl rfl (LO.add_in rfl rfl rfl ?_) ?_; (· (first | exact IntWalk.i64_in _ (by omega) | assumption))
        refine RW.opd rfl rfl (LO.move rfl rfl) ?_
        refine RW.nil ?_
        refine WL.rename [(0, 0), (1, 1), (2, 2), (3, 3), (4, 4)] 5 (by decide) ?_ ?_ (ihA ((i + 1), d, e) (show its.length - (i + 1) < its.length - i from by omega) (show (i + 1) ≤ its.length ∧ (d, e) = wK f its (i + 1) from ⟨by omega, hnx2.symm⟩))
        · (repeat' (first | exact all_mt | refine all_up ?_ ?_)) <;> first | exact .inl ⟨rfl, rfl⟩ | exact .inr ⟨rfl, fun _ h => by cases h⟩ | exact .inl ⟨rfl, by first | rfl | assumption | exact (lnks_pure _) | exact (boolsC_pure _)⟩
        · (repeat' (first | exact all_mt | refine all_up ?_ ?_)) <;> first | exact ⟨rfl, _, rfl, .inr ⟨rfl, rfl⟩⟩ | exact ⟨rfl, _, rfl, .inl rfl⟩ | exact ⟨rfl, _, rfl, .inr ⟨rfl, by first | rfl | assumption | exact (lnks_pure _) | exact (boolsC_pure _)⟩⟩
      · have hu0 : decide (ix ≥ 0) = true := decide_eq_true (by omega)
        have hx0 : 0 ≤ ix := by omega
        by_cases u1 : ix < f.dead.length
        · have hu1 : decide (ix < (f.dead.length : Int)) = true := decide_eq_true u1
          repeat (refine W.seq ?_)
          refine W.region 54 64 (by decide) rfl rfl ?_
          refine RW.opd rfl rfl (LO.fieldAddr rfl rfl ty45 rfl (by decide)) ?_
          refine RW.opd rfl rfl (LO.load rfl rfl rfl rfl ty3 rfl) ?_
          refine RW.opd rfl rfl (LO.geq rfl rfl rfl) ?_
          refine RW.opd rfl rfl (LO.move rfl rfl) ?_
          refine RW.gd rfl rfl rfl ?_ rfl (LO.fieldAddr rfl rfl ty45 rfl (by decide)) ?_; (· (first | rfl | assumption))
          refine RW.gd rfl rfl rfl ?_ rfl (LO.load rfl rfl rfl rfl ty3 rfl) ?_; (· (first | rfl | assumption))
          refine RW.gd rfl rfl rfl ?_ rfl (LO.move rfl rfl) ?_; (· (first | rfl | assumption))
          refine RW.gd rfl rfl rfl ?_ rfl (LO.len rfl rfl ty26) ?_; (· (first | rfl | assumption))
          refine RW.gd rfl rfl rfl ?_ rfl (LO.lss rfl rfl rfl) ?_; (· (first | rfl | assumption))
          refine RW.opd rfl rfl (LO.pick_t rfl rfl ?_ rfl) ?_; (· (first | rfl | assumption))
          refine RW.nil ?_
          repeat (refine W.seq ?_)
          refine W.cond_t rfl (by first | rfl | assumption) ?_
          repeat (refine W.seq ?_)
          refine W.region 68 73 (by decide) rfl rfl ?_
          refine RW.opd rfl rfl (LO.move rfl rfl) ?_
          refine RW.opd rfl rfl (LO.fieldAddr rfl rfl ty45 rfl (by decide)) ?_
          refine RW.opd rfl rfl (LO.load rfl rfl rfl rfl ty3 rfl) ?_
          refine RW.opd rfl rfl (LO.indexAddr rfl rfl rfl (Int.toNat_of_nonneg hx0).symm ty26 ty4 ?_) ?_; (· (first | omega | decide | assumption | fail | (simp; done) | (simp; omega)))
          refine RW.opn rfl rfl (LO.store rfl rfl rfl rfl rfl ty4 rfl (by decide) (bs_in hx0 (by omega))) ?_
          refine RW.nil ?_
          repeat (refine W.seq ?_)
          refine W.region 77 79 (by decide) rfl rfl ?_
          refine RW.opd rfl rfl (LO.add_in rfl rfl rfl ?_) ?_; (· (first | exact IntWalk.i64_in _ (by omega) | assumption))
          refine RW.opd rfl rfl (LO.move rfl rfl) ?_
          refine RW.nil ?_
          refine WL.rename [(0, 0), (1, 1), (2, 2), (3, 3), (4, 4)] 5 (by decide) ?_ ?_ (ihA ((i + 1), d, (wset e ix)) (show its.length - (i + 1) < its.length - i from by omega) (show (i + 1) ≤ its.length ∧ (d, (wset e ix)) = wK f its (i + 1) from ⟨by omega, hnx2.symm⟩))
          · (repeat' (first | exact all_mt | refine all_up ?_ ?_)) <;> first | exact .inl ⟨rfl, rfl⟩ | exact .inr ⟨rfl, fun _ h => by cases h⟩ | exact .inl ⟨rfl, by first | rfl | assumption | exact (lnks_pure _) | exact (boolsC_pure _)⟩
          · (repeat' (first | exact all_mt | refine all_up ?_ ?_)) <;> first | exact ⟨rfl, _, rfl, .inr ⟨rfl, rfl⟩⟩ | exact ⟨rfl, _, rfl, .inl rfl⟩ | exact ⟨rfl, _, rfl, .inr ⟨rfl, by first | rfl | assumption | exact (lnks_pure _) | exact (boolsC_pure _)⟩⟩
        · have hu1 : decide (ix < (f.dead.length : Int)) = false := decide_eq_false u1
          rw [wset_out (.inr (by omega))] at hnx2
          repeat (refine W.seq ?_)
          refine W.region 54 64 (by decide) rfl rfl ?_
          refine RW.opd rfl rfl (LO.fieldAddr rfl rfl ty45 rfl (by decide)) ?_
          refine RW.opd rfl rfl (LO.load rfl rfl rfl rfl ty3 rfl) ?_
          refine RW.opd rfl rfl (LO.geq rfl rfl rfl) ?_
          refine RW.opd rfl rfl (LO.move rfl rfl) ?_
          refine RW.gd rfl rfl rfl ?_ rfl (LO.fieldAddr rfl rfl ty45 rfl (by decide)) ?_; (· (first | rfl | assumption))
          refine RW.gd rfl rfl rfl ?_ rfl (LO.load rfl rfl rfl rfl ty3 rfl) ?_; (· (first | rfl | assumption))
          refine RW.gd rfl rfl rfl ?_ rfl (LO.move rfl rfl) ?_; (· (first | rfl | assumption))
          refine RW.gd rfl rfl rfl ?_ rfl (LO.len rfl rfl ty26) ?_; (· (first | rfl | assumption))
          refine RW.gd rfl rfl rfl ?_ rfl (LO.lss rfl rfl rfl) ?_; (· (first | rfl | assumption))
          refine RW.opd rfl rfl (LO.pick_t rfl rfl ?_ rfl) ?_; (· (first | rfl | assumption))
          refine RW.nil ?_
          repeat (refine W.seq ?_)
          refine W.cond_f rfl (by first | rfl | assumption) ?_
          refine W.skip ?_
          repeat (refine W.seq ?_)
          refine W.region 77 79 (by decide) rfl rfl ?_
          refine RW.opd rfl rfl (LO.add_in rfl rfl rfl ?_) ?_; (· (first | exact IntWalk.i64_in _ (by omega) | assumption))
          refine RW.opd rfl rfl (LO.move rfl rfl) ?_
          refine RW.nil ?_
          refine WL.rename [(0, 0), (1, 1), (2, 2), (3, 3), (4, 4)] 5 (by decide) ?_ ?_ (ihA ((i + 1), d, e) (show its.length - (i + 1) < its.length - i from by omega) (show (i + 1) ≤ its.length ∧ (d, e) = wK f its (i + 1) from ⟨by omega, hnx2.symm⟩))
          · (repeat' (first | exact all_mt | refine all_up ?_ ?_)) <;> first | exact .inl ⟨rfl, rfl⟩ | exact .inr ⟨rfl, fun _ h => by cases h⟩ | exact .inl ⟨rfl, by first | rfl | assumption | exact (lnks_pure _) | exact (boolsC_pure _)⟩
          · (repeat' (first | exact all_mt | refine all_up ?_ ?_)) <;> first | exact ⟨rfl, _, rfl, .inr ⟨rfl, rfl⟩⟩ | exact ⟨rfl, _, rfl, .inl rfl⟩ | exact ⟨rfl, _, rfl, .inr ⟨rfl, by first | rfl | assumption | exact (lnks_pure _) | exact (boolsC_pure _)⟩⟩
  · have g1 : decide ((i : Int) < (its.length : Int)) = false := decide_eq_false (by omega)
    obtain rfl : i = its.length := by omega
    repeat (refine W.seq ?_)
    refine W.region 21 22 (by decide) rfl rfl ?_
    refine RW.opd rfl rfl (LO.lss rfl rfl rfl) ?_
    refine RW.nil ?_
    repeat (refine W.seq ?_)
    refine W.cond_f rfl (by first | rfl | assumption) ?_
    refine W.exit ?_
    refine W.frzc (q := 1) (j := 1) (r := 2) rfl rfl (by decide) rfl (lnks_all rfl) (lnks_pure _) (Sp.lit rfl) ?_
    refine W.frzc (q := 1) (j := 2) (r := 3) rfl rfl (by decide) rfl (bools_tk hd) (boolsC_pure _) (Sp.lit rfl) ?_
    refine W.frzc (q := 1) (j := 3) (r := 4) rfl rfl (by decide) rfl (bools_tk he) (boolsC_pure _) (Sp.lit rfl) ?_
    repeat (refine W.seq ?_)
    refine W.region 83 85 (by decide) rfl rfl ?_
    refine RW.opd rfl rfl (LO.load_agg rfl rfl rfl ty28 rfl (Tk.lit rfl)) ?_
    refine RW.opn rfl rfl (LO.store rfl rfl rfl rfl rfl ty28 rfl (by decide) (Sp.lit rfl)) ?_
    refine RW.nil ?_
    repeat (refine W.seq ?_)
    refine W.ret ⟨.inl rfl, _, mt, (RVs.cons (RV.cellA rfl rfl ty28 rfl (Tk.lit rfl)) RVs.nil), (by (repeat' (first | exact all_mt | refine all_up ?_ ?_)) <;> rfl), ?_⟩
    refine ⟨?_, rfl⟩
    unfold withoutF fabC
    rw [← hde]
    simp only [retOf, hd, he]
theorem withoutX_any (f : Fab) (its : List Itm) (h1 : f.links.length ≤ 1000) (h2 : f.down.length ≤ 1000) (h3 : f.dead.length ≤ 1000) (hits : its.length ≤ 1000) (hin : ∀ x ∈ its, 0 ≤ x.ix ∧ x.ix < if x.sw then (f.dead.length : Int) else f.down.length) : AFn Tryd.prog 26 0 [.agg (fabC f), .isl (itsC its) its.length] mt (.agg (fabC (withoutF f its))) mt := by
  refine AFn.eq Tryd.func26 rfl rfl (Nat.le_of_ble_eq_true rfl) ?_
  have hcl := copyF_any f h1 h2 h3
  repeat (refine W.seq ?_)
  refine W.region 0 2 (by decide) rfl rfl ?_
  refine RW.opd rfl rfl (LO.box rfl rfl rfl) ?_
  refine RW.opd rfl rfl (LO.alloc rfl ty28) ?_
  refine RW.nil ?_
  repeat (refine W.seq ?_)
  refine W.regionM (pre := [_]) (post := [_, _]) 1 3 6 (10 + 3) rfl rfl (by decide) rfl rfl ?_
  refine RW.opd rfl rfl (LO.load_agg rfl rfl rfl ty28 rfl (Tk.lit rfl)) ?_
  refine RW.nil ⟨rfl, _, _, SOpM.call3 (N := 10) (fr := []) rfl rfl hcl fok44 (.cons rfl (.pure rfl) .nil) (.cons (.base _) (.cons (.osl (by decide)) (.cons (.osl (by decide)) (.cons (.osl (by decide)) .nil)))) (fun c h => by injection h with h; rw [← h]; exact lnks_pure _) (fun c h => by injection h with h; rw [← h]; exact boolsC_pure _) (fun c h => by injection h with h; rw [← h]; exact boolsC_pure _) rfl rfl rfl, ?_⟩
  refine RW.opd rfl rfl (LO.alloc rfl ty28) ?_
  refine RW.opn rfl rfl (LO.store rfl rfl rfl rfl rfl ty28 rfl (by decide) (Sp.lit rfl)) ?_
  refine RW.nil ?_
  repeat (refine W.seq ?_)
  refine W.region 14 17 (by decide) rfl rfl ?_
  refine RW.opd rfl rfl (LO.move rfl rfl) ?_
  refine RW.opd rfl rfl (LO.len_isl rfl rfl rfl ty22) ?_
  refine RW.opd rfl rfl (LO.move rfl rfl) ?_
  refine RW.nil ?_
  repeat (refine W.seq ?_)
  refine W.block ?_
  refine W.rename [(0, 1), (1, 8), (2, 10), (3, (10 + 1)), (4, (10 + 2))] 5 (T' := up (up (up (up (up mt 4 (some (.own 0 0))) 5 (some (.own 1 0))) 10 (some (.isl (itsC its) its.length))) 11 (some (.base (.int .i64 (its.length : Int))))) 12 (some (.base (.int .i64 (0 : Int))))) (H' := up (up (up (up (up mt 0 (some ([.base (.int .i64 0), .nils, .nils, .nils]))) 1 (some ([.base (.int .i64 f.sw), .osl 2 0 f.links.length 3, .osl 3 0 f.down.length 1, .osl 4 0 f.dead.length 1]))) 2 (some (lnksC f.links))) 3 (some (boolsC f.down))) 4 (some (boolsC f.dead))) (by decide) ?_ ?_ ?_
  · (repeat' (first | exact all_mt | refine all_up ?_ ?_)) <;> first | exact .inl ⟨rfl, rfl⟩ | exact .inr ⟨rfl, fun _ h => by cases h⟩ | exact .inl ⟨rfl, by first | rfl | assumption | exact (lnks_pure _) | exact (boolsC_pure _)⟩
  · (repeat' (first | exact all_mt | refine all_up ?_ ?_)) <;> first | exact ⟨rfl, _, rfl, .inr ⟨rfl, rfl⟩⟩ | exact ⟨rfl, _, rfl, .inl rfl⟩ | exact ⟨rfl, _, rfl, .inr ⟨rfl, by first | rfl | assumption | exact (lnks_pure _) | exact (boolsC_pure _)⟩⟩
  refine W.loop_ind (α := Nat × List Bool × List Bool) (fun x => its.length - x.1) 5 (fun x => up (up (up (up (up mt 4 (some (.own 0 0))) 5 (some (.own 1 0))) 10 (some (.isl (itsC its) its.length))) 11 (some (.base (.int .i64 (its.length : Int))))) 12 (some (.base (.int .i64 (x.1 : Int))))) (fun x => up (up (up (up (up mt 0 (some ([.base (.int .i64 0), .nils, .nils, .nils]))) 1 (some ([.base (.int .i64 f.sw), .osl 2 0 f.links.length 3, .osl 3 0 f.down.length 1, .osl 4 0 f.dead.length 1]))) 2 (some (lnksC f.links))) 3 (some (boolsC x.2.1))) 4 (some (boolsC x.2.2))) (fun x => x.1 ≤ its.length ∧ (x.2.1, x.2.2) = wK f its x.1) (0, f.down, f.dead) (show 0 ≤ its.length ∧ (f.down, f.dead) = wK f its 0 from ⟨Nat.zero_le _, rfl⟩) ?_
  rintro ⟨i, d, e⟩ hIA ihA
  try (dsimp only at hIA)
  try dsimp only
  obtain ⟨hi, hde⟩ := hIA
  have hln := wK_len f its i
  rw [← hde] at hln
  obtain ⟨hd, he⟩ := hln
  dsimp only at hd he
  by_cases hc : i < its.length
  · have g1 : decide ((i : Int) < (its.length : Int)) = true := decide_eq_true (by omega)
    have hnx := wK_succ f hc
    rw [← hde] at hnx
    have hini := hin _ (List.getElem_mem hc)
    repeat (refine W.seq ?_)
    refine W.region 21 22 (by decide) rfl rfl ?_
    refine RW.opd rfl rfl (LO.lss rfl rfl rfl) ?_
    refine RW.nil ?_
    repeat (refine W.seq ?_)
    refine W.cond_t rfl (by first | rfl | assumption) ?_
    refine W.skip ?_
    repeat (refine W.seq ?_)
    refine W.block ?_
    repeat (refine W.seq ?_)
    refine W.region 26 30 (by decide) rfl rfl ?_
    refine RW.opd rfl rfl (LO.indexAddr_isl rfl rfl rfl rfl rfl ty22 ty45 ?_) ?_; (· (first | omega | decide | assumption | fail | (simp; done) | (simp; omega)))
    refine RW.opd rfl rfl (LO.load_imm_agg rfl rfl ty45 rfl (its_tk hc)) ?_
    refine RW.opd rfl rfl (LO.alloc rfl ty45) ?_
    refine RW.opn rfl rfl (LO.store rfl rfl rfl rfl rfl ty45 rfl (by decide) (Sp.lit rfl)) ?_
    refine RW.nil ?_
    obtain ⟨it, hit⟩ : ∃ it, its[i] = it := ⟨_, rfl⟩
    rw [hit] at hnx hini ⊢
    obtain ⟨s, ix⟩ := it
    obtain ⟨hx0, hx1⟩ := hini
    dsimp only at hx0 hx1
    cases s
    case' false =>
      have hnx2 : wK f its (i + 1) = (wset d ix, e) := hnx
      rw [if_neg (by decide)] at hx1
      repeat (refine W.seq ?_)
      refine W.region 34 36 (by decide) rfl rfl ?_
      refine RW.opd rfl rfl (LO.fieldAddr rfl rfl ty45 rfl (by decide)) ?_
      refine RW.opd rfl rfl (LO.load rfl rfl rfl rfl ty4 rfl) ?_
      refine RW.nil ?_
      repeat (refine W.seq ?_)
      refine W.cond_f rfl (by first | rfl | assumption) ?_
      repeat (refine W.seq ?_)
      refine W.region 50 56 (by decide) rfl rfl ?_
      refine RW.opd rfl rfl (LO.fieldAddr rfl rfl ty28 rfl (by decide)) ?_
      refine RW.opd rfl rfl (LO.load rfl rfl rfl rfl ty26 rfl) ?_
      refine RW.opd rfl rfl (LO.fieldAddr rfl rfl ty45 rfl (by decide)) ?_
      refine RW.opd rfl rfl (LO.load rfl rfl rfl rfl ty3 rfl) ?_
      refine RW.opd rfl rfl (LO.indexAddr rfl rfl rfl (Int.toNat_of_nonneg hx0).symm ty26 ty4 ?_) ?_; (· (first | omega | decide | assumption | fail | (simp; done) | (simp; omega)))
      refine RW.opn rfl rfl (LO.store rfl rfl rfl rfl rfl ty4 rfl (by decide) (bs_in hx0 (by omega))) ?_
      refine RW.nil ?_
      repeat (refine W.seq ?_)
      refine W.region 60 62 (by decide) rfl rfl ?_
      refine RW.opd rfl rfl (LO.add_in rfl rfl rfl ?_) ?_; (· (first | exact IntWalk.i64_in _ (by omega) | assumption))
      refine RW.opd rfl rfl (LO.move rfl rfl) ?_
      refine RW.nil ?_
      refine WL.rename [(0, 0), (1, 1), (2, 2), (3, 3), (4, 4)] 5 (by decide) ?_ ?_ (ihA ((i + 1), (wset d ix), e) (show its.length - (i + 1) < its.length - i from by omega) (show (i + 1) ≤ its.length ∧ ((wset d ix), e) = wK f its (i + 1) from ⟨by omega, hnx2.symm⟩))
      · (repeat' (first | exact all_mt | refine all_up ?_ ?_)) <;> first | exact .inl ⟨rfl, rfl⟩ | exact .inr ⟨rfl, fun _ h => by cases h⟩ | exact .inl ⟨rfl, by first | rfl | assumption | exact (lnks_pure _) | exact (boolsC_pure _)⟩
      · (repeat' (first | exact all_mt | refine all_up ?_ ?_)) <;> first | exact ⟨rfl, _, rfl, .inr ⟨rfl, rfl⟩⟩ | exact ⟨rfl, _, rfl, .inl rfl⟩ | exact ⟨rfl, _, rfl, .inr ⟨rfl, by first | rfl | assumption | exact (lnks_pure _) | exact (boolsC_pure _)⟩⟩
    case' true =>
      have hnx2 : wK f its (i + 1) = (d, wset e ix) := hnx
      rw [if_pos rfl] at hx1
      repeat (refine W.seq ?_)
      refine W.region 34 36 (by decide) rfl rfl ?_
      refine RW.opd rfl rfl (LO.fieldAddr rfl rfl ty45 rfl (by decide)) ?_
      refine RW.opd rfl rfl (LO.load rfl rfl rfl rfl ty4 rfl) ?_
      refine RW.nil ?_
      repeat (refine W.seq ?_)
      refine W.cond_t rfl (by first | rfl | assumption) ?_
      repeat (refine W.seq ?_)
      refine W.region 40 46 (by decide) rfl rfl ?_
      refine RW.opd rfl rfl (LO.fieldAddr rfl rfl ty28 rfl (by decide)) ?_
      refine RW.opd rfl rfl (LO.load rfl rfl rfl rfl ty26 rfl) ?_
      refine RW.opd rfl rfl (LO.fieldAddr rfl rfl ty45 rfl (by decide)) ?_
      refine RW.opd rfl rfl (LO.load rfl rfl rfl rfl ty3 rfl) ?_
      refine RW.opd rfl rfl (LO.indexAddr rfl rfl rfl (Int.toNat_of_nonneg hx0).symm ty26 ty4 ?_) ?_; (· (first | omega | decide | assumption | fail | (simp; done) | (simp; omega)))
      refine RW.opn rfl rfl (LO.store rfl rfl rfl rfl rfl ty4 rfl (by decide) (bs_in hx0 (by omega))) ?_
      refine RW.nil ?_
      repeat (refine W.seq ?_)
      refine W.region 60 62 (by decide) rfl rfl ?_
      refine RW.opd rfl rfl (LO.add_in rfl rfl rfl ?_) ?_; (· (first | exact IntWalk.i64_in _ (by omega) | assumption))
      refine RW.opd rfl rfl (LO.move rfl rfl) ?_
      refine RW.nil ?_
      refine WL.rename [(0, 0), (1, 1), (2, 2), (3, 3), (4, 4)] 5 (by decide) ?_ ?_ (ihA ((i + 1), d, (wset e ix)) (show its.length - (i + 1) < its.length - i from by omega) (show (i + 1) ≤ its.length ∧ (d, (wset e ix)) = wK f its (i + 1) from ⟨by omega, hnx2.symm⟩))
      · (repeat' (first | exact all_mt | refine all_up ?_ ?_)) <;> first | exact .inl ⟨rfl, rfl⟩ | exact .inr ⟨rfl, fun _ h => by cases h⟩ | exact .inl ⟨rfl, by first | rfl | assumption | exact (lnks_pure _) | exact (boolsC_pure _)⟩
      · (repeat' (first | exact all_mt | refine all_up ?_ ?_)) <;> first | exact ⟨rfl, _, rfl, .inr ⟨rfl, rfl⟩⟩ | exact ⟨rfl, _, rfl, .inl rfl⟩ | exact ⟨rfl, _, rfl, .inr ⟨rfl, by first | rfl | assumption | exact (lnks_pure _) | exact (boolsC_pure _)⟩⟩
  · have g1 : decide ((i : Int) < (its.length : Int)) = false := decide_eq_false (by omega)
    obtain rfl : i = its.length := by omega
    repeat (refine W.seq ?_)
    refine W.region 21 22 (by decide) rfl rfl ?_
    refine RW.opd rfl rfl (LO.lss rfl rfl rfl) ?_
    refine RW.nil ?_
    repeat (refine W.seq ?_)
    refine W.cond_f rfl (by first | rfl | assumption) ?_
    refine W.exit ?_
    refine W.frzc (q := 1) (j := 1) (r := 2) rfl rfl (by decide) rfl (lnks_all rfl) (lnks_pure _) (Sp.lit rfl) ?_
    refine W.frzc (q := 1) (j := 2) (r := 3) rfl rfl (by decide) rfl (bools_tk hd) (boolsC_pure _) (Sp.lit rfl) ?_
    refine W.frzc (q := 1) (j := 3) (r := 4) rfl rfl (by decide) rfl (bools_tk he) (boolsC_pure _) (Sp.lit rfl) ?_
    repeat (refine W.seq ?_)
    refine W.region 66 68 (by decide) rfl rfl ?_
    refine RW.opd rfl rfl (LO.load_agg rfl rfl rfl ty28 rfl (Tk.lit rfl)) ?_
    refine RW.opn rfl rfl (LO.store rfl rfl rfl rfl rfl ty28 rfl (by decide) (Sp.lit rfl)) ?_
    refine RW.nil ?_
    repeat (refine W.seq ?_)
    refine W.ret ⟨.inl rfl, _, mt, (RVs.cons (RV.cellA rfl rfl ty28 rfl (Tk.lit rfl)) RVs.nil), (by (repeat' (first | exact all_mt | refine all_up ?_ ?_)) <;> rfl), ?_⟩
    refine ⟨?_, rfl⟩
    unfold withoutF fabC
    rw [← hde]
    simp only [retOf, hd, he]
end Go.Proofs.YtbjfaepjpmogjaaDoor
