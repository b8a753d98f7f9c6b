/-
  The example of chapter 13; comparing lists of numbers.
-/
import Derived.Test.YthbdngfnbpkefaaFw
namespace Go.Proofs.Ythbdngfnbpkefaa
open Go.RowKit

def fab0 : Fab := ⟨3, [⟨0, 1, 1⟩, ⟨1, 2, 1⟩, ⟨2, 0, 1⟩], [false, false, false], [false, false, false]⟩
def fab1 : Fab := ⟨3, [⟨0, 1, 1⟩, ⟨1, 2, 1⟩, ⟨2, 0, 1⟩], [true, false, false], [false, false, false]⟩
theorem fab0_valid : validB fab0 = true := by decide +kernel
theorem fab1_valid : validB fab1 = true := by decide +kernel
theorem fab0_cuts : cutsF fab0 = [] := by decide +kernel
theorem fab1_cuts : cutsF fab1 = [1, 2] := by decide +kernel
theorem fab0_flow : flowF fab0 0 1 = 2 := by decide +kernel
theorem fab1_flow : flowF fab1 0 1 = 1 := by decide +kernel
theorem fab0_s : FabS fab0 := ⟨rfl, by decide, by decide⟩
theorem fab1_s : FabS fab1 := ⟨rfl, by decide, by decide⟩
theorem awake13_any : AFn Try.prog 15 0 [] mt (.base (.bool true)) mt := by
  refine AFn.eq Try.func15 rfl rfl (Nat.le_of_ble_eq_true rfl) ?_
  have h1 := valid_any fab0 (by decide)
  have h2 := cuts_any fab0 fab0_s
  have h3 := flow_any fab0 fab0_s fab0_valid 0 1
  have h4 := cuts_any fab1 fab1_s
  have h5 := flow_any fab1 fab1_s fab1_valid 0 1
  rw [fab0_valid] at h1
  rw [fab0_cuts] at h2
  rw [fab0_flow] at h3
  rw [fab1_cuts] at h4
  rw [fab1_flow] at h5
  repeat (refine W.seq ?_)
  refine W.region 0 1 (by decide) rfl rfl ?_
  refine RW.opd rfl rfl (LO.assign rfl rfl) ?_
  refine RW.nil ?_
  repeat (refine W.seq ?_)
  refine W.regionD 5 14 (by decide) rfl mixed rfl ?_
  refine RW.opd rfl rfl (LO.build_st rfl ty54 (.cons rfl rfl rfl rfl (Sp.lit rfl) (.cons rfl rfl rfl rfl (Sp.lit rfl) (.cons rfl rfl rfl rfl (Sp.lit rfl) .nil)))) ?_
  refine RW.opd rfl rfl (LO.build_st rfl ty54 (.cons rfl rfl rfl rfl (Sp.lit rfl) (.cons rfl rfl rfl rfl (Sp.lit rfl) (.cons rfl rfl rfl rfl (Sp.lit rfl) .nil)))) ?_
  refine RW.opd rfl rfl (LO.build_st rfl ty54 (.cons rfl rfl rfl rfl (Sp.lit rfl) (.cons rfl rfl rfl rfl (Sp.lit rfl) (.cons rfl rfl rfl rfl (Sp.lit rfl) .nil)))) ?_
  refine RW.opd rfl rfl (LO.buildSlice rfl ty22 ty54 (by decide) (by decide) (.cons rfl rfl rfl rfl (Sp.lit rfl) (.cons rfl rfl rfl rfl (Sp.lit rfl) (.cons rfl rfl rfl rfl (Sp.lit rfl) .nil)))) ?_
  refine RW.opd rfl rfl (LO.makeSlice rfl rfl rfl rfl rfl ty23 ty4 (by decide) ?_ ?_ ?_) ?_; (· (first | omega | decide | assumption | fail | (simp; done) | (simp; omega))); (· (first | omega | decide | assumption | fail | (simp; done) | (simp; omega))); (· (first | omega | decide | assumption | fail | (simp; done) | (simp; omega)))
  refine RW.opd rfl rfl (LO.makeSlice rfl rfl rfl rfl rfl ty23 ty4 (by decide) ?_ ?_ ?_) ?_; (· (first | omega | decide | assumption | fail | (simp; done) | (simp; omega))); (· (first | omega | decide | assumption | fail | (simp; done) | (simp; omega))); (· (first | omega | decide | assumption | fail | (simp; done) | (simp; omega)))
  refine RW.opd rfl rfl (LO.build_st rfl ty25 (.cons rfl rfl rfl rfl (Sp.lit rfl) (.cons rfl rfl rfl rfl (Sp.lit rfl) (.cons rfl rfl rfl rfl (Sp.lit rfl) (.cons rfl rfl rfl rfl (Sp.lit rfl) .nil))))) ?_
  refine RW.opd rfl rfl (LO.alloc rfl ty25) ?_
  refine RW.opn rfl rfl (LO.store rfl rfl rfl rfl rfl ty25 rfl (by decide) (Sp.lit rfl)) ?_
  refine RW.nil ⟨by kernel_rfl, ?_⟩
  refine W.frzc (q := 12) (j := 1) (r := 8) rfl rfl (by decide) rfl (Tk.lit rfl) rfl (Sp.lit rfl) ?_
  refine W.frzc (q := 12) (j := 2) (r := 9) rfl rfl (by decide) rfl (Tk.lit rfl) rfl (Sp.lit rfl) ?_
  refine W.frzc (q := 12) (j := 3) (r := 10) rfl rfl (by decide) rfl (Tk.lit rfl) rfl (Sp.lit rfl) ?_
  repeat (refine W.seq ?_)
  refine W.region 18 21 (by decide) rfl rfl ?_
  refine RW.opd rfl rfl (LO.load_agg rfl rfl rfl ty25 rfl (Tk.lit rfl)) ?_
  refine RW.opd rfl rfl (LO.alloc rfl ty25) ?_
  refine RW.opn rfl rfl (LO.store rfl rfl rfl rfl rfl ty25 rfl (by decide) (Sp.lit rfl)) ?_
  refine RW.nil ?_
  repeat (refine W.seq ?_)
  refine W.region 25 28 (by decide) rfl rfl ?_
  refine RW.opd rfl rfl (LO.buildSlice rfl ty23 ty4 (by decide) (by decide) (.cons rfl rfl rfl rfl (Sp.lit rfl) (.cons rfl rfl rfl rfl (Sp.lit rfl) (.cons rfl rfl rfl rfl (Sp.lit rfl) .nil)))) ?_
  refine RW.opd rfl rfl (LO.fieldAddr rfl rfl ty25 rfl (by decide)) ?_
  refine RW.opn rfl rfl (LO.store rfl rfl rfl rfl rfl ty23 rfl (by decide) (Sp.lit rfl)) ?_
  refine RW.nil ?_
  refine W.frzc (q := 19) (j := 2) (r := 25) rfl rfl (by decide) rfl (Tk.lit rfl) rfl (Sp.lit rfl) ?_
  repeat (refine W.seq ?_)
  refine W.region 32 57 (by decide) rfl rfl ?_
  refine RW.opd rfl rfl (LO.load_agg rfl rfl rfl ty25 rfl (Tk.lit rfl)) ?_
  refine RW.opd rfl rfl (LO.call0 (fr := []) rfl rfl (h1) fok19 (.cons rfl (.pure rfl) .nil) rfl) ?_
  refine RW.opd rfl rfl (LO.move rfl rfl) ?_
  refine RW.gd rfl rfl rfl ?_ rfl (LO.load_agg rfl rfl rfl ty25 rfl (Tk.lit rfl)) ?_; (· (first | rfl | assumption))
  refine RW.gd rfl rfl rfl ?_ rfl (LO.call0 (fr := []) rfl rfl (h2) fok39 (.cons rfl (.pure rfl) .nil) rfl) ?_; (· (first | rfl | assumption))
  refine RW.gd rfl rfl rfl ?_ rfl (LO.len_isl rfl rfl rfl ty26) ?_; (· (first | rfl | assumption))
  refine RW.gd rfl rfl rfl ?_ rfl (LO.eql rfl rfl rfl) ?_; (· (first | rfl | assumption))
  refine RW.opd rfl rfl (LO.pick_t rfl rfl ?_ rfl) ?_; (· (first | rfl | assumption))
  refine RW.opd rfl rfl (LO.move rfl rfl) ?_
  refine RW.gd rfl rfl rfl ?_ rfl (LO.load_agg rfl rfl rfl ty25 rfl (Tk.lit rfl)) ?_; (· (first | rfl | assumption))
  refine RW.gd rfl rfl rfl ?_ rfl (LO.call0 (fr := []) rfl rfl (h3) fok24 (.cons rfl (.pure rfl) (.cons rfl (.pure rfl) (.cons rfl (.pure rfl) .nil))) rfl) ?_; (· (first | rfl | assumption))
  refine RW.gd rfl rfl rfl ?_ rfl (LO.eql rfl rfl rfl) ?_; (· (first | rfl | assumption))
  refine RW.opd rfl rfl (LO.pick_t rfl rfl ?_ rfl) ?_; (· (first | rfl | assumption))
  refine RW.opd rfl rfl (LO.move rfl rfl) ?_
  refine RW.gd rfl rfl rfl ?_ rfl (LO.load_agg rfl rfl rfl ty25 rfl (Tk.lit rfl)) ?_; (· (first | rfl | assumption))
  refine RW.gd rfl rfl rfl ?_ rfl (LO.call0 (fr := []) rfl rfl (h4) fok39 (.cons rfl (.pure rfl) .nil) rfl) ?_; (· (first | rfl | assumption))
  refine RW.gd rfl rfl rfl ?_ rfl (LO.len_isl rfl rfl rfl ty26) ?_; (· (first | rfl | assumption))
  refine RW.gd rfl rfl rfl ?_ rfl (LO.eql rfl rfl rfl) ?_; (· (first | rfl | assumption))
  refine RW.opd rfl rfl (LO.pick_t rfl rfl ?_ rfl) ?_; (· (first | rfl | assumption))
  refine RW.opd rfl rfl (LO.move rfl rfl) ?_
  refine RW.gd rfl rfl rfl ?_ rfl (LO.load_agg rfl rfl rfl ty25 rfl (Tk.lit rfl)) ?_; (· (first | rfl | assumption))
  refine RW.gd rfl rfl rfl ?_ rfl (LO.call0 (fr := []) rfl rfl (h5) fok24 (.cons rfl (.pure rfl) (.cons rfl (.pure rfl) (.cons rfl (.pure rfl) .nil))) rfl) ?_; (· (first | rfl | assumption))
  refine RW.gd rfl rfl rfl ?_ rfl (LO.eql rfl rfl rfl) ?_; (· (first | rfl | assumption))
  refine RW.opd rfl rfl (LO.pick_t rfl rfl ?_ rfl) ?_; (· (first | rfl | assumption))
  refine RW.opd rfl rfl (LO.assign rfl rfl) ?_
  refine RW.nil ?_
  repeat (refine W.seq ?_)
  refine W.ret ⟨.inl rfl, _, mt, RVs.cons (RV.tmp rfl) (RVs.nil), all_mt, ?_⟩
  exact ⟨rfl, rfl⟩

theorem ints13_any (a b : List Int) (ha : a.length ≤ 1000) : AFn Try.prog 37 0 [.isl (intsC a) a.length, .isl (intsC b) b.length] mt (.base (.bool (decide (a = b)))) mt := by
  refine AFn.eq Try.func37 rfl rfl (Nat.le_of_ble_eq_true rfl) ?_
  repeat (refine W.seq ?_)
  refine W.region 0 1 (by decide) rfl rfl ?_
  refine RW.opd rfl rfl (LO.assign rfl rfl) ?_
  refine RW.nil ?_
  by_cases hl : a.length = b.length
  · have g1 : ((a.length : Int) != (b.length : Int)) = false := by simp [hl]
    repeat (refine W.seq ?_)
    refine W.region 5 10 (by decide) rfl rfl ?_
    refine RW.opd rfl rfl (LO.move rfl rfl) ?_
    refine RW.opd rfl rfl (LO.len_isl rfl rfl rfl ty26) ?_
    refine RW.opd rfl rfl (LO.move rfl rfl) ?_
    refine RW.opd rfl rfl (LO.len_isl rfl rfl rfl ty26) ?_
    refine RW.opd rfl rfl (LO.neq rfl rfl rfl) ?_
    refine RW.nil ?_
    repeat (refine W.seq ?_)
    refine W.cond_f rfl (by first | rfl | assumption) ?_
    refine W.skip ?_
    repeat (refine W.seq ?_)
    refine W.region 19 22 (by decide) rfl rfl ?_
    refine RW.opd rfl rfl (LO.move rfl rfl) ?_
    refine RW.opd rfl rfl (LO.len_isl rfl rfl rfl ty26) ?_
    refine RW.opd rfl rfl (LO.move rfl rfl) ?_
    refine RW.nil ?_
    repeat (refine W.seq ?_)
    refine W.block ?_
    refine W.rename [] 0 (T' := up (up (up (up mt 1 (some (.isl (intsC b) b.length))) 12 (some (.isl (intsC a) a.length))) 13 (some (.base (.int .i64 (a.length : Int))))) 14 (some (.base (.int .i64 (0 : Int))))) (H' := mt) (by decide) ?_ ?_ ?_
    · (repeat' (first | exact all_mt | refine all_up ?_ ?_)) <;> first | exact .inl ⟨rfl, rfl⟩ | exact .inr ⟨rfl, fun _ h => by cases h⟩ | exact .inl ⟨rfl, by first | rfl | assumption ⟩
    · (repeat' (first | exact all_mt | refine all_up ?_ ?_)) <;> first | exact ⟨rfl, _, rfl, .inr ⟨rfl, rfl⟩⟩ | exact ⟨rfl, _, rfl, .inl rfl⟩ | exact ⟨rfl, _, rfl, .inr ⟨rfl, by first | rfl | assumption ⟩⟩
    refine W.loop_ind (α := Nat) (fun x => a.length - x) 0 (fun x => up (up (up (up mt 1 (some (.isl (intsC b) b.length))) 12 (some (.isl (intsC a) a.length))) 13 (some (.base (.int .i64 (a.length : Int))))) 14 (some (.base (.int .i64 (x : Int))))) (fun x => mt) (fun x => x ≤ a.length ∧ ∀ k : Nat, k < x → gI a k = gI b k) 0 (show 0 ≤ a.length ∧ ∀ k : Nat, k < 0 → gI a k = gI b k from ⟨Nat.zero_le _, fun k h => by omega⟩) ?_
    rintro i hIA ihA
    try (dsimp only at hIA)
    try dsimp only
    obtain ⟨hi, hs⟩ := hIA
    by_cases hc : i < a.length
    · have g2 : decide ((i : Int) < (a.length : Int)) = true := decide_eq_true (by omega)
      repeat (refine W.seq ?_)
      refine W.region 26 27 (by decide) rfl rfl ?_
      refine RW.opd rfl rfl (LO.lss rfl rfl rfl) ?_
      refine RW.nil ?_
      repeat (refine W.seq ?_)
      refine W.cond_t rfl (by first | rfl | assumption) ?_
      refine W.skip ?_
      repeat (refine W.seq ?_)
      refine W.block ?_
      repeat (refine W.seq ?_)
      refine W.region 31 36 (by decide) rfl rfl ?_
      refine RW.opd rfl rfl (LO.move rfl rfl) ?_
      refine RW.opd rfl rfl (LO.indexAddr_isl rfl rfl rfl rfl rfl ty26 ty3 ?_) ?_; (· (first | omega | decide | assumption | fail | (simp; done) | (simp; omega)))
      refine RW.opd rfl rfl (LO.load_imm rfl rfl (ni_at1 (k := i) hc) ty3 rfl) ?_
      refine RW.opd rfl rfl (LO.assign rfl rfl) ?_
      refine RW.opd rfl rfl (LO.assign rfl rfl) ?_
      refine RW.nil ?_
      by_cases he : gI b i = gI a i
      · have g3 : (gI b (i : Int) != gI a (i : Int)) = false := by simp [he]
        repeat (refine W.seq ?_)
        refine W.region 40 46 (by decide) rfl rfl ?_
        refine RW.opd rfl rfl (LO.move rfl rfl) ?_
        refine RW.opd rfl rfl (LO.move rfl rfl) ?_
        refine RW.opd rfl rfl (LO.indexAddr_isl rfl rfl rfl rfl rfl ty26 ty3 ?_) ?_; (· (first | omega | decide | assumption | fail | (simp; done) | (simp; omega)))
        refine RW.opd rfl rfl (LO.load_imm rfl rfl (ni_at1 (k := i) (by omega)) ty3 rfl) ?_
        refine RW.opd rfl rfl (LO.move rfl rfl) ?_
        refine RW.opd rfl rfl (LO.neq rfl rfl rfl) ?_
        refine RW.nil ?_
        repeat (refine W.seq ?_)
        refine W.cond_f rfl (by first | rfl | assumption) ?_
        refine W.skip ?_
        repeat (refine W.seq ?_)
        refine W.region 55 57 (by decide) rfl rfl ?_
        refine RW.opd rfl rfl (LO.add_in rfl rfl rfl ?_) ?_; (· (first | exact IntWalk.i64_in _ (by omega) | assumption))
        refine RW.opd rfl rfl (LO.move rfl rfl) ?_
        refine RW.nil ?_
        have hs2 : ∀ k : Nat, k < i + 1 → gI a k = gI b k := fun k h => by
          by_cases e : k = i
          · subst e; exact he.symm
          · exact hs k (by omega)
        refine WL.rename [] 0 (by decide) ?_ ?_ (ihA (i + 1) (show a.length - (i + 1) < a.length - i from by omega) (show (i + 1) ≤ a.length ∧ ∀ k : Nat, k < (i + 1) → gI a k = gI b k from ⟨by omega, hs2⟩))
        · (repeat' (first | exact all_mt | refine all_up ?_ ?_)) <;> first | exact .inl ⟨rfl, rfl⟩ | exact .inr ⟨rfl, fun _ h => by cases h⟩ | exact .inl ⟨rfl, by first | rfl | assumption ⟩
        · (repeat' (first | exact all_mt | refine all_up ?_ ?_)) <;> first | exact ⟨rfl, _, rfl, .inr ⟨rfl, rfl⟩⟩ | exact ⟨rfl, _, rfl, .inl rfl⟩ | exact ⟨rfl, _, rfl, .inr ⟨rfl, by first | rfl | assumption ⟩⟩
      · have g3 : (gI b (i : Int) != gI a (i : Int)) = true := by simpa using he
        repeat (refine W.seq ?_)
        refine W.region 40 46 (by decide) rfl rfl ?_
        refine RW.opd rfl rfl (LO.move rfl rfl) ?_
        refine RW.opd rfl rfl (LO.move rfl rfl) ?_
        refine RW.opd rfl rfl (LO.indexAddr_isl rfl rfl rfl rfl rfl ty26 ty3 ?_) ?_; (· (first | omega | decide | assumption | fail | (simp; done) | (simp; omega)))
        refine RW.opd rfl rfl (LO.load_imm rfl rfl (ni_at1 (k := i) (by omega)) ty3 rfl) ?_
        refine RW.opd rfl rfl (LO.move rfl rfl) ?_
        refine RW.opd rfl rfl (LO.neq rfl rfl rfl) ?_
        refine RW.nil ?_
        repeat (refine W.seq ?_)
        refine W.cond_t rfl (by first | rfl | assumption) ?_
        repeat (refine W.seq ?_)
        refine W.region 50 51 (by decide) rfl rfl ?_
        refine RW.opd rfl rfl (LO.assign rfl rfl) ?_
        refine RW.nil ?_
        repeat (refine W.seq ?_)
        refine W.ret ⟨.inl rfl, _, mt, RVs.cons (RV.tmp rfl) (RVs.nil), all_mt, ?_⟩
        exact ⟨by rw [decide_eq_false fun e => he (by rw [e])]; rfl, rfl⟩
    · have g2 : decide ((i : Int) < (a.length : Int)) = false := decide_eq_false (by omega)
      repeat (refine W.seq ?_)
      refine W.region 26 27 (by decide) rfl rfl ?_
      refine RW.opd rfl rfl (LO.lss rfl rfl rfl) ?_
      refine RW.nil ?_
      repeat (refine W.seq ?_)
      refine W.cond_f rfl (by first | rfl | assumption) ?_
      refine W.exit ?_
      obtain rfl : i = a.length := by omega
      have hab : a = b := by
        refine List.ext_getElem hl fun k h1 h2 => ?_
        have := hs k h1
        rwa [gI_at h1, gI_at h2] at this
      repeat (refine W.seq ?_)
      refine W.region 61 62 (by decide) rfl rfl ?_
      refine RW.opd rfl rfl (LO.assign rfl rfl) ?_
      refine RW.nil ?_
      repeat (refine W.seq ?_)
      refine W.ret ⟨.inl rfl, _, mt, RVs.cons (RV.tmp rfl) (RVs.nil), all_mt, ?_⟩
      exact ⟨by rw [decide_eq_true hab]; rfl, rfl⟩
  · have g1 : ((a.length : Int) != (b.length : Int)) = true := by simp; omega
    repeat (refine W.seq ?_)
    refine W.region 5 10 (by decide) rfl rfl ?_
    refine RW.opd rfl rfl (LO.move rfl rfl) ?_
    refine RW.opd rfl rfl (LO.len_isl rfl rfl rfl ty26) ?_
    refine RW.opd rfl rfl (LO.move rfl rfl) ?_
    refine RW.opd rfl rfl (LO.len_isl rfl rfl rfl ty26) ?_
    refine RW.opd rfl rfl (LO.neq rfl rfl rfl) ?_
    refine RW.nil ?_
    repeat (refine W.seq ?_)
    refine W.cond_t rfl (by first | rfl | assumption) ?_
    repeat (refine W.seq ?_)
    refine W.region 14 15 (by decide) rfl rfl ?_
    refine RW.opd rfl rfl (LO.assign rfl rfl) ?_
    refine RW.nil ?_
    repeat (refine W.seq ?_)
    refine W.ret ⟨.inl rfl, _, mt, RVs.cons (RV.tmp rfl) (RVs.nil), all_mt, ?_⟩
    exact ⟨by rw [decide_eq_false fun e => hl (by rw [e])]; rfl, rfl⟩
end Go.Proofs.Ythbdngfnbpkefaa
