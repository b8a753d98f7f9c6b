/-
  DrainRounds returns true.
-/
import Derived.Test.YtbjfaepjpmogjaaDoorKn
namespace Go.Proofs.YtbjfaepjpmogjaaDoor
open Go.RowKit

def pickL {α : Type} (a b : α) (k : Nat) : α := if k = 0 then a else b
theorem pick_its {a b : List Itm} {k : Nat} (h : k < 2) : ([.isl (itsC a) a.length, .isl (itsC b) b.length] : List AV)[0 + k * 1]? = some (.isl (itsC (pickL a b k)) (pickL a b k).length) := by
  rcases (show k = 0 ∨ k = 1 by omega) with rfl | rfl <;> rfl
theorem rounds_law (it : List Itm) (l : List Int) (hl : l.length ≤ 9223372036854775807) (hit : it.length ≤ 9223372036854775807) : AFn Tryd.prog 3 0 [.isl (itsC it) it.length, .isl (intsC l) l.length] mt (.base (.bool true)) mt := by
  refine AFn.eq Tryd.func3 rfl rfl (Nat.le_of_ble_eq_true rfl) ?_
  have haw := awake_any
  repeat (refine W.seq ?_)
  refine W.region 0 1 (by decide) rfl rfl ?_
  refine RW.opd rfl rfl (LO.assign rfl rfl) ?_
  refine RW.nil ?_
  by_cases h20 : it.length > 20
  · have k1 : decide ((it.length : Int) > 20) = true := decide_eq_true (by omega)
    repeat (refine W.seq ?_)
    refine W.region 5 8 (by decide) rfl rfl ?_
    refine RW.opd rfl rfl (LO.move rfl rfl) ?_
    refine RW.opd rfl rfl (LO.len_isl rfl rfl rfl ty22) ?_
    refine RW.opd rfl rfl (LO.gtr rfl rfl rfl) ?_
    refine RW.nil ?_
    repeat (refine W.seq ?_)
    refine W.cond_t rfl (by first | rfl | assumption) ?_
    repeat (refine W.seq ?_)
    refine W.region 12 14 (by decide) rfl rfl ?_
    refine RW.opd rfl rfl (LO.call0 (fr := []) rfl rfl (haw) fok8 .nil rfl) ?_
    refine RW.opd rfl rfl (LO.assign rfl rfl) ?_
    refine RW.nil ?_
    repeat (refine W.seq ?_)
    refine W.ret ⟨.inl rfl, _, mt, RVs.cons (RV.tmp rfl) (RVs.nil), all_mt, ?_⟩
    exact ⟨rfl, rfl⟩
  · have k1 : decide ((it.length : Int) > 20) = false := decide_eq_false (by omega)
    have hnew := new_any l
    obtain ⟨v, H', hsc, f, ls, its, a1, hok, rfl, rfl⟩ := scene_any l 0 hl
    have h24 := hok.fab.nl
    have hni := hok.nit
    have hnl := hok.nls
    repeat (refine W.seq ?_)
    refine W.region 5 8 (by decide) rfl rfl ?_
    refine RW.opd rfl rfl (LO.move rfl rfl) ?_
    refine RW.opd rfl rfl (LO.len_isl rfl rfl rfl ty22) ?_
    refine RW.opd rfl rfl (LO.gtr rfl rfl rfl) ?_
    refine RW.nil ?_
    repeat (refine W.seq ?_)
    refine W.cond_f rfl (by first | rfl | assumption) ?_
    refine W.skip ?_
    repeat (refine W.seq ?_)
    refine W.region 18 29 (by decide) rfl rfl ?_
    refine RW.opd rfl rfl (LO.move rfl rfl) ?_
    refine RW.opd rfl rfl (LO.callN (fr := []) rfl rfl (hnew) fok10 (.cons rfl (.pure rfl) .nil) rfl (by decide)) ?_
    refine RW.opd rfl rfl (LO.call1 (fr := []) rfl rfl (hsc) fok9 (.own rfl rfl .nil) rfl rfl rfl (List.cons_ne_nil _ _) (by decide) rfl) ?_
    refine RW.opd rfl rfl (LO.move rfl rfl) ?_
    refine RW.opd rfl rfl (LO.extract rfl rfl rfl) ?_
    refine RW.opd rfl rfl (LO.extract rfl rfl rfl) ?_
    refine RW.opd rfl rfl (LO.extract rfl rfl rfl) ?_
    refine RW.opd rfl rfl (LO.alloc rfl ty28) ?_
    refine RW.opn rfl rfl (LO.store rfl rfl rfl rfl rfl ty28 rfl (by decide) (Sp.lit rfl)) ?_
    refine RW.opd rfl rfl (LO.assign rfl rfl) ?_
    refine RW.opd rfl rfl (LO.assign rfl rfl) ?_
    refine RW.nil ?_
    repeat (refine W.seq ?_)
    refine W.region 33 38 (by decide) rfl rfl ?_
    refine RW.opd rfl rfl (LO.move rfl rfl) ?_
    refine RW.opd rfl rfl (LO.move rfl rfl) ?_
    refine RW.opd rfl rfl (LO.buildSlice rfl ty34 ty22 (by decide) (by decide) (.cons rfl rfl rfl rfl (Sp.lit rfl) (.cons rfl rfl rfl rfl (Sp.lit rfl) .nil))) ?_
    refine RW.opd rfl rfl (LO.len rfl rfl ty34) ?_
    refine RW.opd rfl rfl (LO.move rfl rfl) ?_
    refine RW.nil ?_
    repeat (refine W.seq ?_)
    refine W.block ?_
    refine W.rename [(0, 25), (1, 35)] 2 (T' := up (up (up (up (up mt 5 (some (.own 0 0))) 6 (some (.isl (ldsC ls) ls.length))) 27 (some (.osl 1 0 2 1))) 28 (some (.base (.int .i64 2)))) 29 (some (.base (.int .i64 (0 : Int))))) (H' := up (up mt 0 (some (fabC f))) 1 (some ([.isl (itsC its) its.length, .isl (itsC it) it.length]))) (by decide) ?_ ?_ ?_
    · (repeat' (first | exact all_mt | refine all_up ?_ ?_)) <;> first | exact .inl ⟨rfl, rfl⟩ | exact .inr ⟨rfl, fun _ h => by cases h⟩ | exact .inl ⟨rfl, by first | rfl | assumption ⟩
    · (repeat' (first | exact all_mt | refine all_up ?_ ?_)) <;> first | exact ⟨rfl, _, rfl, .inr ⟨rfl, rfl⟩⟩ | exact ⟨rfl, _, rfl, .inl rfl⟩ | exact ⟨rfl, _, rfl, .inr ⟨rfl, by first | rfl | assumption ⟩⟩
    refine W.loop_ind (α := Nat) (fun x => 2 - x) 2 (fun x => up (up (up (up (up mt 5 (some (.own 0 0))) 6 (some (.isl (ldsC ls) ls.length))) 27 (some (.osl 1 0 2 1))) 28 (some (.base (.int .i64 2)))) 29 (some (.base (.int .i64 (x : Int))))) (fun x => up (up mt 0 (some (fabC f))) 1 (some ([.isl (itsC its) its.length, .isl (itsC it) it.length]))) (fun x => x ≤ 2) 0 (show 0 ≤ 2 from Nat.zero_le _) ?_
    rintro k hIA ihA
    try (dsimp only at hIA)
    try dsimp only
    have hk : k ≤ 2 := hIA
    by_cases hc : k < 2
    · have g1 : decide ((k : Int) < 2) = true := decide_eq_true (by omega)
      have hpl : (pickL its it k).length ≤ 20 := by unfold pickL; split <;> omega
      have h1 := rounds_any f ls (pickL its it k) (by omega) (by omega) (by omega)
      have h2 := roundsX_any f ls (pickL its it k) (by omega) (by omega) (by omega)
      obtain ⟨b1, b2⟩ := roundsF_bd f ls (pickL its it k)
      obtain ⟨R, hR⟩ : ∃ R, roundsF f ls (pickL its it k) = R := ⟨_, rfl⟩
      rw [hR] at h1 h2 b1 b2
      have b3 : ∀ c ∈ R.1, c.length ≤ 1000 := fun c hc => by have := b2 c hc; omega
      have h3 := sameR_any R.1 (by omega) b3
      have h4 := steps_any R.1 (by omega) b3
      have h5 := stepsX_any R.1 (by omega) b3
      have h6 := sameS_any (stepsF R.1) (by rw [stepsF_len]; omega) (stepsF_its b3)
      have k2 : (R.2 != R.2) = false := by simp
      repeat (refine W.seq ?_)
      refine W.region 42 43 (by decide) rfl rfl ?_
      refine RW.opd rfl rfl (LO.lss rfl rfl rfl) ?_
      refine RW.nil ?_
      repeat (refine W.seq ?_)
      refine W.cond_t rfl (by first | rfl | assumption) ?_
      refine W.skip ?_
      repeat (refine W.seq ?_)
      refine W.block ?_
      repeat (refine W.seq ?_)
      refine W.region 47 50 (by decide) rfl rfl ?_
      refine RW.opd rfl rfl (LO.indexAddr rfl rfl rfl rfl ty34 ty22 ?_) ?_; (· (first | omega | decide | assumption | fail | (simp; done) | (simp; omega)))
      refine RW.opd rfl rfl (LO.load rfl rfl rfl (pick_its hc) ty22 rfl) ?_
      refine RW.opd rfl rfl (LO.assign rfl rfl) ?_
      refine RW.nil ?_
      repeat (refine W.seq ?_)
      refine W.region 54 63 (by decide) rfl rfl ?_
      refine RW.opd rfl rfl (LO.load_agg rfl rfl rfl ty28 rfl (Tk.lit rfl)) ?_
      refine RW.opd rfl rfl (LO.move rfl rfl) ?_
      refine RW.opd rfl rfl (LO.move rfl rfl) ?_
      refine RW.opd rfl rfl (LO.call0 (fr := []) rfl rfl (h1) fok11 (.cons rfl (.pure rfl) (.cons rfl (.pure rfl) (.cons rfl (.pure rfl) .nil))) rfl) ?_
      refine RW.opd rfl rfl (LO.move rfl rfl) ?_
      refine RW.opd rfl rfl (LO.extract rfl rfl rfl) ?_
      refine RW.opd rfl rfl (LO.extract rfl rfl rfl) ?_
      refine RW.opd rfl rfl (LO.assign rfl rfl) ?_
      refine RW.opd rfl rfl (LO.assign rfl rfl) ?_
      refine RW.nil ?_
      repeat (refine W.seq ?_)
      refine W.region 67 76 (by decide) rfl rfl ?_
      refine RW.opd rfl rfl (LO.load_agg rfl rfl rfl ty28 rfl (Tk.lit rfl)) ?_
      refine RW.opd rfl rfl (LO.move rfl rfl) ?_
      refine RW.opd rfl rfl (LO.move rfl rfl) ?_
      refine RW.opd rfl rfl (LO.call0 (fr := []) rfl rfl (h2) fok12 (.cons rfl (.pure rfl) (.cons rfl (.pure rfl) (.cons rfl (.pure rfl) .nil))) rfl) ?_
      refine RW.opd rfl rfl (LO.move rfl rfl) ?_
      refine RW.opd rfl rfl (LO.extract rfl rfl rfl) ?_
      refine RW.opd rfl rfl (LO.extract rfl rfl rfl) ?_
      refine RW.opd rfl rfl (LO.assign rfl rfl) ?_
      refine RW.opd rfl rfl (LO.assign rfl rfl) ?_
      refine RW.nil ?_
      repeat (refine W.seq ?_)
      refine W.region 80 97 (by decide) rfl rfl ?_
      refine RW.opd rfl rfl (LO.move rfl rfl) ?_
      refine RW.opd rfl rfl (LO.move rfl rfl) ?_
      refine RW.opd rfl rfl (LO.neq rfl rfl rfl) ?_
      refine RW.opd rfl rfl (LO.move rfl rfl) ?_
      refine RW.gd rfl rfl rfl ?_ rfl (LO.move rfl rfl) ?_; (· (first | rfl | assumption))
      refine RW.gd rfl rfl rfl ?_ rfl (LO.move rfl rfl) ?_; (· (first | rfl | assumption))
      refine RW.gd rfl rfl rfl ?_ rfl (LO.call0 (fr := []) rfl rfl (h3) fok13 (.cons rfl (.pure rfl) (.cons rfl (.pure rfl) .nil)) rfl) ?_; (· (first | rfl | assumption))
      refine RW.gd rfl rfl rfl ?_ rfl (LO.not rfl rfl) ?_; (· (first | rfl | assumption))
      refine RW.opd rfl rfl (LO.pick_f rfl rfl ?_ rfl) ?_; (· (first | rfl | assumption))
      refine RW.opd rfl rfl (LO.move rfl rfl) ?_
      refine RW.gd rfl rfl rfl ?_ rfl (LO.move rfl rfl) ?_; (· (first | rfl | assumption))
      refine RW.gd rfl rfl rfl ?_ rfl (LO.call0 (fr := []) rfl rfl (h4) fok15 (.cons rfl (.pure rfl) .nil) rfl) ?_; (· (first | rfl | assumption))
      refine RW.gd rfl rfl rfl ?_ rfl (LO.move rfl rfl) ?_; (· (first | rfl | assumption))
      refine RW.gd rfl rfl rfl ?_ rfl (LO.call0 (fr := []) rfl rfl (h5) fok16 (.cons rfl (.pure rfl) .nil) rfl) ?_; (· (first | rfl | assumption))
      refine RW.gd rfl rfl rfl ?_ rfl (LO.call0 (fr := []) rfl rfl (h6) fok14 (.cons rfl (.pure rfl) (.cons rfl (.pure rfl) .nil)) rfl) ?_; (· (first | rfl | assumption))
      refine RW.gd rfl rfl rfl ?_ rfl (LO.not rfl rfl) ?_; (· (first | rfl | assumption))
      refine RW.opd rfl rfl (LO.pick_f rfl rfl ?_ rfl) ?_; (· (first | rfl | assumption))
      refine RW.nil ?_
      repeat (refine W.seq ?_)
      refine W.cond_f rfl (by first | rfl | assumption) ?_
      refine W.skip ?_
      repeat (refine W.seq ?_)
      refine W.region 106 108 (by decide) rfl rfl ?_
      refine RW.opd rfl rfl (LO.add_in rfl rfl rfl ?_) ?_; (· (first | exact IntWalk.i64_in _ (by omega) | assumption))
      refine RW.opd rfl rfl (LO.move rfl rfl) ?_
      refine RW.nil ?_
      refine WL.rename [(0, 0), (1, 1)] 2 (by decide) ?_ ?_ (ihA (k + 1) (show 2 - (k + 1) < 2 - k from by omega) (show (k + 1) ≤ 2 from by omega))
      · (repeat' (first | exact all_mt | refine all_up ?_ ?_)) <;> first | exact .inl ⟨rfl, rfl⟩ | exact .inr ⟨rfl, fun _ h => by cases h⟩ | exact .inl ⟨rfl, by first | rfl | assumption ⟩
      · (repeat' (first | exact all_mt | refine all_up ?_ ?_)) <;> first | exact ⟨rfl, _, rfl, .inr ⟨rfl, rfl⟩⟩ | exact ⟨rfl, _, rfl, .inl rfl⟩ | exact ⟨rfl, _, rfl, .inr ⟨rfl, by first | rfl | assumption ⟩⟩
    · have g1 : decide ((k : Int) < 2) = false := decide_eq_false (by omega)
      repeat (refine W.seq ?_)
      refine W.region 42 43 (by decide) rfl rfl ?_
      refine RW.opd rfl rfl (LO.lss rfl rfl rfl) ?_
      refine RW.nil ?_
      repeat (refine W.seq ?_)
      refine W.cond_f rfl (by first | rfl | assumption) ?_
      refine W.exit ?_
      repeat (refine W.seq ?_)
      refine W.region 112 114 (by decide) rfl rfl ?_
      refine RW.opd rfl rfl (LO.call0 (fr := []) rfl rfl (haw) fok8 .nil rfl) ?_
      refine RW.opd rfl rfl (LO.assign rfl rfl) ?_
      refine RW.nil ?_
      repeat (refine W.seq ?_)
      refine W.ret ⟨.inl rfl, _, mt, RVs.cons (RV.tmp rfl) (RVs.nil), all_mt, ?_⟩
      exact ⟨rfl, rfl⟩
end Go.Proofs.YtbjfaepjpmogjaaDoor
