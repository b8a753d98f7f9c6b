/-
  DrainLeast returns true.
-/
import Derived.Test.YtbjfaepjpmogjaaDoorKt
namespace Go.Proofs.YtbjfaepjpmogjaaDoor
open Go.RowKit

theorem gs_nat {l : List (List Itm)} {k : Nat} (h : k < l.length) : (gsC l)[0 + k * 1]? = some (.isl (itsC l[k]) l[k].length) := by simp [gsC, h]
theorem pow_div (code n i : Nat) : code / n ^ i / n = code / n ^ (i + 1) := by rw [Nat.div_div_eq_div_mul, Nat.pow_succ]
theorem all_take_false {l : List (List Itm)} (p : List Itm → Bool) {i : Nat} (h : i < l.length) (hb : (l.take i).all p = false) : (l.take (i + 1)).all p = false := by
  rw [List.take_succ_eq_append_getElem h, List.all_append, hb]; rfl
theorem all_take_true {l : List (List Itm)} (p : List Itm → Bool) {i : Nat} (h : i < l.length) (hb : (l.take i).all p = true) : (l.take (i + 1)).all p = p l[i] := by
  rw [List.take_succ_eq_append_getElem h, List.all_append, hb]; simp
set_option maxHeartbeats 4000000 in
theorem least_law (l : List Int) (hl : l.length ≤ 9223372036854775807) : AFn Tryd.prog 5 0 [.isl (intsC l) l.length] mt (.base (.bool true)) mt := by
  refine AFn.eq Tryd.func5 rfl rfl (Nat.le_of_ble_eq_true rfl) ?_
  have hnew := new_any l
  obtain ⟨v, H', hsc, f, ls, its, a1, hok, rfl, rfl⟩ := scene_any l 0 hl
  have hval := hok.val
  obtain ⟨_, _, h8, _, hnd, _⟩ := validD_all2 hval
  have h24 := hok.fab.nl
  have hni := hok.nit
  have hnl := hok.nls
  have hrd := rounds_any f ls its (by omega) (by omega) (by omega)
  have haw := awake_any
  have hpow : (2 : Nat) ^ its.length ≤ 256 := Nat.le_trans (Nat.pow_le_pow_right (n := 2) (by decide) h8) (by decide)
  have hpos : 1 ≤ (2 : Nat) ^ its.length := Nat.two_pow_pos _
  have hrf : roundsF f ls its = if rr (safeB f ls its) (2 ^ its.length - 1) < 9 then ((divs (safeB f ls its) (2 ^ its.length - 1)).map (chF its), 0) else ([], 40) := if_pos hval
  have hlf := fun n h1 h2 h3 code => least_false (f := f) (ls := ls) (its := its) hnd h8 (n := n) h1 h2 h3 code
  repeat (refine W.seq ?_)
  refine W.region 0 1 (by decide) rfl rfl ?_
  refine RW.opd rfl rfl (LO.assign rfl rfl) ?_
  refine RW.nil ?_
  repeat (refine W.seq ?_)
  refine W.region 5 16 (by decide) rfl rfl ?_
  refine RW.opd rfl rfl (LO.move rfl rfl) ?_
  refine RW.opd rfl rfl (LO.callN (fr := []) rfl rfl (hnew) fok10 (.cons rfl (.pure rfl) .nil) rfl (by decide)) ?_
  refine RW.opd rfl rfl (LO.call1 (fr := []) rfl rfl (hsc) fok9 (.own rfl rfl .nil) rfl rfl rfl (List.cons_ne_nil _ _) (by decide) rfl) ?_
  refine RW.opd rfl rfl (LO.move rfl rfl) ?_
  refine RW.opd rfl rfl (LO.extract rfl rfl rfl) ?_
  refine RW.opd rfl rfl (LO.extract rfl rfl rfl) ?_
  refine RW.opd rfl rfl (LO.extract rfl rfl rfl) ?_
  refine RW.opd rfl rfl (LO.alloc rfl ty28) ?_
  refine RW.opn rfl rfl (LO.store rfl rfl rfl rfl rfl ty28 rfl (by decide) (Sp.lit rfl)) ?_
  refine RW.opd rfl rfl (LO.assign rfl rfl) ?_
  refine RW.opd rfl rfl (LO.assign rfl rfl) ?_
  refine RW.nil ?_
  by_cases h9 : rr (safeB f ls its) (2 ^ its.length - 1) < 9
  case' neg =>
    rw [if_neg h9] at hrf
    rw [hrf] at hrd
    repeat (refine W.seq ?_)
    refine W.region 20 29 (by decide) rfl rfl ?_
    refine RW.opd rfl rfl (LO.load_agg rfl rfl rfl ty28 rfl (Tk.lit rfl)) ?_
    refine RW.opd rfl rfl (LO.move rfl rfl) ?_
    refine RW.opd rfl rfl (LO.move rfl rfl) ?_
    refine RW.opd rfl rfl (LO.call0 (fr := []) rfl rfl (hrd) fok11 (.cons rfl (.pure rfl) (.cons rfl (.pure rfl) (.cons rfl (.pure rfl) .nil))) rfl) ?_
    refine RW.opd rfl rfl (LO.move rfl rfl) ?_
    refine RW.opd rfl rfl (LO.extract rfl rfl rfl) ?_
    refine RW.opd rfl rfl (LO.extract rfl rfl rfl) ?_
    refine RW.opd rfl rfl (LO.assign rfl rfl) ?_
    refine RW.opd rfl rfl (LO.assign rfl rfl) ?_
    refine RW.nil ?_
    repeat (refine W.seq ?_)
    refine W.region 33 40 (by decide) rfl rfl ?_
    refine RW.opd rfl rfl (LO.move rfl rfl) ?_
    refine RW.opd rfl rfl (LO.neq rfl rfl rfl) ?_
    refine RW.opd rfl rfl (LO.move rfl rfl) ?_
    refine RW.sd rfl rfl rfl ?_ rfl ?_; (· (first | rfl | assumption))
    refine RW.sd rfl rfl rfl ?_ rfl ?_; (· (first | rfl | assumption))
    refine RW.sd rfl rfl rfl ?_ rfl ?_; (· (first | rfl | assumption))
    refine RW.opd rfl rfl (LO.pick_t rfl rfl ?_ rfl) ?_; (· (first | rfl | assumption))
    refine RW.nil ?_
    repeat (refine W.seq ?_)
    refine W.cond_t rfl (by first | rfl | assumption) ?_
    repeat (refine W.seq ?_)
    refine W.region 44 54 (by decide) rfl rfl ?_
    refine RW.opd rfl rfl (LO.move rfl rfl) ?_
    refine RW.opd rfl rfl (LO.eql rfl rfl rfl) ?_
    refine RW.opd rfl rfl (LO.move rfl rfl) ?_
    refine RW.gd rfl rfl rfl ?_ rfl (LO.move rfl rfl) ?_; (· (first | rfl | assumption))
    refine RW.gd rfl rfl rfl ?_ rfl (LO.eql rfl rfl rfl) ?_; (· (first | rfl | assumption))
    refine RW.opd rfl rfl (LO.pick_f rfl rfl ?_ rfl) ?_; (· (first | rfl | assumption))
    refine RW.opd rfl rfl (LO.move rfl rfl) ?_
    refine RW.gd rfl rfl rfl ?_ rfl (LO.call0 (fr := []) rfl rfl (haw) fok8 .nil rfl) ?_; (· (first | rfl | assumption))
    refine RW.opd rfl rfl (LO.pick_t rfl rfl ?_ rfl) ?_; (· (first | rfl | assumption))
    refine RW.opd rfl rfl (LO.assign rfl rfl) ?_
    refine RW.nil ?_
    repeat (refine W.seq ?_)
    refine W.ret ⟨.inl rfl, _, mt, RVs.cons (RV.tmp rfl) (RVs.nil), all_mt, ?_⟩
    exact ⟨rfl, rfl⟩
  case' pos =>
    rw [if_pos h9] at hrf
    rw [hrf] at hrd
    have hrp := Nat.le_trans (rr_pc _ _ (show 2 ^ its.length - 1 < 256 by omega) h9) (pc_le_pow h8 (show 2 ^ its.length - 1 < 2 ^ its.length by omega))
    have hdl : ((divs (safeB f ls its) (2 ^ its.length - 1)).map (chF its)).length = rr (safeB f ls its) (2 ^ its.length - 1) := by rw [List.length_map]; exact divs_len2
    obtain ⟨L, hL⟩ : ∃ L, (divs (safeB f ls its) (2 ^ its.length - 1)).map (chF its) = L := ⟨_, rfl⟩
    obtain ⟨q, hq⟩ : ∃ q, rr (safeB f ls its) (2 ^ its.length - 1) = q := ⟨_, rfl⟩
    rw [hL] at hrd hdl
    rw [hq] at hdl hrp hlf
    clear hL hrf h9 hq
    by_cases hq2 : q < 2
    · have k1 : decide ((L.length : Int) < 2) = true := decide_eq_true (by omega)
      repeat (refine W.seq ?_)
      refine W.region 20 29 (by decide) rfl rfl ?_
      refine RW.opd rfl rfl (LO.load_agg rfl rfl rfl ty28 rfl (Tk.lit rfl)) ?_
      refine RW.opd rfl rfl (LO.move rfl rfl) ?_
      refine RW.opd rfl rfl (LO.move rfl rfl) ?_
      refine RW.opd rfl rfl (LO.call0 (fr := []) rfl rfl (hrd) fok11 (.cons rfl (.pure rfl) (.cons rfl (.pure rfl) (.cons rfl (.pure rfl) .nil))) rfl) ?_
      refine RW.opd rfl rfl (LO.move rfl rfl) ?_
      refine RW.opd rfl rfl (LO.extract rfl rfl rfl) ?_
      refine RW.opd rfl rfl (LO.extract rfl rfl rfl) ?_
      refine RW.opd rfl rfl (LO.assign rfl rfl) ?_
      refine RW.opd rfl rfl (LO.assign rfl rfl) ?_
      refine RW.nil ?_
      repeat (refine W.seq ?_)
      refine W.region 33 40 (by decide) rfl rfl ?_
      refine RW.opd rfl rfl (LO.move rfl rfl) ?_
      refine RW.opd rfl rfl (LO.neq rfl rfl rfl) ?_
      refine RW.opd rfl rfl (LO.move rfl rfl) ?_
      refine RW.gd rfl rfl rfl ?_ rfl (LO.move rfl rfl) ?_; (· (first | rfl | assumption))
      refine RW.gd rfl rfl rfl ?_ rfl (LO.len_isl rfl rfl rfl ty34) ?_; (· (first | rfl | assumption))
      refine RW.gd rfl rfl rfl ?_ rfl (LO.lss rfl rfl rfl) ?_; (· (first | rfl | assumption))
      refine RW.opd rfl rfl (LO.pick_f rfl rfl ?_ rfl) ?_; (· (first | rfl | assumption))
      refine RW.nil ?_
      repeat (refine W.seq ?_)
      refine W.cond_t rfl (by first | rfl | assumption) ?_
      repeat (refine W.seq ?_)
      refine W.region 44 54 (by decide) rfl rfl ?_
      refine RW.opd rfl rfl (LO.move rfl rfl) ?_
      refine RW.opd rfl rfl (LO.eql rfl rfl rfl) ?_
      refine RW.opd rfl rfl (LO.move rfl rfl) ?_
      refine RW.sd rfl rfl rfl ?_ rfl ?_; (· (first | rfl | assumption))
      refine RW.sd rfl rfl rfl ?_ rfl ?_; (· (first | rfl | assumption))
      refine RW.opd rfl rfl (LO.pick_t rfl rfl ?_ rfl) ?_; (· (first | rfl | assumption))
      refine RW.opd rfl rfl (LO.move rfl rfl) ?_
      refine RW.gd rfl rfl rfl ?_ rfl (LO.call0 (fr := []) rfl rfl (haw) fok8 .nil rfl) ?_; (· (first | rfl | assumption))
      refine RW.opd rfl rfl (LO.pick_t rfl rfl ?_ rfl) ?_; (· (first | rfl | assumption))
      refine RW.opd rfl rfl (LO.assign rfl rfl) ?_
      refine RW.nil ?_
      repeat (refine W.seq ?_)
      refine W.ret ⟨.inl rfl, _, mt, RVs.cons (RV.tmp rfl) (RVs.nil), all_mt, ?_⟩
      exact ⟨rfl, rfl⟩
    · have k1 : decide ((L.length : Int) < 2) = false := decide_eq_false (by omega)
      rcases (show q = 2 ∨ q = 3 ∨ q = 4 ∨ q = 5 by omega) with hq3 | hq3 | hq3 | hq3
      · have hlf := hlf 1 (by decide) (by decide) (by omega)
        have hLn : (L.length : Int) - 1 = 1 := by omega
        have hpw : 1 ^ its.length ≤ 1024 := Nat.le_trans (Nat.pow_le_pow_right (n := 1) (by decide) hni) (by decide)
        repeat (refine W.seq ?_)
        refine W.region 20 29 (by decide) rfl rfl ?_
        refine RW.opd rfl rfl (LO.load_agg rfl rfl rfl ty28 rfl (Tk.lit rfl)) ?_
        refine RW.opd rfl rfl (LO.move rfl rfl) ?_
        refine RW.opd rfl rfl (LO.move rfl rfl) ?_
        refine RW.opd rfl rfl (LO.call0 (fr := []) rfl rfl (hrd) fok11 (.cons rfl (.pure rfl) (.cons rfl (.pure rfl) (.cons rfl (.pure rfl) .nil))) rfl) ?_
        refine RW.opd rfl rfl (LO.move rfl rfl) ?_
        refine RW.opd rfl rfl (LO.extract rfl rfl rfl) ?_
        refine RW.opd rfl rfl (LO.extract rfl rfl rfl) ?_
        refine RW.opd rfl rfl (LO.assign rfl rfl) ?_
        refine RW.opd rfl rfl (LO.assign rfl rfl) ?_
        refine RW.nil ?_
        repeat (refine W.seq ?_)
        refine W.region 33 40 (by decide) rfl rfl ?_
        refine RW.opd rfl rfl (LO.move rfl rfl) ?_
        refine RW.opd rfl rfl (LO.neq rfl rfl rfl) ?_
        refine RW.opd rfl rfl (LO.move rfl rfl) ?_
        refine RW.gd rfl rfl rfl ?_ rfl (LO.move rfl rfl) ?_; (· (first | rfl | assumption))
        refine RW.gd rfl rfl rfl ?_ rfl (LO.len_isl rfl rfl rfl ty34) ?_; (· (first | rfl | assumption))
        refine RW.gd rfl rfl rfl ?_ rfl (LO.lss rfl rfl rfl) ?_; (· (first | rfl | assumption))
        refine RW.opd rfl rfl (LO.pick_f rfl rfl ?_ rfl) ?_; (· (first | rfl | assumption))
        refine RW.nil ?_
        repeat (refine W.seq ?_)
        refine W.cond_f rfl (by first | rfl | assumption) ?_
        refine W.skip ?_
        repeat (refine W.seq ?_)
        refine W.region 58 62 (by decide) rfl rfl ?_
        refine RW.opd rfl rfl (LO.move rfl rfl) ?_
        refine RW.opd rfl rfl (LO.len_isl rfl rfl rfl ty34) ?_
        refine RW.opd rfl rfl (LO.sub rfl rfl rfl) ?_
        refine RW.opd rfl rfl (LO.assign rfl rfl) ?_
        refine RW.nil ?_
        rw [hLn]
        repeat (refine W.seq ?_)
        refine W.region 66 67 (by decide) rfl rfl ?_
        refine RW.opd rfl rfl (LO.assign rfl rfl) ?_
        refine RW.nil ?_
        repeat (refine W.seq ?_)
        refine W.region 71 74 (by decide) rfl rfl ?_
        refine RW.opd rfl rfl (LO.move rfl rfl) ?_
        refine RW.opd rfl rfl (LO.len_isl rfl rfl rfl ty22) ?_
        refine RW.opd rfl rfl (LO.move rfl rfl) ?_
        refine RW.nil ?_
        repeat (refine W.seq ?_)
        refine W.block ?_
        refine W.rename [(0, 12)] 1 (T' := up (up (up (up (up (up (up mt 3 (some (.own 0 0))) 4 (some (.isl (ldsC ls) ls.length))) 5 (some (.isl (itsC its) its.length))) 8 (some (.base (.int .i64 1)))) 9 (some (.base (.int .i64 (1 : Int))))) 52 (some (.base (.int .i64 (its.length : Int))))) 53 (some (.base (.int .i64 (0 : Int))))) (H' := up mt 0 (some (fabC f))) (by decide) ?_ ?_ ?_
        · (repeat' (first | exact all_mt | refine all_up ?_ ?_)) <;> first | exact .inl ⟨rfl, rfl⟩ | exact .inr ⟨rfl, fun _ h => by cases h⟩ | exact .inl ⟨rfl, by first | rfl | assumption ⟩
        · (repeat' (first | exact all_mt | refine all_up ?_ ?_)) <;> first | exact ⟨rfl, _, rfl, .inr ⟨rfl, rfl⟩⟩ | exact ⟨rfl, _, rfl, .inl rfl⟩ | exact ⟨rfl, _, rfl, .inr ⟨rfl, by first | rfl | assumption ⟩⟩
        refine W.loop_ind (α := Nat × Nat) (fun x => its.length - x.1) 1 (fun x => up (up (up (up (up (up (up mt 3 (some (.own 0 0))) 4 (some (.isl (ldsC ls) ls.length))) 5 (some (.isl (itsC its) its.length))) 8 (some (.base (.int .i64 1)))) 9 (some (.base (.int .i64 (x.2 : Int))))) 52 (some (.base (.int .i64 (its.length : Int))))) 53 (some (.base (.int .i64 (x.1 : Int))))) (fun x => up mt 0 (some (fabC f))) (fun x => x.1 ≤ its.length ∧ x.2 = 1 ^ x.1) (0, 1) (show 0 ≤ its.length ∧ 1 = 1 ^ 0 from ⟨Nat.zero_le _, rfl⟩) ?_
        rintro ⟨i, p⟩ hIA1 ihA1
        try (dsimp only at hIA1)
        try dsimp only
        obtain ⟨hi, hp⟩ := hIA1
        have hp1 : p ≤ 1024 := by rw [hp]; exact Nat.le_trans (Nat.pow_le_pow_right (n := 1) (by decide) (show i ≤ 5 by omega)) (by decide)
        by_cases hc : i < its.length
        · have g1 : decide ((i : Int) < (its.length : Int)) = true := decide_eq_true (by omega)
          repeat (refine W.seq ?_)
          refine W.region 78 79 (by decide) rfl rfl ?_
          refine RW.opd rfl rfl (LO.lss rfl rfl rfl) ?_
          refine RW.nil ?_
          repeat (refine W.seq ?_)
          refine W.cond_t rfl (by first | rfl | assumption) ?_
          refine W.skip ?_
          repeat (refine W.seq ?_)
          refine W.block ?_
          repeat (refine W.seq ?_)
          refine W.region 83 87 (by decide) rfl rfl ?_
          refine RW.opd rfl rfl (LO.move rfl rfl) ?_
          refine RW.opd rfl rfl (LO.move rfl rfl) ?_
          refine RW.opd rfl rfl (LO.mul_in rfl rfl rfl ?_) ?_; (· (first | exact IntWalk.i64_in _ (by omega) | assumption))
          refine RW.opd rfl rfl (LO.assign rfl rfl) ?_
          refine RW.nil ?_
          repeat (refine W.seq ?_)
          refine W.region 91 93 (by decide) rfl rfl ?_
          refine RW.opd rfl rfl (LO.add_in rfl rfl rfl ?_) ?_; (· (first | exact IntWalk.i64_in _ (by omega) | assumption))
          refine RW.opd rfl rfl (LO.move rfl rfl) ?_
          refine RW.nil ?_
          rw [show (p : Int) * 1 = ((p * 1 : Nat) : Int) from by omega]
          refine WL.rename [(0, 0)] 1 (by decide) ?_ ?_ (ihA1 ((i + 1), (p * 1)) (show its.length - (i + 1) < its.length - i from by omega) (show (i + 1) ≤ its.length ∧ (p * 1) = 1 ^ (i + 1) from ⟨by omega, by rw [hp, Nat.pow_succ]⟩))
          · (repeat' (first | exact all_mt | refine all_up ?_ ?_)) <;> first | exact .inl ⟨rfl, rfl⟩ | exact .inr ⟨rfl, fun _ h => by cases h⟩ | exact .inl ⟨rfl, by first | rfl | assumption ⟩
          · (repeat' (first | exact all_mt | refine all_up ?_ ?_)) <;> first | exact ⟨rfl, _, rfl, .inr ⟨rfl, rfl⟩⟩ | exact ⟨rfl, _, rfl, .inl rfl⟩ | exact ⟨rfl, _, rfl, .inr ⟨rfl, by first | rfl | assumption ⟩⟩
        · have g1 : decide ((i : Int) < (its.length : Int)) = false := decide_eq_false (by omega)
          clear ihA1
          repeat (refine W.seq ?_)
          refine W.region 78 79 (by decide) rfl rfl ?_
          refine RW.opd rfl rfl (LO.lss rfl rfl rfl) ?_
          refine RW.nil ?_
          repeat (refine W.seq ?_)
          refine W.cond_f rfl (by first | rfl | assumption) ?_
          refine W.exit ?_
          repeat (refine W.seq ?_)
          refine W.region 97 98 (by decide) rfl rfl ?_
          refine RW.opd rfl rfl (LO.assign rfl rfl) ?_
          refine RW.nil ?_
          repeat (refine W.seq ?_)
          refine W.block ?_
          refine W.rename [(0, 0)] 1 (T' := up (up (up (up (up (up mt 3 (some (.own 0 0))) 4 (some (.isl (ldsC ls) ls.length))) 5 (some (.isl (itsC its) its.length))) 8 (some (.base (.int .i64 1)))) 9 (some (.base (.int .i64 (p : Int))))) 10 (some (.base (.int .i64 (0 : Int))))) (H' := up mt 0 (some (fabC f))) (by decide) ?_ ?_ ?_
          · (repeat' (first | exact all_mt | refine all_up ?_ ?_)) <;> first | exact .inl ⟨rfl, rfl⟩ | exact .inr ⟨rfl, fun _ h => by cases h⟩ | exact .inl ⟨rfl, by first | rfl | assumption ⟩
          · (repeat' (first | exact all_mt | refine all_up ?_ ?_)) <;> first | exact ⟨rfl, _, rfl, .inr ⟨rfl, rfl⟩⟩ | exact ⟨rfl, _, rfl, .inl rfl⟩ | exact ⟨rfl, _, rfl, .inr ⟨rfl, by first | rfl | assumption ⟩⟩
          refine W.loop_ind (α := Nat) (fun x => p - x) 1 (fun x => up (up (up (up (up (up mt 3 (some (.own 0 0))) 4 (some (.isl (ldsC ls) ls.length))) 5 (some (.isl (itsC its) its.length))) 8 (some (.base (.int .i64 1)))) 9 (some (.base (.int .i64 (p : Int))))) 10 (some (.base (.int .i64 (x : Int))))) (fun x => up mt 0 (some (fabC f))) (fun x => x ≤ p) 0 (show 0 ≤ p from Nat.zero_le _) ?_
          rintro code hIB1 ihB1
          try (dsimp only at hIB1)
          try dsimp only
          have hco : code ≤ p := hIB1
          by_cases hcp : code < p
          · have g2 : decide ((code : Int) < (p : Int)) = true := decide_eq_true (by omega)
            have hlf := hlf code
            repeat (refine W.seq ?_)
            refine W.region 102 105 (by decide) rfl rfl ?_
            refine RW.opd rfl rfl (LO.move rfl rfl) ?_
            refine RW.opd rfl rfl (LO.move rfl rfl) ?_
            refine RW.opd rfl rfl (LO.lss rfl rfl rfl) ?_
            refine RW.nil ?_
            repeat (refine W.seq ?_)
            refine W.cond_t rfl (by first | rfl | assumption) ?_
            refine W.skip ?_
            repeat (refine W.seq ?_)
            refine W.block ?_
            repeat (refine W.seq ?_)
            refine W.region 109 112 (by decide) rfl rfl ?_
            refine RW.opd rfl rfl (LO.move rfl rfl) ?_
            refine RW.opd rfl rfl (LO.makeSlice rfl rfl rfl rfl rfl ty34 ty22 (by decide) ?_ ?_ ?_) ?_; (· (first | omega | decide | assumption | fail | (simp; done) | (simp; omega))); (· (first | omega | decide | assumption | fail | (simp; done) | (simp; omega))); (· (first | omega | decide | assumption | fail | (simp; done) | (simp; omega)))
            refine RW.opd rfl rfl (LO.assign rfl rfl) ?_
            refine RW.nil ?_
            rw [show zerosL 1 [AV.nils] = [AV.nils] from rfl]
            refine W.namec (112 + 0) (112 + 1) (q := 110) (j := 0) (sz := 2) rfl rfl (Sp.lit rfl) (by decide) (by decide) (by decide) ?_
            repeat (refine W.seq ?_)
            refine W.region 116 118 (by decide) rfl rfl ?_
            refine RW.opd rfl rfl (LO.move rfl rfl) ?_
            refine RW.opd rfl rfl (LO.assign rfl rfl) ?_
            refine RW.nil ?_
            repeat (refine W.seq ?_)
            refine W.region 122 125 (by decide) rfl rfl ?_
            refine RW.opd rfl rfl (LO.move rfl rfl) ?_
            refine RW.opd rfl rfl (LO.len_isl rfl rfl rfl ty22) ?_
            refine RW.opd rfl rfl (LO.move rfl rfl) ?_
            refine RW.nil ?_
            repeat (refine W.seq ?_)
            refine W.block ?_
            refine W.rename [(0, 0), (1, 110), (2, (112 + 0))] 3 (T' := up (up (up (up (up (up (up (up (up (up (up mt 3 (some (.own 0 0))) 4 (some (.isl (ldsC ls) ls.length))) 5 (some (.isl (itsC its) its.length))) 8 (some (.base (.int .i64 1)))) 9 (some (.base (.int .i64 (p : Int))))) 10 (some (.base (.int .i64 (code : Int))))) 11 (some (.osl 1 0 1 1))) 12 (some (.base (.int .i64 (code : Int))))) 67 (some (.isl (itsC its) its.length))) 68 (some (.base (.int .i64 (its.length : Int))))) 69 (some (.base (.int .i64 (0 : Int))))) (H' := up (up (up mt 0 (some (fabC f))) 1 (some ([.osl 2 0 (([] : List Itm)).length 2]))) 2 (some (itsC (([] : List Itm))))) (by decide) ?_ ?_ ?_
            · (repeat' (first | exact all_mt | refine all_up ?_ ?_)) <;> first | exact .inl ⟨rfl, rfl⟩ | exact .inr ⟨rfl, fun _ h => by cases h⟩ | exact .inl ⟨rfl, by first | rfl | assumption | exact (its_pure _)⟩
            · (repeat' (first | exact all_mt | refine all_up ?_ ?_)) <;> first | exact ⟨rfl, _, rfl, .inr ⟨rfl, rfl⟩⟩ | exact ⟨rfl, _, rfl, .inl rfl⟩ | exact ⟨rfl, _, rfl, .inr ⟨rfl, by first | rfl | assumption | exact (its_pure _)⟩⟩
            refine W.loop_ind (α := Nat × Nat × List Itm) (fun x => its.length - x.1) 3 (fun x => up (up (up (up (up (up (up (up (up (up (up mt 3 (some (.own 0 0))) 4 (some (.isl (ldsC ls) ls.length))) 5 (some (.isl (itsC its) its.length))) 8 (some (.base (.int .i64 1)))) 9 (some (.base (.int .i64 (p : Int))))) 10 (some (.base (.int .i64 (code : Int))))) 11 (some (.osl 1 0 1 1))) 12 (some (.base (.int .i64 (x.2.1 : Int))))) 67 (some (.isl (itsC its) its.length))) 68 (some (.base (.int .i64 (its.length : Int))))) 69 (some (.base (.int .i64 (x.1 : Int))))) (fun x => up (up (up mt 0 (some (fabC f))) 1 (some ([.osl 2 0 x.2.2.length 2]))) 2 (some (itsC x.2.2))) (fun x => (x.1 ≤ its.length ∧ x.2.1 = code / 1 ^ x.1) ∧ x.2.2 = selK its (dg code 1 0) x.1) (0, code, (([] : List Itm))) (show (0 ≤ its.length ∧ code = code / 1 ^ 0) ∧ (([] : List Itm)) = selK its (dg code 1 0) 0 from ⟨⟨Nat.zero_le _, by rw [Nat.pow_zero, Nat.div_one]⟩, rfl⟩) ?_
            rintro ⟨i, c, L0⟩ hIC1 ihC1
            try (dsimp only at hIC1)
            try dsimp only
            obtain ⟨⟨hi2, hcd⟩, h0⟩ := hIC1
            have hl0 := selK_len its (dg code 1 0) i
            rw [← h0] at hl0
            have hcb : c ≤ 1024 := by have := Nat.div_le_self code (1 ^ i); omega
            by_cases hc2 : i < its.length
            · have g3 : decide ((i : Int) < (its.length : Int)) = true := decide_eq_true (by omega)
              have hnc : c / 1 = code / 1 ^ (i + 1) := by rw [hcd]; exact pow_div _ _ _
              repeat (refine W.seq ?_)
              refine W.region 129 130 (by decide) rfl rfl ?_
              refine RW.opd rfl rfl (LO.lss rfl rfl rfl) ?_
              refine RW.nil ?_
              repeat (refine W.seq ?_)
              refine W.cond_t rfl (by first | rfl | assumption) ?_
              refine W.skip ?_
              repeat (refine W.seq ?_)
              refine W.block ?_
              repeat (refine W.seq ?_)
              refine W.region 134 138 (by decide) rfl rfl ?_
              refine RW.opd rfl rfl (LO.indexAddr_isl rfl rfl rfl rfl rfl ty22 ty45 ?_) ?_; (· (first | omega | decide | assumption | fail | (simp; done) | (simp; omega)))
              refine RW.opd rfl rfl (LO.load_imm_agg rfl rfl ty45 rfl (its_tk hc2)) ?_
              refine RW.opd rfl rfl (LO.alloc rfl ty45) ?_
              refine RW.opn rfl rfl (LO.store rfl rfl rfl rfl rfl ty45 rfl (by decide) (Sp.lit rfl)) ?_
              refine RW.nil ?_
              have hd : c % 1 = 0 := by omega
              have hr : (c : Int) % 1 = ((0 : Nat) : Int) := by omega
              have n0 := selK_yes hc2 h0 (χ := dg code 1 0) (by unfold dg; rw [← hcd, hd]; rfl)
              repeat (refine W.seq ?_)
              refine W.regionD 142 157 (by decide) rfl mixed rfl ?_
              refine RW.opd rfl rfl (LO.move rfl rfl) ?_
              refine RW.opd rfl rfl (LO.move rfl rfl) ?_
              refine RW.opd rfl rfl (LO.move rfl rfl) ?_
              refine RW.opd rfl rfl (LO.rem_in rfl rfl rfl ?_ ?_) ?_; (· (first | omega)); (· (first | omega | decide | assumption | fail | (simp; done) | (simp; omega)))
              refine RW.opd rfl rfl (LO.move rfl rfl) ?_
              refine RW.opd rfl rfl (LO.move rfl rfl) ?_
              refine RW.opd rfl rfl (LO.move rfl rfl) ?_
              refine RW.opd rfl rfl (LO.rem_in rfl rfl rfl ?_ ?_) ?_; (· (first | omega)); (· (first | omega | decide | assumption | fail | (simp; done) | (simp; omega)))
              refine RW.opd rfl rfl (LO.indexAddr rfl rfl rfl hr ty34 ty22 (by decide)) ?_
              refine RW.opd rfl rfl (LO.load rfl rfl rfl rfl ty22 rfl) ?_
              refine RW.opd rfl rfl (LO.load_agg rfl rfl rfl ty45 rfl (Tk.lit rfl)) ?_
              refine RW.opd rfl rfl (LO.buildSlice rfl ty22 ty45 (by decide) (by decide) (.cons rfl rfl rfl rfl (Sp.lit rfl) .nil)) ?_
              refine RW.opd rfl rfl (LO.append rfl rfl (SrcAV.own rfl rfl (Tk.lit rfl)) rfl (its_all rfl) ty22 ty22 ty45 (by decide) ?_ ?_ ?_) ?_; (· (first | omega | decide | assumption | fail | (simp; done) | (simp; omega))); (· (first | omega | decide | assumption | fail | (simp; done) | (simp; omega))); (· (first | decide | omega))
              refine RW.opd rfl rfl (LO.indexAddr rfl rfl rfl hr ty34 ty22 (by decide)) ?_
              refine RW.opn rfl rfl (LO.store rfl rfl rfl rfl rfl ty22 rfl (by decide) (Sp.lit rfl)) ?_
              refine RW.nil ⟨by kernel_rfl, ?_⟩
              repeat (refine W.seq ?_)
              refine W.region 161 165 (by decide) rfl rfl ?_
              refine RW.opd rfl rfl (LO.move rfl rfl) ?_
              refine RW.opd rfl rfl (LO.move rfl rfl) ?_
              refine RW.opd rfl rfl (LO.quo_in rfl rfl rfl ?_ ?_ ?_) ?_; (· (first | omega | decide | assumption | fail | (simp; done) | (simp; omega))); (· (first | omega | decide | assumption | fail | (simp; done) | (simp; omega))); (· (first | exact IntWalk.i64_in _ (by omega) | assumption))
              refine RW.opd rfl rfl (LO.assign rfl rfl) ?_
              refine RW.nil ?_
              rw [show (c : Int) / 1 = ((c / 1 : Nat) : Int) from by omega]
              repeat (refine W.seq ?_)
              refine W.region 169 171 (by decide) rfl rfl ?_
              refine RW.opd rfl rfl (LO.add_in rfl rfl rfl ?_) ?_; (· (first | exact IntWalk.i64_in _ (by omega) | assumption))
              refine RW.opd rfl rfl (LO.move rfl rfl) ?_
              refine RW.nil ?_
              rw [show itsC L0 ++ [AV.base (.bool its[i].sw), AV.base (.int .i64 its[i].ix)] = itsC (L0 ++ [its[i]]) from its_snoc _ _, show L0.length + 1 = (L0 ++ [its[i]]).length from by simp]
              refine WL.rename [(0, 0), (1, 1), (2, 154)] 3 (by decide) ?_ ?_ (ihC1 ((i + 1), (c / 1), (L0 ++ [its[i]])) (show its.length - (i + 1) < its.length - i from by omega) (show ((i + 1) ≤ its.length ∧ (c / 1) = code / 1 ^ (i + 1)) ∧ (L0 ++ [its[i]]) = selK its (dg code 1 0) (i + 1) from ⟨⟨by omega, hnc⟩, n0⟩))
              · (repeat' (first | exact all_mt | refine all_up ?_ ?_)) <;> first | exact .inl ⟨rfl, rfl⟩ | exact .inr ⟨rfl, fun _ h => by cases h⟩ | exact .inl ⟨rfl, by first | rfl | assumption | exact (its_pure _)⟩
              · (repeat' (first | exact all_mt | refine all_up ?_ ?_)) <;> first | exact ⟨rfl, _, rfl, .inr ⟨rfl, rfl⟩⟩ | exact ⟨rfl, _, rfl, .inl rfl⟩ | exact ⟨rfl, _, rfl, .inr ⟨rfl, by first | rfl | assumption | exact (its_pure _)⟩⟩
            · have g3 : decide ((i : Int) < (its.length : Int)) = false := decide_eq_false (by omega)
              clear ihC1
              repeat (refine W.seq ?_)
              refine W.region 129 130 (by decide) rfl rfl ?_
              refine RW.opd rfl rfl (LO.lss rfl rfl rfl) ?_
              refine RW.nil ?_
              repeat (refine W.seq ?_)
              refine W.cond_f rfl (by first | rfl | assumption) ?_
              refine W.exit ?_
              have hie : i = its.length := by omega
              rw [hie] at h0
              refine W.frzc (q := 1) (j := 0) (r := 2) rfl rfl (by decide) rfl (its_all rfl) (its_pure _) (Sp.lit rfl) ?_
              repeat (refine W.seq ?_)
              refine W.region 175 176 (by decide) rfl rfl ?_
              refine RW.opd rfl rfl (LO.assign rfl rfl) ?_
              refine RW.nil ?_
              repeat (refine W.seq ?_)
              refine W.region 180 183 (by decide) rfl rfl ?_
              refine RW.opd rfl rfl (LO.move rfl rfl) ?_
              refine RW.opd rfl rfl (LO.len rfl rfl ty34) ?_
              refine RW.opd rfl rfl (LO.move rfl rfl) ?_
              refine RW.nil ?_
              obtain ⟨M, hM⟩ : ∃ M, [L0] = M := ⟨_, rfl⟩
              have hMl : M.length = 1 := by rw [← hM]; rfl
              have hMb : ∀ c ∈ M, c.length ≤ 5 := by rw [← hM]; intro c hcm; simp only [List.mem_cons, List.not_mem_nil, or_false] at hcm; rcases hcm with rfl <;> omega
              have hMk : M.all (okS f ls) = false := by
                cases hma : M.all (okS f ls) with
                | false => rfl
                | true =>
                  refine absurd (fun j hj => ?_) hlf
                  have hma := List.all_eq_true.1 hma
                  rw [← hM] at hma
                  obtain rfl : j = 0 := by omega
                  rw [← h0]; exact hma _ (by simp)
              rw [show [AV.isl (itsC L0) L0.length] = gsC M from by rw [← hM]; rfl]
              repeat (refine W.seq ?_)
              refine W.block ?_
              refine W.rename [(0, 0), (1, 1)] 2 (T' := up (up (up (up (up (up (up (up (up (up mt 3 (some (.own 0 0))) 4 (some (.isl (ldsC ls) ls.length))) 5 (some (.isl (itsC its) its.length))) 8 (some (.base (.int .i64 1)))) 9 (some (.base (.int .i64 (p : Int))))) 10 (some (.base (.int .i64 (code : Int))))) 15 (some (.base (.bool true)))) 91 (some (.osl 1 0 1 1))) 92 (some (.base (.int .i64 1)))) 93 (some (.base (.int .i64 (0 : Int))))) (H' := up (up mt 0 (some (fabC f))) 1 (some (gsC M))) (by decide) ?_ ?_ ?_
              · (repeat' (first | exact all_mt | refine all_up ?_ ?_)) <;> first | exact .inl ⟨rfl, rfl⟩ | exact .inr ⟨rfl, fun _ h => by cases h⟩ | exact .inl ⟨rfl, by first | rfl | assumption | exact (gsC_pure _)⟩
              · (repeat' (first | exact all_mt | refine all_up ?_ ?_)) <;> first | exact ⟨rfl, _, rfl, .inr ⟨rfl, rfl⟩⟩ | exact ⟨rfl, _, rfl, .inl rfl⟩ | exact ⟨rfl, _, rfl, .inr ⟨rfl, by first | rfl | assumption | exact (gsC_pure _)⟩⟩
              refine W.loop_ind (α := Nat × Bool) (fun x => 1 - x.1) 2 (fun x => up (up (up (up (up (up (up (up (up (up mt 3 (some (.own 0 0))) 4 (some (.isl (ldsC ls) ls.length))) 5 (some (.isl (itsC its) its.length))) 8 (some (.base (.int .i64 1)))) 9 (some (.base (.int .i64 (p : Int))))) 10 (some (.base (.int .i64 (code : Int))))) 15 (some (.base (.bool x.2)))) 91 (some (.osl 1 0 1 1))) 92 (some (.base (.int .i64 1)))) 93 (some (.base (.int .i64 (x.1 : Int))))) (fun x => up (up mt 0 (some (fabC f))) 1 (some (gsC M))) (fun x => x.1 ≤ 1 ∧ x.2 = (M.take x.1).all (okS f ls)) (0, true) (show 0 ≤ 1 ∧ true = (M.take 0).all (okS f ls) from ⟨Nat.zero_le _, rfl⟩) ?_
              rintro ⟨k, o⟩ hID1 ihD1
              try (dsimp only at hID1)
              try dsimp only
              obtain ⟨hk, ho⟩ := hID1
              by_cases hc3 : k < 1
              · have g4 : decide ((k : Int) < 1) = true := decide_eq_true (by omega)
                have hkm : k < M.length := by omega
                have hkb := hMb _ (List.getElem_mem hkm)
                have hsf := safeX_any f ls M[k] (by omega) (by omega) (by omega)
                repeat (refine W.seq ?_)
                refine W.region 187 188 (by decide) rfl rfl ?_
                refine RW.opd rfl rfl (LO.lss rfl rfl rfl) ?_
                refine RW.nil ?_
                repeat (refine W.seq ?_)
                refine W.cond_t rfl (by first | rfl | assumption) ?_
                refine W.skip ?_
                repeat (refine W.seq ?_)
                refine W.block ?_
                repeat (refine W.seq ?_)
                refine W.region 192 195 (by decide) rfl rfl ?_
                refine RW.opd rfl rfl (LO.indexAddr rfl rfl rfl rfl ty34 ty22 ?_) ?_; (· (first | omega | decide | assumption | fail | (simp; done) | (simp; omega)))
                refine RW.opd rfl rfl (LO.load rfl rfl rfl (gs_nat hkm) ty22 rfl) ?_
                refine RW.opd rfl rfl (LO.assign rfl rfl) ?_
                refine RW.nil ?_
                cases o
                case' false =>
                  have hnx := all_take_false (okS f ls) hkm ho.symm
                  repeat (refine W.seq ?_)
                  refine W.region 199 213 (by decide) rfl rfl ?_
                  refine RW.opd rfl rfl (LO.move rfl rfl) ?_
                  refine RW.opd rfl rfl (LO.move rfl rfl) ?_
                  refine RW.sd rfl rfl rfl ?_ rfl ?_; (· (first | rfl | assumption))
                  refine RW.sd rfl rfl rfl ?_ rfl ?_; (· (first | rfl | assumption))
                  refine RW.sd rfl rfl rfl ?_ rfl ?_; (· (first | rfl | assumption))
                  refine RW.sd rfl rfl rfl ?_ rfl ?_; (· (first | rfl | assumption))
                  refine RW.ud rfl rfl rfl rfl ?_
                  refine RW.ud rfl rfl rfl rfl ?_
                  refine RW.ud rfl rfl rfl rfl ?_
                  refine RW.ud rfl rfl rfl rfl ?_
                  refine RW.ud rfl rfl rfl rfl ?_
                  refine RW.sd rfl rfl rfl ?_ rfl ?_; (· (first | rfl | assumption))
                  refine RW.opd rfl rfl (LO.pick_f rfl rfl ?_ rfl) ?_; (· (first | rfl | assumption))
                  refine RW.opd rfl rfl (LO.assign rfl rfl) ?_
                  refine RW.nil ?_
                  repeat (refine W.seq ?_)
                  refine W.region 217 219 (by decide) rfl rfl ?_
                  refine RW.opd rfl rfl (LO.add_in rfl rfl rfl ?_) ?_; (· (first | exact IntWalk.i64_in _ (by omega) | assumption))
                  refine RW.opd rfl rfl (LO.move rfl rfl) ?_
                  refine RW.nil ?_
                  refine WL.rename [(0, 0), (1, 1)] 2 (by decide) ?_ ?_ (ihD1 ((k + 1), false) (show 1 - (k + 1) < 1 - k from by omega) (show (k + 1) ≤ 1 ∧ false = (M.take (k + 1)).all (okS f ls) from ⟨by omega, hnx.symm⟩))
                  · (repeat' (first | exact all_mt | refine all_up ?_ ?_)) <;> first | exact .inl ⟨rfl, rfl⟩ | exact .inr ⟨rfl, fun _ h => by cases h⟩ | exact .inl ⟨rfl, by first | rfl | assumption | exact (gsC_pure _)⟩
                  · (repeat' (first | exact all_mt | refine all_up ?_ ?_)) <;> first | exact ⟨rfl, _, rfl, .inr ⟨rfl, rfl⟩⟩ | exact ⟨rfl, _, rfl, .inl rfl⟩ | exact ⟨rfl, _, rfl, .inr ⟨rfl, by first | rfl | assumption | exact (gsC_pure _)⟩⟩
                case' true =>
                  have hnx := all_take_true (okS f ls) hkm ho.symm
                  by_cases hz : M[k].length = 0
                  · have k2 : ((M[k].length : Int) == 0) = true := by rw [hz]; rfl
                    have hok2 : okS f ls M[k] = true := by unfold okS; rw [hz]; rfl
                    repeat (refine W.seq ?_)
                    refine W.region 199 213 (by decide) rfl rfl ?_
                    refine RW.opd rfl rfl (LO.move rfl rfl) ?_
                    refine RW.opd rfl rfl (LO.move rfl rfl) ?_
                    refine RW.gd rfl rfl rfl ?_ rfl (LO.move rfl rfl) ?_; (· (first | rfl | assumption))
                    refine RW.gd rfl rfl rfl ?_ rfl (LO.len_isl rfl rfl rfl ty22) ?_; (· (first | rfl | assumption))
                    refine RW.gd rfl rfl rfl ?_ rfl (LO.eql rfl rfl rfl) ?_; (· (first | rfl | assumption))
                    refine RW.gd rfl rfl rfl ?_ rfl (LO.move rfl rfl) ?_; (· (first | rfl | assumption))
                    refine RW.sd rfl rfl rfl ?_ rfl ?_; (· (first | rfl | assumption))
                    refine RW.sd rfl rfl rfl ?_ rfl ?_; (· (first | rfl | assumption))
                    refine RW.sd rfl rfl rfl ?_ rfl ?_; (· (first | rfl | assumption))
                    refine RW.sd rfl rfl rfl ?_ rfl ?_; (· (first | rfl | assumption))
                    refine RW.sd rfl rfl rfl ?_ rfl ?_; (· (first | rfl | assumption))
                    refine RW.gd rfl rfl rfl ?_ rfl (LO.pick_t rfl rfl ?_ rfl) ?_; (· (first | rfl | assumption)); (· (first | rfl | assumption))
                    refine RW.opd rfl rfl (LO.pick_t rfl rfl ?_ rfl) ?_; (· (first | rfl | assumption))
                    refine RW.opd rfl rfl (LO.assign rfl rfl) ?_
                    refine RW.nil ?_
                    rw [k2]
                    repeat (refine W.seq ?_)
                    refine W.region 217 219 (by decide) rfl rfl ?_
                    refine RW.opd rfl rfl (LO.add_in rfl rfl rfl ?_) ?_; (· (first | exact IntWalk.i64_in _ (by omega) | assumption))
                    refine RW.opd rfl rfl (LO.move rfl rfl) ?_
                    refine RW.nil ?_
                    refine WL.rename [(0, 0), (1, 1)] 2 (by decide) ?_ ?_ (ihD1 ((k + 1), true) (show 1 - (k + 1) < 1 - k from by omega) (show (k + 1) ≤ 1 ∧ true = (M.take (k + 1)).all (okS f ls) from ⟨by omega, by rw [hnx, hok2]⟩))
                    · (repeat' (first | exact all_mt | refine all_up ?_ ?_)) <;> first | exact .inl ⟨rfl, rfl⟩ | exact .inr ⟨rfl, fun _ h => by cases h⟩ | exact .inl ⟨rfl, by first | rfl | assumption | exact (gsC_pure _)⟩
                    · (repeat' (first | exact all_mt | refine all_up ?_ ?_)) <;> first | exact ⟨rfl, _, rfl, .inr ⟨rfl, rfl⟩⟩ | exact ⟨rfl, _, rfl, .inl rfl⟩ | exact ⟨rfl, _, rfl, .inr ⟨rfl, by first | rfl | assumption | exact (gsC_pure _)⟩⟩
                  · have k2 : ((M[k].length : Int) == 0) = false := by simpa using fun h => hz (by simp [h])
                    have hok2 : okS f ls M[k] = (safeE f ls M[k] == 0) := by unfold okS; rw [show (M[k].length == 0) = false from by simpa using fun h => hz (by simp [h])]; rfl
                    repeat (refine W.seq ?_)
                    refine W.region 199 213 (by decide) rfl rfl ?_
                    refine RW.opd rfl rfl (LO.move rfl rfl) ?_
                    refine RW.opd rfl rfl (LO.move rfl rfl) ?_
                    refine RW.gd rfl rfl rfl ?_ rfl (LO.move rfl rfl) ?_; (· (first | rfl | assumption))
                    refine RW.gd rfl rfl rfl ?_ rfl (LO.len_isl rfl rfl rfl ty22) ?_; (· (first | rfl | assumption))
                    refine RW.gd rfl rfl rfl ?_ rfl (LO.eql rfl rfl rfl) ?_; (· (first | rfl | assumption))
                    refine RW.gd rfl rfl rfl ?_ rfl (LO.move rfl rfl) ?_; (· (first | rfl | assumption))
                    refine RW.gd rfl rfl rfl ?_ rfl (LO.load_agg rfl rfl rfl ty28 rfl (Tk.lit rfl)) ?_; (· (first | rfl | assumption))
                    refine RW.gd rfl rfl rfl ?_ rfl (LO.move rfl rfl) ?_; (· (first | rfl | assumption))
                    refine RW.gd rfl rfl rfl ?_ rfl (LO.move rfl rfl) ?_; (· (first | rfl | assumption))
                    refine RW.gd rfl rfl rfl ?_ rfl (LO.call0 (fr := []) rfl rfl (hsf) fok17 (.cons rfl (.pure rfl) (.cons rfl (.pure rfl) (.cons rfl (.pure rfl) .nil))) rfl) ?_; (· (first | rfl | assumption))
                    refine RW.gd rfl rfl rfl ?_ rfl (LO.eql rfl rfl rfl) ?_; (· (first | rfl | assumption))
                    refine RW.gd rfl rfl rfl ?_ rfl (LO.pick_f rfl rfl ?_ rfl) ?_; (· (first | rfl | assumption)); (· (first | rfl | assumption))
                    refine RW.opd rfl rfl (LO.pick_t rfl rfl ?_ rfl) ?_; (· (first | rfl | assumption))
                    refine RW.opd rfl rfl (LO.assign rfl rfl) ?_
                    refine RW.nil ?_
                    repeat (refine W.seq ?_)
                    refine W.region 217 219 (by decide) rfl rfl ?_
                    refine RW.opd rfl rfl (LO.add_in rfl rfl rfl ?_) ?_; (· (first | exact IntWalk.i64_in _ (by omega) | assumption))
                    refine RW.opd rfl rfl (LO.move rfl rfl) ?_
                    refine RW.nil ?_
                    refine WL.rename [(0, 0), (1, 1)] 2 (by decide) ?_ ?_ (ihD1 ((k + 1), ((safeE f ls M[k] == 0))) (show 1 - (k + 1) < 1 - k from by omega) (show (k + 1) ≤ 1 ∧ ((safeE f ls M[k] == 0)) = (M.take (k + 1)).all (okS f ls) from ⟨by omega, by rw [hnx, hok2]⟩))
                    · (repeat' (first | exact all_mt | refine all_up ?_ ?_)) <;> first | exact .inl ⟨rfl, rfl⟩ | exact .inr ⟨rfl, fun _ h => by cases h⟩ | exact .inl ⟨rfl, by first | rfl | assumption | exact (gsC_pure _)⟩
                    · (repeat' (first | exact all_mt | refine all_up ?_ ?_)) <;> first | exact ⟨rfl, _, rfl, .inr ⟨rfl, rfl⟩⟩ | exact ⟨rfl, _, rfl, .inl rfl⟩ | exact ⟨rfl, _, rfl, .inr ⟨rfl, by first | rfl | assumption | exact (gsC_pure _)⟩⟩
              · have g4 : decide ((k : Int) < 1) = false := decide_eq_false (by omega)
                have hof : o = false := by rw [ho, show k = M.length by omega, List.take_length, hMk]
                subst hof
                repeat (refine W.seq ?_)
                refine W.region 187 188 (by decide) rfl rfl ?_
                refine RW.opd rfl rfl (LO.lss rfl rfl rfl) ?_
                refine RW.nil ?_
                repeat (refine W.seq ?_)
                refine W.cond_f rfl (by first | rfl | assumption) ?_
                refine W.exit ?_
                repeat (refine W.seq ?_)
                refine W.region 223 224 (by decide) rfl rfl ?_
                refine RW.opd rfl rfl (LO.move rfl rfl) ?_
                refine RW.nil ?_
                repeat (refine W.seq ?_)
                refine W.cond_f rfl (by first | rfl | assumption) ?_
                refine W.skip ?_
                repeat (refine W.seq ?_)
                refine W.region 233 236 (by decide) rfl rfl ?_
                refine RW.opd rfl rfl (LO.move rfl rfl) ?_
                refine RW.opd rfl rfl (LO.add_in rfl rfl rfl ?_) ?_; (· (first | exact IntWalk.i64_in _ (by omega) | assumption))
                refine RW.opd rfl rfl (LO.assign rfl rfl) ?_
                refine RW.nil ?_
                refine WL.rename [(0, 0)] 1 (by decide) ?_ ?_ (ihB1 (code + 1) (show p - (code + 1) < p - code from by omega) (show (code + 1) ≤ p from by omega))
                · (repeat' (first | exact all_mt | refine all_up ?_ ?_)) <;> first | exact .inl ⟨rfl, rfl⟩ | exact .inr ⟨rfl, fun _ h => by cases h⟩ | exact .inl ⟨rfl, by first | rfl | assumption ⟩
                · (repeat' (first | exact all_mt | refine all_up ?_ ?_)) <;> first | exact ⟨rfl, _, rfl, .inr ⟨rfl, rfl⟩⟩ | exact ⟨rfl, _, rfl, .inl rfl⟩ | exact ⟨rfl, _, rfl, .inr ⟨rfl, by first | rfl | assumption ⟩⟩
          · have g2 : decide ((code : Int) < (p : Int)) = false := decide_eq_false (by omega)
            repeat (refine W.seq ?_)
            refine W.region 102 105 (by decide) rfl rfl ?_
            refine RW.opd rfl rfl (LO.move rfl rfl) ?_
            refine RW.opd rfl rfl (LO.move rfl rfl) ?_
            refine RW.opd rfl rfl (LO.lss rfl rfl rfl) ?_
            refine RW.nil ?_
            repeat (refine W.seq ?_)
            refine W.cond_f rfl (by first | rfl | assumption) ?_
            refine W.exit ?_
            repeat (refine W.seq ?_)
            refine W.region 240 242 (by decide) rfl rfl ?_
            refine RW.opd rfl rfl (LO.call0 (fr := []) rfl rfl (haw) fok8 .nil rfl) ?_
            refine RW.opd rfl rfl (LO.assign rfl rfl) ?_
            refine RW.nil ?_
            repeat (refine W.seq ?_)
            refine W.ret ⟨.inl rfl, _, mt, RVs.cons (RV.tmp rfl) (RVs.nil), all_mt, ?_⟩
            exact ⟨rfl, rfl⟩
      · have hlf := hlf 2 (by decide) (by decide) (by omega)
        have hLn : (L.length : Int) - 1 = 2 := by omega
        have hpw : 2 ^ its.length ≤ 1024 := Nat.le_trans (Nat.pow_le_pow_right (n := 2) (by decide) hni) (by decide)
        repeat (refine W.seq ?_)
        refine W.region 20 29 (by decide) rfl rfl ?_
        refine RW.opd rfl rfl (LO.load_agg rfl rfl rfl ty28 rfl (Tk.lit rfl)) ?_
        refine RW.opd rfl rfl (LO.move rfl rfl) ?_
        refine RW.opd rfl rfl (LO.move rfl rfl) ?_
        refine RW.opd rfl rfl (LO.call0 (fr := []) rfl rfl (hrd) fok11 (.cons rfl (.pure rfl) (.cons rfl (.pure rfl) (.cons rfl (.pure rfl) .nil))) rfl) ?_
        refine RW.opd rfl rfl (LO.move rfl rfl) ?_
        refine RW.opd rfl rfl (LO.extract rfl rfl rfl) ?_
        refine RW.opd rfl rfl (LO.extract rfl rfl rfl) ?_
        refine RW.opd rfl rfl (LO.assign rfl rfl) ?_
        refine RW.opd rfl rfl (LO.assign rfl rfl) ?_
        refine RW.nil ?_
        repeat (refine W.seq ?_)
        refine W.region 33 40 (by decide) rfl rfl ?_
        refine RW.opd rfl rfl (LO.move rfl rfl) ?_
        refine RW.opd rfl rfl (LO.neq rfl rfl rfl) ?_
        refine RW.opd rfl rfl (LO.move rfl rfl) ?_
        refine RW.gd rfl rfl rfl ?_ rfl (LO.move rfl rfl) ?_; (· (first | rfl | assumption))
        refine RW.gd rfl rfl rfl ?_ rfl (LO.len_isl rfl rfl rfl ty34) ?_; (· (first | rfl | assumption))
        refine RW.gd rfl rfl rfl ?_ rfl (LO.lss rfl rfl rfl) ?_; (· (first | rfl | assumption))
        refine RW.opd rfl rfl (LO.pick_f rfl rfl ?_ rfl) ?_; (· (first | rfl | assumption))
        refine RW.nil ?_
        repeat (refine W.seq ?_)
        refine W.cond_f rfl (by first | rfl | assumption) ?_
        refine W.skip ?_
        repeat (refine W.seq ?_)
        refine W.region 58 62 (by decide) rfl rfl ?_
        refine RW.opd rfl rfl (LO.move rfl rfl) ?_
        refine RW.opd rfl rfl (LO.len_isl rfl rfl rfl ty34) ?_
        refine RW.opd rfl rfl (LO.sub rfl rfl rfl) ?_
        refine RW.opd rfl rfl (LO.assign rfl rfl) ?_
        refine RW.nil ?_
        rw [hLn]
        repeat (refine W.seq ?_)
        refine W.region 66 67 (by decide) rfl rfl ?_
        refine RW.opd rfl rfl (LO.assign rfl rfl) ?_
        refine RW.nil ?_
        repeat (refine W.seq ?_)
        refine W.region 71 74 (by decide) rfl rfl ?_
        refine RW.opd rfl rfl (LO.move rfl rfl) ?_
        refine RW.opd rfl rfl (LO.len_isl rfl rfl rfl ty22) ?_
        refine RW.opd rfl rfl (LO.move rfl rfl) ?_
        refine RW.nil ?_
        repeat (refine W.seq ?_)
        refine W.block ?_
        refine W.rename [(0, 12)] 1 (T' := up (up (up (up (up (up (up mt 3 (some (.own 0 0))) 4 (some (.isl (ldsC ls) ls.length))) 5 (some (.isl (itsC its) its.length))) 8 (some (.base (.int .i64 2)))) 9 (some (.base (.int .i64 (1 : Int))))) 52 (some (.base (.int .i64 (its.length : Int))))) 53 (some (.base (.int .i64 (0 : Int))))) (H' := up mt 0 (some (fabC f))) (by decide) ?_ ?_ ?_
        · (repeat' (first | exact all_mt | refine all_up ?_ ?_)) <;> first | exact .inl ⟨rfl, rfl⟩ | exact .inr ⟨rfl, fun _ h => by cases h⟩ | exact .inl ⟨rfl, by first | rfl | assumption ⟩
        · (repeat' (first | exact all_mt | refine all_up ?_ ?_)) <;> first | exact ⟨rfl, _, rfl, .inr ⟨rfl, rfl⟩⟩ | exact ⟨rfl, _, rfl, .inl rfl⟩ | exact ⟨rfl, _, rfl, .inr ⟨rfl, by first | rfl | assumption ⟩⟩
        refine W.loop_ind (α := Nat × Nat) (fun x => its.length - x.1) 1 (fun x => up (up (up (up (up (up (up mt 3 (some (.own 0 0))) 4 (some (.isl (ldsC ls) ls.length))) 5 (some (.isl (itsC its) its.length))) 8 (some (.base (.int .i64 2)))) 9 (some (.base (.int .i64 (x.2 : Int))))) 52 (some (.base (.int .i64 (its.length : Int))))) 53 (some (.base (.int .i64 (x.1 : Int))))) (fun x => up mt 0 (some (fabC f))) (fun x => x.1 ≤ its.length ∧ x.2 = 2 ^ x.1) (0, 1) (show 0 ≤ its.length ∧ 1 = 2 ^ 0 from ⟨Nat.zero_le _, rfl⟩) ?_
        rintro ⟨i, p⟩ hIA2 ihA2
        try (dsimp only at hIA2)
        try dsimp only
        obtain ⟨hi, hp⟩ := hIA2
        have hp1 : p ≤ 1024 := by rw [hp]; exact Nat.le_trans (Nat.pow_le_pow_right (n := 2) (by decide) (show i ≤ 5 by omega)) (by decide)
        by_cases hc : i < its.length
        · have g1 : decide ((i : Int) < (its.length : Int)) = true := decide_eq_true (by omega)
          repeat (refine W.seq ?_)
          refine W.region 78 79 (by decide) rfl rfl ?_
          refine RW.opd rfl rfl (LO.lss rfl rfl rfl) ?_
          refine RW.nil ?_
          repeat (refine W.seq ?_)
          refine W.cond_t rfl (by first | rfl | assumption) ?_
          refine W.skip ?_
          repeat (refine W.seq ?_)
          refine W.block ?_
          repeat (refine W.seq ?_)
          refine W.region 83 87 (by decide) rfl rfl ?_
          refine RW.opd rfl rfl (LO.move rfl rfl) ?_
          refine RW.opd rfl rfl (LO.move rfl rfl) ?_
          refine RW.opd rfl rfl (LO.mul_in rfl rfl rfl ?_) ?_; (· (first | exact IntWalk.i64_in _ (by omega) | assumption))
          refine RW.opd rfl rfl (LO.assign rfl rfl) ?_
          refine RW.nil ?_
          repeat (refine W.seq ?_)
          refine W.region 91 93 (by decide) rfl rfl ?_
          refine RW.opd rfl rfl (LO.add_in rfl rfl rfl ?_) ?_; (· (first | exact IntWalk.i64_in _ (by omega) | assumption))
          refine RW.opd rfl rfl (LO.move rfl rfl) ?_
          refine RW.nil ?_
          rw [show (p : Int) * 2 = ((p * 2 : Nat) : Int) from by omega]
          refine WL.rename [(0, 0)] 1 (by decide) ?_ ?_ (ihA2 ((i + 1), (p * 2)) (show its.length - (i + 1) < its.length - i from by omega) (show (i + 1) ≤ its.length ∧ (p * 2) = 2 ^ (i + 1) from ⟨by omega, by rw [hp, Nat.pow_succ]⟩))
          · (repeat' (first | exact all_mt | refine all_up ?_ ?_)) <;> first | exact .inl ⟨rfl, rfl⟩ | exact .inr ⟨rfl, fun _ h => by cases h⟩ | exact .inl ⟨rfl, by first | rfl | assumption ⟩
          · (repeat' (first | exact all_mt | refine all_up ?_ ?_)) <;> first | exact ⟨rfl, _, rfl, .inr ⟨rfl, rfl⟩⟩ | exact ⟨rfl, _, rfl, .inl rfl⟩ | exact ⟨rfl, _, rfl, .inr ⟨rfl, by first | rfl | assumption ⟩⟩
        · have g1 : decide ((i : Int) < (its.length : Int)) = false := decide_eq_false (by omega)
          clear ihA2
          repeat (refine W.seq ?_)
          refine W.region 78 79 (by decide) rfl rfl ?_
          refine RW.opd rfl rfl (LO.lss rfl rfl rfl) ?_
          refine RW.nil ?_
          repeat (refine W.seq ?_)
          refine W.cond_f rfl (by first | rfl | assumption) ?_
          refine W.exit ?_
          repeat (refine W.seq ?_)
          refine W.region 97 98 (by decide) rfl rfl ?_
          refine RW.opd rfl rfl (LO.assign rfl rfl) ?_
          refine RW.nil ?_
          repeat (refine W.seq ?_)
          refine W.block ?_
          refine W.rename [(0, 0)] 1 (T' := up (up (up (up (up (up mt 3 (some (.own 0 0))) 4 (some (.isl (ldsC ls) ls.length))) 5 (some (.isl (itsC its) its.length))) 8 (some (.base (.int .i64 2)))) 9 (some (.base (.int .i64 (p : Int))))) 10 (some (.base (.int .i64 (0 : Int))))) (H' := up mt 0 (some (fabC f))) (by decide) ?_ ?_ ?_
          · (repeat' (first | exact all_mt | refine all_up ?_ ?_)) <;> first | exact .inl ⟨rfl, rfl⟩ | exact .inr ⟨rfl, fun _ h => by cases h⟩ | exact .inl ⟨rfl, by first | rfl | assumption ⟩
          · (repeat' (first | exact all_mt | refine all_up ?_ ?_)) <;> first | exact ⟨rfl, _, rfl, .inr ⟨rfl, rfl⟩⟩ | exact ⟨rfl, _, rfl, .inl rfl⟩ | exact ⟨rfl, _, rfl, .inr ⟨rfl, by first | rfl | assumption ⟩⟩
          refine W.loop_ind (α := Nat) (fun x => p - x) 1 (fun x => up (up (up (up (up (up mt 3 (some (.own 0 0))) 4 (some (.isl (ldsC ls) ls.length))) 5 (some (.isl (itsC its) its.length))) 8 (some (.base (.int .i64 2)))) 9 (some (.base (.int .i64 (p : Int))))) 10 (some (.base (.int .i64 (x : Int))))) (fun x => up mt 0 (some (fabC f))) (fun x => x ≤ p) 0 (show 0 ≤ p from Nat.zero_le _) ?_
          rintro code hIB2 ihB2
          try (dsimp only at hIB2)
          try dsimp only
          have hco : code ≤ p := hIB2
          by_cases hcp : code < p
          · have g2 : decide ((code : Int) < (p : Int)) = true := decide_eq_true (by omega)
            have hlf := hlf code
            repeat (refine W.seq ?_)
            refine W.region 102 105 (by decide) rfl rfl ?_
            refine RW.opd rfl rfl (LO.move rfl rfl) ?_
            refine RW.opd rfl rfl (LO.move rfl rfl) ?_
            refine RW.opd rfl rfl (LO.lss rfl rfl rfl) ?_
            refine RW.nil ?_
            repeat (refine W.seq ?_)
            refine W.cond_t rfl (by first | rfl | assumption) ?_
            refine W.skip ?_
            repeat (refine W.seq ?_)
            refine W.block ?_
            repeat (refine W.seq ?_)
            refine W.region 109 112 (by decide) rfl rfl ?_
            refine RW.opd rfl rfl (LO.move rfl rfl) ?_
            refine RW.opd rfl rfl (LO.makeSlice rfl rfl rfl rfl rfl ty34 ty22 (by decide) ?_ ?_ ?_) ?_; (· (first | omega | decide | assumption | fail | (simp; done) | (simp; omega))); (· (first | omega | decide | assumption | fail | (simp; done) | (simp; omega))); (· (first | omega | decide | assumption | fail | (simp; done) | (simp; omega)))
            refine RW.opd rfl rfl (LO.assign rfl rfl) ?_
            refine RW.nil ?_
            rw [show zerosL 2 [AV.nils] = [AV.nils, AV.nils] from rfl]
            refine W.namec (112 + 0) (112 + 1) (q := 110) (j := 0) (sz := 2) rfl rfl (Sp.lit rfl) (by decide) (by decide) (by decide) ?_
            refine W.namec (112 + 1) (112 + 2) (q := 110) (j := 1) (sz := 2) rfl rfl (Sp.lit rfl) (by decide) (by decide) (by decide) ?_
            repeat (refine W.seq ?_)
            refine W.region 116 118 (by decide) rfl rfl ?_
            refine RW.opd rfl rfl (LO.move rfl rfl) ?_
            refine RW.opd rfl rfl (LO.assign rfl rfl) ?_
            refine RW.nil ?_
            repeat (refine W.seq ?_)
            refine W.region 122 125 (by decide) rfl rfl ?_
            refine RW.opd rfl rfl (LO.move rfl rfl) ?_
            refine RW.opd rfl rfl (LO.len_isl rfl rfl rfl ty22) ?_
            refine RW.opd rfl rfl (LO.move rfl rfl) ?_
            refine RW.nil ?_
            repeat (refine W.seq ?_)
            refine W.block ?_
            refine W.rename [(0, 0), (1, 110), (2, (112 + 0)), (3, (112 + 1))] 4 (T' := up (up (up (up (up (up (up (up (up (up (up mt 3 (some (.own 0 0))) 4 (some (.isl (ldsC ls) ls.length))) 5 (some (.isl (itsC its) its.length))) 8 (some (.base (.int .i64 2)))) 9 (some (.base (.int .i64 (p : Int))))) 10 (some (.base (.int .i64 (code : Int))))) 11 (some (.osl 1 0 2 1))) 12 (some (.base (.int .i64 (code : Int))))) 67 (some (.isl (itsC its) its.length))) 68 (some (.base (.int .i64 (its.length : Int))))) 69 (some (.base (.int .i64 (0 : Int))))) (H' := up (up (up (up mt 0 (some (fabC f))) 1 (some ([.osl 2 0 (([] : List Itm)).length 2, .osl 3 0 (([] : List Itm)).length 2]))) 2 (some (itsC (([] : List Itm))))) 3 (some (itsC (([] : List Itm))))) (by decide) ?_ ?_ ?_
            · (repeat' (first | exact all_mt | refine all_up ?_ ?_)) <;> first | exact .inl ⟨rfl, rfl⟩ | exact .inr ⟨rfl, fun _ h => by cases h⟩ | exact .inl ⟨rfl, by first | rfl | assumption | exact (its_pure _)⟩
            · (repeat' (first | exact all_mt | refine all_up ?_ ?_)) <;> first | exact ⟨rfl, _, rfl, .inr ⟨rfl, rfl⟩⟩ | exact ⟨rfl, _, rfl, .inl rfl⟩ | exact ⟨rfl, _, rfl, .inr ⟨rfl, by first | rfl | assumption | exact (its_pure _)⟩⟩
            refine W.loop_ind (α := Nat × Nat × List Itm × List Itm) (fun x => its.length - x.1) 4 (fun x => up (up (up (up (up (up (up (up (up (up (up mt 3 (some (.own 0 0))) 4 (some (.isl (ldsC ls) ls.length))) 5 (some (.isl (itsC its) its.length))) 8 (some (.base (.int .i64 2)))) 9 (some (.base (.int .i64 (p : Int))))) 10 (some (.base (.int .i64 (code : Int))))) 11 (some (.osl 1 0 2 1))) 12 (some (.base (.int .i64 (x.2.1 : Int))))) 67 (some (.isl (itsC its) its.length))) 68 (some (.base (.int .i64 (its.length : Int))))) 69 (some (.base (.int .i64 (x.1 : Int))))) (fun x => up (up (up (up mt 0 (some (fabC f))) 1 (some ([.osl 2 0 x.2.2.1.length 2, .osl 3 0 x.2.2.2.length 2]))) 2 (some (itsC x.2.2.1))) 3 (some (itsC x.2.2.2))) (fun x => (x.1 ≤ its.length ∧ x.2.1 = code / 2 ^ x.1) ∧ x.2.2.1 = selK its (dg code 2 0) x.1 ∧ x.2.2.2 = selK its (dg code 2 1) x.1) (0, code, (([] : List Itm)), (([] : List Itm))) (show (0 ≤ its.length ∧ code = code / 2 ^ 0) ∧ (([] : List Itm)) = selK its (dg code 2 0) 0 ∧ (([] : List Itm)) = selK its (dg code 2 1) 0 from ⟨⟨Nat.zero_le _, by rw [Nat.pow_zero, Nat.div_one]⟩, rfl, rfl⟩) ?_
            rintro ⟨i, c, L0, L1⟩ hIC2 ihC2
            try (dsimp only at hIC2)
            try dsimp only
            obtain ⟨⟨hi2, hcd⟩, h0, h1⟩ := hIC2
            have hl0 := selK_len its (dg code 2 0) i
            rw [← h0] at hl0
            have hl1 := selK_len its (dg code 2 1) i
            rw [← h1] at hl1
            have hcb : c ≤ 1024 := by have := Nat.div_le_self code (2 ^ i); omega
            by_cases hc2 : i < its.length
            · have g3 : decide ((i : Int) < (its.length : Int)) = true := decide_eq_true (by omega)
              have hnc : c / 2 = code / 2 ^ (i + 1) := by rw [hcd]; exact pow_div _ _ _
              repeat (refine W.seq ?_)
              refine W.region 129 130 (by decide) rfl rfl ?_
              refine RW.opd rfl rfl (LO.lss rfl rfl rfl) ?_
              refine RW.nil ?_
              repeat (refine W.seq ?_)
              refine W.cond_t rfl (by first | rfl | assumption) ?_
              refine W.skip ?_
              repeat (refine W.seq ?_)
              refine W.block ?_
              repeat (refine W.seq ?_)
              refine W.region 134 138 (by decide) rfl rfl ?_
              refine RW.opd rfl rfl (LO.indexAddr_isl rfl rfl rfl rfl rfl ty22 ty45 ?_) ?_; (· (first | omega | decide | assumption | fail | (simp; done) | (simp; omega)))
              refine RW.opd rfl rfl (LO.load_imm_agg rfl rfl ty45 rfl (its_tk hc2)) ?_
              refine RW.opd rfl rfl (LO.alloc rfl ty45) ?_
              refine RW.opn rfl rfl (LO.store rfl rfl rfl rfl rfl ty45 rfl (by decide) (Sp.lit rfl)) ?_
              refine RW.nil ?_
              rcases (show c % 2 = 0 ∨ c % 2 = 1 by omega) with hd | hd
              · have hr : (c : Int) % 2 = ((0 : Nat) : Int) := by omega
                have n0 := selK_yes hc2 h0 (χ := dg code 2 0) (by unfold dg; rw [← hcd, hd]; rfl)
                have n1 := selK_no hc2 h1 (χ := dg code 2 1) (by unfold dg; rw [← hcd, hd]; rfl)
                repeat (refine W.seq ?_)
                refine W.regionD 142 157 (by decide) rfl mixed rfl ?_
                refine RW.opd rfl rfl (LO.move rfl rfl) ?_
                refine RW.opd rfl rfl (LO.move rfl rfl) ?_
                refine RW.opd rfl rfl (LO.move rfl rfl) ?_
                refine RW.opd rfl rfl (LO.rem_in rfl rfl rfl ?_ ?_) ?_; (· (first | omega)); (· (first | omega | decide | assumption | fail | (simp; done) | (simp; omega)))
                refine RW.opd rfl rfl (LO.move rfl rfl) ?_
                refine RW.opd rfl rfl (LO.move rfl rfl) ?_
                refine RW.opd rfl rfl (LO.move rfl rfl) ?_
                refine RW.opd rfl rfl (LO.rem_in rfl rfl rfl ?_ ?_) ?_; (· (first | omega)); (· (first | omega | decide | assumption | fail | (simp; done) | (simp; omega)))
                refine RW.opd rfl rfl (LO.indexAddr rfl rfl rfl hr ty34 ty22 (by decide)) ?_
                refine RW.opd rfl rfl (LO.load rfl rfl rfl rfl ty22 rfl) ?_
                refine RW.opd rfl rfl (LO.load_agg rfl rfl rfl ty45 rfl (Tk.lit rfl)) ?_
                refine RW.opd rfl rfl (LO.buildSlice rfl ty22 ty45 (by decide) (by decide) (.cons rfl rfl rfl rfl (Sp.lit rfl) .nil)) ?_
                refine RW.opd rfl rfl (LO.append rfl rfl (SrcAV.own rfl rfl (Tk.lit rfl)) rfl (its_all rfl) ty22 ty22 ty45 (by decide) ?_ ?_ ?_) ?_; (· (first | omega | decide | assumption | fail | (simp; done) | (simp; omega))); (· (first | omega | decide | assumption | fail | (simp; done) | (simp; omega))); (· (first | decide | omega))
                refine RW.opd rfl rfl (LO.indexAddr rfl rfl rfl hr ty34 ty22 (by decide)) ?_
                refine RW.opn rfl rfl (LO.store rfl rfl rfl rfl rfl ty22 rfl (by decide) (Sp.lit rfl)) ?_
                refine RW.nil ⟨by kernel_rfl, ?_⟩
                repeat (refine W.seq ?_)
                refine W.region 161 165 (by decide) rfl rfl ?_
                refine RW.opd rfl rfl (LO.move rfl rfl) ?_
                refine RW.opd rfl rfl (LO.move rfl rfl) ?_
                refine RW.opd rfl rfl (LO.quo_in rfl rfl rfl ?_ ?_ ?_) ?_; (· (first | omega | decide | assumption | fail | (simp; done) | (simp; omega))); (· (first | omega | decide | assumption | fail | (simp; done) | (simp; omega))); (· (first | exact IntWalk.i64_in _ (by omega) | assumption))
                refine RW.opd rfl rfl (LO.assign rfl rfl) ?_
                refine RW.nil ?_
                rw [show (c : Int) / 2 = ((c / 2 : Nat) : Int) from by omega]
                repeat (refine W.seq ?_)
                refine W.region 169 171 (by decide) rfl rfl ?_
                refine RW.opd rfl rfl (LO.add_in rfl rfl rfl ?_) ?_; (· (first | exact IntWalk.i64_in _ (by omega) | assumption))
                refine RW.opd rfl rfl (LO.move rfl rfl) ?_
                refine RW.nil ?_
                rw [show itsC L0 ++ [AV.base (.bool its[i].sw), AV.base (.int .i64 its[i].ix)] = itsC (L0 ++ [its[i]]) from its_snoc _ _, show L0.length + 1 = (L0 ++ [its[i]]).length from by simp]
                refine WL.rename [(0, 0), (1, 1), (2, 154), (3, 3)] 4 (by decide) ?_ ?_ (ihC2 ((i + 1), (c / 2), (L0 ++ [its[i]]), L1) (show its.length - (i + 1) < its.length - i from by omega) (show ((i + 1) ≤ its.length ∧ (c / 2) = code / 2 ^ (i + 1)) ∧ (L0 ++ [its[i]]) = selK its (dg code 2 0) (i + 1) ∧ L1 = selK its (dg code 2 1) (i + 1) from ⟨⟨by omega, hnc⟩, n0, n1⟩))
                · (repeat' (first | exact all_mt | refine all_up ?_ ?_)) <;> first | exact .inl ⟨rfl, rfl⟩ | exact .inr ⟨rfl, fun _ h => by cases h⟩ | exact .inl ⟨rfl, by first | rfl | assumption | exact (its_pure _)⟩
                · (repeat' (first | exact all_mt | refine all_up ?_ ?_)) <;> first | exact ⟨rfl, _, rfl, .inr ⟨rfl, rfl⟩⟩ | exact ⟨rfl, _, rfl, .inl rfl⟩ | exact ⟨rfl, _, rfl, .inr ⟨rfl, by first | rfl | assumption | exact (its_pure _)⟩⟩
              · have hr : (c : Int) % 2 = ((1 : Nat) : Int) := by omega
                have n0 := selK_no hc2 h0 (χ := dg code 2 0) (by unfold dg; rw [← hcd, hd]; rfl)
                have n1 := selK_yes hc2 h1 (χ := dg code 2 1) (by unfold dg; rw [← hcd, hd]; rfl)
                repeat (refine W.seq ?_)
                refine W.regionD 142 157 (by decide) rfl mixed rfl ?_
                refine RW.opd rfl rfl (LO.move rfl rfl) ?_
                refine RW.opd rfl rfl (LO.move rfl rfl) ?_
                refine RW.opd rfl rfl (LO.move rfl rfl) ?_
                refine RW.opd rfl rfl (LO.rem_in rfl rfl rfl ?_ ?_) ?_; (· (first | omega)); (· (first | omega | decide | assumption | fail | (simp; done) | (simp; omega)))
                refine RW.opd rfl rfl (LO.move rfl rfl) ?_
                refine RW.opd rfl rfl (LO.move rfl rfl) ?_
                refine RW.opd rfl rfl (LO.move rfl rfl) ?_
                refine RW.opd rfl rfl (LO.rem_in rfl rfl rfl ?_ ?_) ?_; (· (first | omega)); (· (first | omega | decide | assumption | fail | (simp; done) | (simp; omega)))
                refine RW.opd rfl rfl (LO.indexAddr rfl rfl rfl hr ty34 ty22 (by decide)) ?_
                refine RW.opd rfl rfl (LO.load rfl rfl rfl rfl ty22 rfl) ?_
                refine RW.opd rfl rfl (LO.load_agg rfl rfl rfl ty45 rfl (Tk.lit rfl)) ?_
                refine RW.opd rfl rfl (LO.buildSlice rfl ty22 ty45 (by decide) (by decide) (.cons rfl rfl rfl rfl (Sp.lit rfl) .nil)) ?_
                refine RW.opd rfl rfl (LO.append rfl rfl (SrcAV.own rfl rfl (Tk.lit rfl)) rfl (its_all rfl) ty22 ty22 ty45 (by decide) ?_ ?_ ?_) ?_; (· (first | omega | decide | assumption | fail | (simp; done) | (simp; omega))); (· (first | omega | decide | assumption | fail | (simp; done) | (simp; omega))); (· (first | decide | omega))
                refine RW.opd rfl rfl (LO.indexAddr rfl rfl rfl hr ty34 ty22 (by decide)) ?_
                refine RW.opn rfl rfl (LO.store rfl rfl rfl rfl rfl ty22 rfl (by decide) (Sp.lit rfl)) ?_
                refine RW.nil ⟨by kernel_rfl, ?_⟩
                repeat (refine W.seq ?_)
                refine W.region 161 165 (by decide) rfl rfl ?_
                refine RW.opd rfl rfl (LO.move rfl rfl) ?_
                refine RW.opd rfl rfl (LO.move rfl rfl) ?_
                refine RW.opd rfl rfl (LO.quo_in rfl rfl rfl ?_ ?_ ?_) ?_; (· (first | omega | decide | assumption | fail | (simp; done) | (simp; omega))); (· (first | omega | decide | assumption | fail | (simp; done) | (simp; omega))); (· (first | exact IntWalk.i64_in _ (by omega) | assumption))
                refine RW.opd rfl rfl (LO.assign rfl rfl) ?_
                refine RW.nil ?_
                rw [show (c : Int) / 2 = ((c / 2 : Nat) : Int) from by omega]
                repeat (refine W.seq ?_)
                refine W.region 169 171 (by decide) rfl rfl ?_
                refine RW.opd rfl rfl (LO.add_in rfl rfl rfl ?_) ?_; (· (first | exact IntWalk.i64_in _ (by omega) | assumption))
                refine RW.opd rfl rfl (LO.move rfl rfl) ?_
                refine RW.nil ?_
                rw [show itsC L1 ++ [AV.base (.bool its[i].sw), AV.base (.int .i64 its[i].ix)] = itsC (L1 ++ [its[i]]) from its_snoc _ _, show L1.length + 1 = (L1 ++ [its[i]]).length from by simp]
                refine WL.rename [(0, 0), (1, 1), (2, 2), (3, 154)] 4 (by decide) ?_ ?_ (ihC2 ((i + 1), (c / 2), L0, (L1 ++ [its[i]])) (show its.length - (i + 1) < its.length - i from by omega) (show ((i + 1) ≤ its.length ∧ (c / 2) = code / 2 ^ (i + 1)) ∧ L0 = selK its (dg code 2 0) (i + 1) ∧ (L1 ++ [its[i]]) = selK its (dg code 2 1) (i + 1) from ⟨⟨by omega, hnc⟩, n0, n1⟩))
                · (repeat' (first | exact all_mt | refine all_up ?_ ?_)) <;> first | exact .inl ⟨rfl, rfl⟩ | exact .inr ⟨rfl, fun _ h => by cases h⟩ | exact .inl ⟨rfl, by first | rfl | assumption | exact (its_pure _)⟩
                · (repeat' (first | exact all_mt | refine all_up ?_ ?_)) <;> first | exact ⟨rfl, _, rfl, .inr ⟨rfl, rfl⟩⟩ | exact ⟨rfl, _, rfl, .inl rfl⟩ | exact ⟨rfl, _, rfl, .inr ⟨rfl, by first | rfl | assumption | exact (its_pure _)⟩⟩
            · have g3 : decide ((i : Int) < (its.length : Int)) = false := decide_eq_false (by omega)
              clear ihC2
              repeat (refine W.seq ?_)
              refine W.region 129 130 (by decide) rfl rfl ?_
              refine RW.opd rfl rfl (LO.lss rfl rfl rfl) ?_
              refine RW.nil ?_
              repeat (refine W.seq ?_)
              refine W.cond_f rfl (by first | rfl | assumption) ?_
              refine W.exit ?_
              have hie : i = its.length := by omega
              rw [hie] at h0
              rw [hie] at h1
              refine W.frzc (q := 1) (j := 0) (r := 2) rfl rfl (by decide) rfl (its_all rfl) (its_pure _) (Sp.lit rfl) ?_
              refine W.frzc (q := 1) (j := 1) (r := 3) rfl rfl (by decide) rfl (its_all rfl) (its_pure _) (Sp.lit rfl) ?_
              repeat (refine W.seq ?_)
              refine W.region 175 176 (by decide) rfl rfl ?_
              refine RW.opd rfl rfl (LO.assign rfl rfl) ?_
              refine RW.nil ?_
              repeat (refine W.seq ?_)
              refine W.region 180 183 (by decide) rfl rfl ?_
              refine RW.opd rfl rfl (LO.move rfl rfl) ?_
              refine RW.opd rfl rfl (LO.len rfl rfl ty34) ?_
              refine RW.opd rfl rfl (LO.move rfl rfl) ?_
              refine RW.nil ?_
              obtain ⟨M, hM⟩ : ∃ M, [L0, L1] = M := ⟨_, rfl⟩
              have hMl : M.length = 2 := by rw [← hM]; rfl
              have hMb : ∀ c ∈ M, c.length ≤ 5 := by rw [← hM]; intro c hcm; simp only [List.mem_cons, List.not_mem_nil, or_false] at hcm; rcases hcm with rfl | rfl <;> omega
              have hMk : M.all (okS f ls) = false := by
                cases hma : M.all (okS f ls) with
                | false => rfl
                | true =>
                  refine absurd (fun j hj => ?_) hlf
                  have hma := List.all_eq_true.1 hma
                  rw [← hM] at hma
                  rcases (show j = 0 ∨ j = 1 by omega) with rfl | rfl
                  · rw [← h0]; exact hma _ (by simp)
                  · rw [← h1]; exact hma _ (by simp)
              rw [show [AV.isl (itsC L0) L0.length, AV.isl (itsC L1) L1.length] = gsC M from by rw [← hM]; rfl]
              repeat (refine W.seq ?_)
              refine W.block ?_
              refine W.rename [(0, 0), (1, 1)] 2 (T' := up (up (up (up (up (up (up (up (up (up mt 3 (some (.own 0 0))) 4 (some (.isl (ldsC ls) ls.length))) 5 (some (.isl (itsC its) its.length))) 8 (some (.base (.int .i64 2)))) 9 (some (.base (.int .i64 (p : Int))))) 10 (some (.base (.int .i64 (code : Int))))) 15 (some (.base (.bool true)))) 91 (some (.osl 1 0 2 1))) 92 (some (.base (.int .i64 2)))) 93 (some (.base (.int .i64 (0 : Int))))) (H' := up (up mt 0 (some (fabC f))) 1 (some (gsC M))) (by decide) ?_ ?_ ?_
              · (repeat' (first | exact all_mt | refine all_up ?_ ?_)) <;> first | exact .inl ⟨rfl, rfl⟩ | exact .inr ⟨rfl, fun _ h => by cases h⟩ | exact .inl ⟨rfl, by first | rfl | assumption | exact (gsC_pure _)⟩
              · (repeat' (first | exact all_mt | refine all_up ?_ ?_)) <;> first | exact ⟨rfl, _, rfl, .inr ⟨rfl, rfl⟩⟩ | exact ⟨rfl, _, rfl, .inl rfl⟩ | exact ⟨rfl, _, rfl, .inr ⟨rfl, by first | rfl | assumption | exact (gsC_pure _)⟩⟩
              refine W.loop_ind (α := Nat × Bool) (fun x => 2 - x.1) 2 (fun x => up (up (up (up (up (up (up (up (up (up mt 3 (some (.own 0 0))) 4 (some (.isl (ldsC ls) ls.length))) 5 (some (.isl (itsC its) its.length))) 8 (some (.base (.int .i64 2)))) 9 (some (.base (.int .i64 (p : Int))))) 10 (some (.base (.int .i64 (code : Int))))) 15 (some (.base (.bool x.2)))) 91 (some (.osl 1 0 2 1))) 92 (some (.base (.int .i64 2)))) 93 (some (.base (.int .i64 (x.1 : Int))))) (fun x => up (up mt 0 (some (fabC f))) 1 (some (gsC M))) (fun x => x.1 ≤ 2 ∧ x.2 = (M.take x.1).all (okS f ls)) (0, true) (show 0 ≤ 2 ∧ true = (M.take 0).all (okS f ls) from ⟨Nat.zero_le _, rfl⟩) ?_
              rintro ⟨k, o⟩ hID2 ihD2
              try (dsimp only at hID2)
              try dsimp only
              obtain ⟨hk, ho⟩ := hID2
              by_cases hc3 : k < 2
              · have g4 : decide ((k : Int) < 2) = true := decide_eq_true (by omega)
                have hkm : k < M.length := by omega
                have hkb := hMb _ (List.getElem_mem hkm)
                have hsf := safeX_any f ls M[k] (by omega) (by omega) (by omega)
                repeat (refine W.seq ?_)
                refine W.region 187 188 (by decide) rfl rfl ?_
                refine RW.opd rfl rfl (LO.lss rfl rfl rfl) ?_
                refine RW.nil ?_
                repeat (refine W.seq ?_)
                refine W.cond_t rfl (by first | rfl | assumption) ?_
                refine W.skip ?_
                repeat (refine W.seq ?_)
                refine W.block ?_
                repeat (refine W.seq ?_)
                refine W.region 192 195 (by decide) rfl rfl ?_
                refine RW.opd rfl rfl (LO.indexAddr rfl rfl rfl rfl ty34 ty22 ?_) ?_; (· (first | omega | decide | assumption | fail | (simp; done) | (simp; omega)))
                refine RW.opd rfl rfl (LO.load rfl rfl rfl (gs_nat hkm) ty22 rfl) ?_
                refine RW.opd rfl rfl (LO.assign rfl rfl) ?_
                refine RW.nil ?_
                cases o
                case' false =>
                  have hnx := all_take_false (okS f ls) hkm ho.symm
                  repeat (refine W.seq ?_)
                  refine W.region 199 213 (by decide) rfl rfl ?_
                  refine RW.opd rfl rfl (LO.move rfl rfl) ?_
                  refine RW.opd rfl rfl (LO.move rfl rfl) ?_
                  refine RW.sd rfl rfl rfl ?_ rfl ?_; (· (first | rfl | assumption))
                  refine RW.sd rfl rfl rfl ?_ rfl ?_; (· (first | rfl | assumption))
                  refine RW.sd rfl rfl rfl ?_ rfl ?_; (· (first | rfl | assumption))
                  refine RW.sd rfl rfl rfl ?_ rfl ?_; (· (first | rfl | assumption))
                  refine RW.ud rfl rfl rfl rfl ?_
                  refine RW.ud rfl rfl rfl rfl ?_
                  refine RW.ud rfl rfl rfl rfl ?_
                  refine RW.ud rfl rfl rfl rfl ?_
                  refine RW.ud rfl rfl rfl rfl ?_
                  refine RW.sd rfl rfl rfl ?_ rfl ?_; (· (first | rfl | assumption))
                  refine RW.opd rfl rfl (LO.pick_f rfl rfl ?_ rfl) ?_; (· (first | rfl | assumption))
                  refine RW.opd rfl rfl (LO.assign rfl rfl) ?_
                  refine RW.nil ?_
                  repeat (refine W.seq ?_)
                  refine W.region 217 219 (by decide) rfl rfl ?_
                  refine RW.opd rfl rfl (LO.add_in rfl rfl rfl ?_) ?_; (· (first | exact IntWalk.i64_in _ (by omega) | assumption))
                  refine RW.opd rfl rfl (LO.move rfl rfl) ?_
                  refine RW.nil ?_
                  refine WL.rename [(0, 0), (1, 1)] 2 (by decide) ?_ ?_ (ihD2 ((k + 1), false) (show 2 - (k + 1) < 2 - k from by omega) (show (k + 1) ≤ 2 ∧ false = (M.take (k + 1)).all (okS f ls) from ⟨by omega, hnx.symm⟩))
                  · (repeat' (first | exact all_mt | refine all_up ?_ ?_)) <;> first | exact .inl ⟨rfl, rfl⟩ | exact .inr ⟨rfl, fun _ h => by cases h⟩ | exact .inl ⟨rfl, by first | rfl | assumption | exact (gsC_pure _)⟩
                  · (repeat' (first | exact all_mt | refine all_up ?_ ?_)) <;> first | exact ⟨rfl, _, rfl, .inr ⟨rfl, rfl⟩⟩ | exact ⟨rfl, _, rfl, .inl rfl⟩ | exact ⟨rfl, _, rfl, .inr ⟨rfl, by first | rfl | assumption | exact (gsC_pure _)⟩⟩
                case' true =>
                  have hnx := all_take_true (okS f ls) hkm ho.symm
                  by_cases hz : M[k].length = 0
                  · have k2 : ((M[k].length : Int) == 0) = true := by rw [hz]; rfl
                    have hok2 : okS f ls M[k] = true := by unfold okS; rw [hz]; rfl
                    repeat (refine W.seq ?_)
                    refine W.region 199 213 (by decide) rfl rfl ?_
                    refine RW.opd rfl rfl (LO.move rfl rfl) ?_
                    refine RW.opd rfl rfl (LO.move rfl rfl) ?_
                    refine RW.gd rfl rfl rfl ?_ rfl (LO.move rfl rfl) ?_; (· (first | rfl | assumption))
                    refine RW.gd rfl rfl rfl ?_ rfl (LO.len_isl rfl rfl rfl ty22) ?_; (· (first | rfl | assumption))
                    refine RW.gd rfl rfl rfl ?_ rfl (LO.eql rfl rfl rfl) ?_; (· (first | rfl | assumption))
                    refine RW.gd rfl rfl rfl ?_ rfl (LO.move rfl rfl) ?_; (· (first | rfl | assumption))
                    refine RW.sd rfl rfl rfl ?_ rfl ?_; (· (first | rfl | assumption))
                    refine RW.sd rfl rfl rfl ?_ rfl ?_; (· (first | rfl | assumption))
                    refine RW.sd rfl rfl rfl ?_ rfl ?_; (· (first | rfl | assumption))
                    refine RW.sd rfl rfl rfl ?_ rfl ?_; (· (first | rfl | assumption))
                    refine RW.sd rfl rfl rfl ?_ rfl ?_; (· (first | rfl | assumption))
                    refine RW.gd rfl rfl rfl ?_ rfl (LO.pick_t rfl rfl ?_ rfl) ?_; (· (first | rfl | assumption)); (· (first | rfl | assumption))
                    refine RW.opd rfl rfl (LO.pick_t rfl rfl ?_ rfl) ?_; (· (first | rfl | assumption))
                    refine RW.opd rfl rfl (LO.assign rfl rfl) ?_
                    refine RW.nil ?_
                    rw [k2]
                    repeat (refine W.seq ?_)
                    refine W.region 217 219 (by decide) rfl rfl ?_
                    refine RW.opd rfl rfl (LO.add_in rfl rfl rfl ?_) ?_; (· (first | exact IntWalk.i64_in _ (by omega) | assumption))
                    refine RW.opd rfl rfl (LO.move rfl rfl) ?_
                    refine RW.nil ?_
                    refine WL.rename [(0, 0), (1, 1)] 2 (by decide) ?_ ?_ (ihD2 ((k + 1), true) (show 2 - (k + 1) < 2 - k from by omega) (show (k + 1) ≤ 2 ∧ true = (M.take (k + 1)).all (okS f ls) from ⟨by omega, by rw [hnx, hok2]⟩))
                    · (repeat' (first | exact all_mt | refine all_up ?_ ?_)) <;> first | exact .inl ⟨rfl, rfl⟩ | exact .inr ⟨rfl, fun _ h => by cases h⟩ | exact .inl ⟨rfl, by first | rfl | assumption | exact (gsC_pure _)⟩
                    · (repeat' (first | exact all_mt | refine all_up ?_ ?_)) <;> first | exact ⟨rfl, _, rfl, .inr ⟨rfl, rfl⟩⟩ | exact ⟨rfl, _, rfl, .inl rfl⟩ | exact ⟨rfl, _, rfl, .inr ⟨rfl, by first | rfl | assumption | exact (gsC_pure _)⟩⟩
                  · have k2 : ((M[k].length : Int) == 0) = false := by simpa using fun h => hz (by simp [h])
                    have hok2 : okS f ls M[k] = (safeE f ls M[k] == 0) := by unfold okS; rw [show (M[k].length == 0) = false from by simpa using fun h => hz (by simp [h])]; rfl
                    repeat (refine W.seq ?_)
                    refine W.region 199 213 (by decide) rfl rfl ?_
                    refine RW.opd rfl rfl (LO.move rfl rfl) ?_
                    refine RW.opd rfl rfl (LO.move rfl rfl) ?_
                    refine RW.gd rfl rfl rfl ?_ rfl (LO.move rfl rfl) ?_; (· (first | rfl | assumption))
                    refine RW.gd rfl rfl rfl ?_ rfl (LO.len_isl rfl rfl rfl ty22) ?_; (· (first | rfl | assumption))
                    refine RW.gd rfl rfl rfl ?_ rfl (LO.eql rfl rfl rfl) ?_; (· (first | rfl | assumption))
                    refine RW.gd rfl rfl rfl ?_ rfl (LO.move rfl rfl) ?_; (· (first | rfl | assumption))
                    refine RW.gd rfl rfl rfl ?_ rfl (LO.load_agg rfl rfl rfl ty28 rfl (Tk.lit rfl)) ?_; (· (first | rfl | assumption))
                    refine RW.gd rfl rfl rfl ?_ rfl (LO.move rfl rfl) ?_; (· (first | rfl | assumption))
                    refine RW.gd rfl rfl rfl ?_ rfl (LO.move rfl rfl) ?_; (· (first | rfl | assumption))
                    refine RW.gd rfl rfl rfl ?_ rfl (LO.call0 (fr := []) rfl rfl (hsf) fok17 (.cons rfl (.pure rfl) (.cons rfl (.pure rfl) (.cons rfl (.pure rfl) .nil))) rfl) ?_; (· (first | rfl | assumption))
                    refine RW.gd rfl rfl rfl ?_ rfl (LO.eql rfl rfl rfl) ?_; (· (first | rfl | assumption))
                    refine RW.gd rfl rfl rfl ?_ rfl (LO.pick_f rfl rfl ?_ rfl) ?_; (· (first | rfl | assumption)); (· (first | rfl | assumption))
                    refine RW.opd rfl rfl (LO.pick_t rfl rfl ?_ rfl) ?_; (· (first | rfl | assumption))
                    refine RW.opd rfl rfl (LO.assign rfl rfl) ?_
                    refine RW.nil ?_
                    repeat (refine W.seq ?_)
                    refine W.region 217 219 (by decide) rfl rfl ?_
                    refine RW.opd rfl rfl (LO.add_in rfl rfl rfl ?_) ?_; (· (first | exact IntWalk.i64_in _ (by omega) | assumption))
                    refine RW.opd rfl rfl (LO.move rfl rfl) ?_
                    refine RW.nil ?_
                    refine WL.rename [(0, 0), (1, 1)] 2 (by decide) ?_ ?_ (ihD2 ((k + 1), ((safeE f ls M[k] == 0))) (show 2 - (k + 1) < 2 - k from by omega) (show (k + 1) ≤ 2 ∧ ((safeE f ls M[k] == 0)) = (M.take (k + 1)).all (okS f ls) from ⟨by omega, by rw [hnx, hok2]⟩))
                    · (repeat' (first | exact all_mt | refine all_up ?_ ?_)) <;> first | exact .inl ⟨rfl, rfl⟩ | exact .inr ⟨rfl, fun _ h => by cases h⟩ | exact .inl ⟨rfl, by first | rfl | assumption | exact (gsC_pure _)⟩
                    · (repeat' (first | exact all_mt | refine all_up ?_ ?_)) <;> first | exact ⟨rfl, _, rfl, .inr ⟨rfl, rfl⟩⟩ | exact ⟨rfl, _, rfl, .inl rfl⟩ | exact ⟨rfl, _, rfl, .inr ⟨rfl, by first | rfl | assumption | exact (gsC_pure _)⟩⟩
              · have g4 : decide ((k : Int) < 2) = false := decide_eq_false (by omega)
                have hof : o = false := by rw [ho, show k = M.length by omega, List.take_length, hMk]
                subst hof
                repeat (refine W.seq ?_)
                refine W.region 187 188 (by decide) rfl rfl ?_
                refine RW.opd rfl rfl (LO.lss rfl rfl rfl) ?_
                refine RW.nil ?_
                repeat (refine W.seq ?_)
                refine W.cond_f rfl (by first | rfl | assumption) ?_
                refine W.exit ?_
                repeat (refine W.seq ?_)
                refine W.region 223 224 (by decide) rfl rfl ?_
                refine RW.opd rfl rfl (LO.move rfl rfl) ?_
                refine RW.nil ?_
                repeat (refine W.seq ?_)
                refine W.cond_f rfl (by first | rfl | assumption) ?_
                refine W.skip ?_
                repeat (refine W.seq ?_)
                refine W.region 233 236 (by decide) rfl rfl ?_
                refine RW.opd rfl rfl (LO.move rfl rfl) ?_
                refine RW.opd rfl rfl (LO.add_in rfl rfl rfl ?_) ?_; (· (first | exact IntWalk.i64_in _ (by omega) | assumption))
                refine RW.opd rfl rfl (LO.assign rfl rfl) ?_
                refine RW.nil ?_
                refine WL.rename [(0, 0)] 1 (by decide) ?_ ?_ (ihB2 (code + 1) (show p - (code + 1) < p - code from by omega) (show (code + 1) ≤ p from by omega))
                · (repeat' (first | exact all_mt | refine all_up ?_ ?_)) <;> first | exact .inl ⟨rfl, rfl⟩ | exact .inr ⟨rfl, fun _ h => by cases h⟩ | exact .inl ⟨rfl, by first | rfl | assumption ⟩
                · (repeat' (first | exact all_mt | refine all_up ?_ ?_)) <;> first | exact ⟨rfl, _, rfl, .inr ⟨rfl, rfl⟩⟩ | exact ⟨rfl, _, rfl, .inl rfl⟩ | exact ⟨rfl, _, rfl, .inr ⟨rfl, by first | rfl | assumption ⟩⟩
          · have g2 : decide ((code : Int) < (p : Int)) = false := decide_eq_false (by omega)
            repeat (refine W.seq ?_)
            refine W.region 102 105 (by decide) rfl rfl ?_
            refine RW.opd rfl rfl (LO.move rfl rfl) ?_
            refine RW.opd rfl rfl (LO.move rfl rfl) ?_
            refine RW.opd rfl rfl (LO.lss rfl rfl rfl) ?_
            refine RW.nil ?_
            repeat (refine W.seq ?_)
            refine W.cond_f rfl (by first | rfl | assumption) ?_
            refine W.exit ?_
            repeat (refine W.seq ?_)
            refine W.region 240 242 (by decide) rfl rfl ?_
            refine RW.opd rfl rfl (LO.call0 (fr := []) rfl rfl (haw) fok8 .nil rfl) ?_
            refine RW.opd rfl rfl (LO.assign rfl rfl) ?_
            refine RW.nil ?_
            repeat (refine W.seq ?_)
            refine W.ret ⟨.inl rfl, _, mt, RVs.cons (RV.tmp rfl) (RVs.nil), all_mt, ?_⟩
            exact ⟨rfl, rfl⟩
      · have hlf := hlf 3 (by decide) (by decide) (by omega)
        have hLn : (L.length : Int) - 1 = 3 := by omega
        have hpw : 3 ^ its.length ≤ 1024 := Nat.le_trans (Nat.pow_le_pow_right (n := 3) (by decide) hni) (by decide)
        repeat (refine W.seq ?_)
        refine W.region 20 29 (by decide) rfl rfl ?_
        refine RW.opd rfl rfl (LO.load_agg rfl rfl rfl ty28 rfl (Tk.lit rfl)) ?_
        refine RW.opd rfl rfl (LO.move rfl rfl) ?_
        refine RW.opd rfl rfl (LO.move rfl rfl) ?_
        refine RW.opd rfl rfl (LO.call0 (fr := []) rfl rfl (hrd) fok11 (.cons rfl (.pure rfl) (.cons rfl (.pure rfl) (.cons rfl (.pure rfl) .nil))) rfl) ?_
        refine RW.opd rfl rfl (LO.move rfl rfl) ?_
        refine RW.opd rfl rfl (LO.extract rfl rfl rfl) ?_
        refine RW.opd rfl rfl (LO.extract rfl rfl rfl) ?_
        refine RW.opd rfl rfl (LO.assign rfl rfl) ?_
        refine RW.opd rfl rfl (LO.assign rfl rfl) ?_
        refine RW.nil ?_
        repeat (refine W.seq ?_)
        refine W.region 33 40 (by decide) rfl rfl ?_
        refine RW.opd rfl rfl (LO.move rfl rfl) ?_
        refine RW.opd rfl rfl (LO.neq rfl rfl rfl) ?_
        refine RW.opd rfl rfl (LO.move rfl rfl) ?_
        refine RW.gd rfl rfl rfl ?_ rfl (LO.move rfl rfl) ?_; (· (first | rfl | assumption))
        refine RW.gd rfl rfl rfl ?_ rfl (LO.len_isl rfl rfl rfl ty34) ?_; (· (first | rfl | assumption))
        refine RW.gd rfl rfl rfl ?_ rfl (LO.lss rfl rfl rfl) ?_; (· (first | rfl | assumption))
        refine RW.opd rfl rfl (LO.pick_f rfl rfl ?_ rfl) ?_; (· (first | rfl | assumption))
        refine RW.nil ?_
        repeat (refine W.seq ?_)
        refine W.cond_f rfl (by first | rfl | assumption) ?_
        refine W.skip ?_
        repeat (refine W.seq ?_)
        refine W.region 58 62 (by decide) rfl rfl ?_
        refine RW.opd rfl rfl (LO.move rfl rfl) ?_
        refine RW.opd rfl rfl (LO.len_isl rfl rfl rfl ty34) ?_
        refine RW.opd rfl rfl (LO.sub rfl rfl rfl) ?_
        refine RW.opd rfl rfl (LO.assign rfl rfl) ?_
        refine RW.nil ?_
        rw [hLn]
        repeat (refine W.seq ?_)
        refine W.region 66 67 (by decide) rfl rfl ?_
        refine RW.opd rfl rfl (LO.assign rfl rfl) ?_
        refine RW.nil ?_
        repeat (refine W.seq ?_)
        refine W.region 71 74 (by decide) rfl rfl ?_
        refine RW.opd rfl rfl (LO.move rfl rfl) ?_
        refine RW.opd rfl rfl (LO.len_isl rfl rfl rfl ty22) ?_
        refine RW.opd rfl rfl (LO.move rfl rfl) ?_
        refine RW.nil ?_
        repeat (refine W.seq ?_)
        refine W.block ?_
        refine W.rename [(0, 12)] 1 (T' := up (up (up (up (up (up (up mt 3 (some (.own 0 0))) 4 (some (.isl (ldsC ls) ls.length))) 5 (some (.isl (itsC its) its.length))) 8 (some (.base (.int .i64 3)))) 9 (some (.base (.int .i64 (1 : Int))))) 52 (some (.base (.int .i64 (its.length : Int))))) 53 (some (.base (.int .i64 (0 : Int))))) (H' := up mt 0 (some (fabC f))) (by decide) ?_ ?_ ?_
        · (repeat' (first | exact all_mt | refine all_up ?_ ?_)) <;> first | exact .inl ⟨rfl, rfl⟩ | exact .inr ⟨rfl, fun _ h => by cases h⟩ | exact .inl ⟨rfl, by first | rfl | assumption ⟩
        · (repeat' (first | exact all_mt | refine all_up ?_ ?_)) <;> first | exact ⟨rfl, _, rfl, .inr ⟨rfl, rfl⟩⟩ | exact ⟨rfl, _, rfl, .inl rfl⟩ | exact ⟨rfl, _, rfl, .inr ⟨rfl, by first | rfl | assumption ⟩⟩
        refine W.loop_ind (α := Nat × Nat) (fun x => its.length - x.1) 1 (fun x => up (up (up (up (up (up (up mt 3 (some (.own 0 0))) 4 (some (.isl (ldsC ls) ls.length))) 5 (some (.isl (itsC its) its.length))) 8 (some (.base (.int .i64 3)))) 9 (some (.base (.int .i64 (x.2 : Int))))) 52 (some (.base (.int .i64 (its.length : Int))))) 53 (some (.base (.int .i64 (x.1 : Int))))) (fun x => up mt 0 (some (fabC f))) (fun x => x.1 ≤ its.length ∧ x.2 = 3 ^ x.1) (0, 1) (show 0 ≤ its.length ∧ 1 = 3 ^ 0 from ⟨Nat.zero_le _, rfl⟩) ?_
        rintro ⟨i, p⟩ hIA3 ihA3
        try (dsimp only at hIA3)
        try dsimp only
        obtain ⟨hi, hp⟩ := hIA3
        have hp1 : p ≤ 1024 := by rw [hp]; exact Nat.le_trans (Nat.pow_le_pow_right (n := 3) (by decide) (show i ≤ 5 by omega)) (by decide)
        by_cases hc : i < its.length
        · have g1 : decide ((i : Int) < (its.length : Int)) = true := decide_eq_true (by omega)
          repeat (refine W.seq ?_)
          refine W.region 78 79 (by decide) rfl rfl ?_
          refine RW.opd rfl rfl (LO.lss rfl rfl rfl) ?_
          refine RW.nil ?_
          repeat (refine W.seq ?_)
          refine W.cond_t rfl (by first | rfl | assumption) ?_
          refine W.skip ?_
          repeat (refine W.seq ?_)
          refine W.block ?_
          repeat (refine W.seq ?_)
          refine W.region 83 87 (by decide) rfl rfl ?_
          refine RW.opd rfl rfl (LO.move rfl rfl) ?_
          refine RW.opd rfl rfl (LO.move rfl rfl) ?_
          refine RW.opd rfl rfl (LO.mul_in rfl rfl rfl ?_) ?_; (· (first | exact IntWalk.i64_in _ (by omega) | assumption))
          refine RW.opd rfl rfl (LO.assign rfl rfl) ?_
          refine RW.nil ?_
          repeat (refine W.seq ?_)
          refine W.region 91 93 (by decide) rfl rfl ?_
          refine RW.opd rfl rfl (LO.add_in rfl rfl rfl ?_) ?_; (· (first | exact IntWalk.i64_in _ (by omega) | assumption))
          refine RW.opd rfl rfl (LO.move rfl rfl) ?_
          refine RW.nil ?_
          rw [show (p : Int) * 3 = ((p * 3 : Nat) : Int) from by omega]
          refine WL.rename [(0, 0)] 1 (by decide) ?_ ?_ (ihA3 ((i + 1), (p * 3)) (show its.length - (i + 1) < its.length - i from by omega) (show (i + 1) ≤ its.length ∧ (p * 3) = 3 ^ (i + 1) from ⟨by omega, by rw [hp, Nat.pow_succ]⟩))
          · (repeat' (first | exact all_mt | refine all_up ?_ ?_)) <;> first | exact .inl ⟨rfl, rfl⟩ | exact .inr ⟨rfl, fun _ h => by cases h⟩ | exact .inl ⟨rfl, by first | rfl | assumption ⟩
          · (repeat' (first | exact all_mt | refine all_up ?_ ?_)) <;> first | exact ⟨rfl, _, rfl, .inr ⟨rfl, rfl⟩⟩ | exact ⟨rfl, _, rfl, .inl rfl⟩ | exact ⟨rfl, _, rfl, .inr ⟨rfl, by first | rfl | assumption ⟩⟩
        · have g1 : decide ((i : Int) < (its.length : Int)) = false := decide_eq_false (by omega)
          clear ihA3
          repeat (refine W.seq ?_)
          refine W.region 78 79 (by decide) rfl rfl ?_
          refine RW.opd rfl rfl (LO.lss rfl rfl rfl) ?_
          refine RW.nil ?_
          repeat (refine W.seq ?_)
          refine W.cond_f rfl (by first | rfl | assumption) ?_
          refine W.exit ?_
          repeat (refine W.seq ?_)
          refine W.region 97 98 (by decide) rfl rfl ?_
          refine RW.opd rfl rfl (LO.assign rfl rfl) ?_
          refine RW.nil ?_
          repeat (refine W.seq ?_)
          refine W.block ?_
          refine W.rename [(0, 0)] 1 (T' := up (up (up (up (up (up mt 3 (some (.own 0 0))) 4 (some (.isl (ldsC ls) ls.length))) 5 (some (.isl (itsC its) its.length))) 8 (some (.base (.int .i64 3)))) 9 (some (.base (.int .i64 (p : Int))))) 10 (some (.base (.int .i64 (0 : Int))))) (H' := up mt 0 (some (fabC f))) (by decide) ?_ ?_ ?_
          · (repeat' (first | exact all_mt | refine all_up ?_ ?_)) <;> first | exact .inl ⟨rfl, rfl⟩ | exact .inr ⟨rfl, fun _ h => by cases h⟩ | exact .inl ⟨rfl, by first | rfl | assumption ⟩
          · (repeat' (first | exact all_mt | refine all_up ?_ ?_)) <;> first | exact ⟨rfl, _, rfl, .inr ⟨rfl, rfl⟩⟩ | exact ⟨rfl, _, rfl, .inl rfl⟩ | exact ⟨rfl, _, rfl, .inr ⟨rfl, by first | rfl | assumption ⟩⟩
          refine W.loop_ind (α := Nat) (fun x => p - x) 1 (fun x => up (up (up (up (up (up mt 3 (some (.own 0 0))) 4 (some (.isl (ldsC ls) ls.length))) 5 (some (.isl (itsC its) its.length))) 8 (some (.base (.int .i64 3)))) 9 (some (.base (.int .i64 (p : Int))))) 10 (some (.base (.int .i64 (x : Int))))) (fun x => up mt 0 (some (fabC f))) (fun x => x ≤ p) 0 (show 0 ≤ p from Nat.zero_le _) ?_
          rintro code hIB3 ihB3
          try (dsimp only at hIB3)
          try dsimp only
          have hco : code ≤ p := hIB3
          by_cases hcp : code < p
          · have g2 : decide ((code : Int) < (p : Int)) = true := decide_eq_true (by omega)
            have hlf := hlf code
            repeat (refine W.seq ?_)
            refine W.region 102 105 (by decide) rfl rfl ?_
            refine RW.opd rfl rfl (LO.move rfl rfl) ?_
            refine RW.opd rfl rfl (LO.move rfl rfl) ?_
            refine RW.opd rfl rfl (LO.lss rfl rfl rfl) ?_
            refine RW.nil ?_
            repeat (refine W.seq ?_)
            refine W.cond_t rfl (by first | rfl | assumption) ?_
            refine W.skip ?_
            repeat (refine W.seq ?_)
            refine W.block ?_
            repeat (refine W.seq ?_)
            refine W.region 109 112 (by decide) rfl rfl ?_
            refine RW.opd rfl rfl (LO.move rfl rfl) ?_
            refine RW.opd rfl rfl (LO.makeSlice rfl rfl rfl rfl rfl ty34 ty22 (by decide) ?_ ?_ ?_) ?_; (· (first | omega | decide | assumption | fail | (simp; done) | (simp; omega))); (· (first | omega | decide | assumption | fail | (simp; done) | (simp; omega))); (· (first | omega | decide | assumption | fail | (simp; done) | (simp; omega)))
            refine RW.opd rfl rfl (LO.assign rfl rfl) ?_
            refine RW.nil ?_
            rw [show zerosL 3 [AV.nils] = [AV.nils, AV.nils, AV.nils] from rfl]
            refine W.namec (112 + 0) (112 + 1) (q := 110) (j := 0) (sz := 2) rfl rfl (Sp.lit rfl) (by decide) (by decide) (by decide) ?_
            refine W.namec (112 + 1) (112 + 2) (q := 110) (j := 1) (sz := 2) rfl rfl (Sp.lit rfl) (by decide) (by decide) (by decide) ?_
            refine W.namec (112 + 2) (112 + 3) (q := 110) (j := 2) (sz := 2) rfl rfl (Sp.lit rfl) (by decide) (by decide) (by decide) ?_
            repeat (refine W.seq ?_)
            refine W.region 116 118 (by decide) rfl rfl ?_
            refine RW.opd rfl rfl (LO.move rfl rfl) ?_
            refine RW.opd rfl rfl (LO.assign rfl rfl) ?_
            refine RW.nil ?_
            repeat (refine W.seq ?_)
            refine W.region 122 125 (by decide) rfl rfl ?_
            refine RW.opd rfl rfl (LO.move rfl rfl) ?_
            refine RW.opd rfl rfl (LO.len_isl rfl rfl rfl ty22) ?_
            refine RW.opd rfl rfl (LO.move rfl rfl) ?_
            refine RW.nil ?_
            repeat (refine W.seq ?_)
            refine W.block ?_
            refine W.rename [(0, 0), (1, 110), (2, (112 + 0)), (3, (112 + 1)), (4, (112 + 2))] 5 (T' := up (up (up (up (up (up (up (up (up (up (up mt 3 (some (.own 0 0))) 4 (some (.isl (ldsC ls) ls.length))) 5 (some (.isl (itsC its) its.length))) 8 (some (.base (.int .i64 3)))) 9 (some (.base (.int .i64 (p : Int))))) 10 (some (.base (.int .i64 (code : Int))))) 11 (some (.osl 1 0 3 1))) 12 (some (.base (.int .i64 (code : Int))))) 67 (some (.isl (itsC its) its.length))) 68 (some (.base (.int .i64 (its.length : Int))))) 69 (some (.base (.int .i64 (0 : Int))))) (H' := up (up (up (up (up mt 0 (some (fabC f))) 1 (some ([.osl 2 0 (([] : List Itm)).length 2, .osl 3 0 (([] : List Itm)).length 2, .osl 4 0 (([] : List Itm)).length 2]))) 2 (some (itsC (([] : List Itm))))) 3 (some (itsC (([] : List Itm))))) 4 (some (itsC (([] : List Itm))))) (by decide) ?_ ?_ ?_
            · (repeat' (first | exact all_mt | refine all_up ?_ ?_)) <;> first | exact .inl ⟨rfl, rfl⟩ | exact .inr ⟨rfl, fun _ h => by cases h⟩ | exact .inl ⟨rfl, by first | rfl | assumption | exact (its_pure _)⟩
            · (repeat' (first | exact all_mt | refine all_up ?_ ?_)) <;> first | exact ⟨rfl, _, rfl, .inr ⟨rfl, rfl⟩⟩ | exact ⟨rfl, _, rfl, .inl rfl⟩ | exact ⟨rfl, _, rfl, .inr ⟨rfl, by first | rfl | assumption | exact (its_pure _)⟩⟩
            refine W.loop_ind (α := Nat × Nat × List Itm × List Itm × List Itm) (fun x => its.length - x.1) 5 (fun x => up (up (up (up (up (up (up (up (up (up (up mt 3 (some (.own 0 0))) 4 (some (.isl (ldsC ls) ls.length))) 5 (some (.isl (itsC its) its.length))) 8 (some (.base (.int .i64 3)))) 9 (some (.base (.int .i64 (p : Int))))) 10 (some (.base (.int .i64 (code : Int))))) 11 (some (.osl 1 0 3 1))) 12 (some (.base (.int .i64 (x.2.1 : Int))))) 67 (some (.isl (itsC its) its.length))) 68 (some (.base (.int .i64 (its.length : Int))))) 69 (some (.base (.int .i64 (x.1 : Int))))) (fun x => up (up (up (up (up mt 0 (some (fabC f))) 1 (some ([.osl 2 0 x.2.2.1.length 2, .osl 3 0 x.2.2.2.1.length 2, .osl 4 0 x.2.2.2.2.length 2]))) 2 (some (itsC x.2.2.1))) 3 (some (itsC x.2.2.2.1))) 4 (some (itsC x.2.2.2.2))) (fun x => (x.1 ≤ its.length ∧ x.2.1 = code / 3 ^ x.1) ∧ x.2.2.1 = selK its (dg code 3 0) x.1 ∧ x.2.2.2.1 = selK its (dg code 3 1) x.1 ∧ x.2.2.2.2 = selK its (dg code 3 2) x.1) (0, code, (([] : List Itm)), (([] : List Itm)), (([] : List Itm))) (show (0 ≤ its.length ∧ code = code / 3 ^ 0) ∧ (([] : List Itm)) = selK its (dg code 3 0) 0 ∧ (([] : List Itm)) = selK its (dg code 3 1) 0 ∧ (([] : List Itm)) = selK its (dg code 3 2) 0 from ⟨⟨Nat.zero_le _, by rw [Nat.pow_zero, Nat.div_one]⟩, rfl, rfl, rfl⟩) ?_
            rintro ⟨i, c, L0, L1, L2⟩ hIC3 ihC3
            try (dsimp only at hIC3)
            try dsimp only
            obtain ⟨⟨hi2, hcd⟩, h0, h1, h2⟩ := hIC3
            have hl0 := selK_len its (dg code 3 0) i
            rw [← h0] at hl0
            have hl1 := selK_len its (dg code 3 1) i
            rw [← h1] at hl1
            have hl2 := selK_len its (dg code 3 2) i
            rw [← h2] at hl2
            have hcb : c ≤ 1024 := by have := Nat.div_le_self code (3 ^ i); omega
            by_cases hc2 : i < its.length
            · have g3 : decide ((i : Int) < (its.length : Int)) = true := decide_eq_true (by omega)
              have hnc : c / 3 = code / 3 ^ (i + 1) := by rw [hcd]; exact pow_div _ _ _
              repeat (refine W.seq ?_)
              refine W.region 129 130 (by decide) rfl rfl ?_
              refine RW.opd rfl rfl (LO.lss rfl rfl rfl) ?_
              refine RW.nil ?_
              repeat (refine W.seq ?_)
              refine W.cond_t rfl (by first | rfl | assumption) ?_
              refine W.skip ?_
              repeat (refine W.seq ?_)
              refine W.block ?_
              repeat (refine W.seq ?_)
              refine W.region 134 138 (by decide) rfl rfl ?_
              refine RW.opd rfl rfl (LO.indexAddr_isl rfl rfl rfl rfl rfl ty22 ty45 ?_) ?_; (· (first | omega | decide | assumption | fail | (simp; done) | (simp; omega)))
              refine RW.opd rfl rfl (LO.load_imm_agg rfl rfl ty45 rfl (its_tk hc2)) ?_
              refine RW.opd rfl rfl (LO.alloc rfl ty45) ?_
              refine RW.opn rfl rfl (LO.store rfl rfl rfl rfl rfl ty45 rfl (by decide) (Sp.lit rfl)) ?_
              refine RW.nil ?_
              rcases (show c % 3 = 0 ∨ c % 3 = 1 ∨ c % 3 = 2 by omega) with hd | hd | hd
              · have hr : (c : Int) % 3 = ((0 : Nat) : Int) := by omega
                have n0 := selK_yes hc2 h0 (χ := dg code 3 0) (by unfold dg; rw [← hcd, hd]; rfl)
                have n1 := selK_no hc2 h1 (χ := dg code 3 1) (by unfold dg; rw [← hcd, hd]; rfl)
                have n2 := selK_no hc2 h2 (χ := dg code 3 2) (by unfold dg; rw [← hcd, hd]; rfl)
                repeat (refine W.seq ?_)
                refine W.regionD 142 157 (by decide) rfl mixed rfl ?_
                refine RW.opd rfl rfl (LO.move rfl rfl) ?_
                refine RW.opd rfl rfl (LO.move rfl rfl) ?_
                refine RW.opd rfl rfl (LO.move rfl rfl) ?_
                refine RW.opd rfl rfl (LO.rem_in rfl rfl rfl ?_ ?_) ?_; (· (first | omega)); (· (first | omega | decide | assumption | fail | (simp; done) | (simp; omega)))
                refine RW.opd rfl rfl (LO.move rfl rfl) ?_
                refine RW.opd rfl rfl (LO.move rfl rfl) ?_
                refine RW.opd rfl rfl (LO.move rfl rfl) ?_
                refine RW.opd rfl rfl (LO.rem_in rfl rfl rfl ?_ ?_) ?_; (· (first | omega)); (· (first | omega | decide | assumption | fail | (simp; done) | (simp; omega)))
                refine RW.opd rfl rfl (LO.indexAddr rfl rfl rfl hr ty34 ty22 (by decide)) ?_
                refine RW.opd rfl rfl (LO.load rfl rfl rfl rfl ty22 rfl) ?_
                refine RW.opd rfl rfl (LO.load_agg rfl rfl rfl ty45 rfl (Tk.lit rfl)) ?_
                refine RW.opd rfl rfl (LO.buildSlice rfl ty22 ty45 (by decide) (by decide) (.cons rfl rfl rfl rfl (Sp.lit rfl) .nil)) ?_
                refine RW.opd rfl rfl (LO.append rfl rfl (SrcAV.own rfl rfl (Tk.lit rfl)) rfl (its_all rfl) ty22 ty22 ty45 (by decide) ?_ ?_ ?_) ?_; (· (first | omega | decide | assumption | fail | (simp; done) | (simp; omega))); (· (first | omega | decide | assumption | fail | (simp; done) | (simp; omega))); (· (first | decide | omega))
                refine RW.opd rfl rfl (LO.indexAddr rfl rfl rfl hr ty34 ty22 (by decide)) ?_
                refine RW.opn rfl rfl (LO.store rfl rfl rfl rfl rfl ty22 rfl (by decide) (Sp.lit rfl)) ?_
                refine RW.nil ⟨by kernel_rfl, ?_⟩
                repeat (refine W.seq ?_)
                refine W.region 161 165 (by decide) rfl rfl ?_
                refine RW.opd rfl rfl (LO.move rfl rfl) ?_
                refine RW.opd rfl rfl (LO.move rfl rfl) ?_
                refine RW.opd rfl rfl (LO.quo_in rfl rfl rfl ?_ ?_ ?_) ?_; (· (first | omega | decide | assumption | fail | (simp; done) | (simp; omega))); (· (first | omega | decide | assumption | fail | (simp; done) | (simp; omega))); (· (first | exact IntWalk.i64_in _ (by omega) | assumption))
                refine RW.opd rfl rfl (LO.assign rfl rfl) ?_
                refine RW.nil ?_
                rw [show (c : Int) / 3 = ((c / 3 : Nat) : Int) from by omega]
                repeat (refine W.seq ?_)
                refine W.region 169 171 (by decide) rfl rfl ?_
                refine RW.opd rfl rfl (LO.add_in rfl rfl rfl ?_) ?_; (· (first | exact IntWalk.i64_in _ (by omega) | assumption))
                refine RW.opd rfl rfl (LO.move rfl rfl) ?_
                refine RW.nil ?_
                rw [show itsC L0 ++ [AV.base (.bool its[i].sw), AV.base (.int .i64 its[i].ix)] = itsC (L0 ++ [its[i]]) from its_snoc _ _, show L0.length + 1 = (L0 ++ [its[i]]).length from by simp]
                refine WL.rename [(0, 0), (1, 1), (2, 154), (3, 3), (4, 4)] 5 (by decide) ?_ ?_ (ihC3 ((i + 1), (c / 3), (L0 ++ [its[i]]), L1, L2) (show its.length - (i + 1) < its.length - i from by omega) (show ((i + 1) ≤ its.length ∧ (c / 3) = code / 3 ^ (i + 1)) ∧ (L0 ++ [its[i]]) = selK its (dg code 3 0) (i + 1) ∧ L1 = selK its (dg code 3 1) (i + 1) ∧ L2 = selK its (dg code 3 2) (i + 1) from ⟨⟨by omega, hnc⟩, n0, n1, n2⟩))
                · (repeat' (first | exact all_mt | refine all_up ?_ ?_)) <;> first | exact .inl ⟨rfl, rfl⟩ | exact .inr ⟨rfl, fun _ h => by cases h⟩ | exact .inl ⟨rfl, by first | rfl | assumption | exact (its_pure _)⟩
                · (repeat' (first | exact all_mt | refine all_up ?_ ?_)) <;> first | exact ⟨rfl, _, rfl, .inr ⟨rfl, rfl⟩⟩ | exact ⟨rfl, _, rfl, .inl rfl⟩ | exact ⟨rfl, _, rfl, .inr ⟨rfl, by first | rfl | assumption | exact (its_pure _)⟩⟩
              · have hr : (c : Int) % 3 = ((1 : Nat) : Int) := by omega
                have n0 := selK_no hc2 h0 (χ := dg code 3 0) (by unfold dg; rw [← hcd, hd]; rfl)
                have n1 := selK_yes hc2 h1 (χ := dg code 3 1) (by unfold dg; rw [← hcd, hd]; rfl)
                have n2 := selK_no hc2 h2 (χ := dg code 3 2) (by unfold dg; rw [← hcd, hd]; rfl)
                repeat (refine W.seq ?_)
                refine W.regionD 142 157 (by decide) rfl mixed rfl ?_
                refine RW.opd rfl rfl (LO.move rfl rfl) ?_
                refine RW.opd rfl rfl (LO.move rfl rfl) ?_
                refine RW.opd rfl rfl (LO.move rfl rfl) ?_
                refine RW.opd rfl rfl (LO.rem_in rfl rfl rfl ?_ ?_) ?_; (· (first | omega)); (· (first | omega | decide | assumption | fail | (simp; done) | (simp; omega)))
                refine RW.opd rfl rfl (LO.move rfl rfl) ?_
                refine RW.opd rfl rfl (LO.move rfl rfl) ?_
                refine RW.opd rfl rfl (LO.move rfl rfl) ?_
                refine RW.opd rfl rfl (LO.rem_in rfl rfl rfl ?_ ?_) ?_; (· (first | omega)); (· (first | omega | decide | assumption | fail | (simp; done) | (simp; omega)))
                refine RW.opd rfl rfl (LO.indexAddr rfl rfl rfl hr ty34 ty22 (by decide)) ?_
                refine RW.opd rfl rfl (LO.load rfl rfl rfl rfl ty22 rfl) ?_
                refine RW.opd rfl rfl (LO.load_agg rfl rfl rfl ty45 rfl (Tk.lit rfl)) ?_
                refine RW.opd rfl rfl (LO.buildSlice rfl ty22 ty45 (by decide) (by decide) (.cons rfl rfl rfl rfl (Sp.lit rfl) .nil)) ?_
                refine RW.opd rfl rfl (LO.append rfl rfl (SrcAV.own rfl rfl (Tk.lit rfl)) rfl (its_all rfl) ty22 ty22 ty45 (by decide) ?_ ?_ ?_) ?_; (· (first | omega | decide | assumption | fail | (simp; done) | (simp; omega))); (· (first | omega | decide | assumption | fail | (simp; done) | (simp; omega))); (· (first | decide | omega))
                refine RW.opd rfl rfl (LO.indexAddr rfl rfl rfl hr ty34 ty22 (by decide)) ?_
                refine RW.opn rfl rfl (LO.store rfl rfl rfl rfl rfl ty22 rfl (by decide) (Sp.lit rfl)) ?_
                refine RW.nil ⟨by kernel_rfl, ?_⟩
                repeat (refine W.seq ?_)
                refine W.region 161 165 (by decide) rfl rfl ?_
                refine RW.opd rfl rfl (LO.move rfl rfl) ?_
                refine RW.opd rfl rfl (LO.move rfl rfl) ?_
                refine RW.opd rfl rfl (LO.quo_in rfl rfl rfl ?_ ?_ ?_) ?_; (· (first | omega | decide | assumption | fail | (simp; done) | (simp; omega))); (· (first | omega | decide | assumption | fail | (simp; done) | (simp; omega))); (· (first | exact IntWalk.i64_in _ (by omega) | assumption))
                refine RW.opd rfl rfl (LO.assign rfl rfl) ?_
                refine RW.nil ?_
                rw [show (c : Int) / 3 = ((c / 3 : Nat) : Int) from by omega]
                repeat (refine W.seq ?_)
                refine W.region 169 171 (by decide) rfl rfl ?_
                refine RW.opd rfl rfl (LO.add_in rfl rfl rfl ?_) ?_; (· (first | exact IntWalk.i64_in _ (by omega) | assumption))
                refine RW.opd rfl rfl (LO.move rfl rfl) ?_
                refine RW.nil ?_
                rw [show itsC L1 ++ [AV.base (.bool its[i].sw), AV.base (.int .i64 its[i].ix)] = itsC (L1 ++ [its[i]]) from its_snoc _ _, show L1.length + 1 = (L1 ++ [its[i]]).length from by simp]
                refine WL.rename [(0, 0), (1, 1), (2, 2), (3, 154), (4, 4)] 5 (by decide) ?_ ?_ (ihC3 ((i + 1), (c / 3), L0, (L1 ++ [its[i]]), L2) (show its.length - (i + 1) < its.length - i from by omega) (show ((i + 1) ≤ its.length ∧ (c / 3) = code / 3 ^ (i + 1)) ∧ L0 = selK its (dg code 3 0) (i + 1) ∧ (L1 ++ [its[i]]) = selK its (dg code 3 1) (i + 1) ∧ L2 = selK its (dg code 3 2) (i + 1) from ⟨⟨by omega, hnc⟩, n0, n1, n2⟩))
                · (repeat' (first | exact all_mt | refine all_up ?_ ?_)) <;> first | exact .inl ⟨rfl, rfl⟩ | exact .inr ⟨rfl, fun _ h => by cases h⟩ | exact .inl ⟨rfl, by first | rfl | assumption | exact (its_pure _)⟩
                · (repeat' (first | exact all_mt | refine all_up ?_ ?_)) <;> first | exact ⟨rfl, _, rfl, .inr ⟨rfl, rfl⟩⟩ | exact ⟨rfl, _, rfl, .inl rfl⟩ | exact ⟨rfl, _, rfl, .inr ⟨rfl, by first | rfl | assumption | exact (its_pure _)⟩⟩
              · have hr : (c : Int) % 3 = ((2 : Nat) : Int) := by omega
                have n0 := selK_no hc2 h0 (χ := dg code 3 0) (by unfold dg; rw [← hcd, hd]; rfl)
                have n1 := selK_no hc2 h1 (χ := dg code 3 1) (by unfold dg; rw [← hcd, hd]; rfl)
                have n2 := selK_yes hc2 h2 (χ := dg code 3 2) (by unfold dg; rw [← hcd, hd]; rfl)
                repeat (refine W.seq ?_)
                refine W.regionD 142 157 (by decide) rfl mixed rfl ?_
                refine RW.opd rfl rfl (LO.move rfl rfl) ?_
                refine RW.opd rfl rfl (LO.move rfl rfl) ?_
                refine RW.opd rfl rfl (LO.move rfl rfl) ?_
                refine RW.opd rfl rfl (LO.rem_in rfl rfl rfl ?_ ?_) ?_; (· (first | omega)); (· (first | omega | decide | assumption | fail | (simp; done) | (simp; omega)))
                refine RW.opd rfl rfl (LO.move rfl rfl) ?_
                refine RW.opd rfl rfl (LO.move rfl rfl) ?_
                refine RW.opd rfl rfl (LO.move rfl rfl) ?_
                refine RW.opd rfl rfl (LO.rem_in rfl rfl rfl ?_ ?_) ?_; (· (first | omega)); (· (first | omega | decide | assumption | fail | (simp; done) | (simp; omega)))
                refine RW.opd rfl rfl (LO.indexAddr rfl rfl rfl hr ty34 ty22 (by decide)) ?_
                refine RW.opd rfl rfl (LO.load rfl rfl rfl rfl ty22 rfl) ?_
                refine RW.opd rfl rfl (LO.load_agg rfl rfl rfl ty45 rfl (Tk.lit rfl)) ?_
                refine RW.opd rfl rfl (LO.buildSlice rfl ty22 ty45 (by decide) (by decide) (.cons rfl rfl rfl rfl (Sp.lit rfl) .nil)) ?_
                refine RW.opd rfl rfl (LO.append rfl rfl (SrcAV.own rfl rfl (Tk.lit rfl)) rfl (its_all rfl) ty22 ty22 ty45 (by decide) ?_ ?_ ?_) ?_; (· (first | omega | decide | assumption | fail | (simp; done) | (simp; omega))); (· (first | omega | decide | assumption | fail | (simp; done) | (simp; omega))); (· (first | decide | omega))
                refine RW.opd rfl rfl (LO.indexAddr rfl rfl rfl hr ty34 ty22 (by decide)) ?_
                refine RW.opn rfl rfl (LO.store rfl rfl rfl rfl rfl ty22 rfl (by decide) (Sp.lit rfl)) ?_
                refine RW.nil ⟨by kernel_rfl, ?_⟩
                repeat (refine W.seq ?_)
                refine W.region 161 165 (by decide) rfl rfl ?_
                refine RW.opd rfl rfl (LO.move rfl rfl) ?_
                refine RW.opd rfl rfl (LO.move rfl rfl) ?_
                refine RW.opd rfl rfl (LO.quo_in rfl rfl rfl ?_ ?_ ?_) ?_; (· (first | omega | decide | assumption | fail | (simp; done) | (simp; omega))); (· (first | omega | decide | assumption | fail | (simp; done) | (simp; omega))); (· (first | exact IntWalk.i64_in _ (by omega) | assumption))
                refine RW.opd rfl rfl (LO.assign rfl rfl) ?_
                refine RW.nil ?_
                rw [show (c : Int) / 3 = ((c / 3 : Nat) : Int) from by omega]
                repeat (refine W.seq ?_)
                refine W.region 169 171 (by decide) rfl rfl ?_
                refine RW.opd rfl rfl (LO.add_in rfl rfl rfl ?_) ?_; (· (first | exact IntWalk.i64_in _ (by omega) | assumption))
                refine RW.opd rfl rfl (LO.move rfl rfl) ?_
                refine RW.nil ?_
                rw [show itsC L2 ++ [AV.base (.bool its[i].sw), AV.base (.int .i64 its[i].ix)] = itsC (L2 ++ [its[i]]) from its_snoc _ _, show L2.length + 1 = (L2 ++ [its[i]]).length from by simp]
                refine WL.rename [(0, 0), (1, 1), (2, 2), (3, 3), (4, 154)] 5 (by decide) ?_ ?_ (ihC3 ((i + 1), (c / 3), L0, L1, (L2 ++ [its[i]])) (show its.length - (i + 1) < its.length - i from by omega) (show ((i + 1) ≤ its.length ∧ (c / 3) = code / 3 ^ (i + 1)) ∧ L0 = selK its (dg code 3 0) (i + 1) ∧ L1 = selK its (dg code 3 1) (i + 1) ∧ (L2 ++ [its[i]]) = selK its (dg code 3 2) (i + 1) from ⟨⟨by omega, hnc⟩, n0, n1, n2⟩))
                · (repeat' (first | exact all_mt | refine all_up ?_ ?_)) <;> first | exact .inl ⟨rfl, rfl⟩ | exact .inr ⟨rfl, fun _ h => by cases h⟩ | exact .inl ⟨rfl, by first | rfl | assumption | exact (its_pure _)⟩
                · (repeat' (first | exact all_mt | refine all_up ?_ ?_)) <;> first | exact ⟨rfl, _, rfl, .inr ⟨rfl, rfl⟩⟩ | exact ⟨rfl, _, rfl, .inl rfl⟩ | exact ⟨rfl, _, rfl, .inr ⟨rfl, by first | rfl | assumption | exact (its_pure _)⟩⟩
            · have g3 : decide ((i : Int) < (its.length : Int)) = false := decide_eq_false (by omega)
              clear ihC3
              repeat (refine W.seq ?_)
              refine W.region 129 130 (by decide) rfl rfl ?_
              refine RW.opd rfl rfl (LO.lss rfl rfl rfl) ?_
              refine RW.nil ?_
              repeat (refine W.seq ?_)
              refine W.cond_f rfl (by first | rfl | assumption) ?_
              refine W.exit ?_
              have hie : i = its.length := by omega
              rw [hie] at h0
              rw [hie] at h1
              rw [hie] at h2
              refine W.frzc (q := 1) (j := 0) (r := 2) rfl rfl (by decide) rfl (its_all rfl) (its_pure _) (Sp.lit rfl) ?_
              refine W.frzc (q := 1) (j := 1) (r := 3) rfl rfl (by decide) rfl (its_all rfl) (its_pure _) (Sp.lit rfl) ?_
              refine W.frzc (q := 1) (j := 2) (r := 4) rfl rfl (by decide) rfl (its_all rfl) (its_pure _) (Sp.lit rfl) ?_
              repeat (refine W.seq ?_)
              refine W.region 175 176 (by decide) rfl rfl ?_
              refine RW.opd rfl rfl (LO.assign rfl rfl) ?_
              refine RW.nil ?_
              repeat (refine W.seq ?_)
              refine W.region 180 183 (by decide) rfl rfl ?_
              refine RW.opd rfl rfl (LO.move rfl rfl) ?_
              refine RW.opd rfl rfl (LO.len rfl rfl ty34) ?_
              refine RW.opd rfl rfl (LO.move rfl rfl) ?_
              refine RW.nil ?_
              obtain ⟨M, hM⟩ : ∃ M, [L0, L1, L2] = M := ⟨_, rfl⟩
              have hMl : M.length = 3 := by rw [← hM]; rfl
              have hMb : ∀ c ∈ M, c.length ≤ 5 := by rw [← hM]; intro c hcm; simp only [List.mem_cons, List.not_mem_nil, or_false] at hcm; rcases hcm with rfl | rfl | rfl <;> omega
              have hMk : M.all (okS f ls) = false := by
                cases hma : M.all (okS f ls) with
                | false => rfl
                | true =>
                  refine absurd (fun j hj => ?_) hlf
                  have hma := List.all_eq_true.1 hma
                  rw [← hM] at hma
                  rcases (show j = 0 ∨ j = 1 ∨ j = 2 by omega) with rfl | rfl | rfl
                  · rw [← h0]; exact hma _ (by simp)
                  · rw [← h1]; exact hma _ (by simp)
                  · rw [← h2]; exact hma _ (by simp)
              rw [show [AV.isl (itsC L0) L0.length, AV.isl (itsC L1) L1.length, AV.isl (itsC L2) L2.length] = gsC M from by rw [← hM]; rfl]
              repeat (refine W.seq ?_)
              refine W.block ?_
              refine W.rename [(0, 0), (1, 1)] 2 (T' := up (up (up (up (up (up (up (up (up (up mt 3 (some (.own 0 0))) 4 (some (.isl (ldsC ls) ls.length))) 5 (some (.isl (itsC its) its.length))) 8 (some (.base (.int .i64 3)))) 9 (some (.base (.int .i64 (p : Int))))) 10 (some (.base (.int .i64 (code : Int))))) 15 (some (.base (.bool true)))) 91 (some (.osl 1 0 3 1))) 92 (some (.base (.int .i64 3)))) 93 (some (.base (.int .i64 (0 : Int))))) (H' := up (up mt 0 (some (fabC f))) 1 (some (gsC M))) (by decide) ?_ ?_ ?_
              · (repeat' (first | exact all_mt | refine all_up ?_ ?_)) <;> first | exact .inl ⟨rfl, rfl⟩ | exact .inr ⟨rfl, fun _ h => by cases h⟩ | exact .inl ⟨rfl, by first | rfl | assumption | exact (gsC_pure _)⟩
              · (repeat' (first | exact all_mt | refine all_up ?_ ?_)) <;> first | exact ⟨rfl, _, rfl, .inr ⟨rfl, rfl⟩⟩ | exact ⟨rfl, _, rfl, .inl rfl⟩ | exact ⟨rfl, _, rfl, .inr ⟨rfl, by first | rfl | assumption | exact (gsC_pure _)⟩⟩
              refine W.loop_ind (α := Nat × Bool) (fun x => 3 - x.1) 2 (fun x => up (up (up (up (up (up (up (up (up (up mt 3 (some (.own 0 0))) 4 (some (.isl (ldsC ls) ls.length))) 5 (some (.isl (itsC its) its.length))) 8 (some (.base (.int .i64 3)))) 9 (some (.base (.int .i64 (p : Int))))) 10 (some (.base (.int .i64 (code : Int))))) 15 (some (.base (.bool x.2)))) 91 (some (.osl 1 0 3 1))) 92 (some (.base (.int .i64 3)))) 93 (some (.base (.int .i64 (x.1 : Int))))) (fun x => up (up mt 0 (some (fabC f))) 1 (some (gsC M))) (fun x => x.1 ≤ 3 ∧ x.2 = (M.take x.1).all (okS f ls)) (0, true) (show 0 ≤ 3 ∧ true = (M.take 0).all (okS f ls) from ⟨Nat.zero_le _, rfl⟩) ?_
              rintro ⟨k, o⟩ hID3 ihD3
              try (dsimp only at hID3)
              try dsimp only
              obtain ⟨hk, ho⟩ := hID3
              by_cases hc3 : k < 3
              · have g4 : decide ((k : Int) < 3) = true := decide_eq_true (by omega)
                have hkm : k < M.length := by omega
                have hkb := hMb _ (List.getElem_mem hkm)
                have hsf := safeX_any f ls M[k] (by omega) (by omega) (by omega)
                repeat (refine W.seq ?_)
                refine W.region 187 188 (by decide) rfl rfl ?_
                refine RW.opd rfl rfl (LO.lss rfl rfl rfl) ?_
                refine RW.nil ?_
                repeat (refine W.seq ?_)
                refine W.cond_t rfl (by first | rfl | assumption) ?_
                refine W.skip ?_
                repeat (refine W.seq ?_)
                refine W.block ?_
                repeat (refine W.seq ?_)
                refine W.region 192 195 (by decide) rfl rfl ?_
                refine RW.opd rfl rfl (LO.indexAddr rfl rfl rfl rfl ty34 ty22 ?_) ?_; (· (first | omega | decide | assumption | fail | (simp; done) | (simp; omega)))
                refine RW.opd rfl rfl (LO.load rfl rfl rfl (gs_nat hkm) ty22 rfl) ?_
                refine RW.opd rfl rfl (LO.assign rfl rfl) ?_
                refine RW.nil ?_
                cases o
                case' false =>
                  have hnx := all_take_false (okS f ls) hkm ho.symm
                  repeat (refine W.seq ?_)
                  refine W.region 199 213 (by decide) rfl rfl ?_
                  refine RW.opd rfl rfl (LO.move rfl rfl) ?_
                  refine RW.opd rfl rfl (LO.move rfl rfl) ?_
                  refine RW.sd rfl rfl rfl ?_ rfl ?_; (· (first | rfl | assumption))
                  refine RW.sd rfl rfl rfl ?_ rfl ?_; (· (first | rfl | assumption))
                  refine RW.sd rfl rfl rfl ?_ rfl ?_; (· (first | rfl | assumption))
                  refine RW.sd rfl rfl rfl ?_ rfl ?_; (· (first | rfl | assumption))
                  refine RW.ud rfl rfl rfl rfl ?_
                  refine RW.ud rfl rfl rfl rfl ?_
                  refine RW.ud rfl rfl rfl rfl ?_
                  refine RW.ud rfl rfl rfl rfl ?_
                  refine RW.ud rfl rfl rfl rfl ?_
                  refine RW.sd rfl rfl rfl ?_ rfl ?_; (· (first | rfl | assumption))
                  refine RW.opd rfl rfl (LO.pick_f rfl rfl ?_ rfl) ?_; (· (first | rfl | assumption))
                  refine RW.opd rfl rfl (LO.assign rfl rfl) ?_
                  refine RW.nil ?_
                  repeat (refine W.seq ?_)
                  refine W.region 217 219 (by decide) rfl rfl ?_
                  refine RW.opd rfl rfl (LO.add_in rfl rfl rfl ?_) ?_; (· (first | exact IntWalk.i64_in _ (by omega) | assumption))
                  refine RW.opd rfl rfl (LO.move rfl rfl) ?_
                  refine RW.nil ?_
                  refine WL.rename [(0, 0), (1, 1)] 2 (by decide) ?_ ?_ (ihD3 ((k + 1), false) (show 3 - (k + 1) < 3 - k from by omega) (show (k + 1) ≤ 3 ∧ false = (M.take (k + 1)).all (okS f ls) from ⟨by omega, hnx.symm⟩))
                  · (repeat' (first | exact all_mt | refine all_up ?_ ?_)) <;> first | exact .inl ⟨rfl, rfl⟩ | exact .inr ⟨rfl, fun _ h => by cases h⟩ | exact .inl ⟨rfl, by first | rfl | assumption | exact (gsC_pure _)⟩
                  · (repeat' (first | exact all_mt | refine all_up ?_ ?_)) <;> first | exact ⟨rfl, _, rfl, .inr ⟨rfl, rfl⟩⟩ | exact ⟨rfl, _, rfl, .inl rfl⟩ | exact ⟨rfl, _, rfl, .inr ⟨rfl, by first | rfl | assumption | exact (gsC_pure _)⟩⟩
                case' true =>
                  have hnx := all_take_true (okS f ls) hkm ho.symm
                  by_cases hz : M[k].length = 0
                  · have k2 : ((M[k].length : Int) == 0) = true := by rw [hz]; rfl
                    have hok2 : okS f ls M[k] = true := by unfold okS; rw [hz]; rfl
                    repeat (refine W.seq ?_)
                    refine W.region 199 213 (by decide) rfl rfl ?_
                    refine RW.opd rfl rfl (LO.move rfl rfl) ?_
                    refine RW.opd rfl rfl (LO.move rfl rfl) ?_
                    refine RW.gd rfl rfl rfl ?_ rfl (LO.move rfl rfl) ?_; (· (first | rfl | assumption))
                    refine RW.gd rfl rfl rfl ?_ rfl (LO.len_isl rfl rfl rfl ty22) ?_; (· (first | rfl | assumption))
                    refine RW.gd rfl rfl rfl ?_ rfl (LO.eql rfl rfl rfl) ?_; (· (first | rfl | assumption))
                    refine RW.gd rfl rfl rfl ?_ rfl (LO.move rfl rfl) ?_; (· (first | rfl | assumption))
                    refine RW.sd rfl rfl rfl ?_ rfl ?_; (· (first | rfl | assumption))
                    refine RW.sd rfl rfl rfl ?_ rfl ?_; (· (first | rfl | assumption))
                    refine RW.sd rfl rfl rfl ?_ rfl ?_; (· (first | rfl | assumption))
                    refine RW.sd rfl rfl rfl ?_ rfl ?_; (· (first | rfl | assumption))
                    refine RW.sd rfl rfl rfl ?_ rfl ?_; (· (first | rfl | assumption))
                    refine RW.gd rfl rfl rfl ?_ rfl (LO.pick_t rfl rfl ?_ rfl) ?_; (· (first | rfl | assumption)); (· (first | rfl | assumption))
                    refine RW.opd rfl rfl (LO.pick_t rfl rfl ?_ rfl) ?_; (· (first | rfl | assumption))
                    refine RW.opd rfl rfl (LO.assign rfl rfl) ?_
                    refine RW.nil ?_
                    rw [k2]
                    repeat (refine W.seq ?_)
                    refine W.region 217 219 (by decide) rfl rfl ?_
                    refine RW.opd rfl rfl (LO.add_in rfl rfl rfl ?_) ?_; (· (first | exact IntWalk.i64_in _ (by omega) | assumption))
                    refine RW.opd rfl rfl (LO.move rfl rfl) ?_
                    refine RW.nil ?_
                    refine WL.rename [(0, 0), (1, 1)] 2 (by decide) ?_ ?_ (ihD3 ((k + 1), true) (show 3 - (k + 1) < 3 - k from by omega) (show (k + 1) ≤ 3 ∧ true = (M.take (k + 1)).all (okS f ls) from ⟨by omega, by rw [hnx, hok2]⟩))
                    · (repeat' (first | exact all_mt | refine all_up ?_ ?_)) <;> first | exact .inl ⟨rfl, rfl⟩ | exact .inr ⟨rfl, fun _ h => by cases h⟩ | exact .inl ⟨rfl, by first | rfl | assumption | exact (gsC_pure _)⟩
                    · (repeat' (first | exact all_mt | refine all_up ?_ ?_)) <;> first | exact ⟨rfl, _, rfl, .inr ⟨rfl, rfl⟩⟩ | exact ⟨rfl, _, rfl, .inl rfl⟩ | exact ⟨rfl, _, rfl, .inr ⟨rfl, by first | rfl | assumption | exact (gsC_pure _)⟩⟩
                  · have k2 : ((M[k].length : Int) == 0) = false := by simpa using fun h => hz (by simp [h])
                    have hok2 : okS f ls M[k] = (safeE f ls M[k] == 0) := by unfold okS; rw [show (M[k].length == 0) = false from by simpa using fun h => hz (by simp [h])]; rfl
                    repeat (refine W.seq ?_)
                    refine W.region 199 213 (by decide) rfl rfl ?_
                    refine RW.opd rfl rfl (LO.move rfl rfl) ?_
                    refine RW.opd rfl rfl (LO.move rfl rfl) ?_
                    refine RW.gd rfl rfl rfl ?_ rfl (LO.move rfl rfl) ?_; (· (first | rfl | assumption))
                    refine RW.gd rfl rfl rfl ?_ rfl (LO.len_isl rfl rfl rfl ty22) ?_; (· (first | rfl | assumption))
                    refine RW.gd rfl rfl rfl ?_ rfl (LO.eql rfl rfl rfl) ?_; (· (first | rfl | assumption))
                    refine RW.gd rfl rfl rfl ?_ rfl (LO.move rfl rfl) ?_; (· (first | rfl | assumption))
                    refine RW.gd rfl rfl rfl ?_ rfl (LO.load_agg rfl rfl rfl ty28 rfl (Tk.lit rfl)) ?_; (· (first | rfl | assumption))
                    refine RW.gd rfl rfl rfl ?_ rfl (LO.move rfl rfl) ?_; (· (first | rfl | assumption))
                    refine RW.gd rfl rfl rfl ?_ rfl (LO.move rfl rfl) ?_; (· (first | rfl | assumption))
                    refine RW.gd rfl rfl rfl ?_ rfl (LO.call0 (fr := []) rfl rfl (hsf) fok17 (.cons rfl (.pure rfl) (.cons rfl (.pure rfl) (.cons rfl (.pure rfl) .nil))) rfl) ?_; (· (first | rfl | assumption))
                    refine RW.gd rfl rfl rfl ?_ rfl (LO.eql rfl rfl rfl) ?_; (· (first | rfl | assumption))
                    refine RW.gd rfl rfl rfl ?_ rfl (LO.pick_f rfl rfl ?_ rfl) ?_; (· (first | rfl | assumption)); (· (first | rfl | assumption))
                    refine RW.opd rfl rfl (LO.pick_t rfl rfl ?_ rfl) ?_; (· (first | rfl | assumption))
                    refine RW.opd rfl rfl (LO.assign rfl rfl) ?_
                    refine RW.nil ?_
                    repeat (refine W.seq ?_)
                    refine W.region 217 219 (by decide) rfl rfl ?_
                    refine RW.opd rfl rfl (LO.add_in rfl rfl rfl ?_) ?_; (· (first | exact IntWalk.i64_in _ (by omega) | assumption))
                    refine RW.opd rfl rfl (LO.move rfl rfl) ?_
                    refine RW.nil ?_
                    refine WL.rename [(0, 0), (1, 1)] 2 (by decide) ?_ ?_ (ihD3 ((k + 1), ((safeE f ls M[k] == 0))) (show 3 - (k + 1) < 3 - k from by omega) (show (k + 1) ≤ 3 ∧ ((safeE f ls M[k] == 0)) = (M.take (k + 1)).all (okS f ls) from ⟨by omega, by rw [hnx, hok2]⟩))
                    · (repeat' (first | exact all_mt | refine all_up ?_ ?_)) <;> first | exact .inl ⟨rfl, rfl⟩ | exact .inr ⟨rfl, fun _ h => by cases h⟩ | exact .inl ⟨rfl, by first | rfl | assumption | exact (gsC_pure _)⟩
                    · (repeat' (first | exact all_mt | refine all_up ?_ ?_)) <;> first | exact ⟨rfl, _, rfl, .inr ⟨rfl, rfl⟩⟩ | exact ⟨rfl, _, rfl, .inl rfl⟩ | exact ⟨rfl, _, rfl, .inr ⟨rfl, by first | rfl | assumption | exact (gsC_pure _)⟩⟩
              · have g4 : decide ((k : Int) < 3) = false := decide_eq_false (by omega)
                have hof : o = false := by rw [ho, show k = M.length by omega, List.take_length, hMk]
                subst hof
                repeat (refine W.seq ?_)
                refine W.region 187 188 (by decide) rfl rfl ?_
                refine RW.opd rfl rfl (LO.lss rfl rfl rfl) ?_
                refine RW.nil ?_
                repeat (refine W.seq ?_)
                refine W.cond_f rfl (by first | rfl | assumption) ?_
                refine W.exit ?_
                repeat (refine W.seq ?_)
                refine W.region 223 224 (by decide) rfl rfl ?_
                refine RW.opd rfl rfl (LO.move rfl rfl) ?_
                refine RW.nil ?_
                repeat (refine W.seq ?_)
                refine W.cond_f rfl (by first | rfl | assumption) ?_
                refine W.skip ?_
                repeat (refine W.seq ?_)
                refine W.region 233 236 (by decide) rfl rfl ?_
                refine RW.opd rfl rfl (LO.move rfl rfl) ?_
                refine RW.opd rfl rfl (LO.add_in rfl rfl rfl ?_) ?_; (· (first | exact IntWalk.i64_in _ (by omega) | assumption))
                refine RW.opd rfl rfl (LO.assign rfl rfl) ?_
                refine RW.nil ?_
                refine WL.rename [(0, 0)] 1 (by decide) ?_ ?_ (ihB3 (code + 1) (show p - (code + 1) < p - code from by omega) (show (code + 1) ≤ p from by omega))
                · (repeat' (first | exact all_mt | refine all_up ?_ ?_)) <;> first | exact .inl ⟨rfl, rfl⟩ | exact .inr ⟨rfl, fun _ h => by cases h⟩ | exact .inl ⟨rfl, by first | rfl | assumption ⟩
                · (repeat' (first | exact all_mt | refine all_up ?_ ?_)) <;> first | exact ⟨rfl, _, rfl, .inr ⟨rfl, rfl⟩⟩ | exact ⟨rfl, _, rfl, .inl rfl⟩ | exact ⟨rfl, _, rfl, .inr ⟨rfl, by first | rfl | assumption ⟩⟩
          · have g2 : decide ((code : Int) < (p : Int)) = false := decide_eq_false (by omega)
            repeat (refine W.seq ?_)
            refine W.region 102 105 (by decide) rfl rfl ?_
            refine RW.opd rfl rfl (LO.move rfl rfl) ?_
            refine RW.opd rfl rfl (LO.move rfl rfl) ?_
            refine RW.opd rfl rfl (LO.lss rfl rfl rfl) ?_
            refine RW.nil ?_
            repeat (refine W.seq ?_)
            refine W.cond_f rfl (by first | rfl | assumption) ?_
            refine W.exit ?_
            repeat (refine W.seq ?_)
            refine W.region 240 242 (by decide) rfl rfl ?_
            refine RW.opd rfl rfl (LO.call0 (fr := []) rfl rfl (haw) fok8 .nil rfl) ?_
            refine RW.opd rfl rfl (LO.assign rfl rfl) ?_
            refine RW.nil ?_
            repeat (refine W.seq ?_)
            refine W.ret ⟨.inl rfl, _, mt, RVs.cons (RV.tmp rfl) (RVs.nil), all_mt, ?_⟩
            exact ⟨rfl, rfl⟩
      · have hlf := hlf 4 (by decide) (by decide) (by omega)
        have hLn : (L.length : Int) - 1 = 4 := by omega
        have hpw : 4 ^ its.length ≤ 1024 := Nat.le_trans (Nat.pow_le_pow_right (n := 4) (by decide) hni) (by decide)
        repeat (refine W.seq ?_)
        refine W.region 20 29 (by decide) rfl rfl ?_
        refine RW.opd rfl rfl (LO.load_agg rfl rfl rfl ty28 rfl (Tk.lit rfl)) ?_
        refine RW.opd rfl rfl (LO.move rfl rfl) ?_
        refine RW.opd rfl rfl (LO.move rfl rfl) ?_
        refine RW.opd rfl rfl (LO.call0 (fr := []) rfl rfl (hrd) fok11 (.cons rfl (.pure rfl) (.cons rfl (.pure rfl) (.cons rfl (.pure rfl) .nil))) rfl) ?_
        refine RW.opd rfl rfl (LO.move rfl rfl) ?_
        refine RW.opd rfl rfl (LO.extract rfl rfl rfl) ?_
        refine RW.opd rfl rfl (LO.extract rfl rfl rfl) ?_
        refine RW.opd rfl rfl (LO.assign rfl rfl) ?_
        refine RW.opd rfl rfl (LO.assign rfl rfl) ?_
        refine RW.nil ?_
        repeat (refine W.seq ?_)
        refine W.region 33 40 (by decide) rfl rfl ?_
        refine RW.opd rfl rfl (LO.move rfl rfl) ?_
        refine RW.opd rfl rfl (LO.neq rfl rfl rfl) ?_
        refine RW.opd rfl rfl (LO.move rfl rfl) ?_
        refine RW.gd rfl rfl rfl ?_ rfl (LO.move rfl rfl) ?_; (· (first | rfl | assumption))
        refine RW.gd rfl rfl rfl ?_ rfl (LO.len_isl rfl rfl rfl ty34) ?_; (· (first | rfl | assumption))
        refine RW.gd rfl rfl rfl ?_ rfl (LO.lss rfl rfl rfl) ?_; (· (first | rfl | assumption))
        refine RW.opd rfl rfl (LO.pick_f rfl rfl ?_ rfl) ?_; (· (first | rfl | assumption))
        refine RW.nil ?_
        repeat (refine W.seq ?_)
        refine W.cond_f rfl (by first | rfl | assumption) ?_
        refine W.skip ?_
        repeat (refine W.seq ?_)
        refine W.region 58 62 (by decide) rfl rfl ?_
        refine RW.opd rfl rfl (LO.move rfl rfl) ?_
        refine RW.opd rfl rfl (LO.len_isl rfl rfl rfl ty34) ?_
        refine RW.opd rfl rfl (LO.sub rfl rfl rfl) ?_
        refine RW.opd rfl rfl (LO.assign rfl rfl) ?_
        refine RW.nil ?_
        rw [hLn]
        repeat (refine W.seq ?_)
        refine W.region 66 67 (by decide) rfl rfl ?_
        refine RW.opd rfl rfl (LO.assign rfl rfl) ?_
        refine RW.nil ?_
        repeat (refine W.seq ?_)
        refine W.region 71 74 (by decide) rfl rfl ?_
        refine RW.opd rfl rfl (LO.move rfl rfl) ?_
        refine RW.opd rfl rfl (LO.len_isl rfl rfl rfl ty22) ?_
        refine RW.opd rfl rfl (LO.move rfl rfl) ?_
        refine RW.nil ?_
        repeat (refine W.seq ?_)
        refine W.block ?_
        refine W.rename [(0, 12)] 1 (T' := up (up (up (up (up (up (up mt 3 (some (.own 0 0))) 4 (some (.isl (ldsC ls) ls.length))) 5 (some (.isl (itsC its) its.length))) 8 (some (.base (.int .i64 4)))) 9 (some (.base (.int .i64 (1 : Int))))) 52 (some (.base (.int .i64 (its.length : Int))))) 53 (some (.base (.int .i64 (0 : Int))))) (H' := up mt 0 (some (fabC f))) (by decide) ?_ ?_ ?_
        · (repeat' (first | exact all_mt | refine all_up ?_ ?_)) <;> first | exact .inl ⟨rfl, rfl⟩ | exact .inr ⟨rfl, fun _ h => by cases h⟩ | exact .inl ⟨rfl, by first | rfl | assumption ⟩
        · (repeat' (first | exact all_mt | refine all_up ?_ ?_)) <;> first | exact ⟨rfl, _, rfl, .inr ⟨rfl, rfl⟩⟩ | exact ⟨rfl, _, rfl, .inl rfl⟩ | exact ⟨rfl, _, rfl, .inr ⟨rfl, by first | rfl | assumption ⟩⟩
        refine W.loop_ind (α := Nat × Nat) (fun x => its.length - x.1) 1 (fun x => up (up (up (up (up (up (up mt 3 (some (.own 0 0))) 4 (some (.isl (ldsC ls) ls.length))) 5 (some (.isl (itsC its) its.length))) 8 (some (.base (.int .i64 4)))) 9 (some (.base (.int .i64 (x.2 : Int))))) 52 (some (.base (.int .i64 (its.length : Int))))) 53 (some (.base (.int .i64 (x.1 : Int))))) (fun x => up mt 0 (some (fabC f))) (fun x => x.1 ≤ its.length ∧ x.2 = 4 ^ x.1) (0, 1) (show 0 ≤ its.length ∧ 1 = 4 ^ 0 from ⟨Nat.zero_le _, rfl⟩) ?_
        rintro ⟨i, p⟩ hIA4 ihA4
        try (dsimp only at hIA4)
        try dsimp only
        obtain ⟨hi, hp⟩ := hIA4
        have hp1 : p ≤ 1024 := by rw [hp]; exact Nat.le_trans (Nat.pow_le_pow_right (n := 4) (by decide) (show i ≤ 5 by omega)) (by decide)
        by_cases hc : i < its.length
        · have g1 : decide ((i : Int) < (its.length : Int)) = true := decide_eq_true (by omega)
          repeat (refine W.seq ?_)
          refine W.region 78 79 (by decide) rfl rfl ?_
          refine RW.opd rfl rfl (LO.lss rfl rfl rfl) ?_
          refine RW.nil ?_
          repeat (refine W.seq ?_)
          refine W.cond_t rfl (by first | rfl | assumption) ?_
          refine W.skip ?_
          repeat (refine W.seq ?_)
          refine W.block ?_
          repeat (refine W.seq ?_)
          refine W.region 83 87 (by decide) rfl rfl ?_
          refine RW.opd rfl rfl (LO.move rfl rfl) ?_
          refine RW.opd rfl rfl (LO.move rfl rfl) ?_
          refine RW.opd rfl rfl (LO.mul_in rfl rfl rfl ?_) ?_; (· (first | exact IntWalk.i64_in _ (by omega) | assumption))
          refine RW.opd rfl rfl (LO.assign rfl rfl) ?_
          refine RW.nil ?_
          repeat (refine W.seq ?_)
          refine W.region 91 93 (by decide) rfl rfl ?_
          refine RW.opd rfl rfl (LO.add_in rfl rfl rfl ?_) ?_; (· (first | exact IntWalk.i64_in _ (by omega) | assumption))
          refine RW.opd rfl rfl (LO.move rfl rfl) ?_
          refine RW.nil ?_
          rw [show (p : Int) * 4 = ((p * 4 : Nat) : Int) from by omega]
          refine WL.rename [(0, 0)] 1 (by decide) ?_ ?_ (ihA4 ((i + 1), (p * 4)) (show its.length - (i + 1) < its.length - i from by omega) (show (i + 1) ≤ its.length ∧ (p * 4) = 4 ^ (i + 1) from ⟨by omega, by rw [hp, Nat.pow_succ]⟩))
          · (repeat' (first | exact all_mt | refine all_up ?_ ?_)) <;> first | exact .inl ⟨rfl, rfl⟩ | exact .inr ⟨rfl, fun _ h => by cases h⟩ | exact .inl ⟨rfl, by first | rfl | assumption ⟩
          · (repeat' (first | exact all_mt | refine all_up ?_ ?_)) <;> first | exact ⟨rfl, _, rfl, .inr ⟨rfl, rfl⟩⟩ | exact ⟨rfl, _, rfl, .inl rfl⟩ | exact ⟨rfl, _, rfl, .inr ⟨rfl, by first | rfl | assumption ⟩⟩
        · have g1 : decide ((i : Int) < (its.length : Int)) = false := decide_eq_false (by omega)
          clear ihA4
          repeat (refine W.seq ?_)
          refine W.region 78 79 (by decide) rfl rfl ?_
          refine RW.opd rfl rfl (LO.lss rfl rfl rfl) ?_
          refine RW.nil ?_
          repeat (refine W.seq ?_)
          refine W.cond_f rfl (by first | rfl | assumption) ?_
          refine W.exit ?_
          repeat (refine W.seq ?_)
          refine W.region 97 98 (by decide) rfl rfl ?_
          refine RW.opd rfl rfl (LO.assign rfl rfl) ?_
          refine RW.nil ?_
          repeat (refine W.seq ?_)
          refine W.block ?_
          refine W.rename [(0, 0)] 1 (T' := up (up (up (up (up (up mt 3 (some (.own 0 0))) 4 (some (.isl (ldsC ls) ls.length))) 5 (some (.isl (itsC its) its.length))) 8 (some (.base (.int .i64 4)))) 9 (some (.base (.int .i64 (p : Int))))) 10 (some (.base (.int .i64 (0 : Int))))) (H' := up mt 0 (some (fabC f))) (by decide) ?_ ?_ ?_
          · (repeat' (first | exact all_mt | refine all_up ?_ ?_)) <;> first | exact .inl ⟨rfl, rfl⟩ | exact .inr ⟨rfl, fun _ h => by cases h⟩ | exact .inl ⟨rfl, by first | rfl | assumption ⟩
          · (repeat' (first | exact all_mt | refine all_up ?_ ?_)) <;> first | exact ⟨rfl, _, rfl, .inr ⟨rfl, rfl⟩⟩ | exact ⟨rfl, _, rfl, .inl rfl⟩ | exact ⟨rfl, _, rfl, .inr ⟨rfl, by first | rfl | assumption ⟩⟩
          refine W.loop_ind (α := Nat) (fun x => p - x) 1 (fun x => up (up (up (up (up (up mt 3 (some (.own 0 0))) 4 (some (.isl (ldsC ls) ls.length))) 5 (some (.isl (itsC its) its.length))) 8 (some (.base (.int .i64 4)))) 9 (some (.base (.int .i64 (p : Int))))) 10 (some (.base (.int .i64 (x : Int))))) (fun x => up mt 0 (some (fabC f))) (fun x => x ≤ p) 0 (show 0 ≤ p from Nat.zero_le _) ?_
          rintro code hIB4 ihB4
          try (dsimp only at hIB4)
          try dsimp only
          have hco : code ≤ p := hIB4
          by_cases hcp : code < p
          · have g2 : decide ((code : Int) < (p : Int)) = true := decide_eq_true (by omega)
            have hlf := hlf code
            repeat (refine W.seq ?_)
            refine W.region 102 105 (by decide) rfl rfl ?_
            refine RW.opd rfl rfl (LO.move rfl rfl) ?_
            refine RW.opd rfl rfl (LO.move rfl rfl) ?_
            refine RW.opd rfl rfl (LO.lss rfl rfl rfl) ?_
            refine RW.nil ?_
            repeat (refine W.seq ?_)
            refine W.cond_t rfl (by first | rfl | assumption) ?_
            refine W.skip ?_
            repeat (refine W.seq ?_)
            refine W.block ?_
            repeat (refine W.seq ?_)
            refine W.region 109 112 (by decide) rfl rfl ?_
            refine RW.opd rfl rfl (LO.move rfl rfl) ?_
            refine RW.opd rfl rfl (LO.makeSlice rfl rfl rfl rfl rfl ty34 ty22 (by decide) ?_ ?_ ?_) ?_; (· (first | omega | decide | assumption | fail | (simp; done) | (simp; omega))); (· (first | omega | decide | assumption | fail | (simp; done) | (simp; omega))); (· (first | omega | decide | assumption | fail | (simp; done) | (simp; omega)))
            refine RW.opd rfl rfl (LO.assign rfl rfl) ?_
            refine RW.nil ?_
            rw [show zerosL 4 [AV.nils] = [AV.nils, AV.nils, AV.nils, AV.nils] from rfl]
            refine W.namec (112 + 0) (112 + 1) (q := 110) (j := 0) (sz := 2) rfl rfl (Sp.lit rfl) (by decide) (by decide) (by decide) ?_
            refine W.namec (112 + 1) (112 + 2) (q := 110) (j := 1) (sz := 2) rfl rfl (Sp.lit rfl) (by decide) (by decide) (by decide) ?_
            refine W.namec (112 + 2) (112 + 3) (q := 110) (j := 2) (sz := 2) rfl rfl (Sp.lit rfl) (by decide) (by decide) (by decide) ?_
            refine W.namec (112 + 3) (112 + 4) (q := 110) (j := 3) (sz := 2) rfl rfl (Sp.lit rfl) (by decide) (by decide) (by decide) ?_
            repeat (refine W.seq ?_)
            refine W.region 116 118 (by decide) rfl rfl ?_
            refine RW.opd rfl rfl (LO.move rfl rfl) ?_
            refine RW.opd rfl rfl (LO.assign rfl rfl) ?_
            refine RW.nil ?_
            repeat (refine W.seq ?_)
            refine W.region 122 125 (by decide) rfl rfl ?_
            refine RW.opd rfl rfl (LO.move rfl rfl) ?_
            refine RW.opd rfl rfl (LO.len_isl rfl rfl rfl ty22) ?_
            refine RW.opd rfl rfl (LO.move rfl rfl) ?_
            refine RW.nil ?_
            repeat (refine W.seq ?_)
            refine W.block ?_
            refine W.rename [(0, 0), (1, 110), (2, (112 + 0)), (3, (112 + 1)), (4, (112 + 2)), (5, (112 + 3))] 6 (T' := up (up (up (up (up (up (up (up (up (up (up mt 3 (some (.own 0 0))) 4 (some (.isl (ldsC ls) ls.length))) 5 (some (.isl (itsC its) its.length))) 8 (some (.base (.int .i64 4)))) 9 (some (.base (.int .i64 (p : Int))))) 10 (some (.base (.int .i64 (code : Int))))) 11 (some (.osl 1 0 4 1))) 12 (some (.base (.int .i64 (code : Int))))) 67 (some (.isl (itsC its) its.length))) 68 (some (.base (.int .i64 (its.length : Int))))) 69 (some (.base (.int .i64 (0 : Int))))) (H' := up (up (up (up (up (up mt 0 (some (fabC f))) 1 (some ([.osl 2 0 (([] : List Itm)).length 2, .osl 3 0 (([] : List Itm)).length 2, .osl 4 0 (([] : List Itm)).length 2, .osl 5 0 (([] : List Itm)).length 2]))) 2 (some (itsC (([] : List Itm))))) 3 (some (itsC (([] : List Itm))))) 4 (some (itsC (([] : List Itm))))) 5 (some (itsC (([] : List Itm))))) (by decide) ?_ ?_ ?_
            · (repeat' (first | exact all_mt | refine all_up ?_ ?_)) <;> first | exact .inl ⟨rfl, rfl⟩ | exact .inr ⟨rfl, fun _ h => by cases h⟩ | exact .inl ⟨rfl, by first | rfl | assumption | exact (its_pure _)⟩
            · (repeat' (first | exact all_mt | refine all_up ?_ ?_)) <;> first | exact ⟨rfl, _, rfl, .inr ⟨rfl, rfl⟩⟩ | exact ⟨rfl, _, rfl, .inl rfl⟩ | exact ⟨rfl, _, rfl, .inr ⟨rfl, by first | rfl | assumption | exact (its_pure _)⟩⟩
            refine W.loop_ind (α := Nat × Nat × List Itm × List Itm × List Itm × List Itm) (fun x => its.length - x.1) 6 (fun x => up (up (up (up (up (up (up (up (up (up (up mt 3 (some (.own 0 0))) 4 (some (.isl (ldsC ls) ls.length))) 5 (some (.isl (itsC its) its.length))) 8 (some (.base (.int .i64 4)))) 9 (some (.base (.int .i64 (p : Int))))) 10 (some (.base (.int .i64 (code : Int))))) 11 (some (.osl 1 0 4 1))) 12 (some (.base (.int .i64 (x.2.1 : Int))))) 67 (some (.isl (itsC its) its.length))) 68 (some (.base (.int .i64 (its.length : Int))))) 69 (some (.base (.int .i64 (x.1 : Int))))) (fun x => up (up (up (up (up (up mt 0 (some (fabC f))) 1 (some ([.osl 2 0 x.2.2.1.length 2, .osl 3 0 x.2.2.2.1.length 2, .osl 4 0 x.2.2.2.2.1.length 2, .osl 5 0 x.2.2.2.2.2.length 2]))) 2 (some (itsC x.2.2.1))) 3 (some (itsC x.2.2.2.1))) 4 (some (itsC x.2.2.2.2.1))) 5 (some (itsC x.2.2.2.2.2))) (fun x => (x.1 ≤ its.length ∧ x.2.1 = code / 4 ^ x.1) ∧ x.2.2.1 = selK its (dg code 4 0) x.1 ∧ x.2.2.2.1 = selK its (dg code 4 1) x.1 ∧ x.2.2.2.2.1 = selK its (dg code 4 2) x.1 ∧ x.2.2.2.2.2 = selK its (dg code 4 3) x.1) (0, code, (([] : List Itm)), (([] : List Itm)), (([] : List Itm)), (([] : List Itm))) (show (0 ≤ its.length ∧ code = code / 4 ^ 0) ∧ (([] : List Itm)) = selK its (dg code 4 0) 0 ∧ (([] : List Itm)) = selK its (dg code 4 1) 0 ∧ (([] : List Itm)) = selK its (dg code 4 2) 0 ∧ (([] : List Itm)) = selK its (dg code 4 3) 0 from ⟨⟨Nat.zero_le _, by rw [Nat.pow_zero, Nat.div_one]⟩, rfl, rfl, rfl, rfl⟩) ?_
            rintro ⟨i, c, L0, L1, L2, L3⟩ hIC4 ihC4
            try (dsimp only at hIC4)
            try dsimp only
            obtain ⟨⟨hi2, hcd⟩, h0, h1, h2, h3⟩ := hIC4
            have hl0 := selK_len its (dg code 4 0) i
            rw [← h0] at hl0
            have hl1 := selK_len its (dg code 4 1) i
            rw [← h1] at hl1
            have hl2 := selK_len its (dg code 4 2) i
            rw [← h2] at hl2
            have hl3 := selK_len its (dg code 4 3) i
            rw [← h3] at hl3
            have hcb : c ≤ 1024 := by have := Nat.div_le_self code (4 ^ i); omega
            by_cases hc2 : i < its.length
            · have g3 : decide ((i : Int) < (its.length : Int)) = true := decide_eq_true (by omega)
              have hnc : c / 4 = code / 4 ^ (i + 1) := by rw [hcd]; exact pow_div _ _ _
              repeat (refine W.seq ?_)
              refine W.region 129 130 (by decide) rfl rfl ?_
              refine RW.opd rfl rfl (LO.lss rfl rfl rfl) ?_
              refine RW.nil ?_
              repeat (refine W.seq ?_)
              refine W.cond_t rfl (by first | rfl | assumption) ?_
              refine W.skip ?_
              repeat (refine W.seq ?_)
              refine W.block ?_
              repeat (refine W.seq ?_)
              refine W.region 134 138 (by decide) rfl rfl ?_
              refine RW.opd rfl rfl (LO.indexAddr_isl rfl rfl rfl rfl rfl ty22 ty45 ?_) ?_; (· (first | omega | decide | assumption | fail | (simp; done) | (simp; omega)))
              refine RW.opd rfl rfl (LO.load_imm_agg rfl rfl ty45 rfl (its_tk hc2)) ?_
              refine RW.opd rfl rfl (LO.alloc rfl ty45) ?_
              refine RW.opn rfl rfl (LO.store rfl rfl rfl rfl rfl ty45 rfl (by decide) (Sp.lit rfl)) ?_
              refine RW.nil ?_
              rcases (show c % 4 = 0 ∨ c % 4 = 1 ∨ c % 4 = 2 ∨ c % 4 = 3 by omega) with hd | hd | hd | hd
              · have hr : (c : Int) % 4 = ((0 : Nat) : Int) := by omega
                have n0 := selK_yes hc2 h0 (χ := dg code 4 0) (by unfold dg; rw [← hcd, hd]; rfl)
                have n1 := selK_no hc2 h1 (χ := dg code 4 1) (by unfold dg; rw [← hcd, hd]; rfl)
                have n2 := selK_no hc2 h2 (χ := dg code 4 2) (by unfold dg; rw [← hcd, hd]; rfl)
                have n3 := selK_no hc2 h3 (χ := dg code 4 3) (by unfold dg; rw [← hcd, hd]; rfl)
                repeat (refine W.seq ?_)
                refine W.regionD 142 157 (by decide) rfl mixed rfl ?_
                refine RW.opd rfl rfl (LO.move rfl rfl) ?_
                refine RW.opd rfl rfl (LO.move rfl rfl) ?_
                refine RW.opd rfl rfl (LO.move rfl rfl) ?_
                refine RW.opd rfl rfl (LO.rem_in rfl rfl rfl ?_ ?_) ?_; (· (first | omega)); (· (first | omega | decide | assumption | fail | (simp; done) | (simp; omega)))
                refine RW.opd rfl rfl (LO.move rfl rfl) ?_
                refine RW.opd rfl rfl (LO.move rfl rfl) ?_
                refine RW.opd rfl rfl (LO.move rfl rfl) ?_
                refine RW.opd rfl rfl (LO.rem_in rfl rfl rfl ?_ ?_) ?_; (· (first | omega)); (· (first | omega | decide | assumption | fail | (simp; done) | (simp; omega)))
                refine RW.opd rfl rfl (LO.indexAddr rfl rfl rfl hr ty34 ty22 (by decide)) ?_
                refine RW.opd rfl rfl (LO.load rfl rfl rfl rfl ty22 rfl) ?_
                refine RW.opd rfl rfl (LO.load_agg rfl rfl rfl ty45 rfl (Tk.lit rfl)) ?_
                refine RW.opd rfl rfl (LO.buildSlice rfl ty22 ty45 (by decide) (by decide) (.cons rfl rfl rfl rfl (Sp.lit rfl) .nil)) ?_
                refine RW.opd rfl rfl (LO.append rfl rfl (SrcAV.own rfl rfl (Tk.lit rfl)) rfl (its_all rfl) ty22 ty22 ty45 (by decide) ?_ ?_ ?_) ?_; (· (first | omega | decide | assumption | fail | (simp; done) | (simp; omega))); (· (first | omega | decide | assumption | fail | (simp; done) | (simp; omega))); (· (first | decide | omega))
                refine RW.opd rfl rfl (LO.indexAddr rfl rfl rfl hr ty34 ty22 (by decide)) ?_
                refine RW.opn rfl rfl (LO.store rfl rfl rfl rfl rfl ty22 rfl (by decide) (Sp.lit rfl)) ?_
                refine RW.nil ⟨by kernel_rfl, ?_⟩
                repeat (refine W.seq ?_)
                refine W.region 161 165 (by decide) rfl rfl ?_
                refine RW.opd rfl rfl (LO.move rfl rfl) ?_
                refine RW.opd rfl rfl (LO.move rfl rfl) ?_
                refine RW.opd rfl rfl (LO.quo_in rfl rfl rfl ?_ ?_ ?_) ?_; (· (first | omega | decide | assumption | fail | (simp; done) | (simp; omega))); (· (first | omega | decide | assumption | fail | (simp; done) | (simp; omega))); (· (first | exact IntWalk.i64_in _ (by omega) | assumption))
                refine RW.opd rfl rfl (LO.assign rfl rfl) ?_
                refine RW.nil ?_
                rw [show (c : Int) / 4 = ((c / 4 : Nat) : Int) from by omega]
                repeat (refine W.seq ?_)
                refine W.region 169 171 (by decide) rfl rfl ?_
                refine RW.opd rfl rfl (LO.add_in rfl rfl rfl ?_) ?_; (· (first | exact IntWalk.i64_in _ (by omega) | assumption))
                refine RW.opd rfl rfl (LO.move rfl rfl) ?_
                refine RW.nil ?_
                rw [show itsC L0 ++ [AV.base (.bool its[i].sw), AV.base (.int .i64 its[i].ix)] = itsC (L0 ++ [its[i]]) from its_snoc _ _, show L0.length + 1 = (L0 ++ [its[i]]).length from by simp]
                refine WL.rename [(0, 0), (1, 1), (2, 154), (3, 3), (4, 4), (5, 5)] 6 (by decide) ?_ ?_ (ihC4 ((i + 1), (c / 4), (L0 ++ [its[i]]), L1, L2, L3) (show its.length - (i + 1) < its.length - i from by omega) (show ((i + 1) ≤ its.length ∧ (c / 4) = code / 4 ^ (i + 1)) ∧ (L0 ++ [its[i]]) = selK its (dg code 4 0) (i + 1) ∧ L1 = selK its (dg code 4 1) (i + 1) ∧ L2 = selK its (dg code 4 2) (i + 1) ∧ L3 = selK its (dg code 4 3) (i + 1) from ⟨⟨by omega, hnc⟩, n0, n1, n2, n3⟩))
                · (repeat' (first | exact all_mt | refine all_up ?_ ?_)) <;> first | exact .inl ⟨rfl, rfl⟩ | exact .inr ⟨rfl, fun _ h => by cases h⟩ | exact .inl ⟨rfl, by first | rfl | assumption | exact (its_pure _)⟩
                · (repeat' (first | exact all_mt | refine all_up ?_ ?_)) <;> first | exact ⟨rfl, _, rfl, .inr ⟨rfl, rfl⟩⟩ | exact ⟨rfl, _, rfl, .inl rfl⟩ | exact ⟨rfl, _, rfl, .inr ⟨rfl, by first | rfl | assumption | exact (its_pure _)⟩⟩
              · have hr : (c : Int) % 4 = ((1 : Nat) : Int) := by omega
                have n0 := selK_no hc2 h0 (χ := dg code 4 0) (by unfold dg; rw [← hcd, hd]; rfl)
                have n1 := selK_yes hc2 h1 (χ := dg code 4 1) (by unfold dg; rw [← hcd, hd]; rfl)
                have n2 := selK_no hc2 h2 (χ := dg code 4 2) (by unfold dg; rw [← hcd, hd]; rfl)
                have n3 := selK_no hc2 h3 (χ := dg code 4 3) (by unfold dg; rw [← hcd, hd]; rfl)
                repeat (refine W.seq ?_)
                refine W.regionD 142 157 (by decide) rfl mixed rfl ?_
                refine RW.opd rfl rfl (LO.move rfl rfl) ?_
                refine RW.opd rfl rfl (LO.move rfl rfl) ?_
                refine RW.opd rfl rfl (LO.move rfl rfl) ?_
                refine RW.opd rfl rfl (LO.rem_in rfl rfl rfl ?_ ?_) ?_; (· (first | omega)); (· (first | omega | decide | assumption | fail | (simp; done) | (simp; omega)))
                refine RW.opd rfl rfl (LO.move rfl rfl) ?_
                refine RW.opd rfl rfl (LO.move rfl rfl) ?_
                refine RW.opd rfl rfl (LO.move rfl rfl) ?_
                refine RW.opd rfl rfl (LO.rem_in rfl rfl rfl ?_ ?_) ?_; (· (first | omega)); (· (first | omega | decide | assumption | fail | (simp; done) | (simp; omega)))
                refine RW.opd rfl rfl (LO.indexAddr rfl rfl rfl hr ty34 ty22 (by decide)) ?_
                refine RW.opd rfl rfl (LO.load rfl rfl rfl rfl ty22 rfl) ?_
                refine RW.opd rfl rfl (LO.load_agg rfl rfl rfl ty45 rfl (Tk.lit rfl)) ?_
                refine RW.opd rfl rfl (LO.buildSlice rfl ty22 ty45 (by decide) (by decide) (.cons rfl rfl rfl rfl (Sp.lit rfl) .nil)) ?_
                refine RW.opd rfl rfl (LO.append rfl rfl (SrcAV.own rfl rfl (Tk.lit rfl)) rfl (its_all rfl) ty22 ty22 ty45 (by decide) ?_ ?_ ?_) ?_; (· (first | omega | decide | assumption | fail | (simp; done) | (simp; omega))); (· (first | omega | decide | assumption | fail | (simp; done) | (simp; omega))); (· (first | decide | omega))
                refine RW.opd rfl rfl (LO.indexAddr rfl rfl rfl hr ty34 ty22 (by decide)) ?_
                refine RW.opn rfl rfl (LO.store rfl rfl rfl rfl rfl ty22 rfl (by decide) (Sp.lit rfl)) ?_
                refine RW.nil ⟨by kernel_rfl, ?_⟩
                repeat (refine W.seq ?_)
                refine W.region 161 165 (by decide) rfl rfl ?_
                refine RW.opd rfl rfl (LO.move rfl rfl) ?_
                refine RW.opd rfl rfl (LO.move rfl rfl) ?_
                refine RW.opd rfl rfl (LO.quo_in rfl rfl rfl ?_ ?_ ?_) ?_; (· (first | omega | decide | assumption | fail | (simp; done) | (simp; omega))); (· (first | omega | decide | assumption | fail | (simp; done) | (simp; omega))); (· (first | exact IntWalk.i64_in _ (by omega) | assumption))
                refine RW.opd rfl rfl (LO.assign rfl rfl) ?_
                refine RW.nil ?_
                rw [show (c : Int) / 4 = ((c / 4 : Nat) : Int) from by omega]
                repeat (refine W.seq ?_)
                refine W.region 169 171 (by decide) rfl rfl ?_
                refine RW.opd rfl rfl (LO.add_in rfl rfl rfl ?_) ?_; (· (first | exact IntWalk.i64_in _ (by omega) | assumption))
                refine RW.opd rfl rfl (LO.move rfl rfl) ?_
                refine RW.nil ?_
                rw [show itsC L1 ++ [AV.base (.bool its[i].sw), AV.base (.int .i64 its[i].ix)] = itsC (L1 ++ [its[i]]) from its_snoc _ _, show L1.length + 1 = (L1 ++ [its[i]]).length from by simp]
                refine WL.rename [(0, 0), (1, 1), (2, 2), (3, 154), (4, 4), (5, 5)] 6 (by decide) ?_ ?_ (ihC4 ((i + 1), (c / 4), L0, (L1 ++ [its[i]]), L2, L3) (show its.length - (i + 1) < its.length - i from by omega) (show ((i + 1) ≤ its.length ∧ (c / 4) = code / 4 ^ (i + 1)) ∧ L0 = selK its (dg code 4 0) (i + 1) ∧ (L1 ++ [its[i]]) = selK its (dg code 4 1) (i + 1) ∧ L2 = selK its (dg code 4 2) (i + 1) ∧ L3 = selK its (dg code 4 3) (i + 1) from ⟨⟨by omega, hnc⟩, n0, n1, n2, n3⟩))
                · (repeat' (first | exact all_mt | refine all_up ?_ ?_)) <;> first | exact .inl ⟨rfl, rfl⟩ | exact .inr ⟨rfl, fun _ h => by cases h⟩ | exact .inl ⟨rfl, by first | rfl | assumption | exact (its_pure _)⟩
                · (repeat' (first | exact all_mt | refine all_up ?_ ?_)) <;> first | exact ⟨rfl, _, rfl, .inr ⟨rfl, rfl⟩⟩ | exact ⟨rfl, _, rfl, .inl rfl⟩ | exact ⟨rfl, _, rfl, .inr ⟨rfl, by first | rfl | assumption | exact (its_pure _)⟩⟩
              · have hr : (c : Int) % 4 = ((2 : Nat) : Int) := by omega
                have n0 := selK_no hc2 h0 (χ := dg code 4 0) (by unfold dg; rw [← hcd, hd]; rfl)
                have n1 := selK_no hc2 h1 (χ := dg code 4 1) (by unfold dg; rw [← hcd, hd]; rfl)
                have n2 := selK_yes hc2 h2 (χ := dg code 4 2) (by unfold dg; rw [← hcd, hd]; rfl)
                have n3 := selK_no hc2 h3 (χ := dg code 4 3) (by unfold dg; rw [← hcd, hd]; rfl)
                repeat (refine W.seq ?_)
                refine W.regionD 142 157 (by decide) rfl mixed rfl ?_
                refine RW.opd rfl rfl (LO.move rfl rfl) ?_
                refine RW.opd rfl rfl (LO.move rfl rfl) ?_
                refine RW.opd rfl rfl (LO.move rfl rfl) ?_
                refine RW.opd rfl rfl (LO.rem_in rfl rfl rfl ?_ ?_) ?_; (· (first | omega)); (· (first | omega | decide | assumption | fail | (simp; done) | (simp; omega)))
                refine RW.opd rfl rfl (LO.move rfl rfl) ?_
                refine RW.opd rfl rfl (LO.move rfl rfl) ?_
                refine RW.opd rfl rfl (LO.move rfl rfl) ?_
                refine RW.opd rfl rfl (LO.rem_in rfl rfl rfl ?_ ?_) ?_; (· (first | omega)); (· (first | omega | decide | assumption | fail | (simp; done) | (simp; omega)))
                refine RW.opd rfl rfl (LO.indexAddr rfl rfl rfl hr ty34 ty22 (by decide)) ?_
                refine RW.opd rfl rfl (LO.load rfl rfl rfl rfl ty22 rfl) ?_
                refine RW.opd rfl rfl (LO.load_agg rfl rfl rfl ty45 rfl (Tk.lit rfl)) ?_
                refine RW.opd rfl rfl (LO.buildSlice rfl ty22 ty45 (by decide) (by decide) (.cons rfl rfl rfl rfl (Sp.lit rfl) .nil)) ?_
                refine RW.opd rfl rfl (LO.append rfl rfl (SrcAV.own rfl rfl (Tk.lit rfl)) rfl (its_all rfl) ty22 ty22 ty45 (by decide) ?_ ?_ ?_) ?_; (· (first | omega | decide | assumption | fail | (simp; done) | (simp; omega))); (· (first | omega | decide | assumption | fail | (simp; done) | (simp; omega))); (· (first | decide | omega))
                refine RW.opd rfl rfl (LO.indexAddr rfl rfl rfl hr ty34 ty22 (by decide)) ?_
                refine RW.opn rfl rfl (LO.store rfl rfl rfl rfl rfl ty22 rfl (by decide) (Sp.lit rfl)) ?_
                refine RW.nil ⟨by kernel_rfl, ?_⟩
                repeat (refine W.seq ?_)
                refine W.region 161 165 (by decide) rfl rfl ?_
                refine RW.opd rfl rfl (LO.move rfl rfl) ?_
                refine RW.opd rfl rfl (LO.move rfl rfl) ?_
                refine RW.opd rfl rfl (LO.quo_in rfl rfl rfl ?_ ?_ ?_) ?_; (· (first | omega | decide | assumption | fail | (simp; done) | (simp; omega))); (· (first | omega | decide | assumption | fail | (simp; done) | (simp; omega))); (· (first | exact IntWalk.i64_in _ (by omega) | assumption))
                refine RW.opd rfl rfl (LO.assign rfl rfl) ?_
                refine RW.nil ?_
                rw [show (c : Int) / 4 = ((c / 4 : Nat) : Int) from by omega]
                repeat (refine W.seq ?_)
                refine W.region 169 171 (by decide) rfl rfl ?_
                refine RW.opd rfl rfl (LO.add_in rfl rfl rfl ?_) ?_; (· (first | exact IntWalk.i64_in _ (by omega) | assumption))
                refine RW.opd rfl rfl (LO.move rfl rfl) ?_
                refine RW.nil ?_
                rw [show itsC L2 ++ [AV.base (.bool its[i].sw), AV.base (.int .i64 its[i].ix)] = itsC (L2 ++ [its[i]]) from its_snoc _ _, show L2.length + 1 = (L2 ++ [its[i]]).length from by simp]
                refine WL.rename [(0, 0), (1, 1), (2, 2), (3, 3), (4, 154), (5, 5)] 6 (by decide) ?_ ?_ (ihC4 ((i + 1), (c / 4), L0, L1, (L2 ++ [its[i]]), L3) (show its.length - (i + 1) < its.length - i from by omega) (show ((i + 1) ≤ its.length ∧ (c / 4) = code / 4 ^ (i + 1)) ∧ L0 = selK its (dg code 4 0) (i + 1) ∧ L1 = selK its (dg code 4 1) (i + 1) ∧ (L2 ++ [its[i]]) = selK its (dg code 4 2) (i + 1) ∧ L3 = selK its (dg code 4 3) (i + 1) from ⟨⟨by omega, hnc⟩, n0, n1, n2, n3⟩))
                · (repeat' (first | exact all_mt | refine all_up ?_ ?_)) <;> first | exact .inl ⟨rfl, rfl⟩ | exact .inr ⟨rfl, fun _ h => by cases h⟩ | exact .inl ⟨rfl, by first | rfl | assumption | exact (its_pure _)⟩
                · (repeat' (first | exact all_mt | refine all_up ?_ ?_)) <;> first | exact ⟨rfl, _, rfl, .inr ⟨rfl, rfl⟩⟩ | exact ⟨rfl, _, rfl, .inl rfl⟩ | exact ⟨rfl, _, rfl, .inr ⟨rfl, by first | rfl | assumption | exact (its_pure _)⟩⟩
              · have hr : (c : Int) % 4 = ((3 : Nat) : Int) := by omega
                have n0 := selK_no hc2 h0 (χ := dg code 4 0) (by unfold dg; rw [← hcd, hd]; rfl)
                have n1 := selK_no hc2 h1 (χ := dg code 4 1) (by unfold dg; rw [← hcd, hd]; rfl)
                have n2 := selK_no hc2 h2 (χ := dg code 4 2) (by unfold dg; rw [← hcd, hd]; rfl)
                have n3 := selK_yes hc2 h3 (χ := dg code 4 3) (by unfold dg; rw [← hcd, hd]; rfl)
                repeat (refine W.seq ?_)
                refine W.regionD 142 157 (by decide) rfl mixed rfl ?_
                refine RW.opd rfl rfl (LO.move rfl rfl) ?_
                refine RW.opd rfl rfl (LO.move rfl rfl) ?_
                refine RW.opd rfl rfl (LO.move rfl rfl) ?_
                refine RW.opd rfl rfl (LO.rem_in rfl rfl rfl ?_ ?_) ?_; (· (first | omega)); (· (first | omega | decide | assumption | fail | (simp; done) | (simp; omega)))
                refine RW.opd rfl rfl (LO.move rfl rfl) ?_
                refine RW.opd rfl rfl (LO.move rfl rfl) ?_
                refine RW.opd rfl rfl (LO.move rfl rfl) ?_
                refine RW.opd rfl rfl (LO.rem_in rfl rfl rfl ?_ ?_) ?_; (· (first | omega)); (· (first | omega | decide | assumption | fail | (simp; done) | (simp; omega)))
                refine RW.opd rfl rfl (LO.indexAddr rfl rfl rfl hr ty34 ty22 (by decide)) ?_
                refine RW.opd rfl rfl (LO.load rfl rfl rfl rfl ty22 rfl) ?_
                refine RW.opd rfl rfl (LO.load_agg rfl rfl rfl ty45 rfl (Tk.lit rfl)) ?_
                refine RW.opd rfl rfl (LO.buildSlice rfl ty22 ty45 (by decide) (by decide) (.cons rfl rfl rfl rfl (Sp.lit rfl) .nil)) ?_
                refine RW.opd rfl rfl (LO.append rfl rfl (SrcAV.own rfl rfl (Tk.lit rfl)) rfl (its_all rfl) ty22 ty22 ty45 (by decide) ?_ ?_ ?_) ?_; (· (first | omega | decide | assumption | fail | (simp; done) | (simp; omega))); (· (first | omega | decide | assumption | fail | (simp; done) | (simp; omega))); (· (first | decide | omega))
                refine RW.opd rfl rfl (LO.indexAddr rfl rfl rfl hr ty34 ty22 (by decide)) ?_
                refine RW.opn rfl rfl (LO.store rfl rfl rfl rfl rfl ty22 rfl (by decide) (Sp.lit rfl)) ?_
                refine RW.nil ⟨by kernel_rfl, ?_⟩
                repeat (refine W.seq ?_)
                refine W.region 161 165 (by decide) rfl rfl ?_
                refine RW.opd rfl rfl (LO.move rfl rfl) ?_
                refine RW.opd rfl rfl (LO.move rfl rfl) ?_
                refine RW.opd rfl rfl (LO.quo_in rfl rfl rfl ?_ ?_ ?_) ?_; (· (first | omega | decide | assumption | fail | (simp; done) | (simp; omega))); (· (first | omega | decide | assumption | fail | (simp; done) | (simp; omega))); (· (first | exact IntWalk.i64_in _ (by omega) | assumption))
                refine RW.opd rfl rfl (LO.assign rfl rfl) ?_
                refine RW.nil ?_
                rw [show (c : Int) / 4 = ((c / 4 : Nat) : Int) from by omega]
                repeat (refine W.seq ?_)
                refine W.region 169 171 (by decide) rfl rfl ?_
                refine RW.opd rfl rfl (LO.add_in rfl rfl rfl ?_) ?_; (· (first | exact IntWalk.i64_in _ (by omega) | assumption))
                refine RW.opd rfl rfl (LO.move rfl rfl) ?_
                refine RW.nil ?_
                rw [show itsC L3 ++ [AV.base (.bool its[i].sw), AV.base (.int .i64 its[i].ix)] = itsC (L3 ++ [its[i]]) from its_snoc _ _, show L3.length + 1 = (L3 ++ [its[i]]).length from by simp]
                refine WL.rename [(0, 0), (1, 1), (2, 2), (3, 3), (4, 4), (5, 154)] 6 (by decide) ?_ ?_ (ihC4 ((i + 1), (c / 4), L0, L1, L2, (L3 ++ [its[i]])) (show its.length - (i + 1) < its.length - i from by omega) (show ((i + 1) ≤ its.length ∧ (c / 4) = code / 4 ^ (i + 1)) ∧ L0 = selK its (dg code 4 0) (i + 1) ∧ L1 = selK its (dg code 4 1) (i + 1) ∧ L2 = selK its (dg code 4 2) (i + 1) ∧ (L3 ++ [its[i]]) = selK its (dg code 4 3) (i + 1) from ⟨⟨by omega, hnc⟩, n0, n1, n2, n3⟩))
                · (repeat' (first | exact all_mt | refine all_up ?_ ?_)) <;> first | exact .inl ⟨rfl, rfl⟩ | exact .inr ⟨rfl, fun _ h => by cases h⟩ | exact .inl ⟨rfl, by first | rfl | assumption | exact (its_pure _)⟩
                · (repeat' (first | exact all_mt | refine all_up ?_ ?_)) <;> first | exact ⟨rfl, _, rfl, .inr ⟨rfl, rfl⟩⟩ | exact ⟨rfl, _, rfl, .inl rfl⟩ | exact ⟨rfl, _, rfl, .inr ⟨rfl, by first | rfl | assumption | exact (its_pure _)⟩⟩
            · have g3 : decide ((i : Int) < (its.length : Int)) = false := decide_eq_false (by omega)
              clear ihC4
              repeat (refine W.seq ?_)
              refine W.region 129 130 (by decide) rfl rfl ?_
              refine RW.opd rfl rfl (LO.lss rfl rfl rfl) ?_
              refine RW.nil ?_
              repeat (refine W.seq ?_)
              refine W.cond_f rfl (by first | rfl | assumption) ?_
              refine W.exit ?_
              have hie : i = its.length := by omega
              rw [hie] at h0
              rw [hie] at h1
              rw [hie] at h2
              rw [hie] at h3
              refine W.frzc (q := 1) (j := 0) (r := 2) rfl rfl (by decide) rfl (its_all rfl) (its_pure _) (Sp.lit rfl) ?_
              refine W.frzc (q := 1) (j := 1) (r := 3) rfl rfl (by decide) rfl (its_all rfl) (its_pure _) (Sp.lit rfl) ?_
              refine W.frzc (q := 1) (j := 2) (r := 4) rfl rfl (by decide) rfl (its_all rfl) (its_pure _) (Sp.lit rfl) ?_
              refine W.frzc (q := 1) (j := 3) (r := 5) rfl rfl (by decide) rfl (its_all rfl) (its_pure _) (Sp.lit rfl) ?_
              repeat (refine W.seq ?_)
              refine W.region 175 176 (by decide) rfl rfl ?_
              refine RW.opd rfl rfl (LO.assign rfl rfl) ?_
              refine RW.nil ?_
              repeat (refine W.seq ?_)
              refine W.region 180 183 (by decide) rfl rfl ?_
              refine RW.opd rfl rfl (LO.move rfl rfl) ?_
              refine RW.opd rfl rfl (LO.len rfl rfl ty34) ?_
              refine RW.opd rfl rfl (LO.move rfl rfl) ?_
              refine RW.nil ?_
              obtain ⟨M, hM⟩ : ∃ M, [L0, L1, L2, L3] = M := ⟨_, rfl⟩
              have hMl : M.length = 4 := by rw [← hM]; rfl
              have hMb : ∀ c ∈ M, c.length ≤ 5 := by rw [← hM]; intro c hcm; simp only [List.mem_cons, List.not_mem_nil, or_false] at hcm; rcases hcm with rfl | rfl | rfl | rfl <;> omega
              have hMk : M.all (okS f ls) = false := by
                cases hma : M.all (okS f ls) with
                | false => rfl
                | true =>
                  refine absurd (fun j hj => ?_) hlf
                  have hma := List.all_eq_true.1 hma
                  rw [← hM] at hma
                  rcases (show j = 0 ∨ j = 1 ∨ j = 2 ∨ j = 3 by omega) with rfl | rfl | rfl | rfl
                  · rw [← h0]; exact hma _ (by simp)
                  · rw [← h1]; exact hma _ (by simp)
                  · rw [← h2]; exact hma _ (by simp)
                  · rw [← h3]; exact hma _ (by simp)
              rw [show [AV.isl (itsC L0) L0.length, AV.isl (itsC L1) L1.length, AV.isl (itsC L2) L2.length, AV.isl (itsC L3) L3.length] = gsC M from by rw [← hM]; rfl]
              repeat (refine W.seq ?_)
              refine W.block ?_
              refine W.rename [(0, 0), (1, 1)] 2 (T' := up (up (up (up (up (up (up (up (up (up mt 3 (some (.own 0 0))) 4 (some (.isl (ldsC ls) ls.length))) 5 (some (.isl (itsC its) its.length))) 8 (some (.base (.int .i64 4)))) 9 (some (.base (.int .i64 (p : Int))))) 10 (some (.base (.int .i64 (code : Int))))) 15 (some (.base (.bool true)))) 91 (some (.osl 1 0 4 1))) 92 (some (.base (.int .i64 4)))) 93 (some (.base (.int .i64 (0 : Int))))) (H' := up (up mt 0 (some (fabC f))) 1 (some (gsC M))) (by decide) ?_ ?_ ?_
              · (repeat' (first | exact all_mt | refine all_up ?_ ?_)) <;> first | exact .inl ⟨rfl, rfl⟩ | exact .inr ⟨rfl, fun _ h => by cases h⟩ | exact .inl ⟨rfl, by first | rfl | assumption | exact (gsC_pure _)⟩
              · (repeat' (first | exact all_mt | refine all_up ?_ ?_)) <;> first | exact ⟨rfl, _, rfl, .inr ⟨rfl, rfl⟩⟩ | exact ⟨rfl, _, rfl, .inl rfl⟩ | exact ⟨rfl, _, rfl, .inr ⟨rfl, by first | rfl | assumption | exact (gsC_pure _)⟩⟩
              refine W.loop_ind (α := Nat × Bool) (fun x => 4 - x.1) 2 (fun x => up (up (up (up (up (up (up (up (up (up mt 3 (some (.own 0 0))) 4 (some (.isl (ldsC ls) ls.length))) 5 (some (.isl (itsC its) its.length))) 8 (some (.base (.int .i64 4)))) 9 (some (.base (.int .i64 (p : Int))))) 10 (some (.base (.int .i64 (code : Int))))) 15 (some (.base (.bool x.2)))) 91 (some (.osl 1 0 4 1))) 92 (some (.base (.int .i64 4)))) 93 (some (.base (.int .i64 (x.1 : Int))))) (fun x => up (up mt 0 (some (fabC f))) 1 (some (gsC M))) (fun x => x.1 ≤ 4 ∧ x.2 = (M.take x.1).all (okS f ls)) (0, true) (show 0 ≤ 4 ∧ true = (M.take 0).all (okS f ls) from ⟨Nat.zero_le _, rfl⟩) ?_
              rintro ⟨k, o⟩ hID4 ihD4
              try (dsimp only at hID4)
              try dsimp only
              obtain ⟨hk, ho⟩ := hID4
              by_cases hc3 : k < 4
              · have g4 : decide ((k : Int) < 4) = true := decide_eq_true (by omega)
                have hkm : k < M.length := by omega
                have hkb := hMb _ (List.getElem_mem hkm)
                have hsf := safeX_any f ls M[k] (by omega) (by omega) (by omega)
                repeat (refine W.seq ?_)
                refine W.region 187 188 (by decide) rfl rfl ?_
                refine RW.opd rfl rfl (LO.lss rfl rfl rfl) ?_
                refine RW.nil ?_
                repeat (refine W.seq ?_)
                refine W.cond_t rfl (by first | rfl | assumption) ?_
                refine W.skip ?_
                repeat (refine W.seq ?_)
                refine W.block ?_
                repeat (refine W.seq ?_)
                refine W.region 192 195 (by decide) rfl rfl ?_
                refine RW.opd rfl rfl (LO.indexAddr rfl rfl rfl rfl ty34 ty22 ?_) ?_; (· (first | omega | decide | assumption | fail | (simp; done) | (simp; omega)))
                refine RW.opd rfl rfl (LO.load rfl rfl rfl (gs_nat hkm) ty22 rfl) ?_
                refine RW.opd rfl rfl (LO.assign rfl rfl) ?_
                refine RW.nil ?_
                cases o
                case' false =>
                  have hnx := all_take_false (okS f ls) hkm ho.symm
                  repeat (refine W.seq ?_)
                  refine W.region 199 213 (by decide) rfl rfl ?_
                  refine RW.opd rfl rfl (LO.move rfl rfl) ?_
                  refine RW.opd rfl rfl (LO.move rfl rfl) ?_
                  refine RW.sd rfl rfl rfl ?_ rfl ?_; (· (first | rfl | assumption))
                  refine RW.sd rfl rfl rfl ?_ rfl ?_; (· (first | rfl | assumption))
                  refine RW.sd rfl rfl rfl ?_ rfl ?_; (· (first | rfl | assumption))
                  refine RW.sd rfl rfl rfl ?_ rfl ?_; (· (first | rfl | assumption))
                  refine RW.ud rfl rfl rfl rfl ?_
                  refine RW.ud rfl rfl rfl rfl ?_
                  refine RW.ud rfl rfl rfl rfl ?_
                  refine RW.ud rfl rfl rfl rfl ?_
                  refine RW.ud rfl rfl rfl rfl ?_
                  refine RW.sd rfl rfl rfl ?_ rfl ?_; (· (first | rfl | assumption))
                  refine RW.opd rfl rfl (LO.pick_f rfl rfl ?_ rfl) ?_; (· (first | rfl | assumption))
                  refine RW.opd rfl rfl (LO.assign rfl rfl) ?_
                  refine RW.nil ?_
                  repeat (refine W.seq ?_)
                  refine W.region 217 219 (by decide) rfl rfl ?_
                  refine RW.opd rfl rfl (LO.add_in rfl rfl rfl ?_) ?_; (· (first | exact IntWalk.i64_in _ (by omega) | assumption))
                  refine RW.opd rfl rfl (LO.move rfl rfl) ?_
                  refine RW.nil ?_
                  refine WL.rename [(0, 0), (1, 1)] 2 (by decide) ?_ ?_ (ihD4 ((k + 1), false) (show 4 - (k + 1) < 4 - k from by omega) (show (k + 1) ≤ 4 ∧ false = (M.take (k + 1)).all (okS f ls) from ⟨by omega, hnx.symm⟩))
                  · (repeat' (first | exact all_mt | refine all_up ?_ ?_)) <;> first | exact .inl ⟨rfl, rfl⟩ | exact .inr ⟨rfl, fun _ h => by cases h⟩ | exact .inl ⟨rfl, by first | rfl | assumption | exact (gsC_pure _)⟩
                  · (repeat' (first | exact all_mt | refine all_up ?_ ?_)) <;> first | exact ⟨rfl, _, rfl, .inr ⟨rfl, rfl⟩⟩ | exact ⟨rfl, _, rfl, .inl rfl⟩ | exact ⟨rfl, _, rfl, .inr ⟨rfl, by first | rfl | assumption | exact (gsC_pure _)⟩⟩
                case' true =>
                  have hnx := all_take_true (okS f ls) hkm ho.symm
                  by_cases hz : M[k].length = 0
                  · have k2 : ((M[k].length : Int) == 0) = true := by rw [hz]; rfl
                    have hok2 : okS f ls M[k] = true := by unfold okS; rw [hz]; rfl
                    repeat (refine W.seq ?_)
                    refine W.region 199 213 (by decide) rfl rfl ?_
                    refine RW.opd rfl rfl (LO.move rfl rfl) ?_
                    refine RW.opd rfl rfl (LO.move rfl rfl) ?_
                    refine RW.gd rfl rfl rfl ?_ rfl (LO.move rfl rfl) ?_; (· (first | rfl | assumption))
                    refine RW.gd rfl rfl rfl ?_ rfl (LO.len_isl rfl rfl rfl ty22) ?_; (· (first | rfl | assumption))
                    refine RW.gd rfl rfl rfl ?_ rfl (LO.eql rfl rfl rfl) ?_; (· (first | rfl | assumption))
                    refine RW.gd rfl rfl rfl ?_ rfl (LO.move rfl rfl) ?_; (· (first | rfl | assumption))
                    refine RW.sd rfl rfl rfl ?_ rfl ?_; (· (first | rfl | assumption))
                    refine RW.sd rfl rfl rfl ?_ rfl ?_; (· (first | rfl | assumption))
                    refine RW.sd rfl rfl rfl ?_ rfl ?_; (· (first | rfl | assumption))
                    refine RW.sd rfl rfl rfl ?_ rfl ?_; (· (first | rfl | assumption))
                    refine RW.sd rfl rfl rfl ?_ rfl ?_; (· (first | rfl | assumption))
                    refine RW.gd rfl rfl rfl ?_ rfl (LO.pick_t rfl rfl ?_ rfl) ?_; (· (first | rfl | assumption)); (· (first | rfl | assumption))
                    refine RW.opd rfl rfl (LO.pick_t rfl rfl ?_ rfl) ?_; (· (first | rfl | assumption))
                    refine RW.opd rfl rfl (LO.assign rfl rfl) ?_
                    refine RW.nil ?_
                    rw [k2]
                    repeat (refine W.seq ?_)
                    refine W.region 217 219 (by decide) rfl rfl ?_
                    refine RW.opd rfl rfl (LO.add_in rfl rfl rfl ?_) ?_; (· (first | exact IntWalk.i64_in _ (by omega) | assumption))
                    refine RW.opd rfl rfl (LO.move rfl rfl) ?_
                    refine RW.nil ?_
                    refine WL.rename [(0, 0), (1, 1)] 2 (by decide) ?_ ?_ (ihD4 ((k + 1), true) (show 4 - (k + 1) < 4 - k from by omega) (show (k + 1) ≤ 4 ∧ true = (M.take (k + 1)).all (okS f ls) from ⟨by omega, by rw [hnx, hok2]⟩))
                    · (repeat' (first | exact all_mt | refine all_up ?_ ?_)) <;> first | exact .inl ⟨rfl, rfl⟩ | exact .inr ⟨rfl, fun _ h => by cases h⟩ | exact .inl ⟨rfl, by first | rfl | assumption | exact (gsC_pure _)⟩
                    · (repeat' (first | exact all_mt | refine all_up ?_ ?_)) <;> first | exact ⟨rfl, _, rfl, .inr ⟨rfl, rfl⟩⟩ | exact ⟨rfl, _, rfl, .inl rfl⟩ | exact ⟨rfl, _, rfl, .inr ⟨rfl, by first | rfl | assumption | exact (gsC_pure _)⟩⟩
                  · have k2 : ((M[k].length : Int) == 0) = false := by simpa using fun h => hz (by simp [h])
                    have hok2 : okS f ls M[k] = (safeE f ls M[k] == 0) := by unfold okS; rw [show (M[k].length == 0) = false from by simpa using fun h => hz (by simp [h])]; rfl
                    repeat (refine W.seq ?_)
                    refine W.region 199 213 (by decide) rfl rfl ?_
                    refine RW.opd rfl rfl (LO.move rfl rfl) ?_
                    refine RW.opd rfl rfl (LO.move rfl rfl) ?_
                    refine RW.gd rfl rfl rfl ?_ rfl (LO.move rfl rfl) ?_; (· (first | rfl | assumption))
                    refine RW.gd rfl rfl rfl ?_ rfl (LO.len_isl rfl rfl rfl ty22) ?_; (· (first | rfl | assumption))
                    refine RW.gd rfl rfl rfl ?_ rfl (LO.eql rfl rfl rfl) ?_; (· (first | rfl | assumption))
                    refine RW.gd rfl rfl rfl ?_ rfl (LO.move rfl rfl) ?_; (· (first | rfl | assumption))
                    refine RW.gd rfl rfl rfl ?_ rfl (LO.load_agg rfl rfl rfl ty28 rfl (Tk.lit rfl)) ?_; (· (first | rfl | assumption))
                    refine RW.gd rfl rfl rfl ?_ rfl (LO.move rfl rfl) ?_; (· (first | rfl | assumption))
                    refine RW.gd rfl rfl rfl ?_ rfl (LO.move rfl rfl) ?_; (· (first | rfl | assumption))
                    refine RW.gd rfl rfl rfl ?_ rfl (LO.call0 (fr := []) rfl rfl (hsf) fok17 (.cons rfl (.pure rfl) (.cons rfl (.pure rfl) (.cons rfl (.pure rfl) .nil))) rfl) ?_; (· (first | rfl | assumption))
                    refine RW.gd rfl rfl rfl ?_ rfl (LO.eql rfl rfl rfl) ?_; (· (first | rfl | assumption))
                    refine RW.gd rfl rfl rfl ?_ rfl (LO.pick_f rfl rfl ?_ rfl) ?_; (· (first | rfl | assumption)); (· (first | rfl | assumption))
                    refine RW.opd rfl rfl (LO.pick_t rfl rfl ?_ rfl) ?_; (· (first | rfl | assumption))
                    refine RW.opd rfl rfl (LO.assign rfl rfl) ?_
                    refine RW.nil ?_
                    repeat (refine W.seq ?_)
                    refine W.region 217 219 (by decide) rfl rfl ?_
                    refine RW.opd rfl rfl (LO.add_in rfl rfl rfl ?_) ?_; (· (first | exact IntWalk.i64_in _ (by omega) | assumption))
                    refine RW.opd rfl rfl (LO.move rfl rfl) ?_
                    refine RW.nil ?_
                    refine WL.rename [(0, 0), (1, 1)] 2 (by decide) ?_ ?_ (ihD4 ((k + 1), ((safeE f ls M[k] == 0))) (show 4 - (k + 1) < 4 - k from by omega) (show (k + 1) ≤ 4 ∧ ((safeE f ls M[k] == 0)) = (M.take (k + 1)).all (okS f ls) from ⟨by omega, by rw [hnx, hok2]⟩))
                    · (repeat' (first | exact all_mt | refine all_up ?_ ?_)) <;> first | exact .inl ⟨rfl, rfl⟩ | exact .inr ⟨rfl, fun _ h => by cases h⟩ | exact .inl ⟨rfl, by first | rfl | assumption | exact (gsC_pure _)⟩
                    · (repeat' (first | exact all_mt | refine all_up ?_ ?_)) <;> first | exact ⟨rfl, _, rfl, .inr ⟨rfl, rfl⟩⟩ | exact ⟨rfl, _, rfl, .inl rfl⟩ | exact ⟨rfl, _, rfl, .inr ⟨rfl, by first | rfl | assumption | exact (gsC_pure _)⟩⟩
              · have g4 : decide ((k : Int) < 4) = false := decide_eq_false (by omega)
                have hof : o = false := by rw [ho, show k = M.length by omega, List.take_length, hMk]
                subst hof
                repeat (refine W.seq ?_)
                refine W.region 187 188 (by decide) rfl rfl ?_
                refine RW.opd rfl rfl (LO.lss rfl rfl rfl) ?_
                refine RW.nil ?_
                repeat (refine W.seq ?_)
                refine W.cond_f rfl (by first | rfl | assumption) ?_
                refine W.exit ?_
                repeat (refine W.seq ?_)
                refine W.region 223 224 (by decide) rfl rfl ?_
                refine RW.opd rfl rfl (LO.move rfl rfl) ?_
                refine RW.nil ?_
                repeat (refine W.seq ?_)
                refine W.cond_f rfl (by first | rfl | assumption) ?_
                refine W.skip ?_
                repeat (refine W.seq ?_)
                refine W.region 233 236 (by decide) rfl rfl ?_
                refine RW.opd rfl rfl (LO.move rfl rfl) ?_
                refine RW.opd rfl rfl (LO.add_in rfl rfl rfl ?_) ?_; (· (first | exact IntWalk.i64_in _ (by omega) | assumption))
                refine RW.opd rfl rfl (LO.assign rfl rfl) ?_
                refine RW.nil ?_
                refine WL.rename [(0, 0)] 1 (by decide) ?_ ?_ (ihB4 (code + 1) (show p - (code + 1) < p - code from by omega) (show (code + 1) ≤ p from by omega))
                · (repeat' (first | exact all_mt | refine all_up ?_ ?_)) <;> first | exact .inl ⟨rfl, rfl⟩ | exact .inr ⟨rfl, fun _ h => by cases h⟩ | exact .inl ⟨rfl, by first | rfl | assumption ⟩
                · (repeat' (first | exact all_mt | refine all_up ?_ ?_)) <;> first | exact ⟨rfl, _, rfl, .inr ⟨rfl, rfl⟩⟩ | exact ⟨rfl, _, rfl, .inl rfl⟩ | exact ⟨rfl, _, rfl, .inr ⟨rfl, by first | rfl | assumption ⟩⟩
          · have g2 : decide ((code : Int) < (p : Int)) = false := decide_eq_false (by omega)
            repeat (refine W.seq ?_)
            refine W.region 102 105 (by decide) rfl rfl ?_
            refine RW.opd rfl rfl (LO.move rfl rfl) ?_
            refine RW.opd rfl rfl (LO.move rfl rfl) ?_
            refine RW.opd rfl rfl (LO.lss rfl rfl rfl) ?_
            refine RW.nil ?_
            repeat (refine W.seq ?_)
            refine W.cond_f rfl (by first | rfl | assumption) ?_
            refine W.exit ?_
            repeat (refine W.seq ?_)
            refine W.region 240 242 (by decide) rfl rfl ?_
            refine RW.opd rfl rfl (LO.call0 (fr := []) rfl rfl (haw) fok8 .nil rfl) ?_
            refine RW.opd rfl rfl (LO.assign rfl rfl) ?_
            refine RW.nil ?_
            repeat (refine W.seq ?_)
            refine W.ret ⟨.inl rfl, _, mt, RVs.cons (RV.tmp rfl) (RVs.nil), all_mt, ?_⟩
            exact ⟨rfl, rfl⟩
end Go.Proofs.YtbjfaepjpmogjaaDoor
