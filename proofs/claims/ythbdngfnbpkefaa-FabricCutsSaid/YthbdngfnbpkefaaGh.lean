/-
  FabricCuts returns true.
-/
import Derived.Test.YthbdngfnbpkefaaGf
namespace Go.Proofs.Ythbdngfnbpkefaa
open Go.RowKit

set_option maxHeartbeats 1000000 in
theorem cuts_law (l : List Int) (hl : l.length ≤ 9223372036854775807) : AFn Try.prog 12 0 [.isl (intsC l) l.length] mt (.base (.bool true)) mt := by
  refine AFn.eq Try.func12 rfl rfl (Nat.le_of_ble_eq_true rfl) ?_
  have hnew := new_any l
  obtain ⟨v, H', hcall, f, a1, ⟨hf, hsw⟩, rfl, rfl⟩ := fabric_any l 0 1 (by decide) (by decide) hl
  have hp := parts_any f hf.fs
  have hcu := cuts_any f hf.fs
  have hwk := works_any f
  have hfs := flow_any f hf.fs hf.val
  have hfl := failed_any f
  have hpf : ∀ i : Int, AFn Try.prog 38 0 [.agg (fabC (failF f i))] mt (.isl (intsC (partsF (failF f i))) f.dead.length) mt := fun i => parts_any (failF f i) ⟨hf.fs.sw, hf.fs.n8, hf.fs.nl⟩
  have hL := hf.lk
  have hs1 := hf.sw1
  have hs7 := hf.sw7
  have hdd := hf.dead
  have h24 := hf.nlinks
  have hdn := hf.down
  have hpl := parts_len f
  have hin : ∀ q : List Int, q.length = f.dead.length → AFn Try.prog 37 0 [.isl (intsC q) f.dead.length, .isl (intsC (partsF f)) f.dead.length] mt (.base (.bool (decide (q = partsF f)))) mt := fun q hq => by
    have := ints13_any q (partsF f) (by omega)
    rw [hq, hpl] at this
    exact this
  have hik : Try.prog.underlying 3 = some (.int .i64) := lay_int ty3
  have hmk : MKey Try.prog 3 (kdOf Try.prog 3) := MKey.of (Go.Maps.int_keyed hik)
  have hne : ((f.dead.length : Int) != f.sw) = false := by rw [hdd]; simp
  have hcl : (cutsF f).length ≤ 17 := by have := cutsK_len f f.links.length; unfold cutsF; omega
  repeat (refine W.seq ?_)
  refine W.region 0 1 (by decide) rfl rfl ?_
  refine RW.opd rfl rfl (LO.assign rfl rfl) ?_
  refine RW.nil ?_
  repeat (refine W.seq ?_)
  refine W.region 5 10 (by decide) rfl rfl ?_
  refine RW.opd rfl rfl (LO.move rfl rfl) ?_
  refine RW.opd rfl rfl (LO.callN (fr := []) rfl rfl (hnew) fok16 (.cons rfl (.pure rfl) .nil) rfl (by decide)) ?_
  refine RW.opd rfl rfl (LO.call1 (fr := []) rfl rfl (hcall) fok17 (.own rfl rfl (.cons rfl (.pure rfl) .nil)) rfl rfl rfl (List.cons_ne_nil _ _) (by decide) rfl) ?_
  refine RW.opd rfl rfl (LO.alloc rfl ty25) ?_
  refine RW.opn rfl rfl (LO.store rfl rfl rfl rfl rfl ty25 rfl (by decide) (Sp.lit rfl)) ?_
  refine RW.nil ?_
  repeat (refine W.seq ?_)
  refine W.region 14 17 (by decide) rfl rfl ?_
  refine RW.opd rfl rfl (LO.load_agg rfl rfl rfl ty25 rfl (Tk.lit rfl)) ?_
  refine RW.opd rfl rfl (LO.call0 (fr := []) rfl rfl (hp) fok38 (.cons rfl (.pure rfl) .nil) rfl) ?_
  refine RW.opd rfl rfl (LO.assign rfl rfl) ?_
  refine RW.nil ?_
  repeat (refine W.seq ?_)
  refine W.region 21 26 (by decide) rfl rfl ?_
  refine RW.opd rfl rfl (LO.move rfl rfl) ?_
  refine RW.opd rfl rfl (LO.len_isl rfl rfl rfl ty26) ?_
  refine RW.opd rfl rfl (LO.fieldAddr rfl rfl ty25 rfl (by decide)) ?_
  refine RW.opd rfl rfl (LO.load rfl rfl rfl rfl ty3 rfl) ?_
  refine RW.opd rfl rfl (LO.neq rfl rfl rfl) ?_
  refine RW.nil ?_
  repeat (refine W.seq ?_)
  refine W.cond_f rfl (by first | rfl | assumption) ?_
  refine W.skip ?_
  repeat (refine W.seq ?_)
  refine W.region 35 37 (by decide) rfl rfl ?_
  refine RW.opd rfl rfl (LO.makeMap (kdOf Try.prog 3) rfl) ?_
  refine RW.opd rfl rfl (LO.assign rfl rfl) ?_
  refine RW.nil ?_
  repeat (refine W.seq ?_)
  refine W.region 41 45 (by decide) rfl rfl ?_
  refine RW.opd rfl rfl (LO.load_agg rfl rfl rfl ty25 rfl (Tk.lit rfl)) ?_
  refine RW.opd rfl rfl (LO.call0 (fr := []) rfl rfl (hcu) fok39 (.cons rfl (.pure rfl) .nil) rfl) ?_
  refine RW.opd rfl rfl (LO.len_isl rfl rfl rfl ty26) ?_
  refine RW.opd rfl rfl (LO.move rfl rfl) ?_
  refine RW.nil ?_
  rw [← setM_nil]
  repeat (refine W.seq ?_)
  refine W.block ?_
  refine W.rename [(0, 8), (1, 35)] 2 (T' := up (up (up (up (up (up mt 3 (some (.own 0 0))) 4 (some (.isl (intsC (partsF f)) f.dead.length))) 5 (some (.mref 1))) 23 (some (intsV (cutsF f)))) 24 (some (.base (.int .i64 ((cutsF f).length : Int))))) 25 (some (.base (.int .i64 (0 : Int))))) (H' := up (up mt 0 (some (fabC f))) 1 (some ([.mp (kdOf Try.prog 3) (setM ((cutsF f).take 0))]))) (by decide) ?_ ?_ ?_
  · (repeat' (first | exact all_mt | refine all_up ?_ ?_)) <;> first | exact .inl ⟨rfl, rfl⟩ | exact .inr ⟨rfl, fun _ h => by cases h⟩ | exact .inl ⟨rfl, by first | rfl | assumption | exact (intsC_pure _) | exact (boolsC_pure _)⟩
  · (repeat' (first | exact all_mt | refine all_up ?_ ?_)) <;> first | exact ⟨rfl, _, rfl, .inr ⟨rfl, rfl⟩⟩ | exact ⟨rfl, _, rfl, .inl rfl⟩ | exact ⟨rfl, _, rfl, .inr ⟨rfl, by first | rfl | assumption | exact (intsC_pure _) | exact (boolsC_pure _)⟩⟩
  refine W.loop_ind (α := Nat) (fun x => (cutsF f).length - x) 2 (fun x => up (up (up (up (up (up mt 3 (some (.own 0 0))) 4 (some (.isl (intsC (partsF f)) f.dead.length))) 5 (some (.mref 1))) 23 (some (intsV (cutsF f)))) 24 (some (.base (.int .i64 ((cutsF f).length : Int))))) 25 (some (.base (.int .i64 (x : Int))))) (fun x => up (up mt 0 (some (fabC f))) 1 (some ([.mp (kdOf Try.prog 3) (setM ((cutsF f).take x))]))) (fun x => x ≤ (cutsF f).length) 0 (show 0 ≤ (cutsF f).length from Nat.zero_le _) ?_
  rintro j hIA ihA
  try (dsimp only at hIA)
  try dsimp only
  by_cases hc : j < (cutsF f).length
  · have g1 : decide ((j : Int) < ((cutsF f).length : Int)) = true := decide_eq_true (by omega)
    obtain ⟨q0, q1⟩ := cutsF_at hc
    have htk : (cutsF f).take (j + 1) = (cutsF f).take j ++ [gI (cutsF f) j] := by rw [gI_at hc, List.take_add_one]; simp [hc]
    repeat (refine W.seq ?_)
    refine W.region 49 50 (by decide) rfl rfl ?_
    refine RW.opd rfl rfl (LO.lss rfl rfl rfl) ?_
    refine RW.nil ?_
    repeat (refine W.seq ?_)
    refine W.cond_t rfl (by first | rfl | assumption) ?_
    refine W.skip ?_
    repeat (refine W.seq ?_)
    refine W.block ?_
    repeat (refine W.seq ?_)
    refine W.region 54 57 (by decide) rfl rfl ?_
    refine RW.opd rfl rfl (LO.indexAddr_isl rfl rfl rfl rfl rfl ty26 ty3 ?_) ?_; (· (first | omega | decide | assumption | fail | (simp; done) | (simp; omega)))
    refine RW.opd rfl rfl (LO.load_imm rfl rfl (ni_at1 (k := j) hc) ty3 rfl) ?_
    refine RW.opd rfl rfl (LO.assign rfl rfl) ?_
    refine RW.nil ?_
    repeat (refine W.seq ?_)
    refine W.region 61 64 (by decide) rfl rfl ?_
    refine RW.opd rfl rfl (LO.move rfl rfl) ?_
    refine RW.opd rfl rfl (LO.move rfl rfl) ?_
    refine RW.opn rfl rfl (LO.mapUpdate rfl rfl rfl (KV.base _) rfl rfl ty52 hmk (kd_i64 hik (by omega) (by omega)) (m' := setM ((cutsF f).take (j + 1))) (by rw [htk]; exact setM_at _ _ _) (by rw [htk]; exact setM_else hik _ _)) ?_
    refine RW.nil ?_
    repeat (refine W.seq ?_)
    refine W.region 68 70 (by decide) rfl rfl ?_
    refine RW.opd rfl rfl (LO.add_in rfl rfl rfl ?_) ?_; (· (first | exact IntWalk.i64_in _ (by omega) | assumption))
    refine RW.opd rfl rfl (LO.move rfl rfl) ?_
    refine RW.nil ?_
    refine WL.rename [(0, 0), (1, 1)] 2 (by decide) ?_ ?_ (ihA (j + 1) (show (cutsF f).length - (j + 1) < (cutsF f).length - j from by omega) (show (j + 1) ≤ (cutsF f).length from by omega))
    · (repeat' (first | exact all_mt | refine all_up ?_ ?_)) <;> first | exact .inl ⟨rfl, rfl⟩ | exact .inr ⟨rfl, fun _ h => by cases h⟩ | exact .inl ⟨rfl, by first | rfl | assumption | exact (intsC_pure _) | exact (boolsC_pure _)⟩
    · (repeat' (first | exact all_mt | refine all_up ?_ ?_)) <;> first | exact ⟨rfl, _, rfl, .inr ⟨rfl, rfl⟩⟩ | exact ⟨rfl, _, rfl, .inl rfl⟩ | exact ⟨rfl, _, rfl, .inr ⟨rfl, by first | rfl | assumption | exact (intsC_pure _) | exact (boolsC_pure _)⟩⟩
  · have g1 : decide ((j : Int) < ((cutsF f).length : Int)) = false := decide_eq_false (by omega)
    repeat (refine W.seq ?_)
    refine W.region 49 50 (by decide) rfl rfl ?_
    refine RW.opd rfl rfl (LO.lss rfl rfl rfl) ?_
    refine RW.nil ?_
    repeat (refine W.seq ?_)
    refine W.cond_f rfl (by first | rfl | assumption) ?_
    refine W.exit ?_
    clear ihA
    obtain rfl : j = (cutsF f).length := by omega
    rw [List.take_length]
    repeat (refine W.seq ?_)
    refine W.region 74 78 (by decide) rfl rfl ?_
    refine RW.opd rfl rfl (LO.fieldAddr rfl rfl ty25 rfl (by decide)) ?_
    refine RW.opd rfl rfl (LO.load rfl rfl rfl rfl ty22 rfl) ?_
    refine RW.opd rfl rfl (LO.len_isl rfl rfl rfl ty22) ?_
    refine RW.opd rfl rfl (LO.move rfl rfl) ?_
    refine RW.nil ?_
    repeat (refine W.seq ?_)
    refine W.block ?_
    refine W.rename [(0, 0), (1, 1)] 2 (T' := up (up (up (up (up mt 3 (some (.own 0 0))) 4 (some (.isl (intsC (partsF f)) f.dead.length))) 5 (some (.mref 1))) 34 (some (.base (.int .i64 (f.links.length : Int))))) 35 (some (.base (.int .i64 (0 : Int))))) (H' := up (up mt 0 (some (fabC f))) 1 (some ([.mp (kdOf Try.prog 3) (setM (cutsF f))]))) (by decide) ?_ ?_ ?_
    · (repeat' (first | exact all_mt | refine all_up ?_ ?_)) <;> first | exact .inl ⟨rfl, rfl⟩ | exact .inr ⟨rfl, fun _ h => by cases h⟩ | exact .inl ⟨rfl, by first | rfl | assumption | exact (intsC_pure _) | exact (boolsC_pure _)⟩
    · (repeat' (first | exact all_mt | refine all_up ?_ ?_)) <;> first | exact ⟨rfl, _, rfl, .inr ⟨rfl, rfl⟩⟩ | exact ⟨rfl, _, rfl, .inl rfl⟩ | exact ⟨rfl, _, rfl, .inr ⟨rfl, by first | rfl | assumption | exact (intsC_pure _) | exact (boolsC_pure _)⟩⟩
    refine W.loop_ind (α := Nat) (fun x => f.links.length - x) 2 (fun x => up (up (up (up (up mt 3 (some (.own 0 0))) 4 (some (.isl (intsC (partsF f)) f.dead.length))) 5 (some (.mref 1))) 34 (some (.base (.int .i64 (f.links.length : Int))))) 35 (some (.base (.int .i64 (x : Int))))) (fun x => up (up mt 0 (some (fabC f))) 1 (some ([.mp (kdOf Try.prog 3) (setM (cutsF f))]))) (fun x => x ≤ f.links.length) 0 (show 0 ≤ f.links.length from Nat.zero_le _) ?_
    rintro i hIB ihB
    try (dsimp only at hIB)
    try dsimp only
    by_cases hc2 : i < f.links.length
    · have g2 : decide ((i : Int) < (f.links.length : Int)) = true := decide_eq_true (by omega)
      repeat (refine W.seq ?_)
      refine W.region 82 83 (by decide) rfl rfl ?_
      refine RW.opd rfl rfl (LO.lss rfl rfl rfl) ?_
      refine RW.nil ?_
      repeat (refine W.seq ?_)
      refine W.cond_t rfl (by first | rfl | assumption) ?_
      refine W.skip ?_
      repeat (refine W.seq ?_)
      refine W.block ?_
      repeat (refine W.seq ?_)
      refine W.region 87 89 (by decide) rfl rfl ?_
      refine RW.opd rfl rfl (LO.move rfl rfl) ?_
      refine RW.opd rfl rfl (LO.assign rfl rfl) ?_
      refine RW.nil ?_
      cases hwi : worksB f i with
      | false =>
        have hnc : decide ((i : Int) ∈ cutsF f) = false := decide_eq_false fun h => by
          have h2 := (cutsF_mem.1 h).2
          unfold cutB at h2
          rw [show f.links[i]? = some f.links[i] from by simp [hc2]] at h2
          simp [hwi] at h2
        have hlk := setM_get (cutsF f) .i64 (i : Int)
        rw [hnc] at hlk
        have gw : (!worksB f (i : Int)) = true := by rw [hwi]; rfl
        repeat (refine W.seq ?_)
        refine W.region 93 97 (by decide) rfl rfl ?_
        refine RW.opd rfl rfl (LO.load_agg rfl rfl rfl ty25 rfl (Tk.lit rfl)) ?_
        refine RW.opd rfl rfl (LO.move rfl rfl) ?_
        refine RW.opd rfl rfl (LO.call0 (fr := []) rfl rfl (hwk _) fok22 (.cons rfl (.pure rfl) (.cons rfl (.pure rfl) .nil)) rfl) ?_
        refine RW.opd rfl rfl (LO.not rfl rfl) ?_
        refine RW.nil ?_
        repeat (refine W.seq ?_)
        refine W.cond_t rfl (by first | rfl | assumption) ?_
        repeat (refine W.seq ?_)
        refine W.region 101 104 (by decide) rfl rfl ?_
        refine RW.opd rfl rfl (LO.move rfl rfl) ?_
        refine RW.opd rfl rfl (LO.move rfl rfl) ?_
        refine RW.opd rfl rfl (LO.lookup rfl rfl rfl (KV.base _) rfl ty52 hmk (kd_i64 hik (by omega) (by omega)) (zero_of (by kernel_rfl)) hlk) ?_
        refine RW.nil ?_
        repeat (refine W.seq ?_)
        refine W.cond_f rfl (by first | rfl | assumption) ?_
        refine W.skip ?_
        refine W.exit ?_
        repeat (refine W.seq ?_)
        refine W.region 132 134 (by decide) rfl rfl ?_
        refine RW.opd rfl rfl (LO.add_in rfl rfl rfl ?_) ?_; (· (first | exact IntWalk.i64_in _ (by omega) | assumption))
        refine RW.opd rfl rfl (LO.move rfl rfl) ?_
        refine RW.nil ?_
        refine WL.rename [(0, 0), (1, 1)] 2 (by decide) ?_ ?_ (ihB (i + 1) (show f.links.length - (i + 1) < f.links.length - i from by omega) (show (i + 1) ≤ f.links.length from by omega))
        · (repeat' (first | exact all_mt | refine all_up ?_ ?_)) <;> first | exact .inl ⟨rfl, rfl⟩ | exact .inr ⟨rfl, fun _ h => by cases h⟩ | exact .inl ⟨rfl, by first | rfl | assumption | exact (intsC_pure _) | exact (boolsC_pure _)⟩
        · (repeat' (first | exact all_mt | refine all_up ?_ ?_)) <;> first | exact ⟨rfl, _, rfl, .inr ⟨rfl, rfl⟩⟩ | exact ⟨rfl, _, rfl, .inl rfl⟩ | exact ⟨rfl, _, rfl, .inr ⟨rfl, by first | rfl | assumption | exact (intsC_pure _) | exact (boolsC_pure _)⟩⟩
      | true =>
        have hcp := cut_parts (f := f) (i := i) (by omega) hwi
        have hlk := setM_get (cutsF f) .i64 (i : Int)
        have hdc : decide ((i : Int) ∈ cutsF f) = cutB f i := by
          cases e : cutB f i with
          | true => exact decide_eq_true (cutsF_mem.2 ⟨hc2, e⟩)
          | false => exact decide_eq_false fun h => by rw [(cutsF_mem.1 h).2] at e; cases e
        rw [hdc] at hlk
        have hi0 := hin (partsF (failF f i)) (parts_len _)
        rw [hcp] at hi0
        generalize cutB f i = cb at *
        have hcc : ((!cb) == cb) = false := by cases cb <;> rfl
        have gw : (!worksB f (i : Int)) = false := by rw [hwi]; rfl
        repeat (refine W.seq ?_)
        refine W.region 93 97 (by decide) rfl rfl ?_
        refine RW.opd rfl rfl (LO.load_agg rfl rfl rfl ty25 rfl (Tk.lit rfl)) ?_
        refine RW.opd rfl rfl (LO.move rfl rfl) ?_
        refine RW.opd rfl rfl (LO.call0 (fr := []) rfl rfl (hwk _) fok22 (.cons rfl (.pure rfl) (.cons rfl (.pure rfl) .nil)) rfl) ?_
        refine RW.opd rfl rfl (LO.not rfl rfl) ?_
        refine RW.nil ?_
        repeat (refine W.seq ?_)
        refine W.cond_f rfl (by first | rfl | assumption) ?_
        refine W.skip ?_
        repeat (refine W.seq ?_)
        refine W.regionD 113 123 (by decide) rfl mixed rfl ?_
        refine RW.opd rfl rfl (LO.load_agg rfl rfl rfl ty25 rfl (Tk.lit rfl)) ?_
        refine RW.opd rfl rfl (LO.move rfl rfl) ?_
        refine RW.opd rfl rfl (LO.call0 (fr := []) rfl rfl (hfl _ (by omega) (by omega) (by omega)) fok36 (.cons rfl (.pure rfl) (.cons rfl (.pure rfl) .nil)) rfl) ?_
        refine RW.opd rfl rfl (LO.call0 (fr := []) rfl rfl (hpf _) fok38 (.cons rfl (.pure rfl) .nil) rfl) ?_
        refine RW.opd rfl rfl (LO.move rfl rfl) ?_
        refine RW.opd rfl rfl (LO.call0 (fr := []) rfl rfl (hi0) fok37 (.cons rfl (.pure rfl) (.cons rfl (.pure rfl) .nil)) rfl) ?_
        refine RW.opd rfl rfl (LO.move rfl rfl) ?_
        refine RW.opd rfl rfl (LO.move rfl rfl) ?_
        refine RW.opd rfl rfl (LO.lookup rfl rfl rfl (KV.base _) rfl ty52 hmk (kd_i64 hik (by omega) (by omega)) (zero_of (by kernel_rfl)) hlk) ?_
        refine RW.opd rfl rfl (LO.eql_bool rfl rfl rfl ty4) ?_
        refine RW.nil ⟨by kernel_rfl, ?_⟩
        repeat (refine W.seq ?_)
        refine W.cond_f rfl (by first | rfl | assumption) ?_
        refine W.skip ?_
        repeat (refine W.seq ?_)
        refine W.region 132 134 (by decide) rfl rfl ?_
        refine RW.opd rfl rfl (LO.add_in rfl rfl rfl ?_) ?_; (· (first | exact IntWalk.i64_in _ (by omega) | assumption))
        refine RW.opd rfl rfl (LO.move rfl rfl) ?_
        refine RW.nil ?_
        refine WL.rename [(0, 0), (1, 1)] 2 (by decide) ?_ ?_ (ihB (i + 1) (show f.links.length - (i + 1) < f.links.length - i from by omega) (show (i + 1) ≤ f.links.length from by omega))
        · (repeat' (first | exact all_mt | refine all_up ?_ ?_)) <;> first | exact .inl ⟨rfl, rfl⟩ | exact .inr ⟨rfl, fun _ h => by cases h⟩ | exact .inl ⟨rfl, by first | rfl | assumption | exact (intsC_pure _) | exact (boolsC_pure _)⟩
        · (repeat' (first | exact all_mt | refine all_up ?_ ?_)) <;> first | exact ⟨rfl, _, rfl, .inr ⟨rfl, rfl⟩⟩ | exact ⟨rfl, _, rfl, .inl rfl⟩ | exact ⟨rfl, _, rfl, .inr ⟨rfl, by first | rfl | assumption | exact (intsC_pure _) | exact (boolsC_pure _)⟩⟩
    · have g2 : decide ((i : Int) < (f.links.length : Int)) = false := decide_eq_false (by omega)
      repeat (refine W.seq ?_)
      refine W.region 82 83 (by decide) rfl rfl ?_
      refine RW.opd rfl rfl (LO.lss rfl rfl rfl) ?_
      refine RW.nil ?_
      repeat (refine W.seq ?_)
      refine W.cond_f rfl (by first | rfl | assumption) ?_
      refine W.exit ?_
      clear ihB
      have hal : ∀ k : Nat, (h : k < f.dead.length) → aliveB f k = !f.dead[k] := fun k h => by
        unfold aliveB
        simp [h]
      repeat (refine W.seq ?_)
      refine W.region 138 141 (by decide) rfl rfl ?_
      refine RW.opd rfl rfl (LO.move rfl rfl) ?_
      refine RW.opd rfl rfl (LO.len_isl rfl rfl rfl ty26) ?_
      refine RW.opd rfl rfl (LO.move rfl rfl) ?_
      refine RW.nil ?_
      repeat (refine W.seq ?_)
      refine W.block ?_
      refine W.rename [(0, 0)] 1 (T' := up (up (up (up mt 3 (some (.own 0 0))) 4 (some (.isl (intsC (partsF f)) f.dead.length))) 57 (some (.base (.int .i64 (f.dead.length : Int))))) 58 (some (.base (.int .i64 (0 : Int))))) (H' := up mt 0 (some (fabC f))) (by decide) ?_ ?_ ?_
      · (repeat' (first | exact all_mt | refine all_up ?_ ?_)) <;> first | exact .inl ⟨rfl, rfl⟩ | exact .inr ⟨rfl, fun _ h => by cases h⟩ | exact .inl ⟨rfl, by first | rfl | assumption | exact (intsC_pure _) | exact (boolsC_pure _)⟩
      · (repeat' (first | exact all_mt | refine all_up ?_ ?_)) <;> first | exact ⟨rfl, _, rfl, .inr ⟨rfl, rfl⟩⟩ | exact ⟨rfl, _, rfl, .inl rfl⟩ | exact ⟨rfl, _, rfl, .inr ⟨rfl, by first | rfl | assumption | exact (intsC_pure _) | exact (boolsC_pure _)⟩⟩
      refine W.loop_ind (α := Nat) (fun x => f.dead.length - x) 1 (fun x => up (up (up (up mt 3 (some (.own 0 0))) 4 (some (.isl (intsC (partsF f)) f.dead.length))) 57 (some (.base (.int .i64 (f.dead.length : Int))))) 58 (some (.base (.int .i64 (x : Int))))) (fun x => up mt 0 (some (fabC f))) (fun x => x ≤ f.dead.length) 0 (show 0 ≤ f.dead.length from Nat.zero_le _) ?_
      rintro a hIC ihC
      try (dsimp only at hIC)
      try dsimp only
      by_cases hc3 : a < f.dead.length
      · have g3 : decide ((a : Int) < (f.dead.length : Int)) = true := decide_eq_true (by omega)
        repeat (refine W.seq ?_)
        refine W.region 145 146 (by decide) rfl rfl ?_
        refine RW.opd rfl rfl (LO.lss rfl rfl rfl) ?_
        refine RW.nil ?_
        repeat (refine W.seq ?_)
        refine W.cond_t rfl (by first | rfl | assumption) ?_
        refine W.skip ?_
        repeat (refine W.seq ?_)
        refine W.block ?_
        repeat (refine W.seq ?_)
        refine W.region 150 152 (by decide) rfl rfl ?_
        refine RW.opd rfl rfl (LO.move rfl rfl) ?_
        refine RW.opd rfl rfl (LO.assign rfl rfl) ?_
        refine RW.nil ?_
        repeat (refine W.seq ?_)
        refine W.region 156 159 (by decide) rfl rfl ?_
        refine RW.opd rfl rfl (LO.move rfl rfl) ?_
        refine RW.opd rfl rfl (LO.len_isl rfl rfl rfl ty26) ?_
        refine RW.opd rfl rfl (LO.move rfl rfl) ?_
        refine RW.nil ?_
        repeat (refine W.seq ?_)
        refine W.block ?_
        refine W.rename [(0, 0)] 1 (T' := up (up (up (up (up (up (up mt 3 (some (.own 0 0))) 4 (some (.isl (intsC (partsF f)) f.dead.length))) 9 (some (.base (.int .i64 (a : Int))))) 57 (some (.base (.int .i64 (f.dead.length : Int))))) 58 (some (.base (.int .i64 (a : Int))))) 62 (some (.base (.int .i64 (f.dead.length : Int))))) 63 (some (.base (.int .i64 (0 : Int))))) (H' := up mt 0 (some (fabC f))) (by decide) ?_ ?_ ?_
        · (repeat' (first | exact all_mt | refine all_up ?_ ?_)) <;> first | exact .inl ⟨rfl, rfl⟩ | exact .inr ⟨rfl, fun _ h => by cases h⟩ | exact .inl ⟨rfl, by first | rfl | assumption | exact (intsC_pure _) | exact (boolsC_pure _)⟩
        · (repeat' (first | exact all_mt | refine all_up ?_ ?_)) <;> first | exact ⟨rfl, _, rfl, .inr ⟨rfl, rfl⟩⟩ | exact ⟨rfl, _, rfl, .inl rfl⟩ | exact ⟨rfl, _, rfl, .inr ⟨rfl, by first | rfl | assumption | exact (intsC_pure _) | exact (boolsC_pure _)⟩⟩
        refine W.loop_ind (α := Nat) (fun x => f.dead.length - x) 1 (fun x => up (up (up (up (up (up (up mt 3 (some (.own 0 0))) 4 (some (.isl (intsC (partsF f)) f.dead.length))) 9 (some (.base (.int .i64 (a : Int))))) 57 (some (.base (.int .i64 (f.dead.length : Int))))) 58 (some (.base (.int .i64 (a : Int))))) 62 (some (.base (.int .i64 (f.dead.length : Int))))) 63 (some (.base (.int .i64 (x : Int))))) (fun x => up mt 0 (some (fabC f))) (fun x => x ≤ f.dead.length) 0 (show 0 ≤ f.dead.length from Nat.zero_le _) ?_
        rintro b hID ihD
        try (dsimp only at hID)
        try dsimp only
        by_cases hc4 : b < f.dead.length
        · have g4 : decide ((b : Int) < (f.dead.length : Int)) = true := decide_eq_true (by omega)
          have hpa : gI (partsF f) a = partAt f a := parts_at hc3
          have hpb : gI (partsF f) b = partAt f b := parts_at hc4
          have hjoin := flow_join hf.lk hf.c1 (a := a) (b := b)
          have hcase : a = b ∨ (a ≠ b ∧ gI (partsF f) a ≠ gI (partsF f) b) ∨ (a ≠ b ∧ gI (partsF f) a = gI (partsF f) b ∧ ¬ 0 ≤ gI (partsF f) a) ∨ (a ≠ b ∧ gI (partsF f) a = gI (partsF f) b ∧ 0 ≤ gI (partsF f) a) := by omega
          have hflow : a ≠ b → (0 < flowF f a b ↔ (gI (partsF f) a = gI (partsF f) b ∧ 0 ≤ gI (partsF f) a)) := fun h => by
            rw [hjoin h hc3 hc4, hpa, hpb]
            constructor
            · intro h1
              refine ⟨partAt_same h1, ?_⟩
              rcases Int.lt_or_le (partAt f a) 0 with h2 | h2
              · rw [partAt_neg, dist_alive h1] at h2; cases h2
              · exact h2
            · rintro ⟨h1, h2⟩
              exact partAt_join h2 h1
          rcases hcase with e | ⟨n, h1⟩ | ⟨n, h1, h2⟩ | ⟨n, h1, h2⟩
          case' inl =>
            have k1 : ((a : Int) != (b : Int)) = false := by rw [e]; simp
          case' inr.inl =>
            have k1 : ((a : Int) != (b : Int)) = true := by simp; omega
            have k2 : (gI (partsF f) a == gI (partsF f) b) = false := by simpa using h1
            have k4 : decide (flowF f a b > 0) = false := decide_eq_false fun h => h1 ((hflow n).1 h).1
            have k5 : (!(false == decide (flowF f a b > 0))) = false := by rw [k4]; rfl
          case' inr.inr.inl =>
            have k1 : ((a : Int) != (b : Int)) = true := by simp; omega
            have k2 : (gI (partsF f) a == gI (partsF f) b) = true := by simpa using h1
            have k3 : decide (gI (partsF f) a ≥ 0) = false := decide_eq_false h2
            have k4 : decide (flowF f a b > 0) = false := decide_eq_false fun h => h2 ((hflow n).1 h).2
            have k5 : (!(decide (gI (partsF f) a ≥ 0) == decide (flowF f a b > 0))) = false := by rw [k3, k4]; rfl
          case' inr.inr.inr =>
            have k1 : ((a : Int) != (b : Int)) = true := by simp; omega
            have k2 : (gI (partsF f) a == gI (partsF f) b) = true := by simpa using h1
            have k3 : decide (gI (partsF f) a ≥ 0) = true := decide_eq_true h2
            have k4 : decide (flowF f a b > 0) = true := decide_eq_true ((hflow n).2 ⟨h1, h2⟩)
            have k5 : (!(decide (gI (partsF f) a ≥ 0) == decide (flowF f a b > 0))) = false := by rw [k3, k4]; rfl
          all_goals
            repeat (refine W.seq ?_)
            refine W.region 163 164 (by decide) rfl rfl ?_
            refine RW.opd rfl rfl (LO.lss rfl rfl rfl) ?_
            refine RW.nil ?_
            repeat (refine W.seq ?_)
            refine W.cond_t rfl (by first | rfl | assumption) ?_
            refine W.skip ?_
            repeat (refine W.seq ?_)
            refine W.block ?_
            repeat (refine W.seq ?_)
            refine W.region 168 170 (by decide) rfl rfl ?_
            refine RW.opd rfl rfl (LO.move rfl rfl) ?_
            refine RW.opd rfl rfl (LO.assign rfl rfl) ?_
            refine RW.nil ?_
            repeat (refine W.seq ?_)
            refine W.regionD 174 201 (by decide) rfl mixed rfl ?_
            refine RW.opd rfl rfl (LO.move rfl rfl) ?_
            refine RW.opd rfl rfl (LO.move rfl rfl) ?_
            refine RW.opd rfl rfl (LO.neq rfl rfl rfl) ?_
            refine RW.opd rfl rfl (LO.move rfl rfl) ?_
            first
                | (refine RW.sd rfl rfl rfl ?_ rfl ?_; (· (first | rfl | assumption)))
                | (refine RW.gd rfl rfl rfl ?_ rfl (LO.move rfl rfl) ?_; (· (first | rfl | assumption)))
            first
                | (refine RW.sd rfl rfl rfl ?_ rfl ?_; (· (first | rfl | assumption)))
                | (refine RW.gd rfl rfl rfl ?_ rfl (LO.move rfl rfl) ?_; (· (first | rfl | assumption)))
            first
                | (refine RW.sd rfl rfl rfl ?_ rfl ?_; (· (first | rfl | assumption)))
                | (refine RW.gd rfl rfl rfl ?_ rfl (LO.indexAddr_isl rfl rfl rfl rfl rfl ty26 ty3 ?_) ?_; (· (first | rfl | assumption)); (· (first | omega | decide | assumption | fail | (simp; done) | (simp; omega))))
            first
                | (refine RW.sd rfl rfl rfl ?_ rfl ?_; (· (first | rfl | assumption)))
                | (refine RW.gd rfl rfl rfl ?_ rfl (LO.load_imm rfl rfl (ni_at1 (k := a) (by omega)) ty3 rfl) ?_; (· (first | rfl | assumption)))
            first
                | (refine RW.sd rfl rfl rfl ?_ rfl ?_; (· (first | rfl | assumption)))
                | (refine RW.gd rfl rfl rfl ?_ rfl (LO.move rfl rfl) ?_; (· (first | rfl | assumption)))
            first
                | (refine RW.sd rfl rfl rfl ?_ rfl ?_; (· (first | rfl | assumption)))
                | (refine RW.gd rfl rfl rfl ?_ rfl (LO.move rfl rfl) ?_; (· (first | rfl | assumption)))
            first
                | (refine RW.sd rfl rfl rfl ?_ rfl ?_; (· (first | rfl | assumption)))
                | (refine RW.gd rfl rfl rfl ?_ rfl (LO.indexAddr_isl rfl rfl rfl rfl rfl ty26 ty3 ?_) ?_; (· (first | rfl | assumption)); (· (first | omega | decide | assumption | fail | (simp; done) | (simp; omega))))
            first
                | (refine RW.sd rfl rfl rfl ?_ rfl ?_; (· (first | rfl | assumption)))
                | (refine RW.gd rfl rfl rfl ?_ rfl (LO.load_imm rfl rfl (ni_at1 (k := b) (by omega)) ty3 rfl) ?_; (· (first | rfl | assumption)))
            first
                | (refine RW.sd rfl rfl rfl ?_ rfl ?_; (· (first | rfl | assumption)))
                | (refine RW.gd rfl rfl rfl ?_ rfl (LO.eql rfl rfl rfl) ?_; (· (first | rfl | assumption)))
            first
                | (refine RW.sd rfl rfl rfl ?_ rfl ?_; (· (first | rfl | assumption)))
                | (refine RW.gd rfl rfl rfl ?_ rfl (LO.move rfl rfl) ?_; (· (first | rfl | assumption)))
            first
                | (refine RW.sd rfl rfl rfl ?_ rfl ?_; (· (first | rfl | assumption)))
                | (refine RW.gd rfl rfl rfl ?_ rfl (LO.move rfl rfl) ?_; (· (first | rfl | assumption)))
                | (refine RW.ud rfl rfl rfl rfl ?_)
            first
                | (refine RW.sd rfl rfl rfl ?_ rfl ?_; (· (first | rfl | assumption)))
                | (refine RW.gd rfl rfl rfl ?_ rfl (LO.move rfl rfl) ?_; (· (first | rfl | assumption)))
                | (refine RW.ud rfl rfl rfl rfl ?_)
            first
                | (refine RW.sd rfl rfl rfl ?_ rfl ?_; (· (first | rfl | assumption)))
                | (refine RW.gd rfl rfl rfl ?_ rfl (LO.indexAddr_isl rfl rfl rfl rfl rfl ty26 ty3 ?_) ?_; (· (first | rfl | assumption)); (· (first | omega | decide | assumption | fail | (simp; done) | (simp; omega))))
                | (refine RW.ud rfl rfl rfl rfl ?_)
            first
                | (refine RW.sd rfl rfl rfl ?_ rfl ?_; (· (first | rfl | assumption)))
                | (refine RW.gd rfl rfl rfl ?_ rfl (LO.load_imm rfl rfl (ni_at1 (k := a) (by omega)) ty3 rfl) ?_; (· (first | rfl | assumption)))
                | (refine RW.ud rfl rfl rfl rfl ?_)
            first
                | (refine RW.sd rfl rfl rfl ?_ rfl ?_; (· (first | rfl | assumption)))
                | (refine RW.gd rfl rfl rfl ?_ rfl (LO.geq rfl rfl rfl) ?_; (· (first | rfl | assumption)))
                | (refine RW.ud rfl rfl rfl rfl ?_)
            first
                | (refine RW.sd rfl rfl rfl ?_ rfl ?_; (· (first | rfl | assumption)))
                | (refine RW.gd rfl rfl rfl ?_ rfl (LO.pick_t rfl rfl ?_ rfl) ?_; (· (first | rfl | assumption)); (· (first | rfl | assumption)))
                | (refine RW.gd rfl rfl rfl ?_ rfl (LO.pick_f rfl rfl ?_ rfl) ?_; (· (first | rfl | assumption)); (· (first | rfl | assumption)))
            first
                | (refine RW.sd rfl rfl rfl ?_ rfl ?_; (· (first | rfl | assumption)))
                | (refine RW.gd rfl rfl rfl ?_ rfl (LO.load_agg rfl rfl rfl ty25 rfl (Tk.lit rfl)) ?_; (· (first | rfl | assumption)))
            first
                | (refine RW.sd rfl rfl rfl ?_ rfl ?_; (· (first | rfl | assumption)))
                | (refine RW.gd rfl rfl rfl ?_ rfl (LO.move rfl rfl) ?_; (· (first | rfl | assumption)))
            first
                | (refine RW.sd rfl rfl rfl ?_ rfl ?_; (· (first | rfl | assumption)))
                | (refine RW.gd rfl rfl rfl ?_ rfl (LO.move rfl rfl) ?_; (· (first | rfl | assumption)))
            first
                | (refine RW.sd rfl rfl rfl ?_ rfl ?_; (· (first | rfl | assumption)))
                | (refine RW.gd rfl rfl rfl ?_ rfl (LO.call0 (fr := []) rfl rfl (hfs _ _) fok24 (.cons rfl (.pure rfl) (.cons rfl (.pure rfl) (.cons rfl (.pure rfl) .nil))) rfl) ?_; (· (first | rfl | assumption)))
            first
                | (refine RW.sd rfl rfl rfl ?_ rfl ?_; (· (first | rfl | assumption)))
                | (refine RW.gd rfl rfl rfl ?_ rfl (LO.gtr rfl rfl rfl) ?_; (· (first | rfl | assumption)))
            first
                | (refine RW.sd rfl rfl rfl ?_ rfl ?_; (· (first | rfl | assumption)))
                | (refine RW.gd rfl rfl rfl ?_ rfl (LO.neq_bool rfl rfl rfl ty4) ?_; (· (first | rfl | assumption)))
            first
                | (refine RW.opd rfl rfl (LO.pick_t rfl rfl ?_ rfl) ?_; (· (first | rfl | assumption)))
                | (refine RW.opd rfl rfl (LO.pick_f rfl rfl ?_ rfl) ?_; (· (first | rfl | assumption)))
            refine RW.nil ⟨by kernel_rfl, ?_⟩
            repeat (refine W.seq ?_)
            refine W.cond_f rfl (by first | rfl | assumption) ?_
            refine W.skip ?_
            repeat (refine W.seq ?_)
            refine W.region 210 212 (by decide) rfl rfl ?_
            refine RW.opd rfl rfl (LO.add_in rfl rfl rfl ?_) ?_; (· (first | exact IntWalk.i64_in _ (by omega) | assumption))
            refine RW.opd rfl rfl (LO.move rfl rfl) ?_
            refine RW.nil ?_
            refine WL.rename [(0, 0)] 1 (by decide) ?_ ?_ (ihD (b + 1) (show f.dead.length - (b + 1) < f.dead.length - b from by omega) (show (b + 1) ≤ f.dead.length from by omega))
            · (repeat' (first | exact all_mt | refine all_up ?_ ?_)) <;> first | exact .inl ⟨rfl, rfl⟩ | exact .inr ⟨rfl, fun _ h => by cases h⟩ | exact .inl ⟨rfl, by first | rfl | assumption | exact (intsC_pure _) | exact (boolsC_pure _)⟩
            · (repeat' (first | exact all_mt | refine all_up ?_ ?_)) <;> first | exact ⟨rfl, _, rfl, .inr ⟨rfl, rfl⟩⟩ | exact ⟨rfl, _, rfl, .inl rfl⟩ | exact ⟨rfl, _, rfl, .inr ⟨rfl, by first | rfl | assumption | exact (intsC_pure _) | exact (boolsC_pure _)⟩⟩
        · have g4 : decide ((b : Int) < (f.dead.length : Int)) = false := decide_eq_false (by omega)
          repeat (refine W.seq ?_)
          refine W.region 163 164 (by decide) rfl rfl ?_
          refine RW.opd rfl rfl (LO.lss rfl rfl rfl) ?_
          refine RW.nil ?_
          repeat (refine W.seq ?_)
          refine W.cond_f rfl (by first | rfl | assumption) ?_
          refine W.exit ?_
          clear ihD
          have hpa : gI (partsF f) a = partAt f a := parts_at hc3
          have hle := partAt_le f a hc3
          have hneg := partAt_neg f a
          rw [hal a hc3] at hneg
          have k1 : decide (gI (partsF f) a > (a : Int)) = false := decide_eq_false (by omega)
          have k2 : decide (gI (partsF f) a < 0) = f.dead[a] := by
            rw [hpa]
            cases e : f.dead[a] with
            | true => exact decide_eq_true (hneg.2 (by rw [e]; rfl))
            | false => exact decide_eq_false fun h => by have := hneg.1 h; rw [e] at this; cases this
          have k3 : (!(f.dead[a] == f.dead[a])) = false := by simp
          have k4 : (!(f.dead[a] == decide (gI (partsF f) a < 0))) = false := by rw [k2]; exact k3
          repeat (refine W.seq ?_)
          refine W.regionD 216 235 (by decide) rfl mixed rfl ?_
          refine RW.opd rfl rfl (LO.move rfl rfl) ?_
          refine RW.opd rfl rfl (LO.move rfl rfl) ?_
          refine RW.opd rfl rfl (LO.indexAddr_isl rfl rfl rfl rfl rfl ty26 ty3 ?_) ?_; (· (first | omega | decide | assumption | fail | (simp; done) | (simp; omega)))
          refine RW.opd rfl rfl (LO.load_imm rfl rfl (ni_at1 (k := a) (by omega)) ty3 rfl) ?_
          refine RW.opd rfl rfl (LO.move rfl rfl) ?_
          refine RW.opd rfl rfl (LO.gtr rfl rfl rfl) ?_
          refine RW.opd rfl rfl (LO.move rfl rfl) ?_
          refine RW.gd rfl rfl rfl ?_ rfl (LO.fieldAddr rfl rfl ty25 rfl (by decide)) ?_; (· (first | rfl | assumption))
          refine RW.gd rfl rfl rfl ?_ rfl (LO.load rfl rfl rfl rfl ty23 rfl) ?_; (· (first | rfl | assumption))
          refine RW.gd rfl rfl rfl ?_ rfl (LO.move rfl rfl) ?_; (· (first | rfl | assumption))
          refine RW.gd rfl rfl rfl ?_ rfl (LO.indexAddr_isl rfl rfl rfl rfl rfl ty23 ty4 ?_) ?_; (· (first | rfl | assumption)); (· (first | omega | decide | assumption | fail | (simp; done) | (simp; omega)))
          refine RW.gd rfl rfl rfl ?_ rfl (LO.load_imm rfl rfl (boolsC_at (k := a) hc3) ty4 rfl) ?_; (· (first | rfl | assumption))
          refine RW.gd rfl rfl rfl ?_ rfl (LO.move rfl rfl) ?_; (· (first | rfl | assumption))
          refine RW.gd rfl rfl rfl ?_ rfl (LO.move rfl rfl) ?_; (· (first | rfl | assumption))
          refine RW.gd rfl rfl rfl ?_ rfl (LO.indexAddr_isl rfl rfl rfl rfl rfl ty26 ty3 ?_) ?_; (· (first | rfl | assumption)); (· (first | omega | decide | assumption | fail | (simp; done) | (simp; omega)))
          refine RW.gd rfl rfl rfl ?_ rfl (LO.load_imm rfl rfl (ni_at1 (k := a) (by omega)) ty3 rfl) ?_; (· (first | rfl | assumption))
          refine RW.gd rfl rfl rfl ?_ rfl (LO.lss rfl rfl rfl) ?_; (· (first | rfl | assumption))
          refine RW.gd rfl rfl rfl ?_ rfl (LO.neq_bool rfl rfl rfl ty4) ?_; (· (first | rfl | assumption))
          refine RW.opd rfl rfl (LO.pick_f rfl rfl ?_ rfl) ?_; (· (first | rfl | assumption))
          refine RW.nil ⟨by kernel_rfl, ?_⟩
          repeat (refine W.seq ?_)
          refine W.cond_f rfl (by first | rfl | assumption) ?_
          refine W.skip ?_
          repeat (refine W.seq ?_)
          refine W.region 244 246 (by decide) rfl rfl ?_
          refine RW.opd rfl rfl (LO.add_in rfl rfl rfl ?_) ?_; (· (first | exact IntWalk.i64_in _ (by omega) | assumption))
          refine RW.opd rfl rfl (LO.move rfl rfl) ?_
          refine RW.nil ?_
          refine WL.rename [(0, 0)] 1 (by decide) ?_ ?_ (ihC (a + 1) (show f.dead.length - (a + 1) < f.dead.length - a from by omega) (show (a + 1) ≤ f.dead.length from by omega))
          · (repeat' (first | exact all_mt | refine all_up ?_ ?_)) <;> first | exact .inl ⟨rfl, rfl⟩ | exact .inr ⟨rfl, fun _ h => by cases h⟩ | exact .inl ⟨rfl, by first | rfl | assumption | exact (intsC_pure _) | exact (boolsC_pure _)⟩
          · (repeat' (first | exact all_mt | refine all_up ?_ ?_)) <;> first | exact ⟨rfl, _, rfl, .inr ⟨rfl, rfl⟩⟩ | exact ⟨rfl, _, rfl, .inl rfl⟩ | exact ⟨rfl, _, rfl, .inr ⟨rfl, by first | rfl | assumption | exact (intsC_pure _) | exact (boolsC_pure _)⟩⟩
      · have g3 : decide ((a : Int) < (f.dead.length : Int)) = false := decide_eq_false (by omega)
        repeat (refine W.seq ?_)
        refine W.region 145 146 (by decide) rfl rfl ?_
        refine RW.opd rfl rfl (LO.lss rfl rfl rfl) ?_
        refine RW.nil ?_
        repeat (refine W.seq ?_)
        refine W.cond_f rfl (by first | rfl | assumption) ?_
        refine W.exit ?_
        repeat (refine W.seq ?_)
        refine W.region 250 252 (by decide) rfl rfl ?_
        refine RW.opd rfl rfl (LO.call0 (fr := []) rfl rfl (awake13_any) fok15 .nil rfl) ?_
        refine RW.opd rfl rfl (LO.assign rfl rfl) ?_
        refine RW.nil ?_
        repeat (refine W.seq ?_)
        refine W.ret ⟨.inl rfl, _, mt, RVs.cons (RV.tmp rfl) (RVs.nil), all_mt, ?_⟩
        exact ⟨rfl, rfl⟩
end Go.Proofs.Ythbdngfnbpkefaa
