/-
  The rounds of a maintenance: the document's text.
-/
import Derived.Test.YtbjfaepjpmogjaaDoorKh
namespace Go.Proofs.YtbjfaepjpmogjaaDoor
open Go.RowKit

def xv (r : Nat) : Int := if r < 9 then (r : Int) else -1
def xT (safe : Nat → Bool) (A k : Nat) : List Int := (List.range (A + 1)).map fun x => if x < k then xv (rn safe x).1 else 0
def XS (safe : Nat → Bool) (A s p : Nat) : List Int := (xT safe A s).set s (xv p)
theorem XS_len (safe : Nat → Bool) (A s p : Nat) : (XS safe A s p).length = A + 1 := by simp [XS, xT]
theorem xT_len (safe : Nat → Bool) (A s : Nat) : (xT safe A s).length = A + 1 := by simp [xT]
theorem XS_at {safe : Nat → Bool} {A s p x : Nat} (hx : x < s) (hs : s ≤ A) : gI (XS safe A s p) x = xv (rr safe x) := by
  rw [gI_at (by rw [XS_len]; omega)]
  unfold XS xT
  rw [List.getElem_set_ne (by omega)]
  simp [hx, rr]
theorem XS_self {safe : Nat → Bool} {A s p : Nat} (hs : s ≤ A) : gI (XS safe A s p) s = xv p := by
  rw [gI_at (by rw [XS_len]; omega)]
  unfold XS
  simp
theorem XS_set (safe : Nat → Bool) (A s p q : Nat) : (XS safe A s p).set s (xv q) = XS safe A s q := by unfold XS; rw [List.set_set]
theorem XS_next {safe : Nat → Bool} {A s : Nat} : XS safe A s (rn safe s).1 = xT safe A (s + 1) := by
  unfold XS xT
  refine mapSet (by simp) fun x _ hne => ?_
  by_cases h : x < s
  · rw [if_pos h, if_pos (by omega)]
  · rw [if_neg h, if_neg (by omega)]
theorem xT_start (safe : Nat → Bool) (A : Nat) : List.replicate (A + 1) 0 = xT safe A 1 := by
  unfold xT
  refine List.ext_getElem (by simp) fun i h1 h2 => ?_
  simp
  intro h3
  rw [h3]; rfl
theorem xT_end {safe : Nat → Bool} {A x : Nat} (h : x ≤ A) : gI (xT safe A (A + 1)) x = xv (rr safe x) := by
  unfold xT
  rw [gI_at (by simp; omega)]
  simp [show x < A + 1 by omega, rr]
def iF (l : List Nat) : List Int := l.map fun (z : Nat) => (z : Int)
theorem iF_len (l : List Nat) : (iF l).length = l.length := by simp [iF]
theorem iF_set (l : List Nat) (k v : Nat) : (iF l).set k (v : Int) = iF (l.set k v) := by simp [iF, List.map_set]
theorem iF_at {l : List Nat} {k : Nat} (h : k < l.length) : gI (iF l) k = (gN l k : Nat) := by
  rw [gI_at (by rw [iF_len]; exact h)]
  simp [iF, gN, h]
theorem iF_start (n : Nat) : List.replicate n 0 = iF (List.replicate n 0) := by simp [iF]
theorem neg_tab : ∀ s : Fin 256, bitV .and .i64 (s.val : Int) (-(s.val : Int)) = (lw s.val : Int) := by decide +kernel
theorem xv_neg {r : Nat} (_h : r ≤ 9) : decide (xv r < 0) = !decide (r < 9) := by
  unfold xv
  by_cases h9 : r < 9
  · rw [if_pos h9, decide_eq_true h9]; simp
  · rw [if_neg h9, decide_eq_false h9]; rfl
theorem shl_tabI : ∀ n : Fin 9, IntKind.i64.wrap (1 * 2 ^ (min n.val 64)) = ((2 ^ n.val : Nat) : Int) := by decide +kernel
set_option maxHeartbeats 2000000 in
theorem roundsX_any (f : Fab) (ls : List Ld) (its : List Itm) (hb : f.links.length ≤ 1000) (hls : ls.length ≤ 1000) (hits : its.length ≤ 1000) : AFn Tryd.prog 12 0 [.agg (fabC f), .isl (ldsC ls) ls.length, .isl (itsC its) its.length] mt (roundsV (roundsF f ls its)) mt := by
  refine AFn.eq Tryd.func12 rfl rfl (Nat.le_of_ble_eq_true rfl) ?_
  have hv := validDX_any f ls its hb hls hits
  repeat (refine W.seq ?_)
  refine W.region 0 3 (by decide) rfl rfl ?_
  refine RW.opd rfl rfl (LO.box rfl rfl rfl) ?_
  refine RW.opd rfl rfl (LO.assign rfl rfl) ?_
  refine RW.opd rfl rfl (LO.assign rfl rfl) ?_
  refine RW.nil ?_
  cases hvd : validD f ls its with
  | false =>
    rw [hvd] at hv
    have n1 : (!false) = true := rfl
    repeat (refine W.seq ?_)
    refine W.region 7 12 (by decide) rfl rfl ?_
    refine RW.opd rfl rfl (LO.load_agg rfl rfl rfl ty28 rfl (Tk.lit rfl)) ?_
    refine RW.opd rfl rfl (LO.move rfl rfl) ?_
    refine RW.opd rfl rfl (LO.move rfl rfl) ?_
    refine RW.opd rfl rfl (LO.call0 (fr := []) rfl rfl (hv) fok25 (.cons rfl (.pure rfl) (.cons rfl (.pure rfl) (.cons rfl (.pure rfl) .nil))) rfl) ?_
    refine RW.opd rfl rfl (LO.not rfl rfl) ?_
    refine RW.nil ?_
    repeat (refine W.seq ?_)
    refine W.cond_t rfl (by first | rfl | assumption) ?_
    repeat (refine W.seq ?_)
    refine W.region 16 18 (by decide) rfl rfl ?_
    refine RW.opd rfl rfl (LO.assign rfl rfl) ?_
    refine RW.opd rfl rfl (LO.assign rfl rfl) ?_
    refine RW.nil ?_
    refine W.nilt (t := 6) rfl ?_
    repeat (refine W.seq ?_)
    refine W.ret ⟨.inl rfl, _, mt, RVs.cons (RV.tmp rfl) (RVs.cons (RV.tmp rfl) (RVs.nil)), all_mt, ?_⟩
    exact ⟨by unfold roundsF; rw [hvd]; rfl, rfl⟩
  | true =>
    rw [hvd] at hv
    obtain ⟨_, _, h8, _, _⟩ := validD_all2 hvd
    have hpow : (2 : Nat) ^ its.length ≤ 256 := Nat.le_trans (Nat.pow_le_pow_right (n := 2) (by decide) h8) (by decide)
    have hpos : 1 ≤ (2 : Nat) ^ its.length := Nat.two_pow_pos _
    have hrf : roundsF f ls its = if rr (safeB f ls its) (2 ^ its.length - 1) < 9 then ((divs (safeB f ls its) (2 ^ its.length - 1)).map (chF its), 0) else ([], 40) := if_pos hvd
    obtain ⟨A, hA⟩ : ∃ A, 2 ^ its.length - 1 = A := ⟨_, rfl⟩
    have hsh : IntKind.i64.wrap (1 * 2 ^ (min (its.length : Int).toNat IntKind.i64.bits)) = (A : Int) + 1 := by
      rw [Int.toNat_natCast]
      have h1 := shl_tabI ⟨its.length, by omega⟩
      have h2 : IntKind.i64.wrap (1 * 2 ^ (min its.length IntKind.i64.bits)) = ((2 ^ its.length : Nat) : Int) := h1
      rw [h2]; omega
    have hA3 : A < 256 := by omega
    rw [hA] at hrf
    repeat (refine W.seq ?_)
    refine W.region 7 12 (by decide) rfl rfl ?_
    refine RW.opd rfl rfl (LO.load_agg rfl rfl rfl ty28 rfl (Tk.lit rfl)) ?_
    refine RW.opd rfl rfl (LO.move rfl rfl) ?_
    refine RW.opd rfl rfl (LO.move rfl rfl) ?_
    refine RW.opd rfl rfl (LO.call0 (fr := []) rfl rfl (hv) fok25 (.cons rfl (.pure rfl) (.cons rfl (.pure rfl) (.cons rfl (.pure rfl) .nil))) rfl) ?_
    refine RW.opd rfl rfl (LO.not rfl rfl) ?_
    refine RW.nil ?_
    repeat (refine W.seq ?_)
    refine W.cond_f rfl (by first | rfl | assumption) ?_
    refine W.skip ?_
    repeat (refine W.seq ?_)
    refine W.region 22 27 (by decide) rfl rfl ?_
    refine RW.opd rfl rfl (LO.move rfl rfl) ?_
    refine RW.opd rfl rfl (LO.len_isl rfl rfl rfl ty22) ?_
    refine RW.opd rfl rfl (LO.conv_in rfl rfl ty3 ty43 ?_) ?_; (· (first | exact IntWalk.u64_in _ (by omega) | assumption))
    refine RW.opd rfl rfl (LO.shl rfl rfl rfl ?_) ?_; (· (first | omega | decide | assumption | fail | (simp; done) | (simp; omega)))
    rw [hsh]
    refine RW.opd rfl rfl (LO.assign rfl rfl) ?_
    refine RW.nil ?_
    repeat (refine W.seq ?_)
    refine W.region 31 34 (by decide) rfl rfl ?_
    refine RW.opd rfl rfl (LO.move rfl rfl) ?_
    refine RW.opd rfl rfl (LO.makeSlice rfl rfl rfl rfl rfl ty26 ty4 (by decide) ?_ ?_ ?_) ?_; (· (first | omega | decide | assumption | fail | (simp; done) | (simp; omega))); (· (first | omega | decide | assumption | fail | (simp; done) | (simp; omega))); (· (first | omega | decide | assumption | fail | (simp; done) | (simp; omega)))
    refine RW.opd rfl rfl (LO.assign rfl rfl) ?_
    refine RW.nil ?_
    rw [zeros_bools, sfT_start (safeB f ls its)]
    repeat (refine W.seq ?_)
    refine W.region 38 39 (by decide) rfl rfl ?_
    refine RW.opd rfl rfl (LO.assign rfl rfl) ?_
    refine RW.nil ?_
    repeat (refine W.seq ?_)
    refine W.block ?_
    refine W.rename [(0, 0), (1, 32)] 2 (T' := up (up (up (up (up (up mt 1 (some (.isl (ldsC ls) ls.length))) 2 (some (.isl (itsC its) its.length))) 3 (some (.own 0 0))) 8 (some (.base (.int .i64 ((A : Int) + 1))))) 9 (some (.osl 1 0 (A + 1) 1))) 10 (some (.base (.int .i64 (1 : Int))))) (H' := up (up mt 0 (some (fabC f))) 1 (some (boolsC (sfT (safeB f ls its) A 1)))) (by decide) ?_ ?_ ?_
    · (repeat' (first | exact all_mt | refine all_up ?_ ?_)) <;> first | exact .inl ⟨rfl, rfl⟩ | exact .inr ⟨rfl, fun _ h => by cases h⟩ | exact .inl ⟨rfl, by first | rfl | assumption | exact (boolsC_pure _)⟩
    · (repeat' (first | exact all_mt | refine all_up ?_ ?_)) <;> first | exact ⟨rfl, _, rfl, .inr ⟨rfl, rfl⟩⟩ | exact ⟨rfl, _, rfl, .inl rfl⟩ | exact ⟨rfl, _, rfl, .inr ⟨rfl, by first | rfl | assumption | exact (boolsC_pure _)⟩⟩
    refine W.loop_ind (α := Nat) (fun x => A + 1 - x) 2 (fun x => up (up (up (up (up (up mt 1 (some (.isl (ldsC ls) ls.length))) 2 (some (.isl (itsC its) its.length))) 3 (some (.own 0 0))) 8 (some (.base (.int .i64 ((A : Int) + 1))))) 9 (some (.osl 1 0 (A + 1) 1))) 10 (some (.base (.int .i64 (x : Int))))) (fun x => up (up mt 0 (some (fabC f))) 1 (some (boolsC (sfT (safeB f ls its) A x)))) (fun x => 1 ≤ x ∧ x ≤ A + 1) 1 (show 1 ≤ 1 ∧ 1 ≤ A + 1 from ⟨Nat.le_refl _, by omega⟩) ?_
    rintro s hIA ihA
    try (dsimp only at hIA)
    try dsimp only
    obtain ⟨hs1, hsA⟩ := hIA
    by_cases hc : s ≤ A
    · have g1 : decide ((s : Int) < (A : Int) + 1) = true := decide_eq_true (by omega)
      have hch := set_any its s (by omega) h8
      have hcl := chF_len its s
      have hsf := safeX_any f ls (chF its s) hb hls (by omega)
      have hset : Sp (boolsC (sfT (safeB f ls its) A s)) (0 + s * 1) [.base (.bool (safeE f ls (chF its s) == 0))] (boolsC (sfT (safeB f ls its) A (s + 1))) := by
        have := bs_at (l := sfT (safeB f ls its) A s) (x := (s : Int)) (b := safeB f ls its s) (by omega) (by rw [sfT_len]; omega)
        rw [Int.toNat_natCast, sfT_set hs1] at this
        exact this
      repeat (refine W.seq ?_)
      refine W.region 43 46 (by decide) rfl rfl ?_
      refine RW.opd rfl rfl (LO.move rfl rfl) ?_
      refine RW.opd rfl rfl (LO.move rfl rfl) ?_
      refine RW.opd rfl rfl (LO.lss rfl rfl rfl) ?_
      refine RW.nil ?_
      repeat (refine W.seq ?_)
      refine W.cond_t rfl (by first | rfl | assumption) ?_
      refine W.skip ?_
      repeat (refine W.seq ?_)
      refine W.block ?_
      repeat (refine W.seq ?_)
      refine W.regionD 50 61 (by decide) rfl mixed rfl ?_
      refine RW.opd rfl rfl (LO.move rfl rfl) ?_
      refine RW.opd rfl rfl (LO.move rfl rfl) ?_
      refine RW.opd rfl rfl (LO.load_agg rfl rfl rfl ty28 rfl (Tk.lit rfl)) ?_
      refine RW.opd rfl rfl (LO.move rfl rfl) ?_
      refine RW.opd rfl rfl (LO.move rfl rfl) ?_
      refine RW.opd rfl rfl (LO.move rfl rfl) ?_
      refine RW.opd rfl rfl (LO.call0 (fr := []) rfl rfl (hch) fok33 (.cons rfl (.pure rfl) (.cons rfl (.pure rfl) .nil)) rfl) ?_
      refine RW.opd rfl rfl (LO.call0 (fr := []) rfl rfl (hsf) fok17 (.cons rfl (.pure rfl) (.cons rfl (.pure rfl) (.cons rfl (.pure rfl) .nil))) rfl) ?_
      refine RW.opd rfl rfl (LO.eql rfl rfl rfl) ?_
      refine RW.opd rfl rfl (LO.indexAddr rfl rfl rfl rfl ty26 ty4 ?_) ?_; (· (first | omega | decide | assumption | fail | (simp; done) | (simp; omega)))
      refine RW.opn rfl rfl (LO.store rfl rfl rfl rfl rfl ty4 rfl (by decide) hset) ?_
      refine RW.nil ⟨by kernel_rfl, ?_⟩
      repeat (refine W.seq ?_)
      refine W.region 65 68 (by decide) rfl rfl ?_
      refine RW.opd rfl rfl (LO.move rfl rfl) ?_
      refine RW.opd rfl rfl (LO.add_in rfl rfl rfl ?_) ?_; (· (first | exact IntWalk.i64_in _ (by omega) | assumption))
      refine RW.opd rfl rfl (LO.assign rfl rfl) ?_
      refine RW.nil ?_
      refine WL.rename [(0, 0), (1, 1)] 2 (by decide) ?_ ?_ (ihA (s + 1) (show A + 1 - (s + 1) < A + 1 - s from by omega) (show 1 ≤ (s + 1) ∧ (s + 1) ≤ A + 1 from ⟨by omega, by omega⟩))
      · (repeat' (first | exact all_mt | refine all_up ?_ ?_)) <;> first | exact .inl ⟨rfl, rfl⟩ | exact .inr ⟨rfl, fun _ h => by cases h⟩ | exact .inl ⟨rfl, by first | rfl | assumption | exact (boolsC_pure _)⟩
      · (repeat' (first | exact all_mt | refine all_up ?_ ?_)) <;> first | exact ⟨rfl, _, rfl, .inr ⟨rfl, rfl⟩⟩ | exact ⟨rfl, _, rfl, .inl rfl⟩ | exact ⟨rfl, _, rfl, .inr ⟨rfl, by first | rfl | assumption | exact (boolsC_pure _)⟩⟩
    · have g1 : decide ((s : Int) < (A : Int) + 1) = false := decide_eq_false (by omega)
      obtain rfl : s = A + 1 := by omega
      repeat (refine W.seq ?_)
      refine W.region 43 46 (by decide) rfl rfl ?_
      refine RW.opd rfl rfl (LO.move rfl rfl) ?_
      refine RW.opd rfl rfl (LO.move rfl rfl) ?_
      refine RW.opd rfl rfl (LO.lss rfl rfl rfl) ?_
      refine RW.nil ?_
      repeat (refine W.seq ?_)
      refine W.cond_f rfl (by first | rfl | assumption) ?_
      refine W.exit ?_
      generalize hsafe : safeB f ls its = safe at hrf ⊢
      clear ihA hs1 hsA hc g1
      repeat (refine W.seq ?_)
      refine W.regionD 72 78 (by decide) rfl mixed rfl ?_
      refine RW.opd rfl rfl (LO.move rfl rfl) ?_
      refine RW.opd rfl rfl (LO.makeSlice rfl rfl rfl rfl rfl ty23 ty3 (by decide) ?_ ?_ ?_) ?_; (· (first | omega | decide | assumption | fail | (simp; done) | (simp; omega))); (· (first | omega | decide | assumption | fail | (simp; done) | (simp; omega))); (· (first | omega | decide | assumption | fail | (simp; done) | (simp; omega)))
      refine RW.opd rfl rfl (LO.move rfl rfl) ?_
      refine RW.opd rfl rfl (LO.makeSlice rfl rfl rfl rfl rfl ty23 ty3 (by decide) ?_ ?_ ?_) ?_; (· (first | omega | decide | assumption | fail | (simp; done) | (simp; omega))); (· (first | omega | decide | assumption | fail | (simp; done) | (simp; omega))); (· (first | omega | decide | assumption | fail | (simp; done) | (simp; omega)))
      refine RW.opd rfl rfl (LO.assign rfl rfl) ?_
      refine RW.opd rfl rfl (LO.assign rfl rfl) ?_
      refine RW.nil ⟨by kernel_rfl, ?_⟩
      rw [zeros_ints, xT_start safe]
      repeat (refine W.seq ?_)
      refine W.region 82 83 (by decide) rfl rfl ?_
      refine RW.opd rfl rfl (LO.assign rfl rfl) ?_
      refine RW.nil ?_
      repeat (refine W.seq ?_)
      refine W.block ?_
      refine W.rename [(0, 0), (1, 1), (2, 73), (3, 75)] 4 (T' := up (up (up (up (up (up mt 2 (some (.isl (itsC its) its.length))) 8 (some (.base (.int .i64 ((A : Int) + 1))))) 9 (some (.osl 1 0 (A + 1) 1))) 11 (some (.osl 2 0 (A + 1) 1))) 12 (some (.osl 3 0 (A + 1) 1))) 13 (some (.base (.int .i64 (1 : Int))))) (H' := up (up (up (up mt 0 (some (fabC f))) 1 (some (boolsC (sfT safe A (A + 1))))) 2 (some (intsC (xT safe A 1)))) 3 (some (intsC (xT safe A 1)))) (by decide) ?_ ?_ ?_
      · (repeat' (first | exact all_mt | refine all_up ?_ ?_)) <;> first | exact .inl ⟨rfl, rfl⟩ | exact .inr ⟨rfl, fun _ h => by cases h⟩ | exact .inl ⟨rfl, by first | rfl | assumption | exact (boolsC_pure _) | exact (intsC_pure _)⟩
      · (repeat' (first | exact all_mt | refine all_up ?_ ?_)) <;> first | exact ⟨rfl, _, rfl, .inr ⟨rfl, rfl⟩⟩ | exact ⟨rfl, _, rfl, .inl rfl⟩ | exact ⟨rfl, _, rfl, .inr ⟨rfl, by first | rfl | assumption | exact (boolsC_pure _) | exact (intsC_pure _)⟩⟩
      refine W.loop_ind (α := Nat × List Int) (fun x => A + 1 - x.1) 4 (fun x => up (up (up (up (up (up mt 2 (some (.isl (itsC its) its.length))) 8 (some (.base (.int .i64 ((A : Int) + 1))))) 9 (some (.osl 1 0 (A + 1) 1))) 11 (some (.osl 2 0 (A + 1) 1))) 12 (some (.osl 3 0 (A + 1) 1))) 13 (some (.base (.int .i64 (x.1 : Int))))) (fun x => up (up (up (up mt 0 (some (fabC f))) 1 (some (boolsC (sfT safe A (A + 1))))) 2 (some (intsC (xT safe A x.1)))) 3 (some (intsC x.2))) (fun x => (1 ≤ x.1 ∧ x.1 ≤ A + 1) ∧ x.2 = iF (fT safe A x.1)) (1, (xT safe A 1)) (show (1 ≤ 1 ∧ 1 ≤ A + 1) ∧ (xT safe A 1) = iF (fT safe A 1) from ⟨⟨Nat.le_refl _, by omega⟩, by rw [← xT_start, ← fT_start]; exact iF_start _⟩) ?_
      rintro ⟨s, F⟩ hIB ihB
      try (dsimp only at hIB)
      try dsimp only
      obtain ⟨⟨hs1, hsA⟩, hF⟩ := hIB
      by_cases hc : s ≤ A
      · have g1 : decide ((s : Int) < (A : Int) + 1) = true := decide_eq_true (by omega)
        have hs0 : s ≠ 0 := by omega
        have hs256 : s < 256 := by omega
        have hneg : bitV .and .i64 (s : Int) (-(s : Int)) = (lw s : Int) := neg_tab ⟨s, hs256⟩
        have hlwle := lw_le hs256 hs0
        have hlwp := lw_pos hs256 hs0
        have hset9 : Sp (intsC (xT safe A s)) (0 + s * 1) [.base (.int .i64 (-1))] (intsC (XS safe A s 9)) := ns_at (by rw [xT_len]; omega)
        have hF2 : F = iF (FS safe A s 0) := by rw [hF, FS_start]
        repeat (refine W.seq ?_)
        refine W.region 87 90 (by decide) rfl rfl ?_
        refine RW.opd rfl rfl (LO.move rfl rfl) ?_
        refine RW.opd rfl rfl (LO.move rfl rfl) ?_
        refine RW.opd rfl rfl (LO.lss rfl rfl rfl) ?_
        refine RW.nil ?_
        repeat (refine W.seq ?_)
        refine W.cond_t rfl (by first | rfl | assumption) ?_
        refine W.skip ?_
        repeat (refine W.seq ?_)
        refine W.block ?_
        repeat (refine W.seq ?_)
        refine W.region 94 98 (by decide) rfl rfl ?_
        refine RW.opd rfl rfl (LO.move rfl rfl) ?_
        refine RW.opd rfl rfl (LO.move rfl rfl) ?_
        refine RW.opd rfl rfl (LO.indexAddr rfl rfl rfl rfl ty23 ty3 ?_) ?_; (· (first | omega | decide | assumption | fail | (simp; done) | (simp; omega)))
        refine RW.opn rfl rfl (LO.store rfl rfl rfl rfl rfl ty3 rfl (by decide) hset9) ?_
        refine RW.nil ?_
        repeat (refine W.seq ?_)
        refine W.region 102 107 (by decide) rfl rfl ?_
        refine RW.opd rfl rfl (LO.move rfl rfl) ?_
        refine RW.opd rfl rfl (LO.move rfl rfl) ?_
        refine RW.opd rfl rfl (LO.neg_in rfl rfl ?_) ?_; (· (first | (rw [Int.zero_sub]; exact IntWalk.i64_in _ (by omega)) | assumption | fail))
        refine RW.opd rfl rfl (LO.and rfl rfl rfl) ?_
        refine RW.opd rfl rfl (LO.assign rfl rfl) ?_
        refine RW.nil ?_
        rw [hneg]
        repeat (refine W.seq ?_)
        refine W.region 111 112 (by decide) rfl rfl ?_
        refine RW.opd rfl rfl (LO.assign rfl rfl) ?_
        refine RW.nil ?_
        rw [hF2]
        repeat (refine W.seq ?_)
        refine W.block ?_
        refine W.rename [(0, 0), (1, 1), (2, 2), (3, 3)] 4 (T' := up (up (up (up (up (up (up (up mt 2 (some (.isl (itsC its) its.length))) 8 (some (.base (.int .i64 ((A : Int) + 1))))) 9 (some (.osl 1 0 (A + 1) 1))) 11 (some (.osl 2 0 (A + 1) 1))) 12 (some (.osl 3 0 (A + 1) 1))) 13 (some (.base (.int .i64 (s : Int))))) 14 (some (.base (.int .i64 (lw s : Int))))) 15 (some (.base (.int .i64 (1 : Int))))) (H' := up (up (up (up mt 0 (some (fabC f))) 1 (some (boolsC (sfT safe A (A + 1))))) 2 (some (intsC (XS safe A s ((9, 0)).1)))) 3 (some (intsC (iF (FS safe A s ((9, 0)).2))))) (by decide) ?_ ?_ ?_
        · (repeat' (first | exact all_mt | refine all_up ?_ ?_)) <;> first | exact .inl ⟨rfl, rfl⟩ | exact .inr ⟨rfl, fun _ h => by cases h⟩ | exact .inl ⟨rfl, by first | rfl | assumption | exact (boolsC_pure _) | exact (intsC_pure _)⟩
        · (repeat' (first | exact all_mt | refine all_up ?_ ?_)) <;> first | exact ⟨rfl, _, rfl, .inr ⟨rfl, rfl⟩⟩ | exact ⟨rfl, _, rfl, .inl rfl⟩ | exact ⟨rfl, _, rfl, .inr ⟨rfl, by first | rfl | assumption | exact (boolsC_pure _) | exact (intsC_pure _)⟩⟩
        refine W.loop_ind (α := Nat × Nat × Nat) (fun x => s + 1 - x.1) 4 (fun x => up (up (up (up (up (up (up (up mt 2 (some (.isl (itsC its) its.length))) 8 (some (.base (.int .i64 ((A : Int) + 1))))) 9 (some (.osl 1 0 (A + 1) 1))) 11 (some (.osl 2 0 (A + 1) 1))) 12 (some (.osl 3 0 (A + 1) 1))) 13 (some (.base (.int .i64 (s : Int))))) 14 (some (.base (.int .i64 (lw s : Int))))) 15 (some (.base (.int .i64 (x.1 : Int))))) (fun x => up (up (up (up mt 0 (some (fabC f))) 1 (some (boolsC (sfT safe A (A + 1))))) 2 (some (intsC (XS safe A s x.2.1)))) 3 (some (intsC (iF (FS safe A s x.2.2))))) (fun x => (1 ≤ x.1 ∧ x.1 ≤ s + 1) ∧ x.2 = scan safe (rr safe) s x.1) (1, ((9, 0))) (show (1 ≤ 1 ∧ 1 ≤ s + 1) ∧ ((9, 0)) = scan safe (rr safe) s 1 from ⟨⟨Nat.le_refl _, by omega⟩, (scan_low safe (rr safe) hs256 hs0 hlwp).symm⟩) ?_
        rintro ⟨k, p⟩ hIC ihC
        try (dsimp only at hIC)
        try dsimp only
        obtain ⟨⟨hk0, hk1⟩, hp⟩ := hIC
        have hp9 := (scan_spec safe (rr safe) s k).1
        rw [← hp] at hp9
        by_cases hck : k ≤ s
        · have g2 : decide ((k : Int) ≤ (s : Int)) = true := decide_eq_true (by omega)
          have hk256 : k < 256 := by omega
          have e1 := andNotI (n := s) hk256
          have e2 := andI (n := lw s) hk256
          have e3 := andNotI (n := k) hs256
          have e4 : gB (sfT safe A (A + 1)) k = safe k := sfT_at (by omega) (by omega)
          repeat (refine W.seq ?_)
          refine W.region 116 119 (by decide) rfl rfl ?_
          refine RW.opd rfl rfl (LO.move rfl rfl) ?_
          refine RW.opd rfl rfl (LO.move rfl rfl) ?_
          refine RW.opd rfl rfl (LO.leq rfl rfl rfl) ?_
          refine RW.nil ?_
          repeat (refine W.seq ?_)
          refine W.cond_t rfl (by first | rfl | assumption) ?_
          refine W.skip ?_
          repeat (refine W.seq ?_)
          refine W.block ?_
          cases h1 : (dif k s == 0)
          case' false =>
            have k1 : (bitV .andNot .i64 (k : Int) (s : Int) != 0) = true := by rw [e1]; simpa using h1
            have hno := scan_no (safe := safe) (r := rr safe) (s := s) (k := k) (fun h => by have := h.1; unfold cand at this; rw [h1] at this; simp at this)
            repeat (refine W.seq ?_)
            refine W.region 123 149 (by decide) rfl rfl ?_
            refine RW.opd rfl rfl (LO.move rfl rfl) ?_
            refine RW.opd rfl rfl (LO.move rfl rfl) ?_
            refine RW.opd rfl rfl (LO.andNot rfl rfl rfl) ?_
            refine RW.opd rfl rfl (LO.neq rfl rfl rfl) ?_
            refine RW.opd rfl rfl (LO.move rfl rfl) ?_
            refine RW.sd rfl rfl rfl ?_ rfl ?_; (· (first | rfl | assumption))
            refine RW.sd rfl rfl rfl ?_ rfl ?_; (· (first | rfl | assumption))
            refine RW.sd rfl rfl rfl ?_ rfl ?_; (· (first | rfl | assumption))
            refine RW.sd rfl rfl rfl ?_ rfl ?_; (· (first | rfl | assumption))
            refine RW.opd rfl rfl (LO.pick_t rfl rfl ?_ rfl) ?_; (· (first | rfl | assumption))
            refine RW.opd rfl rfl (LO.move rfl rfl) ?_
            refine RW.sd rfl rfl rfl ?_ rfl ?_; (· (first | rfl | assumption))
            refine RW.sd rfl rfl rfl ?_ rfl ?_; (· (first | rfl | assumption))
            refine RW.sd rfl rfl rfl ?_ rfl ?_; (· (first | rfl | assumption))
            refine RW.sd rfl rfl rfl ?_ rfl ?_; (· (first | rfl | assumption))
            refine RW.sd rfl rfl rfl ?_ rfl ?_; (· (first | rfl | assumption))
            refine RW.opd rfl rfl (LO.pick_t rfl rfl ?_ rfl) ?_; (· (first | rfl | assumption))
            refine RW.opd rfl rfl (LO.move rfl rfl) ?_
            refine RW.sd rfl rfl rfl ?_ rfl ?_; (· (first | rfl | assumption))
            refine RW.sd rfl rfl rfl ?_ rfl ?_; (· (first | rfl | assumption))
            refine RW.sd rfl rfl rfl ?_ rfl ?_; (· (first | rfl | assumption))
            refine RW.sd rfl rfl rfl ?_ rfl ?_; (· (first | rfl | assumption))
            refine RW.sd rfl rfl rfl ?_ rfl ?_; (· (first | rfl | assumption))
            refine RW.sd rfl rfl rfl ?_ rfl ?_; (· (first | rfl | assumption))
            refine RW.sd rfl rfl rfl ?_ rfl ?_; (· (first | rfl | assumption))
            refine RW.opd rfl rfl (LO.pick_t rfl rfl ?_ rfl) ?_; (· (first | rfl | assumption))
            refine RW.nil ?_
          case' true =>
            have k1 : (bitV .andNot .i64 (k : Int) (s : Int) != 0) = false := by rw [e1]; simpa using h1
            cases h2 : (k &&& lw s != 0)
            case' false =>
              have k2 : (bitV .and .i64 (k : Int) (lw s : Int) == 0) = true := by rw [e2]; simpa using h2
              have hno := scan_no (safe := safe) (r := rr safe) (s := s) (k := k) (fun h => by have := h.1; unfold cand at this; rw [h1, h2] at this; simp at this)
              repeat (refine W.seq ?_)
              refine W.region 123 149 (by decide) rfl rfl ?_
              refine RW.opd rfl rfl (LO.move rfl rfl) ?_
              refine RW.opd rfl rfl (LO.move rfl rfl) ?_
              refine RW.opd rfl rfl (LO.andNot rfl rfl rfl) ?_
              refine RW.opd rfl rfl (LO.neq rfl rfl rfl) ?_
              refine RW.opd rfl rfl (LO.move rfl rfl) ?_
              refine RW.gd rfl rfl rfl ?_ rfl (LO.move rfl rfl) ?_; (· (first | rfl | assumption))
              refine RW.gd rfl rfl rfl ?_ rfl (LO.move rfl rfl) ?_; (· (first | rfl | assumption))
              refine RW.gd rfl rfl rfl ?_ rfl (LO.and rfl rfl rfl) ?_; (· (first | rfl | assumption))
              refine RW.gd rfl rfl rfl ?_ rfl (LO.eql rfl rfl rfl) ?_; (· (first | rfl | assumption))
              refine RW.opd rfl rfl (LO.pick_f rfl rfl ?_ rfl) ?_; (· (first | rfl | assumption))
              refine RW.opd rfl rfl (LO.move rfl rfl) ?_
              refine RW.sd rfl rfl rfl ?_ rfl ?_; (· (first | rfl | assumption))
              refine RW.sd rfl rfl rfl ?_ rfl ?_; (· (first | rfl | assumption))
              refine RW.sd rfl rfl rfl ?_ rfl ?_; (· (first | rfl | assumption))
              refine RW.sd rfl rfl rfl ?_ rfl ?_; (· (first | rfl | assumption))
              refine RW.sd rfl rfl rfl ?_ rfl ?_; (· (first | rfl | assumption))
              refine RW.opd rfl rfl (LO.pick_t rfl rfl ?_ rfl) ?_; (· (first | rfl | assumption))
              refine RW.opd rfl rfl (LO.move rfl rfl) ?_
              refine RW.sd rfl rfl rfl ?_ rfl ?_; (· (first | rfl | assumption))
              refine RW.sd rfl rfl rfl ?_ rfl ?_; (· (first | rfl | assumption))
              refine RW.sd rfl rfl rfl ?_ rfl ?_; (· (first | rfl | assumption))
              refine RW.sd rfl rfl rfl ?_ rfl ?_; (· (first | rfl | assumption))
              refine RW.sd rfl rfl rfl ?_ rfl ?_; (· (first | rfl | assumption))
              refine RW.sd rfl rfl rfl ?_ rfl ?_; (· (first | rfl | assumption))
              refine RW.sd rfl rfl rfl ?_ rfl ?_; (· (first | rfl | assumption))
              refine RW.opd rfl rfl (LO.pick_t rfl rfl ?_ rfl) ?_; (· (first | rfl | assumption))
              refine RW.nil ?_
            case' true =>
              have k2 : (bitV .and .i64 (k : Int) (lw s : Int) == 0) = false := by rw [e2]; simpa using h2
              cases h3 : safe k
              case' false =>
                have k3 : (!gB (sfT safe A (A + 1)) k) = true := by rw [e4, h3]; rfl
                have hno := scan_no (safe := safe) (r := rr safe) (s := s) (k := k) (fun h => by have := h.1; unfold cand at this; rw [h1, h2, h3] at this; simp at this)
                repeat (refine W.seq ?_)
                refine W.region 123 149 (by decide) rfl rfl ?_
                refine RW.opd rfl rfl (LO.move rfl rfl) ?_
                refine RW.opd rfl rfl (LO.move rfl rfl) ?_
                refine RW.opd rfl rfl (LO.andNot rfl rfl rfl) ?_
                refine RW.opd rfl rfl (LO.neq rfl rfl rfl) ?_
                refine RW.opd rfl rfl (LO.move rfl rfl) ?_
                refine RW.gd rfl rfl rfl ?_ rfl (LO.move rfl rfl) ?_; (· (first | rfl | assumption))
                refine RW.gd rfl rfl rfl ?_ rfl (LO.move rfl rfl) ?_; (· (first | rfl | assumption))
                refine RW.gd rfl rfl rfl ?_ rfl (LO.and rfl rfl rfl) ?_; (· (first | rfl | assumption))
                refine RW.gd rfl rfl rfl ?_ rfl (LO.eql rfl rfl rfl) ?_; (· (first | rfl | assumption))
                refine RW.opd rfl rfl (LO.pick_f rfl rfl ?_ rfl) ?_; (· (first | rfl | assumption))
                refine RW.opd rfl rfl (LO.move rfl rfl) ?_
                refine RW.gd rfl rfl rfl ?_ rfl (LO.move rfl rfl) ?_; (· (first | rfl | assumption))
                refine RW.gd rfl rfl rfl ?_ rfl (LO.move rfl rfl) ?_; (· (first | rfl | assumption))
                refine RW.gd rfl rfl rfl ?_ rfl (LO.indexAddr rfl rfl rfl rfl ty26 ty4 ?_) ?_; (· (first | rfl | assumption)); (· (first | omega | decide | assumption | fail | (simp; done) | (simp; omega)))
                refine RW.gd rfl rfl rfl ?_ rfl (LO.load rfl rfl rfl (bg_nat (by rw [sfT_len]; omega)) ty4 rfl) ?_; (· (first | rfl | assumption))
                refine RW.gd rfl rfl rfl ?_ rfl (LO.not rfl rfl) ?_; (· (first | rfl | assumption))
                refine RW.opd rfl rfl (LO.pick_f rfl rfl ?_ rfl) ?_; (· (first | rfl | assumption))
                refine RW.opd rfl rfl (LO.move rfl rfl) ?_
                refine RW.sd rfl rfl rfl ?_ rfl ?_; (· (first | rfl | assumption))
                refine RW.sd rfl rfl rfl ?_ rfl ?_; (· (first | rfl | assumption))
                refine RW.sd rfl rfl rfl ?_ rfl ?_; (· (first | rfl | assumption))
                refine RW.sd rfl rfl rfl ?_ rfl ?_; (· (first | rfl | assumption))
                refine RW.sd rfl rfl rfl ?_ rfl ?_; (· (first | rfl | assumption))
                refine RW.sd rfl rfl rfl ?_ rfl ?_; (· (first | rfl | assumption))
                refine RW.sd rfl rfl rfl ?_ rfl ?_; (· (first | rfl | assumption))
                refine RW.opd rfl rfl (LO.pick_t rfl rfl ?_ rfl) ?_; (· (first | rfl | assumption))
                refine RW.nil ?_
              case' true =>
                have k3 : (!gB (sfT safe A (A + 1)) k) = false := by rw [e4, h3]; rfl
                obtain ⟨c, _, hl1, hl2⟩ := lw_bit hs256 hs0
                have hd : dif s k < s := dif_sub c hl2 (by rw [← and_pow, ← hl1]; exact h2)
                have r1 : gI (XS safe A s p.1) (dif s k : Nat) = xv (rr safe (dif s k)) := XS_at hd hc
                have r2 : gI (XS safe A s p.1) s = xv p.1 := XS_self hc
                have r9 := rr_le safe (s := dif s k) (by omega)
                by_cases h9 : rr safe (dif s k) < 9
                case' neg =>
                  have k4 : decide (gI (XS safe A s p.1) (dif s k : Nat) < 0) = true := by rw [r1, xv_neg r9, decide_eq_false h9]; rfl
                  have hno := scan_no (safe := safe) (r := rr safe) (s := s) (k := k) (fun h => by have := (cand_bits hs256 hs0 h.1).2.2.2; exact h9 this)
                  repeat (refine W.seq ?_)
                  refine W.region 123 149 (by decide) rfl rfl ?_
                  refine RW.opd rfl rfl (LO.move rfl rfl) ?_
                  refine RW.opd rfl rfl (LO.move rfl rfl) ?_
                  refine RW.opd rfl rfl (LO.andNot rfl rfl rfl) ?_
                  refine RW.opd rfl rfl (LO.neq rfl rfl rfl) ?_
                  refine RW.opd rfl rfl (LO.move rfl rfl) ?_
                  refine RW.gd rfl rfl rfl ?_ rfl (LO.move rfl rfl) ?_; (· (first | rfl | assumption))
                  refine RW.gd rfl rfl rfl ?_ rfl (LO.move rfl rfl) ?_; (· (first | rfl | assumption))
                  refine RW.gd rfl rfl rfl ?_ rfl (LO.and rfl rfl rfl) ?_; (· (first | rfl | assumption))
                  refine RW.gd rfl rfl rfl ?_ rfl (LO.eql rfl rfl rfl) ?_; (· (first | rfl | assumption))
                  refine RW.opd rfl rfl (LO.pick_f rfl rfl ?_ rfl) ?_; (· (first | rfl | assumption))
                  refine RW.opd rfl rfl (LO.move rfl rfl) ?_
                  refine RW.gd rfl rfl rfl ?_ rfl (LO.move rfl rfl) ?_; (· (first | rfl | assumption))
                  refine RW.gd rfl rfl rfl ?_ rfl (LO.move rfl rfl) ?_; (· (first | rfl | assumption))
                  refine RW.gd rfl rfl rfl ?_ rfl (LO.indexAddr rfl rfl rfl rfl ty26 ty4 ?_) ?_; (· (first | rfl | assumption)); (· (first | omega | decide | assumption | fail | (simp; done) | (simp; omega)))
                  refine RW.gd rfl rfl rfl ?_ rfl (LO.load rfl rfl rfl (bg_nat (by rw [sfT_len]; omega)) ty4 rfl) ?_; (· (first | rfl | assumption))
                  refine RW.gd rfl rfl rfl ?_ rfl (LO.not rfl rfl) ?_; (· (first | rfl | assumption))
                  refine RW.opd rfl rfl (LO.pick_f rfl rfl ?_ rfl) ?_; (· (first | rfl | assumption))
                  refine RW.opd rfl rfl (LO.move rfl rfl) ?_
                  refine RW.gd rfl rfl rfl ?_ rfl (LO.move rfl rfl) ?_; (· (first | rfl | assumption))
                  refine RW.gd rfl rfl rfl ?_ rfl (LO.move rfl rfl) ?_; (· (first | rfl | assumption))
                  refine RW.gd rfl rfl rfl ?_ rfl (LO.move rfl rfl) ?_; (· (first | rfl | assumption))
                  refine RW.gd rfl rfl rfl ?_ rfl (LO.andNot rfl rfl rfl) ?_; (· (first | rfl | assumption))
                  refine RW.gd rfl rfl rfl ?_ rfl (LO.indexAddr rfl rfl rfl e3 ty23 ty3 ?_) ?_; (· (first | rfl | assumption)); (· (first | omega | decide | assumption | fail | (simp; done) | (simp; omega)))
                  refine RW.gd rfl rfl rfl ?_ rfl (LO.load rfl rfl rfl (ni_at (k := dif s k) (by rw [XS_len]; omega)) ty3 rfl) ?_; (· (first | rfl | assumption))
                  refine RW.gd rfl rfl rfl ?_ rfl (LO.lss rfl rfl rfl) ?_; (· (first | rfl | assumption))
                  refine RW.opd rfl rfl (LO.pick_f rfl rfl ?_ rfl) ?_; (· (first | rfl | assumption))
                  refine RW.nil ?_
                case' pos =>
                  have k4 : decide (gI (XS safe A s p.1) (dif s k : Nat) < 0) = false := by rw [r1, xv_neg r9, decide_eq_true h9]; rfl
                  have h88 := rr_left safe hs256 hs0 h2 h9
                  have r3 : gI (XS safe A s p.1) (dif s k : Nat) = rr safe (dif s k) := by rw [r1]; unfold xv; rw [if_pos h9]
                  repeat (refine W.seq ?_)
                  refine W.region 123 149 (by decide) rfl rfl ?_
                  refine RW.opd rfl rfl (LO.move rfl rfl) ?_
                  refine RW.opd rfl rfl (LO.move rfl rfl) ?_
                  refine RW.opd rfl rfl (LO.andNot rfl rfl rfl) ?_
                  refine RW.opd rfl rfl (LO.neq rfl rfl rfl) ?_
                  refine RW.opd rfl rfl (LO.move rfl rfl) ?_
                  refine RW.gd rfl rfl rfl ?_ rfl (LO.move rfl rfl) ?_; (· (first | rfl | assumption))
                  refine RW.gd rfl rfl rfl ?_ rfl (LO.move rfl rfl) ?_; (· (first | rfl | assumption))
                  refine RW.gd rfl rfl rfl ?_ rfl (LO.and rfl rfl rfl) ?_; (· (first | rfl | assumption))
                  refine RW.gd rfl rfl rfl ?_ rfl (LO.eql rfl rfl rfl) ?_; (· (first | rfl | assumption))
                  refine RW.opd rfl rfl (LO.pick_f rfl rfl ?_ rfl) ?_; (· (first | rfl | assumption))
                  refine RW.opd rfl rfl (LO.move rfl rfl) ?_
                  refine RW.gd rfl rfl rfl ?_ rfl (LO.move rfl rfl) ?_; (· (first | rfl | assumption))
                  refine RW.gd rfl rfl rfl ?_ rfl (LO.move rfl rfl) ?_; (· (first | rfl | assumption))
                  refine RW.gd rfl rfl rfl ?_ rfl (LO.indexAddr rfl rfl rfl rfl ty26 ty4 ?_) ?_; (· (first | rfl | assumption)); (· (first | omega | decide | assumption | fail | (simp; done) | (simp; omega)))
                  refine RW.gd rfl rfl rfl ?_ rfl (LO.load rfl rfl rfl (bg_nat (by rw [sfT_len]; omega)) ty4 rfl) ?_; (· (first | rfl | assumption))
                  refine RW.gd rfl rfl rfl ?_ rfl (LO.not rfl rfl) ?_; (· (first | rfl | assumption))
                  refine RW.opd rfl rfl (LO.pick_f rfl rfl ?_ rfl) ?_; (· (first | rfl | assumption))
                  refine RW.opd rfl rfl (LO.move rfl rfl) ?_
                  refine RW.gd rfl rfl rfl ?_ rfl (LO.move rfl rfl) ?_; (· (first | rfl | assumption))
                  refine RW.gd rfl rfl rfl ?_ rfl (LO.move rfl rfl) ?_; (· (first | rfl | assumption))
                  refine RW.gd rfl rfl rfl ?_ rfl (LO.move rfl rfl) ?_; (· (first | rfl | assumption))
                  refine RW.gd rfl rfl rfl ?_ rfl (LO.andNot rfl rfl rfl) ?_; (· (first | rfl | assumption))
                  refine RW.gd rfl rfl rfl ?_ rfl (LO.indexAddr rfl rfl rfl e3 ty23 ty3 ?_) ?_; (· (first | rfl | assumption)); (· (first | omega | decide | assumption | fail | (simp; done) | (simp; omega)))
                  refine RW.gd rfl rfl rfl ?_ rfl (LO.load rfl rfl rfl (ni_at (k := dif s k) (by rw [XS_len]; omega)) ty3 rfl) ?_; (· (first | rfl | assumption))
                  refine RW.gd rfl rfl rfl ?_ rfl (LO.lss rfl rfl rfl) ?_; (· (first | rfl | assumption))
                  refine RW.opd rfl rfl (LO.pick_f rfl rfl ?_ rfl) ?_; (· (first | rfl | assumption))
                  refine RW.nil ?_
                  repeat (refine W.seq ?_)
                  refine W.cond_f rfl (by first | rfl | assumption) ?_
                  refine W.skip ?_
                  repeat (refine W.seq ?_)
                  refine W.region 153 161 (by decide) rfl rfl ?_
                  refine RW.opd rfl rfl (LO.move rfl rfl) ?_
                  refine RW.opd rfl rfl (LO.move rfl rfl) ?_
                  refine RW.opd rfl rfl (LO.move rfl rfl) ?_
                  refine RW.opd rfl rfl (LO.andNot rfl rfl rfl) ?_
                  refine RW.opd rfl rfl (LO.indexAddr rfl rfl rfl e3 ty23 ty3 ?_) ?_; (· (first | omega | decide | assumption | fail | (simp; done) | (simp; omega)))
                  refine RW.opd rfl rfl (LO.load rfl rfl rfl (ni_at (k := dif s k) (by rw [XS_len]; omega)) ty3 rfl) ?_
                  refine RW.opd rfl rfl (LO.add_in rfl rfl rfl ?_) ?_; (· (first | exact IntWalk.i64_in _ (by omega) | assumption))
                  refine RW.opd rfl rfl (LO.assign rfl rfl) ?_
                  refine RW.nil ?_
                  by_cases h4 : rr safe (dif s k) + 1 < p.1
                  case' neg =>
                    have hp8 : p.1 < 9 := by omega
                    have r4 : gI (XS safe A s p.1) s = p.1 := by rw [r2]; unfold xv; rw [if_pos hp8]
                    have k5 : decide (gI (XS safe A s p.1) s < 0) = false := decide_eq_false (by rw [r4]; omega)
                    have k6 : decide (1 + gI (XS safe A s p.1) (dif s k : Nat) < gI (XS safe A s p.1) s) = false := decide_eq_false (by rw [r3, r4]; omega)
                    have hno := scan_no (safe := safe) (r := rr safe) (s := s) (k := k) (fun h => h4 (by rw [hp]; exact h.2))
                    repeat (refine W.seq ?_)
                    refine W.region 165 178 (by decide) rfl rfl ?_
                    refine RW.opd rfl rfl (LO.move rfl rfl) ?_
                    refine RW.opd rfl rfl (LO.move rfl rfl) ?_
                    refine RW.opd rfl rfl (LO.indexAddr rfl rfl rfl rfl ty23 ty3 ?_) ?_; (· (first | omega | decide | assumption | fail | (simp; done) | (simp; omega)))
                    refine RW.opd rfl rfl (LO.load rfl rfl rfl (ni_at (k := s) (by rw [XS_len]; omega)) ty3 rfl) ?_
                    refine RW.opd rfl rfl (LO.lss rfl rfl rfl) ?_
                    refine RW.opd rfl rfl (LO.move rfl rfl) ?_
                    refine RW.gd rfl rfl rfl ?_ rfl (LO.move rfl rfl) ?_; (· (first | rfl | assumption))
                    refine RW.gd rfl rfl rfl ?_ rfl (LO.move rfl rfl) ?_; (· (first | rfl | assumption))
                    refine RW.gd rfl rfl rfl ?_ rfl (LO.move rfl rfl) ?_; (· (first | rfl | assumption))
                    refine RW.gd rfl rfl rfl ?_ rfl (LO.indexAddr rfl rfl rfl rfl ty23 ty3 ?_) ?_; (· (first | rfl | assumption)); (· (first | omega | decide | assumption | fail | (simp; done) | (simp; omega)))
                    refine RW.gd rfl rfl rfl ?_ rfl (LO.load rfl rfl rfl (ni_at (k := s) (by rw [XS_len]; omega)) ty3 rfl) ?_; (· (first | rfl | assumption))
                    refine RW.gd rfl rfl rfl ?_ rfl (LO.lss rfl rfl rfl) ?_; (· (first | rfl | assumption))
                    refine RW.opd rfl rfl (LO.pick_f rfl rfl ?_ rfl) ?_; (· (first | rfl | assumption))
                    refine RW.nil ?_
                    repeat (refine W.seq ?_)
                    refine W.cond_f rfl (by first | rfl | assumption) ?_
                    refine W.skip ?_
                    repeat (refine W.seq ?_)
                    refine W.region 196 199 (by decide) rfl rfl ?_
                    refine RW.opd rfl rfl (LO.move rfl rfl) ?_
                    refine RW.opd rfl rfl (LO.add_in rfl rfl rfl ?_) ?_; (· (first | exact IntWalk.i64_in _ (by omega) | assumption))
                    refine RW.opd rfl rfl (LO.assign rfl rfl) ?_
                    refine RW.nil ?_
                    refine WL.rename [(0, 0), (1, 1), (2, 2), (3, 3)] 4 (by decide) ?_ ?_ (ihC ((k + 1), p) (show s + 1 - (k + 1) < s + 1 - k from by omega) (show (1 ≤ (k + 1) ∧ (k + 1) ≤ s + 1) ∧ p = scan safe (rr safe) s (k + 1) from ⟨⟨by omega, by omega⟩, by rw [hno]; exact hp⟩))
                    · (repeat' (first | exact all_mt | refine all_up ?_ ?_)) <;> first | exact .inl ⟨rfl, rfl⟩ | exact .inr ⟨rfl, fun _ h => by cases h⟩ | exact .inl ⟨rfl, by first | rfl | assumption | exact (boolsC_pure _) | exact (intsC_pure _)⟩
                    · (repeat' (first | exact all_mt | refine all_up ?_ ?_)) <;> first | exact ⟨rfl, _, rfl, .inr ⟨rfl, rfl⟩⟩ | exact ⟨rfl, _, rfl, .inl rfl⟩ | exact ⟨rfl, _, rfl, .inr ⟨rfl, by first | rfl | assumption | exact (boolsC_pure _) | exact (intsC_pure _)⟩⟩
                  case' pos =>
                    have hyes := scan_yes (safe := safe) (r := rr safe) (s := s) (k := k) ⟨by unfold cand; rw [h1, h2, h3, decide_eq_true h9]; rfl, by rw [← hp]; exact h4⟩
                    have hst : (XS safe A s p.1).set s (1 + gI (XS safe A s p.1) (dif s k : Nat)) = XS safe A s (rr safe (dif s k) + 1) := by
                      rw [r3, show (1 : Int) + (rr safe (dif s k) : Int) = xv (rr safe (dif s k) + 1) from by unfold xv; rw [if_pos (by omega)]; omega]
                      exact XS_set _ _ _ _ _
                    have hst2 : (iF (FS safe A s p.2)).set s (k : Int) = iF (FS safe A s k) := by rw [iF_set, FS_set]
                    rcases (show p.1 = 9 ∨ p.1 < 9 by omega) with hp8 | hp8
                    case' inl =>
                      have k5 : decide (gI (XS safe A s p.1) s < 0) = true := decide_eq_true (by rw [r2, hp8]; decide)
                      repeat (refine W.seq ?_)
                      refine W.region 165 178 (by decide) rfl rfl ?_
                      refine RW.opd rfl rfl (LO.move rfl rfl) ?_
                      refine RW.opd rfl rfl (LO.move rfl rfl) ?_
                      refine RW.opd rfl rfl (LO.indexAddr rfl rfl rfl rfl ty23 ty3 ?_) ?_; (· (first | omega | decide | assumption | fail | (simp; done) | (simp; omega)))
                      refine RW.opd rfl rfl (LO.load rfl rfl rfl (ni_at (k := s) (by rw [XS_len]; omega)) ty3 rfl) ?_
                      refine RW.opd rfl rfl (LO.lss rfl rfl rfl) ?_
                      refine RW.opd rfl rfl (LO.move rfl rfl) ?_
                      refine RW.sd rfl rfl rfl ?_ rfl ?_; (· (first | rfl | assumption))
                      refine RW.sd rfl rfl rfl ?_ rfl ?_; (· (first | rfl | assumption))
                      refine RW.sd rfl rfl rfl ?_ rfl ?_; (· (first | rfl | assumption))
                      refine RW.sd rfl rfl rfl ?_ rfl ?_; (· (first | rfl | assumption))
                      refine RW.sd rfl rfl rfl ?_ rfl ?_; (· (first | rfl | assumption))
                      refine RW.sd rfl rfl rfl ?_ rfl ?_; (· (first | rfl | assumption))
                      refine RW.opd rfl rfl (LO.pick_t rfl rfl ?_ rfl) ?_; (· (first | rfl | assumption))
                      refine RW.nil ?_
                    case' inr =>
                      have r4 : gI (XS safe A s p.1) s = p.1 := by rw [r2]; unfold xv; rw [if_pos hp8]
                      have k5 : decide (gI (XS safe A s p.1) s < 0) = false := decide_eq_false (by rw [r4]; omega)
                      have k6 : decide (1 + gI (XS safe A s p.1) (dif s k : Nat) < gI (XS safe A s p.1) s) = true := decide_eq_true (by rw [r3, r4]; omega)
                      repeat (refine W.seq ?_)
                      refine W.region 165 178 (by decide) rfl rfl ?_
                      refine RW.opd rfl rfl (LO.move rfl rfl) ?_
                      refine RW.opd rfl rfl (LO.move rfl rfl) ?_
                      refine RW.opd rfl rfl (LO.indexAddr rfl rfl rfl rfl ty23 ty3 ?_) ?_; (· (first | omega | decide | assumption | fail | (simp; done) | (simp; omega)))
                      refine RW.opd rfl rfl (LO.load rfl rfl rfl (ni_at (k := s) (by rw [XS_len]; omega)) ty3 rfl) ?_
                      refine RW.opd rfl rfl (LO.lss rfl rfl rfl) ?_
                      refine RW.opd rfl rfl (LO.move rfl rfl) ?_
                      refine RW.gd rfl rfl rfl ?_ rfl (LO.move rfl rfl) ?_; (· (first | rfl | assumption))
                      refine RW.gd rfl rfl rfl ?_ rfl (LO.move rfl rfl) ?_; (· (first | rfl | assumption))
                      refine RW.gd rfl rfl rfl ?_ rfl (LO.move rfl rfl) ?_; (· (first | rfl | assumption))
                      refine RW.gd rfl rfl rfl ?_ rfl (LO.indexAddr rfl rfl rfl rfl ty23 ty3 ?_) ?_; (· (first | rfl | assumption)); (· (first | omega | decide | assumption | fail | (simp; done) | (simp; omega)))
                      refine RW.gd rfl rfl rfl ?_ rfl (LO.load rfl rfl rfl (ni_at (k := s) (by rw [XS_len]; omega)) ty3 rfl) ?_; (· (first | rfl | assumption))
                      refine RW.gd rfl rfl rfl ?_ rfl (LO.lss rfl rfl rfl) ?_; (· (first | rfl | assumption))
                      refine RW.opd rfl rfl (LO.pick_f rfl rfl ?_ rfl) ?_; (· (first | rfl | assumption))
                      refine RW.nil ?_
                    all_goals
                      repeat (refine W.seq ?_)
                      refine W.cond_t rfl (by first | rfl | assumption) ?_
                      repeat (refine W.seq ?_)
                      refine W.region 182 192 (by decide) rfl rfl ?_
                      refine RW.opd rfl rfl (LO.move rfl rfl) ?_
                      refine RW.opd rfl rfl (LO.move rfl rfl) ?_
                      refine RW.opd rfl rfl (LO.move rfl rfl) ?_
                      refine RW.opd rfl rfl (LO.move rfl rfl) ?_
                      refine RW.opd rfl rfl (LO.move rfl rfl) ?_
                      refine RW.opd rfl rfl (LO.move rfl rfl) ?_
                      refine RW.opd rfl rfl (LO.indexAddr rfl rfl rfl rfl ty23 ty3 ?_) ?_; (· (first | omega | decide | assumption | fail | (simp; done) | (simp; omega)))
                      refine RW.opn rfl rfl (LO.store rfl rfl rfl rfl rfl ty3 rfl (by decide) (ns_at (k := s) (by rw [XS_len]; omega))) ?_
                      refine RW.opd rfl rfl (LO.indexAddr rfl rfl rfl rfl ty23 ty3 ?_) ?_; (· (first | omega | decide | assumption | fail | (simp; done) | (simp; omega)))
                      refine RW.opn rfl rfl (LO.store rfl rfl rfl rfl rfl ty3 rfl (by decide) (ns_at (k := s) (by rw [iF_len, FS_len]; omega))) ?_
                      refine RW.nil ?_
                      repeat (refine W.seq ?_)
                      refine W.region 196 199 (by decide) rfl rfl ?_
                      refine RW.opd rfl rfl (LO.move rfl rfl) ?_
                      refine RW.opd rfl rfl (LO.add_in rfl rfl rfl ?_) ?_; (· (first | exact IntWalk.i64_in _ (by omega) | assumption))
                      refine RW.opd rfl rfl (LO.assign rfl rfl) ?_
                      refine RW.nil ?_
                      rw [hst, hst2]
                      refine WL.rename [(0, 0), (1, 1), (2, 2), (3, 3)] 4 (by decide) ?_ ?_ (ihC ((k + 1), ((rr safe (dif s k) + 1, k))) (show s + 1 - (k + 1) < s + 1 - k from by omega) (show (1 ≤ (k + 1) ∧ (k + 1) ≤ s + 1) ∧ ((rr safe (dif s k) + 1, k)) = scan safe (rr safe) s (k + 1) from ⟨⟨by omega, by omega⟩, hyes.symm⟩))
                      · (repeat' (first | exact all_mt | refine all_up ?_ ?_)) <;> first | exact .inl ⟨rfl, rfl⟩ | exact .inr ⟨rfl, fun _ h => by cases h⟩ | exact .inl ⟨rfl, by first | rfl | assumption | exact (boolsC_pure _) | exact (intsC_pure _)⟩
                      · (repeat' (first | exact all_mt | refine all_up ?_ ?_)) <;> first | exact ⟨rfl, _, rfl, .inr ⟨rfl, rfl⟩⟩ | exact ⟨rfl, _, rfl, .inl rfl⟩ | exact ⟨rfl, _, rfl, .inr ⟨rfl, by first | rfl | assumption | exact (boolsC_pure _) | exact (intsC_pure _)⟩⟩
          all_goals
            repeat (refine W.seq ?_)
            refine W.cond_t rfl (by first | rfl | assumption) ?_
            refine W.exit ?_
            repeat (refine W.seq ?_)
            refine W.region 196 199 (by decide) rfl rfl ?_
            refine RW.opd rfl rfl (LO.move rfl rfl) ?_
            refine RW.opd rfl rfl (LO.add_in rfl rfl rfl ?_) ?_; (· (first | exact IntWalk.i64_in _ (by omega) | assumption))
            refine RW.opd rfl rfl (LO.assign rfl rfl) ?_
            refine RW.nil ?_
            refine WL.rename [(0, 0), (1, 1), (2, 2), (3, 3)] 4 (by decide) ?_ ?_ (ihC ((k + 1), p) (show s + 1 - (k + 1) < s + 1 - k from by omega) (show (1 ≤ (k + 1) ∧ (k + 1) ≤ s + 1) ∧ p = scan safe (rr safe) s (k + 1) from ⟨⟨by omega, by omega⟩, by rw [hno]; exact hp⟩))
            · (repeat' (first | exact all_mt | refine all_up ?_ ?_)) <;> first | exact .inl ⟨rfl, rfl⟩ | exact .inr ⟨rfl, fun _ h => by cases h⟩ | exact .inl ⟨rfl, by first | rfl | assumption | exact (boolsC_pure _) | exact (intsC_pure _)⟩
            · (repeat' (first | exact all_mt | refine all_up ?_ ?_)) <;> first | exact ⟨rfl, _, rfl, .inr ⟨rfl, rfl⟩⟩ | exact ⟨rfl, _, rfl, .inl rfl⟩ | exact ⟨rfl, _, rfl, .inr ⟨rfl, by first | rfl | assumption | exact (boolsC_pure _) | exact (intsC_pure _)⟩⟩
        · have g2 : decide ((k : Int) ≤ (s : Int)) = false := decide_eq_false (by omega)
          obtain rfl : k = s + 1 := by omega
          have hpr : p = rn safe s := by rw [hp, rn_eq safe hs256 hs0]
          repeat (refine W.seq ?_)
          refine W.region 116 119 (by decide) rfl rfl ?_
          refine RW.opd rfl rfl (LO.move rfl rfl) ?_
          refine RW.opd rfl rfl (LO.move rfl rfl) ?_
          refine RW.opd rfl rfl (LO.leq rfl rfl rfl) ?_
          refine RW.nil ?_
          repeat (refine W.seq ?_)
          refine W.cond_f rfl (by first | rfl | assumption) ?_
          refine W.exit ?_
          repeat (refine W.seq ?_)
          refine W.region 203 206 (by decide) rfl rfl ?_
          refine RW.opd rfl rfl (LO.move rfl rfl) ?_
          refine RW.opd rfl rfl (LO.add_in rfl rfl rfl ?_) ?_; (· (first | exact IntWalk.i64_in _ (by omega) | assumption))
          refine RW.opd rfl rfl (LO.assign rfl rfl) ?_
          refine RW.nil ?_
          rw [hpr, XS_next, FS_next]
          refine WL.rename [(0, 0), (1, 1), (2, 2), (3, 3)] 4 (by decide) ?_ ?_ (ihB ((s + 1), (iF (fT safe A (s + 1)))) (show A + 1 - (s + 1) < A + 1 - s from by omega) (show (1 ≤ (s + 1) ∧ (s + 1) ≤ A + 1) ∧ (iF (fT safe A (s + 1))) = iF (fT safe A (s + 1)) from ⟨⟨by omega, by omega⟩, rfl⟩))
          · (repeat' (first | exact all_mt | refine all_up ?_ ?_)) <;> first | exact .inl ⟨rfl, rfl⟩ | exact .inr ⟨rfl, fun _ h => by cases h⟩ | exact .inl ⟨rfl, by first | rfl | assumption | exact (boolsC_pure _) | exact (intsC_pure _)⟩
          · (repeat' (first | exact all_mt | refine all_up ?_ ?_)) <;> first | exact ⟨rfl, _, rfl, .inr ⟨rfl, rfl⟩⟩ | exact ⟨rfl, _, rfl, .inl rfl⟩ | exact ⟨rfl, _, rfl, .inr ⟨rfl, by first | rfl | assumption | exact (boolsC_pure _) | exact (intsC_pure _)⟩⟩
      · have g1 : decide ((s : Int) < (A : Int) + 1) = false := decide_eq_false (by omega)
        obtain rfl : s = A + 1 := by omega
        subst hF
        repeat (refine W.seq ?_)
        refine W.region 87 90 (by decide) rfl rfl ?_
        refine RW.opd rfl rfl (LO.move rfl rfl) ?_
        refine RW.opd rfl rfl (LO.move rfl rfl) ?_
        refine RW.opd rfl rfl (LO.lss rfl rfl rfl) ?_
        refine RW.nil ?_
        repeat (refine W.seq ?_)
        refine W.cond_f rfl (by first | rfl | assumption) ?_
        refine W.exit ?_
        have hrA : gI (xT safe A (A + 1)) A = xv (rr safe A) := xT_end (Nat.le_refl _)
        have hr9 := rr_le safe hA3
        by_cases h9 : rr safe A < 9
        · have k9 : decide (gI (xT safe A (A + 1)) A < 0) = false := by rw [hrA, xv_neg hr9, decide_eq_true h9]; rfl
          rw [if_pos h9] at hrf
          repeat (refine W.seq ?_)
          refine W.region 210 216 (by decide) rfl rfl ?_
          refine RW.opd rfl rfl (LO.move rfl rfl) ?_
          refine RW.opd rfl rfl (LO.move rfl rfl) ?_
          refine RW.opd rfl rfl (LO.sub_in rfl rfl rfl ?_) ?_; (· (first | exact IntWalk.i64_in _ (by omega) | assumption))
          refine RW.opd rfl rfl (LO.indexAddr rfl rfl rfl (show (A : Int) + 1 - 1 = ((A : Nat) : Int) from by omega) ty23 ty3 ?_) ?_; (· (first | omega | decide | assumption | fail | (simp; done) | (simp; omega)))
          refine RW.opd rfl rfl (LO.load rfl rfl rfl (ni_at (k := A) (by rw [xT_len]; omega)) ty3 rfl) ?_
          refine RW.opd rfl rfl (LO.lss rfl rfl rfl) ?_
          refine RW.nil ?_
          repeat (refine W.seq ?_)
          refine W.cond_f rfl (by first | rfl | assumption) ?_
          refine W.skip ?_
          repeat (refine W.seq ?_)
          refine W.region 226 227 (by decide) rfl rfl ?_
          refine RW.opd rfl rfl (LO.assign rfl rfl) ?_
          refine RW.nil ?_
          refine W.name 227 (227 + 1) (t := 17) (sz := 1) rfl (by decide) (by decide) ?_
          repeat (refine W.seq ?_)
          refine W.region 231 234 (by decide) rfl rfl ?_
          refine RW.opd rfl rfl (LO.move rfl rfl) ?_
          refine RW.opd rfl rfl (LO.sub_in rfl rfl rfl ?_) ?_; (· (first | exact IntWalk.i64_in _ (by omega) | assumption))
          refine RW.opd rfl rfl (LO.assign rfl rfl) ?_
          refine RW.nil ?_
          rw [show (A : Int) + 1 - 1 = (A : Int) from by omega]
          repeat (refine W.seq ?_)
          refine W.block ?_
          refine W.rename [(0, 0), (1, 1), (2, 2), (3, 3), (4, 227)] 5 (T' := up (up (up (up mt 2 (some (.isl (itsC its) its.length))) 12 (some (.osl 3 0 (A + 1) 1))) 17 (some (.osl 4 0 (([] : List (List Itm))).length 1))) 18 (some (.base (.int .i64 (A : Int))))) (H' := up (up (up (up (up mt 0 (some (fabC f))) 1 (some (boolsC (sfT safe A (A + 1))))) 2 (some (intsC (xT safe A (A + 1))))) 3 (some (intsC (iF (fT safe A (A + 1)))))) 4 (some (gsC (([] : List (List Itm)))))) (by decide) ?_ ?_ ?_
          · (repeat' (first | exact all_mt | refine all_up ?_ ?_)) <;> first | exact .inl ⟨rfl, rfl⟩ | exact .inr ⟨rfl, fun _ h => by cases h⟩ | exact .inl ⟨rfl, by first | rfl | assumption | exact (boolsC_pure _) | exact (intsC_pure _) | exact (gsC_pure _)⟩
          · (repeat' (first | exact all_mt | refine all_up ?_ ?_)) <;> first | exact ⟨rfl, _, rfl, .inr ⟨rfl, rfl⟩⟩ | exact ⟨rfl, _, rfl, .inl rfl⟩ | exact ⟨rfl, _, rfl, .inr ⟨rfl, by first | rfl | assumption | exact (boolsC_pure _) | exact (intsC_pure _) | exact (gsC_pure _)⟩⟩
          refine W.loop_ind (α := Nat × List (List Itm)) (fun x => x.1) 5 (fun x => up (up (up (up mt 2 (some (.isl (itsC its) its.length))) 12 (some (.osl 3 0 (A + 1) 1))) 17 (some (.osl 4 0 x.2.length 1))) 18 (some (.base (.int .i64 (x.1 : Int))))) (fun x => up (up (up (up (up mt 0 (some (fabC f))) 1 (some (boolsC (sfT safe A (A + 1))))) 2 (some (intsC (xT safe A (A + 1))))) 3 (some (intsC (iF (fT safe A (A + 1)))))) 4 (some (gsC x.2))) (fun x => (x.1 ≤ A ∧ rr safe x.1 < 9 ∧ x.2.length + rr safe x.1 ≤ 9) ∧ (divs safe A).map (chF its) = x.2 ++ (divs safe x.1).map (chF its)) (A, (([] : List (List Itm)))) (show (A ≤ A ∧ rr safe A < 9 ∧ (([] : List (List Itm))).length + rr safe A ≤ 9) ∧ (divs safe A).map (chF its) = (([] : List (List Itm))) ++ (divs safe A).map (chF its) from ⟨⟨Nat.le_refl _, h9, by simp; omega⟩, rfl⟩) ?_
          rintro ⟨s, out⟩ hID ihD
          try (dsimp only at hID)
          try dsimp only
          obtain ⟨⟨hsA2, hs9, hol⟩, hdv⟩ := hID
          have hs256 : s < 256 := by omega
          by_cases hs0 : s = 0
          · have g3 : decide ((s : Int) > 0) = false := decide_eq_false (by omega)
            have hz : divs safe s = [] := by rw [hs0]; rfl
            rw [hz, List.map_nil, List.append_nil] at hdv
            repeat (refine W.seq ?_)
            refine W.region 238 240 (by decide) rfl rfl ?_
            refine RW.opd rfl rfl (LO.move rfl rfl) ?_
            refine RW.opd rfl rfl (LO.gtr rfl rfl rfl) ?_
            refine RW.nil ?_
            repeat (refine W.seq ?_)
            refine W.cond_f rfl (by first | rfl | assumption) ?_
            refine W.exit ?_
            repeat (refine W.seq ?_)
            refine W.region 269 272 (by decide) rfl rfl ?_
            refine RW.opd rfl rfl (LO.move rfl rfl) ?_
            refine RW.opd rfl rfl (LO.assign rfl rfl) ?_
            refine RW.opd rfl rfl (LO.assign rfl rfl) ?_
            refine RW.nil ?_
            refine W.frz1 (t := 6) rfl rfl (gs_tk rfl) (gsC_pure _) ?_
            repeat (refine W.seq ?_)
            refine W.ret ⟨.inl rfl, _, mt, RVs.cons (RV.tmp rfl) (RVs.cons (RV.tmp rfl) (RVs.nil)), all_mt, ?_⟩
            exact ⟨by rw [hrf, hdv]; rfl, rfl⟩
          · have g3 : decide ((s : Int) > 0) = true := decide_eq_true (by omega)
            obtain ⟨hn1, hn2⟩ := rr_next hs256 hs0 hs9
            have hdc := divs_cons hs256 hs0 hs9
            have hgn : gN (fT safe A (A + 1)) s = (rn safe s).2 := fT_end hsA2
            have hfs : (rn safe s).2 < 256 := by
              have := (divs_ok safe s hs256 hs9).1 (rn safe s).2 (by rw [hdc]; exact List.mem_cons_self ..)
              exact this.2.2.1
            have hch := set_any its (rn safe s).2 hfs h8
            have e5 := andNotI (n := (rn safe s).2) hs256
            have hnu := ni_at (l := iF (fT safe A (A + 1))) (k := s) (by rw [iF_len, fT_len]; omega)
            rw [iF_at (by rw [fT_len]; omega), hgn] at hnu
            repeat (refine W.seq ?_)
            refine W.region 238 240 (by decide) rfl rfl ?_
            refine RW.opd rfl rfl (LO.move rfl rfl) ?_
            refine RW.opd rfl rfl (LO.gtr rfl rfl rfl) ?_
            refine RW.nil ?_
            repeat (refine W.seq ?_)
            refine W.cond_t rfl (by first | rfl | assumption) ?_
            refine W.skip ?_
            repeat (refine W.seq ?_)
            refine W.block ?_
            repeat (refine W.seq ?_)
            refine W.region 244 254 (by decide) rfl rfl ?_
            refine RW.opd rfl rfl (LO.move rfl rfl) ?_
            refine RW.opd rfl rfl (LO.move rfl rfl) ?_
            refine RW.opd rfl rfl (LO.move rfl rfl) ?_
            refine RW.opd rfl rfl (LO.move rfl rfl) ?_
            refine RW.opd rfl rfl (LO.indexAddr rfl rfl rfl rfl ty23 ty3 ?_) ?_; (· (first | omega | decide | assumption | fail | (simp; done) | (simp; omega)))
            refine RW.opd rfl rfl (LO.load rfl rfl rfl hnu ty3 rfl) ?_
            refine RW.opd rfl rfl (LO.call0 (fr := []) rfl rfl (hch) fok33 (.cons rfl (.pure rfl) (.cons rfl (.pure rfl) .nil)) rfl) ?_
            refine RW.opd rfl rfl (LO.buildSlice rfl ty34 ty22 (by decide) (by decide) (.cons rfl rfl rfl rfl (Sp.lit rfl) .nil)) ?_
            refine RW.opd rfl rfl (LO.append rfl rfl (SrcAV.own rfl rfl (Tk.lit rfl)) rfl (gs_tk rfl) ty34 ty34 ty22 (by decide) ?_ ?_ ?_) ?_; (· (first | omega | decide | assumption | fail | (simp; done) | (simp; omega))); (· (first | omega | decide | assumption | fail | (simp; done) | (simp; omega))); (· (first | decide | omega))
            refine RW.opd rfl rfl (LO.assign rfl rfl) ?_
            refine RW.nil ?_
            repeat (refine W.seq ?_)
            refine W.region 258 265 (by decide) rfl rfl ?_
            refine RW.opd rfl rfl (LO.move rfl rfl) ?_
            refine RW.opd rfl rfl (LO.move rfl rfl) ?_
            refine RW.opd rfl rfl (LO.move rfl rfl) ?_
            refine RW.opd rfl rfl (LO.indexAddr rfl rfl rfl rfl ty23 ty3 ?_) ?_; (· (first | omega | decide | assumption | fail | (simp; done) | (simp; omega)))
            refine RW.opd rfl rfl (LO.load rfl rfl rfl hnu ty3 rfl) ?_
            refine RW.opd rfl rfl (LO.andNot rfl rfl rfl) ?_
            refine RW.opd rfl rfl (LO.assign rfl rfl) ?_
            refine RW.nil ?_
            rw [e5]
            rw [show gsC out ++ [AV.isl (itsC (chF its (rn safe s).2)) (chF its (rn safe s).2).length] = gsC (out ++ [chF its (rn safe s).2]) from by simp [gsC], show out.length + 1 = (out ++ [chF its (rn safe s).2]).length from by simp]
            refine WL.rename [(0, 0), (1, 1), (2, 2), (3, 3), (4, 252)] 5 (by decide) ?_ ?_ (ihD ((dif s (rn safe s).2), (out ++ [chF its (rn safe s).2])) (show (dif s (rn safe s).2) < s from hn2) (show ((dif s (rn safe s).2) ≤ A ∧ rr safe (dif s (rn safe s).2) < 9 ∧ (out ++ [chF its (rn safe s).2]).length + rr safe (dif s (rn safe s).2) ≤ 9) ∧ (divs safe A).map (chF its) = (out ++ [chF its (rn safe s).2]) ++ (divs safe (dif s (rn safe s).2)).map (chF its) from ⟨⟨by omega, by omega, by simp only [List.length_append, List.length_singleton]; omega⟩, by rw [hdv, hdc, List.map_cons, List.append_assoc]; rfl⟩))
            · (repeat' (first | exact all_mt | refine all_up ?_ ?_)) <;> first | exact .inl ⟨rfl, rfl⟩ | exact .inr ⟨rfl, fun _ h => by cases h⟩ | exact .inl ⟨rfl, by first | rfl | assumption | exact (boolsC_pure _) | exact (intsC_pure _) | exact (gsC_pure _)⟩
            · (repeat' (first | exact all_mt | refine all_up ?_ ?_)) <;> first | exact ⟨rfl, _, rfl, .inr ⟨rfl, rfl⟩⟩ | exact ⟨rfl, _, rfl, .inl rfl⟩ | exact ⟨rfl, _, rfl, .inr ⟨rfl, by first | rfl | assumption | exact (boolsC_pure _) | exact (intsC_pure _) | exact (gsC_pure _)⟩⟩
        · have k9 : decide (gI (xT safe A (A + 1)) A < 0) = true := by rw [hrA, xv_neg hr9, decide_eq_false h9]; rfl
          rw [if_neg h9] at hrf
          repeat (refine W.seq ?_)
          refine W.region 210 216 (by decide) rfl rfl ?_
          refine RW.opd rfl rfl (LO.move rfl rfl) ?_
          refine RW.opd rfl rfl (LO.move rfl rfl) ?_
          refine RW.opd rfl rfl (LO.sub_in rfl rfl rfl ?_) ?_; (· (first | exact IntWalk.i64_in _ (by omega) | assumption))
          refine RW.opd rfl rfl (LO.indexAddr rfl rfl rfl (show (A : Int) + 1 - 1 = ((A : Nat) : Int) from by omega) ty23 ty3 ?_) ?_; (· (first | omega | decide | assumption | fail | (simp; done) | (simp; omega)))
          refine RW.opd rfl rfl (LO.load rfl rfl rfl (ni_at (k := A) (by rw [xT_len]; omega)) ty3 rfl) ?_
          refine RW.opd rfl rfl (LO.lss rfl rfl rfl) ?_
          refine RW.nil ?_
          repeat (refine W.seq ?_)
          refine W.cond_t rfl (by first | rfl | assumption) ?_
          repeat (refine W.seq ?_)
          refine W.region 220 222 (by decide) rfl rfl ?_
          refine RW.opd rfl rfl (LO.assign rfl rfl) ?_
          refine RW.opd rfl rfl (LO.assign rfl rfl) ?_
          refine RW.nil ?_
          refine W.nilt (t := 6) rfl ?_
          repeat (refine W.seq ?_)
          refine W.ret ⟨.inl rfl, _, mt, RVs.cons (RV.tmp rfl) (RVs.cons (RV.tmp rfl) (RVs.nil)), all_mt, ?_⟩
          exact ⟨by rw [hrf]; rfl, rfl⟩
end Go.Proofs.YtbjfaepjpmogjaaDoor
