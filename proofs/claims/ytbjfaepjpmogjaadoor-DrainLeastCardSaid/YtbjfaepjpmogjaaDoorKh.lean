/-
  The rounds of a maintenance: the program's text.
-/
import Derived.Test.YtbjfaepjpmogjaaDoorKg
namespace Go.Proofs.YtbjfaepjpmogjaaDoor
open Go.RowKit

theorem mapSet {α : Type} {g g2 : Nat → α} {n k : Nat} {v : α} (hv : g2 k = v) (h : ∀ x, x < n → x ≠ k → g x = g2 x) : ((List.range n).map g).set k v = (List.range n).map g2 := by
  refine List.ext_getElem (by simp) fun i h1 h2 => ?_
  simp only [List.length_set, List.length_map, List.length_range] at h1
  rw [List.getElem_set]
  split
  · rename_i e; subst e; simp [hv]
  · rename_i e; simp [h i h1 (fun e2 => e e2.symm)]
def safeB (f : Fab) (ls : List Ld) (its : List Itm) (t : Nat) : Bool := safeE f ls (chF its t) == 0
def sfT (p : Nat → Bool) (A k : Nat) : List Bool := (List.range (A + 1)).map fun t => decide (1 ≤ t ∧ t < k) && p t
theorem sfT_len (p : Nat → Bool) (A k : Nat) : (sfT p A k).length = A + 1 := by simp [sfT]
theorem sfT_start (p : Nat → Bool) (A : Nat) : List.replicate (A + 1) false = sfT p A 1 := by
  unfold sfT
  refine List.ext_getElem (by simp) fun i h1 h2 => ?_
  simp; intro h3 h4; omega
theorem sfT_set {p : Nat → Bool} {A k : Nat} (h : 1 ≤ k) : (sfT p A k).set k (p k) = sfT p A (k + 1) := by
  unfold sfT
  refine mapSet (by simp [h]) fun x _ hne => ?_
  have : (1 ≤ x ∧ x < k) ↔ (1 ≤ x ∧ x < k + 1) := by omega
  rw [decide_eq_decide.2 this]
theorem sfT_at {p : Nat → Bool} {A t : Nat} (h1 : 1 ≤ t) (h : t ≤ A) : gB (sfT p A (A + 1)) t = p t := by
  unfold gB sfT
  simp [show t < A + 1 by omega, h1]
def rT (safe : Nat → Bool) (A k : Nat) : List Int := (List.range (A + 1)).map fun x => if x < k then ((rn safe x).1 : Int) else 0
def fT (safe : Nat → Bool) (A k : Nat) : List Nat := (List.range (A + 1)).map fun x => if x < k then (rn safe x).2 else 0
def RS (safe : Nat → Bool) (A s p : Nat) : List Int := (rT safe A s).set s (p : Int)
def FS (safe : Nat → Bool) (A s q : Nat) : List Nat := (fT safe A s).set s q
theorem RS_len (safe : Nat → Bool) (A s p : Nat) : (RS safe A s p).length = A + 1 := by simp [RS, rT]
theorem FS_len (safe : Nat → Bool) (A s p : Nat) : (FS safe A s p).length = A + 1 := by simp [FS, fT]
theorem rT_len (safe : Nat → Bool) (A s : Nat) : (rT safe A s).length = A + 1 := by simp [rT]
theorem fT_len (safe : Nat → Bool) (A s : Nat) : (fT safe A s).length = A + 1 := by simp [fT]
theorem RS_at {safe : Nat → Bool} {A s p x : Nat} (hx : x < s) (hs : s ≤ A) : gI (RS safe A s p) x = rr safe x := by
  rw [gI_at (by rw [RS_len]; omega)]
  unfold RS rT
  rw [List.getElem_set_ne (by omega)]
  simp [hx, rr]
theorem RS_self {safe : Nat → Bool} {A s p : Nat} (hs : s ≤ A) : gI (RS safe A s p) s = p := by
  rw [gI_at (by rw [RS_len]; omega)]
  unfold RS
  simp
theorem RS_set (safe : Nat → Bool) (A s p q : Nat) : (RS safe A s p).set s (q : Int) = RS safe A s q := by unfold RS; rw [List.set_set]
theorem FS_set (safe : Nat → Bool) (A s p q : Nat) : (FS safe A s p).set s q = FS safe A s q := by unfold FS; rw [List.set_set]
theorem RS_next {safe : Nat → Bool} {A s : Nat} : RS safe A s (rn safe s).1 = rT safe A (s + 1) := by
  unfold RS rT
  refine mapSet (by simp) fun x _ hne => ?_
  by_cases h : x < s
  · rw [if_pos h, if_pos (by omega)]
  · rw [if_neg h, if_neg (by omega)]
theorem FS_next {safe : Nat → Bool} {A s : Nat} : FS safe A s (rn safe s).2 = fT safe A (s + 1) := by
  unfold FS fT
  refine mapSet (by simp) fun x _ hne => ?_
  by_cases h : x < s
  · rw [if_pos h, if_pos (by omega)]
  · rw [if_neg h, if_neg (by omega)]
theorem FS_start {safe : Nat → Bool} {A s : Nat} : fT safe A s = FS safe A s 0 := by
  unfold FS fT
  exact (mapSet (by simp) fun x _ _ => rfl).symm
theorem rT_start (safe : Nat → Bool) (A : Nat) : List.replicate (A + 1) 0 = rT safe A 1 := by
  unfold rT
  refine List.ext_getElem (by simp) fun i h1 h2 => ?_
  simp
  intro h3
  rw [h3]; rfl
theorem fT_start (safe : Nat → Bool) (A : Nat) : List.replicate (A + 1) 0 = fT safe A 1 := by
  unfold fT
  refine List.ext_getElem (by simp) fun i h1 h2 => ?_
  simp
  intro h3
  rw [h3]; rfl
theorem rT_end {safe : Nat → Bool} {A x : Nat} (h : x ≤ A) : gI (rT safe A (A + 1)) x = rr safe x := by
  unfold rT
  rw [gI_at (by simp; omega)]
  simp [show x < A + 1 by omega, rr]
def natsU (l : List Nat) : List AV := l.map fun (z : Nat) => .base (.int .u64 (z : Int))
def gN (l : List Nat) (k : Nat) : Nat := l.getD k 0
theorem fT_end {safe : Nat → Bool} {A x : Nat} (h : x ≤ A) : gN (fT safe A (A + 1)) x = (rn safe x).2 := by
  unfold fT gN
  simp [show x < A + 1 by omega]
theorem nu_at {l : List Nat} {k : Nat} (h : k < l.length) : (natsU l)[0 + k * 1]? = some (.base (.int .u64 (gN l k : Nat))) := by simp [natsU, gN, h]
theorem nu_set {l : List Nat} {k v : Nat} (h : k < l.length) : Sp (natsU l) (0 + k * 1) [.base (.int .u64 (v : Int))] (natsU (l.set k v)) := by
  have := Sp.set (natsU l) k (.base (.int .u64 (v : Int))) (by simpa [natsU] using h)
  rw [show natsU (l.set k v) = (natsU l).set k (.base (.int .u64 (v : Int))) from by simp [natsU, List.map_set]]
  rwa [show 0 + k * 1 = k from by omega]
theorem zeros_natsU (n : Nat) : zerosL n [.base (.int .u64 0)] = natsU (List.replicate n 0) := by
  unfold zerosL natsU
  induction n with
  | zero => rfl
  | succ n ih => rw [List.replicate_succ, List.flatten_cons, ih, List.replicate_succ, List.map_cons]; rfl
theorem natsU_pure (l : List Nat) : (natsU l).all AV.pure1 = true := by
  induction l with
  | nil => rfl
  | cons x l ih => rw [show natsU (x :: l) = [.base (.int .u64 (x : Int))] ++ natsU l from rfl, List.all_append, ih]; rfl
theorem shl_tabU : ∀ n : Fin 9, IntKind.u64.wrap (1 * 2 ^ (min n.val 64)) = ((2 ^ n.val : Nat) : Int) := by decide +kernel
theorem shl_lw {s : Nat} (hs : s < 256) (h0 : s ≠ 0) : IntKind.u64.wrap (1 * 2 ^ (min (cz s : Int).toNat IntKind.u64.bits)) = (lw s : Int) := by
  obtain ⟨h1, h2⟩ := cz_tab ⟨s, hs⟩ h0
  dsimp only at h1 h2
  rw [Int.toNat_natCast, h1]
  exact shl_tabU ⟨cz s, by omega⟩
def gsC (L : List (List Itm)) : List AV := L.map fun c => .isl (itsC c) c.length
theorem gsC_pure (l : List (List Itm)) : (gsC l).all AV.pure1 = true := by
  induction l with
  | nil => rfl
  | cons x l ih => rw [show gsC (x :: l) = [.isl (itsC x) x.length] ++ gsC l from rfl, List.all_append, ih]; rfl
theorem gs_tk {l : List (List Itm)} {n : Nat} (h : l.length = n) : Tk (gsC l) 0 (n * 1) (gsC l) := by
  have := Tk.all (gsC l)
  have e : (gsC l).length = n * 1 := by simp [gsC, h]
  rwa [e] at this
/-- the rounds, and why there are none -/
def roundsF (f : Fab) (ls : List Ld) (its : List Itm) : List (List Itm) × Int := if validD f ls its = true then (if rr (safeB f ls its) (2 ^ its.length - 1) < 9 then ((divs (safeB f ls its) (2 ^ its.length - 1)).map (chF its), 0) else ([], 40)) else ([], 1)
def roundsV (p : List (List Itm) × Int) : AV := .tup [.isl (gsC p.1) p.1.length, .base (.int .i64 p.2)]
theorem chF_len (its : List Itm) (s : Nat) : (chF its s).length ≤ its.length := chK_len _ _ _
theorem scan_no {safe : Nat → Bool} {r : Nat → Nat} {s k : Nat} (h : ¬ (cand safe r s k = true ∧ r (dif s k) + 1 < (scan safe r s k).1)) : scan safe r s (k + 1) = scan safe r s k := by
  rw [scan, if_neg h]
theorem scan_yes {safe : Nat → Bool} {r : Nat → Nat} {s k : Nat} (h : cand safe r s k = true ∧ r (dif s k) + 1 < (scan safe r s k).1) : scan safe r s (k + 1) = (r (dif s k) + 1, k) := by
  rw [scan, if_pos h]
set_option maxHeartbeats 2000000 in
theorem rounds_any (f : Fab) (ls : List Ld) (its : List Itm) (hb : f.links.length ≤ 1000) (hls : ls.length ≤ 1000) (hits : its.length ≤ 1000) : AFn Tryd.prog 11 0 [.agg (fabC f), .isl (ldsC ls) ls.length, .isl (itsC its) its.length] mt (roundsV (roundsF f ls its)) mt := by
  refine AFn.eq Tryd.func11 rfl rfl (Nat.le_of_ble_eq_true rfl) ?_
  have hv := validD_any f ls its hb hls hits
  repeat (refine W.seq ?_)
  refine W.region 0 3 (by decide) rfl rfl ?_
  refine RW.opd rfl rfl (LO.box rfl rfl rfl) ?_
  refine RW.opd rfl rfl (LO.assign rfl rfl) ?_
  refine RW.opd rfl rfl (LO.assign rfl rfl) ?_
  refine RW.nil ?_
  cases hvd : validD f ls its with
  | false =>
    rw [hvd] at hv
    have n1 : (!false) = true := rfl
    repeat (refine W.seq ?_)
    refine W.region 7 12 (by decide) rfl rfl ?_
    refine RW.opd rfl rfl (LO.load_agg rfl rfl rfl ty28 rfl (Tk.lit rfl)) ?_
    refine RW.opd rfl rfl (LO.move rfl rfl) ?_
    refine RW.opd rfl rfl (LO.move rfl rfl) ?_
    refine RW.opd rfl rfl (LO.call0 (fr := []) rfl rfl (hv) fok24 (.cons rfl (.pure rfl) (.cons rfl (.pure rfl) (.cons rfl (.pure rfl) .nil))) rfl) ?_
    refine RW.opd rfl rfl (LO.not rfl rfl) ?_
    refine RW.nil ?_
    repeat (refine W.seq ?_)
    refine W.cond_t rfl (by first | rfl | assumption) ?_
    repeat (refine W.seq ?_)
    refine W.region 16 18 (by decide) rfl rfl ?_
    refine RW.opd rfl rfl (LO.assign rfl rfl) ?_
    refine RW.opd rfl rfl (LO.assign rfl rfl) ?_
    refine RW.nil ?_
    refine W.nilt (t := 6) rfl ?_
    repeat (refine W.seq ?_)
    refine W.ret ⟨.inl rfl, _, mt, RVs.cons (RV.tmp rfl) (RVs.cons (RV.tmp rfl) (RVs.nil)), all_mt, ?_⟩
    exact ⟨by unfold roundsF; rw [hvd]; rfl, rfl⟩
  | true =>
    rw [hvd] at hv
    obtain ⟨_, _, h8, _, _⟩ := validD_all2 hvd
    have hpow : (2 : Nat) ^ its.length ≤ 256 := Nat.le_trans (Nat.pow_le_pow_right (n := 2) (by decide) h8) (by decide)
    have hpos : 1 ≤ (2 : Nat) ^ its.length := Nat.two_pow_pos _
    have hsh : IntKind.u64.wrap (1 * 2 ^ (min (its.length : Int).toNat IntKind.u64.bits)) = ((2 ^ its.length : Nat) : Int) := by
      rw [Int.toNat_natCast]; exact shl_tabU ⟨its.length, by omega⟩
    have hrf : roundsF f ls its = if rr (safeB f ls its) (2 ^ its.length - 1) < 9 then ((divs (safeB f ls its) (2 ^ its.length - 1)).map (chF its), 0) else ([], 40) := if_pos hvd
    obtain ⟨A, hA⟩ : ∃ A, 2 ^ its.length - 1 = A := ⟨_, rfl⟩
    have hA2 : ((2 ^ its.length : Nat) : Int) - 1 = (A : Int) := by omega
    have hA3 : A < 256 := by omega
    rw [hA] at hrf
    generalize ((2 ^ its.length : Nat) : Int) = P at hsh hA2
    have hP0 : 0 ≤ P ∧ P ≤ 256 := by omega
    repeat (refine W.seq ?_)
    refine W.region 7 12 (by decide) rfl rfl ?_
    refine RW.opd rfl rfl (LO.load_agg rfl rfl rfl ty28 rfl (Tk.lit rfl)) ?_
    refine RW.opd rfl rfl (LO.move rfl rfl) ?_
    refine RW.opd rfl rfl (LO.move rfl rfl) ?_
    refine RW.opd rfl rfl (LO.call0 (fr := []) rfl rfl (hv) fok24 (.cons rfl (.pure rfl) (.cons rfl (.pure rfl) (.cons rfl (.pure rfl) .nil))) rfl) ?_
    refine RW.opd rfl rfl (LO.not rfl rfl) ?_
    refine RW.nil ?_
    repeat (refine W.seq ?_)
    refine W.cond_f rfl (by first | rfl | assumption) ?_
    refine W.skip ?_
    repeat (refine W.seq ?_)
    refine W.region 22 28 (by decide) rfl rfl ?_
    refine RW.opd rfl rfl (LO.move rfl rfl) ?_
    refine RW.opd rfl rfl (LO.len_isl rfl rfl rfl ty22) ?_
    refine RW.opd rfl rfl (LO.conv_in rfl rfl ty3 ty43 ?_) ?_; (· (first | exact IntWalk.u64_in _ (by omega) | assumption))
    refine RW.opd rfl rfl (LO.shl rfl rfl rfl ?_) ?_; (· (first | omega | decide | assumption | fail | (simp; done) | (simp; omega)))
    rw [hsh]
    refine RW.opd rfl rfl (LO.sub_in rfl rfl rfl ?_) ?_; (· (first | exact IntWalk.u64_in _ (by omega) | assumption))
    refine RW.opd rfl rfl (LO.assign rfl rfl) ?_
    refine RW.nil ?_
    rw [hA2]
    repeat (refine W.seq ?_)
    refine W.region 32 36 (by decide) rfl rfl ?_
    refine RW.opd rfl rfl (LO.move rfl rfl) ?_
    refine RW.opd rfl rfl (LO.add_in rfl rfl rfl ?_) ?_; (· (first | exact IntWalk.u64_in _ (by omega) | assumption))
    refine RW.opd rfl rfl (LO.makeSlice rfl rfl rfl rfl rfl ty26 ty4 (by decide) ?_ ?_ ?_) ?_; (· (first | omega | decide | assumption | fail | (simp; done) | (simp; omega))); (· (first | omega | decide | assumption | fail | (simp; done) | (simp; omega))); (· (first | omega | decide | assumption | fail | (simp; done) | (simp; omega)))
    refine RW.opd rfl rfl (LO.assign rfl rfl) ?_
    refine RW.nil ?_
    rw [zeros_bools, sfT_start (safeB f ls its)]
    repeat (refine W.seq ?_)
    refine W.region 40 41 (by decide) rfl rfl ?_
    refine RW.opd rfl rfl (LO.assign rfl rfl) ?_
    refine RW.nil ?_
    repeat (refine W.seq ?_)
    refine W.block ?_
    refine W.rename [(0, 0), (1, 34)] 2 (T' := up (up (up (up (up (up mt 1 (some (.isl (ldsC ls) ls.length))) 2 (some (.isl (itsC its) its.length))) 3 (some (.own 0 0))) 8 (some (.base (.int .u64 (A : Int))))) 9 (some (.osl 1 0 (A + 1) 1))) 10 (some (.base (.int .u64 (1 : Int))))) (H' := up (up mt 0 (some (fabC f))) 1 (some (boolsC (sfT (safeB f ls its) A 1)))) (by decide) ?_ ?_ ?_
    · (repeat' (first | exact all_mt | refine all_up ?_ ?_)) <;> first | exact .inl ⟨rfl, rfl⟩ | exact .inr ⟨rfl, fun _ h => by cases h⟩ | exact .inl ⟨rfl, by first | rfl | assumption | exact (boolsC_pure _)⟩
    · (repeat' (first | exact all_mt | refine all_up ?_ ?_)) <;> first | exact ⟨rfl, _, rfl, .inr ⟨rfl, rfl⟩⟩ | exact ⟨rfl, _, rfl, .inl rfl⟩ | exact ⟨rfl, _, rfl, .inr ⟨rfl, by first | rfl | assumption | exact (boolsC_pure _)⟩⟩
    refine W.loop_ind (α := Nat) (fun x => A + 1 - x) 2 (fun x => up (up (up (up (up (up mt 1 (some (.isl (ldsC ls) ls.length))) 2 (some (.isl (itsC its) its.length))) 3 (some (.own 0 0))) 8 (some (.base (.int .u64 (A : Int))))) 9 (some (.osl 1 0 (A + 1) 1))) 10 (some (.base (.int .u64 (x : Int))))) (fun x => up (up mt 0 (some (fabC f))) 1 (some (boolsC (sfT (safeB f ls its) A x)))) (fun x => 1 ≤ x ∧ x ≤ A + 1) 1 (show 1 ≤ 1 ∧ 1 ≤ A + 1 from ⟨Nat.le_refl _, by omega⟩) ?_
    rintro s hIA ihA
    try (dsimp only at hIA)
    try dsimp only
    obtain ⟨hs1, hsA⟩ := hIA
    by_cases hc : s ≤ A
    · have g1 : decide ((s : Int) ≤ (A : Int)) = true := decide_eq_true (by omega)
      have hch := chosen_any its s (by omega) h8
      have hcl := chF_len its s
      have hsf := safe_any f ls (chF its s) hb hls (by omega)
      have hset : Sp (boolsC (sfT (safeB f ls its) A s)) (0 + s * 1) [.base (.bool (safeE f ls (chF its s) == 0))] (boolsC (sfT (safeB f ls its) A (s + 1))) := by
        have := bs_at (l := sfT (safeB f ls its) A s) (x := (s : Int)) (b := safeB f ls its s) (by omega) (by rw [sfT_len]; omega)
        rw [Int.toNat_natCast, sfT_set hs1] at this
        exact this
      repeat (refine W.seq ?_)
      refine W.region 45 48 (by decide) rfl rfl ?_
      refine RW.opd rfl rfl (LO.move rfl rfl) ?_
      refine RW.opd rfl rfl (LO.move rfl rfl) ?_
      refine RW.opd rfl rfl (LO.leq rfl rfl rfl) ?_
      refine RW.nil ?_
      repeat (refine W.seq ?_)
      refine W.cond_t rfl (by first | rfl | assumption) ?_
      refine W.skip ?_
      repeat (refine W.seq ?_)
      refine W.block ?_
      repeat (refine W.seq ?_)
      refine W.regionD 52 63 (by decide) rfl mixed rfl ?_
      refine RW.opd rfl rfl (LO.move rfl rfl) ?_
      refine RW.opd rfl rfl (LO.move rfl rfl) ?_
      refine RW.opd rfl rfl (LO.load_agg rfl rfl rfl ty28 rfl (Tk.lit rfl)) ?_
      refine RW.opd rfl rfl (LO.move rfl rfl) ?_
      refine RW.opd rfl rfl (LO.move rfl rfl) ?_
      refine RW.opd rfl rfl (LO.move rfl rfl) ?_
      refine RW.opd rfl rfl (LO.call0 (fr := []) rfl rfl (hch) fok31 (.cons rfl (.pure rfl) (.cons rfl (.pure rfl) .nil)) rfl) ?_
      refine RW.opd rfl rfl (LO.call0 (fr := []) rfl rfl (hsf) fok18 (.cons rfl (.pure rfl) (.cons rfl (.pure rfl) (.cons rfl (.pure rfl) .nil))) rfl) ?_
      refine RW.opd rfl rfl (LO.eql rfl rfl rfl) ?_
      refine RW.opd rfl rfl (LO.indexAddr rfl rfl rfl rfl ty26 ty4 ?_) ?_; (· (first | omega | decide | assumption | fail | (simp; done) | (simp; omega)))
      refine RW.opn rfl rfl (LO.store rfl rfl rfl rfl rfl ty4 rfl (by decide) hset) ?_
      refine RW.nil ⟨by kernel_rfl, ?_⟩
      repeat (refine W.seq ?_)
      refine W.region 67 70 (by decide) rfl rfl ?_
      refine RW.opd rfl rfl (LO.move rfl rfl) ?_
      refine RW.opd rfl rfl (LO.add_in rfl rfl rfl ?_) ?_; (· (first | exact IntWalk.u64_in _ (by omega) | assumption))
      refine RW.opd rfl rfl (LO.assign rfl rfl) ?_
      refine RW.nil ?_
      refine WL.rename [(0, 0), (1, 1)] 2 (by decide) ?_ ?_ (ihA (s + 1) (show A + 1 - (s + 1) < A + 1 - s from by omega) (show 1 ≤ (s + 1) ∧ (s + 1) ≤ A + 1 from ⟨by omega, by omega⟩))
      · (repeat' (first | exact all_mt | refine all_up ?_ ?_)) <;> first | exact .inl ⟨rfl, rfl⟩ | exact .inr ⟨rfl, fun _ h => by cases h⟩ | exact .inl ⟨rfl, by first | rfl | assumption | exact (boolsC_pure _)⟩
      · (repeat' (first | exact all_mt | refine all_up ?_ ?_)) <;> first | exact ⟨rfl, _, rfl, .inr ⟨rfl, rfl⟩⟩ | exact ⟨rfl, _, rfl, .inl rfl⟩ | exact ⟨rfl, _, rfl, .inr ⟨rfl, by first | rfl | assumption | exact (boolsC_pure _)⟩⟩
    · have g1 : decide ((s : Int) ≤ (A : Int)) = false := decide_eq_false (by omega)
      obtain rfl : s = A + 1 := by omega
      repeat (refine W.seq ?_)
      refine W.region 45 48 (by decide) rfl rfl ?_
      refine RW.opd rfl rfl (LO.move rfl rfl) ?_
      refine RW.opd rfl rfl (LO.move rfl rfl) ?_
      refine RW.opd rfl rfl (LO.leq rfl rfl rfl) ?_
      refine RW.nil ?_
      repeat (refine W.seq ?_)
      refine W.cond_f rfl (by first | rfl | assumption) ?_
      refine W.exit ?_
      generalize hsafe : safeB f ls its = safe at hrf ⊢
      clear ihA hs1 hsA hc g1
      repeat (refine W.seq ?_)
      refine W.regionD 74 82 (by decide) rfl mixed rfl ?_
      refine RW.opd rfl rfl (LO.move rfl rfl) ?_
      refine RW.opd rfl rfl (LO.add_in rfl rfl rfl ?_) ?_; (· (first | exact IntWalk.u64_in _ (by omega) | assumption))
      refine RW.opd rfl rfl (LO.makeSlice rfl rfl rfl rfl rfl ty23 ty3 (by decide) ?_ ?_ ?_) ?_; (· (first | omega | decide | assumption | fail | (simp; done) | (simp; omega))); (· (first | omega | decide | assumption | fail | (simp; done) | (simp; omega))); (· (first | omega | decide | assumption | fail | (simp; done) | (simp; omega)))
      refine RW.opd rfl rfl (LO.move rfl rfl) ?_
      refine RW.opd rfl rfl (LO.add_in rfl rfl rfl ?_) ?_; (· (first | exact IntWalk.u64_in _ (by omega) | assumption))
      refine RW.opd rfl rfl (LO.makeSlice rfl rfl rfl rfl rfl ty69 ty43 (by decide) ?_ ?_ ?_) ?_; (· (first | omega | decide | assumption | fail | (simp; done) | (simp; omega))); (· (first | omega | decide | assumption | fail | (simp; done) | (simp; omega))); (· (first | omega | decide | assumption | fail | (simp; done) | (simp; omega)))
      refine RW.opd rfl rfl (LO.assign rfl rfl) ?_
      refine RW.opd rfl rfl (LO.assign rfl rfl) ?_
      refine RW.nil ⟨by kernel_rfl, ?_⟩
      rw [zeros_ints, zeros_natsU, rT_start safe, fT_start safe]
      repeat (refine W.seq ?_)
      refine W.region 86 87 (by decide) rfl rfl ?_
      refine RW.opd rfl rfl (LO.assign rfl rfl) ?_
      refine RW.nil ?_
      repeat (refine W.seq ?_)
      refine W.block ?_
      refine W.rename [(0, 0), (1, 1), (2, 76), (3, 79)] 4 (T' := up (up (up (up (up (up mt 2 (some (.isl (itsC its) its.length))) 8 (some (.base (.int .u64 (A : Int))))) 9 (some (.osl 1 0 (A + 1) 1))) 11 (some (.osl 2 0 (A + 1) 1))) 12 (some (.osl 3 0 (A + 1) 1))) 13 (some (.base (.int .u64 (1 : Int))))) (H' := up (up (up (up mt 0 (some (fabC f))) 1 (some (boolsC (sfT safe A (A + 1))))) 2 (some (intsC (rT safe A 1)))) 3 (some (natsU (fT safe A 1)))) (by decide) ?_ ?_ ?_
      · (repeat' (first | exact all_mt | refine all_up ?_ ?_)) <;> first | exact .inl ⟨rfl, rfl⟩ | exact .inr ⟨rfl, fun _ h => by cases h⟩ | exact .inl ⟨rfl, by first | rfl | assumption | exact (boolsC_pure _) | exact (intsC_pure _) | exact (natsU_pure _)⟩
      · (repeat' (first | exact all_mt | refine all_up ?_ ?_)) <;> first | exact ⟨rfl, _, rfl, .inr ⟨rfl, rfl⟩⟩ | exact ⟨rfl, _, rfl, .inl rfl⟩ | exact ⟨rfl, _, rfl, .inr ⟨rfl, by first | rfl | assumption | exact (boolsC_pure _) | exact (intsC_pure _) | exact (natsU_pure _)⟩⟩
      refine W.loop_ind (α := Nat) (fun x => A + 1 - x) 4 (fun x => up (up (up (up (up (up mt 2 (some (.isl (itsC its) its.length))) 8 (some (.base (.int .u64 (A : Int))))) 9 (some (.osl 1 0 (A + 1) 1))) 11 (some (.osl 2 0 (A + 1) 1))) 12 (some (.osl 3 0 (A + 1) 1))) 13 (some (.base (.int .u64 (x : Int))))) (fun x => up (up (up (up mt 0 (some (fabC f))) 1 (some (boolsC (sfT safe A (A + 1))))) 2 (some (intsC (rT safe A x)))) 3 (some (natsU (fT safe A x)))) (fun x => 1 ≤ x ∧ x ≤ A + 1) 1 (show 1 ≤ 1 ∧ 1 ≤ A + 1 from ⟨Nat.le_refl _, by omega⟩) ?_
      rintro s hIB ihB
      try (dsimp only at hIB)
      try dsimp only
      obtain ⟨hs1, hsA⟩ := hIB
      by_cases hc : s ≤ A
      · have g1 : decide ((s : Int) ≤ (A : Int)) = true := decide_eq_true (by omega)
        have hs0 : s ≠ 0 := by omega
        have hs256 : s < 256 := by omega
        have htz := tz_any s hs256 hs0
        have hlw := shl_lw hs256 hs0
        obtain ⟨_, hcz⟩ := cz_tab ⟨s, hs256⟩ hs0
        dsimp only at hcz
        have hlwle := lw_le hs256 hs0
        have hlwp := lw_pos hs256 hs0
        have hset9 : Sp (intsC (rT safe A s)) (0 + s * 1) [.base (.int .i64 9)] (intsC (RS safe A s 9)) := ns_at (by rw [rT_len]; omega)
        repeat (refine W.seq ?_)
        refine W.region 91 94 (by decide) rfl rfl ?_
        refine RW.opd rfl rfl (LO.move rfl rfl) ?_
        refine RW.opd rfl rfl (LO.move rfl rfl) ?_
        refine RW.opd rfl rfl (LO.leq rfl rfl rfl) ?_
        refine RW.nil ?_
        repeat (refine W.seq ?_)
        refine W.cond_t rfl (by first | rfl | assumption) ?_
        refine W.skip ?_
        repeat (refine W.seq ?_)
        refine W.block ?_
        repeat (refine W.seq ?_)
        refine W.region 98 102 (by decide) rfl rfl ?_
        refine RW.opd rfl rfl (LO.move rfl rfl) ?_
        refine RW.opd rfl rfl (LO.move rfl rfl) ?_
        refine RW.opd rfl rfl (LO.indexAddr rfl rfl rfl rfl ty23 ty3 ?_) ?_; (· (first | omega | decide | assumption | fail | (simp; done) | (simp; omega)))
        refine RW.opn rfl rfl (LO.store rfl rfl rfl rfl rfl ty3 rfl (by decide) hset9) ?_
        refine RW.nil ?_
        repeat (refine W.seq ?_)
        refine W.region 106 111 (by decide) rfl rfl ?_
        refine RW.opd rfl rfl (LO.move rfl rfl) ?_
        refine RW.opd rfl rfl (LO.call0 (fr := []) rfl rfl (htz) fok32 (.cons rfl (.pure rfl) .nil) rfl) ?_
        refine RW.opd rfl rfl (LO.conv_in rfl rfl ty3 ty43 ?_) ?_; (· (first | exact IntWalk.u64_in _ (by omega) | assumption))
        refine RW.opd rfl rfl (LO.shl rfl rfl rfl ?_) ?_; (· (first | omega | decide | assumption | fail | (simp; done) | (simp; omega)))
        refine RW.opd rfl rfl (LO.assign rfl rfl) ?_
        refine RW.nil ?_
        rw [hlw]
        repeat (refine W.seq ?_)
        refine W.region 115 117 (by decide) rfl rfl ?_
        refine RW.opd rfl rfl (LO.move rfl rfl) ?_
        refine RW.opd rfl rfl (LO.assign rfl rfl) ?_
        refine RW.nil ?_
        rw [FS_start (safe := safe) (A := A) (s := s)]
        repeat (refine W.seq ?_)
        refine W.block ?_
        refine W.rename [(0, 0), (1, 1), (2, 2), (3, 3)] 4 (T' := up (up (up (up (up (up (up (up mt 2 (some (.isl (itsC its) its.length))) 8 (some (.base (.int .u64 (A : Int))))) 9 (some (.osl 1 0 (A + 1) 1))) 11 (some (.osl 2 0 (A + 1) 1))) 12 (some (.osl 3 0 (A + 1) 1))) 13 (some (.base (.int .u64 (s : Int))))) 14 (some (.base (.int .u64 (lw s : Int))))) 15 (some (.base (.int .u64 ((lw s) : Int))))) (H' := up (up (up (up mt 0 (some (fabC f))) 1 (some (boolsC (sfT safe A (A + 1))))) 2 (some (intsC (RS safe A s ((9, 0)).1)))) 3 (some (natsU (FS safe A s ((9, 0)).2)))) (by decide) ?_ ?_ ?_
        · (repeat' (first | exact all_mt | refine all_up ?_ ?_)) <;> first | exact .inl ⟨rfl, rfl⟩ | exact .inr ⟨rfl, fun _ h => by cases h⟩ | exact .inl ⟨rfl, by first | rfl | assumption | exact (boolsC_pure _) | exact (intsC_pure _) | exact (natsU_pure _)⟩
        · (repeat' (first | exact all_mt | refine all_up ?_ ?_)) <;> first | exact ⟨rfl, _, rfl, .inr ⟨rfl, rfl⟩⟩ | exact ⟨rfl, _, rfl, .inl rfl⟩ | exact ⟨rfl, _, rfl, .inr ⟨rfl, by first | rfl | assumption | exact (boolsC_pure _) | exact (intsC_pure _) | exact (natsU_pure _)⟩⟩
        refine W.loop_ind (α := Nat × Nat × Nat) (fun x => s + 1 - x.1) 4 (fun x => up (up (up (up (up (up (up (up mt 2 (some (.isl (itsC its) its.length))) 8 (some (.base (.int .u64 (A : Int))))) 9 (some (.osl 1 0 (A + 1) 1))) 11 (some (.osl 2 0 (A + 1) 1))) 12 (some (.osl 3 0 (A + 1) 1))) 13 (some (.base (.int .u64 (s : Int))))) 14 (some (.base (.int .u64 (lw s : Int))))) 15 (some (.base (.int .u64 (x.1 : Int))))) (fun x => up (up (up (up mt 0 (some (fabC f))) 1 (some (boolsC (sfT safe A (A + 1))))) 2 (some (intsC (RS safe A s x.2.1)))) 3 (some (natsU (FS safe A s x.2.2)))) (fun x => (lw s ≤ x.1 ∧ x.1 ≤ s + 1) ∧ x.2 = scan safe (rr safe) s x.1) ((lw s), ((9, 0))) (show (lw s ≤ (lw s) ∧ (lw s) ≤ s + 1) ∧ ((9, 0)) = scan safe (rr safe) s (lw s) from ⟨⟨Nat.le_refl _, by omega⟩, (scan_low safe (rr safe) hs256 hs0 (Nat.le_refl _)).symm⟩) ?_
        rintro ⟨k, p⟩ hIC ihC
        try (dsimp only at hIC)
        try dsimp only
        obtain ⟨⟨hk0, hk1⟩, hp⟩ := hIC
        have hp9 := (scan_spec safe (rr safe) s k).1
        by_cases hck : k ≤ s
        · have g2 : decide ((k : Int) ≤ (s : Int)) = true := decide_eq_true (by omega)
          have hk256 : k < 256 := by omega
          have e1 := andNotU (n := s) hk256
          have e2 := andU (n := lw s) hk256
          have e3 := andNotU (n := k) hs256
          have e4 : gB (sfT safe A (A + 1)) k = safe k := sfT_at (by omega) (by omega)
          repeat (refine W.seq ?_)
          refine W.region 121 124 (by decide) rfl rfl ?_
          refine RW.opd rfl rfl (LO.move rfl rfl) ?_
          refine RW.opd rfl rfl (LO.move rfl rfl) ?_
          refine RW.opd rfl rfl (LO.leq rfl rfl rfl) ?_
          refine RW.nil ?_
          repeat (refine W.seq ?_)
          refine W.cond_t rfl (by first | rfl | assumption) ?_
          refine W.skip ?_
          repeat (refine W.seq ?_)
          refine W.block ?_
          cases h1 : (dif k s == 0)
          case' false =>
            have k1 : (bitV .andNot .u64 (k : Int) (s : Int) == 0) = false := by rw [e1]; simpa using h1
            have hno := scan_no (safe := safe) (r := rr safe) (s := s) (k := k) (fun h => by have := h.1; unfold cand at this; rw [h1] at this; simp at this)
            repeat (refine W.seq ?_)
            refine W.regionD 128 158 (by decide) rfl mixed rfl ?_
            refine RW.opd rfl rfl (LO.move rfl rfl) ?_
            refine RW.opd rfl rfl (LO.move rfl rfl) ?_
            refine RW.opd rfl rfl (LO.andNot rfl rfl rfl) ?_
            refine RW.opd rfl rfl (LO.eql rfl rfl rfl) ?_
            refine RW.opd rfl rfl (LO.move rfl rfl) ?_
            refine RW.sd rfl rfl rfl ?_ rfl ?_; (· (first | rfl | assumption))
            refine RW.sd rfl rfl rfl ?_ rfl ?_; (· (first | rfl | assumption))
            refine RW.sd rfl rfl rfl ?_ rfl ?_; (· (first | rfl | assumption))
            refine RW.sd rfl rfl rfl ?_ rfl ?_; (· (first | rfl | assumption))
            refine RW.opd rfl rfl (LO.pick_f rfl rfl ?_ rfl) ?_; (· (first | rfl | assumption))
            refine RW.opd rfl rfl (LO.move rfl rfl) ?_
            refine RW.sd rfl rfl rfl ?_ rfl ?_; (· (first | rfl | assumption))
            refine RW.sd rfl rfl rfl ?_ rfl ?_; (· (first | rfl | assumption))
            refine RW.sd rfl rfl rfl ?_ rfl ?_; (· (first | rfl | assumption))
            refine RW.sd rfl rfl rfl ?_ rfl ?_; (· (first | rfl | assumption))
            refine RW.opd rfl rfl (LO.pick_f rfl rfl ?_ rfl) ?_; (· (first | rfl | assumption))
            refine RW.opd rfl rfl (LO.move rfl rfl) ?_
            refine RW.sd rfl rfl rfl ?_ rfl ?_; (· (first | rfl | assumption))
            refine RW.sd rfl rfl rfl ?_ rfl ?_; (· (first | rfl | assumption))
            refine RW.sd rfl rfl rfl ?_ rfl ?_; (· (first | rfl | assumption))
            refine RW.sd rfl rfl rfl ?_ rfl ?_; (· (first | rfl | assumption))
            refine RW.sd rfl rfl rfl ?_ rfl ?_; (· (first | rfl | assumption))
            refine RW.sd rfl rfl rfl ?_ rfl ?_; (· (first | rfl | assumption))
            refine RW.sd rfl rfl rfl ?_ rfl ?_; (· (first | rfl | assumption))
            refine RW.sd rfl rfl rfl ?_ rfl ?_; (· (first | rfl | assumption))
            refine RW.sd rfl rfl rfl ?_ rfl ?_; (· (first | rfl | assumption))
            refine RW.sd rfl rfl rfl ?_ rfl ?_; (· (first | rfl | assumption))
            refine RW.sd rfl rfl rfl ?_ rfl ?_; (· (first | rfl | assumption))
            refine RW.sd rfl rfl rfl ?_ rfl ?_; (· (first | rfl | assumption))
            refine RW.opd rfl rfl (LO.pick_f rfl rfl ?_ rfl) ?_; (· (first | rfl | assumption))
            refine RW.nil ⟨by kernel_rfl, ?_⟩
          case' true =>
            have k1 : (bitV .andNot .u64 (k : Int) (s : Int) == 0) = true := by rw [e1]; simpa using h1
            cases h2 : (k &&& lw s != 0)
            case' false =>
              have k2 : (bitV .and .u64 (k : Int) (lw s : Int) != 0) = false := by rw [e2]; simpa using h2
              have hno := scan_no (safe := safe) (r := rr safe) (s := s) (k := k) (fun h => by have := h.1; unfold cand at this; rw [h1, h2] at this; simp at this)
              repeat (refine W.seq ?_)
              refine W.regionD 128 158 (by decide) rfl mixed rfl ?_
              refine RW.opd rfl rfl (LO.move rfl rfl) ?_
              refine RW.opd rfl rfl (LO.move rfl rfl) ?_
              refine RW.opd rfl rfl (LO.andNot rfl rfl rfl) ?_
              refine RW.opd rfl rfl (LO.eql rfl rfl rfl) ?_
              refine RW.opd rfl rfl (LO.move rfl rfl) ?_
              refine RW.gd rfl rfl rfl ?_ rfl (LO.move rfl rfl) ?_; (· (first | rfl | assumption))
              refine RW.gd rfl rfl rfl ?_ rfl (LO.move rfl rfl) ?_; (· (first | rfl | assumption))
              refine RW.gd rfl rfl rfl ?_ rfl (LO.and rfl rfl rfl) ?_; (· (first | rfl | assumption))
              refine RW.gd rfl rfl rfl ?_ rfl (LO.neq rfl rfl rfl) ?_; (· (first | rfl | assumption))
              refine RW.opd rfl rfl (LO.pick_t rfl rfl ?_ rfl) ?_; (· (first | rfl | assumption))
              refine RW.opd rfl rfl (LO.move rfl rfl) ?_
              refine RW.sd rfl rfl rfl ?_ rfl ?_; (· (first | rfl | assumption))
              refine RW.sd rfl rfl rfl ?_ rfl ?_; (· (first | rfl | assumption))
              refine RW.sd rfl rfl rfl ?_ rfl ?_; (· (first | rfl | assumption))
              refine RW.sd rfl rfl rfl ?_ rfl ?_; (· (first | rfl | assumption))
              refine RW.opd rfl rfl (LO.pick_f rfl rfl ?_ rfl) ?_; (· (first | rfl | assumption))
              refine RW.opd rfl rfl (LO.move rfl rfl) ?_
              refine RW.sd rfl rfl rfl ?_ rfl ?_; (· (first | rfl | assumption))
              refine RW.sd rfl rfl rfl ?_ rfl ?_; (· (first | rfl | assumption))
              refine RW.sd rfl rfl rfl ?_ rfl ?_; (· (first | rfl | assumption))
              refine RW.sd rfl rfl rfl ?_ rfl ?_; (· (first | rfl | assumption))
              refine RW.sd rfl rfl rfl ?_ rfl ?_; (· (first | rfl | assumption))
              refine RW.sd rfl rfl rfl ?_ rfl ?_; (· (first | rfl | assumption))
              refine RW.sd rfl rfl rfl ?_ rfl ?_; (· (first | rfl | assumption))
              refine RW.sd rfl rfl rfl ?_ rfl ?_; (· (first | rfl | assumption))
              refine RW.sd rfl rfl rfl ?_ rfl ?_; (· (first | rfl | assumption))
              refine RW.sd rfl rfl rfl ?_ rfl ?_; (· (first | rfl | assumption))
              refine RW.sd rfl rfl rfl ?_ rfl ?_; (· (first | rfl | assumption))
              refine RW.sd rfl rfl rfl ?_ rfl ?_; (· (first | rfl | assumption))
              refine RW.opd rfl rfl (LO.pick_f rfl rfl ?_ rfl) ?_; (· (first | rfl | assumption))
              refine RW.nil ⟨by kernel_rfl, ?_⟩
            case' true =>
              have k2 : (bitV .and .u64 (k : Int) (lw s : Int) != 0) = true := by rw [e2]; simpa using h2
              cases h3 : safe k
              case' false =>
                have k3 : gB (sfT safe A (A + 1)) k = false := by rw [e4, h3]
                have hno := scan_no (safe := safe) (r := rr safe) (s := s) (k := k) (fun h => by have := h.1; unfold cand at this; rw [h1, h2, h3] at this; simp at this)
                repeat (refine W.seq ?_)
                refine W.regionD 128 158 (by decide) rfl mixed rfl ?_
                refine RW.opd rfl rfl (LO.move rfl rfl) ?_
                refine RW.opd rfl rfl (LO.move rfl rfl) ?_
                refine RW.opd rfl rfl (LO.andNot rfl rfl rfl) ?_
                refine RW.opd rfl rfl (LO.eql rfl rfl rfl) ?_
                refine RW.opd rfl rfl (LO.move rfl rfl) ?_
                refine RW.gd rfl rfl rfl ?_ rfl (LO.move rfl rfl) ?_; (· (first | rfl | assumption))
                refine RW.gd rfl rfl rfl ?_ rfl (LO.move rfl rfl) ?_; (· (first | rfl | assumption))
                refine RW.gd rfl rfl rfl ?_ rfl (LO.and rfl rfl rfl) ?_; (· (first | rfl | assumption))
                refine RW.gd rfl rfl rfl ?_ rfl (LO.neq rfl rfl rfl) ?_; (· (first | rfl | assumption))
                refine RW.opd rfl rfl (LO.pick_t rfl rfl ?_ rfl) ?_; (· (first | rfl | assumption))
                refine RW.opd rfl rfl (LO.move rfl rfl) ?_
                refine RW.gd rfl rfl rfl ?_ rfl (LO.move rfl rfl) ?_; (· (first | rfl | assumption))
                refine RW.gd rfl rfl rfl ?_ rfl (LO.move rfl rfl) ?_; (· (first | rfl | assumption))
                refine RW.gd rfl rfl rfl ?_ rfl (LO.indexAddr rfl rfl rfl rfl ty26 ty4 ?_) ?_; (· (first | rfl | assumption)); (· (first | omega | decide | assumption | fail | (simp; done) | (simp; omega)))
                refine RW.gd rfl rfl rfl ?_ rfl (LO.load rfl rfl rfl (bg_nat (by rw [sfT_len]; omega)) ty4 rfl) ?_; (· (first | rfl | assumption))
                refine RW.opd rfl rfl (LO.pick_t rfl rfl ?_ rfl) ?_; (· (first | rfl | assumption))
                refine RW.opd rfl rfl (LO.move rfl rfl) ?_
                refine RW.sd rfl rfl rfl ?_ rfl ?_; (· (first | rfl | assumption))
                refine RW.sd rfl rfl rfl ?_ rfl ?_; (· (first | rfl | assumption))
                refine RW.sd rfl rfl rfl ?_ rfl ?_; (· (first | rfl | assumption))
                refine RW.sd rfl rfl rfl ?_ rfl ?_; (· (first | rfl | assumption))
                refine RW.sd rfl rfl rfl ?_ rfl ?_; (· (first | rfl | assumption))
                refine RW.sd rfl rfl rfl ?_ rfl ?_; (· (first | rfl | assumption))
                refine RW.sd rfl rfl rfl ?_ rfl ?_; (· (first | rfl | assumption))
                refine RW.sd rfl rfl rfl ?_ rfl ?_; (· (first | rfl | assumption))
                refine RW.sd rfl rfl rfl ?_ rfl ?_; (· (first | rfl | assumption))
                refine RW.sd rfl rfl rfl ?_ rfl ?_; (· (first | rfl | assumption))
                refine RW.sd rfl rfl rfl ?_ rfl ?_; (· (first | rfl | assumption))
                refine RW.sd rfl rfl rfl ?_ rfl ?_; (· (first | rfl | assumption))
                refine RW.opd rfl rfl (LO.pick_f rfl rfl ?_ rfl) ?_; (· (first | rfl | assumption))
                refine RW.nil ⟨by kernel_rfl, ?_⟩
              case' true =>
                have k3 : gB (sfT safe A (A + 1)) k = true := by rw [e4, h3]
                obtain ⟨c, _, hl1, hl2⟩ := lw_bit hs256 hs0
                have hd : dif s k < s := dif_sub c hl2 (by rw [← and_pow, ← hl1]; exact h2)
                have r1 : gI (RS safe A s p.1) (dif s k : Nat) = rr safe (dif s k) := RS_at hd hc
                have r2 : gI (RS safe A s p.1) s = p.1 := RS_self hc
                have r9 := rr_le safe (s := dif s k) (by omega)
                by_cases h4 : rr safe (dif s k) + 1 < p.1
                case' neg =>
                  have k4 : decide (gI (RS safe A s p.1) (dif s k : Nat) + 1 < gI (RS safe A s p.1) s) = false := decide_eq_false (by rw [r1, r2]; omega)
                  have hno := scan_no (safe := safe) (r := rr safe) (s := s) (k := k) (fun h => h4 (by rw [hp]; exact h.2))
                  repeat (refine W.seq ?_)
                  refine W.regionD 128 158 (by decide) rfl mixed rfl ?_
                  refine RW.opd rfl rfl (LO.move rfl rfl) ?_
                  refine RW.opd rfl rfl (LO.move rfl rfl) ?_
                  refine RW.opd rfl rfl (LO.andNot rfl rfl rfl) ?_
                  refine RW.opd rfl rfl (LO.eql rfl rfl rfl) ?_
                  refine RW.opd rfl rfl (LO.move rfl rfl) ?_
                  refine RW.gd rfl rfl rfl ?_ rfl (LO.move rfl rfl) ?_; (· (first | rfl | assumption))
                  refine RW.gd rfl rfl rfl ?_ rfl (LO.move rfl rfl) ?_; (· (first | rfl | assumption))
                  refine RW.gd rfl rfl rfl ?_ rfl (LO.and rfl rfl rfl) ?_; (· (first | rfl | assumption))
                  refine RW.gd rfl rfl rfl ?_ rfl (LO.neq rfl rfl rfl) ?_; (· (first | rfl | assumption))
                  refine RW.opd rfl rfl (LO.pick_t rfl rfl ?_ rfl) ?_; (· (first | rfl | assumption))
                  refine RW.opd rfl rfl (LO.move rfl rfl) ?_
                  refine RW.gd rfl rfl rfl ?_ rfl (LO.move rfl rfl) ?_; (· (first | rfl | assumption))
                  refine RW.gd rfl rfl rfl ?_ rfl (LO.move rfl rfl) ?_; (· (first | rfl | assumption))
                  refine RW.gd rfl rfl rfl ?_ rfl (LO.indexAddr rfl rfl rfl rfl ty26 ty4 ?_) ?_; (· (first | rfl | assumption)); (· (first | omega | decide | assumption | fail | (simp; done) | (simp; omega)))
                  refine RW.gd rfl rfl rfl ?_ rfl (LO.load rfl rfl rfl (bg_nat (by rw [sfT_len]; omega)) ty4 rfl) ?_; (· (first | rfl | assumption))
                  refine RW.opd rfl rfl (LO.pick_t rfl rfl ?_ rfl) ?_; (· (first | rfl | assumption))
                  refine RW.opd rfl rfl (LO.move rfl rfl) ?_
                  refine RW.gd rfl rfl rfl ?_ rfl (LO.move rfl rfl) ?_; (· (first | rfl | assumption))
                  refine RW.gd rfl rfl rfl ?_ rfl (LO.move rfl rfl) ?_; (· (first | rfl | assumption))
                  refine RW.gd rfl rfl rfl ?_ rfl (LO.move rfl rfl) ?_; (· (first | rfl | assumption))
                  refine RW.gd rfl rfl rfl ?_ rfl (LO.andNot rfl rfl rfl) ?_; (· (first | rfl | assumption))
                  refine RW.gd rfl rfl rfl ?_ rfl (LO.indexAddr rfl rfl rfl e3 ty23 ty3 ?_) ?_; (· (first | rfl | assumption)); (· (first | omega | decide | assumption | fail | (simp; done) | (simp; omega)))
                  refine RW.gd rfl rfl rfl ?_ rfl (LO.load rfl rfl rfl (ni_at (k := dif s k) (by rw [RS_len]; omega)) ty3 rfl) ?_; (· (first | rfl | assumption))
                  refine RW.gd rfl rfl rfl ?_ rfl (LO.add_in rfl rfl rfl ?_) ?_; (· (first | rfl | assumption)); (· (first | exact IntWalk.i64_in _ (by omega) | assumption))
                  refine RW.gd rfl rfl rfl ?_ rfl (LO.move rfl rfl) ?_; (· (first | rfl | assumption))
                  refine RW.gd rfl rfl rfl ?_ rfl (LO.move rfl rfl) ?_; (· (first | rfl | assumption))
                  refine RW.gd rfl rfl rfl ?_ rfl (LO.indexAddr rfl rfl rfl rfl ty23 ty3 ?_) ?_; (· (first | rfl | assumption)); (· (first | omega | decide | assumption | fail | (simp; done) | (simp; omega)))
                  refine RW.gd rfl rfl rfl ?_ rfl (LO.load rfl rfl rfl (ni_at (k := s) (by rw [RS_len]; omega)) ty3 rfl) ?_; (· (first | rfl | assumption))
                  refine RW.gd rfl rfl rfl ?_ rfl (LO.lss rfl rfl rfl) ?_; (· (first | rfl | assumption))
                  refine RW.opd rfl rfl (LO.pick_t rfl rfl ?_ rfl) ?_; (· (first | rfl | assumption))
                  refine RW.nil ⟨by kernel_rfl, ?_⟩
                case pos =>
                  have k4 : decide (gI (RS safe A s p.1) (dif s k : Nat) + 1 < gI (RS safe A s p.1) s) = true := decide_eq_true (by rw [r1, r2]; omega)
                  have hyes := scan_yes (safe := safe) (r := rr safe) (s := s) (k := k) ⟨by unfold cand; rw [h1, h2, h3, decide_eq_true (by rw [← hp] at hp9; omega)]; rfl, by rw [← hp]; exact h4⟩
                  repeat (refine W.seq ?_)
                  refine W.regionD 128 158 (by decide) rfl mixed rfl ?_
                  refine RW.opd rfl rfl (LO.move rfl rfl) ?_
                  refine RW.opd rfl rfl (LO.move rfl rfl) ?_
                  refine RW.opd rfl rfl (LO.andNot rfl rfl rfl) ?_
                  refine RW.opd rfl rfl (LO.eql rfl rfl rfl) ?_
                  refine RW.opd rfl rfl (LO.move rfl rfl) ?_
                  refine RW.gd rfl rfl rfl ?_ rfl (LO.move rfl rfl) ?_; (· (first | rfl | assumption))
                  refine RW.gd rfl rfl rfl ?_ rfl (LO.move rfl rfl) ?_; (· (first | rfl | assumption))
                  refine RW.gd rfl rfl rfl ?_ rfl (LO.and rfl rfl rfl) ?_; (· (first | rfl | assumption))
                  refine RW.gd rfl rfl rfl ?_ rfl (LO.neq rfl rfl rfl) ?_; (· (first | rfl | assumption))
                  refine RW.opd rfl rfl (LO.pick_t rfl rfl ?_ rfl) ?_; (· (first | rfl | assumption))
                  refine RW.opd rfl rfl (LO.move rfl rfl) ?_
                  refine RW.gd rfl rfl rfl ?_ rfl (LO.move rfl rfl) ?_; (· (first | rfl | assumption))
                  refine RW.gd rfl rfl rfl ?_ rfl (LO.move rfl rfl) ?_; (· (first | rfl | assumption))
                  refine RW.gd rfl rfl rfl ?_ rfl (LO.indexAddr rfl rfl rfl rfl ty26 ty4 ?_) ?_; (· (first | rfl | assumption)); (· (first | omega | decide | assumption | fail | (simp; done) | (simp; omega)))
                  refine RW.gd rfl rfl rfl ?_ rfl (LO.load rfl rfl rfl (bg_nat (by rw [sfT_len]; omega)) ty4 rfl) ?_; (· (first | rfl | assumption))
                  refine RW.opd rfl rfl (LO.pick_t rfl rfl ?_ rfl) ?_; (· (first | rfl | assumption))
                  refine RW.opd rfl rfl (LO.move rfl rfl) ?_
                  refine RW.gd rfl rfl rfl ?_ rfl (LO.move rfl rfl) ?_; (· (first | rfl | assumption))
                  refine RW.gd rfl rfl rfl ?_ rfl (LO.move rfl rfl) ?_; (· (first | rfl | assumption))
                  refine RW.gd rfl rfl rfl ?_ rfl (LO.move rfl rfl) ?_; (· (first | rfl | assumption))
                  refine RW.gd rfl rfl rfl ?_ rfl (LO.andNot rfl rfl rfl) ?_; (· (first | rfl | assumption))
                  refine RW.gd rfl rfl rfl ?_ rfl (LO.indexAddr rfl rfl rfl e3 ty23 ty3 ?_) ?_; (· (first | rfl | assumption)); (· (first | omega | decide | assumption | fail | (simp; done) | (simp; omega)))
                  refine RW.gd rfl rfl rfl ?_ rfl (LO.load rfl rfl rfl (ni_at (k := dif s k) (by rw [RS_len]; omega)) ty3 rfl) ?_; (· (first | rfl | assumption))
                  refine RW.gd rfl rfl rfl ?_ rfl (LO.add_in rfl rfl rfl ?_) ?_; (· (first | rfl | assumption)); (· (first | exact IntWalk.i64_in _ (by omega) | assumption))
                  refine RW.gd rfl rfl rfl ?_ rfl (LO.move rfl rfl) ?_; (· (first | rfl | assumption))
                  refine RW.gd rfl rfl rfl ?_ rfl (LO.move rfl rfl) ?_; (· (first | rfl | assumption))
                  refine RW.gd rfl rfl rfl ?_ rfl (LO.indexAddr rfl rfl rfl rfl ty23 ty3 ?_) ?_; (· (first | rfl | assumption)); (· (first | omega | decide | assumption | fail | (simp; done) | (simp; omega)))
                  refine RW.gd rfl rfl rfl ?_ rfl (LO.load rfl rfl rfl (ni_at (k := s) (by rw [RS_len]; omega)) ty3 rfl) ?_; (· (first | rfl | assumption))
                  refine RW.gd rfl rfl rfl ?_ rfl (LO.lss rfl rfl rfl) ?_; (· (first | rfl | assumption))
                  refine RW.opd rfl rfl (LO.pick_t rfl rfl ?_ rfl) ?_; (· (first | rfl | assumption))
                  refine RW.nil ⟨by kernel_rfl, ?_⟩
                  repeat (refine W.seq ?_)
                  refine W.cond_t rfl (by first | rfl | assumption) ?_
                  repeat (refine W.seq ?_)
                  refine W.region 162 178 (by decide) rfl rfl ?_
                  refine RW.opd rfl rfl (LO.move rfl rfl) ?_
                  refine RW.opd rfl rfl (LO.move rfl rfl) ?_
                  refine RW.opd rfl rfl (LO.move rfl rfl) ?_
                  refine RW.opd rfl rfl (LO.move rfl rfl) ?_
                  refine RW.opd rfl rfl (LO.move rfl rfl) ?_
                  refine RW.opd rfl rfl (LO.move rfl rfl) ?_
                  refine RW.opd rfl rfl (LO.move rfl rfl) ?_
                  refine RW.opd rfl rfl (LO.andNot rfl rfl rfl) ?_
                  refine RW.opd rfl rfl (LO.indexAddr rfl rfl rfl e3 ty23 ty3 ?_) ?_; (· (first | omega | decide | assumption | fail | (simp; done) | (simp; omega)))
                  refine RW.opd rfl rfl (LO.load rfl rfl rfl (ni_at (k := dif s k) (by rw [RS_len]; omega)) ty3 rfl) ?_
                  refine RW.opd rfl rfl (LO.add_in rfl rfl rfl ?_) ?_; (· (first | exact IntWalk.i64_in _ (by omega) | assumption))
                  refine RW.opd rfl rfl (LO.move rfl rfl) ?_
                  refine RW.opd rfl rfl (LO.indexAddr rfl rfl rfl rfl ty23 ty3 ?_) ?_; (· (first | omega | decide | assumption | fail | (simp; done) | (simp; omega)))
                  refine RW.opn rfl rfl (LO.store rfl rfl rfl rfl rfl ty3 rfl (by decide) (ns_at (k := s) (by rw [RS_len]; omega))) ?_
                  refine RW.opd rfl rfl (LO.indexAddr rfl rfl rfl rfl ty69 ty43 ?_) ?_; (· (first | omega | decide | assumption | fail | (simp; done) | (simp; omega)))
                  refine RW.opn rfl rfl (LO.store rfl rfl rfl rfl rfl ty43 rfl (by decide) (nu_set (k := s) (by rw [FS_len]; omega))) ?_
                  refine RW.nil ?_
                  repeat (refine W.seq ?_)
                  refine W.region 182 185 (by decide) rfl rfl ?_
                  refine RW.opd rfl rfl (LO.move rfl rfl) ?_
                  refine RW.opd rfl rfl (LO.add_in rfl rfl rfl ?_) ?_; (· (first | exact IntWalk.u64_in _ (by omega) | assumption))
                  refine RW.opd rfl rfl (LO.assign rfl rfl) ?_
                  refine RW.nil ?_
                  rw [show (RS safe A s p.1).set s (gI (RS safe A s p.1) (dif s k : Nat) + 1) = RS safe A s (rr safe (dif s k) + 1) from by rw [r1]; exact RS_set _ _ _ _ _, FS_set]
                  refine WL.rename [(0, 0), (1, 1), (2, 2), (3, 3)] 4 (by decide) ?_ ?_ (ihC ((k + 1), ((rr safe (dif s k) + 1, k))) (show s + 1 - (k + 1) < s + 1 - k from by omega) (show (lw s ≤ (k + 1) ∧ (k + 1) ≤ s + 1) ∧ ((rr safe (dif s k) + 1, k)) = scan safe (rr safe) s (k + 1) from ⟨⟨by omega, by omega⟩, hyes.symm⟩))
                  · (repeat' (first | exact all_mt | refine all_up ?_ ?_)) <;> first | exact .inl ⟨rfl, rfl⟩ | exact .inr ⟨rfl, fun _ h => by cases h⟩ | exact .inl ⟨rfl, by first | rfl | assumption | exact (boolsC_pure _) | exact (intsC_pure _) | exact (natsU_pure _)⟩
                  · (repeat' (first | exact all_mt | refine all_up ?_ ?_)) <;> first | exact ⟨rfl, _, rfl, .inr ⟨rfl, rfl⟩⟩ | exact ⟨rfl, _, rfl, .inl rfl⟩ | exact ⟨rfl, _, rfl, .inr ⟨rfl, by first | rfl | assumption | exact (boolsC_pure _) | exact (intsC_pure _) | exact (natsU_pure _)⟩⟩
          all_goals
            repeat (refine W.seq ?_)
            refine W.cond_f rfl (by first | rfl | assumption) ?_
            refine W.skip ?_
            repeat (refine W.seq ?_)
            refine W.region 182 185 (by decide) rfl rfl ?_
            refine RW.opd rfl rfl (LO.move rfl rfl) ?_
            refine RW.opd rfl rfl (LO.add_in rfl rfl rfl ?_) ?_; (· (first | exact IntWalk.u64_in _ (by omega) | assumption))
            refine RW.opd rfl rfl (LO.assign rfl rfl) ?_
            refine RW.nil ?_
            refine WL.rename [(0, 0), (1, 1), (2, 2), (3, 3)] 4 (by decide) ?_ ?_ (ihC ((k + 1), p) (show s + 1 - (k + 1) < s + 1 - k from by omega) (show (lw s ≤ (k + 1) ∧ (k + 1) ≤ s + 1) ∧ p = scan safe (rr safe) s (k + 1) from ⟨⟨by omega, by omega⟩, by rw [hno]; exact hp⟩))
            · (repeat' (first | exact all_mt | refine all_up ?_ ?_)) <;> first | exact .inl ⟨rfl, rfl⟩ | exact .inr ⟨rfl, fun _ h => by cases h⟩ | exact .inl ⟨rfl, by first | rfl | assumption | exact (boolsC_pure _) | exact (intsC_pure _) | exact (natsU_pure _)⟩
            · (repeat' (first | exact all_mt | refine all_up ?_ ?_)) <;> first | exact ⟨rfl, _, rfl, .inr ⟨rfl, rfl⟩⟩ | exact ⟨rfl, _, rfl, .inl rfl⟩ | exact ⟨rfl, _, rfl, .inr ⟨rfl, by first | rfl | assumption | exact (boolsC_pure _) | exact (intsC_pure _) | exact (natsU_pure _)⟩⟩
        · have g2 : decide ((k : Int) ≤ (s : Int)) = false := decide_eq_false (by omega)
          obtain rfl : k = s + 1 := by omega
          have hpr : p = rn safe s := by rw [hp, rn_eq safe hs256 hs0]
          repeat (refine W.seq ?_)
          refine W.region 121 124 (by decide) rfl rfl ?_
          refine RW.opd rfl rfl (LO.move rfl rfl) ?_
          refine RW.opd rfl rfl (LO.move rfl rfl) ?_
          refine RW.opd rfl rfl (LO.leq rfl rfl rfl) ?_
          refine RW.nil ?_
          repeat (refine W.seq ?_)
          refine W.cond_f rfl (by first | rfl | assumption) ?_
          refine W.exit ?_
          repeat (refine W.seq ?_)
          refine W.region 189 192 (by decide) rfl rfl ?_
          refine RW.opd rfl rfl (LO.move rfl rfl) ?_
          refine RW.opd rfl rfl (LO.add_in rfl rfl rfl ?_) ?_; (· (first | exact IntWalk.u64_in _ (by omega) | assumption))
          refine RW.opd rfl rfl (LO.assign rfl rfl) ?_
          refine RW.nil ?_
          rw [hpr, RS_next, FS_next]
          refine WL.rename [(0, 0), (1, 1), (2, 2), (3, 3)] 4 (by decide) ?_ ?_ (ihB (s + 1) (show A + 1 - (s + 1) < A + 1 - s from by omega) (show 1 ≤ (s + 1) ∧ (s + 1) ≤ A + 1 from ⟨by omega, by omega⟩))
          · (repeat' (first | exact all_mt | refine all_up ?_ ?_)) <;> first | exact .inl ⟨rfl, rfl⟩ | exact .inr ⟨rfl, fun _ h => by cases h⟩ | exact .inl ⟨rfl, by first | rfl | assumption | exact (boolsC_pure _) | exact (intsC_pure _) | exact (natsU_pure _)⟩
          · (repeat' (first | exact all_mt | refine all_up ?_ ?_)) <;> first | exact ⟨rfl, _, rfl, .inr ⟨rfl, rfl⟩⟩ | exact ⟨rfl, _, rfl, .inl rfl⟩ | exact ⟨rfl, _, rfl, .inr ⟨rfl, by first | rfl | assumption | exact (boolsC_pure _) | exact (intsC_pure _) | exact (natsU_pure _)⟩⟩
      · have g1 : decide ((s : Int) ≤ (A : Int)) = false := decide_eq_false (by omega)
        obtain rfl : s = A + 1 := by omega
        repeat (refine W.seq ?_)
        refine W.region 91 94 (by decide) rfl rfl ?_
        refine RW.opd rfl rfl (LO.move rfl rfl) ?_
        refine RW.opd rfl rfl (LO.move rfl rfl) ?_
        refine RW.opd rfl rfl (LO.leq rfl rfl rfl) ?_
        refine RW.nil ?_
        repeat (refine W.seq ?_)
        refine W.cond_f rfl (by first | rfl | assumption) ?_
        refine W.exit ?_
        have hrA : gI (rT safe A (A + 1)) A = rr safe A := rT_end (Nat.le_refl _)
        have hr9 := rr_le safe hA3
        by_cases h9 : rr safe A < 9
        · have k9 : decide (gI (rT safe A (A + 1)) A ≥ 9) = false := decide_eq_false (by rw [hrA]; omega)
          rw [if_pos h9] at hrf
          repeat (refine W.seq ?_)
          refine W.region 196 201 (by decide) rfl rfl ?_
          refine RW.opd rfl rfl (LO.move rfl rfl) ?_
          refine RW.opd rfl rfl (LO.move rfl rfl) ?_
          refine RW.opd rfl rfl (LO.indexAddr rfl rfl rfl rfl ty23 ty3 ?_) ?_; (· (first | omega | decide | assumption | fail | (simp; done) | (simp; omega)))
          refine RW.opd rfl rfl (LO.load rfl rfl rfl (ni_at (k := A) (by rw [rT_len]; omega)) ty3 rfl) ?_
          refine RW.opd rfl rfl (LO.geq rfl rfl rfl) ?_
          refine RW.nil ?_
          repeat (refine W.seq ?_)
          refine W.cond_f rfl (by first | rfl | assumption) ?_
          refine W.skip ?_
          repeat (refine W.seq ?_)
          refine W.region 211 212 (by decide) rfl rfl ?_
          refine RW.opd rfl rfl (LO.assign rfl rfl) ?_
          refine RW.nil ?_
          refine W.name 212 (212 + 1) (t := 16) (sz := 1) rfl (by decide) (by decide) ?_
          repeat (refine W.seq ?_)
          refine W.region 216 218 (by decide) rfl rfl ?_
          refine RW.opd rfl rfl (LO.move rfl rfl) ?_
          refine RW.opd rfl rfl (LO.assign rfl rfl) ?_
          refine RW.nil ?_
          repeat (refine W.seq ?_)
          refine W.block ?_
          refine W.rename [(0, 0), (1, 1), (2, 2), (3, 3), (4, 212)] 5 (T' := up (up (up (up mt 2 (some (.isl (itsC its) its.length))) 12 (some (.osl 3 0 (A + 1) 1))) 16 (some (.osl 4 0 (([] : List (List Itm))).length 1))) 17 (some (.base (.int .u64 (A : Int))))) (H' := up (up (up (up (up mt 0 (some (fabC f))) 1 (some (boolsC (sfT safe A (A + 1))))) 2 (some (intsC (rT safe A (A + 1))))) 3 (some (natsU (fT safe A (A + 1))))) 4 (some (gsC (([] : List (List Itm)))))) (by decide) ?_ ?_ ?_
          · (repeat' (first | exact all_mt | refine all_up ?_ ?_)) <;> first | exact .inl ⟨rfl, rfl⟩ | exact .inr ⟨rfl, fun _ h => by cases h⟩ | exact .inl ⟨rfl, by first | rfl | assumption | exact (boolsC_pure _) | exact (intsC_pure _) | exact (natsU_pure _) | exact (gsC_pure _)⟩
          · (repeat' (first | exact all_mt | refine all_up ?_ ?_)) <;> first | exact ⟨rfl, _, rfl, .inr ⟨rfl, rfl⟩⟩ | exact ⟨rfl, _, rfl, .inl rfl⟩ | exact ⟨rfl, _, rfl, .inr ⟨rfl, by first | rfl | assumption | exact (boolsC_pure _) | exact (intsC_pure _) | exact (natsU_pure _) | exact (gsC_pure _)⟩⟩
          refine W.loop_ind (α := Nat × List (List Itm)) (fun x => x.1) 5 (fun x => up (up (up (up mt 2 (some (.isl (itsC its) its.length))) 12 (some (.osl 3 0 (A + 1) 1))) 16 (some (.osl 4 0 x.2.length 1))) 17 (some (.base (.int .u64 (x.1 : Int))))) (fun x => up (up (up (up (up mt 0 (some (fabC f))) 1 (some (boolsC (sfT safe A (A + 1))))) 2 (some (intsC (rT safe A (A + 1))))) 3 (some (natsU (fT safe A (A + 1))))) 4 (some (gsC x.2))) (fun x => (x.1 ≤ A ∧ rr safe x.1 < 9 ∧ x.2.length + rr safe x.1 ≤ 9) ∧ (divs safe A).map (chF its) = x.2 ++ (divs safe x.1).map (chF its)) (A, (([] : List (List Itm)))) (show (A ≤ A ∧ rr safe A < 9 ∧ (([] : List (List Itm))).length + rr safe A ≤ 9) ∧ (divs safe A).map (chF its) = (([] : List (List Itm))) ++ (divs safe A).map (chF its) from ⟨⟨Nat.le_refl _, h9, by simp; omega⟩, rfl⟩) ?_
          rintro ⟨s, out⟩ hID ihD
          try (dsimp only at hID)
          try dsimp only
          obtain ⟨⟨hsA2, hs9, hol⟩, hdv⟩ := hID
          have hs256 : s < 256 := by omega
          by_cases hs0 : s = 0
          · have g3 : ((s : Int) != 0) = false := by simpa using hs0
            have hz : divs safe s = [] := by rw [hs0]; rfl
            rw [hz, List.map_nil, List.append_nil] at hdv
            repeat (refine W.seq ?_)
            refine W.region 222 224 (by decide) rfl rfl ?_
            refine RW.opd rfl rfl (LO.move rfl rfl) ?_
            refine RW.opd rfl rfl (LO.neq rfl rfl rfl) ?_
            refine RW.nil ?_
            repeat (refine W.seq ?_)
            refine W.cond_f rfl (by first | rfl | assumption) ?_
            refine W.exit ?_
            repeat (refine W.seq ?_)
            refine W.region 253 256 (by decide) rfl rfl ?_
            refine RW.opd rfl rfl (LO.move rfl rfl) ?_
            refine RW.opd rfl rfl (LO.assign rfl rfl) ?_
            refine RW.opd rfl rfl (LO.assign rfl rfl) ?_
            refine RW.nil ?_
            refine W.frz1 (t := 6) rfl rfl (gs_tk rfl) (gsC_pure _) ?_
            repeat (refine W.seq ?_)
            refine W.ret ⟨.inl rfl, _, mt, RVs.cons (RV.tmp rfl) (RVs.cons (RV.tmp rfl) (RVs.nil)), all_mt, ?_⟩
            exact ⟨by rw [hrf, hdv]; rfl, rfl⟩
          · have g3 : ((s : Int) != 0) = true := by simpa using hs0
            obtain ⟨hn1, hn2⟩ := rr_next hs256 hs0 hs9
            have hdc := divs_cons hs256 hs0 hs9
            have hgn : gN (fT safe A (A + 1)) s = (rn safe s).2 := fT_end hsA2
            have hcd := cand_bits hs256 hs0 ((rn_spec safe hs256 hs0).2.1 hs9).1
            have hfs : (rn safe s).2 < 256 := by
              have := (divs_ok safe s hs256 hs9).1 (rn safe s).2 (by rw [hdc]; exact List.mem_cons_self ..)
              exact this.2.2.1
            have hch := chosen_any its (gN (fT safe A (A + 1)) s) (by rw [hgn]; exact hfs) h8
            have e5 := andNotU (n := gN (fT safe A (A + 1)) s) hs256
            rw [hgn] at e5 hch
            have hnu := nu_at (l := fT safe A (A + 1)) (k := s) (by rw [fT_len]; omega)
            rw [hgn] at hnu
            repeat (refine W.seq ?_)
            refine W.region 222 224 (by decide) rfl rfl ?_
            refine RW.opd rfl rfl (LO.move rfl rfl) ?_
            refine RW.opd rfl rfl (LO.neq rfl rfl rfl) ?_
            refine RW.nil ?_
            repeat (refine W.seq ?_)
            refine W.cond_t rfl (by first | rfl | assumption) ?_
            refine W.skip ?_
            repeat (refine W.seq ?_)
            refine W.block ?_
            repeat (refine W.seq ?_)
            refine W.region 228 238 (by decide) rfl rfl ?_
            refine RW.opd rfl rfl (LO.move rfl rfl) ?_
            refine RW.opd rfl rfl (LO.move rfl rfl) ?_
            refine RW.opd rfl rfl (LO.move rfl rfl) ?_
            refine RW.opd rfl rfl (LO.move rfl rfl) ?_
            refine RW.opd rfl rfl (LO.indexAddr rfl rfl rfl rfl ty69 ty43 ?_) ?_; (· (first | omega | decide | assumption | fail | (simp; done) | (simp; omega)))
            refine RW.opd rfl rfl (LO.load rfl rfl rfl hnu ty43 rfl) ?_
            refine RW.opd rfl rfl (LO.call0 (fr := []) rfl rfl (hch) fok31 (.cons rfl (.pure rfl) (.cons rfl (.pure rfl) .nil)) rfl) ?_
            refine RW.opd rfl rfl (LO.buildSlice rfl ty34 ty22 (by decide) (by decide) (.cons rfl rfl rfl rfl (Sp.lit rfl) .nil)) ?_
            refine RW.opd rfl rfl (LO.append rfl rfl (SrcAV.own rfl rfl (Tk.lit rfl)) rfl (gs_tk rfl) ty34 ty34 ty22 (by decide) ?_ ?_ ?_) ?_; (· (first | omega | decide | assumption | fail | (simp; done) | (simp; omega))); (· (first | omega | decide | assumption | fail | (simp; done) | (simp; omega))); (· (first | decide | omega))
            refine RW.opd rfl rfl (LO.assign rfl rfl) ?_
            refine RW.nil ?_
            repeat (refine W.seq ?_)
            refine W.region 242 249 (by decide) rfl rfl ?_
            refine RW.opd rfl rfl (LO.move rfl rfl) ?_
            refine RW.opd rfl rfl (LO.move rfl rfl) ?_
            refine RW.opd rfl rfl (LO.move rfl rfl) ?_
            refine RW.opd rfl rfl (LO.indexAddr rfl rfl rfl rfl ty69 ty43 ?_) ?_; (· (first | omega | decide | assumption | fail | (simp; done) | (simp; omega)))
            refine RW.opd rfl rfl (LO.load rfl rfl rfl hnu ty43 rfl) ?_
            refine RW.opd rfl rfl (LO.andNot rfl rfl rfl) ?_
            refine RW.opd rfl rfl (LO.assign rfl rfl) ?_
            refine RW.nil ?_
            rw [e5]
            rw [show gsC out ++ [AV.isl (itsC (chF its (rn safe s).2)) (chF its (rn safe s).2).length] = gsC (out ++ [chF its (rn safe s).2]) from by simp [gsC], show out.length + 1 = (out ++ [chF its (rn safe s).2]).length from by simp]
            refine WL.rename [(0, 0), (1, 1), (2, 2), (3, 3), (4, 236)] 5 (by decide) ?_ ?_ (ihD ((dif s (rn safe s).2), (out ++ [chF its (rn safe s).2])) (show (dif s (rn safe s).2) < s from hn2) (show ((dif s (rn safe s).2) ≤ A ∧ rr safe (dif s (rn safe s).2) < 9 ∧ (out ++ [chF its (rn safe s).2]).length + rr safe (dif s (rn safe s).2) ≤ 9) ∧ (divs safe A).map (chF its) = (out ++ [chF its (rn safe s).2]) ++ (divs safe (dif s (rn safe s).2)).map (chF its) from ⟨⟨by omega, by omega, by simp only [List.length_append, List.length_singleton]; omega⟩, by rw [hdv, hdc, List.map_cons, List.append_assoc]; rfl⟩))
            · (repeat' (first | exact all_mt | refine all_up ?_ ?_)) <;> first | exact .inl ⟨rfl, rfl⟩ | exact .inr ⟨rfl, fun _ h => by cases h⟩ | exact .inl ⟨rfl, by first | rfl | assumption | exact (boolsC_pure _) | exact (intsC_pure _) | exact (natsU_pure _) | exact (gsC_pure _)⟩
            · (repeat' (first | exact all_mt | refine all_up ?_ ?_)) <;> first | exact ⟨rfl, _, rfl, .inr ⟨rfl, rfl⟩⟩ | exact ⟨rfl, _, rfl, .inl rfl⟩ | exact ⟨rfl, _, rfl, .inr ⟨rfl, by first | rfl | assumption | exact (boolsC_pure _) | exact (intsC_pure _) | exact (natsU_pure _) | exact (gsC_pure _)⟩⟩
        · have k9 : decide (gI (rT safe A (A + 1)) A ≥ 9) = true := decide_eq_true (by rw [hrA]; omega)
          rw [if_neg h9] at hrf
          repeat (refine W.seq ?_)
          refine W.region 196 201 (by decide) rfl rfl ?_
          refine RW.opd rfl rfl (LO.move rfl rfl) ?_
          refine RW.opd rfl rfl (LO.move rfl rfl) ?_
          refine RW.opd rfl rfl (LO.indexAddr rfl rfl rfl rfl ty23 ty3 ?_) ?_; (· (first | omega | decide | assumption | fail | (simp; done) | (simp; omega)))
          refine RW.opd rfl rfl (LO.load rfl rfl rfl (ni_at (k := A) (by rw [rT_len]; omega)) ty3 rfl) ?_
          refine RW.opd rfl rfl (LO.geq rfl rfl rfl) ?_
          refine RW.nil ?_
          repeat (refine W.seq ?_)
          refine W.cond_t rfl (by first | rfl | assumption) ?_
          repeat (refine W.seq ?_)
          refine W.region 205 207 (by decide) rfl rfl ?_
          refine RW.opd rfl rfl (LO.assign rfl rfl) ?_
          refine RW.opd rfl rfl (LO.assign rfl rfl) ?_
          refine RW.nil ?_
          refine W.nilt (t := 6) rfl ?_
          repeat (refine W.seq ?_)
          refine W.ret ⟨.inl rfl, _, mt, RVs.cons (RV.tmp rfl) (RVs.cons (RV.tmp rfl) (RVs.nil)), all_mt, ?_⟩
          exact ⟨by rw [hrf]; rfl, rfl⟩
end Go.Proofs.YtbjfaepjpmogjaaDoor
