/-
  Do loads fit: both texts.
-/
import Derived.Test.YtbjfaepjpmogjaaDoorKd
import Derived.Test.YtbjfaepjpmogjaaDoorHb
namespace Go.Proofs.YtbjfaepjpmogjaaDoor
open Go.RowKit

theorem wayL_len (f : Fab) (d : List Int) (h : Int) (m : Nat) (at_ : Int) : (wayL f d h m at_).length = m := by
  induction m generalizing at_ with
  | zero => rfl
  | succ m ih => rw [wayL, List.length_cons, ih]
theorem wayF_len {f : Fab} (hf : FabS f) (frm to h : Int) {w : List Int} (hw : wayF f frm to h = some w) : w.length ≤ 8 := by
  unfold wayF at hw
  split at hw
  · injection hw with hw
    rw [← hw, wayL_len]
    rename_i h0
    obtain ⟨r0, r1⟩ := gI_range h0
    rw [dist_len] at r1
    have := dist_lt f to frm (by omega)
    have := hf.n8
    omega
  · cases hw
/-- the links of a way are links that work -/
theorem wayL_in (f : Fab) (to h : Int) : ∀ (m : Nat) (at_ : Int), gI (dist f to) at_ = m → ∀ k ∈ wayL f (dist f to) h m at_, ∃ i : Nat, k = i ∧ i < f.links.length ∧ worksB f i = true := by
  intro m
  induction m with
  | zero => intro at_ _ k hk; cases hk
  | succ m ih =>
    intro at_ hm k hk
    obtain ⟨h0, hp, hd, hl⟩ := way_next (f := f) (to := to) (at_ := at_) (h := h) (by omega) rfl
    rw [hm, show ((m + 1 : Nat) : Int).toNat = m + 1 from by omega] at hl
    rw [hl] at hk
    rcases List.mem_cons.1 hk with e | e
    · obtain ⟨i, l, hi, hli, hpq, _, hwk, _⟩ := stepsK_mem (f := f) (d := dist f to) (at_ := at_) (k := f.links.length) (p := (stepsK f (dist f to) at_ f.links.length)[pickN h (stepsK f (dist f to) at_ f.links.length).length]) (List.getElem_mem hp)
      refine ⟨i, ?_, hi, hwk⟩
      rw [e, gI_at (by simpa [fstL] using hp)]
      simp [fstL, hpq]
    · have hd2 : gI (dist f to) (gI (sndL (stepsK f (dist f to) at_ f.links.length)) (pickN h (stepsK f (dist f to) at_ f.links.length).length)) = (m : Int) := by omega
      rw [hd2] at e
      exact ih _ hd2 k e
theorem wayF_in {f : Fab} {frm to h : Int} {w : List Int} (hw : wayF f frm to h = some w) : ∀ k ∈ w, ∃ i : Nat, k = i ∧ i < f.links.length ∧ worksB f i = true := by
  unfold wayF at hw
  split at hw
  · injection hw with hw
    subst hw
    exact wayL_in f to h _ _ (by omega)
  · cases hw
def fnd (p : Nat → Bool) : Nat → Option Nat
  | 0 => none
  | k + 1 => match fnd p k with
    | some i => some i
    | none => if p k = true then some k else none
theorem fnd_none {p : Nat → Bool} {k : Nat} (h : ∀ i, i < k → p i = false) : fnd p k = none := by
  induction k with
  | zero => rfl
  | succ k ih =>
    unfold fnd
    rw [ih fun i hi => h i (by omega)]
    dsimp only
    rw [if_neg (by rw [h k (by omega)]; decide)]
theorem fnd_some {p : Nat → Bool} {k i : Nat} (h : ∀ j, j < i → p j = false) (hp : p i = true) (hi : i < k) : fnd p k = some i := by
  induction k with
  | zero => omega
  | succ k ih =>
    unfold fnd
    by_cases e : i = k
    · subst e; rw [fnd_none h]; dsimp only; rw [if_pos hp]
    · rw [ih (by omega)]
theorem fnd_inv {p : Nat → Bool} {k : Nat} (h : fnd p k = none) : ∀ i, i < k → p i = false := by
  induction k with
  | zero => intro i hi; omega
  | succ k ih =>
    intro i hi
    unfold fnd at h
    cases hf : fnd p k with
    | some j => rw [hf] at h; cases h
    | none =>
      rw [hf] at h
      dsimp only at h
      by_cases e : i = k
      · subst e
        cases hp : p i with
        | false => rfl
        | true => rw [if_pos hp] at h; cases h
      · exact ih hf i (by omega)
def addW (s w : List Int) (r : Int) : List Int := w.foldl (fun s k => sI s k (gI s k + r)) s
def sumsK (f : Fab) (ls : List Ld) : Nat → List Int
  | 0 => List.replicate f.links.length 0
  | i + 1 => match ls[i]? with
    | some x => addW (sumsK f ls i) ((wayF f x.a x.b i).getD []) x.r
    | none => sumsK f ls i
def gapB (f : Fab) (ls : List Ld) (i : Nat) : Bool := match ls[i]? with
  | some x => (wayF f x.a x.b i).isNone
  | none => false
def overB (f : Fab) (ls : List Ld) (k : Nat) : Bool := match f.links[k]? with
  | some l => decide (gI (sumsK f ls ls.length) k > 1000 * l.c)
  | none => false
/-- what does not fit, and why -/
def fitF (f : Fab) (ls : List Ld) : Int × Int := match fnd (gapB f ls) ls.length with
  | some i => ((i : Int), 16)
  | none => match fnd (overB f ls) f.links.length with
    | some k => ((k : Int), 41)
    | none => (0, 0)
def fitV (p : Int × Int) : AV := .tup [.base (.int .i64 p.1), .base (.int .i64 p.2)]
theorem sumsK_succ {f : Fab} {ls : List Ld} {i : Nat} (h : i < ls.length) {w : List Int} (hw : wayF f ls[i].a ls[i].b i = some w) : sumsK f ls (i + 1) = addW (sumsK f ls i) w ls[i].r := by
  rw [sumsK, List.getElem?_eq_getElem h]
  dsimp only
  rw [hw]; rfl
def SumOK (n : Nat) (c : Int) (s : List Int) : Prop := s.length = n ∧ ∀ k : Int, 0 ≤ gI s k + 1 ∧ (∀ _h : 0 ≤ k ∧ k < n, 0 ≤ gI s k) ∧ gI s k ≤ c * 1073741824
theorem SumOK.add {n : Nat} {c : Int} {s : List Int} {k r : Int} (h : SumOK n c s) (hk : 0 ≤ k ∧ k < n) (h0 : 0 ≤ r) (h1 : r ≤ 1073741824) (_hc : 0 ≤ c) : SumOK n (c + 1) (sI s k (gI s k + r)) := by
  obtain ⟨hl, hb⟩ := h
  refine ⟨by rw [sI_len, hl], fun j => ?_⟩
  obtain ⟨b1, b2, b3⟩ := hb j
  obtain ⟨c1, c2, c3⟩ := hb k
  have c4 := c2 hk
  obtain ⟨kn, rfl⟩ := Int.eq_ofNat_of_zero_le hk.1
  by_cases e : j = (kn : Int)
  · subst e
    rw [sI_nat, gI_at (by simp; omega), List.getElem_set_self]
    exact ⟨by omega, fun _ => by omega, by omega⟩
  · have : gI (sI s (kn : Int) (gI s kn + r)) j = gI s j := gI_sI_ne e
    rw [this]
    exact ⟨b1, b2, by omega⟩
theorem SumOK.mono {n : Nat} {c d : Int} {s : List Int} (h : SumOK n c s) (hc : c ≤ d) : SumOK n d s := ⟨h.1, fun k => ⟨(h.2 k).1, (h.2 k).2.1, by have := (h.2 k).2.2; omega⟩⟩
theorem SumOK.start (n : Nat) : SumOK n 0 (List.replicate n 0) := by
  refine ⟨by simp, fun k => ?_⟩
  by_cases h : 0 ≤ k ∧ k < n
  · obtain ⟨kn, rfl⟩ := Int.eq_ofNat_of_zero_le h.1
    rw [gI_at (by simp; omega), List.getElem_replicate]
    exact ⟨by omega, fun _ => by omega, by omega⟩
  · rw [gI_out (by simp; omega)]
    exact ⟨by omega, fun h2 => absurd h2 h, by omega⟩
theorem addW_snoc (s w : List Int) (r : Int) {j : Nat} (h : j < w.length) : addW s (w.take (j + 1)) r = sI (addW s (w.take j) r) w[j] (gI (addW s (w.take j) r) w[j] + r) := by
  unfold addW
  rw [List.take_succ_eq_append_getElem h, List.foldl_append]; rfl
def LdOK (ls : List Ld) : Prop := ls.length ≤ 16 ∧ ∀ x ∈ ls, 0 ≤ x.r ∧ x.r ≤ 1073741824
def CapOK (f : Fab) : Prop := ∀ l ∈ f.links, 0 ≤ l.c ∧ l.c ≤ 1048576
theorem ew_at {l : List Int} {k : Nat} (h : k < l.length) : (intsC l)[k * 1]? = some (.base (.int .i64 l[k])) := by simp [intsC, h]
set_option maxHeartbeats 1000000 in
theorem fits_any (f : Fab) (ls : List Ld) (hf : FabS f) (he : EndsIn f) (hl : LdOK ls) (hcap : CapOK f) : AFn Tryd.prog 37 0 [.agg (fabC f), .isl (ldsC ls) ls.length] mt (fitV (fitF f ls)) mt := by
  refine AFn.eq Tryd.func37 rfl rfl (Nat.le_of_ble_eq_true rfl) ?_
  have hway := way_any f hf he
  obtain ⟨hl16, hlr⟩ := hl
  have h24 := hf.nl
  repeat (refine W.seq ?_)
  refine W.region 0 3 (by decide) rfl rfl ?_
  refine RW.opd rfl rfl (LO.box rfl rfl rfl) ?_
  refine RW.opd rfl rfl (LO.assign rfl rfl) ?_
  refine RW.opd rfl rfl (LO.assign rfl rfl) ?_
  refine RW.nil ?_
  repeat (refine W.seq ?_)
  refine W.region 7 12 (by decide) rfl rfl ?_
  refine RW.opd rfl rfl (LO.fieldAddr rfl rfl ty28 rfl (by decide)) ?_
  refine RW.opd rfl rfl (LO.load rfl rfl rfl rfl ty25 rfl) ?_
  refine RW.opd rfl rfl (LO.len_isl rfl rfl rfl ty25) ?_
  refine RW.opd rfl rfl (LO.makeSlice rfl rfl rfl rfl rfl ty23 ty3 (by decide) ?_ ?_ ?_) ?_; (· (first | omega | decide | assumption | fail | (simp; done) | (simp; omega))); (· (first | omega | decide | assumption | fail | (simp; done) | (simp; omega))); (· (first | omega | decide | assumption | fail | (simp; done) | (simp; omega)))
  refine RW.opd rfl rfl (LO.assign rfl rfl) ?_
  refine RW.nil ?_
  rw [zeros_ints]
  repeat (refine W.seq ?_)
  refine W.region 16 19 (by decide) rfl rfl ?_
  refine RW.opd rfl rfl (LO.move rfl rfl) ?_
  refine RW.opd rfl rfl (LO.len_isl rfl rfl rfl ty29) ?_
  refine RW.opd rfl rfl (LO.move rfl rfl) ?_
  refine RW.nil ?_
  repeat (refine W.seq ?_)
  refine W.block ?_
  refine W.rename [(0, 0), (1, 10)] 2 (T' := up (up (up (up (up mt 2 (some (.own 0 0))) 6 (some (.osl 1 0 f.links.length 1))) 19 (some (.isl (ldsC ls) ls.length))) 20 (some (.base (.int .i64 (ls.length : Int))))) 21 (some (.base (.int .i64 (0 : Int))))) (H' := up (up mt 0 (some (fabC f))) 1 (some (intsC (List.replicate f.links.length 0)))) (by decide) ?_ ?_ ?_
  · (repeat' (first | exact all_mt | refine all_up ?_ ?_)) <;> first | exact .inl ⟨rfl, rfl⟩ | exact .inr ⟨rfl, fun _ h => by cases h⟩ | exact .inl ⟨rfl, by first | rfl | assumption | exact (intsC_pure _)⟩
  · (repeat' (first | exact all_mt | refine all_up ?_ ?_)) <;> first | exact ⟨rfl, _, rfl, .inr ⟨rfl, rfl⟩⟩ | exact ⟨rfl, _, rfl, .inl rfl⟩ | exact ⟨rfl, _, rfl, .inr ⟨rfl, by first | rfl | assumption | exact (intsC_pure _)⟩⟩
  refine W.loop_ind (α := Nat × List Int) (fun x => ls.length - x.1) 2 (fun x => up (up (up (up (up mt 2 (some (.own 0 0))) 6 (some (.osl 1 0 f.links.length 1))) 19 (some (.isl (ldsC ls) ls.length))) 20 (some (.base (.int .i64 (ls.length : Int))))) 21 (some (.base (.int .i64 (x.1 : Int))))) (fun x => up (up mt 0 (some (fabC f))) 1 (some (intsC x.2))) (fun x => x.1 ≤ ls.length ∧ x.2 = sumsK f ls x.1 ∧ SumOK f.links.length (8 * x.1) x.2 ∧ ∀ j, j < x.1 → gapB f ls j = false) (0, (List.replicate f.links.length 0)) (show 0 ≤ ls.length ∧ (List.replicate f.links.length 0) = sumsK f ls 0 ∧ SumOK f.links.length (8 * 0) (List.replicate f.links.length 0) ∧ ∀ j, j < 0 → gapB f ls j = false from ⟨Nat.zero_le _, rfl, SumOK.start _, fun j h => absurd h (Nat.not_lt_zero _)⟩) ?_
  rintro ⟨i, s⟩ hIA ihA
  try (dsimp only at hIA)
  try dsimp only
  obtain ⟨hi, hs, hso, hgap⟩ := hIA
  have hsl := hso.1
  by_cases hc : i < ls.length
  · have g1 : decide ((i : Int) < (ls.length : Int)) = true := decide_eq_true (by omega)
    have hr := hlr _ (List.getElem_mem hc)
    have hgi : gapB f ls i = (wayF f ls[i].a ls[i].b i).isNone := by unfold gapB; rw [List.getElem?_eq_getElem hc]
    repeat (refine W.seq ?_)
    refine W.region 23 24 (by decide) rfl rfl ?_
    refine RW.opd rfl rfl (LO.lss rfl rfl rfl) ?_
    refine RW.nil ?_
    repeat (refine W.seq ?_)
    refine W.cond_t rfl (by first | rfl | assumption) ?_
    refine W.skip ?_
    repeat (refine W.seq ?_)
    refine W.block ?_
    repeat (refine W.seq ?_)
    refine W.region 28 34 (by decide) rfl rfl ?_
    refine RW.opd rfl rfl (LO.move rfl rfl) ?_
    refine RW.opd rfl rfl (LO.indexAddr_isl rfl rfl rfl rfl rfl ty29 ty51 ?_) ?_; (· (first | omega | decide | assumption | fail | (simp; done) | (simp; omega)))
    refine RW.opd rfl rfl (LO.load_imm_agg rfl rfl ty51 rfl (lds_tk hc)) ?_
    refine RW.opd rfl rfl (LO.alloc rfl ty51) ?_
    refine RW.opd rfl rfl (LO.assign rfl rfl) ?_
    refine RW.opn rfl rfl (LO.store rfl rfl rfl rfl rfl ty51 rfl (by decide) (Sp.lit rfl)) ?_
    refine RW.nil ?_
    have hwi := hway ls[i].a ls[i].b i
    repeat (refine W.seq ?_)
    refine W.region 38 50 (by decide) rfl rfl ?_
    refine RW.opd rfl rfl (LO.load_agg rfl rfl rfl ty28 rfl (Tk.lit rfl)) ?_
    refine RW.opd rfl rfl (LO.fieldAddr rfl rfl ty51 rfl (by decide)) ?_
    refine RW.opd rfl rfl (LO.load rfl rfl rfl rfl ty3 rfl) ?_
    refine RW.opd rfl rfl (LO.fieldAddr rfl rfl ty51 rfl (by decide)) ?_
    refine RW.opd rfl rfl (LO.load rfl rfl rfl rfl ty3 rfl) ?_
    refine RW.opd rfl rfl (LO.move rfl rfl) ?_
    refine RW.opd rfl rfl (LO.call0 (fr := []) rfl rfl (hwi) fok48 (.cons rfl (.pure rfl) (.cons rfl (.pure rfl) (.cons rfl (.pure rfl) (.cons rfl (.pure rfl) .nil)))) rfl) ?_
    refine RW.opd rfl rfl (LO.move rfl rfl) ?_
    refine RW.opd rfl rfl (LO.extract rfl rfl rfl) ?_
    refine RW.opd rfl rfl (LO.extract rfl rfl rfl) ?_
    refine RW.opd rfl rfl (LO.assign rfl rfl) ?_
    refine RW.opd rfl rfl (LO.assign rfl rfl) ?_
    refine RW.nil ?_
    cases hw : wayF f ls[i].a ls[i].b i with
    | none =>
      repeat (refine W.seq ?_)
      refine W.region 54 56 (by decide) rfl rfl ?_
      refine RW.opd rfl rfl (LO.move rfl rfl) ?_
      refine RW.opd rfl rfl (LO.not rfl rfl) ?_
      refine RW.nil ?_
      repeat (refine W.seq ?_)
      refine W.cond_t rfl (by first | rfl | assumption) ?_
      repeat (refine W.seq ?_)
      refine W.region 60 63 (by decide) rfl rfl ?_
      refine RW.opd rfl rfl (LO.move rfl rfl) ?_
      refine RW.opd rfl rfl (LO.assign rfl rfl) ?_
      refine RW.opd rfl rfl (LO.assign rfl rfl) ?_
      refine RW.nil ?_
      repeat (refine W.seq ?_)
      refine W.ret ⟨.inl rfl, _, mt, RVs.cons (RV.tmp rfl) (RVs.cons (RV.tmp rfl) (RVs.nil)), all_mt, ?_⟩
      refine ⟨?_, rfl⟩
      unfold fitF
      rw [fnd_some hgap (by rw [hgi, hw]; rfl) hc]; rfl
    | some w =>
      have hw8 := wayF_len hf _ _ _ hw
      have hwin := wayF_in hw
      have hnx := sumsK_succ hc hw
      rw [← hs] at hnx
      have hlen : (Option.some w).getD [] = w := rfl
      repeat (refine W.seq ?_)
      refine W.region 54 56 (by decide) rfl rfl ?_
      refine RW.opd rfl rfl (LO.move rfl rfl) ?_
      refine RW.opd rfl rfl (LO.not rfl rfl) ?_
      refine RW.nil ?_
      repeat (refine W.seq ?_)
      refine W.cond_f rfl (by first | rfl | assumption) ?_
      refine W.skip ?_
      repeat (refine W.seq ?_)
      refine W.region 67 70 (by decide) rfl rfl ?_
      refine RW.opd rfl rfl (LO.move rfl rfl) ?_
      refine RW.opd rfl rfl (LO.len_isl rfl rfl rfl ty23) ?_
      refine RW.opd rfl rfl (LO.move rfl rfl) ?_
      refine RW.nil ?_
      repeat (refine W.seq ?_)
      refine W.block ?_
      refine W.rename [(0, 0), (1, 1), (2, 31)] 3 (T' := up (up (up (up (up (up (up (up (up mt 2 (some (.own 0 0))) 6 (some (.osl 1 0 f.links.length 1))) 8 (some (.own 2 0))) 19 (some (.isl (ldsC ls) ls.length))) 20 (some (.base (.int .i64 (ls.length : Int))))) 21 (some (.base (.int .i64 (i : Int))))) 39 (some (.isl (intsC w) w.length))) 40 (some (.base (.int .i64 (w.length : Int))))) 41 (some (.base (.int .i64 (0 : Int))))) (H' := up (up (up mt 0 (some (fabC f))) 1 (some (intsC s))) 2 (some (ldC ls[i]))) (by decide) ?_ ?_ ?_
      · (repeat' (first | exact all_mt | refine all_up ?_ ?_)) <;> first | exact .inl ⟨rfl, rfl⟩ | exact .inr ⟨rfl, fun _ h => by cases h⟩ | exact .inl ⟨rfl, by first | rfl | assumption | exact (intsC_pure _)⟩
      · (repeat' (first | exact all_mt | refine all_up ?_ ?_)) <;> first | exact ⟨rfl, _, rfl, .inr ⟨rfl, rfl⟩⟩ | exact ⟨rfl, _, rfl, .inl rfl⟩ | exact ⟨rfl, _, rfl, .inr ⟨rfl, by first | rfl | assumption | exact (intsC_pure _)⟩⟩
      refine W.loop_ind (α := Nat × List Int) (fun x => w.length - x.1) 3 (fun x => up (up (up (up (up (up (up (up (up mt 2 (some (.own 0 0))) 6 (some (.osl 1 0 f.links.length 1))) 8 (some (.own 2 0))) 19 (some (.isl (ldsC ls) ls.length))) 20 (some (.base (.int .i64 (ls.length : Int))))) 21 (some (.base (.int .i64 (i : Int))))) 39 (some (.isl (intsC w) w.length))) 40 (some (.base (.int .i64 (w.length : Int))))) 41 (some (.base (.int .i64 (x.1 : Int))))) (fun x => up (up (up mt 0 (some (fabC f))) 1 (some (intsC x.2))) 2 (some (ldC ls[i]))) (fun x => x.1 ≤ w.length ∧ x.2 = addW s (w.take x.1) ls[i].r ∧ SumOK f.links.length (8 * i + x.1) x.2) (0, s) (show 0 ≤ w.length ∧ s = addW s (w.take 0) ls[i].r ∧ SumOK f.links.length (8 * i + 0) s from ⟨Nat.zero_le _, rfl, hso.mono (by omega)⟩) ?_
      rintro ⟨j, s2⟩ hIB ihB
      try (dsimp only at hIB)
      try dsimp only
      obtain ⟨hj, hs2, hso2⟩ := hIB
      have hsl2 := hso2.1
      by_cases hc2 : j < w.length
      · have g2 : decide ((j : Int) < (w.length : Int)) = true := decide_eq_true (by omega)
        obtain ⟨k, hk, hk1, _⟩ := hwin _ (List.getElem_mem hc2)
        have hadd := hso2.add (k := w[j]) (r := ls[i].r) (by rw [hk]; omega) hr.1 hr.2 (by omega)
        have hsn := addW_snoc s w ls[i].r hc2
        rw [← hs2] at hsn
        have hg2 := ew_at hc2
        obtain ⟨b1, b2, b3⟩ := hso2.2 w[j]
        rw [hk] at hadd hsn hg2 b2 b3
        have b2 := b2 (by omega)
        repeat (refine W.seq ?_)
        refine W.region 74 75 (by decide) rfl rfl ?_
        refine RW.opd rfl rfl (LO.lss rfl rfl rfl) ?_
        refine RW.nil ?_
        repeat (refine W.seq ?_)
        refine W.cond_t rfl (by first | rfl | assumption) ?_
        refine W.skip ?_
        repeat (refine W.seq ?_)
        refine W.block ?_
        repeat (refine W.seq ?_)
        refine W.region 79 82 (by decide) rfl rfl ?_
        refine RW.opd rfl rfl (LO.indexAddr_isl rfl rfl rfl rfl rfl ty23 ty3 ?_) ?_; (· (first | omega | decide | assumption | fail | (simp; done) | (simp; omega)))
        refine RW.opd rfl rfl (LO.load_imm rfl rfl hg2 ty3 rfl) ?_
        refine RW.opd rfl rfl (LO.assign rfl rfl) ?_
        refine RW.nil ?_
        repeat (refine W.seq ?_)
        refine W.regionD 86 95 (by decide) rfl mixed rfl ?_
        refine RW.opd rfl rfl (LO.move rfl rfl) ?_
        refine RW.opd rfl rfl (LO.move rfl rfl) ?_
        refine RW.opd rfl rfl (LO.indexAddr rfl rfl rfl rfl ty23 ty3 ?_) ?_; (· (first | omega | decide | assumption | fail | (simp; done) | (simp; omega)))
        refine RW.opd rfl rfl (LO.load rfl rfl rfl (ni_at (k := k) (by omega)) ty3 rfl) ?_
        refine RW.opd rfl rfl (LO.fieldAddr rfl rfl ty51 rfl (by decide)) ?_
        refine RW.opd rfl rfl (LO.load rfl rfl rfl rfl ty3 rfl) ?_
        refine RW.opd rfl rfl (LO.add_in rfl rfl rfl ?_) ?_; (· (first | exact IntWalk.i64_in _ (by omega) | assumption))
        refine RW.opd rfl rfl (LO.indexAddr rfl rfl rfl rfl ty23 ty3 ?_) ?_; (· (first | omega | decide | assumption | fail | (simp; done) | (simp; omega)))
        refine RW.opn rfl rfl (LO.store rfl rfl rfl rfl rfl ty3 rfl (by decide) (ns_at (k := k) (by omega))) ?_
        refine RW.nil ⟨by kernel_rfl, ?_⟩
        repeat (refine W.seq ?_)
        refine W.region 99 101 (by decide) rfl rfl ?_
        refine RW.opd rfl rfl (LO.add_in rfl rfl rfl ?_) ?_; (· (first | exact IntWalk.i64_in _ (by omega) | assumption))
        refine RW.opd rfl rfl (LO.move rfl rfl) ?_
        refine RW.nil ?_
        refine WL.rename [(0, 0), (1, 1), (2, 2)] 3 (by decide) ?_ ?_ (ihB ((j + 1), (s2.set k (gI s2 k + ls[i].r))) (show w.length - (j + 1) < w.length - j from by omega) (show (j + 1) ≤ w.length ∧ (s2.set k (gI s2 k + ls[i].r)) = addW s (w.take (j + 1)) ls[i].r ∧ SumOK f.links.length (8 * i + (j + 1)) (s2.set k (gI s2 k + ls[i].r)) from ⟨by omega, by rw [hsn, sI_nat], by rw [sI_nat] at hadd; exact hadd.mono (by omega)⟩))
        · (repeat' (first | exact all_mt | refine all_up ?_ ?_)) <;> first | exact .inl ⟨rfl, rfl⟩ | exact .inr ⟨rfl, fun _ h => by cases h⟩ | exact .inl ⟨rfl, by first | rfl | assumption | exact (intsC_pure _)⟩
        · (repeat' (first | exact all_mt | refine all_up ?_ ?_)) <;> first | exact ⟨rfl, _, rfl, .inr ⟨rfl, rfl⟩⟩ | exact ⟨rfl, _, rfl, .inl rfl⟩ | exact ⟨rfl, _, rfl, .inr ⟨rfl, by first | rfl | assumption | exact (intsC_pure _)⟩⟩
      · have g2 : decide ((j : Int) < (w.length : Int)) = false := decide_eq_false (by omega)
        obtain rfl : j = w.length := by omega
        rw [List.take_length] at hs2
        repeat (refine W.seq ?_)
        refine W.region 74 75 (by decide) rfl rfl ?_
        refine RW.opd rfl rfl (LO.lss rfl rfl rfl) ?_
        refine RW.nil ?_
        repeat (refine W.seq ?_)
        refine W.cond_f rfl (by first | rfl | assumption) ?_
        refine W.exit ?_
        repeat (refine W.seq ?_)
        refine W.region 105 107 (by decide) rfl rfl ?_
        refine RW.opd rfl rfl (LO.add_in rfl rfl rfl ?_) ?_; (· (first | exact IntWalk.i64_in _ (by omega) | assumption))
        refine RW.opd rfl rfl (LO.move rfl rfl) ?_
        refine RW.nil ?_
        refine WL.rename [(0, 0), (1, 1)] 2 (by decide) ?_ ?_ (ihA ((i + 1), s2) (show ls.length - (i + 1) < ls.length - i from by omega) (show (i + 1) ≤ ls.length ∧ s2 = sumsK f ls (i + 1) ∧ SumOK f.links.length (8 * (i + 1)) s2 ∧ ∀ j, j < (i + 1) → gapB f ls j = false from ⟨by omega, by rw [hnx, hs2], hso2.mono (by omega), fun q hq => (Nat.lt_or_ge q i).elim (hgap q) fun e => (by rw [show q = i by omega, hgi, hw]; rfl)⟩))
        · (repeat' (first | exact all_mt | refine all_up ?_ ?_)) <;> first | exact .inl ⟨rfl, rfl⟩ | exact .inr ⟨rfl, fun _ h => by cases h⟩ | exact .inl ⟨rfl, by first | rfl | assumption | exact (intsC_pure _)⟩
        · (repeat' (first | exact all_mt | refine all_up ?_ ?_)) <;> first | exact ⟨rfl, _, rfl, .inr ⟨rfl, rfl⟩⟩ | exact ⟨rfl, _, rfl, .inl rfl⟩ | exact ⟨rfl, _, rfl, .inr ⟨rfl, by first | rfl | assumption | exact (intsC_pure _)⟩⟩
  · have g1 : decide ((i : Int) < (ls.length : Int)) = false := decide_eq_false (by omega)
    obtain rfl : i = ls.length := by omega
    have hfn := fnd_none hgap
    have hfit : fitF f ls = match fnd (overB f ls) f.links.length with
      | some k => ((k : Int), 41)
      | none => (0, 0) := by unfold fitF; rw [hfn]
    repeat (refine W.seq ?_)
    refine W.region 23 24 (by decide) rfl rfl ?_
    refine RW.opd rfl rfl (LO.lss rfl rfl rfl) ?_
    refine RW.nil ?_
    repeat (refine W.seq ?_)
    refine W.cond_f rfl (by first | rfl | assumption) ?_
    refine W.exit ?_
    repeat (refine W.seq ?_)
    refine W.region 111 114 (by decide) rfl rfl ?_
    refine RW.opd rfl rfl (LO.move rfl rfl) ?_
    refine RW.opd rfl rfl (LO.len rfl rfl ty23) ?_
    refine RW.opd rfl rfl (LO.move rfl rfl) ?_
    refine RW.nil ?_
    repeat (refine W.seq ?_)
    refine W.block ?_
    refine W.rename [(0, 0), (1, 1)] 2 (T' := up (up (up (up mt 2 (some (.own 0 0))) 55 (some (.osl 1 0 f.links.length 1))) 56 (some (.base (.int .i64 (f.links.length : Int))))) 57 (some (.base (.int .i64 (0 : Int))))) (H' := up (up mt 0 (some (fabC f))) 1 (some (intsC s))) (by decide) ?_ ?_ ?_
    · (repeat' (first | exact all_mt | refine all_up ?_ ?_)) <;> first | exact .inl ⟨rfl, rfl⟩ | exact .inr ⟨rfl, fun _ h => by cases h⟩ | exact .inl ⟨rfl, by first | rfl | assumption | exact (intsC_pure _)⟩
    · (repeat' (first | exact all_mt | refine all_up ?_ ?_)) <;> first | exact ⟨rfl, _, rfl, .inr ⟨rfl, rfl⟩⟩ | exact ⟨rfl, _, rfl, .inl rfl⟩ | exact ⟨rfl, _, rfl, .inr ⟨rfl, by first | rfl | assumption | exact (intsC_pure _)⟩⟩
    refine W.loop_ind (α := Nat) (fun x => f.links.length - x) 2 (fun x => up (up (up (up mt 2 (some (.own 0 0))) 55 (some (.osl 1 0 f.links.length 1))) 56 (some (.base (.int .i64 (f.links.length : Int))))) 57 (some (.base (.int .i64 (x : Int))))) (fun x => up (up mt 0 (some (fabC f))) 1 (some (intsC s))) (fun x => x ≤ f.links.length ∧ ∀ j, j < x → overB f ls j = false) 0 (show 0 ≤ f.links.length ∧ ∀ j, j < 0 → overB f ls j = false from ⟨Nat.zero_le _, fun j h => absurd h (Nat.not_lt_zero _)⟩) ?_
    rintro k hIC ihC
    try (dsimp only at hIC)
    try dsimp only
    obtain ⟨hk, hov⟩ := hIC
    by_cases hck : k < f.links.length
    · have g2 : decide ((k : Int) < (f.links.length : Int)) = true := decide_eq_true (by omega)
      have hcp := hcap _ (List.getElem_mem hck)
      have hgk : overB f ls k = decide (gI s k > 1000 * f.links[k].c) := by unfold overB; rw [List.getElem?_eq_getElem hck, hs]
      repeat (refine W.seq ?_)
      refine W.region 118 119 (by decide) rfl rfl ?_
      refine RW.opd rfl rfl (LO.lss rfl rfl rfl) ?_
      refine RW.nil ?_
      repeat (refine W.seq ?_)
      refine W.cond_t rfl (by first | rfl | assumption) ?_
      refine W.skip ?_
      repeat (refine W.seq ?_)
      refine W.block ?_
      repeat (refine W.seq ?_)
      refine W.region 123 128 (by decide) rfl rfl ?_
      refine RW.opd rfl rfl (LO.move rfl rfl) ?_
      refine RW.opd rfl rfl (LO.indexAddr rfl rfl rfl rfl ty23 ty3 ?_) ?_; (· (first | omega | decide | assumption | fail | (simp; done) | (simp; omega)))
      refine RW.opd rfl rfl (LO.load rfl rfl rfl (ni_at (k := k) (by omega)) ty3 rfl) ?_
      refine RW.opd rfl rfl (LO.assign rfl rfl) ?_
      refine RW.opd rfl rfl (LO.assign rfl rfl) ?_
      refine RW.nil ?_
      by_cases e : gI s k > 1000 * f.links[k].c
      · have he : decide (gI s k > 1000 * f.links[k].c) = true := decide_eq_true e
        repeat (refine W.seq ?_)
        refine W.region 132 141 (by decide) rfl rfl ?_
        refine RW.opd rfl rfl (LO.move rfl rfl) ?_
        refine RW.opd rfl rfl (LO.fieldAddr rfl rfl ty28 rfl (by decide)) ?_
        refine RW.opd rfl rfl (LO.load rfl rfl rfl rfl ty25 rfl) ?_
        refine RW.opd rfl rfl (LO.move rfl rfl) ?_
        refine RW.opd rfl rfl (LO.indexAddr_isl rfl rfl rfl rfl rfl ty25 ty56 ?_) ?_; (· (first | omega | decide | assumption | fail | (simp; done) | (simp; omega)))
        refine RW.opd rfl rfl (LO.fieldAddr_imm rfl rfl ty56 rfl (by decide)) ?_
        refine RW.opd rfl rfl (LO.load_imm rfl rfl (lnksC_at hck).2.2 ty3 rfl) ?_
        refine RW.opd rfl rfl (LO.mul_in rfl rfl rfl ?_) ?_; (· (first | exact IntWalk.i64_in _ (by omega) | assumption))
        refine RW.opd rfl rfl (LO.gtr rfl rfl rfl) ?_
        refine RW.nil ?_
        repeat (refine W.seq ?_)
        refine W.cond_t rfl (by first | rfl | assumption) ?_
        repeat (refine W.seq ?_)
        refine W.region 145 148 (by decide) rfl rfl ?_
        refine RW.opd rfl rfl (LO.move rfl rfl) ?_
        refine RW.opd rfl rfl (LO.assign rfl rfl) ?_
        refine RW.opd rfl rfl (LO.assign rfl rfl) ?_
        refine RW.nil ?_
        repeat (refine W.seq ?_)
        refine W.ret ⟨.inl rfl, _, mt, RVs.cons (RV.tmp rfl) (RVs.cons (RV.tmp rfl) (RVs.nil)), all_mt, ?_⟩
        exact ⟨by rw [hfit, fnd_some hov (by rw [hgk, he]) hck]; rfl, rfl⟩
      · have he : decide (gI s k > 1000 * f.links[k].c) = false := decide_eq_false e
        repeat (refine W.seq ?_)
        refine W.region 132 141 (by decide) rfl rfl ?_
        refine RW.opd rfl rfl (LO.move rfl rfl) ?_
        refine RW.opd rfl rfl (LO.fieldAddr rfl rfl ty28 rfl (by decide)) ?_
        refine RW.opd rfl rfl (LO.load rfl rfl rfl rfl ty25 rfl) ?_
        refine RW.opd rfl rfl (LO.move rfl rfl) ?_
        refine RW.opd rfl rfl (LO.indexAddr_isl rfl rfl rfl rfl rfl ty25 ty56 ?_) ?_; (· (first | omega | decide | assumption | fail | (simp; done) | (simp; omega)))
        refine RW.opd rfl rfl (LO.fieldAddr_imm rfl rfl ty56 rfl (by decide)) ?_
        refine RW.opd rfl rfl (LO.load_imm rfl rfl (lnksC_at hck).2.2 ty3 rfl) ?_
        refine RW.opd rfl rfl (LO.mul_in rfl rfl rfl ?_) ?_; (· (first | exact IntWalk.i64_in _ (by omega) | assumption))
        refine RW.opd rfl rfl (LO.gtr rfl rfl rfl) ?_
        refine RW.nil ?_
        repeat (refine W.seq ?_)
        refine W.cond_f rfl (by first | rfl | assumption) ?_
        refine W.skip ?_
        repeat (refine W.seq ?_)
        refine W.region 152 154 (by decide) rfl rfl ?_
        refine RW.opd rfl rfl (LO.add_in rfl rfl rfl ?_) ?_; (· (first | exact IntWalk.i64_in _ (by omega) | assumption))
        refine RW.opd rfl rfl (LO.move rfl rfl) ?_
        refine RW.nil ?_
        refine WL.rename [(0, 0), (1, 1)] 2 (by decide) ?_ ?_ (ihC (k + 1) (show f.links.length - (k + 1) < f.links.length - k from by omega) (show (k + 1) ≤ f.links.length ∧ ∀ j, j < (k + 1) → overB f ls j = false from ⟨by omega, fun q hq => (Nat.lt_or_ge q k).elim (hov q) fun h => (by rw [show q = k by omega, hgk, he])⟩))
        · (repeat' (first | exact all_mt | refine all_up ?_ ?_)) <;> first | exact .inl ⟨rfl, rfl⟩ | exact .inr ⟨rfl, fun _ h => by cases h⟩ | exact .inl ⟨rfl, by first | rfl | assumption | exact (intsC_pure _)⟩
        · (repeat' (first | exact all_mt | refine all_up ?_ ?_)) <;> first | exact ⟨rfl, _, rfl, .inr ⟨rfl, rfl⟩⟩ | exact ⟨rfl, _, rfl, .inl rfl⟩ | exact ⟨rfl, _, rfl, .inr ⟨rfl, by first | rfl | assumption | exact (intsC_pure _)⟩⟩
    · have g2 : decide ((k : Int) < (f.links.length : Int)) = false := decide_eq_false (by omega)
      obtain rfl : k = f.links.length := by omega
      repeat (refine W.seq ?_)
      refine W.region 118 119 (by decide) rfl rfl ?_
      refine RW.opd rfl rfl (LO.lss rfl rfl rfl) ?_
      refine RW.nil ?_
      repeat (refine W.seq ?_)
      refine W.cond_f rfl (by first | rfl | assumption) ?_
      refine W.exit ?_
      repeat (refine W.seq ?_)
      refine W.region 158 160 (by decide) rfl rfl ?_
      refine RW.opd rfl rfl (LO.assign rfl rfl) ?_
      refine RW.opd rfl rfl (LO.assign rfl rfl) ?_
      refine RW.nil ?_
      repeat (refine W.seq ?_)
      refine W.ret ⟨.inl rfl, _, mt, RVs.cons (RV.tmp rfl) (RVs.cons (RV.tmp rfl) (RVs.nil)), all_mt, ?_⟩
      exact ⟨by rw [hfit, fnd_none hov]; rfl, rfl⟩
set_option maxHeartbeats 1000000 in
theorem fit_any (f : Fab) (ls : List Ld) (hf : FabS f) (he : EndsIn f) (hl : LdOK ls) (hcap : CapOK f) : AFn Tryd.prog 36 0 [.agg (fabC f), .isl (ldsC ls) ls.length] mt (fitV (fitF f ls)) mt := by
  refine AFn.eq Tryd.func36 rfl rfl (Nat.le_of_ble_eq_true rfl) ?_
  have hway := wayX_any f hf he
  obtain ⟨hl16, hlr⟩ := hl
  have h24 := hf.nl
  repeat (refine W.seq ?_)
  refine W.region 0 3 (by decide) rfl rfl ?_
  refine RW.opd rfl rfl (LO.box rfl rfl rfl) ?_
  refine RW.opd rfl rfl (LO.assign rfl rfl) ?_
  refine RW.opd rfl rfl (LO.assign rfl rfl) ?_
  refine RW.nil ?_
  repeat (refine W.seq ?_)
  refine W.region 7 12 (by decide) rfl rfl ?_
  refine RW.opd rfl rfl (LO.fieldAddr rfl rfl ty28 rfl (by decide)) ?_
  refine RW.opd rfl rfl (LO.load rfl rfl rfl rfl ty25 rfl) ?_
  refine RW.opd rfl rfl (LO.len_isl rfl rfl rfl ty25) ?_
  refine RW.opd rfl rfl (LO.makeSlice rfl rfl rfl rfl rfl ty23 ty3 (by decide) ?_ ?_ ?_) ?_; (· (first | omega | decide | assumption | fail | (simp; done) | (simp; omega))); (· (first | omega | decide | assumption | fail | (simp; done) | (simp; omega))); (· (first | omega | decide | assumption | fail | (simp; done) | (simp; omega)))
  refine RW.opd rfl rfl (LO.assign rfl rfl) ?_
  refine RW.nil ?_
  rw [zeros_ints]
  repeat (refine W.seq ?_)
  refine W.region 16 19 (by decide) rfl rfl ?_
  refine RW.opd rfl rfl (LO.move rfl rfl) ?_
  refine RW.opd rfl rfl (LO.len_isl rfl rfl rfl ty29) ?_
  refine RW.opd rfl rfl (LO.move rfl rfl) ?_
  refine RW.nil ?_
  repeat (refine W.seq ?_)
  refine W.block ?_
  refine W.rename [(0, 0), (1, 10)] 2 (T' := up (up (up (up (up mt 2 (some (.own 0 0))) 6 (some (.osl 1 0 f.links.length 1))) 19 (some (.isl (ldsC ls) ls.length))) 20 (some (.base (.int .i64 (ls.length : Int))))) 21 (some (.base (.int .i64 (0 : Int))))) (H' := up (up mt 0 (some (fabC f))) 1 (some (intsC (List.replicate f.links.length 0)))) (by decide) ?_ ?_ ?_
  · (repeat' (first | exact all_mt | refine all_up ?_ ?_)) <;> first | exact .inl ⟨rfl, rfl⟩ | exact .inr ⟨rfl, fun _ h => by cases h⟩ | exact .inl ⟨rfl, by first | rfl | assumption | exact (intsC_pure _)⟩
  · (repeat' (first | exact all_mt | refine all_up ?_ ?_)) <;> first | exact ⟨rfl, _, rfl, .inr ⟨rfl, rfl⟩⟩ | exact ⟨rfl, _, rfl, .inl rfl⟩ | exact ⟨rfl, _, rfl, .inr ⟨rfl, by first | rfl | assumption | exact (intsC_pure _)⟩⟩
  refine W.loop_ind (α := Nat × List Int) (fun x => ls.length - x.1) 2 (fun x => up (up (up (up (up mt 2 (some (.own 0 0))) 6 (some (.osl 1 0 f.links.length 1))) 19 (some (.isl (ldsC ls) ls.length))) 20 (some (.base (.int .i64 (ls.length : Int))))) 21 (some (.base (.int .i64 (x.1 : Int))))) (fun x => up (up mt 0 (some (fabC f))) 1 (some (intsC x.2))) (fun x => x.1 ≤ ls.length ∧ x.2 = sumsK f ls x.1 ∧ SumOK f.links.length (8 * x.1) x.2 ∧ ∀ j, j < x.1 → gapB f ls j = false) (0, (List.replicate f.links.length 0)) (show 0 ≤ ls.length ∧ (List.replicate f.links.length 0) = sumsK f ls 0 ∧ SumOK f.links.length (8 * 0) (List.replicate f.links.length 0) ∧ ∀ j, j < 0 → gapB f ls j = false from ⟨Nat.zero_le _, rfl, SumOK.start _, fun j h => absurd h (Nat.not_lt_zero _)⟩) ?_
  rintro ⟨i, s⟩ hIA ihA
  try (dsimp only at hIA)
  try dsimp only
  obtain ⟨hi, hs, hso, hgap⟩ := hIA
  have hsl := hso.1
  by_cases hc : i < ls.length
  · have g1 : decide ((i : Int) < (ls.length : Int)) = true := decide_eq_true (by omega)
    have hr := hlr _ (List.getElem_mem hc)
    have hgi : gapB f ls i = (wayF f ls[i].a ls[i].b i).isNone := by unfold gapB; rw [List.getElem?_eq_getElem hc]
    repeat (refine W.seq ?_)
    refine W.region 23 24 (by decide) rfl rfl ?_
    refine RW.opd rfl rfl (LO.lss rfl rfl rfl) ?_
    refine RW.nil ?_
    repeat (refine W.seq ?_)
    refine W.cond_t rfl (by first | rfl | assumption) ?_
    refine W.skip ?_
    repeat (refine W.seq ?_)
    refine W.block ?_
    repeat (refine W.seq ?_)
    refine W.region 28 34 (by decide) rfl rfl ?_
    refine RW.opd rfl rfl (LO.move rfl rfl) ?_
    refine RW.opd rfl rfl (LO.indexAddr_isl rfl rfl rfl rfl rfl ty29 ty51 ?_) ?_; (· (first | omega | decide | assumption | fail | (simp; done) | (simp; omega)))
    refine RW.opd rfl rfl (LO.load_imm_agg rfl rfl ty51 rfl (lds_tk hc)) ?_
    refine RW.opd rfl rfl (LO.alloc rfl ty51) ?_
    refine RW.opd rfl rfl (LO.assign rfl rfl) ?_
    refine RW.opn rfl rfl (LO.store rfl rfl rfl rfl rfl ty51 rfl (by decide) (Sp.lit rfl)) ?_
    refine RW.nil ?_
    have hwi := hway ls[i].a ls[i].b i
    repeat (refine W.seq ?_)
    refine W.region 38 50 (by decide) rfl rfl ?_
    refine RW.opd rfl rfl (LO.load_agg rfl rfl rfl ty28 rfl (Tk.lit rfl)) ?_
    refine RW.opd rfl rfl (LO.fieldAddr rfl rfl ty51 rfl (by decide)) ?_
    refine RW.opd rfl rfl (LO.load rfl rfl rfl rfl ty3 rfl) ?_
    refine RW.opd rfl rfl (LO.fieldAddr rfl rfl ty51 rfl (by decide)) ?_
    refine RW.opd rfl rfl (LO.load rfl rfl rfl rfl ty3 rfl) ?_
    refine RW.opd rfl rfl (LO.move rfl rfl) ?_
    refine RW.opd rfl rfl (LO.call0 (fr := []) rfl rfl (hwi) fok20 (.cons rfl (.pure rfl) (.cons rfl (.pure rfl) (.cons rfl (.pure rfl) (.cons rfl (.pure rfl) .nil)))) rfl) ?_
    refine RW.opd rfl rfl (LO.move rfl rfl) ?_
    refine RW.opd rfl rfl (LO.extract rfl rfl rfl) ?_
    refine RW.opd rfl rfl (LO.extract rfl rfl rfl) ?_
    refine RW.opd rfl rfl (LO.assign rfl rfl) ?_
    refine RW.opd rfl rfl (LO.assign rfl rfl) ?_
    refine RW.nil ?_
    cases hw : wayF f ls[i].a ls[i].b i with
    | none =>
      repeat (refine W.seq ?_)
      refine W.region 54 56 (by decide) rfl rfl ?_
      refine RW.opd rfl rfl (LO.move rfl rfl) ?_
      refine RW.opd rfl rfl (LO.not rfl rfl) ?_
      refine RW.nil ?_
      repeat (refine W.seq ?_)
      refine W.cond_t rfl (by first | rfl | assumption) ?_
      repeat (refine W.seq ?_)
      refine W.region 60 63 (by decide) rfl rfl ?_
      refine RW.opd rfl rfl (LO.move rfl rfl) ?_
      refine RW.opd rfl rfl (LO.assign rfl rfl) ?_
      refine RW.opd rfl rfl (LO.assign rfl rfl) ?_
      refine RW.nil ?_
      repeat (refine W.seq ?_)
      refine W.ret ⟨.inl rfl, _, mt, RVs.cons (RV.tmp rfl) (RVs.cons (RV.tmp rfl) (RVs.nil)), all_mt, ?_⟩
      refine ⟨?_, rfl⟩
      unfold fitF
      rw [fnd_some hgap (by rw [hgi, hw]; rfl) hc]; rfl
    | some w =>
      have hw8 := wayF_len hf _ _ _ hw
      have hwin := wayF_in hw
      have hnx := sumsK_succ hc hw
      rw [← hs] at hnx
      have hlen : (Option.some w).getD [] = w := rfl
      repeat (refine W.seq ?_)
      refine W.region 54 56 (by decide) rfl rfl ?_
      refine RW.opd rfl rfl (LO.move rfl rfl) ?_
      refine RW.opd rfl rfl (LO.not rfl rfl) ?_
      refine RW.nil ?_
      repeat (refine W.seq ?_)
      refine W.cond_f rfl (by first | rfl | assumption) ?_
      refine W.skip ?_
      repeat (refine W.seq ?_)
      refine W.region 67 70 (by decide) rfl rfl ?_
      refine RW.opd rfl rfl (LO.move rfl rfl) ?_
      refine RW.opd rfl rfl (LO.len_isl rfl rfl rfl ty23) ?_
      refine RW.opd rfl rfl (LO.move rfl rfl) ?_
      refine RW.nil ?_
      repeat (refine W.seq ?_)
      refine W.block ?_
      refine W.rename [(0, 0), (1, 1), (2, 31)] 3 (T' := up (up (up (up (up (up (up (up (up mt 2 (some (.own 0 0))) 6 (some (.osl 1 0 f.links.length 1))) 8 (some (.own 2 0))) 19 (some (.isl (ldsC ls) ls.length))) 20 (some (.base (.int .i64 (ls.length : Int))))) 21 (some (.base (.int .i64 (i : Int))))) 39 (some (.isl (intsC w) w.length))) 40 (some (.base (.int .i64 (w.length : Int))))) 41 (some (.base (.int .i64 (0 : Int))))) (H' := up (up (up mt 0 (some (fabC f))) 1 (some (intsC s))) 2 (some (ldC ls[i]))) (by decide) ?_ ?_ ?_
      · (repeat' (first | exact all_mt | refine all_up ?_ ?_)) <;> first | exact .inl ⟨rfl, rfl⟩ | exact .inr ⟨rfl, fun _ h => by cases h⟩ | exact .inl ⟨rfl, by first | rfl | assumption | exact (intsC_pure _)⟩
      · (repeat' (first | exact all_mt | refine all_up ?_ ?_)) <;> first | exact ⟨rfl, _, rfl, .inr ⟨rfl, rfl⟩⟩ | exact ⟨rfl, _, rfl, .inl rfl⟩ | exact ⟨rfl, _, rfl, .inr ⟨rfl, by first | rfl | assumption | exact (intsC_pure _)⟩⟩
      refine W.loop_ind (α := Nat × List Int) (fun x => w.length - x.1) 3 (fun x => up (up (up (up (up (up (up (up (up mt 2 (some (.own 0 0))) 6 (some (.osl 1 0 f.links.length 1))) 8 (some (.own 2 0))) 19 (some (.isl (ldsC ls) ls.length))) 20 (some (.base (.int .i64 (ls.length : Int))))) 21 (some (.base (.int .i64 (i : Int))))) 39 (some (.isl (intsC w) w.length))) 40 (some (.base (.int .i64 (w.length : Int))))) 41 (some (.base (.int .i64 (x.1 : Int))))) (fun x => up (up (up mt 0 (some (fabC f))) 1 (some (intsC x.2))) 2 (some (ldC ls[i]))) (fun x => x.1 ≤ w.length ∧ x.2 = addW s (w.take x.1) ls[i].r ∧ SumOK f.links.length (8 * i + x.1) x.2) (0, s) (show 0 ≤ w.length ∧ s = addW s (w.take 0) ls[i].r ∧ SumOK f.links.length (8 * i + 0) s from ⟨Nat.zero_le _, rfl, hso.mono (by omega)⟩) ?_
      rintro ⟨j, s2⟩ hIB ihB
      try (dsimp only at hIB)
      try dsimp only
      obtain ⟨hj, hs2, hso2⟩ := hIB
      have hsl2 := hso2.1
      by_cases hc2 : j < w.length
      · have g2 : decide ((j : Int) < (w.length : Int)) = true := decide_eq_true (by omega)
        obtain ⟨k, hk, hk1, _⟩ := hwin _ (List.getElem_mem hc2)
        have hadd := hso2.add (k := w[j]) (r := ls[i].r) (by rw [hk]; omega) hr.1 hr.2 (by omega)
        have hsn := addW_snoc s w ls[i].r hc2
        rw [← hs2] at hsn
        have hg2 := ew_at hc2
        obtain ⟨b1, b2, b3⟩ := hso2.2 w[j]
        rw [hk] at hadd hsn hg2 b2 b3
        have b2 := b2 (by omega)
        repeat (refine W.seq ?_)
        refine W.region 74 75 (by decide) rfl rfl ?_
        refine RW.opd rfl rfl (LO.lss rfl rfl rfl) ?_
        refine RW.nil ?_
        repeat (refine W.seq ?_)
        refine W.cond_t rfl (by first | rfl | assumption) ?_
        refine W.skip ?_
        repeat (refine W.seq ?_)
        refine W.block ?_
        repeat (refine W.seq ?_)
        refine W.region 79 82 (by decide) rfl rfl ?_
        refine RW.opd rfl rfl (LO.indexAddr_isl rfl rfl rfl rfl rfl ty23 ty3 ?_) ?_; (· (first | omega | decide | assumption | fail | (simp; done) | (simp; omega)))
        refine RW.opd rfl rfl (LO.load_imm rfl rfl hg2 ty3 rfl) ?_
        refine RW.opd rfl rfl (LO.assign rfl rfl) ?_
        refine RW.nil ?_
        repeat (refine W.seq ?_)
        refine W.regionD 86 95 (by decide) rfl mixed rfl ?_
        refine RW.opd rfl rfl (LO.move rfl rfl) ?_
        refine RW.opd rfl rfl (LO.move rfl rfl) ?_
        refine RW.opd rfl rfl (LO.indexAddr rfl rfl rfl rfl ty23 ty3 ?_) ?_; (· (first | omega | decide | assumption | fail | (simp; done) | (simp; omega)))
        refine RW.opd rfl rfl (LO.load rfl rfl rfl (ni_at (k := k) (by omega)) ty3 rfl) ?_
        refine RW.opd rfl rfl (LO.fieldAddr rfl rfl ty51 rfl (by decide)) ?_
        refine RW.opd rfl rfl (LO.load rfl rfl rfl rfl ty3 rfl) ?_
        refine RW.opd rfl rfl (LO.add_in rfl rfl rfl ?_) ?_; (· (first | exact IntWalk.i64_in _ (by omega) | assumption))
        refine RW.opd rfl rfl (LO.indexAddr rfl rfl rfl rfl ty23 ty3 ?_) ?_; (· (first | omega | decide | assumption | fail | (simp; done) | (simp; omega)))
        refine RW.opn rfl rfl (LO.store rfl rfl rfl rfl rfl ty3 rfl (by decide) (ns_at (k := k) (by omega))) ?_
        refine RW.nil ⟨by kernel_rfl, ?_⟩
        repeat (refine W.seq ?_)
        refine W.region 99 101 (by decide) rfl rfl ?_
        refine RW.opd rfl rfl (LO.add_in rfl rfl rfl ?_) ?_; (· (first | exact IntWalk.i64_in _ (by omega) | assumption))
        refine RW.opd rfl rfl (LO.move rfl rfl) ?_
        refine RW.nil ?_
        refine WL.rename [(0, 0), (1, 1), (2, 2)] 3 (by decide) ?_ ?_ (ihB ((j + 1), (s2.set k (gI s2 k + ls[i].r))) (show w.length - (j + 1) < w.length - j from by omega) (show (j + 1) ≤ w.length ∧ (s2.set k (gI s2 k + ls[i].r)) = addW s (w.take (j + 1)) ls[i].r ∧ SumOK f.links.length (8 * i + (j + 1)) (s2.set k (gI s2 k + ls[i].r)) from ⟨by omega, by rw [hsn, sI_nat], by rw [sI_nat] at hadd; exact hadd.mono (by omega)⟩))
        · (repeat' (first | exact all_mt | refine all_up ?_ ?_)) <;> first | exact .inl ⟨rfl, rfl⟩ | exact .inr ⟨rfl, fun _ h => by cases h⟩ | exact .inl ⟨rfl, by first | rfl | assumption | exact (intsC_pure _)⟩
        · (repeat' (first | exact all_mt | refine all_up ?_ ?_)) <;> first | exact ⟨rfl, _, rfl, .inr ⟨rfl, rfl⟩⟩ | exact ⟨rfl, _, rfl, .inl rfl⟩ | exact ⟨rfl, _, rfl, .inr ⟨rfl, by first | rfl | assumption | exact (intsC_pure _)⟩⟩
      · have g2 : decide ((j : Int) < (w.length : Int)) = false := decide_eq_false (by omega)
        obtain rfl : j = w.length := by omega
        rw [List.take_length] at hs2
        repeat (refine W.seq ?_)
        refine W.region 74 75 (by decide) rfl rfl ?_
        refine RW.opd rfl rfl (LO.lss rfl rfl rfl) ?_
        refine RW.nil ?_
        repeat (refine W.seq ?_)
        refine W.cond_f rfl (by first | rfl | assumption) ?_
        refine W.exit ?_
        repeat (refine W.seq ?_)
        refine W.region 105 107 (by decide) rfl rfl ?_
        refine RW.opd rfl rfl (LO.add_in rfl rfl rfl ?_) ?_; (· (first | exact IntWalk.i64_in _ (by omega) | assumption))
        refine RW.opd rfl rfl (LO.move rfl rfl) ?_
        refine RW.nil ?_
        refine WL.rename [(0, 0), (1, 1)] 2 (by decide) ?_ ?_ (ihA ((i + 1), s2) (show ls.length - (i + 1) < ls.length - i from by omega) (show (i + 1) ≤ ls.length ∧ s2 = sumsK f ls (i + 1) ∧ SumOK f.links.length (8 * (i + 1)) s2 ∧ ∀ j, j < (i + 1) → gapB f ls j = false from ⟨by omega, by rw [hnx, hs2], hso2.mono (by omega), fun q hq => (Nat.lt_or_ge q i).elim (hgap q) fun e => (by rw [show q = i by omega, hgi, hw]; rfl)⟩))
        · (repeat' (first | exact all_mt | refine all_up ?_ ?_)) <;> first | exact .inl ⟨rfl, rfl⟩ | exact .inr ⟨rfl, fun _ h => by cases h⟩ | exact .inl ⟨rfl, by first | rfl | assumption | exact (intsC_pure _)⟩
        · (repeat' (first | exact all_mt | refine all_up ?_ ?_)) <;> first | exact ⟨rfl, _, rfl, .inr ⟨rfl, rfl⟩⟩ | exact ⟨rfl, _, rfl, .inl rfl⟩ | exact ⟨rfl, _, rfl, .inr ⟨rfl, by first | rfl | assumption | exact (intsC_pure _)⟩⟩
  · have g1 : decide ((i : Int) < (ls.length : Int)) = false := decide_eq_false (by omega)
    obtain rfl : i = ls.length := by omega
    have hfn := fnd_none hgap
    have hfit : fitF f ls = match fnd (overB f ls) f.links.length with
      | some k => ((k : Int), 41)
      | none => (0, 0) := by unfold fitF; rw [hfn]
    repeat (refine W.seq ?_)
    refine W.region 23 24 (by decide) rfl rfl ?_
    refine RW.opd rfl rfl (LO.lss rfl rfl rfl) ?_
    refine RW.nil ?_
    repeat (refine W.seq ?_)
    refine W.cond_f rfl (by first | rfl | assumption) ?_
    refine W.exit ?_
    repeat (refine W.seq ?_)
    refine W.region 111 114 (by decide) rfl rfl ?_
    refine RW.opd rfl rfl (LO.move rfl rfl) ?_
    refine RW.opd rfl rfl (LO.len rfl rfl ty23) ?_
    refine RW.opd rfl rfl (LO.move rfl rfl) ?_
    refine RW.nil ?_
    repeat (refine W.seq ?_)
    refine W.block ?_
    refine W.rename [(0, 0), (1, 1)] 2 (T' := up (up (up (up mt 2 (some (.own 0 0))) 55 (some (.osl 1 0 f.links.length 1))) 56 (some (.base (.int .i64 (f.links.length : Int))))) 57 (some (.base (.int .i64 (0 : Int))))) (H' := up (up mt 0 (some (fabC f))) 1 (some (intsC s))) (by decide) ?_ ?_ ?_
    · (repeat' (first | exact all_mt | refine all_up ?_ ?_)) <;> first | exact .inl ⟨rfl, rfl⟩ | exact .inr ⟨rfl, fun _ h => by cases h⟩ | exact .inl ⟨rfl, by first | rfl | assumption | exact (intsC_pure _)⟩
    · (repeat' (first | exact all_mt | refine all_up ?_ ?_)) <;> first | exact ⟨rfl, _, rfl, .inr ⟨rfl, rfl⟩⟩ | exact ⟨rfl, _, rfl, .inl rfl⟩ | exact ⟨rfl, _, rfl, .inr ⟨rfl, by first | rfl | assumption | exact (intsC_pure _)⟩⟩
    refine W.loop_ind (α := Nat) (fun x => f.links.length - x) 2 (fun x => up (up (up (up mt 2 (some (.own 0 0))) 55 (some (.osl 1 0 f.links.length 1))) 56 (some (.base (.int .i64 (f.links.length : Int))))) 57 (some (.base (.int .i64 (x : Int))))) (fun x => up (up mt 0 (some (fabC f))) 1 (some (intsC s))) (fun x => x ≤ f.links.length ∧ ∀ j, j < x → overB f ls j = false) 0 (show 0 ≤ f.links.length ∧ ∀ j, j < 0 → overB f ls j = false from ⟨Nat.zero_le _, fun j h => absurd h (Nat.not_lt_zero _)⟩) ?_
    rintro k hIC ihC
    try (dsimp only at hIC)
    try dsimp only
    obtain ⟨hk, hov⟩ := hIC
    by_cases hck : k < f.links.length
    · have g2 : decide ((k : Int) < (f.links.length : Int)) = true := decide_eq_true (by omega)
      have hcp := hcap _ (List.getElem_mem hck)
      have hgk : overB f ls k = decide (gI s k > 1000 * f.links[k].c) := by unfold overB; rw [List.getElem?_eq_getElem hck, hs]
      repeat (refine W.seq ?_)
      refine W.region 118 119 (by decide) rfl rfl ?_
      refine RW.opd rfl rfl (LO.lss rfl rfl rfl) ?_
      refine RW.nil ?_
      repeat (refine W.seq ?_)
      refine W.cond_t rfl (by first | rfl | assumption) ?_
      refine W.skip ?_
      repeat (refine W.seq ?_)
      refine W.block ?_
      repeat (refine W.seq ?_)
      refine W.region 123 128 (by decide) rfl rfl ?_
      refine RW.opd rfl rfl (LO.move rfl rfl) ?_
      refine RW.opd rfl rfl (LO.indexAddr rfl rfl rfl rfl ty23 ty3 ?_) ?_; (· (first | omega | decide | assumption | fail | (simp; done) | (simp; omega)))
      refine RW.opd rfl rfl (LO.load rfl rfl rfl (ni_at (k := k) (by omega)) ty3 rfl) ?_
      refine RW.opd rfl rfl (LO.assign rfl rfl) ?_
      refine RW.opd rfl rfl (LO.assign rfl rfl) ?_
      refine RW.nil ?_
      by_cases e : gI s k > 1000 * f.links[k].c
      · have he : decide (gI s k > 1000 * f.links[k].c) = true := decide_eq_true e
        repeat (refine W.seq ?_)
        refine W.region 132 141 (by decide) rfl rfl ?_
        refine RW.opd rfl rfl (LO.move rfl rfl) ?_
        refine RW.opd rfl rfl (LO.fieldAddr rfl rfl ty28 rfl (by decide)) ?_
        refine RW.opd rfl rfl (LO.load rfl rfl rfl rfl ty25 rfl) ?_
        refine RW.opd rfl rfl (LO.move rfl rfl) ?_
        refine RW.opd rfl rfl (LO.indexAddr_isl rfl rfl rfl rfl rfl ty25 ty56 ?_) ?_; (· (first | omega | decide | assumption | fail | (simp; done) | (simp; omega)))
        refine RW.opd rfl rfl (LO.fieldAddr_imm rfl rfl ty56 rfl (by decide)) ?_
        refine RW.opd rfl rfl (LO.load_imm rfl rfl (lnksC_at hck).2.2 ty3 rfl) ?_
        refine RW.opd rfl rfl (LO.mul_in rfl rfl rfl ?_) ?_; (· (first | exact IntWalk.i64_in _ (by omega) | assumption))
        refine RW.opd rfl rfl (LO.gtr rfl rfl rfl) ?_
        refine RW.nil ?_
        repeat (refine W.seq ?_)
        refine W.cond_t rfl (by first | rfl | assumption) ?_
        repeat (refine W.seq ?_)
        refine W.region 145 148 (by decide) rfl rfl ?_
        refine RW.opd rfl rfl (LO.move rfl rfl) ?_
        refine RW.opd rfl rfl (LO.assign rfl rfl) ?_
        refine RW.opd rfl rfl (LO.assign rfl rfl) ?_
        refine RW.nil ?_
        repeat (refine W.seq ?_)
        refine W.ret ⟨.inl rfl, _, mt, RVs.cons (RV.tmp rfl) (RVs.cons (RV.tmp rfl) (RVs.nil)), all_mt, ?_⟩
        exact ⟨by rw [hfit, fnd_some hov (by rw [hgk, he]) hck]; rfl, rfl⟩
      · have he : decide (gI s k > 1000 * f.links[k].c) = false := decide_eq_false e
        repeat (refine W.seq ?_)
        refine W.region 132 141 (by decide) rfl rfl ?_
        refine RW.opd rfl rfl (LO.move rfl rfl) ?_
        refine RW.opd rfl rfl (LO.fieldAddr rfl rfl ty28 rfl (by decide)) ?_
        refine RW.opd rfl rfl (LO.load rfl rfl rfl rfl ty25 rfl) ?_
        refine RW.opd rfl rfl (LO.move rfl rfl) ?_
        refine RW.opd rfl rfl (LO.indexAddr_isl rfl rfl rfl rfl rfl ty25 ty56 ?_) ?_; (· (first | omega | decide | assumption | fail | (simp; done) | (simp; omega)))
        refine RW.opd rfl rfl (LO.fieldAddr_imm rfl rfl ty56 rfl (by decide)) ?_
        refine RW.opd rfl rfl (LO.load_imm rfl rfl (lnksC_at hck).2.2 ty3 rfl) ?_
        refine RW.opd rfl rfl (LO.mul_in rfl rfl rfl ?_) ?_; (· (first | exact IntWalk.i64_in _ (by omega) | assumption))
        refine RW.opd rfl rfl (LO.gtr rfl rfl rfl) ?_
        refine RW.nil ?_
        repeat (refine W.seq ?_)
        refine W.cond_f rfl (by first | rfl | assumption) ?_
        refine W.skip ?_
        repeat (refine W.seq ?_)
        refine W.region 152 154 (by decide) rfl rfl ?_
        refine RW.opd rfl rfl (LO.add_in rfl rfl rfl ?_) ?_; (· (first | exact IntWalk.i64_in _ (by omega) | assumption))
        refine RW.opd rfl rfl (LO.move rfl rfl) ?_
        refine RW.nil ?_
        refine WL.rename [(0, 0), (1, 1)] 2 (by decide) ?_ ?_ (ihC (k + 1) (show f.links.length - (k + 1) < f.links.length - k from by omega) (show (k + 1) ≤ f.links.length ∧ ∀ j, j < (k + 1) → overB f ls j = false from ⟨by omega, fun q hq => (Nat.lt_or_ge q k).elim (hov q) fun h => (by rw [show q = k by omega, hgk, he])⟩))
        · (repeat' (first | exact all_mt | refine all_up ?_ ?_)) <;> first | exact .inl ⟨rfl, rfl⟩ | exact .inr ⟨rfl, fun _ h => by cases h⟩ | exact .inl ⟨rfl, by first | rfl | assumption | exact (intsC_pure _)⟩
        · (repeat' (first | exact all_mt | refine all_up ?_ ?_)) <;> first | exact ⟨rfl, _, rfl, .inr ⟨rfl, rfl⟩⟩ | exact ⟨rfl, _, rfl, .inl rfl⟩ | exact ⟨rfl, _, rfl, .inr ⟨rfl, by first | rfl | assumption | exact (intsC_pure _)⟩⟩
    · have g2 : decide ((k : Int) < (f.links.length : Int)) = false := decide_eq_false (by omega)
      obtain rfl : k = f.links.length := by omega
      repeat (refine W.seq ?_)
      refine W.region 118 119 (by decide) rfl rfl ?_
      refine RW.opd rfl rfl (LO.lss rfl rfl rfl) ?_
      refine RW.nil ?_
      repeat (refine W.seq ?_)
      refine W.cond_f rfl (by first | rfl | assumption) ?_
      refine W.exit ?_
      repeat (refine W.seq ?_)
      refine W.region 158 160 (by decide) rfl rfl ?_
      refine RW.opd rfl rfl (LO.assign rfl rfl) ?_
      refine RW.opd rfl rfl (LO.assign rfl rfl) ?_
      refine RW.nil ?_
      repeat (refine W.seq ?_)
      refine W.ret ⟨.inl rfl, _, mt, RVs.cons (RV.tmp rfl) (RVs.cons (RV.tmp rfl) (RVs.nil)), all_mt, ?_⟩
      exact ⟨by rw [hfit, fnd_none hov]; rfl, rfl⟩
end Go.Proofs.YtbjfaepjpmogjaaDoor
