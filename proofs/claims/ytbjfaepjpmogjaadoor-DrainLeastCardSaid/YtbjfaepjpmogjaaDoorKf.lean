/-
  May items be down together; the items of a set: both texts.
-/
import Derived.Test.YtbjfaepjpmogjaaDoorKe
import Derived.Test.YtbjfaepjpmogjaaDoorMab
namespace Go.Proofs.YtbjfaepjpmogjaaDoor
open Go.RowKit

theorem AFn.arg1 {P : Program} {f : FuncId} {k : Nat} {a0 a a' : AV} {args : List AV} {H H' : Hp} {v : AV} (h : AFn P f k (a0 :: a' :: args) H v H') (ha : ∀ (X : Nat → Prop) (φ : Em) (w : World) (x : Value), Rep X w φ x a → Rep X w φ x a') : AFn P f k (a0 :: a :: args) H v H' := fun X φ w vals h1 h2 h3 h4 =>
  h X φ w vals h1 (fun i x b hx hb => by
    match i with
    | 0 => exact h2 0 x b hx hb
    | 1 => simp at hb; subst hb; exact ha X φ w x (h2 1 x a hx rfl)
    | i + 2 => exact h2 (i + 2) x b hx hb) h3 h4
theorem AFn.arg2 {P : Program} {f : FuncId} {k : Nat} {a0 a1 a a' : AV} {args : List AV} {H H' : Hp} {v : AV} (h : AFn P f k (a0 :: a1 :: a' :: args) H v H') (ha : ∀ (X : Nat → Prop) (φ : Em) (w : World) (x : Value), Rep X w φ x a → Rep X w φ x a') : AFn P f k (a0 :: a1 :: a :: args) H v H' := fun X φ w vals h1 h2 h3 h4 =>
  h X φ w vals h1 (fun i x b hx hb => by
    match i with
    | 0 => exact h2 0 x b hx hb
    | 1 => exact h2 1 x b hx hb
    | 2 => simp at hb; subst hb; exact ha X φ w x (h2 2 x a hx rfl)
    | i + 3 => exact h2 (i + 3) x b hx hb) h3 h4
theorem validB_all2 {f : Fab} (h : validB f = true) : FabS f ∧ EndsIn f ∧ CapOK f ∧ f.down.length = f.links.length ∧ 1 ≤ f.dead.length ∧ f.sw = f.dead.length := by
  unfold validB sizeB at h
  simp only [Bool.and_eq_true, decide_eq_true_eq] at h
  obtain ⟨h1, h2, h3, h4, h5, h6⟩ := h
  have hl : ∀ l ∈ f.links, 0 ≤ l.a ∧ l.a < f.sw ∧ 0 ≤ l.b ∧ l.b < f.sw ∧ 1 ≤ l.c ∧ l.c ≤ 1048576 := fun l hl => by
    have := List.all_eq_true.1 h1 l hl
    unfold lnkB at this
    simp only [Bool.and_eq_true, decide_eq_true_eq] at this
    obtain ⟨a1, a2, a3, a4, _, a6, a7⟩ := this
    exact ⟨a1, a2, a3, a4, a6, a7⟩
  refine ⟨⟨h6.symm, by omega, h4⟩, fun i l hi => ?_, fun l hm => ?_, h5, by omega, h6.symm⟩
  · obtain ⟨a1, a2, a3, a4, _⟩ := hl l (List.mem_of_getElem? hi)
    exact ⟨a1, by omega, a3, by omega⟩
  · obtain ⟨_, _, _, _, a5, a6⟩ := hl l hm
    exact ⟨by omega, a6⟩
theorem validD_all2 {f : Fab} {ls : List Ld} {its : List Itm} (h : validD f ls its = true) : validB f = true ∧ LdOK ls ∧ its.length ≤ 8 ∧ (∀ x ∈ its, 0 ≤ x.ix ∧ x.ix < if x.sw then (f.dead.length : Int) else f.down.length) ∧ its.Nodup ∧ ∀ x ∈ its, itB f x = true := by
  unfold validD at h
  simp only [Bool.and_eq_true, decide_eq_true_eq] at h
  obtain ⟨h1, h2, h3, h4, h5, h6⟩ := h
  obtain ⟨_, _, _, g4, _, g6⟩ := validB_all2 h1
  refine ⟨h1, ⟨h2, fun x hx => ?_⟩, h3, fun x hx => ?_, h6, fun x hx => List.all_eq_true.1 h5 x hx⟩
  · have := List.all_eq_true.1 h4 x hx
    unfold ldB at this
    simp only [Bool.and_eq_true, decide_eq_true_eq] at this
    exact ⟨this.2.2.2.2.1, this.2.2.2.2.2⟩
  · have := List.all_eq_true.1 h5 x hx
    unfold itB at this
    simp only [Bool.and_eq_true, decide_eq_true_eq] at this
    obtain ⟨a1, a2⟩ := this
    refine ⟨a1, ?_⟩
    split <;> rename_i hs
    · rw [if_pos hs] at a2; omega
    · rw [if_neg hs] at a2; omega
theorem without_ok {f : Fab} (its : List Itm) (hf : FabS f) (he : EndsIn f) (hc : CapOK f) : FabS (withoutF f its) ∧ EndsIn (withoutF f its) ∧ CapOK (withoutF f its) := by
  obtain ⟨h1, h2⟩ := withoutF_len f its
  refine ⟨⟨by rw [h2]; exact hf.sw, by rw [h2]; exact hf.n8, hf.nl⟩, fun i l hl => ?_, hc⟩
  rw [h2]; exact he i l hl
/-- what says no: 0 if items may be down together -/
def safeE (f : Fab) (ls : List Ld) (its : List Itm) : Int := if validD f ls its = true then (fitF (withoutF f its) ls).2 else 1
def fitsE (f : Fab) (ls : List Ld) : Int × Int := if validD f ls [] = true then fitF f ls else (0, 1)
/-- the items of a set -/
def chK (its : List Itm) (s : Nat) : Nat → List Itm
  | 0 => []
  | k + 1 => chK its s k ++ (match its[k]? with
    | some x => if s.testBit k = true then [x] else []
    | none => [])
def chF (its : List Itm) (s : Nat) : List Itm := chK its s its.length
theorem chK_succ {its : List Itm} {s k : Nat} (h : k < its.length) : chK its s (k + 1) = chK its s k ++ if s.testBit k = true then [its[k]] else [] := by
  rw [chK, List.getElem?_eq_getElem h]
theorem chK_len (its : List Itm) (s k : Nat) : (chK its s k).length ≤ k := by
  induction k with
  | zero => exact Nat.le_refl _
  | succ k ih =>
    rw [chK, List.length_append]
    cases its[k]? with
    | none => simp; omega
    | some x => dsimp only; split <;> simp <;> omega
theorem bits_tabU : ∀ s : Fin 256, ∀ a : Fin 8, bitV .and .u64 ((s.val : Int).fdiv (2 ^ (min a.val 64))) 1 = if s.val.testBit a.val then 1 else 0 := by decide +kernel
theorem bits_tabI : ∀ s : Fin 256, ∀ a : Fin 8, bitV .and .i64 ((s.val : Int).fdiv (2 ^ (min a.val 64))) 1 = if s.val.testBit a.val then 1 else 0 := by decide +kernel
theorem bitU {s k : Nat} (hs : s < 256) (h1 : k < 8) : bitV .and .u64 ((s : Int).fdiv (2 ^ (min (k : Int).toNat IntKind.u64.bits))) 1 = if s.testBit k then 1 else 0 := by
  rw [Int.toNat_natCast]
  exact bits_tabU ⟨s, hs⟩ ⟨k, by omega⟩
theorem bitI {s k : Nat} (hs : s < 256) (h1 : k < 8) : bitV .and .i64 ((s : Int).fdiv (2 ^ (min (k : Int).toNat IntKind.i64.bits))) 1 = if s.testBit k then 1 else 0 := by
  rw [Int.toNat_natCast]
  exact bits_tabI ⟨s, hs⟩ ⟨k, by omega⟩
theorem bit1 (b : Bool) : ((if b = true then (1 : Int) else 0) == 1) = b := by cases b <;> rfl
theorem safe_any (f : Fab) (ls : List Ld) (its : List Itm) (hb : f.links.length ≤ 1000) (hls : ls.length ≤ 1000) (hits : its.length ≤ 1000) : AFn Tryd.prog 18 0 [.agg (fabC f), .isl (ldsC ls) ls.length, .isl (itsC its) its.length] mt (.base (.int .i64 (safeE f ls its))) mt := by
  refine AFn.eq Tryd.func18 rfl rfl (Nat.le_of_ble_eq_true rfl) ?_
  have hv := validD_any f ls its hb hls hits
  repeat (refine W.seq ?_)
  refine W.region 0 2 (by decide) rfl rfl ?_
  refine RW.opd rfl rfl (LO.box rfl rfl rfl) ?_
  refine RW.opd rfl rfl (LO.assign rfl rfl) ?_
  refine RW.nil ?_
  cases hvd : validD f ls its with
  | false =>
    rw [hvd] at hv
    have n1 : (!false) = true := rfl
    repeat (refine W.seq ?_)
    refine W.region 6 11 (by decide) rfl rfl ?_
    refine RW.opd rfl rfl (LO.load_agg rfl rfl rfl ty28 rfl (Tk.lit rfl)) ?_
    refine RW.opd rfl rfl (LO.move rfl rfl) ?_
    refine RW.opd rfl rfl (LO.move rfl rfl) ?_
    refine RW.opd rfl rfl (LO.call0 (fr := []) rfl rfl (hv) fok24 (.cons rfl (.pure rfl) (.cons rfl (.pure rfl) (.cons rfl (.pure rfl) .nil))) rfl) ?_
    refine RW.opd rfl rfl (LO.not rfl rfl) ?_
    refine RW.nil ?_
    repeat (refine W.seq ?_)
    refine W.cond_t rfl (by first | rfl | assumption) ?_
    repeat (refine W.seq ?_)
    refine W.region 15 16 (by decide) rfl rfl ?_
    refine RW.opd rfl rfl (LO.assign rfl rfl) ?_
    refine RW.nil ?_
    repeat (refine W.seq ?_)
    refine W.ret ⟨.inl rfl, _, mt, RVs.cons (RV.tmp rfl) (RVs.nil), all_mt, ?_⟩
    exact ⟨by unfold safeE; rw [hvd]; rfl, rfl⟩
  | true =>
    rw [hvd] at hv
    obtain ⟨a1, a2, a3, a4, _, _⟩ := validD_all2 hvd
    obtain ⟨b1, b2, b3, b4, b5, b6⟩ := validB_all2 a1
    have b24 := b1.nl
    have b8 := b1.n8
    obtain ⟨c1, c2, c3⟩ := without_ok its b1 b2 b3
    have hwo := without_any f its hb (by omega) (by omega) hits
    have hft := fits_any (withoutF f its) ls c1 c2 a2 c3
    have hs : safeE f ls its = (fitF (withoutF f its) ls).2 := if_pos hvd
    rw [hs]
    generalize fitF (withoutF f its) ls = p at hft ⊢
    generalize withoutF f its = f2 at hft hwo
    repeat (refine W.seq ?_)
    refine W.region 6 11 (by decide) rfl rfl ?_
    refine RW.opd rfl rfl (LO.load_agg rfl rfl rfl ty28 rfl (Tk.lit rfl)) ?_
    refine RW.opd rfl rfl (LO.move rfl rfl) ?_
    refine RW.opd rfl rfl (LO.move rfl rfl) ?_
    refine RW.opd rfl rfl (LO.call0 (fr := []) rfl rfl (hv) fok24 (.cons rfl (.pure rfl) (.cons rfl (.pure rfl) (.cons rfl (.pure rfl) .nil))) rfl) ?_
    refine RW.opd rfl rfl (LO.not rfl rfl) ?_
    refine RW.nil ?_
    repeat (refine W.seq ?_)
    refine W.cond_f rfl (by first | rfl | assumption) ?_
    refine W.skip ?_
    repeat (refine W.seq ?_)
    refine W.region 20 30 (by decide) rfl rfl ?_
    refine RW.opd rfl rfl (LO.load_agg rfl rfl rfl ty28 rfl (Tk.lit rfl)) ?_
    refine RW.opd rfl rfl (LO.move rfl rfl) ?_
    refine RW.opd rfl rfl (LO.call0 (fr := []) rfl rfl (hwo) fok19 (.cons rfl (.pure rfl) (.cons rfl (.pure rfl) .nil)) rfl) ?_
    refine RW.opd rfl rfl (LO.move rfl rfl) ?_
    refine RW.opd rfl rfl (LO.call0 (fr := []) rfl rfl (hft) fok37 (.cons rfl (.pure rfl) (.cons rfl (.pure rfl) .nil)) rfl) ?_
    refine RW.opd rfl rfl (LO.move rfl rfl) ?_
    refine RW.opd rfl rfl (LO.extract rfl rfl rfl) ?_
    refine RW.opd rfl rfl (LO.extract rfl rfl rfl) ?_
    refine RW.opd rfl rfl (LO.assign rfl rfl) ?_
    refine RW.opd rfl rfl (LO.assign rfl rfl) ?_
    refine RW.nil ?_
    repeat (refine W.seq ?_)
    refine W.region 34 36 (by decide) rfl rfl ?_
    refine RW.opd rfl rfl (LO.move rfl rfl) ?_
    refine RW.opd rfl rfl (LO.assign rfl rfl) ?_
    refine RW.nil ?_
    repeat (refine W.seq ?_)
    refine W.ret ⟨.inl rfl, _, mt, RVs.cons (RV.tmp rfl) (RVs.nil), all_mt, ?_⟩
    exact ⟨rfl, rfl⟩
theorem fitsTop_any (f : Fab) (ls : List Ld) (hb : f.links.length ≤ 1000) (hls : ls.length ≤ 1000) : AFn Tryd.prog 22 0 [.agg (fabC f), .isl (ldsC ls) ls.length] mt (fitV (fitsE f ls)) mt := by
  refine AFn.eq Tryd.func22 rfl rfl (Nat.le_of_ble_eq_true rfl) ?_
  have hv := AFn.arg2 (a := .nils) (validD_any f ls [] hb hls (by decide)) fun X φ w x h => h.nil_isl
  repeat (refine W.seq ?_)
  refine W.region 0 3 (by decide) rfl rfl ?_
  refine RW.opd rfl rfl (LO.box rfl rfl rfl) ?_
  refine RW.opd rfl rfl (LO.assign rfl rfl) ?_
  refine RW.opd rfl rfl (LO.assign rfl rfl) ?_
  refine RW.nil ?_
  cases hvd : validD f ls [] with
  | false =>
    rw [hvd] at hv
    have n1 : (!false) = true := rfl
    repeat (refine W.seq ?_)
    refine W.region 7 11 (by decide) rfl rfl ?_
    refine RW.opd rfl rfl (LO.load_agg rfl rfl rfl ty28 rfl (Tk.lit rfl)) ?_
    refine RW.opd rfl rfl (LO.move rfl rfl) ?_
    refine RW.opd rfl rfl (LO.call0 (fr := []) rfl rfl (hv) fok24 (.cons rfl (.pure rfl) (.cons rfl (.pure rfl) (.cons rfl (.pure rfl) .nil))) rfl) ?_
    refine RW.opd rfl rfl (LO.not rfl rfl) ?_
    refine RW.nil ?_
    repeat (refine W.seq ?_)
    refine W.cond_t rfl (by first | rfl | assumption) ?_
    repeat (refine W.seq ?_)
    refine W.region 15 17 (by decide) rfl rfl ?_
    refine RW.opd rfl rfl (LO.assign rfl rfl) ?_
    refine RW.opd rfl rfl (LO.assign rfl rfl) ?_
    refine RW.nil ?_
    repeat (refine W.seq ?_)
    refine W.ret ⟨.inl rfl, _, mt, RVs.cons (RV.tmp rfl) (RVs.cons (RV.tmp rfl) (RVs.nil)), all_mt, ?_⟩
    exact ⟨by unfold fitsE; rw [hvd]; rfl, rfl⟩
  | true =>
    rw [hvd] at hv
    obtain ⟨a1, a2, a3, a4, _, _⟩ := validD_all2 hvd
    obtain ⟨b1, b2, b3, b4, b5, b6⟩ := validB_all2 a1
    have hft := fits_any f ls b1 b2 a2 b3
    have hs : fitsE f ls = fitF f ls := if_pos hvd
    rw [hs]
    generalize fitF f ls = p at hft ⊢
    repeat (refine W.seq ?_)
    refine W.region 7 11 (by decide) rfl rfl ?_
    refine RW.opd rfl rfl (LO.load_agg rfl rfl rfl ty28 rfl (Tk.lit rfl)) ?_
    refine RW.opd rfl rfl (LO.move rfl rfl) ?_
    refine RW.opd rfl rfl (LO.call0 (fr := []) rfl rfl (hv) fok24 (.cons rfl (.pure rfl) (.cons rfl (.pure rfl) (.cons rfl (.pure rfl) .nil))) rfl) ?_
    refine RW.opd rfl rfl (LO.not rfl rfl) ?_
    refine RW.nil ?_
    repeat (refine W.seq ?_)
    refine W.cond_f rfl (by first | rfl | assumption) ?_
    refine W.skip ?_
    repeat (refine W.seq ?_)
    refine W.region 21 28 (by decide) rfl rfl ?_
    refine RW.opd rfl rfl (LO.load_agg rfl rfl rfl ty28 rfl (Tk.lit rfl)) ?_
    refine RW.opd rfl rfl (LO.move rfl rfl) ?_
    refine RW.opd rfl rfl (LO.call0 (fr := []) rfl rfl (hft) fok37 (.cons rfl (.pure rfl) (.cons rfl (.pure rfl) .nil)) rfl) ?_
    refine RW.opd rfl rfl (LO.extract rfl rfl rfl) ?_
    refine RW.opd rfl rfl (LO.extract rfl rfl rfl) ?_
    refine RW.opd rfl rfl (LO.assign rfl rfl) ?_
    refine RW.opd rfl rfl (LO.assign rfl rfl) ?_
    refine RW.nil ?_
    repeat (refine W.seq ?_)
    refine W.ret ⟨.inl rfl, _, mt, RVs.cons (RV.tmp rfl) (RVs.cons (RV.tmp rfl) (RVs.nil)), all_mt, ?_⟩
    exact ⟨rfl, rfl⟩
theorem chosen_own (its : List Itm) (s : Nat) (hs : s < 256) (hits : its.length ≤ 8) : AFn Tryd.prog 31 0 [.isl (itsC its) its.length, .base (.int .u64 (s : Int))] mt (.osl 0 0 (chF its s).length 2) (up mt 0 (some (itsC (chF its s)))) := by
  refine AFn.eq Tryd.func31 rfl rfl (Nat.le_of_ble_eq_true rfl) ?_
  repeat (refine W.seq ?_)
  refine W.region 0 1 (by decide) rfl rfl ?_
  refine RW.opd rfl rfl (LO.assign rfl rfl) ?_
  refine RW.nil ?_
  repeat (refine W.seq ?_)
  refine W.region 5 6 (by decide) rfl rfl ?_
  refine RW.opd rfl rfl (LO.assign rfl rfl) ?_
  refine RW.nil ?_
  refine W.name 6 (6 + 1) (t := 5) (sz := 2) rfl (by decide) (by decide) ?_
  repeat (refine W.seq ?_)
  refine W.region 10 13 (by decide) rfl rfl ?_
  refine RW.opd rfl rfl (LO.move rfl rfl) ?_
  refine RW.opd rfl rfl (LO.len_isl rfl rfl rfl ty22) ?_
  refine RW.opd rfl rfl (LO.move rfl rfl) ?_
  refine RW.nil ?_
  repeat (refine W.seq ?_)
  refine W.block ?_
  refine W.rename [(0, 6)] 1 (T' := up (up (up (up (up mt 1 (some (.base (.int .u64 (s : Int))))) 5 (some (.osl 0 0 (([] : List Itm)).length 2))) 8 (some (.isl (itsC its) its.length))) 9 (some (.base (.int .i64 (its.length : Int))))) 10 (some (.base (.int .i64 (0 : Int))))) (H' := up mt 0 (some (itsC (([] : List Itm))))) (by decide) ?_ ?_ ?_
  · (repeat' (first | exact all_mt | refine all_up ?_ ?_)) <;> first | exact .inl ⟨rfl, rfl⟩ | exact .inr ⟨rfl, fun _ h => by cases h⟩ | exact .inl ⟨rfl, by first | rfl | assumption | exact (its_pure _)⟩
  · (repeat' (first | exact all_mt | refine all_up ?_ ?_)) <;> first | exact ⟨rfl, _, rfl, .inr ⟨rfl, rfl⟩⟩ | exact ⟨rfl, _, rfl, .inl rfl⟩ | exact ⟨rfl, _, rfl, .inr ⟨rfl, by first | rfl | assumption | exact (its_pure _)⟩⟩
  refine W.loop_ind (α := Nat × List Itm) (fun x => its.length - x.1) 1 (fun x => up (up (up (up (up mt 1 (some (.base (.int .u64 (s : Int))))) 5 (some (.osl 0 0 x.2.length 2))) 8 (some (.isl (itsC its) its.length))) 9 (some (.base (.int .i64 (its.length : Int))))) 10 (some (.base (.int .i64 (x.1 : Int))))) (fun x => up mt 0 (some (itsC x.2))) (fun x => x.1 ≤ its.length ∧ x.2 = chK its s x.1) (0, (([] : List Itm))) (show 0 ≤ its.length ∧ (([] : List Itm)) = chK its s 0 from ⟨Nat.zero_le _, rfl⟩) ?_
  rintro ⟨k, c⟩ hIA ihA
  try (dsimp only at hIA)
  try dsimp only
  obtain ⟨hk, hcc⟩ := hIA
  have hcl := chK_len its s k
  rw [← hcc] at hcl
  by_cases hc : k < its.length
  · have g1 : decide ((k : Int) < (its.length : Int)) = true := decide_eq_true (by omega)
    have hnx := chK_succ (s := s) hc
    rw [← hcc] at hnx
    have hbt := bitU hs (k := k) (by omega)
    repeat (refine W.seq ?_)
    refine W.region 17 18 (by decide) rfl rfl ?_
    refine RW.opd rfl rfl (LO.lss rfl rfl rfl) ?_
    refine RW.nil ?_
    repeat (refine W.seq ?_)
    refine W.cond_t rfl (by first | rfl | assumption) ?_
    refine W.skip ?_
    repeat (refine W.seq ?_)
    refine W.block ?_
    repeat (refine W.seq ?_)
    refine W.region 22 28 (by decide) rfl rfl ?_
    refine RW.opd rfl rfl (LO.move rfl rfl) ?_
    refine RW.opd rfl rfl (LO.indexAddr_isl rfl rfl rfl rfl rfl ty22 ty45 ?_) ?_; (· (first | omega | decide | assumption | fail | (simp; done) | (simp; omega)))
    refine RW.opd rfl rfl (LO.load_imm_agg rfl rfl ty45 rfl (its_tk hc)) ?_
    refine RW.opd rfl rfl (LO.alloc rfl ty45) ?_
    refine RW.opd rfl rfl (LO.assign rfl rfl) ?_
    refine RW.opn rfl rfl (LO.store rfl rfl rfl rfl rfl ty45 rfl (by decide) (Sp.lit rfl)) ?_
    refine RW.nil ?_
    cases tb : s.testBit k with
    | false =>
      have g2 : (bitV .and .u64 ((s : Int).fdiv (2 ^ (min (k : Int).toNat IntKind.u64.bits))) 1 == 1) = false := by rw [hbt, tb]; rfl
      rw [tb, if_neg (by decide), List.append_nil] at hnx
      repeat (refine W.seq ?_)
      refine W.region 32 38 (by decide) rfl rfl ?_
      refine RW.opd rfl rfl (LO.move rfl rfl) ?_
      refine RW.opd rfl rfl (LO.move rfl rfl) ?_
      refine RW.opd rfl rfl (LO.conv_in rfl rfl ty3 ty43 ?_) ?_; (· (first | exact IntWalk.u64_in _ (by omega) | assumption))
      refine RW.opd rfl rfl (LO.shr rfl rfl rfl ?_) ?_; (· (first | omega | decide | assumption | fail | (simp; done) | (simp; omega)))
      refine RW.opd rfl rfl (LO.and rfl rfl rfl) ?_
      refine RW.opd rfl rfl (LO.eql rfl rfl rfl) ?_
      refine RW.nil ?_
      repeat (refine W.seq ?_)
      refine W.cond_f rfl (by first | rfl | assumption) ?_
      refine W.skip ?_
      repeat (refine W.seq ?_)
      refine W.region 51 53 (by decide) rfl rfl ?_
      refine RW.opd rfl rfl (LO.add_in rfl rfl rfl ?_) ?_; (· (first | exact IntWalk.i64_in _ (by omega) | assumption))
      refine RW.opd rfl rfl (LO.move rfl rfl) ?_
      refine RW.nil ?_
      refine WL.rename [(0, 0)] 1 (by decide) ?_ ?_ (ihA ((k + 1), c) (show its.length - (k + 1) < its.length - k from by omega) (show (k + 1) ≤ its.length ∧ c = chK its s (k + 1) from ⟨by omega, hnx.symm⟩))
      · (repeat' (first | exact all_mt | refine all_up ?_ ?_)) <;> first | exact .inl ⟨rfl, rfl⟩ | exact .inr ⟨rfl, fun _ h => by cases h⟩ | exact .inl ⟨rfl, by first | rfl | assumption | exact (its_pure _)⟩
      · (repeat' (first | exact all_mt | refine all_up ?_ ?_)) <;> first | exact ⟨rfl, _, rfl, .inr ⟨rfl, rfl⟩⟩ | exact ⟨rfl, _, rfl, .inl rfl⟩ | exact ⟨rfl, _, rfl, .inr ⟨rfl, by first | rfl | assumption | exact (its_pure _)⟩⟩
    | true =>
      have g2 : (bitV .and .u64 ((s : Int).fdiv (2 ^ (min (k : Int).toNat IntKind.u64.bits))) 1 == 1) = true := by rw [hbt, tb]; rfl
      rw [tb, if_pos rfl] at hnx
      repeat (refine W.seq ?_)
      refine W.region 32 38 (by decide) rfl rfl ?_
      refine RW.opd rfl rfl (LO.move rfl rfl) ?_
      refine RW.opd rfl rfl (LO.move rfl rfl) ?_
      refine RW.opd rfl rfl (LO.conv_in rfl rfl ty3 ty43 ?_) ?_; (· (first | exact IntWalk.u64_in _ (by omega) | assumption))
      refine RW.opd rfl rfl (LO.shr rfl rfl rfl ?_) ?_; (· (first | omega | decide | assumption | fail | (simp; done) | (simp; omega)))
      refine RW.opd rfl rfl (LO.and rfl rfl rfl) ?_
      refine RW.opd rfl rfl (LO.eql rfl rfl rfl) ?_
      refine RW.nil ?_
      repeat (refine W.seq ?_)
      refine W.cond_t rfl (by first | rfl | assumption) ?_
      repeat (refine W.seq ?_)
      refine W.region 42 47 (by decide) rfl rfl ?_
      refine RW.opd rfl rfl (LO.move rfl rfl) ?_
      refine RW.opd rfl rfl (LO.load_agg rfl rfl rfl ty45 rfl (Tk.lit rfl)) ?_
      refine RW.opd rfl rfl (LO.buildSlice rfl ty22 ty45 (by decide) (by decide) (.cons rfl rfl rfl rfl (Sp.lit rfl) .nil)) ?_
      refine RW.opd rfl rfl (LO.append rfl rfl (SrcAV.own rfl rfl (Tk.lit rfl)) rfl (its_all rfl) ty22 ty22 ty45 (by decide) ?_ ?_ ?_) ?_; (· (first | omega | decide | assumption | fail | (simp; done) | (simp; omega))); (· (first | omega | decide | assumption | fail | (simp; done) | (simp; omega))); (· (first | decide | omega))
      refine RW.opd rfl rfl (LO.assign rfl rfl) ?_
      refine RW.nil ?_
      repeat (refine W.seq ?_)
      refine W.region 51 53 (by decide) rfl rfl ?_
      refine RW.opd rfl rfl (LO.add_in rfl rfl rfl ?_) ?_; (· (first | exact IntWalk.i64_in _ (by omega) | assumption))
      refine RW.opd rfl rfl (LO.move rfl rfl) ?_
      refine RW.nil ?_
      rw [show itsC c ++ [AV.base (.bool its[k].sw), AV.base (.int .i64 its[k].ix)] = itsC (c ++ [its[k]]) from its_snoc _ _, show c.length + 1 = (c ++ [its[k]]).length from by simp]
      refine WL.rename [(0, 45)] 1 (by decide) ?_ ?_ (ihA ((k + 1), (c ++ [its[k]])) (show its.length - (k + 1) < its.length - k from by omega) (show (k + 1) ≤ its.length ∧ (c ++ [its[k]]) = chK its s (k + 1) from ⟨by omega, hnx.symm⟩))
      · (repeat' (first | exact all_mt | refine all_up ?_ ?_)) <;> first | exact .inl ⟨rfl, rfl⟩ | exact .inr ⟨rfl, fun _ h => by cases h⟩ | exact .inl ⟨rfl, by first | rfl | assumption | exact (its_pure _)⟩
      · (repeat' (first | exact all_mt | refine all_up ?_ ?_)) <;> first | exact ⟨rfl, _, rfl, .inr ⟨rfl, rfl⟩⟩ | exact ⟨rfl, _, rfl, .inl rfl⟩ | exact ⟨rfl, _, rfl, .inr ⟨rfl, by first | rfl | assumption | exact (its_pure _)⟩⟩
  · have g1 : decide ((k : Int) < (its.length : Int)) = false := decide_eq_false (by omega)
    obtain rfl : k = its.length := by omega
    repeat (refine W.seq ?_)
    refine W.region 17 18 (by decide) rfl rfl ?_
    refine RW.opd rfl rfl (LO.lss rfl rfl rfl) ?_
    refine RW.nil ?_
    repeat (refine W.seq ?_)
    refine W.cond_f rfl (by first | rfl | assumption) ?_
    refine W.exit ?_
    repeat (refine W.seq ?_)
    refine W.region 57 59 (by decide) rfl rfl ?_
    refine RW.opd rfl rfl (LO.move rfl rfl) ?_
    refine RW.opd rfl rfl (LO.assign rfl rfl) ?_
    refine RW.nil ?_
    refine W.rename [(0, 0)] 1 (T' := up mt 4 (some (.osl 0 0 (c.length) 2))) (H' := up mt 0 (some (itsC c))) (by decide) ?_ ?_ ?_
    · (repeat' (first | exact all_mt | refine all_up ?_ ?_)) <;> first | exact .inl ⟨rfl, rfl⟩ | exact .inr ⟨rfl, fun _ h => by cases h⟩ | exact .inl ⟨rfl, by first | rfl | assumption | exact (its_pure _)⟩
    · (repeat' (first | exact all_mt | refine all_up ?_ ?_)) <;> first | exact ⟨rfl, _, rfl, .inr ⟨rfl, rfl⟩⟩ | exact ⟨rfl, _, rfl, .inl rfl⟩ | exact ⟨rfl, _, rfl, .inr ⟨rfl, by first | rfl | assumption | exact (its_pure _)⟩⟩
    repeat (refine W.seq ?_)
    refine W.ret ⟨.inl rfl, _, up mt 0 (some (itsC c)), RVs.cons (RV.tmp rfl) RVs.nil, all_up rfl all_mt, ?_⟩
    exact ⟨by rw [hcc]; rfl, by rw [hcc]; rfl⟩
theorem chosen_any (its : List Itm) (s : Nat) (hs : s < 256) (hits : its.length ≤ 8) : AFn Tryd.prog 31 0 [.isl (itsC its) its.length, .base (.int .u64 (s : Int))] mt (.isl (itsC (chF its s)) (chF its s).length) mt :=
  AFn.frozen (chosen_own its s hs hits) (its_all rfl) (its_pure _)
theorem safeX_any (f : Fab) (ls : List Ld) (its : List Itm) (hb : f.links.length ≤ 1000) (hls : ls.length ≤ 1000) (hits : its.length ≤ 1000) : AFn Tryd.prog 17 0 [.agg (fabC f), .isl (ldsC ls) ls.length, .isl (itsC its) its.length] mt (.base (.int .i64 (safeE f ls its))) mt := by
  refine AFn.eq Tryd.func17 rfl rfl (Nat.le_of_ble_eq_true rfl) ?_
  have hv := validDX_any f ls its hb hls hits
  repeat (refine W.seq ?_)
  refine W.region 0 2 (by decide) rfl rfl ?_
  refine RW.opd rfl rfl (LO.box rfl rfl rfl) ?_
  refine RW.opd rfl rfl (LO.assign rfl rfl) ?_
  refine RW.nil ?_
  cases hvd : validD f ls its with
  | false =>
    rw [hvd] at hv
    have n1 : (!false) = true := rfl
    repeat (refine W.seq ?_)
    refine W.region 6 11 (by decide) rfl rfl ?_
    refine RW.opd rfl rfl (LO.load_agg rfl rfl rfl ty28 rfl (Tk.lit rfl)) ?_
    refine RW.opd rfl rfl (LO.move rfl rfl) ?_
    refine RW.opd rfl rfl (LO.move rfl rfl) ?_
    refine RW.opd rfl rfl (LO.call0 (fr := []) rfl rfl (hv) fok25 (.cons rfl (.pure rfl) (.cons rfl (.pure rfl) (.cons rfl (.pure rfl) .nil))) rfl) ?_
    refine RW.opd rfl rfl (LO.not rfl rfl) ?_
    refine RW.nil ?_
    repeat (refine W.seq ?_)
    refine W.cond_t rfl (by first | rfl | assumption) ?_
    repeat (refine W.seq ?_)
    refine W.region 15 16 (by decide) rfl rfl ?_
    refine RW.opd rfl rfl (LO.assign rfl rfl) ?_
    refine RW.nil ?_
    repeat (refine W.seq ?_)
    refine W.ret ⟨.inl rfl, _, mt, RVs.cons (RV.tmp rfl) (RVs.nil), all_mt, ?_⟩
    exact ⟨by unfold safeE; rw [hvd]; rfl, rfl⟩
  | true =>
    rw [hvd] at hv
    obtain ⟨a1, a2, a3, a4, _, _⟩ := validD_all2 hvd
    obtain ⟨b1, b2, b3, b4, b5, b6⟩ := validB_all2 a1
    have b24 := b1.nl
    have b8 := b1.n8
    obtain ⟨c1, c2, c3⟩ := without_ok its b1 b2 b3
    have hwo := withoutX_any f its hb (by omega) (by omega) hits a4
    have hft := fit_any (withoutF f its) ls c1 c2 a2 c3
    have hs : safeE f ls its = (fitF (withoutF f its) ls).2 := if_pos hvd
    rw [hs]
    generalize fitF (withoutF f its) ls = p at hft ⊢
    generalize withoutF f its = f2 at hft hwo
    repeat (refine W.seq ?_)
    refine W.region 6 11 (by decide) rfl rfl ?_
    refine RW.opd rfl rfl (LO.load_agg rfl rfl rfl ty28 rfl (Tk.lit rfl)) ?_
    refine RW.opd rfl rfl (LO.move rfl rfl) ?_
    refine RW.opd rfl rfl (LO.move rfl rfl) ?_
    refine RW.opd rfl rfl (LO.call0 (fr := []) rfl rfl (hv) fok25 (.cons rfl (.pure rfl) (.cons rfl (.pure rfl) (.cons rfl (.pure rfl) .nil))) rfl) ?_
    refine RW.opd rfl rfl (LO.not rfl rfl) ?_
    refine RW.nil ?_
    repeat (refine W.seq ?_)
    refine W.cond_f rfl (by first | rfl | assumption) ?_
    refine W.skip ?_
    repeat (refine W.seq ?_)
    refine W.region 20 30 (by decide) rfl rfl ?_
    refine RW.opd rfl rfl (LO.load_agg rfl rfl rfl ty28 rfl (Tk.lit rfl)) ?_
    refine RW.opd rfl rfl (LO.move rfl rfl) ?_
    refine RW.opd rfl rfl (LO.call0 (fr := []) rfl rfl (hwo) fok26 (.cons rfl (.pure rfl) (.cons rfl (.pure rfl) .nil)) rfl) ?_
    refine RW.opd rfl rfl (LO.move rfl rfl) ?_
    refine RW.opd rfl rfl (LO.call0 (fr := []) rfl rfl (hft) fok36 (.cons rfl (.pure rfl) (.cons rfl (.pure rfl) .nil)) rfl) ?_
    refine RW.opd rfl rfl (LO.move rfl rfl) ?_
    refine RW.opd rfl rfl (LO.extract rfl rfl rfl) ?_
    refine RW.opd rfl rfl (LO.extract rfl rfl rfl) ?_
    refine RW.opd rfl rfl (LO.assign rfl rfl) ?_
    refine RW.opd rfl rfl (LO.assign rfl rfl) ?_
    refine RW.nil ?_
    repeat (refine W.seq ?_)
    refine W.region 34 36 (by decide) rfl rfl ?_
    refine RW.opd rfl rfl (LO.move rfl rfl) ?_
    refine RW.opd rfl rfl (LO.assign rfl rfl) ?_
    refine RW.nil ?_
    repeat (refine W.seq ?_)
    refine W.ret ⟨.inl rfl, _, mt, RVs.cons (RV.tmp rfl) (RVs.nil), all_mt, ?_⟩
    exact ⟨rfl, rfl⟩
theorem fitsTopX_any (f : Fab) (ls : List Ld) (hb : f.links.length ≤ 1000) (hls : ls.length ≤ 1000) : AFn Tryd.prog 23 0 [.agg (fabC f), .isl (ldsC ls) ls.length] mt (fitV (fitsE f ls)) mt := by
  refine AFn.eq Tryd.func23 rfl rfl (Nat.le_of_ble_eq_true rfl) ?_
  have hv := AFn.arg2 (a := .nils) (validDX_any f ls [] hb hls (by decide)) fun X φ w x h => h.nil_isl
  repeat (refine W.seq ?_)
  refine W.region 0 3 (by decide) rfl rfl ?_
  refine RW.opd rfl rfl (LO.box rfl rfl rfl) ?_
  refine RW.opd rfl rfl (LO.assign rfl rfl) ?_
  refine RW.opd rfl rfl (LO.assign rfl rfl) ?_
  refine RW.nil ?_
  cases hvd : validD f ls [] with
  | false =>
    rw [hvd] at hv
    have n1 : (!false) = true := rfl
    repeat (refine W.seq ?_)
    refine W.region 7 11 (by decide) rfl rfl ?_
    refine RW.opd rfl rfl (LO.load_agg rfl rfl rfl ty28 rfl (Tk.lit rfl)) ?_
    refine RW.opd rfl rfl (LO.move rfl rfl) ?_
    refine RW.opd rfl rfl (LO.call0 (fr := []) rfl rfl (hv) fok25 (.cons rfl (.pure rfl) (.cons rfl (.pure rfl) (.cons rfl (.pure rfl) .nil))) rfl) ?_
    refine RW.opd rfl rfl (LO.not rfl rfl) ?_
    refine RW.nil ?_
    repeat (refine W.seq ?_)
    refine W.cond_t rfl (by first | rfl | assumption) ?_
    repeat (refine W.seq ?_)
    refine W.region 15 17 (by decide) rfl rfl ?_
    refine RW.opd rfl rfl (LO.assign rfl rfl) ?_
    refine RW.opd rfl rfl (LO.assign rfl rfl) ?_
    refine RW.nil ?_
    repeat (refine W.seq ?_)
    refine W.ret ⟨.inl rfl, _, mt, RVs.cons (RV.tmp rfl) (RVs.cons (RV.tmp rfl) (RVs.nil)), all_mt, ?_⟩
    exact ⟨by unfold fitsE; rw [hvd]; rfl, rfl⟩
  | true =>
    rw [hvd] at hv
    obtain ⟨a1, a2, a3, a4, _, _⟩ := validD_all2 hvd
    obtain ⟨b1, b2, b3, b4, b5, b6⟩ := validB_all2 a1
    have hft := fit_any f ls b1 b2 a2 b3
    have hs : fitsE f ls = fitF f ls := if_pos hvd
    rw [hs]
    generalize fitF f ls = p at hft ⊢
    repeat (refine W.seq ?_)
    refine W.region 7 11 (by decide) rfl rfl ?_
    refine RW.opd rfl rfl (LO.load_agg rfl rfl rfl ty28 rfl (Tk.lit rfl)) ?_
    refine RW.opd rfl rfl (LO.move rfl rfl) ?_
    refine RW.opd rfl rfl (LO.call0 (fr := []) rfl rfl (hv) fok25 (.cons rfl (.pure rfl) (.cons rfl (.pure rfl) (.cons rfl (.pure rfl) .nil))) rfl) ?_
    refine RW.opd rfl rfl (LO.not rfl rfl) ?_
    refine RW.nil ?_
    repeat (refine W.seq ?_)
    refine W.cond_f rfl (by first | rfl | assumption) ?_
    refine W.skip ?_
    repeat (refine W.seq ?_)
    refine W.region 21 28 (by decide) rfl rfl ?_
    refine RW.opd rfl rfl (LO.load_agg rfl rfl rfl ty28 rfl (Tk.lit rfl)) ?_
    refine RW.opd rfl rfl (LO.move rfl rfl) ?_
    refine RW.opd rfl rfl (LO.call0 (fr := []) rfl rfl (hft) fok36 (.cons rfl (.pure rfl) (.cons rfl (.pure rfl) .nil)) rfl) ?_
    refine RW.opd rfl rfl (LO.extract rfl rfl rfl) ?_
    refine RW.opd rfl rfl (LO.extract rfl rfl rfl) ?_
    refine RW.opd rfl rfl (LO.assign rfl rfl) ?_
    refine RW.opd rfl rfl (LO.assign rfl rfl) ?_
    refine RW.nil ?_
    repeat (refine W.seq ?_)
    refine W.ret ⟨.inl rfl, _, mt, RVs.cons (RV.tmp rfl) (RVs.cons (RV.tmp rfl) (RVs.nil)), all_mt, ?_⟩
    exact ⟨rfl, rfl⟩
theorem set_own (its : List Itm) (s : Nat) (hs : s < 256) (hits : its.length ≤ 8) : AFn Tryd.prog 33 0 [.isl (itsC its) its.length, .base (.int .i64 (s : Int))] mt (.osl 0 0 (chF its s).length 2) (up mt 0 (some (itsC (chF its s)))) := by
  refine AFn.eq Tryd.func33 rfl rfl (Nat.le_of_ble_eq_true rfl) ?_
  repeat (refine W.seq ?_)
  refine W.region 0 1 (by decide) rfl rfl ?_
  refine RW.opd rfl rfl (LO.assign rfl rfl) ?_
  refine RW.nil ?_
  repeat (refine W.seq ?_)
  refine W.region 5 6 (by decide) rfl rfl ?_
  refine RW.opd rfl rfl (LO.assign rfl rfl) ?_
  refine RW.nil ?_
  refine W.name 6 (6 + 1) (t := 5) (sz := 2) rfl (by decide) (by decide) ?_
  repeat (refine W.seq ?_)
  refine W.region 10 13 (by decide) rfl rfl ?_
  refine RW.opd rfl rfl (LO.move rfl rfl) ?_
  refine RW.opd rfl rfl (LO.len_isl rfl rfl rfl ty22) ?_
  refine RW.opd rfl rfl (LO.move rfl rfl) ?_
  refine RW.nil ?_
  repeat (refine W.seq ?_)
  refine W.block ?_
  refine W.rename [(0, 6)] 1 (T' := up (up (up (up (up mt 1 (some (.base (.int .i64 (s : Int))))) 5 (some (.osl 0 0 (([] : List Itm)).length 2))) 8 (some (.isl (itsC its) its.length))) 9 (some (.base (.int .i64 (its.length : Int))))) 10 (some (.base (.int .i64 (0 : Int))))) (H' := up mt 0 (some (itsC (([] : List Itm))))) (by decide) ?_ ?_ ?_
  · (repeat' (first | exact all_mt | refine all_up ?_ ?_)) <;> first | exact .inl ⟨rfl, rfl⟩ | exact .inr ⟨rfl, fun _ h => by cases h⟩ | exact .inl ⟨rfl, by first | rfl | assumption | exact (its_pure _)⟩
  · (repeat' (first | exact all_mt | refine all_up ?_ ?_)) <;> first | exact ⟨rfl, _, rfl, .inr ⟨rfl, rfl⟩⟩ | exact ⟨rfl, _, rfl, .inl rfl⟩ | exact ⟨rfl, _, rfl, .inr ⟨rfl, by first | rfl | assumption | exact (its_pure _)⟩⟩
  refine W.loop_ind (α := Nat × List Itm) (fun x => its.length - x.1) 1 (fun x => up (up (up (up (up mt 1 (some (.base (.int .i64 (s : Int))))) 5 (some (.osl 0 0 x.2.length 2))) 8 (some (.isl (itsC its) its.length))) 9 (some (.base (.int .i64 (its.length : Int))))) 10 (some (.base (.int .i64 (x.1 : Int))))) (fun x => up mt 0 (some (itsC x.2))) (fun x => x.1 ≤ its.length ∧ x.2 = chK its s x.1) (0, (([] : List Itm))) (show 0 ≤ its.length ∧ (([] : List Itm)) = chK its s 0 from ⟨Nat.zero_le _, rfl⟩) ?_
  rintro ⟨k, c⟩ hIA ihA
  try (dsimp only at hIA)
  try dsimp only
  obtain ⟨hk, hcc⟩ := hIA
  have hcl := chK_len its s k
  rw [← hcc] at hcl
  by_cases hc : k < its.length
  · have g1 : decide ((k : Int) < (its.length : Int)) = true := decide_eq_true (by omega)
    have hnx := chK_succ (s := s) hc
    rw [← hcc] at hnx
    have hbt := bitI hs (k := k) (by omega)
    repeat (refine W.seq ?_)
    refine W.region 17 18 (by decide) rfl rfl ?_
    refine RW.opd rfl rfl (LO.lss rfl rfl rfl) ?_
    refine RW.nil ?_
    repeat (refine W.seq ?_)
    refine W.cond_t rfl (by first | rfl | assumption) ?_
    refine W.skip ?_
    repeat (refine W.seq ?_)
    refine W.block ?_
    repeat (refine W.seq ?_)
    refine W.region 22 28 (by decide) rfl rfl ?_
    refine RW.opd rfl rfl (LO.move rfl rfl) ?_
    refine RW.opd rfl rfl (LO.indexAddr_isl rfl rfl rfl rfl rfl ty22 ty45 ?_) ?_; (· (first | omega | decide | assumption | fail | (simp; done) | (simp; omega)))
    refine RW.opd rfl rfl (LO.load_imm_agg rfl rfl ty45 rfl (its_tk hc)) ?_
    refine RW.opd rfl rfl (LO.alloc rfl ty45) ?_
    refine RW.opd rfl rfl (LO.assign rfl rfl) ?_
    refine RW.opn rfl rfl (LO.store rfl rfl rfl rfl rfl ty45 rfl (by decide) (Sp.lit rfl)) ?_
    refine RW.nil ?_
    cases tb : s.testBit k with
    | false =>
      have g2 : (bitV .and .i64 ((s : Int).fdiv (2 ^ (min (k : Int).toNat IntKind.i64.bits))) 1 == 1) = false := by rw [hbt, tb]; rfl
      rw [tb, if_neg (by decide), List.append_nil] at hnx
      repeat (refine W.seq ?_)
      refine W.region 32 38 (by decide) rfl rfl ?_
      refine RW.opd rfl rfl (LO.move rfl rfl) ?_
      refine RW.opd rfl rfl (LO.move rfl rfl) ?_
      refine RW.opd rfl rfl (LO.conv_in rfl rfl ty3 ty43 ?_) ?_; (· (first | exact IntWalk.u64_in _ (by omega) | assumption))
      refine RW.opd rfl rfl (LO.shr rfl rfl rfl ?_) ?_; (· (first | omega | decide | assumption | fail | (simp; done) | (simp; omega)))
      refine RW.opd rfl rfl (LO.and rfl rfl rfl) ?_
      refine RW.opd rfl rfl (LO.eql rfl rfl rfl) ?_
      refine RW.nil ?_
      repeat (refine W.seq ?_)
      refine W.cond_f rfl (by first | rfl | assumption) ?_
      refine W.skip ?_
      repeat (refine W.seq ?_)
      refine W.region 51 53 (by decide) rfl rfl ?_
      refine RW.opd rfl rfl (LO.add_in rfl rfl rfl ?_) ?_; (· (first | exact IntWalk.i64_in _ (by omega) | assumption))
      refine RW.opd rfl rfl (LO.move rfl rfl) ?_
      refine RW.nil ?_
      refine WL.rename [(0, 0)] 1 (by decide) ?_ ?_ (ihA ((k + 1), c) (show its.length - (k + 1) < its.length - k from by omega) (show (k + 1) ≤ its.length ∧ c = chK its s (k + 1) from ⟨by omega, hnx.symm⟩))
      · (repeat' (first | exact all_mt | refine all_up ?_ ?_)) <;> first | exact .inl ⟨rfl, rfl⟩ | exact .inr ⟨rfl, fun _ h => by cases h⟩ | exact .inl ⟨rfl, by first | rfl | assumption | exact (its_pure _)⟩
      · (repeat' (first | exact all_mt | refine all_up ?_ ?_)) <;> first | exact ⟨rfl, _, rfl, .inr ⟨rfl, rfl⟩⟩ | exact ⟨rfl, _, rfl, .inl rfl⟩ | exact ⟨rfl, _, rfl, .inr ⟨rfl, by first | rfl | assumption | exact (its_pure _)⟩⟩
    | true =>
      have g2 : (bitV .and .i64 ((s : Int).fdiv (2 ^ (min (k : Int).toNat IntKind.i64.bits))) 1 == 1) = true := by rw [hbt, tb]; rfl
      rw [tb, if_pos rfl] at hnx
      repeat (refine W.seq ?_)
      refine W.region 32 38 (by decide) rfl rfl ?_
      refine RW.opd rfl rfl (LO.move rfl rfl) ?_
      refine RW.opd rfl rfl (LO.move rfl rfl) ?_
      refine RW.opd rfl rfl (LO.conv_in rfl rfl ty3 ty43 ?_) ?_; (· (first | exact IntWalk.u64_in _ (by omega) | assumption))
      refine RW.opd rfl rfl (LO.shr rfl rfl rfl ?_) ?_; (· (first | omega | decide | assumption | fail | (simp; done) | (simp; omega)))
      refine RW.opd rfl rfl (LO.and rfl rfl rfl) ?_
      refine RW.opd rfl rfl (LO.eql rfl rfl rfl) ?_
      refine RW.nil ?_
      repeat (refine W.seq ?_)
      refine W.cond_t rfl (by first | rfl | assumption) ?_
      repeat (refine W.seq ?_)
      refine W.region 42 47 (by decide) rfl rfl ?_
      refine RW.opd rfl rfl (LO.move rfl rfl) ?_
      refine RW.opd rfl rfl (LO.load_agg rfl rfl rfl ty45 rfl (Tk.lit rfl)) ?_
      refine RW.opd rfl rfl (LO.buildSlice rfl ty22 ty45 (by decide) (by decide) (.cons rfl rfl rfl rfl (Sp.lit rfl) .nil)) ?_
      refine RW.opd rfl rfl (LO.append rfl rfl (SrcAV.own rfl rfl (Tk.lit rfl)) rfl (its_all rfl) ty22 ty22 ty45 (by decide) ?_ ?_ ?_) ?_; (· (first | omega | decide | assumption | fail | (simp; done) | (simp; omega))); (· (first | omega | decide | assumption | fail | (simp; done) | (simp; omega))); (· (first | decide | omega))
      refine RW.opd rfl rfl (LO.assign rfl rfl) ?_
      refine RW.nil ?_
      repeat (refine W.seq ?_)
      refine W.region 51 53 (by decide) rfl rfl ?_
      refine RW.opd rfl rfl (LO.add_in rfl rfl rfl ?_) ?_; (· (first | exact IntWalk.i64_in _ (by omega) | assumption))
      refine RW.opd rfl rfl (LO.move rfl rfl) ?_
      refine RW.nil ?_
      rw [show itsC c ++ [AV.base (.bool its[k].sw), AV.base (.int .i64 its[k].ix)] = itsC (c ++ [its[k]]) from its_snoc _ _, show c.length + 1 = (c ++ [its[k]]).length from by simp]
      refine WL.rename [(0, 45)] 1 (by decide) ?_ ?_ (ihA ((k + 1), (c ++ [its[k]])) (show its.length - (k + 1) < its.length - k from by omega) (show (k + 1) ≤ its.length ∧ (c ++ [its[k]]) = chK its s (k + 1) from ⟨by omega, hnx.symm⟩))
      · (repeat' (first | exact all_mt | refine all_up ?_ ?_)) <;> first | exact .inl ⟨rfl, rfl⟩ | exact .inr ⟨rfl, fun _ h => by cases h⟩ | exact .inl ⟨rfl, by first | rfl | assumption | exact (its_pure _)⟩
      · (repeat' (first | exact all_mt | refine all_up ?_ ?_)) <;> first | exact ⟨rfl, _, rfl, .inr ⟨rfl, rfl⟩⟩ | exact ⟨rfl, _, rfl, .inl rfl⟩ | exact ⟨rfl, _, rfl, .inr ⟨rfl, by first | rfl | assumption | exact (its_pure _)⟩⟩
  · have g1 : decide ((k : Int) < (its.length : Int)) = false := decide_eq_false (by omega)
    obtain rfl : k = its.length := by omega
    repeat (refine W.seq ?_)
    refine W.region 17 18 (by decide) rfl rfl ?_
    refine RW.opd rfl rfl (LO.lss rfl rfl rfl) ?_
    refine RW.nil ?_
    repeat (refine W.seq ?_)
    refine W.cond_f rfl (by first | rfl | assumption) ?_
    refine W.exit ?_
    repeat (refine W.seq ?_)
    refine W.region 57 59 (by decide) rfl rfl ?_
    refine RW.opd rfl rfl (LO.move rfl rfl) ?_
    refine RW.opd rfl rfl (LO.assign rfl rfl) ?_
    refine RW.nil ?_
    refine W.rename [(0, 0)] 1 (T' := up mt 4 (some (.osl 0 0 (c.length) 2))) (H' := up mt 0 (some (itsC c))) (by decide) ?_ ?_ ?_
    · (repeat' (first | exact all_mt | refine all_up ?_ ?_)) <;> first | exact .inl ⟨rfl, rfl⟩ | exact .inr ⟨rfl, fun _ h => by cases h⟩ | exact .inl ⟨rfl, by first | rfl | assumption | exact (its_pure _)⟩
    · (repeat' (first | exact all_mt | refine all_up ?_ ?_)) <;> first | exact ⟨rfl, _, rfl, .inr ⟨rfl, rfl⟩⟩ | exact ⟨rfl, _, rfl, .inl rfl⟩ | exact ⟨rfl, _, rfl, .inr ⟨rfl, by first | rfl | assumption | exact (its_pure _)⟩⟩
    repeat (refine W.seq ?_)
    refine W.ret ⟨.inl rfl, _, up mt 0 (some (itsC c)), RVs.cons (RV.tmp rfl) RVs.nil, all_up rfl all_mt, ?_⟩
    exact ⟨by rw [hcc]; rfl, by rw [hcc]; rfl⟩
theorem set_any (its : List Itm) (s : Nat) (hs : s < 256) (hits : its.length ≤ 8) : AFn Tryd.prog 33 0 [.isl (itsC its) its.length, .base (.int .i64 (s : Int))] mt (.isl (itsC (chF its s)) (chF its s).length) mt :=
  AFn.frozen (set_own its s hs hits) (its_all rfl) (its_pure _)
end Go.Proofs.YtbjfaepjpmogjaaDoor
