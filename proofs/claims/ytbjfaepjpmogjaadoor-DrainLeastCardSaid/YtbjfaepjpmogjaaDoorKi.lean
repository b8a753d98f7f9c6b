/-
  Fabrics, loads and items as they are made.
-/
import Derived.Test.YtbjfaepjpmogjaaDoorKf
namespace Go.Proofs.YtbjfaepjpmogjaaDoor
open Go.RowKit

theorem nextV_bd (l : List Int) (at_ : Nat) (n : Int) (hn : 1 ≤ n) : 0 ≤ nextV l at_ n ∧ nextV l at_ n < n := by
  unfold nextV
  split
  · exact ⟨Int.emod_nonneg _ (by omega), Int.emod_lt_of_pos _ (by omega)⟩
  · omega
def LnkM (sw : Int) (x : Lnk) : Prop := 0 ≤ x.a ∧ x.a < sw ∧ 0 ≤ x.b ∧ x.b < sw ∧ x.a ≠ x.b ∧ 1 ≤ x.c ∧ x.c ≤ 3
theorem lnkM {sw a b c : Int} (h1 : 0 ≤ a) (h2 : a < sw) (h3 : 0 ≤ b) (h4 : b < sw) (h5 : a ≠ b) (h6 : 1 ≤ c) (h7 : c ≤ 3) : LnkM sw ⟨a, b, c⟩ := ⟨h1, h2, h3, h4, h5, h6, h7⟩
structure FabM (f : Fab) : Prop where
  sw1 : 1 ≤ f.sw
  sw5 : f.sw ≤ 5
  links : ∀ x ∈ f.links, LnkM f.sw x
  nl : f.links.length ≤ 7
  down : f.down.length = f.links.length
  dead : (f.dead.length : Int) = f.sw
theorem FabM.val {f : Fab} (h : FabM f) : validB f = true := by
  unfold validB
  rw [Bool.and_eq_true]
  refine ⟨List.all_eq_true.2 fun x hx => ?_, ?_⟩
  · obtain ⟨h1, h2, h3, h4, h5, h6, h7⟩ := h.links x hx
    unfold lnkB
    simp only [Bool.and_eq_true, decide_eq_true_eq, Bool.not_eq_true', beq_eq_false_iff_ne]
    exact ⟨h1, h2, h3, h4, h5, h6, by omega⟩
  · have h1 := h.sw1
    have h2 := h.sw5
    have h3 := h.nl
    unfold sizeB
    simp only [Bool.and_eq_true, decide_eq_true_eq]
    exact ⟨h1, by omega, by omega, h.down, h.dead⟩
theorem mem_snoc {α : Type} {p : α → Prop} {l : List α} {y : α} (h : ∀ x ∈ l, p x) (hy : p y) : ∀ x ∈ l ++ [y], p x := fun x hx => by
  rcases List.mem_append.1 hx with h1 | h1
  · exact h x h1
  · rw [List.mem_singleton.1 h1]; exact hy
theorem lnks_snoc (l : List Lnk) (a b c : Int) : lnksC l ++ [.base (.int .i64 a), .base (.int .i64 b), .base (.int .i64 c)] = lnksC (l ++ [⟨a, b, c⟩]) := by simp [lnksC, lnkC]
theorem bools_snoc (l : List Bool) (b : Bool) : boolsC l ++ [.base (.bool b)] = boolsC (l ++ [b]) := by simp [boolsC]
set_option maxRecDepth 100000 in
theorem fabM_any (l : List Int) (at_ : Nat) (hl : l.length ≤ 9223372036854775807) :
    ∃ v H', AFn Tryd.prog 28 1 [.own 0 0] (up mt 0 (some (deckC l at_))) v H' ∧ ∃ (f : Fab) (at' : Nat), FabM f ∧ v = .agg (fabC f) ∧ H' = up mt 0 (some (deckC l at')) := by
  refine AFn.ex Tryd.func28 rfl rfl (Nat.le_of_ble_eq_true rfl) ?_
  have hv := nextV_bd l at_ 5 (by decide)
  repeat (refine W.seq ?_)
  refine W.region 1 2 (by decide) rfl rfl ?_
  refine RW.opd rfl rfl (LO.alloc rfl ty28) ?_
  refine RW.nil ?_
  repeat (refine W.seq ?_)
  refine W.region 6 12 (by decide) rfl rfl ?_
  refine RW.opd rfl rfl (LO.move rfl rfl) ?_
  refine RW.opd rfl rfl (LO.call1 (fr := []) rfl rfl (next_any l at_ 5 (by decide) (by decide) hl) fok45 (.own rfl rfl (.cons rfl (.pure rfl) .nil)) rfl rfl rfl (List.cons_ne_nil _ _) (by decide) rfl) ?_
  refine RW.opd rfl rfl (LO.add_in rfl rfl rfl ?_) ?_; (· (first | exact IntWalk.i64_in _ (by omega) | assumption))
  refine RW.opd rfl rfl (LO.build_st rfl ty28 (.cons rfl rfl rfl rfl (Sp.lit rfl) .nil)) ?_
  refine RW.opd rfl rfl (LO.alloc rfl ty28) ?_
  refine RW.opn rfl rfl (LO.store rfl rfl rfl rfl rfl ty28 rfl (by decide) (Sp.lit rfl)) ?_
  refine RW.nil ?_
  obtain ⟨sn, hsn⟩ : ∃ sn : Nat, 1 + nextV l at_ 5 = (sn : Int) := Int.eq_ofNat_of_zero_le (by omega)
  rw [hsn]
  have hs1 : 1 ≤ sn := by omega
  have hs5 : sn ≤ 5 := by omega
  clear hsn hv
  generalize nextAt l at_ = a1
  repeat (refine W.seq ?_)
  refine W.region 16 21 (by decide) rfl rfl ?_
  refine RW.opd rfl rfl (LO.fieldAddr rfl rfl ty28 rfl (by decide)) ?_
  refine RW.opd rfl rfl (LO.load rfl rfl rfl rfl ty3 rfl) ?_
  refine RW.opd rfl rfl (LO.makeSlice rfl rfl rfl rfl rfl ty26 ty4 (by decide) ?_ ?_ ?_) ?_; (· (first | omega | decide | assumption | fail | (simp; done) | (simp; omega))); (· (first | omega | decide | assumption | fail | (simp; done) | (simp; omega))); (· (first | omega | decide | assumption | fail | (simp; done) | (simp; omega)))
  refine RW.opd rfl rfl (LO.fieldAddr rfl rfl ty28 rfl (by decide)) ?_
  refine RW.opn rfl rfl (LO.store rfl rfl rfl rfl rfl ty26 rfl (by decide) (Sp.lit rfl)) ?_
  refine RW.nil ?_
  rw [zeros_bools]
  have hk := nextV_bd l a1 8 (by decide)
  repeat (refine W.seq ?_)
  refine W.region 25 28 (by decide) rfl rfl ?_
  refine RW.opd rfl rfl (LO.move rfl rfl) ?_
  refine RW.opd rfl rfl (LO.call1 (fr := []) rfl rfl (next_any l a1 8 (by decide) (by decide) hl) fok45 (.own rfl rfl (.cons rfl (.pure rfl) .nil)) rfl rfl rfl (List.cons_ne_nil _ _) (by decide) rfl) ?_
  refine RW.opd rfl rfl (LO.assign rfl rfl) ?_
  refine RW.nil ?_
  generalize nextV l a1 8 = k at hk
  generalize nextAt l a1 = a2
  repeat (refine W.seq ?_)
  refine W.block ?_
  refine W.namec 28 (28 + 1) (q := 10) (j := 1) (sz := 3) rfl rfl (Sp.lit rfl) (by decide) (by decide) (by decide) ?_
  refine W.namec (28 + 1) (28 + 2) (q := 10) (j := 2) (sz := 1) rfl rfl (Sp.lit rfl) (by decide) (by decide) (by decide) ?_
  refine W.rename [(0, 0), (1, 1), (2, 10), (3, 28), (4, (28 + 1)), (5, 18)] 6 (T' := up (up (up (up mt 0 (some (.own 0 0))) 2 (some (.own 1 0))) 3 (some (.own 2 0))) 4 (some (.base (.int .i64 k)))) (H' := up (up (up (up (up (up mt 0 (some (deckC l a2))) 1 (some ([.base (.int .i64 0), .nils, .nils, .nils]))) 2 (some ([.base (.int .i64 (sn : Int)), .osl 3 0 (([] : List Lnk)).length 3, .osl 4 0 (([] : List Bool)).length 1, .osl 5 0 sn 1]))) 3 (some (lnksC (([] : List Lnk))))) 4 (some (boolsC (([] : List Bool))))) 5 (some (boolsC (List.replicate sn false)))) (by decide) ?_ ?_ ?_
  · (repeat' (first | exact all_mt | refine all_up ?_ ?_)) <;> first | exact .inl ⟨rfl, rfl⟩ | exact .inr ⟨rfl, fun _ h => by cases h⟩ | exact .inl ⟨rfl, by first | rfl | assumption | exact (lnks_pure _) | exact (boolsC_pure _)⟩
  · (repeat' (first | exact all_mt | refine all_up ?_ ?_)) <;> first | exact ⟨rfl, _, rfl, .inr ⟨rfl, rfl⟩⟩ | exact ⟨rfl, _, rfl, .inl rfl⟩ | exact ⟨rfl, _, rfl, .inr ⟨rfl, by first | rfl | assumption | exact (lnks_pure _) | exact (boolsC_pure _)⟩⟩
  refine W.loop_ind (α := Int × Nat × List Lnk × List Bool) (fun x => x.1.toNat) 6 (fun x => up (up (up (up mt 0 (some (.own 0 0))) 2 (some (.own 1 0))) 3 (some (.own 2 0))) 4 (some (.base (.int .i64 x.1)))) (fun x => up (up (up (up (up (up mt 0 (some (deckC l x.2.1))) 1 (some ([.base (.int .i64 0), .nils, .nils, .nils]))) 2 (some ([.base (.int .i64 (sn : Int)), .osl 3 0 x.2.2.1.length 3, .osl 4 0 x.2.2.2.length 1, .osl 5 0 sn 1]))) 3 (some (lnksC x.2.2.1))) 4 (some (boolsC x.2.2.2))) 5 (some (boolsC (List.replicate sn false)))) (fun x => (0 ≤ x.1 ∧ x.2.2.1.length + x.1 ≤ 7) ∧ x.2.2.2.length = x.2.2.1.length ∧ ∀ z ∈ x.2.2.1, LnkM sn z) (k, a2, (([] : List Lnk)), (([] : List Bool))) (show (0 ≤ k ∧ (([] : List Lnk)).length + k ≤ 7) ∧ (([] : List Bool)).length = (([] : List Lnk)).length ∧ ∀ z ∈ (([] : List Lnk)), LnkM sn z from ⟨⟨by omega, by simp; omega⟩, rfl, fun z h => absurd h List.not_mem_nil⟩) ?_
  rintro ⟨k, a, ls, bs⟩ hIA ihA
  try (dsimp only at hIA)
  try dsimp only
  obtain ⟨⟨hk0, hk1⟩, hbl, hls⟩ := hIA
  by_cases hc : 0 < k ∧ 1 < sn
  · obtain ⟨c1, c2⟩ := hc
    have g1 : decide (k > 0) = true := decide_eq_true c1
    have g2 : decide ((sn : Int) > 1) = true := decide_eq_true (by omega)
    repeat (refine W.seq ?_)
    refine W.region 32 39 (by decide) rfl rfl ?_
    refine RW.opd rfl rfl (LO.move rfl rfl) ?_
    refine RW.opd rfl rfl (LO.gtr rfl rfl rfl) ?_
    refine RW.opd rfl rfl (LO.move rfl rfl) ?_
    refine RW.gd rfl rfl rfl ?_ rfl (LO.fieldAddr rfl rfl ty28 rfl (by decide)) ?_; (· (first | rfl | assumption))
    refine RW.gd rfl rfl rfl ?_ rfl (LO.load rfl rfl rfl rfl ty3 rfl) ?_; (· (first | rfl | assumption))
    refine RW.gd rfl rfl rfl ?_ rfl (LO.gtr rfl rfl rfl) ?_; (· (first | rfl | assumption))
    refine RW.opd rfl rfl (LO.pick_t rfl rfl ?_ rfl) ?_; (· (first | rfl | assumption))
    refine RW.nil ?_
    repeat (refine W.seq ?_)
    refine W.cond_t rfl (by first | rfl | assumption) ?_
    refine W.skip ?_
    repeat (refine W.seq ?_)
    refine W.block ?_
    have b1 := nextV_bd l a sn (by omega)
    repeat (refine W.seq ?_)
    refine W.region 43 48 (by decide) rfl rfl ?_
    refine RW.opd rfl rfl (LO.move rfl rfl) ?_
    refine RW.opd rfl rfl (LO.fieldAddr rfl rfl ty28 rfl (by decide)) ?_
    refine RW.opd rfl rfl (LO.load rfl rfl rfl rfl ty3 rfl) ?_
    refine RW.opd rfl rfl (LO.call1 (fr := []) rfl rfl (next_any l a sn (by omega) (by omega) hl) fok45 (.own rfl rfl (.cons rfl (.pure rfl) .nil)) rfl rfl rfl (List.cons_ne_nil _ _) (by decide) rfl) ?_
    refine RW.opd rfl rfl (LO.assign rfl rfl) ?_
    refine RW.nil ?_
    generalize nextV l a sn = va at b1
    generalize nextAt l a = a3
    have b2 := nextV_bd l a3 (sn - 1) (by omega)
    repeat (refine W.seq ?_)
    refine W.regionD 52 64 (by decide) rfl mixed rfl ?_
    refine RW.opd rfl rfl (LO.move rfl rfl) ?_
    refine RW.opd rfl rfl (LO.add_in rfl rfl rfl ?_) ?_; (· (first | exact IntWalk.i64_in _ (by omega) | assumption))
    refine RW.opd rfl rfl (LO.move rfl rfl) ?_
    refine RW.opd rfl rfl (LO.fieldAddr rfl rfl ty28 rfl (by decide)) ?_
    refine RW.opd rfl rfl (LO.load rfl rfl rfl rfl ty3 rfl) ?_
    refine RW.opd rfl rfl (LO.sub_in rfl rfl rfl ?_) ?_; (· (first | exact IntWalk.i64_in _ (by omega) | assumption))
    refine RW.opd rfl rfl (LO.call1 (fr := []) rfl rfl (next_any l a3 (sn - 1) (by omega) (by omega) hl) fok45 (.own rfl rfl (.cons rfl (.pure rfl) .nil)) rfl rfl rfl (List.cons_ne_nil _ _) (by decide) rfl) ?_
    refine RW.opd rfl rfl (LO.add_in rfl rfl rfl ?_) ?_; (· (first | exact IntWalk.i64_in _ (by omega) | assumption))
    refine RW.opd rfl rfl (LO.fieldAddr rfl rfl ty28 rfl (by decide)) ?_
    refine RW.opd rfl rfl (LO.load rfl rfl rfl rfl ty3 rfl) ?_
    refine RW.opd rfl rfl (LO.rem_in rfl rfl rfl ?_ ?_) ?_; (· (first | omega)); (· (first | omega | decide | assumption | fail | (simp; done) | (simp; omega)))
    refine RW.opd rfl rfl (LO.assign rfl rfl) ?_
    refine RW.nil ⟨by kernel_rfl, ?_⟩
    generalize hvb : (va + 1 + nextV l a3 (sn - 1)) % (sn : Int) = vb
    have b3 : 0 ≤ vb ∧ vb < sn ∧ va ≠ vb := by
      have h1 := Int.emod_nonneg (va + 1 + nextV l a3 (sn - 1)) (show (sn : Int) ≠ 0 by omega)
      have h2 := Int.emod_lt_of_pos (va + 1 + nextV l a3 (sn - 1)) (show 0 < (sn : Int) by omega)
      refine ⟨by omega, by omega, fun e => ?_⟩
      by_cases h3 : va + 1 + nextV l a3 (sn - 1) < sn
      · rw [Int.emod_eq_of_lt (by omega) h3] at hvb; omega
      · rw [← Int.sub_emod_right, Int.emod_eq_of_lt (by omega) (by omega)] at hvb; omega
    clear hvb b2
    generalize nextAt l a3 = a4
    have b4 := nextV_bd l a4 3 (by decide)
    repeat (refine W.seq ?_)
    refine W.regionD 68 80 (by decide) rfl mixed rfl ?_
    refine RW.opd rfl rfl (LO.fieldAddr rfl rfl ty28 rfl (by decide)) ?_
    refine RW.opd rfl rfl (LO.load rfl rfl rfl rfl ty25 rfl) ?_
    refine RW.opd rfl rfl (LO.move rfl rfl) ?_
    refine RW.opd rfl rfl (LO.move rfl rfl) ?_
    refine RW.opd rfl rfl (LO.move rfl rfl) ?_
    refine RW.opd rfl rfl (LO.call1 (fr := []) rfl rfl (next_any l a4 3 (by decide) (by decide) hl) fok45 (.own rfl rfl (.cons rfl (.pure rfl) .nil)) rfl rfl rfl (List.cons_ne_nil _ _) (by decide) rfl) ?_
    refine RW.opd rfl rfl (LO.add_in rfl rfl rfl ?_) ?_; (· (first | exact IntWalk.i64_in _ (by omega) | assumption))
    refine RW.opd rfl rfl (LO.build_st rfl ty56 (.cons rfl rfl rfl rfl (Sp.lit rfl) (.cons rfl rfl rfl rfl (Sp.lit rfl) (.cons rfl rfl rfl rfl (Sp.lit rfl) .nil)))) ?_
    refine RW.opd rfl rfl (LO.buildSlice rfl ty25 ty56 (by decide) (by decide) (.cons rfl rfl rfl rfl (Sp.lit rfl) .nil)) ?_
    refine RW.opd rfl rfl (LO.append rfl rfl (SrcAV.own rfl rfl (Tk.lit rfl)) rfl (lnks_all rfl) ty25 ty25 ty56 (by decide) ?_ ?_ ?_) ?_; (· (first | omega | decide | assumption | fail | (simp; done) | (simp; omega))); (· (first | omega | decide | assumption | fail | (simp; done) | (simp; omega))); (· (first | decide | omega))
    refine RW.opd rfl rfl (LO.fieldAddr rfl rfl ty28 rfl (by decide)) ?_
    refine RW.opn rfl rfl (LO.store rfl rfl rfl rfl rfl ty25 rfl (by decide) (Sp.lit rfl)) ?_
    refine RW.nil ⟨by kernel_rfl, ?_⟩
    generalize nextV l a4 3 = vc at b4
    generalize nextAt l a4 = a5
    repeat (refine W.seq ?_)
    refine W.regionD 84 93 (by decide) rfl mixed rfl ?_
    refine RW.opd rfl rfl (LO.fieldAddr rfl rfl ty28 rfl (by decide)) ?_
    refine RW.opd rfl rfl (LO.load rfl rfl rfl rfl ty26 rfl) ?_
    refine RW.opd rfl rfl (LO.move rfl rfl) ?_
    refine RW.opd rfl rfl (LO.call1 (fr := []) rfl rfl (next_any l a5 12 (by decide) (by decide) hl) fok45 (.own rfl rfl (.cons rfl (.pure rfl) .nil)) rfl rfl rfl (List.cons_ne_nil _ _) (by decide) rfl) ?_
    refine RW.opd rfl rfl (LO.eql rfl rfl rfl) ?_
    refine RW.opd rfl rfl (LO.buildSlice rfl ty26 ty4 (by decide) (by decide) (.cons rfl rfl rfl rfl (Sp.lit rfl) .nil)) ?_
    refine RW.opd rfl rfl (LO.append rfl rfl (SrcAV.own rfl rfl (Tk.lit rfl)) rfl (bools_tk rfl) ty26 ty26 ty4 (by decide) ?_ ?_ ?_) ?_; (· (first | omega | decide | assumption | fail | (simp; done) | (simp; omega))); (· (first | omega | decide | assumption | fail | (simp; done) | (simp; omega))); (· (first | decide | omega))
    refine RW.opd rfl rfl (LO.fieldAddr rfl rfl ty28 rfl (by decide)) ?_
    refine RW.opn rfl rfl (LO.store rfl rfl rfl rfl rfl ty26 rfl (by decide) (Sp.lit rfl)) ?_
    refine RW.nil ⟨by kernel_rfl, ?_⟩
    repeat (refine W.seq ?_)
    refine W.region 97 100 (by decide) rfl rfl ?_
    refine RW.opd rfl rfl (LO.move rfl rfl) ?_
    refine RW.opd rfl rfl (LO.sub_in rfl rfl rfl ?_) ?_; (· (first | exact IntWalk.i64_in _ (by omega) | assumption))
    refine RW.opd rfl rfl (LO.assign rfl rfl) ?_
    refine RW.nil ?_
    rw [lnks_snoc, bools_snoc, show ls.length + 1 = (ls ++ [(⟨va, vb, 1 + vc⟩ : Lnk)]).length from by simp, show bs.length + 1 = (bs ++ [nextV l a5 12 == 0]).length from by simp]
    refine WL.rename [(0, 0), (1, 1), (2, 2), (3, 77), (4, 90), (5, 5)] 6 (by decide) ?_ ?_ (ihA ((k - 1), (nextAt l a5), (ls ++ [(⟨va, vb, 1 + vc⟩ : Lnk)]), (bs ++ [nextV l a5 12 == 0])) (show (k - 1).toNat < k.toNat from by omega) (show (0 ≤ (k - 1) ∧ (ls ++ [(⟨va, vb, 1 + vc⟩ : Lnk)]).length + (k - 1) ≤ 7) ∧ (bs ++ [nextV l a5 12 == 0]).length = (ls ++ [(⟨va, vb, 1 + vc⟩ : Lnk)]).length ∧ ∀ z ∈ (ls ++ [(⟨va, vb, 1 + vc⟩ : Lnk)]), LnkM sn z from ⟨⟨by omega, by simp; omega⟩, by simp [hbl], mem_snoc hls (lnkM b1.1 b1.2 b3.1 b3.2.1 b3.2.2 (by omega) (by omega))⟩))
    · (repeat' (first | exact all_mt | refine all_up ?_ ?_)) <;> first | exact .inl ⟨rfl, rfl⟩ | exact .inr ⟨rfl, fun _ h => by cases h⟩ | exact .inl ⟨rfl, by first | rfl | assumption | exact (lnks_pure _) | exact (boolsC_pure _)⟩
    · (repeat' (first | exact all_mt | refine all_up ?_ ?_)) <;> first | exact ⟨rfl, _, rfl, .inr ⟨rfl, rfl⟩⟩ | exact ⟨rfl, _, rfl, .inl rfl⟩ | exact ⟨rfl, _, rfl, .inr ⟨rfl, by first | rfl | assumption | exact (lnks_pure _) | exact (boolsC_pure _)⟩⟩
  · rcases Int.lt_or_le 0 k with c1 | c1
    case' inl =>
      have g1 : decide (k > 0) = true := decide_eq_true c1
      have g2 : decide ((sn : Int) > 1) = false := decide_eq_false (fun h => hc ⟨c1, by omega⟩)
      repeat (refine W.seq ?_)
      refine W.region 32 39 (by decide) rfl rfl ?_
      refine RW.opd rfl rfl (LO.move rfl rfl) ?_
      refine RW.opd rfl rfl (LO.gtr rfl rfl rfl) ?_
      refine RW.opd rfl rfl (LO.move rfl rfl) ?_
      refine RW.gd rfl rfl rfl ?_ rfl (LO.fieldAddr rfl rfl ty28 rfl (by decide)) ?_; (· (first | rfl | assumption))
      refine RW.gd rfl rfl rfl ?_ rfl (LO.load rfl rfl rfl rfl ty3 rfl) ?_; (· (first | rfl | assumption))
      refine RW.gd rfl rfl rfl ?_ rfl (LO.gtr rfl rfl rfl) ?_; (· (first | rfl | assumption))
      refine RW.opd rfl rfl (LO.pick_t rfl rfl ?_ rfl) ?_; (· (first | rfl | assumption))
      refine RW.nil ?_
      repeat (refine W.seq ?_)
      refine W.cond_f rfl (by first | rfl | assumption) ?_
      refine W.exit ?_
    case' inr =>
      have g1 : decide (k > 0) = false := decide_eq_false (by omega)
      repeat (refine W.seq ?_)
      refine W.region 32 39 (by decide) rfl rfl ?_
      refine RW.opd rfl rfl (LO.move rfl rfl) ?_
      refine RW.opd rfl rfl (LO.gtr rfl rfl rfl) ?_
      refine RW.opd rfl rfl (LO.move rfl rfl) ?_
      refine RW.sd rfl rfl rfl ?_ rfl ?_; (· (first | rfl | assumption))
      refine RW.sd rfl rfl rfl ?_ rfl ?_; (· (first | rfl | assumption))
      refine RW.sd rfl rfl rfl ?_ rfl ?_; (· (first | rfl | assumption))
      refine RW.opd rfl rfl (LO.pick_f rfl rfl ?_ rfl) ?_; (· (first | rfl | assumption))
      refine RW.nil ?_
      repeat (refine W.seq ?_)
      refine W.cond_f rfl (by first | rfl | assumption) ?_
      refine W.exit ?_
    all_goals
      clear ihA
      repeat (refine W.seq ?_)
      refine W.region 104 107 (by decide) rfl rfl ?_
      refine RW.opd rfl rfl (LO.move rfl rfl) ?_
      refine RW.opd rfl rfl (LO.call1 (fr := []) rfl rfl (next_any l a 10 (by decide) (by decide) hl) fok45 (.own rfl rfl (.cons rfl (.pure rfl) .nil)) rfl rfl rfl (List.cons_ne_nil _ _) (by decide) rfl) ?_
      refine RW.opd rfl rfl (LO.eql rfl rfl rfl) ?_
      refine RW.nil ?_
      generalize nextV l a 10 = r1
      generalize nextAt l a = a3
      cases h10 : (r1 == 0)
      case' false =>
        repeat (refine W.seq ?_)
        refine W.cond_f rfl (by first | rfl | assumption) ?_
        refine W.skip ?_
        refine W.frzc (q := 2) (j := 1) (r := 3) rfl rfl (by decide) rfl (lnks_all rfl) (lnks_pure _) (Sp.lit rfl) ?_
        refine W.frzc (q := 2) (j := 2) (r := 4) rfl rfl (by decide) rfl (bools_tk rfl) (boolsC_pure _) (Sp.lit rfl) ?_
        refine W.frzc (q := 2) (j := 3) (r := 5) rfl rfl (by decide) rfl (bools_tk (by simp)) (boolsC_pure _) (Sp.lit rfl) ?_
        repeat (refine W.seq ?_)
        refine W.region 123 125 (by decide) rfl rfl ?_
        refine RW.opd rfl rfl (LO.load_agg rfl rfl rfl ty28 rfl (Tk.lit rfl)) ?_
        refine RW.opn rfl rfl (LO.store rfl rfl rfl rfl rfl ty28 rfl (by decide) (Sp.lit rfl)) ?_
        refine RW.nil ?_
        repeat (refine W.seq ?_)
        refine W.ret ⟨.inl rfl, _, up mt 0 (some (deckC l a3)), (RVs.cons (RV.cellA rfl rfl ty28 rfl (Tk.lit rfl)) RVs.nil), (by (repeat' (first | exact all_mt | refine all_up ?_ ?_)) <;> rfl), ?_⟩
        refine ⟨⟨sn, ls, bs, List.replicate sn false⟩, a3, ⟨by simp; omega, by simp; omega, hls, by simp; omega, hbl, by simp⟩, ?_, rfl⟩
        simp only [retOf, fabC, List.length_replicate]
      case' true =>
        have b5 := nextV_bd l a3 sn (by omega)
        have hsp := bs_at (l := List.replicate sn false) (x := nextV l a3 sn) (b := true) b5.1 (by simp; omega)
        repeat (refine W.seq ?_)
        refine W.cond_t rfl (by first | rfl | assumption) ?_
        repeat (refine W.seq ?_)
        refine W.regionD 111 119 (by decide) rfl mixed rfl ?_
        refine RW.opd rfl rfl (LO.fieldAddr rfl rfl ty28 rfl (by decide)) ?_
        refine RW.opd rfl rfl (LO.load rfl rfl rfl rfl ty26 rfl) ?_
        refine RW.opd rfl rfl (LO.move rfl rfl) ?_
        refine RW.opd rfl rfl (LO.fieldAddr rfl rfl ty28 rfl (by decide)) ?_
        refine RW.opd rfl rfl (LO.load rfl rfl rfl rfl ty3 rfl) ?_
        refine RW.opd rfl rfl (LO.call1 (fr := []) rfl rfl (next_any l a3 sn (by omega) (by omega) hl) fok45 (.own rfl rfl (.cons rfl (.pure rfl) .nil)) rfl rfl rfl (List.cons_ne_nil _ _) (by decide) rfl) ?_
        refine RW.opd rfl rfl (LO.indexAddr rfl rfl rfl (Int.toNat_of_nonneg b5.1).symm ty26 ty4 ?_) ?_; (· (first | omega | decide | assumption | fail | (simp; done) | (simp; omega)))
        refine RW.opn rfl rfl (LO.store rfl rfl rfl rfl rfl ty4 rfl (by decide) hsp) ?_
        refine RW.nil ⟨by kernel_rfl, ?_⟩
        refine W.frzc (q := 2) (j := 1) (r := 3) rfl rfl (by decide) rfl (lnks_all rfl) (lnks_pure _) (Sp.lit rfl) ?_
        refine W.frzc (q := 2) (j := 2) (r := 4) rfl rfl (by decide) rfl (bools_tk rfl) (boolsC_pure _) (Sp.lit rfl) ?_
        refine W.frzc (q := 2) (j := 3) (r := 5) rfl rfl (by decide) rfl (bools_tk (by simp)) (boolsC_pure _) (Sp.lit rfl) ?_
        repeat (refine W.seq ?_)
        refine W.region 123 125 (by decide) rfl rfl ?_
        refine RW.opd rfl rfl (LO.load_agg rfl rfl rfl ty28 rfl (Tk.lit rfl)) ?_
        refine RW.opn rfl rfl (LO.store rfl rfl rfl rfl rfl ty28 rfl (by decide) (Sp.lit rfl)) ?_
        refine RW.nil ?_
        repeat (refine W.seq ?_)
        refine W.ret ⟨.inl rfl, _, up mt 0 (some (deckC l (nextAt l a3))), (RVs.cons (RV.cellA rfl rfl ty28 rfl (Tk.lit rfl)) RVs.nil), (by (repeat' (first | exact all_mt | refine all_up ?_ ?_)) <;> rfl), ?_⟩
        refine ⟨⟨sn, ls, bs, (List.replicate sn false).set (nextV l a3 sn).toNat true⟩, nextAt l a3, ⟨by simp; omega, by simp; omega, hls, by simp; omega, hbl, by simp⟩, ?_, rfl⟩
        simp only [retOf, fabC, List.length_replicate, List.length_set]
end Go.Proofs.YtbjfaepjpmogjaaDoor
