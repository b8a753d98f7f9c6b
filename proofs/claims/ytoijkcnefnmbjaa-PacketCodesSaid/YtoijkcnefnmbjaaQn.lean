/-
  Numbers from the list: a number of a range, an address.
-/
import Derived.Test.YtoijkcnefnmbjaaQm
import Derived.Test.YtoijkcnefnmbjaaDk
namespace Go.Proofs.Ytoijkcnefnmbjaa
open Go.RowKit
theorem nextV_bd (l : List Int) (at_ : Nat) (n : Int) (hn : 1 ≤ n) : 0 ≤ nextV l at_ n ∧ nextV l at_ n < n := by
  unfold nextV
  split
  · exact ⟨Int.emod_nonneg _ (by omega), Int.emod_lt_of_pos _ (by omega)⟩
  · omega
theorem nextN (l : List Int) (at_ : Nat) (n : Nat) (hn : 1 ≤ n) : ∃ k : Nat, nextV l at_ n = (k : Int) ∧ k < n := by
  have h := nextV_bd l at_ n (by omega)
  exact ⟨(nextV l at_ n).toNat, by omega, by omega⟩
theorem u64w (x : Int) : U64 (IntKind.u64.wrap x) := by unfold U64; rw [IntKind.wrap_u64]; omega
theorem range_any (l : List Int) (at_ : Nat) (a b : Int) (h0 : 0 ≤ a) (hn : a ≤ b) (hn2 : b ≤ 1000000) (hl : l.length ≤ 9223372036854775807) :
    AFn Try.prog 45 1 [.own 0 0, .base (.int .i64 a), .base (.int .i64 b)] (up mt 0 (some (deckC l at_))) (.base (.int .i64 (a + nextV l at_ (b - a + 1)))) (up mt 0 (some (deckC l (nextAt l at_)))) := by
  refine AFn.eq Try.func45 rfl rfl (Nat.le_of_ble_eq_true rfl) ?_
  have hv := nextV_bd l at_ (b - a + 1) (by omega)
  repeat (refine W.seq ?_)
  refine W.region 1 2 (by decide) rfl rfl ?_
  refine RW.opd rfl rfl (LO.assign rfl rfl) ?_
  refine RW.nil ?_
  repeat (refine W.seq ?_)
  refine W.region 6 15 (by decide) rfl rfl ?_
  refine RW.opd rfl rfl (LO.move rfl rfl) ?_
  refine RW.opd rfl rfl (LO.move rfl rfl) ?_
  refine RW.opd rfl rfl (LO.move rfl rfl) ?_
  refine RW.opd rfl rfl (LO.move rfl rfl) ?_
  refine RW.opd rfl rfl (LO.sub_in rfl rfl rfl ?_) ?_; (· (first | exact IntWalk.i64_in _ (by omega) | assumption))
  refine RW.opd rfl rfl (LO.add_in rfl rfl rfl ?_) ?_; (· (first | exact IntWalk.i64_in _ (by omega) | assumption))
  refine RW.opd rfl rfl (LO.call1 (fr := []) rfl rfl (next_any l at_ (b - a + 1) (by omega) (by omega) hl) fok29 (.own rfl rfl (.cons rfl (.pure rfl) .nil)) rfl rfl rfl (List.cons_ne_nil _ _) (by decide) rfl) ?_
  refine RW.opd rfl rfl (LO.add_in rfl rfl rfl ?_) ?_; (· (first | exact IntWalk.i64_in _ (by omega) | assumption))
  refine RW.opd rfl rfl (LO.assign rfl rfl) ?_
  refine RW.nil ?_
  repeat (refine W.seq ?_)
  refine W.ret ⟨.inl rfl, _, (up mt 0 (some (deckC l (nextAt l at_)))), (RVs.cons (RV.tmp rfl) RVs.nil), (by (repeat' (first | exact all_mt | refine all_up ?_ ?_)) <;> rfl), ?_⟩
  exact ⟨rfl, rfl⟩
def four5 : List Int := [0, 1, 4294967295, 2147483647, 2147483648]
def six4 : List Int := [0, 1, 18446744073709551615, 9223372036854775808]
theorem f5_at {r : Nat} (h : r < 5) : ∃ y : Int, (0 ≤ y ∧ y < 4294967296) ∧ ((four5.map fun z => AV.base (.int .u64 z)) : List AV)[0 + r * 1]? = some (.base (.int .u64 y)) := by
  match r, h with
  | 0, _ => exact ⟨_, by decide, rfl⟩
  | 1, _ => exact ⟨_, by decide, rfl⟩
  | 2, _ => exact ⟨_, by decide, rfl⟩
  | 3, _ => exact ⟨_, by decide, rfl⟩
  | 4, _ => exact ⟨_, by decide, rfl⟩
theorem s4_at {r : Nat} (h : r < 4) : ∃ y : Int, U64 y ∧ ((six4.map fun z => AV.base (.int .u64 z)) : List AV)[0 + r * 1]? = some (.base (.int .u64 y)) := by
  match r, h with
  | 0, _ => exact ⟨_, ⟨by decide, by decide⟩, rfl⟩
  | 1, _ => exact ⟨_, ⟨by decide, by decide⟩, rfl⟩
  | 2, _ => exact ⟨_, ⟨by decide, by decide⟩, rfl⟩
  | 3, _ => exact ⟨_, ⟨by decide, by decide⟩, rfl⟩
theorem v4_lo {x : Int} (h : 0 ≤ x ∧ x < 4294967296) : validA false 0 x = true ∧ U64 0 ∧ U64 x := by
  refine ⟨?_, ⟨by decide, by decide⟩, ?_, ?_⟩
  · unfold validA; simp; omega
  · omega
  · omega
theorem daddr_any (l : List Int) (at_ : Nat) (hl : l.length ≤ 9223372036854775807) :
    ∃ v H', AFn Try.prog 34 1 [.own 0 0] (up mt 0 (some (deckC l at_))) v H' ∧ ∃ (a : Ad) (at' : Nat), (validA a.v6 a.hi a.lo = true ∧ U64 a.hi ∧ U64 a.lo) ∧ v = .agg (adC a) ∧ H' = up mt 0 (some (deckC l at')) := by
  refine AFn.ex Try.func34 rfl rfl (Nat.le_of_ble_eq_true rfl) ?_
  obtain ⟨k, hk⟩ : ∃ k, nextV l at_ 6 = k := ⟨_, rfl⟩
  obtain ⟨a1, ha1⟩ : ∃ a1, nextAt l at_ = a1 := ⟨_, rfl⟩
  have hn := next_any l at_ 6 (by decide) (by decide) hl
  rw [hk, ha1] at hn
  have hcase : ((k == 0) = true) ∨ ((k == 0) = false ∧ (k == 1) = true) ∨ ((k == 0) = false ∧ (k == 1) = false ∧ (k == 2) = true) ∨ ((k == 0) = false ∧ (k == 1) = false ∧ (k == 2) = false ∧ (k == 3) = true) ∨ ((k == 0) = false ∧ (k == 1) = false ∧ (k == 2) = false ∧ (k == 3) = false ∧ (k == 4) = true) ∨ ((k == 0) = false ∧ (k == 1) = false ∧ (k == 2) = false ∧ (k == 3) = false ∧ (k == 4) = false) := by
    cases (k == 0) <;> cases (k == 1) <;> cases (k == 2) <;> cases (k == 3) <;> cases (k == 4) <;> simp
  repeat (refine W.seq ?_)
  refine W.region 1 2 (by decide) rfl rfl ?_
  refine RW.opd rfl rfl (LO.alloc rfl ty24) ?_
  refine RW.nil ?_
  repeat (refine W.seq ?_)
  refine W.region 6 8 (by decide) rfl rfl ?_
  refine RW.opd rfl rfl (LO.move rfl rfl) ?_
  refine RW.opd rfl rfl (LO.call1 (fr := []) rfl rfl (hn) fok29 (.own rfl rfl (.cons rfl (.pure rfl) .nil)) rfl rfl rfl (List.cons_ne_nil _ _) (by decide) rfl) ?_
  refine RW.nil ?_
  repeat (refine W.seq ?_)
  refine W.block ?_
  rcases hcase with e0 | ⟨e0, e1⟩ | ⟨e0, e1, e2⟩ | ⟨e0, e1, e2, e3⟩ | ⟨e0, e1, e2, e3, e4⟩ | ⟨e0, e1, e2, e3, e4⟩
  · have b1 := nextV_bd l a1 8 (by decide)
    have b2 := nextV_bd l (nextAt l a1) 4 (by decide)
    repeat (refine W.seq ?_)
    refine W.region 12 14 (by decide) rfl rfl ?_
    refine RW.opd rfl rfl (LO.eql rfl rfl rfl) ?_
    refine RW.opd rfl rfl (LO.assign rfl rfl) ?_
    refine RW.nil ?_
    repeat (refine W.seq ?_)
    refine W.cond_t rfl (by first | rfl | assumption) ?_
    repeat (refine W.seq ?_)
    refine W.region 18 28 (by decide) rfl rfl ?_
    refine RW.opd rfl rfl (LO.move rfl rfl) ?_
    refine RW.opd rfl rfl (LO.call1 (fr := []) rfl rfl (next_any l a1 8 (by decide) (by decide) hl) fok29 (.own rfl rfl (.cons rfl (.pure rfl) .nil)) rfl rfl rfl (List.cons_ne_nil _ _) (by decide) rfl) ?_
    refine RW.opd rfl rfl (LO.shl rfl rfl rfl ?_) ?_; (· (first | omega | decide | assumption | fail | (simp; done) | (simp; omega)))
    refine RW.opd rfl rfl (LO.add rfl rfl rfl) ?_
    refine RW.opd rfl rfl (LO.move rfl rfl) ?_
    refine RW.opd rfl rfl (LO.call1 (fr := []) rfl rfl (next_any l (nextAt l a1) 4 (by decide) (by decide) hl) fok29 (.own rfl rfl (.cons rfl (.pure rfl) .nil)) rfl rfl rfl (List.cons_ne_nil _ _) (by decide) rfl) ?_
    refine RW.opd rfl rfl (LO.add rfl rfl rfl) ?_
    refine RW.opd rfl rfl (LO.conv rfl rfl ty3 ty22) ?_
    refine RW.opd rfl rfl (LO.build_st rfl ty24 (.cons rfl rfl rfl rfl (Sp.lit rfl) .nil)) ?_
    refine RW.opn rfl rfl (LO.store rfl rfl rfl rfl rfl ty24 rfl (by decide) (Sp.lit rfl)) ?_
    refine RW.nil ?_
    repeat (refine W.seq ?_)
    refine W.ret ⟨.inl rfl, _, (up mt 0 (some (deckC l (nextAt l (nextAt l a1))))), (RVs.cons (RV.cellA rfl rfl ty24 rfl (Tk.lit rfl)) RVs.nil), (by (repeat' (first | exact all_mt | refine all_up ?_ ?_)) <;> rfl), ?_⟩
    refine ⟨⟨false, 0, _⟩, _, v4_lo (x := IntKind.u64.wrap (IntKind.i64.wrap (IntKind.i64.wrap (167772160 + IntKind.i64.wrap (nextV l a1 8 * 2 ^ (min (8 : Int).toNat IntKind.i64.bits))) + nextV l (nextAt l a1) 4))) ?_, rfl, rfl⟩
    rw [show (2 : Int) ^ (min (8 : Int).toNat IntKind.i64.bits) = 256 from by decide, IntWalk.i64_in (nextV l a1 8 * 256) (by omega), IntWalk.i64_in (167772160 + _) (by omega), IntWalk.i64_in _ (by omega), IntKind.wrap_u64]; omega
  · have b1 := nextV_bd l a1 4 (by decide)
    have b2 := nextV_bd l (nextAt l a1) 8 (by decide)
    repeat (refine W.seq ?_)
    refine W.region 12 14 (by decide) rfl rfl ?_
    refine RW.opd rfl rfl (LO.eql rfl rfl rfl) ?_
    refine RW.opd rfl rfl (LO.assign rfl rfl) ?_
    refine RW.nil ?_
    repeat (refine W.seq ?_)
    refine W.cond_f rfl (by first | rfl | assumption) ?_
    repeat (refine W.seq ?_)
    refine W.region 32 34 (by decide) rfl rfl ?_
    refine RW.opd rfl rfl (LO.eql rfl rfl rfl) ?_
    refine RW.opd rfl rfl (LO.assign rfl rfl) ?_
    refine RW.nil ?_
    repeat (refine W.seq ?_)
    refine W.cond_t rfl (by first | rfl | assumption) ?_
    repeat (refine W.seq ?_)
    refine W.region 38 47 (by decide) rfl rfl ?_
    refine RW.opd rfl rfl (LO.move rfl rfl) ?_
    refine RW.opd rfl rfl (LO.call1 (fr := []) rfl rfl (next_any l a1 4 (by decide) (by decide) hl) fok29 (.own rfl rfl (.cons rfl (.pure rfl) .nil)) rfl rfl rfl (List.cons_ne_nil _ _) (by decide) rfl) ?_
    refine RW.opd rfl rfl (LO.conv_in rfl rfl ty3 ty22 ?_) ?_; (· (first | exact IntWalk.u64_in _ (by omega) | assumption))
    refine RW.opd rfl rfl (LO.add_in rfl rfl rfl ?_) ?_; (· (first | exact IntWalk.u64_in _ (by omega) | assumption))
    refine RW.opd rfl rfl (LO.move rfl rfl) ?_
    refine RW.opd rfl rfl (LO.call1 (fr := []) rfl rfl (next_any l (nextAt l a1) 8 (by decide) (by decide) hl) fok29 (.own rfl rfl (.cons rfl (.pure rfl) .nil)) rfl rfl rfl (List.cons_ne_nil _ _) (by decide) rfl) ?_
    refine RW.opd rfl rfl (LO.conv_in rfl rfl ty3 ty22 ?_) ?_; (· (first | exact IntWalk.u64_in _ (by omega) | assumption))
    refine RW.opd rfl rfl (LO.build_st rfl ty24 (.cons rfl rfl rfl rfl (Sp.lit rfl) (.cons rfl rfl rfl rfl (Sp.lit rfl) (.cons rfl rfl rfl rfl (Sp.lit rfl) .nil)))) ?_
    refine RW.opn rfl rfl (LO.store rfl rfl rfl rfl rfl ty24 rfl (by decide) (Sp.lit rfl)) ?_
    refine RW.nil ?_
    repeat (refine W.seq ?_)
    refine W.ret ⟨.inl rfl, _, (up mt 0 (some (deckC l (nextAt l (nextAt l a1))))), (RVs.cons (RV.cellA rfl rfl ty24 rfl (Tk.lit rfl)) RVs.nil), (by (repeat' (first | exact all_mt | refine all_up ?_ ?_)) <;> rfl), ?_⟩
    exact ⟨⟨true, 2306139568115548160 + nextV l a1 4, nextV l (nextAt l a1) 8⟩, _, ⟨rfl, ⟨by simp; omega, by simp; omega⟩, ⟨by simp; omega, by simp; omega⟩⟩, rfl, rfl⟩
  · obtain ⟨r1, hr1, b1⟩ := nextN l a1 5 (by decide)
    obtain ⟨y, hy, hat⟩ := f5_at b1
    have n1 := next_any l a1 5 (by decide) (by decide) hl
    rw [show nextV l a1 5 = r1 from hr1] at n1
    repeat (refine W.seq ?_)
    refine W.region 12 14 (by decide) rfl rfl ?_
    refine RW.opd rfl rfl (LO.eql rfl rfl rfl) ?_
    refine RW.opd rfl rfl (LO.assign rfl rfl) ?_
    refine RW.nil ?_
    repeat (refine W.seq ?_)
    refine W.cond_f rfl (by first | rfl | assumption) ?_
    repeat (refine W.seq ?_)
    refine W.region 32 34 (by decide) rfl rfl ?_
    refine RW.opd rfl rfl (LO.eql rfl rfl rfl) ?_
    refine RW.opd rfl rfl (LO.assign rfl rfl) ?_
    refine RW.nil ?_
    repeat (refine W.seq ?_)
    refine W.cond_f rfl (by first | rfl | assumption) ?_
    repeat (refine W.seq ?_)
    refine W.region 51 53 (by decide) rfl rfl ?_
    refine RW.opd rfl rfl (LO.eql rfl rfl rfl) ?_
    refine RW.opd rfl rfl (LO.assign rfl rfl) ?_
    refine RW.nil ?_
    repeat (refine W.seq ?_)
    refine W.cond_t rfl (by first | rfl | assumption) ?_
    repeat (refine W.seq ?_)
    refine W.region 57 64 (by decide) rfl rfl ?_
    refine RW.opd rfl rfl (LO.buildSlice rfl ty85 ty22 (by decide) (by decide) (.cons rfl rfl rfl rfl (Sp.lit rfl) (.cons rfl rfl rfl rfl (Sp.lit rfl) (.cons rfl rfl rfl rfl (Sp.lit rfl) (.cons rfl rfl rfl rfl (Sp.lit rfl) (.cons rfl rfl rfl rfl (Sp.lit rfl) .nil)))))) ?_
    refine RW.opd rfl rfl (LO.move rfl rfl) ?_
    refine RW.opd rfl rfl (LO.call1 (fr := []) rfl rfl (n1) fok29 (.own rfl rfl (.cons rfl (.pure rfl) .nil)) rfl rfl rfl (List.cons_ne_nil _ _) (by decide) rfl) ?_
    refine RW.opd rfl rfl (LO.indexAddr rfl rfl rfl rfl ty85 ty22 ?_) ?_; (· (first | omega | decide | assumption | fail | (simp; done) | (simp; omega)))
    refine RW.opd rfl rfl (LO.load rfl rfl rfl hat ty22 rfl) ?_
    refine RW.opd rfl rfl (LO.build_st rfl ty24 (.cons rfl rfl rfl rfl (Sp.lit rfl) .nil)) ?_
    refine RW.opn rfl rfl (LO.store rfl rfl rfl rfl rfl ty24 rfl (by decide) (Sp.lit rfl)) ?_
    refine RW.nil ?_
    repeat (refine W.seq ?_)
    refine W.ret ⟨.inl rfl, _, (up mt 0 (some (deckC l (nextAt l a1)))), (RVs.cons (RV.cellA rfl rfl ty24 rfl (Tk.lit rfl)) RVs.nil), (by (repeat' (first | exact all_mt | refine all_up ?_ ?_)) <;> rfl), ?_⟩
    exact ⟨⟨false, 0, y⟩, _, v4_lo hy, rfl, rfl⟩
  · obtain ⟨r1, hr1, b1⟩ := nextN l a1 4 (by decide)
    obtain ⟨r2, hr2, b2⟩ := nextN l (nextAt l a1) 4 (by decide)
    obtain ⟨y, hy, hat⟩ := s4_at b1
    obtain ⟨z, hz, hat2⟩ := s4_at b2
    have n1 := next_any l a1 4 (by decide) (by decide) hl
    rw [show nextV l a1 4 = r1 from hr1] at n1
    have n2 := next_any l (nextAt l a1) 4 (by decide) (by decide) hl
    rw [show nextV l (nextAt l a1) 4 = r2 from hr2] at n2
    repeat (refine W.seq ?_)
    refine W.region 12 14 (by decide) rfl rfl ?_
    refine RW.opd rfl rfl (LO.eql rfl rfl rfl) ?_
    refine RW.opd rfl rfl (LO.assign rfl rfl) ?_
    refine RW.nil ?_
    repeat (refine W.seq ?_)
    refine W.cond_f rfl (by first | rfl | assumption) ?_
    repeat (refine W.seq ?_)
    refine W.region 32 34 (by decide) rfl rfl ?_
    refine RW.opd rfl rfl (LO.eql rfl rfl rfl) ?_
    refine RW.opd rfl rfl (LO.assign rfl rfl) ?_
    refine RW.nil ?_
    repeat (refine W.seq ?_)
    refine W.cond_f rfl (by first | rfl | assumption) ?_
    repeat (refine W.seq ?_)
    refine W.region 51 53 (by decide) rfl rfl ?_
    refine RW.opd rfl rfl (LO.eql rfl rfl rfl) ?_
    refine RW.opd rfl rfl (LO.assign rfl rfl) ?_
    refine RW.nil ?_
    repeat (refine W.seq ?_)
    refine W.cond_f rfl (by first | rfl | assumption) ?_
    repeat (refine W.seq ?_)
    refine W.region 68 70 (by decide) rfl rfl ?_
    refine RW.opd rfl rfl (LO.eql rfl rfl rfl) ?_
    refine RW.opd rfl rfl (LO.assign rfl rfl) ?_
    refine RW.nil ?_
    repeat (refine W.seq ?_)
    refine W.cond_t rfl (by first | rfl | assumption) ?_
    repeat (refine W.seq ?_)
    refine W.regionD 74 86 (by decide) rfl mixed rfl ?_
    refine RW.opd rfl rfl (LO.buildSlice rfl ty85 ty22 (by decide) (by decide) (.cons rfl rfl rfl rfl (Sp.lit rfl) (.cons rfl rfl rfl rfl (Sp.lit rfl) (.cons rfl rfl rfl rfl (Sp.lit rfl) (.cons rfl rfl rfl rfl (Sp.lit rfl) .nil))))) ?_
    refine RW.opd rfl rfl (LO.move rfl rfl) ?_
    refine RW.opd rfl rfl (LO.call1 (fr := []) rfl rfl (n1) fok29 (.own rfl rfl (.cons rfl (.pure rfl) .nil)) rfl rfl rfl (List.cons_ne_nil _ _) (by decide) rfl) ?_
    refine RW.opd rfl rfl (LO.indexAddr rfl rfl rfl rfl ty85 ty22 ?_) ?_; (· (first | omega | decide | assumption | fail | (simp; done) | (simp; omega)))
    refine RW.opd rfl rfl (LO.load rfl rfl rfl hat ty22 rfl) ?_
    refine RW.opd rfl rfl (LO.buildSlice rfl ty85 ty22 (by decide) (by decide) (.cons rfl rfl rfl rfl (Sp.lit rfl) (.cons rfl rfl rfl rfl (Sp.lit rfl) (.cons rfl rfl rfl rfl (Sp.lit rfl) (.cons rfl rfl rfl rfl (Sp.lit rfl) .nil))))) ?_
    refine RW.opd rfl rfl (LO.move rfl rfl) ?_
    refine RW.opd rfl rfl (LO.call1 (fr := []) rfl rfl (n2) fok29 (.own rfl rfl (.cons rfl (.pure rfl) .nil)) rfl rfl rfl (List.cons_ne_nil _ _) (by decide) rfl) ?_
    refine RW.opd rfl rfl (LO.indexAddr rfl rfl rfl rfl ty85 ty22 ?_) ?_; (· (first | omega | decide | assumption | fail | (simp; done) | (simp; omega)))
    refine RW.opd rfl rfl (LO.load rfl rfl rfl hat2 ty22 rfl) ?_
    refine RW.opd rfl rfl (LO.build_st rfl ty24 (.cons rfl rfl rfl rfl (Sp.lit rfl) (.cons rfl rfl rfl rfl (Sp.lit rfl) (.cons rfl rfl rfl rfl (Sp.lit rfl) .nil)))) ?_
    refine RW.opn rfl rfl (LO.store rfl rfl rfl rfl rfl ty24 rfl (by decide) (Sp.lit rfl)) ?_
    refine RW.nil ⟨by kernel_rfl, ?_⟩
    repeat (refine W.seq ?_)
    refine W.ret ⟨.inl rfl, _, (up mt 0 (some (deckC l (nextAt l (nextAt l a1))))), (RVs.cons (RV.cellA rfl rfl ty24 rfl (Tk.lit rfl)) RVs.nil), (by (repeat' (first | exact all_mt | refine all_up ?_ ?_)) <;> rfl), ?_⟩
    exact ⟨⟨true, y, z⟩, _, ⟨rfl, hy, hz⟩, rfl, rfl⟩
  · have b1 := nextV_bd l a1 1073741824 (by decide)
    obtain ⟨c2, hc2⟩ : ∃ c2, nextAt l a1 = c2 := ⟨_, rfl⟩
    have b2 := nextV_bd l c2 5 (by decide)
    obtain ⟨c3, hc3⟩ : ∃ c3, nextAt l c2 = c3 := ⟨_, rfl⟩
    have b3 := nextV_bd l c3 1073741824 (by decide)
    obtain ⟨c4, hc4⟩ : ∃ c4, nextAt l c3 = c4 := ⟨_, rfl⟩
    have b4 := nextV_bd l c4 5 (by decide)
    have n1 := next_any l a1 1073741824 (by decide) (by decide) hl
    rw [hc2] at n1
    have n2 := next_any l c2 5 (by decide) (by decide) hl
    rw [hc3] at n2
    have n3 := next_any l c3 1073741824 (by decide) (by decide) hl
    rw [hc4] at n3
    repeat (refine W.seq ?_)
    refine W.region 12 14 (by decide) rfl rfl ?_
    refine RW.opd rfl rfl (LO.eql rfl rfl rfl) ?_
    refine RW.opd rfl rfl (LO.assign rfl rfl) ?_
    refine RW.nil ?_
    repeat (refine W.seq ?_)
    refine W.cond_f rfl (by first | rfl | assumption) ?_
    repeat (refine W.seq ?_)
    refine W.region 32 34 (by decide) rfl rfl ?_
    refine RW.opd rfl rfl (LO.eql rfl rfl rfl) ?_
    refine RW.opd rfl rfl (LO.assign rfl rfl) ?_
    refine RW.nil ?_
    repeat (refine W.seq ?_)
    refine W.cond_f rfl (by first | rfl | assumption) ?_
    repeat (refine W.seq ?_)
    refine W.region 51 53 (by decide) rfl rfl ?_
    refine RW.opd rfl rfl (LO.eql rfl rfl rfl) ?_
    refine RW.opd rfl rfl (LO.assign rfl rfl) ?_
    refine RW.nil ?_
    repeat (refine W.seq ?_)
    refine W.cond_f rfl (by first | rfl | assumption) ?_
    repeat (refine W.seq ?_)
    refine W.region 68 70 (by decide) rfl rfl ?_
    refine RW.opd rfl rfl (LO.eql rfl rfl rfl) ?_
    refine RW.opd rfl rfl (LO.assign rfl rfl) ?_
    refine RW.nil ?_
    repeat (refine W.seq ?_)
    refine W.cond_f rfl (by first | rfl | assumption) ?_
    repeat (refine W.seq ?_)
    refine W.region 90 92 (by decide) rfl rfl ?_
    refine RW.opd rfl rfl (LO.eql rfl rfl rfl) ?_
    refine RW.opd rfl rfl (LO.assign rfl rfl) ?_
    refine RW.nil ?_
    repeat (refine W.seq ?_)
    refine W.cond_t rfl (by first | rfl | assumption) ?_
    repeat (refine W.seq ?_)
    refine W.region 96 114 (by decide) rfl rfl ?_
    refine RW.opd rfl rfl (LO.move rfl rfl) ?_
    refine RW.opd rfl rfl (LO.call1 (fr := []) rfl rfl (n1) fok29 (.own rfl rfl (.cons rfl (.pure rfl) .nil)) rfl rfl rfl (List.cons_ne_nil _ _) (by decide) rfl) ?_
    refine RW.opd rfl rfl (LO.conv_in rfl rfl ty3 ty22 ?_) ?_; (· (first | exact IntWalk.u64_in _ (by omega) | assumption))
    refine RW.opd rfl rfl (LO.move rfl rfl) ?_
    refine RW.opd rfl rfl (LO.call1 (fr := []) rfl rfl (n2) fok29 (.own rfl rfl (.cons rfl (.pure rfl) .nil)) rfl rfl rfl (List.cons_ne_nil _ _) (by decide) rfl) ?_
    refine RW.opd rfl rfl (LO.mul_in rfl rfl rfl ?_) ?_; (· (first | exact IntWalk.i64_in _ (by omega) | assumption))
    refine RW.opd rfl rfl (LO.conv_in rfl rfl ty3 ty42 ?_) ?_; (· (first | exact IntWalk.u64_in _ (by omega) | assumption))
    refine RW.opd rfl rfl (LO.shl rfl rfl rfl ?_) ?_; (· (first | omega | decide | assumption | fail | (simp; done) | (simp; omega)))
    refine RW.opd rfl rfl (LO.move rfl rfl) ?_
    refine RW.opd rfl rfl (LO.call1 (fr := []) rfl rfl (n3) fok29 (.own rfl rfl (.cons rfl (.pure rfl) .nil)) rfl rfl rfl (List.cons_ne_nil _ _) (by decide) rfl) ?_
    refine RW.opd rfl rfl (LO.conv_in rfl rfl ty3 ty22 ?_) ?_; (· (first | exact IntWalk.u64_in _ (by omega) | assumption))
    refine RW.opd rfl rfl (LO.move rfl rfl) ?_
    refine RW.opd rfl rfl (LO.call1 (fr := []) rfl rfl (next_any l c4 5 (by decide) (by decide) hl) fok29 (.own rfl rfl (.cons rfl (.pure rfl) .nil)) rfl rfl rfl (List.cons_ne_nil _ _) (by decide) rfl) ?_
    refine RW.opd rfl rfl (LO.mul_in rfl rfl rfl ?_) ?_; (· (first | exact IntWalk.i64_in _ (by omega) | assumption))
    refine RW.opd rfl rfl (LO.conv_in rfl rfl ty3 ty42 ?_) ?_; (· (first | exact IntWalk.u64_in _ (by omega) | assumption))
    refine RW.opd rfl rfl (LO.shl rfl rfl rfl ?_) ?_; (· (first | omega | decide | assumption | fail | (simp; done) | (simp; omega)))
    refine RW.opd rfl rfl (LO.build_st rfl ty24 (.cons rfl rfl rfl rfl (Sp.lit rfl) (.cons rfl rfl rfl rfl (Sp.lit rfl) (.cons rfl rfl rfl rfl (Sp.lit rfl) .nil)))) ?_
    refine RW.opn rfl rfl (LO.store rfl rfl rfl rfl rfl ty24 rfl (by decide) (Sp.lit rfl)) ?_
    refine RW.nil ?_
    repeat (refine W.seq ?_)
    refine W.ret ⟨.inl rfl, _, (up mt 0 (some (deckC l (nextAt l c4)))), (RVs.cons (RV.cellA rfl rfl ty24 rfl (Tk.lit rfl)) RVs.nil), (by (repeat' (first | exact all_mt | refine all_up ?_ ?_)) <;> rfl), ?_⟩
    exact ⟨⟨true, _, _⟩, _, ⟨rfl, u64w _, u64w _⟩, rfl, rfl⟩
  · have b1 := nextV_bd l a1 1073741824 (by decide)
    repeat (refine W.seq ?_)
    refine W.region 12 14 (by decide) rfl rfl ?_
    refine RW.opd rfl rfl (LO.eql rfl rfl rfl) ?_
    refine RW.opd rfl rfl (LO.assign rfl rfl) ?_
    refine RW.nil ?_
    repeat (refine W.seq ?_)
    refine W.cond_f rfl (by first | rfl | assumption) ?_
    repeat (refine W.seq ?_)
    refine W.region 32 34 (by decide) rfl rfl ?_
    refine RW.opd rfl rfl (LO.eql rfl rfl rfl) ?_
    refine RW.opd rfl rfl (LO.assign rfl rfl) ?_
    refine RW.nil ?_
    repeat (refine W.seq ?_)
    refine W.cond_f rfl (by first | rfl | assumption) ?_
    repeat (refine W.seq ?_)
    refine W.region 51 53 (by decide) rfl rfl ?_
    refine RW.opd rfl rfl (LO.eql rfl rfl rfl) ?_
    refine RW.opd rfl rfl (LO.assign rfl rfl) ?_
    refine RW.nil ?_
    repeat (refine W.seq ?_)
    refine W.cond_f rfl (by first | rfl | assumption) ?_
    repeat (refine W.seq ?_)
    refine W.region 68 70 (by decide) rfl rfl ?_
    refine RW.opd rfl rfl (LO.eql rfl rfl rfl) ?_
    refine RW.opd rfl rfl (LO.assign rfl rfl) ?_
    refine RW.nil ?_
    repeat (refine W.seq ?_)
    refine W.cond_f rfl (by first | rfl | assumption) ?_
    repeat (refine W.seq ?_)
    refine W.region 90 92 (by decide) rfl rfl ?_
    refine RW.opd rfl rfl (LO.eql rfl rfl rfl) ?_
    refine RW.opd rfl rfl (LO.assign rfl rfl) ?_
    refine RW.nil ?_
    repeat (refine W.seq ?_)
    refine W.cond_f rfl (by first | rfl | assumption) ?_
    refine W.skip ?_
    repeat (refine W.seq ?_)
    refine W.region 118 123 (by decide) rfl rfl ?_
    refine RW.opd rfl rfl (LO.move rfl rfl) ?_
    refine RW.opd rfl rfl (LO.call1 (fr := []) rfl rfl (next_any l a1 1073741824 (by decide) (by decide) hl) fok29 (.own rfl rfl (.cons rfl (.pure rfl) .nil)) rfl rfl rfl (List.cons_ne_nil _ _) (by decide) rfl) ?_
    refine RW.opd rfl rfl (LO.conv_in rfl rfl ty3 ty22 ?_) ?_; (· (first | exact IntWalk.u64_in _ (by omega) | assumption))
    refine RW.opd rfl rfl (LO.build_st rfl ty24 (.cons rfl rfl rfl rfl (Sp.lit rfl) .nil)) ?_
    refine RW.opn rfl rfl (LO.store rfl rfl rfl rfl rfl ty24 rfl (by decide) (Sp.lit rfl)) ?_
    refine RW.nil ?_
    repeat (refine W.seq ?_)
    refine W.ret ⟨.inl rfl, _, (up mt 0 (some (deckC l (nextAt l a1)))), (RVs.cons (RV.cellA rfl rfl ty24 rfl (Tk.lit rfl)) RVs.nil), (by (repeat' (first | exact all_mt | refine all_up ?_ ?_)) <;> rfl), ?_⟩
    refine ⟨⟨false, 0, _⟩, _, v4_lo (x := nextV l a1 1073741824) ?_, rfl, rfl⟩
    omega
end Go.Proofs.Ytoijkcnefnmbjaa
