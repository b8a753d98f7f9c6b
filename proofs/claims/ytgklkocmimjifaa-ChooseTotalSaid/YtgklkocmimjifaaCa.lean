/-
  Prefixes and ports from a list of numbers.
-/
import Derived.Test.YtgklkocmimjifaaDk
import Derived.Test.YtgklkocmimjifaaMab
namespace Go.Proofs.Ytgklkocmimjifaa
open Go.RowKit
theorem nextV_bd (l : List Int) (at_ : Nat) (n : Int) (hn : 1 ≤ n) : 0 ≤ nextV l at_ n ∧ nextV l at_ n < n := by
  unfold nextV
  split
  · exact ⟨Int.emod_nonneg _ (by omega), Int.emod_lt_of_pos _ (by omega)⟩
  · exact ⟨by omega, by omega⟩
def intsC (l : List Int) : List AV := l.map fun z => .base (.int .i64 z)
theorem intsC_len (l : List Int) : (intsC l).length = l.length := by simp [intsC]
theorem intsC_app (a b : List Int) : intsC (a ++ b) = intsC a ++ intsC b := by simp [intsC]
theorem intsC_pure (l : List Int) : (intsC l).all AV.pure1 = true := by simp [intsC, List.all_eq_true, AV.pure1]
theorem ints_tk {l : List Int} {n : Nat} (h : l.length = n) : Tk (intsC l) 0 (n * 1) (intsC l) := by
  have := Tk.all (intsC l)
  rwa [show (intsC l).length = n * 1 from by simp [intsC, h]] at this
/-- a prefix -/
structure Pf where
  v6 : Bool
  hi : Int
  lo : Int
  len : Int
def pfC (p : Pf) : List AV := [.base (.bool p.v6), .base (.int .u64 p.hi), .base (.int .u64 p.lo), .base (.int .i64 p.len)]
/-- an address -/
structure Ad where
  v6 : Bool
  hi : Int
  lo : Int
def adC (a : Ad) : List AV := [.base (.bool a.v6), .base (.int .u64 a.hi), .base (.int .u64 a.lo)]
set_option maxHeartbeats 1000000 in
theorem block_any (k : Int) : ∃ v H', AFn Try.prog 31 0 [.base (.int .i64 k)] mt v H' ∧ ∃ p : Pf, v = .agg (pfC p) ∧ H' = mt := by
  refine AFn.ex Try.func31 rfl rfl (Nat.le_of_ble_eq_true rfl) ?_
  cases hb : decide (k ≥ 6)
  ·
    repeat (refine W.seq ?_)
    refine W.region 0 1 (by decide) rfl rfl ?_
    refine RW.opd rfl rfl (LO.alloc rfl ty35) ?_
    refine RW.nil ?_
    repeat (refine W.seq ?_)
    refine W.region 5 7 (by decide) rfl rfl ?_
    refine RW.opd rfl rfl (LO.move rfl rfl) ?_
    refine RW.opd rfl rfl (LO.geq rfl rfl rfl) ?_
    refine RW.nil ?_
    repeat (refine W.seq ?_)
    refine W.cond_f rfl (by first | rfl | assumption) ?_
    refine W.skip ?_
    repeat (refine W.seq ?_)
    refine W.region 22 29 (by decide) rfl rfl ?_
    refine RW.opd rfl rfl (LO.move rfl rfl) ?_
    refine RW.opd rfl rfl (LO.conv rfl rfl ty3 ty31) ?_
    refine RW.opd rfl rfl (LO.shl rfl rfl rfl ?_) ?_; (· (first | omega | decide | assumption | fail | (simp; done) | (simp; omega)))
    refine RW.opd rfl rfl (LO.or rfl rfl rfl) ?_
    refine RW.opd rfl rfl (LO.build_st rfl ty33 (.cons rfl rfl rfl rfl (Sp.lit rfl) .nil)) ?_
    refine RW.opd rfl rfl (LO.build_st rfl ty35 (.cons rfl rfl rfl rfl (Sp.lit rfl) (.cons rfl rfl rfl rfl (Sp.lit rfl) .nil))) ?_
    refine RW.opn rfl rfl (LO.store rfl rfl rfl rfl rfl ty35 rfl (by decide) (Sp.lit rfl)) ?_
    refine RW.nil ?_
    repeat (refine W.seq ?_)
    refine W.ret ⟨.inl rfl, _, mt, (RVs.cons (RV.cellA rfl rfl ty35 rfl (Tk.lit rfl)) RVs.nil), (by (repeat' (first | exact all_mt | refine all_up ?_ ?_)) <;> rfl), ?_⟩
    exact ⟨⟨_, _, _, _⟩, rfl, rfl⟩
  ·
    repeat (refine W.seq ?_)
    refine W.region 0 1 (by decide) rfl rfl ?_
    refine RW.opd rfl rfl (LO.alloc rfl ty35) ?_
    refine RW.nil ?_
    repeat (refine W.seq ?_)
    refine W.region 5 7 (by decide) rfl rfl ?_
    refine RW.opd rfl rfl (LO.move rfl rfl) ?_
    refine RW.opd rfl rfl (LO.geq rfl rfl rfl) ?_
    refine RW.nil ?_
    repeat (refine W.seq ?_)
    refine W.cond_t rfl (by first | rfl | assumption) ?_
    repeat (refine W.seq ?_)
    refine W.region 11 18 (by decide) rfl rfl ?_
    refine RW.opd rfl rfl (LO.move rfl rfl) ?_
    refine RW.opd rfl rfl (LO.conv rfl rfl ty3 ty31) ?_
    refine RW.opd rfl rfl (LO.shl rfl rfl rfl ?_) ?_; (· (first | omega | decide | assumption | fail | (simp; done) | (simp; omega)))
    refine RW.opd rfl rfl (LO.or rfl rfl rfl) ?_
    refine RW.opd rfl rfl (LO.build_st rfl ty33 (.cons rfl rfl rfl rfl (Sp.lit rfl) (.cons rfl rfl rfl rfl (Sp.lit rfl) .nil))) ?_
    refine RW.opd rfl rfl (LO.build_st rfl ty35 (.cons rfl rfl rfl rfl (Sp.lit rfl) (.cons rfl rfl rfl rfl (Sp.lit rfl) .nil))) ?_
    refine RW.opn rfl rfl (LO.store rfl rfl rfl rfl rfl ty35 rfl (by decide) (Sp.lit rfl)) ?_
    refine RW.nil ?_
    repeat (refine W.seq ?_)
    refine W.ret ⟨.inl rfl, _, mt, (RVs.cons (RV.cellA rfl rfl ty35 rfl (Tk.lit rfl)) RVs.nil), (by (repeat' (first | exact all_mt | refine all_up ?_ ?_)) <;> rfl), ?_⟩
    exact ⟨⟨_, _, _, _⟩, rfl, rfl⟩
theorem port_any (k : Int) (b : Bool) : ∃ v H', AFn Try.prog 33 0 [.base (.int .i64 k), .base (.bool b)] mt v H' ∧ ∃ p : Ad, v = .agg (adC p) ∧ H' = mt := by
  refine AFn.ex Try.func33 rfl rfl (Nat.le_of_ble_eq_true rfl) ?_
  cases b
  ·
    repeat (refine W.seq ?_)
    refine W.region 0 1 (by decide) rfl rfl ?_
    refine RW.opd rfl rfl (LO.alloc rfl ty33) ?_
    refine RW.nil ?_
    repeat (refine W.seq ?_)
    refine W.region 5 6 (by decide) rfl rfl ?_
    refine RW.opd rfl rfl (LO.move rfl rfl) ?_
    refine RW.nil ?_
    repeat (refine W.seq ?_)
    refine W.cond_f rfl (rfl) ?_
    refine W.skip ?_
    repeat (refine W.seq ?_)
    refine W.region 18 25 (by decide) rfl rfl ?_
    refine RW.opd rfl rfl (LO.move rfl rfl) ?_
    refine RW.opd rfl rfl (LO.rem rfl rfl rfl ?_) ?_; (· (first | omega | decide | assumption | fail | (simp; done) | (simp; omega)))
    refine RW.opd rfl rfl (LO.add rfl rfl rfl) ?_
    refine RW.opd rfl rfl (LO.conv rfl rfl ty3 ty31) ?_
    refine RW.opd rfl rfl (LO.or rfl rfl rfl) ?_
    refine RW.opd rfl rfl (LO.build_st rfl ty33 (.cons rfl rfl rfl rfl (Sp.lit rfl) .nil)) ?_
    refine RW.opn rfl rfl (LO.store rfl rfl rfl rfl rfl ty33 rfl (by decide) (Sp.lit rfl)) ?_
    refine RW.nil ?_
    repeat (refine W.seq ?_)
    refine W.ret ⟨.inl rfl, _, mt, (RVs.cons (RV.cellA rfl rfl ty33 rfl (Tk.lit rfl)) RVs.nil), (by (repeat' (first | exact all_mt | refine all_up ?_ ?_)) <;> rfl), ?_⟩
    exact ⟨⟨_, _, _⟩, rfl, rfl⟩
  ·
    repeat (refine W.seq ?_)
    refine W.region 0 1 (by decide) rfl rfl ?_
    refine RW.opd rfl rfl (LO.alloc rfl ty33) ?_
    refine RW.nil ?_
    repeat (refine W.seq ?_)
    refine W.region 5 6 (by decide) rfl rfl ?_
    refine RW.opd rfl rfl (LO.move rfl rfl) ?_
    refine RW.nil ?_
    repeat (refine W.seq ?_)
    refine W.cond_t rfl (rfl) ?_
    repeat (refine W.seq ?_)
    refine W.region 10 14 (by decide) rfl rfl ?_
    refine RW.opd rfl rfl (LO.move rfl rfl) ?_
    refine RW.opd rfl rfl (LO.conv rfl rfl ty3 ty31) ?_
    refine RW.opd rfl rfl (LO.build_st rfl ty33 (.cons rfl rfl rfl rfl (Sp.lit rfl) (.cons rfl rfl rfl rfl (Sp.lit rfl) (.cons rfl rfl rfl rfl (Sp.lit rfl) .nil)))) ?_
    refine RW.opn rfl rfl (LO.store rfl rfl rfl rfl rfl ty33 rfl (by decide) (Sp.lit rfl)) ?_
    refine RW.nil ?_
    repeat (refine W.seq ?_)
    refine W.ret ⟨.inl rfl, _, mt, (RVs.cons (RV.cellA rfl rfl ty33 rfl (Tk.lit rfl)) RVs.nil), (by (repeat' (first | exact all_mt | refine all_up ?_ ?_)) <;> rfl), ?_⟩
    exact ⟨⟨_, _, _⟩, rfl, rfl⟩
set_option maxHeartbeats 1000000 in
theorem prefix_any (l : List Int) (at_ : Nat) (hl : l.length ≤ 9223372036854775807) :
    ∃ v H', AFn Try.prog 23 1 [.own 0 0] (up mt 0 (some (deckC l at_))) v H' ∧ ∃ (p : Pf) (at' : Nat), v = .agg (pfC p) ∧ H' = up mt 0 (some (deckC l at')) := by
  refine AFn.ex Try.func23 rfl rfl (Nat.le_of_ble_eq_true rfl) ?_
  obtain ⟨_, _, hbk, p, rfl, rfl⟩ := block_any (nextV l at_ 8)
  obtain ⟨pv, ph, pl, pn⟩ := p
  obtain ⟨a1, ha1⟩ : ∃ a1, nextAt l at_ = a1 := ⟨_, rfl⟩
  have n1 := next_any l at_ 8 (by decide) (by decide) hl
  obtain ⟨e1, he1⟩ : ∃ e1, nextV l at_ 8 = e1 := ⟨_, rfl⟩
  rw [he1] at hbk
  rw [he1, ha1] at n1
  obtain ⟨e2, he2⟩ : ∃ e2, nextV l a1 8 = e2 := ⟨_, rfl⟩
  obtain ⟨a2, ha2⟩ : ∃ a2, nextAt l a1 = a2 := ⟨_, rfl⟩
  have n2 := next_any l a1 8 (by decide) (by decide) hl
  rw [he2, ha2] at n2
  obtain ⟨e3, he3⟩ : ∃ e3, nextV l a2 3 = e3 := ⟨_, rfl⟩
  obtain ⟨a3, ha3⟩ : ∃ a3, nextAt l a2 = a3 := ⟨_, rfl⟩
  have n3 := next_any l a2 3 (by decide) (by decide) hl
  rw [he3, ha3] at n3
  have b3 := nextV_bd l a2 3 (by decide)
  rw [he3] at b3
  unfold pfC at hbk
  repeat (refine W.seq ?_)
  refine W.region 1 2 (by decide) rfl rfl ?_
  refine RW.opd rfl rfl (LO.alloc rfl ty35) ?_
  refine RW.nil ?_
  repeat (refine W.seq ?_)
  refine W.region 6 11 (by decide) rfl rfl ?_
  refine RW.opd rfl rfl (LO.move rfl rfl) ?_
  refine RW.opd rfl rfl (LO.call1 (fr := []) rfl rfl (n1) fok22 (.own rfl rfl (.cons rfl (.pure rfl) .nil)) rfl rfl rfl (List.cons_ne_nil _ _) (by decide) rfl) ?_
  refine RW.opd rfl rfl (LO.call0 (fr := []) rfl rfl (hbk) fok31 (.cons rfl (.pure rfl) .nil) rfl) ?_
  refine RW.opd rfl rfl (LO.alloc rfl ty35) ?_
  refine RW.opn rfl rfl (LO.store rfl rfl rfl rfl rfl ty35 rfl (by decide) (Sp.lit rfl)) ?_
  refine RW.nil ?_
  repeat (refine W.seq ?_)
  refine W.region 15 17 (by decide) rfl rfl ?_
  refine RW.opd rfl rfl (LO.move rfl rfl) ?_
  refine RW.opd rfl rfl (LO.call1 (fr := []) rfl rfl (n2) fok22 (.own rfl rfl (.cons rfl (.pure rfl) .nil)) rfl rfl rfl (List.cons_ne_nil _ _) (by decide) rfl) ?_
  refine RW.nil ?_
  refine W.joinK (α := Pf × Nat) 3 (fun x => [(0, .own 0 0), (2, .own 1 0), (3, .own 2 0)]) (fun x => up (up (up mt 0 (some (deckC l x.2))) 1 (some (pfC ⟨false, 0, 0, 0⟩))) 2 (some (pfC x.1))) (fun x => True) .nil ?_ ?_
  rotate_left
  rintro ⟨p, a⟩ hIJ
  try (dsimp only at hIJ)
  try dsimp only [joinT, baseT, List.cons_append, List.nil_append]
  rotate_right
  ·
    repeat (refine W.seq ?_)
    refine W.block ?_
    rcases (show (e2 == 6) = true ∨ ((e2 == 6) = false ∧ (e2 == 7) = true) ∨ ((e2 == 6) = false ∧ (e2 == 7) = false) by cases (e2 == 6) <;> cases (e2 == 7) <;> simp) with g1 | ⟨g1, g2⟩ | ⟨g1, g2⟩
    ·
      repeat (refine W.seq ?_)
      refine W.region 21 23 (by decide) rfl rfl ?_
      refine RW.opd rfl rfl (LO.eql rfl rfl rfl) ?_
      refine RW.opd rfl rfl (LO.assign rfl rfl) ?_
      refine RW.nil ?_
      repeat (refine W.seq ?_)
      refine W.cond_t rfl (by first | rfl | assumption) ?_
      repeat (refine W.seq ?_)
      refine W.region 27 30 (by decide) rfl rfl ?_
      refine RW.opd rfl rfl (LO.fieldAddr rfl rfl ty35 rfl (by decide)) ?_
      refine RW.opd rfl rfl (LO.fieldAddr rfl rfl ty33 rfl (by decide)) ?_
      refine RW.opd rfl rfl (LO.load rfl rfl rfl rfl ty4 rfl) ?_
      refine RW.nil ?_
      cases pv
      ·
        repeat (refine W.seq ?_)
        refine W.cond_f rfl (rfl) ?_
        repeat (refine W.seq ?_)
        refine W.region 40 42 (by decide) rfl rfl ?_
        refine RW.opd rfl rfl (LO.fieldAddr rfl rfl ty35 rfl (by decide)) ?_
        refine RW.opn rfl rfl (LO.store rfl rfl rfl rfl rfl ty3 rfl (by decide) (Sp.lit rfl)) ?_
        refine RW.nil ?_
        intro yJ KJ hJ
        refine W.renameJ [(0, 0), (1, 1), (2, 9)] 3 (by decide) ?_ ?_ (hJ (((⟨false, ph, pl, 24⟩ : Pf)), a2) (show True from trivial))
        · (repeat' (first | exact LookR.nil | refine LookR.cons ?_ ?_)) <;> first | exact .inl ⟨rfl, rfl⟩ | exact .inr ⟨rfl, fun _ h => by cases h⟩ | exact .inl ⟨rfl, by first | rfl | assumption ⟩
        · (repeat' (first | exact all_mt | refine all_up ?_ ?_)) <;> first | exact ⟨rfl, _, rfl, .inr ⟨rfl, rfl⟩⟩ | exact ⟨rfl, _, rfl, .inl rfl⟩ | exact ⟨rfl, _, rfl, .inr ⟨rfl, by first | rfl | assumption ⟩⟩
      ·
        repeat (refine W.seq ?_)
        refine W.cond_t rfl (rfl) ?_
        repeat (refine W.seq ?_)
        refine W.region 34 36 (by decide) rfl rfl ?_
        refine RW.opd rfl rfl (LO.fieldAddr rfl rfl ty35 rfl (by decide)) ?_
        refine RW.opn rfl rfl (LO.store rfl rfl rfl rfl rfl ty3 rfl (by decide) (Sp.lit rfl)) ?_
        refine RW.nil ?_
        intro yJ KJ hJ
        refine W.renameJ [(0, 0), (1, 1), (2, 9)] 3 (by decide) ?_ ?_ (hJ (((⟨true, ph, pl, 64⟩ : Pf)), a2) (show True from trivial))
        · (repeat' (first | exact LookR.nil | refine LookR.cons ?_ ?_)) <;> first | exact .inl ⟨rfl, rfl⟩ | exact .inr ⟨rfl, fun _ h => by cases h⟩ | exact .inl ⟨rfl, by first | rfl | assumption ⟩
        · (repeat' (first | exact all_mt | refine all_up ?_ ?_)) <;> first | exact ⟨rfl, _, rfl, .inr ⟨rfl, rfl⟩⟩ | exact ⟨rfl, _, rfl, .inl rfl⟩ | exact ⟨rfl, _, rfl, .inr ⟨rfl, by first | rfl | assumption ⟩⟩
    ·
      repeat (refine W.seq ?_)
      refine W.region 21 23 (by decide) rfl rfl ?_
      refine RW.opd rfl rfl (LO.eql rfl rfl rfl) ?_
      refine RW.opd rfl rfl (LO.assign rfl rfl) ?_
      refine RW.nil ?_
      repeat (refine W.seq ?_)
      refine W.cond_f rfl (by first | rfl | assumption) ?_
      repeat (refine W.seq ?_)
      refine W.region 46 48 (by decide) rfl rfl ?_
      refine RW.opd rfl rfl (LO.eql rfl rfl rfl) ?_
      refine RW.opd rfl rfl (LO.assign rfl rfl) ?_
      refine RW.nil ?_
      repeat (refine W.seq ?_)
      refine W.cond_t rfl (by first | rfl | assumption) ?_
      repeat (refine W.seq ?_)
      refine W.region 52 55 (by decide) rfl rfl ?_
      refine RW.opd rfl rfl (LO.fieldAddr rfl rfl ty35 rfl (by decide)) ?_
      refine RW.opd rfl rfl (LO.fieldAddr rfl rfl ty33 rfl (by decide)) ?_
      refine RW.opd rfl rfl (LO.load rfl rfl rfl rfl ty4 rfl) ?_
      refine RW.nil ?_
      cases pv
      ·
        repeat (refine W.seq ?_)
        refine W.cond_f rfl (rfl) ?_
        repeat (refine W.seq ?_)
        refine W.region 65 67 (by decide) rfl rfl ?_
        refine RW.opd rfl rfl (LO.fieldAddr rfl rfl ty35 rfl (by decide)) ?_
        refine RW.opn rfl rfl (LO.store rfl rfl rfl rfl rfl ty3 rfl (by decide) (Sp.lit rfl)) ?_
        refine RW.nil ?_
        repeat (refine W.seq ?_)
        refine W.regionD 71 81 (by decide) rfl mixed rfl ?_
        refine RW.opd rfl rfl (LO.fieldAddr rfl rfl ty35 rfl (by decide)) ?_
        refine RW.opd rfl rfl (LO.fieldAddr rfl rfl ty33 rfl (by decide)) ?_
        refine RW.opd rfl rfl (LO.load rfl rfl rfl rfl ty31 rfl) ?_
        refine RW.opd rfl rfl (LO.move rfl rfl) ?_
        refine RW.opd rfl rfl (LO.call1 (fr := []) rfl rfl (n3) fok22 (.own rfl rfl (.cons rfl (.pure rfl) .nil)) rfl rfl rfl (List.cons_ne_nil _ _) (by decide) rfl) ?_
        refine RW.opd rfl rfl (LO.conv_in rfl rfl ty3 ty31 ?_) ?_; (· (first | exact IntWalk.u64_in _ (by omega) | assumption))
        refine RW.opd rfl rfl (LO.add rfl rfl rfl) ?_
        refine RW.opd rfl rfl (LO.fieldAddr rfl rfl ty35 rfl (by decide)) ?_
        refine RW.opd rfl rfl (LO.fieldAddr rfl rfl ty33 rfl (by decide)) ?_
        refine RW.opn rfl rfl (LO.store rfl rfl rfl rfl rfl ty31 rfl (by decide) (Sp.lit rfl)) ?_
        refine RW.nil ⟨by kernel_rfl, ?_⟩
        intro yJ KJ hJ
        refine W.renameJ [(0, 0), (1, 1), (2, 9)] 3 (by decide) ?_ ?_ (hJ (((⟨false, ph, IntKind.u64.wrap (pl + e3), 32⟩ : Pf)), a3) (show True from trivial))
        · (repeat' (first | exact LookR.nil | refine LookR.cons ?_ ?_)) <;> first | exact .inl ⟨rfl, rfl⟩ | exact .inr ⟨rfl, fun _ h => by cases h⟩ | exact .inl ⟨rfl, by first | rfl | assumption ⟩
        · (repeat' (first | exact all_mt | refine all_up ?_ ?_)) <;> first | exact ⟨rfl, _, rfl, .inr ⟨rfl, rfl⟩⟩ | exact ⟨rfl, _, rfl, .inl rfl⟩ | exact ⟨rfl, _, rfl, .inr ⟨rfl, by first | rfl | assumption ⟩⟩
      ·
        repeat (refine W.seq ?_)
        refine W.cond_t rfl (rfl) ?_
        repeat (refine W.seq ?_)
        refine W.region 59 61 (by decide) rfl rfl ?_
        refine RW.opd rfl rfl (LO.fieldAddr rfl rfl ty35 rfl (by decide)) ?_
        refine RW.opn rfl rfl (LO.store rfl rfl rfl rfl rfl ty3 rfl (by decide) (Sp.lit rfl)) ?_
        refine RW.nil ?_
        repeat (refine W.seq ?_)
        refine W.regionD 71 81 (by decide) rfl mixed rfl ?_
        refine RW.opd rfl rfl (LO.fieldAddr rfl rfl ty35 rfl (by decide)) ?_
        refine RW.opd rfl rfl (LO.fieldAddr rfl rfl ty33 rfl (by decide)) ?_
        refine RW.opd rfl rfl (LO.load rfl rfl rfl rfl ty31 rfl) ?_
        refine RW.opd rfl rfl (LO.move rfl rfl) ?_
        refine RW.opd rfl rfl (LO.call1 (fr := []) rfl rfl (n3) fok22 (.own rfl rfl (.cons rfl (.pure rfl) .nil)) rfl rfl rfl (List.cons_ne_nil _ _) (by decide) rfl) ?_
        refine RW.opd rfl rfl (LO.conv_in rfl rfl ty3 ty31 ?_) ?_; (· (first | exact IntWalk.u64_in _ (by omega) | assumption))
        refine RW.opd rfl rfl (LO.add rfl rfl rfl) ?_
        refine RW.opd rfl rfl (LO.fieldAddr rfl rfl ty35 rfl (by decide)) ?_
        refine RW.opd rfl rfl (LO.fieldAddr rfl rfl ty33 rfl (by decide)) ?_
        refine RW.opn rfl rfl (LO.store rfl rfl rfl rfl rfl ty31 rfl (by decide) (Sp.lit rfl)) ?_
        refine RW.nil ⟨by kernel_rfl, ?_⟩
        intro yJ KJ hJ
        refine W.renameJ [(0, 0), (1, 1), (2, 9)] 3 (by decide) ?_ ?_ (hJ (((⟨true, ph, IntKind.u64.wrap (pl + e3), 128⟩ : Pf)), a3) (show True from trivial))
        · (repeat' (first | exact LookR.nil | refine LookR.cons ?_ ?_)) <;> first | exact .inl ⟨rfl, rfl⟩ | exact .inr ⟨rfl, fun _ h => by cases h⟩ | exact .inl ⟨rfl, by first | rfl | assumption ⟩
        · (repeat' (first | exact all_mt | refine all_up ?_ ?_)) <;> first | exact ⟨rfl, _, rfl, .inr ⟨rfl, rfl⟩⟩ | exact ⟨rfl, _, rfl, .inl rfl⟩ | exact ⟨rfl, _, rfl, .inr ⟨rfl, by first | rfl | assumption ⟩⟩
    ·
      repeat (refine W.seq ?_)
      refine W.region 21 23 (by decide) rfl rfl ?_
      refine RW.opd rfl rfl (LO.eql rfl rfl rfl) ?_
      refine RW.opd rfl rfl (LO.assign rfl rfl) ?_
      refine RW.nil ?_
      repeat (refine W.seq ?_)
      refine W.cond_f rfl (by first | rfl | assumption) ?_
      repeat (refine W.seq ?_)
      refine W.region 46 48 (by decide) rfl rfl ?_
      refine RW.opd rfl rfl (LO.eql rfl rfl rfl) ?_
      refine RW.opd rfl rfl (LO.assign rfl rfl) ?_
      refine RW.nil ?_
      repeat (refine W.seq ?_)
      refine W.cond_f rfl (by first | rfl | assumption) ?_
      refine W.skip ?_
      intro yJ KJ hJ
      refine W.renameJ [(0, 0), (1, 1), (2, 9)] 3 (by decide) ?_ ?_ (hJ (((⟨pv, ph, pl, pn⟩ : Pf)), a2) (show True from trivial))
      · (repeat' (first | exact LookR.nil | refine LookR.cons ?_ ?_)) <;> first | exact .inl ⟨rfl, rfl⟩ | exact .inr ⟨rfl, fun _ h => by cases h⟩ | exact .inl ⟨rfl, by first | rfl | assumption ⟩
      · (repeat' (first | exact all_mt | refine all_up ?_ ?_)) <;> first | exact ⟨rfl, _, rfl, .inr ⟨rfl, rfl⟩⟩ | exact ⟨rfl, _, rfl, .inl rfl⟩ | exact ⟨rfl, _, rfl, .inr ⟨rfl, by first | rfl | assumption ⟩⟩
  repeat (refine W.seq ?_)
  refine W.region 85 87 (by decide) rfl rfl ?_
  refine RW.opd rfl rfl (LO.load_agg rfl rfl rfl ty35 rfl (Tk.lit rfl)) ?_
  refine RW.opn rfl rfl (LO.store rfl rfl rfl rfl rfl ty35 rfl (by decide) (Sp.lit rfl)) ?_
  refine RW.nil ?_
  repeat (refine W.seq ?_)
  refine W.ret ⟨.inl rfl, _, (up mt 0 (some (deckC l a))), (RVs.cons (RV.cellA rfl rfl ty35 rfl (Tk.lit rfl)) RVs.nil), (by (repeat' (first | exact all_mt | refine all_up ?_ ?_)) <;> rfl), ?_⟩
  exact ⟨p, a, rfl, rfl⟩
end Go.Proofs.Ytgklkocmimjifaa
