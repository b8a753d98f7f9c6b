/-
  Communities from a list of numbers.
-/
import Derived.Test.YtgklkocmimjifaaCa
namespace Go.Proofs.Ytgklkocmimjifaa
open Go.RowKit
theorem cells_tk {os : List AV} {n sz : Nat} (h : os.length = n * sz) : Tk os 0 (n * sz) os := by
  have := Tk.all os
  rwa [h] at this
def comL : List AV := [.base (.int .i64 0), .base (.int .i64 99), .base (.int .i64 0), .base (.int .i64 101), .base (.int .i64 0), .base (.int .i64 102), .base (.int .i64 99), .base (.int .i64 101), .base (.int .i64 99), .base (.int .i64 103), .base (.int .i64 500), .base (.int .i64 1), .base (.int .i64 65535), .base (.int .i64 666), .base (.int .i64 65535), .base (.int .i64 65282)]
theorem comL_at {i : Nat} (h : i < 8) : ∃ x y : Int, Tk comL (0 + i * 2) 2 [.base (.int .i64 x), .base (.int .i64 y)] := by
  rcases (show i = 0 ∨ i = 1 ∨ i = 2 ∨ i = 3 ∨ i = 4 ∨ i = 5 ∨ i = 6 ∨ i = 7 by omega) with rfl | rfl | rfl | rfl | rfl | rfl | rfl | rfl <;> exact ⟨_, _, Tk.lit rfl⟩
set_option maxHeartbeats 1000000 in
theorem comms_any (l : List Int) (at_ : Nat) (hl : l.length ≤ 9223372036854775807) :
    ∃ v H', AFn Try.prog 34 1 [.own 0 0] (up mt 0 (some (deckC l at_))) v H' ∧ ∃ (cs : List AV) (n at' : Nat), v = .isl cs n ∧ H' = up mt 0 (some (deckC l at')) := by
  refine AFn.ex Try.func34 rfl rfl (Nat.le_of_ble_eq_true rfl) ?_
  obtain ⟨a1, ha1⟩ : ∃ a1, nextAt l at_ = a1 := ⟨_, rfl⟩
  have n1 := next_any l at_ 65536 (by decide) (by decide) hl
  obtain ⟨e1, he1⟩ : ∃ e1, nextV l at_ 65536 = e1 := ⟨_, rfl⟩
  rw [he1, ha1] at n1
  repeat (refine W.seq ?_)
  refine W.region 1 2 (by decide) rfl rfl ?_
  refine RW.opd rfl rfl (LO.assign rfl rfl) ?_
  refine RW.nil ?_
  repeat (refine W.seq ?_)
  refine W.region 6 16 (by decide) rfl rfl ?_
  refine RW.opd rfl rfl (LO.build_st rfl ty83 (.cons rfl rfl rfl rfl (Sp.lit rfl) (.cons rfl rfl rfl rfl (Sp.lit rfl) .nil))) ?_
  refine RW.opd rfl rfl (LO.build_st rfl ty83 (.cons rfl rfl rfl rfl (Sp.lit rfl) (.cons rfl rfl rfl rfl (Sp.lit rfl) .nil))) ?_
  refine RW.opd rfl rfl (LO.build_st rfl ty83 (.cons rfl rfl rfl rfl (Sp.lit rfl) (.cons rfl rfl rfl rfl (Sp.lit rfl) .nil))) ?_
  refine RW.opd rfl rfl (LO.build_st rfl ty83 (.cons rfl rfl rfl rfl (Sp.lit rfl) (.cons rfl rfl rfl rfl (Sp.lit rfl) .nil))) ?_
  refine RW.opd rfl rfl (LO.build_st rfl ty83 (.cons rfl rfl rfl rfl (Sp.lit rfl) (.cons rfl rfl rfl rfl (Sp.lit rfl) .nil))) ?_
  refine RW.opd rfl rfl (LO.build_st rfl ty83 (.cons rfl rfl rfl rfl (Sp.lit rfl) (.cons rfl rfl rfl rfl (Sp.lit rfl) .nil))) ?_
  refine RW.opd rfl rfl (LO.build_st rfl ty83 (.cons rfl rfl rfl rfl (Sp.lit rfl) (.cons rfl rfl rfl rfl (Sp.lit rfl) .nil))) ?_
  refine RW.opd rfl rfl (LO.build_st rfl ty83 (.cons rfl rfl rfl rfl (Sp.lit rfl) (.cons rfl rfl rfl rfl (Sp.lit rfl) .nil))) ?_
  refine RW.opd rfl rfl (LO.buildSlice rfl ty37 ty83 (by decide) (by decide) (.cons rfl rfl rfl rfl (Sp.lit rfl) (.cons rfl rfl rfl rfl (Sp.lit rfl) (.cons rfl rfl rfl rfl (Sp.lit rfl) (.cons rfl rfl rfl rfl (Sp.lit rfl) (.cons rfl rfl rfl rfl (Sp.lit rfl) (.cons rfl rfl rfl rfl (Sp.lit rfl) (.cons rfl rfl rfl rfl (Sp.lit rfl) (.cons rfl rfl rfl rfl (Sp.lit rfl) .nil))))))))) ?_
  refine RW.opd rfl rfl (LO.assign rfl rfl) ?_
  refine RW.nil ?_
  repeat (refine W.seq ?_)
  refine W.region 20 21 (by decide) rfl rfl ?_
  refine RW.opd rfl rfl (LO.assign rfl rfl) ?_
  refine RW.nil ?_
  repeat (refine W.seq ?_)
  refine W.region 25 28 (by decide) rfl rfl ?_
  refine RW.opd rfl rfl (LO.move rfl rfl) ?_
  refine RW.opd rfl rfl (LO.call1 (fr := []) rfl rfl (n1) fok22 (.own rfl rfl (.cons rfl (.pure rfl) .nil)) rfl rfl rfl (List.cons_ne_nil _ _) (by decide) rfl) ?_
  refine RW.opd rfl rfl (LO.assign rfl rfl) ?_
  refine RW.nil ?_
  repeat (refine W.seq ?_)
  refine W.region 32 35 (by decide) rfl rfl ?_
  refine RW.opd rfl rfl (LO.move rfl rfl) ?_
  refine RW.opd rfl rfl (LO.len rfl rfl ty37) ?_
  refine RW.opd rfl rfl (LO.move rfl rfl) ?_
  refine RW.nil ?_
  refine W.name 35 (35 + 1) (t := 4) (sz := 2) rfl (by decide) (by decide) ?_
  repeat (refine W.seq ?_)
  refine W.block ?_
  refine W.loop_keep (α := Nat × Nat × List AV × Nat) (fun x => 8 - x.1) 3 (fun x => [(0, .own 0 0), (4, .osl 1 0 x.2.2.2 2), (19, .osl 2 0 8 2), (21, .base (.int .i64 (x.1 : Int)))]) (fun x => up (up (up mt 0 (some (deckC l x.2.1))) 1 (some (x.2.2.1))) 2 (some (comL))) (fun x => (x.1 ≤ 8 ∧ x.2.2.2 ≤ x.1) ∧ x.2.2.1.length = x.2.2.2 * 2 ∧ x.2.2.1.all AV.pure1 = true) (0, a1, (([] : List AV)), 0) [(0, 0), (1, 35), (2, 14)] (.cons (t := 5) rfl (by first | exact .inl rfl | exact .inr ⟨rfl, fun _ h => by cases h⟩ | (exact .inl (by assumption)) ) (.cons (t := 20) rfl (by first | exact .inl rfl | exact .inr ⟨rfl, fun _ h => by cases h⟩ | (exact .inl (by assumption)) ) .nil)) (show (0 ≤ 8 ∧ 0 ≤ 0) ∧ (([] : List AV)).length = 0 * 2 ∧ (([] : List AV)).all AV.pure1 = true from ⟨⟨by decide, by decide⟩, rfl, rfl⟩) (by decide) ?_ ?_ ?_
  · (repeat' (first | exact LookR.nil | refine LookR.cons ?_ ?_)) <;> first | exact .inl ⟨rfl, rfl⟩ | exact .inr ⟨rfl, fun _ h => by cases h⟩ | exact .inl ⟨rfl, by first | rfl | assumption ⟩
  · (repeat' (first | exact all_mt | refine all_up ?_ ?_)) <;> first | exact ⟨rfl, _, rfl, .inr ⟨rfl, rfl⟩⟩ | exact ⟨rfl, _, rfl, .inl rfl⟩ | exact ⟨rfl, _, rfl, .inr ⟨rfl, by first | rfl | assumption ⟩⟩
  rintro ⟨i, a, os, n⟩ hIA ihA
  try (dsimp only at hIA)
  try dsimp only [baseT, List.cons_append, List.nil_append]
  obtain ⟨⟨hi, hni⟩, hol, hop⟩ := hIA
  by_cases hc : i < 8
  rotate_left
  · have g1 : decide ((i : Int) < 8) = false := decide_eq_false (by omega)
    repeat (refine W.seq ?_)
    refine W.region 39 40 (by decide) rfl rfl ?_
    refine RW.opd rfl rfl (LO.lss rfl rfl rfl) ?_
    refine RW.nil ?_
    repeat (refine W.seq ?_)
    refine W.cond_f rfl (by first | rfl | assumption) ?_
    refine W.exit ?_
    repeat (refine W.seq ?_)
    refine W.region 89 91 (by decide) rfl rfl ?_
    refine RW.opd rfl rfl (LO.move rfl rfl) ?_
    refine RW.opd rfl rfl (LO.assign rfl rfl) ?_
    refine RW.nil ?_
    refine W.frz1 (t := 2) rfl rfl (cells_tk hol) hop ?_
    repeat (refine W.seq ?_)
    refine W.ret ⟨.inl rfl, _, (up mt 0 (some (deckC l a))), (RVs.cons (RV.tmp rfl) RVs.nil), (by (repeat' (first | exact all_mt | refine all_up ?_ ?_)) <;> rfl), ?_⟩
    exact ⟨os, n, a, rfl, rfl⟩
  have g1 : decide ((i : Int) < 8) = true := decide_eq_true (by omega)
  obtain ⟨x, y, hxy⟩ := comL_at hc
  have hii : (i : Int) + 1 = ((i + 1 : Nat) : Int) := by omega
  obtain ⟨e2, he2⟩ : ∃ e2, nextV l a 2 = e2 := ⟨_, rfl⟩
  obtain ⟨a2, ha2⟩ : ∃ a2, nextAt l a = a2 := ⟨_, rfl⟩
  have n2 := next_any l a 2 (by decide) (by decide) hl
  rw [he2, ha2] at n2
  repeat (refine W.seq ?_)
  refine W.region 39 40 (by decide) rfl rfl ?_
  refine RW.opd rfl rfl (LO.lss rfl rfl rfl) ?_
  refine RW.nil ?_
  repeat (refine W.seq ?_)
  refine W.cond_t rfl (by first | rfl | assumption) ?_
  refine W.skip ?_
  repeat (refine W.seq ?_)
  refine W.block ?_
  repeat (refine W.seq ?_)
  refine W.region 44 50 (by decide) rfl rfl ?_
  refine RW.opd rfl rfl (LO.move rfl rfl) ?_
  refine RW.opd rfl rfl (LO.indexAddr rfl rfl rfl rfl ty37 ty83 ?_) ?_; (· (first | omega | decide | assumption | fail | (simp; done) | (simp; omega)))
  refine RW.opd rfl rfl (LO.load_agg rfl rfl rfl ty83 rfl hxy) ?_
  refine RW.opd rfl rfl (LO.alloc rfl ty83) ?_
  refine RW.opd rfl rfl (LO.assign rfl rfl) ?_
  refine RW.opn rfl rfl (LO.store rfl rfl rfl rfl rfl ty83 rfl (by decide) (Sp.lit rfl)) ?_
  refine RW.nil ?_
  repeat (refine W.seq ?_)
  refine W.region 54 70 (by decide) rfl rfl ?_
  refine RW.opd rfl rfl (LO.move rfl rfl) ?_
  refine RW.opd rfl rfl (LO.move rfl rfl) ?_
  refine RW.opd rfl rfl (LO.mul_in rfl rfl rfl ?_) ?_; (· (first | exact IntWalk.i64_in _ (by omega) | assumption))
  refine RW.opd rfl rfl (LO.conv_in rfl rfl ty3 ty53 ?_) ?_; (· (first | exact IntWalk.u64_in _ (by omega) | assumption))
  refine RW.opd rfl rfl (LO.shr rfl rfl rfl ?_) ?_; (· (first | omega | decide | assumption | fail | (simp; done) | (simp; omega)))
  refine RW.opd rfl rfl (LO.and rfl rfl rfl) ?_
  refine RW.opd rfl rfl (LO.eql rfl rfl rfl) ?_
  obtain ⟨B, hB⟩ : ∃ B, (bitV .and .i64 (e1.fdiv (2 ^ (min (2 * (i : Int)).toNat IntKind.i64.bits))) 3 == 3) = B := ⟨_, rfl⟩
  rw [hB]
  cases B
  · have k1 : false = false := rfl
    refine RW.opd rfl rfl (LO.move rfl rfl) ?_
    refine RW.sd rfl rfl rfl ?_ rfl ?_; (· (first | rfl | assumption))
    refine RW.sd rfl rfl rfl ?_ rfl ?_; (· (first | rfl | assumption))
    refine RW.sd rfl rfl rfl ?_ rfl ?_; (· (first | rfl | assumption))
    refine RW.ud rfl rfl rfl rfl ?_
    refine RW.ud rfl rfl rfl rfl ?_
    refine RW.ud rfl rfl rfl rfl ?_
    refine RW.sd rfl rfl rfl ?_ rfl ?_; (· (first | rfl | assumption))
    refine RW.opd rfl rfl (LO.pick_f rfl rfl ?_ rfl) ?_; (· (first | rfl | assumption))
    refine RW.nil ?_
    repeat (refine W.seq ?_)
    refine W.cond_f rfl (rfl) ?_
    refine W.skip ?_
    repeat (refine W.seq ?_)
    refine W.region 83 85 (by decide) rfl rfl ?_
    refine RW.opd rfl rfl (LO.add_in rfl rfl rfl ?_) ?_; (· (first | exact IntWalk.i64_in _ (by omega) | assumption))
    refine RW.opd rfl rfl (LO.move rfl rfl) ?_
    refine RW.nil ?_
    rw [hii]
    refine WL.renameL [(0, 0), (1, 1), (2, 2)] 3 (by decide) ?_ ?_ (ihA ((i + 1), a, os, n) (show 8 - (i + 1) < 8 - i from by omega) (show ((i + 1) ≤ 8 ∧ n ≤ (i + 1)) ∧ os.length = n * 2 ∧ os.all AV.pure1 = true from ⟨⟨by omega, by omega⟩, hol, hop⟩))
    · (repeat' (first | exact LookR.nil | refine LookR.cons ?_ ?_)) <;> first | exact .inl ⟨rfl, rfl⟩ | exact .inr ⟨rfl, fun _ h => by cases h⟩ | exact .inl ⟨rfl, by first | rfl | assumption ⟩
    · (repeat' (first | exact all_mt | refine all_up ?_ ?_)) <;> first | exact ⟨rfl, _, rfl, .inr ⟨rfl, rfl⟩⟩ | exact ⟨rfl, _, rfl, .inl rfl⟩ | exact ⟨rfl, _, rfl, .inr ⟨rfl, by first | rfl | assumption ⟩⟩
  · rcases Bool.eq_false_or_eq_true (decide ((i : Int) < 6)) with k1 | k1
    ·
      refine RW.opd rfl rfl (LO.move rfl rfl) ?_
      refine RW.gd rfl rfl rfl ?_ rfl (LO.move rfl rfl) ?_; (· (first | rfl | assumption))
      refine RW.gd rfl rfl rfl ?_ rfl (LO.lss rfl rfl rfl) ?_; (· (first | rfl | assumption))
      refine RW.gd rfl rfl rfl ?_ rfl (LO.move rfl rfl) ?_; (· (first | rfl | assumption))
      refine RW.sd rfl rfl rfl ?_ rfl ?_; (· (first | rfl | assumption))
      refine RW.sd rfl rfl rfl ?_ rfl ?_; (· (first | rfl | assumption))
      refine RW.sd rfl rfl rfl ?_ rfl ?_; (· (first | rfl | assumption))
      refine RW.gd rfl rfl rfl ?_ rfl (LO.pick_t rfl rfl ?_ rfl) ?_; (· (first | rfl | assumption)); (· (first | rfl | assumption))
      refine RW.opd rfl rfl (LO.pick_t rfl rfl ?_ rfl) ?_; (· (first | rfl | assumption))
      refine RW.nil ?_
      repeat (refine W.seq ?_)
      refine W.cond_t rfl (rfl) ?_
      repeat (refine W.seq ?_)
      refine W.region 74 79 (by decide) rfl rfl ?_
      refine RW.opd rfl rfl (LO.move rfl rfl) ?_
      refine RW.opd rfl rfl (LO.load_agg rfl rfl rfl ty83 rfl (Tk.lit rfl)) ?_
      refine RW.opd rfl rfl (LO.buildSlice rfl ty37 ty83 (by decide) (by decide) (.cons rfl rfl rfl rfl (Sp.lit rfl) .nil)) ?_
      refine RW.opd rfl rfl (LO.append rfl rfl (SrcAV.own rfl rfl (Tk.lit rfl)) rfl (cells_tk hol) ty37 ty37 ty83 (by decide) (by omega) (by omega) (by decide)) ?_
      refine RW.opd rfl rfl (LO.assign rfl rfl) ?_
      refine RW.nil ?_
      repeat (refine W.seq ?_)
      refine W.region 83 85 (by decide) rfl rfl ?_
      refine RW.opd rfl rfl (LO.add_in rfl rfl rfl ?_) ?_; (· (first | exact IntWalk.i64_in _ (by omega) | assumption))
      refine RW.opd rfl rfl (LO.move rfl rfl) ?_
      refine RW.nil ?_
      rw [hii]
      have hop2 : (os ++ [AV.base (.int .i64 x), AV.base (.int .i64 y)]).all AV.pure1 = true := by rw [List.all_append, hop]; rfl
      refine WL.renameL [(0, 0), (1, 77), (2, 2)] 3 (by decide) ?_ ?_ (ihA ((i + 1), a, (os ++ [AV.base (.int .i64 x), AV.base (.int .i64 y)]), (n + 1)) (show 8 - (i + 1) < 8 - i from by omega) (show ((i + 1) ≤ 8 ∧ (n + 1) ≤ (i + 1)) ∧ (os ++ [AV.base (.int .i64 x), AV.base (.int .i64 y)]).length = (n + 1) * 2 ∧ (os ++ [AV.base (.int .i64 x), AV.base (.int .i64 y)]).all AV.pure1 = true from ⟨⟨by omega, by omega⟩, (by rw [List.length_append, hol]; show n * 2 + 2 = (n + 1) * 2; omega), hop2⟩))
      · (repeat' (first | exact LookR.nil | refine LookR.cons ?_ ?_)) <;> first | exact .inl ⟨rfl, rfl⟩ | exact .inr ⟨rfl, fun _ h => by cases h⟩ | exact .inl ⟨rfl, by first | rfl | assumption | exact hop2⟩
      · (repeat' (first | exact all_mt | refine all_up ?_ ?_)) <;> first | exact ⟨rfl, _, rfl, .inr ⟨rfl, rfl⟩⟩ | exact ⟨rfl, _, rfl, .inl rfl⟩ | exact ⟨rfl, _, rfl, .inr ⟨rfl, by first | rfl | assumption | exact hop2⟩⟩
    · rcases Bool.eq_false_or_eq_true (e2 == 0) with k2 | k2
      ·
        refine RW.opd rfl rfl (LO.move rfl rfl) ?_
        refine RW.gd rfl rfl rfl ?_ rfl (LO.move rfl rfl) ?_; (· (first | rfl | assumption))
        refine RW.gd rfl rfl rfl ?_ rfl (LO.lss rfl rfl rfl) ?_; (· (first | rfl | assumption))
        refine RW.gd rfl rfl rfl ?_ rfl (LO.move rfl rfl) ?_; (· (first | rfl | assumption))
        refine RW.gd rfl rfl rfl ?_ rfl (LO.move rfl rfl) ?_; (· (first | rfl | assumption))
        refine RW.gd rfl rfl rfl ?_ rfl (LO.call1 (fr := []) rfl rfl (n2) fok22 (.own rfl rfl (.cons rfl (.pure rfl) .nil)) rfl rfl rfl (List.cons_ne_nil _ _) (by decide) rfl) ?_; (· (first | rfl | assumption))
        refine RW.gd rfl rfl rfl ?_ rfl (LO.eql rfl rfl rfl) ?_; (· (first | rfl | assumption))
        refine RW.gd rfl rfl rfl ?_ rfl (LO.pick_f rfl rfl ?_ rfl) ?_; (· (first | rfl | assumption)); (· (first | rfl | assumption))
        refine RW.opd rfl rfl (LO.pick_t rfl rfl ?_ rfl) ?_; (· (first | rfl | assumption))
        refine RW.nil ?_
        repeat (refine W.seq ?_)
        refine W.cond_t rfl (by first | rfl | assumption) ?_
        repeat (refine W.seq ?_)
        refine W.region 74 79 (by decide) rfl rfl ?_
        refine RW.opd rfl rfl (LO.move rfl rfl) ?_
        refine RW.opd rfl rfl (LO.load_agg rfl rfl rfl ty83 rfl (Tk.lit rfl)) ?_
        refine RW.opd rfl rfl (LO.buildSlice rfl ty37 ty83 (by decide) (by decide) (.cons rfl rfl rfl rfl (Sp.lit rfl) .nil)) ?_
        refine RW.opd rfl rfl (LO.append rfl rfl (SrcAV.own rfl rfl (Tk.lit rfl)) rfl (cells_tk hol) ty37 ty37 ty83 (by decide) (by omega) (by omega) (by decide)) ?_
        refine RW.opd rfl rfl (LO.assign rfl rfl) ?_
        refine RW.nil ?_
        repeat (refine W.seq ?_)
        refine W.region 83 85 (by decide) rfl rfl ?_
        refine RW.opd rfl rfl (LO.add_in rfl rfl rfl ?_) ?_; (· (first | exact IntWalk.i64_in _ (by omega) | assumption))
        refine RW.opd rfl rfl (LO.move rfl rfl) ?_
        refine RW.nil ?_
        rw [hii]
        have hop2 : (os ++ [AV.base (.int .i64 x), AV.base (.int .i64 y)]).all AV.pure1 = true := by rw [List.all_append, hop]; rfl
        refine WL.renameL [(0, 0), (1, 77), (2, 2)] 3 (by decide) ?_ ?_ (ihA ((i + 1), a2, (os ++ [AV.base (.int .i64 x), AV.base (.int .i64 y)]), (n + 1)) (show 8 - (i + 1) < 8 - i from by omega) (show ((i + 1) ≤ 8 ∧ (n + 1) ≤ (i + 1)) ∧ (os ++ [AV.base (.int .i64 x), AV.base (.int .i64 y)]).length = (n + 1) * 2 ∧ (os ++ [AV.base (.int .i64 x), AV.base (.int .i64 y)]).all AV.pure1 = true from ⟨⟨by omega, by omega⟩, (by rw [List.length_append, hol]; show n * 2 + 2 = (n + 1) * 2; omega), hop2⟩))
        · (repeat' (first | exact LookR.nil | refine LookR.cons ?_ ?_)) <;> first | exact .inl ⟨rfl, rfl⟩ | exact .inr ⟨rfl, fun _ h => by cases h⟩ | exact .inl ⟨rfl, by first | rfl | assumption | exact hop2⟩
        · (repeat' (first | exact all_mt | refine all_up ?_ ?_)) <;> first | exact ⟨rfl, _, rfl, .inr ⟨rfl, rfl⟩⟩ | exact ⟨rfl, _, rfl, .inl rfl⟩ | exact ⟨rfl, _, rfl, .inr ⟨rfl, by first | rfl | assumption | exact hop2⟩⟩
      ·
        refine RW.opd rfl rfl (LO.move rfl rfl) ?_
        refine RW.gd rfl rfl rfl ?_ rfl (LO.move rfl rfl) ?_; (· (first | rfl | assumption))
        refine RW.gd rfl rfl rfl ?_ rfl (LO.lss rfl rfl rfl) ?_; (· (first | rfl | assumption))
        refine RW.gd rfl rfl rfl ?_ rfl (LO.move rfl rfl) ?_; (· (first | rfl | assumption))
        refine RW.gd rfl rfl rfl ?_ rfl (LO.move rfl rfl) ?_; (· (first | rfl | assumption))
        refine RW.gd rfl rfl rfl ?_ rfl (LO.call1 (fr := []) rfl rfl (n2) fok22 (.own rfl rfl (.cons rfl (.pure rfl) .nil)) rfl rfl rfl (List.cons_ne_nil _ _) (by decide) rfl) ?_; (· (first | rfl | assumption))
        refine RW.gd rfl rfl rfl ?_ rfl (LO.eql rfl rfl rfl) ?_; (· (first | rfl | assumption))
        refine RW.gd rfl rfl rfl ?_ rfl (LO.pick_f rfl rfl ?_ rfl) ?_; (· (first | rfl | assumption)); (· (first | rfl | assumption))
        refine RW.opd rfl rfl (LO.pick_t rfl rfl ?_ rfl) ?_; (· (first | rfl | assumption))
        refine RW.nil ?_
        repeat (refine W.seq ?_)
        refine W.cond_f rfl (by first | rfl | assumption) ?_
        refine W.skip ?_
        repeat (refine W.seq ?_)
        refine W.region 83 85 (by decide) rfl rfl ?_
        refine RW.opd rfl rfl (LO.add_in rfl rfl rfl ?_) ?_; (· (first | exact IntWalk.i64_in _ (by omega) | assumption))
        refine RW.opd rfl rfl (LO.move rfl rfl) ?_
        refine RW.nil ?_
        rw [hii]
        refine WL.renameL [(0, 0), (1, 1), (2, 2)] 3 (by decide) ?_ ?_ (ihA ((i + 1), a2, os, n) (show 8 - (i + 1) < 8 - i from by omega) (show ((i + 1) ≤ 8 ∧ n ≤ (i + 1)) ∧ os.length = n * 2 ∧ os.all AV.pure1 = true from ⟨⟨by omega, by omega⟩, hol, hop⟩))
        · (repeat' (first | exact LookR.nil | refine LookR.cons ?_ ?_)) <;> first | exact .inl ⟨rfl, rfl⟩ | exact .inr ⟨rfl, fun _ h => by cases h⟩ | exact .inl ⟨rfl, by first | rfl | assumption ⟩
        · (repeat' (first | exact all_mt | refine all_up ?_ ?_)) <;> first | exact ⟨rfl, _, rfl, .inr ⟨rfl, rfl⟩⟩ | exact ⟨rfl, _, rfl, .inl rfl⟩ | exact ⟨rfl, _, rfl, .inr ⟨rfl, by first | rfl | assumption ⟩⟩
def larL : List AV := [.base (.int .i64 5), .base (.int .i64 5), .base (.int .i64 5), .base (.int .i64 99), .base (.int .i64 0), .base (.int .i64 0), .base (.int .i64 99), .base (.int .i64 0), .base (.int .i64 103), .base (.int .i64 99), .base (.int .i64 1), .base (.int .i64 102), .base (.int .i64 99), .base (.int .i64 101), .base (.int .i64 0), .base (.int .i64 99), .base (.int .i64 102), .base (.int .i64 104), .base (.int .i64 99), .base (.int .i64 103), .base (.int .i64 101)]
theorem larL_at {i : Nat} (h : i < 7) : ∃ x y z : Int, Tk larL (0 + i * 3) 3 [.base (.int .i64 x), .base (.int .i64 y), .base (.int .i64 z)] := by
  rcases (show i = 0 ∨ i = 1 ∨ i = 2 ∨ i = 3 ∨ i = 4 ∨ i = 5 ∨ i = 6 by omega) with rfl | rfl | rfl | rfl | rfl | rfl | rfl <;> exact ⟨_, _, _, Tk.lit rfl⟩
set_option maxHeartbeats 1000000 in
theorem large_any (l : List Int) (at_ : Nat) (hl : l.length ≤ 9223372036854775807) :
    ∃ v H', AFn Try.prog 35 1 [.own 0 0] (up mt 0 (some (deckC l at_))) v H' ∧ ∃ (cs : List AV) (n at' : Nat), v = .isl cs n ∧ H' = up mt 0 (some (deckC l at')) := by
  refine AFn.ex Try.func35 rfl rfl (Nat.le_of_ble_eq_true rfl) ?_
  obtain ⟨a1, ha1⟩ : ∃ a1, nextAt l at_ = a1 := ⟨_, rfl⟩
  have n1 := next_any l at_ 16384 (by decide) (by decide) hl
  obtain ⟨e1, he1⟩ : ∃ e1, nextV l at_ 16384 = e1 := ⟨_, rfl⟩
  rw [he1, ha1] at n1
  repeat (refine W.seq ?_)
  refine W.region 1 2 (by decide) rfl rfl ?_
  refine RW.opd rfl rfl (LO.assign rfl rfl) ?_
  refine RW.nil ?_
  repeat (refine W.seq ?_)
  refine W.region 6 15 (by decide) rfl rfl ?_
  refine RW.opd rfl rfl (LO.build_st rfl ty85 (.cons rfl rfl rfl rfl (Sp.lit rfl) (.cons rfl rfl rfl rfl (Sp.lit rfl) (.cons rfl rfl rfl rfl (Sp.lit rfl) .nil)))) ?_
  refine RW.opd rfl rfl (LO.build_st rfl ty85 (.cons rfl rfl rfl rfl (Sp.lit rfl) (.cons rfl rfl rfl rfl (Sp.lit rfl) (.cons rfl rfl rfl rfl (Sp.lit rfl) .nil)))) ?_
  refine RW.opd rfl rfl (LO.build_st rfl ty85 (.cons rfl rfl rfl rfl (Sp.lit rfl) (.cons rfl rfl rfl rfl (Sp.lit rfl) (.cons rfl rfl rfl rfl (Sp.lit rfl) .nil)))) ?_
  refine RW.opd rfl rfl (LO.build_st rfl ty85 (.cons rfl rfl rfl rfl (Sp.lit rfl) (.cons rfl rfl rfl rfl (Sp.lit rfl) (.cons rfl rfl rfl rfl (Sp.lit rfl) .nil)))) ?_
  refine RW.opd rfl rfl (LO.build_st rfl ty85 (.cons rfl rfl rfl rfl (Sp.lit rfl) (.cons rfl rfl rfl rfl (Sp.lit rfl) (.cons rfl rfl rfl rfl (Sp.lit rfl) .nil)))) ?_
  refine RW.opd rfl rfl (LO.build_st rfl ty85 (.cons rfl rfl rfl rfl (Sp.lit rfl) (.cons rfl rfl rfl rfl (Sp.lit rfl) (.cons rfl rfl rfl rfl (Sp.lit rfl) .nil)))) ?_
  refine RW.opd rfl rfl (LO.build_st rfl ty85 (.cons rfl rfl rfl rfl (Sp.lit rfl) (.cons rfl rfl rfl rfl (Sp.lit rfl) (.cons rfl rfl rfl rfl (Sp.lit rfl) .nil)))) ?_
  refine RW.opd rfl rfl (LO.buildSlice rfl ty38 ty85 (by decide) (by decide) (.cons rfl rfl rfl rfl (Sp.lit rfl) (.cons rfl rfl rfl rfl (Sp.lit rfl) (.cons rfl rfl rfl rfl (Sp.lit rfl) (.cons rfl rfl rfl rfl (Sp.lit rfl) (.cons rfl rfl rfl rfl (Sp.lit rfl) (.cons rfl rfl rfl rfl (Sp.lit rfl) (.cons rfl rfl rfl rfl (Sp.lit rfl) .nil)))))))) ?_
  refine RW.opd rfl rfl (LO.assign rfl rfl) ?_
  refine RW.nil ?_
  repeat (refine W.seq ?_)
  refine W.region 19 20 (by decide) rfl rfl ?_
  refine RW.opd rfl rfl (LO.assign rfl rfl) ?_
  refine RW.nil ?_
  repeat (refine W.seq ?_)
  refine W.region 24 27 (by decide) rfl rfl ?_
  refine RW.opd rfl rfl (LO.move rfl rfl) ?_
  refine RW.opd rfl rfl (LO.call1 (fr := []) rfl rfl (n1) fok22 (.own rfl rfl (.cons rfl (.pure rfl) .nil)) rfl rfl rfl (List.cons_ne_nil _ _) (by decide) rfl) ?_
  refine RW.opd rfl rfl (LO.assign rfl rfl) ?_
  refine RW.nil ?_
  repeat (refine W.seq ?_)
  refine W.region 31 34 (by decide) rfl rfl ?_
  refine RW.opd rfl rfl (LO.move rfl rfl) ?_
  refine RW.opd rfl rfl (LO.len rfl rfl ty38) ?_
  refine RW.opd rfl rfl (LO.move rfl rfl) ?_
  refine RW.nil ?_
  refine W.name 34 (34 + 1) (t := 4) (sz := 3) rfl (by decide) (by decide) ?_
  repeat (refine W.seq ?_)
  refine W.block ?_
  refine W.loop_keep (α := Nat × List AV × Nat) (fun x => 7 - x.1) 3 (fun x => [(0, .own 0 0), (4, .osl 1 0 x.2.2 3), (18, .osl 2 0 7 3), (20, .base (.int .i64 (x.1 : Int)))]) (fun x => up (up (up mt 0 (some (deckC l a1))) 1 (some (x.2.1))) 2 (some (larL))) (fun x => (x.1 ≤ 7 ∧ x.2.2 ≤ x.1) ∧ x.2.1.length = x.2.2 * 3 ∧ x.2.1.all AV.pure1 = true) (0, (([] : List AV)), 0) [(0, 0), (1, 34), (2, 13)] (.cons (t := 5) rfl (by first | exact .inl rfl | exact .inr ⟨rfl, fun _ h => by cases h⟩ | (exact .inl (by assumption)) ) (.cons (t := 19) rfl (by first | exact .inl rfl | exact .inr ⟨rfl, fun _ h => by cases h⟩ | (exact .inl (by assumption)) ) .nil)) (show (0 ≤ 7 ∧ 0 ≤ 0) ∧ (([] : List AV)).length = 0 * 3 ∧ (([] : List AV)).all AV.pure1 = true from ⟨⟨by decide, by decide⟩, rfl, rfl⟩) (by decide) ?_ ?_ ?_
  · (repeat' (first | exact LookR.nil | refine LookR.cons ?_ ?_)) <;> first | exact .inl ⟨rfl, rfl⟩ | exact .inr ⟨rfl, fun _ h => by cases h⟩ | exact .inl ⟨rfl, by first | rfl | assumption ⟩
  · (repeat' (first | exact all_mt | refine all_up ?_ ?_)) <;> first | exact ⟨rfl, _, rfl, .inr ⟨rfl, rfl⟩⟩ | exact ⟨rfl, _, rfl, .inl rfl⟩ | exact ⟨rfl, _, rfl, .inr ⟨rfl, by first | rfl | assumption ⟩⟩
  rintro ⟨i, os, n⟩ hIA ihA
  try (dsimp only at hIA)
  try dsimp only [baseT, List.cons_append, List.nil_append]
  obtain ⟨⟨hi, hni⟩, hol, hop⟩ := hIA
  by_cases hc : i < 7
  rotate_left
  · have g1 : decide ((i : Int) < 7) = false := decide_eq_false (by omega)
    repeat (refine W.seq ?_)
    refine W.region 38 39 (by decide) rfl rfl ?_
    refine RW.opd rfl rfl (LO.lss rfl rfl rfl) ?_
    refine RW.nil ?_
    repeat (refine W.seq ?_)
    refine W.cond_f rfl (by first | rfl | assumption) ?_
    refine W.exit ?_
    repeat (refine W.seq ?_)
    refine W.region 79 81 (by decide) rfl rfl ?_
    refine RW.opd rfl rfl (LO.move rfl rfl) ?_
    refine RW.opd rfl rfl (LO.assign rfl rfl) ?_
    refine RW.nil ?_
    refine W.frz1 (t := 2) rfl rfl (cells_tk hol) hop ?_
    repeat (refine W.seq ?_)
    refine W.ret ⟨.inl rfl, _, (up mt 0 (some (deckC l a1))), (RVs.cons (RV.tmp rfl) RVs.nil), (by (repeat' (first | exact all_mt | refine all_up ?_ ?_)) <;> rfl), ?_⟩
    exact ⟨os, n, a1, rfl, rfl⟩
  have g1 : decide ((i : Int) < 7) = true := decide_eq_true (by omega)
  obtain ⟨x, y, z, hxy⟩ := larL_at hc
  have hii : (i : Int) + 1 = ((i + 1 : Nat) : Int) := by omega
  repeat (refine W.seq ?_)
  refine W.region 38 39 (by decide) rfl rfl ?_
  refine RW.opd rfl rfl (LO.lss rfl rfl rfl) ?_
  refine RW.nil ?_
  repeat (refine W.seq ?_)
  refine W.cond_t rfl (by first | rfl | assumption) ?_
  refine W.skip ?_
  repeat (refine W.seq ?_)
  refine W.block ?_
  repeat (refine W.seq ?_)
  refine W.region 43 49 (by decide) rfl rfl ?_
  refine RW.opd rfl rfl (LO.move rfl rfl) ?_
  refine RW.opd rfl rfl (LO.indexAddr rfl rfl rfl rfl ty38 ty85 ?_) ?_; (· (first | omega | decide | assumption | fail | (simp; done) | (simp; omega)))
  refine RW.opd rfl rfl (LO.load_agg rfl rfl rfl ty85 rfl hxy) ?_
  refine RW.opd rfl rfl (LO.alloc rfl ty85) ?_
  refine RW.opd rfl rfl (LO.assign rfl rfl) ?_
  refine RW.opn rfl rfl (LO.store rfl rfl rfl rfl rfl ty85 rfl (by decide) (Sp.lit rfl)) ?_
  refine RW.nil ?_
  repeat (refine W.seq ?_)
  refine W.region 53 60 (by decide) rfl rfl ?_
  refine RW.opd rfl rfl (LO.move rfl rfl) ?_
  refine RW.opd rfl rfl (LO.move rfl rfl) ?_
  refine RW.opd rfl rfl (LO.mul_in rfl rfl rfl ?_) ?_; (· (first | exact IntWalk.i64_in _ (by omega) | assumption))
  refine RW.opd rfl rfl (LO.conv_in rfl rfl ty3 ty53 ?_) ?_; (· (first | exact IntWalk.u64_in _ (by omega) | assumption))
  refine RW.opd rfl rfl (LO.shr rfl rfl rfl ?_) ?_; (· (first | omega | decide | assumption | fail | (simp; done) | (simp; omega)))
  refine RW.opd rfl rfl (LO.and rfl rfl rfl) ?_
  refine RW.opd rfl rfl (LO.eql rfl rfl rfl) ?_
  refine RW.nil ?_
  obtain ⟨B, hB⟩ : ∃ B, (bitV .and .i64 (e1.fdiv (2 ^ (min (2 * (i : Int)).toNat IntKind.i64.bits))) 3 == 3) = B := ⟨_, rfl⟩
  rw [hB]
  cases B
  ·
    repeat (refine W.seq ?_)
    refine W.cond_f rfl (rfl) ?_
    refine W.skip ?_
    repeat (refine W.seq ?_)
    refine W.region 73 75 (by decide) rfl rfl ?_
    refine RW.opd rfl rfl (LO.add_in rfl rfl rfl ?_) ?_; (· (first | exact IntWalk.i64_in _ (by omega) | assumption))
    refine RW.opd rfl rfl (LO.move rfl rfl) ?_
    refine RW.nil ?_
    rw [hii]
    refine WL.renameL [(0, 0), (1, 1), (2, 2)] 3 (by decide) ?_ ?_ (ihA ((i + 1), os, n) (show 7 - (i + 1) < 7 - i from by omega) (show ((i + 1) ≤ 7 ∧ n ≤ (i + 1)) ∧ os.length = n * 3 ∧ os.all AV.pure1 = true from ⟨⟨by omega, by omega⟩, hol, hop⟩))
    · (repeat' (first | exact LookR.nil | refine LookR.cons ?_ ?_)) <;> first | exact .inl ⟨rfl, rfl⟩ | exact .inr ⟨rfl, fun _ h => by cases h⟩ | exact .inl ⟨rfl, by first | rfl | assumption ⟩
    · (repeat' (first | exact all_mt | refine all_up ?_ ?_)) <;> first | exact ⟨rfl, _, rfl, .inr ⟨rfl, rfl⟩⟩ | exact ⟨rfl, _, rfl, .inl rfl⟩ | exact ⟨rfl, _, rfl, .inr ⟨rfl, by first | rfl | assumption ⟩⟩
  ·
    repeat (refine W.seq ?_)
    refine W.cond_t rfl (rfl) ?_
    repeat (refine W.seq ?_)
    refine W.region 64 69 (by decide) rfl rfl ?_
    refine RW.opd rfl rfl (LO.move rfl rfl) ?_
    refine RW.opd rfl rfl (LO.load_agg rfl rfl rfl ty85 rfl (Tk.lit rfl)) ?_
    refine RW.opd rfl rfl (LO.buildSlice rfl ty38 ty85 (by decide) (by decide) (.cons rfl rfl rfl rfl (Sp.lit rfl) .nil)) ?_
    refine RW.opd rfl rfl (LO.append rfl rfl (SrcAV.own rfl rfl (Tk.lit rfl)) rfl (cells_tk hol) ty38 ty38 ty85 (by decide) (by omega) (by omega) (by decide)) ?_
    refine RW.opd rfl rfl (LO.assign rfl rfl) ?_
    refine RW.nil ?_
    repeat (refine W.seq ?_)
    refine W.region 73 75 (by decide) rfl rfl ?_
    refine RW.opd rfl rfl (LO.add_in rfl rfl rfl ?_) ?_; (· (first | exact IntWalk.i64_in _ (by omega) | assumption))
    refine RW.opd rfl rfl (LO.move rfl rfl) ?_
    refine RW.nil ?_
    rw [hii]
    have hop2 : (os ++ [AV.base (.int .i64 x), AV.base (.int .i64 y), AV.base (.int .i64 z)]).all AV.pure1 = true := by rw [List.all_append, hop]; rfl
    refine WL.renameL [(0, 0), (1, 67), (2, 2)] 3 (by decide) ?_ ?_ (ihA ((i + 1), (os ++ [AV.base (.int .i64 x), AV.base (.int .i64 y), AV.base (.int .i64 z)]), (n + 1)) (show 7 - (i + 1) < 7 - i from by omega) (show ((i + 1) ≤ 7 ∧ (n + 1) ≤ (i + 1)) ∧ (os ++ [AV.base (.int .i64 x), AV.base (.int .i64 y), AV.base (.int .i64 z)]).length = (n + 1) * 3 ∧ (os ++ [AV.base (.int .i64 x), AV.base (.int .i64 y), AV.base (.int .i64 z)]).all AV.pure1 = true from ⟨⟨by omega, by omega⟩, (by rw [List.length_append, hol]; show n * 3 + 3 = (n + 1) * 3; omega), hop2⟩))
    · (repeat' (first | exact LookR.nil | refine LookR.cons ?_ ?_)) <;> first | exact .inl ⟨rfl, rfl⟩ | exact .inr ⟨rfl, fun _ h => by cases h⟩ | exact .inl ⟨rfl, by first | rfl | assumption | exact hop2⟩
    · (repeat' (first | exact all_mt | refine all_up ?_ ?_)) <;> first | exact ⟨rfl, _, rfl, .inr ⟨rfl, rfl⟩⟩ | exact ⟨rfl, _, rfl, .inl rfl⟩ | exact ⟨rfl, _, rfl, .inr ⟨rfl, by first | rfl | assumption | exact hop2⟩⟩
end Go.Proofs.Ytgklkocmimjifaa
