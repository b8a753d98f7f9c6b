/-
  The packet that is made from a list of numbers.
-/
import Derived.Test.YtoijkcnefnmbjaaCe
namespace Go.Proofs.Ytoijkcnefnmbjaa
open Go.RowKit
theorem u64_bd (n : Int) : U64 (IntKind.u64.wrap n) := by
  have h := IntKind.wrap_u64 n
  unfold U64; rw [h]; omega
theorem dbytes_any (l : List Int) (at_ : Nat) (n : Nat) (hn : n ≤ 1000) (hl : l.length ≤ 9223372036854775807) :
    ∃ v H', AFn Try.prog 35 1 [.own 0 0, .base (.int .i64 (n : Int))] (up mt 0 (some (deckC l at_))) v H' ∧ ∃ (L : List Int) (at' : Nat), (IsB L ∧ L.length ≤ n) ∧ v = .isl (bytesC L) L.length ∧ H' = up mt 0 (some (deckC l at')) := by
  refine AFn.ex Try.func35 rfl rfl (Nat.le_of_ble_eq_true rfl) ?_
  have n1 := next_any l at_ ((n : Int) + 1) (by omega) (by omega) hl
  have b1 := nextV_bd l at_ ((n : Int) + 1) (by omega)
  obtain ⟨k, hk⟩ : ∃ k : Nat, nextV l at_ ((n : Int) + 1) = (k : Int) := ⟨(nextV l at_ ((n : Int) + 1)).toNat, by omega⟩
  obtain ⟨a1, ha1⟩ : ∃ a1, nextAt l at_ = a1 := ⟨_, rfl⟩
  rw [hk] at b1
  rw [hk, ha1] at n1
  repeat (refine W.seq ?_)
  refine W.region 1 2 (by decide) rfl rfl ?_
  refine RW.opd rfl rfl (LO.assign rfl rfl) ?_
  refine RW.nil ?_
  repeat (refine W.seq ?_)
  refine W.region 6 7 (by decide) rfl rfl ?_
  refine RW.opd rfl rfl (LO.assign rfl rfl) ?_
  refine RW.nil ?_
  repeat (refine W.seq ?_)
  refine W.region 11 16 (by decide) rfl rfl ?_
  refine RW.opd rfl rfl (LO.move rfl rfl) ?_
  refine RW.opd rfl rfl (LO.move rfl rfl) ?_
  refine RW.opd rfl rfl (LO.add_in rfl rfl rfl ?_) ?_; (· (first | exact IntWalk.i64_in _ (by omega) | assumption))
  refine RW.opd rfl rfl (LO.call1 (fr := []) rfl rfl (n1) fok29 (.own rfl rfl (.cons rfl (.pure rfl) .nil)) rfl rfl rfl (List.cons_ne_nil _ _) (by decide) rfl) ?_
  refine RW.opd rfl rfl (LO.assign rfl rfl) ?_
  refine RW.nil ?_
  refine W.name 16 (16 + 1) (t := 5) (sz := 1) rfl (by decide) (by decide) ?_
  repeat (refine W.seq ?_)
  refine W.block ?_
  refine W.loop_keep (α := Nat × Nat × List Int) (fun x => x.1) 2 (fun x => [(0, .own 0 0), (5, .osl 1 0 x.2.2.length 1), (6, .base (.int .i64 (x.1 : Int)))]) (fun x => up (up mt 0 (some (deckC l x.2.1))) 1 (some (bytesC x.2.2))) (fun x => IsB x.2.2 ∧ x.2.2.length + x.1 ≤ n) (k, a1, (([] : List Int))) [(0, 0), (1, 16)] .nil (show IsB (([] : List Int)) ∧ (([] : List Int)).length + k ≤ n from ⟨fun x hx => (by cases hx), (by show 0 + k ≤ n; omega)⟩) (by decide) ?_ ?_ ?_
  · (repeat' (first | exact LookR.nil | refine LookR.cons ?_ ?_)) <;> first | exact .inl ⟨rfl, rfl⟩ | exact .inr ⟨rfl, fun _ h => by cases h⟩ | exact .inl ⟨rfl, by first | rfl | assumption | exact (bytesC_pure _)⟩
  · (repeat' (first | exact all_mt | refine all_up ?_ ?_)) <;> first | exact ⟨rfl, _, rfl, .inr ⟨rfl, rfl⟩⟩ | exact ⟨rfl, _, rfl, .inl rfl⟩ | exact ⟨rfl, _, rfl, .inr ⟨rfl, by first | rfl | assumption | exact (bytesC_pure _)⟩⟩
  rintro ⟨q, a, L⟩ hIA ihA
  try (dsimp only at hIA)
  try dsimp only [baseT, List.cons_append, List.nil_append]
  obtain ⟨hLB, hLq⟩ := hIA
  by_cases hq : q = 0
  · have g1 : decide ((q : Int) > 0) = false := decide_eq_false (by omega)
    repeat (refine W.seq ?_)
    refine W.region 20 22 (by decide) rfl rfl ?_
    refine RW.opd rfl rfl (LO.move rfl rfl) ?_
    refine RW.opd rfl rfl (LO.gtr rfl rfl rfl) ?_
    refine RW.nil ?_
    repeat (refine W.seq ?_)
    refine W.cond_f rfl (by first | rfl | assumption) ?_
    refine W.exit ?_
    repeat (refine W.seq ?_)
    refine W.region 44 46 (by decide) rfl rfl ?_
    refine RW.opd rfl rfl (LO.move rfl rfl) ?_
    refine RW.opd rfl rfl (LO.assign rfl rfl) ?_
    refine RW.nil ?_
    refine W.frz1 (t := 4) rfl rfl (bytes_tk rfl) (bytesC_pure _) ?_
    repeat (refine W.seq ?_)
    refine W.ret ⟨.inl rfl, _, (up mt 0 (some (deckC l a))), (RVs.cons (RV.tmp rfl) RVs.nil), (by (repeat' (first | exact all_mt | refine all_up ?_ ?_)) <;> rfl), ?_⟩
    exact ⟨L, a, ⟨hLB, by omega⟩, rfl, rfl⟩
  · have g1 : decide ((q : Int) > 0) = true := decide_eq_true (by omega)
    have n2 := next_any l a 256 (by decide) (by decide) hl
    obtain ⟨e, he⟩ : ∃ e, nextV l a 256 = e := ⟨_, rfl⟩
    obtain ⟨a2, ha2⟩ : ∃ a2, nextAt l a = a2 := ⟨_, rfl⟩
    rw [he, ha2] at n2
    have hqq : (q : Int) - 1 = ((q - 1 : Nat) : Int) := by omega
    have hap : bytesC L ++ [AV.base (.int .u8 (IntKind.u8.wrap e))] = bytesC (L ++ [IntKind.u8.wrap e]) := by rw [bytesC_app]; rfl
    have hl1 : L.length + 1 = (L ++ [IntKind.u8.wrap e]).length := by simp
    repeat (refine W.seq ?_)
    refine W.region 20 22 (by decide) rfl rfl ?_
    refine RW.opd rfl rfl (LO.move rfl rfl) ?_
    refine RW.opd rfl rfl (LO.gtr rfl rfl rfl) ?_
    refine RW.nil ?_
    repeat (refine W.seq ?_)
    refine W.cond_t rfl (by first | rfl | assumption) ?_
    refine W.skip ?_
    repeat (refine W.seq ?_)
    refine W.block ?_
    repeat (refine W.seq ?_)
    refine W.region 26 33 (by decide) rfl rfl ?_
    refine RW.opd rfl rfl (LO.move rfl rfl) ?_
    refine RW.opd rfl rfl (LO.move rfl rfl) ?_
    refine RW.opd rfl rfl (LO.call1 (fr := []) rfl rfl (n2) fok29 (.own rfl rfl (.cons rfl (.pure rfl) .nil)) rfl rfl rfl (List.cons_ne_nil _ _) (by decide) rfl) ?_
    refine RW.opd rfl rfl (LO.conv rfl rfl ty3 ty5) ?_
    refine RW.opd rfl rfl (LO.buildSlice rfl ty25 ty5 (by decide) (by decide) (.cons rfl rfl rfl rfl (Sp.lit rfl) .nil)) ?_
    refine RW.opd rfl rfl (LO.append rfl rfl (SrcAV.own rfl rfl (Tk.lit rfl)) rfl (bytes_tk rfl) ty25 ty25 ty5 (by decide) (by omega) (by omega) (by decide)) ?_
    refine RW.opd rfl rfl (LO.assign rfl rfl) ?_
    refine RW.nil ?_
    rw [hap, hl1]
    repeat (refine W.seq ?_)
    refine W.region 37 40 (by decide) rfl rfl ?_
    refine RW.opd rfl rfl (LO.move rfl rfl) ?_
    refine RW.opd rfl rfl (LO.sub_in rfl rfl rfl ?_) ?_; (· (first | exact IntWalk.i64_in _ (by omega) | assumption))
    refine RW.opd rfl rfl (LO.assign rfl rfl) ?_
    refine RW.nil ?_
    rw [hqq]
    refine WL.renameL [(0, 0), (1, 31)] 2 (by decide) ?_ ?_ (ihA ((q - 1), a2, (L ++ [IntKind.u8.wrap e])) (show (q - 1) < q from by omega) (show IsB (L ++ [IntKind.u8.wrap e]) ∧ (L ++ [IntKind.u8.wrap e]).length + (q - 1) ≤ n from ⟨hLB.append (fun x hx => by rw [List.mem_singleton] at hx; subst hx; exact u8_bd _), by rw [← hl1]; omega⟩))
    · (repeat' (first | exact LookR.nil | refine LookR.cons ?_ ?_)) <;> first | exact .inl ⟨rfl, rfl⟩ | exact .inr ⟨rfl, fun _ h => by cases h⟩ | exact .inl ⟨rfl, by first | rfl | assumption | exact (bytesC_pure _)⟩
    · (repeat' (first | exact all_mt | refine all_up ?_ ?_)) <;> first | exact ⟨rfl, _, rfl, .inr ⟨rfl, rfl⟩⟩ | exact ⟨rfl, _, rfl, .inl rfl⟩ | exact ⟨rfl, _, rfl, .inr ⟨rfl, by first | rfl | assumption | exact (bytesC_pure _)⟩⟩
set_option maxHeartbeats 1000000 in
theorem pmade_any (l : List Int) (at_ : Nat) (hl : l.length ≤ 9223372036854775807) :
    ∃ v H', AFn Try.prog 12 1 [.own 0 0] (up mt 0 (some (deckC l at_))) v H' ∧ ∃ (p : Pk) (at' : Nat), (IsB p.bs ∧ p.bs.length ≤ 2000 ∧ GoodA p.s ∧ GoodA p.d) ∧ v = .agg (pkC p) ∧ H' = up mt 0 (some (deckC l at')) := by
  refine AFn.ex Try.func12 rfl rfl (Nat.le_of_ble_eq_true rfl) ?_
  obtain ⟨_, _, n1, x, a1, ⟨_, x2, x3⟩, rfl, rfl⟩ := daddr_any l at_ hl
  obtain ⟨_, _, n2, y, a2, ⟨_, y2, y3⟩, rfl, rfl⟩ := daddr_any l a1 hl
  have n3 := next_any l a2 7 (by decide) (by decide) hl
  have b3 := nextV_bd l a2 7 (by decide)
  obtain ⟨k3, hk3⟩ : ∃ k : Nat, nextV l a2 7 = (k : Int) := ⟨(nextV l a2 7).toNat, by omega⟩
  obtain ⟨a3, ha3⟩ : ∃ a3, nextAt l a2 = a3 := ⟨_, rfl⟩
  rw [hk3] at b3
  rw [hk3, ha3] at n3
  have n4 := next_any l a3 5 (by decide) (by decide) hl
  have b4 := nextV_bd l a3 5 (by decide)
  obtain ⟨k4, hk4⟩ : ∃ k : Nat, nextV l a3 5 = (k : Int) := ⟨(nextV l a3 5).toNat, by omega⟩
  obtain ⟨a4, ha4⟩ : ∃ a4, nextAt l a3 = a4 := ⟨_, rfl⟩
  rw [hk4] at b4
  rw [hk4, ha4] at n4
  obtain ⟨_, _, n5, L, a5, ⟨hLB, hLl⟩, rfl, rfl⟩ := dbytes_any l a4 40 (by decide) hl
  obtain ⟨pv, hpv⟩ : ∃ pv : Int, ([.base (.int .i64 1), .base (.int .i64 6), .base (.int .i64 17), .base (.int .i64 58), .base (.int .i64 0), .base (.int .i64 255), .base (.int .i64 256)] : List AV)[0 + k3 * 1]? = some (.base (.int .i64 pv)) := by
    rcases (show k3 = 0 ∨ k3 = 1 ∨ k3 = 2 ∨ k3 = 3 ∨ k3 = 4 ∨ k3 = 5 ∨ k3 = 6 by omega) with rfl | rfl | rfl | rfl | rfl | rfl | rfl <;> exact ⟨_, rfl⟩
  obtain ⟨tv, htv⟩ : ∃ tv : Int, ([.base (.int .i64 64), .base (.int .i64 255), .base (.int .i64 1), .base (.int .i64 0), .base (.int .i64 256)] : List AV)[0 + k4 * 1]? = some (.base (.int .i64 tv)) := by
    rcases (show k4 = 0 ∨ k4 = 1 ∨ k4 = 2 ∨ k4 = 3 ∨ k4 = 4 by omega) with rfl | rfl | rfl | rfl | rfl <;> exact ⟨_, rfl⟩
  obtain ⟨xv, xh, xl⟩ := x
  obtain ⟨yv, yh, yl⟩ := y
  unfold adC at n1 n2
  repeat (refine W.seq ?_)
  refine W.region 1 2 (by decide) rfl rfl ?_
  refine RW.opd rfl rfl (LO.alloc rfl ty27) ?_
  refine RW.nil ?_
  repeat (refine W.seq ?_)
  refine W.regionD 6 25 (by decide) rfl mixed rfl ?_
  refine RW.opd rfl rfl (LO.move rfl rfl) ?_
  refine RW.opd rfl rfl (LO.call1 (fr := []) rfl rfl (n1) fok34 (.own rfl rfl .nil) rfl rfl rfl (List.cons_ne_nil _ _) (by decide) rfl) ?_
  refine RW.opd rfl rfl (LO.move rfl rfl) ?_
  refine RW.opd rfl rfl (LO.call1 (fr := []) rfl rfl (n2) fok34 (.own rfl rfl .nil) rfl rfl rfl (List.cons_ne_nil _ _) (by decide) rfl) ?_
  refine RW.opd rfl rfl (LO.buildSlice rfl ty28 ty3 (by decide) (by decide) (.cons rfl rfl rfl rfl (Sp.lit rfl) (.cons rfl rfl rfl rfl (Sp.lit rfl) (.cons rfl rfl rfl rfl (Sp.lit rfl) (.cons rfl rfl rfl rfl (Sp.lit rfl) (.cons rfl rfl rfl rfl (Sp.lit rfl) (.cons rfl rfl rfl rfl (Sp.lit rfl) (.cons rfl rfl rfl rfl (Sp.lit rfl) .nil)))))))) ?_
  refine RW.opd rfl rfl (LO.move rfl rfl) ?_
  refine RW.opd rfl rfl (LO.call1 (fr := []) rfl rfl (n3) fok29 (.own rfl rfl (.cons rfl (.pure rfl) .nil)) rfl rfl rfl (List.cons_ne_nil _ _) (by decide) rfl) ?_
  refine RW.opd rfl rfl (LO.indexAddr rfl rfl rfl rfl ty28 ty3 ?_) ?_; (· (first | omega | decide | assumption | fail | (simp; done) | (simp; omega)))
  refine RW.opd rfl rfl (LO.load rfl rfl rfl hpv ty3 rfl) ?_
  refine RW.opd rfl rfl (LO.buildSlice rfl ty28 ty3 (by decide) (by decide) (.cons rfl rfl rfl rfl (Sp.lit rfl) (.cons rfl rfl rfl rfl (Sp.lit rfl) (.cons rfl rfl rfl rfl (Sp.lit rfl) (.cons rfl rfl rfl rfl (Sp.lit rfl) (.cons rfl rfl rfl rfl (Sp.lit rfl) .nil)))))) ?_
  refine RW.opd rfl rfl (LO.move rfl rfl) ?_
  refine RW.opd rfl rfl (LO.call1 (fr := []) rfl rfl (n4) fok29 (.own rfl rfl (.cons rfl (.pure rfl) .nil)) rfl rfl rfl (List.cons_ne_nil _ _) (by decide) rfl) ?_
  refine RW.opd rfl rfl (LO.indexAddr rfl rfl rfl rfl ty28 ty3 ?_) ?_; (· (first | omega | decide | assumption | fail | (simp; done) | (simp; omega)))
  refine RW.opd rfl rfl (LO.load rfl rfl rfl htv ty3 rfl) ?_
  refine RW.opd rfl rfl (LO.move rfl rfl) ?_
  refine RW.opd rfl rfl (LO.call1 (fr := []) rfl rfl (n5) fok35 (.own rfl rfl (.cons rfl (.pure rfl) .nil)) rfl rfl rfl (List.cons_ne_nil _ _) (by decide) rfl) ?_
  refine RW.opd rfl rfl (LO.build_st rfl ty27 (.cons rfl rfl rfl rfl (Sp.lit rfl) (.cons rfl rfl rfl rfl (Sp.lit rfl) (.cons rfl rfl rfl rfl (Sp.lit rfl) (.cons rfl rfl rfl rfl (Sp.lit rfl) (.cons rfl rfl rfl rfl (Sp.lit rfl) .nil)))))) ?_
  refine RW.opd rfl rfl (LO.alloc rfl ty27) ?_
  refine RW.opn rfl rfl (LO.store rfl rfl rfl rfl rfl ty27 rfl (by decide) (Sp.lit rfl)) ?_
  refine RW.nil ⟨by kernel_rfl, ?_⟩
  obtain ⟨e1, he1⟩ : ∃ e1, nextV l a5 3 = e1 := ⟨_, rfl⟩
  obtain ⟨a6, ha6⟩ : ∃ a6, nextAt l a5 = a6 := ⟨_, rfl⟩
  have n6 := next_any l a5 3 (by decide) (by decide) hl
  rw [he1, ha6] at n6
  repeat (refine W.seq ?_)
  refine W.region 29 32 (by decide) rfl rfl ?_
  refine RW.opd rfl rfl (LO.move rfl rfl) ?_
  refine RW.opd rfl rfl (LO.call1 (fr := []) rfl rfl (n6) fok29 (.own rfl rfl (.cons rfl (.pure rfl) .nil)) rfl rfl rfl (List.cons_ne_nil _ _) (by decide) rfl) ?_
  refine RW.opd rfl rfl (LO.gtr rfl rfl rfl) ?_
  refine RW.nil ?_
  refine W.joinK (α := Ad × Nat) 3 (fun x => [(0, .own 0 0), (2, .own 1 0), (3, .own 2 0)]) (fun x => up (up (up mt 0 (some (deckC l x.2))) 1 (some ([.base (.bool false), .base (.int .u64 0), .base (.int .u64 0), .base (.bool false), .base (.int .u64 0), .base (.int .u64 0), .base (.int .i64 0), .base (.int .i64 0), .nils]))) 2 (some (pkC ⟨⟨xv, xh, xl⟩, x.1, pv, tv, L⟩))) (fun x => GoodA x.1) .nil ?_ ?_
  rotate_left
  rintro ⟨d, a⟩ hIJ
  try (dsimp only at hIJ)
  try dsimp only [joinT, baseT, List.cons_append, List.nil_append]
  rotate_right
  · rcases Bool.eq_false_or_eq_true (decide (e1 > 0)) with g1 | g1
    · obtain ⟨e2, he2⟩ : ∃ e2, nextV l a6 256 = e2 := ⟨_, rfl⟩
      have b2 := nextV_bd l a6 256 (by decide)
      obtain ⟨a7, ha7⟩ : ∃ a7, nextAt l a6 = a7 := ⟨_, rfl⟩
      have n7 := next_any l a6 256 (by decide) (by decide) hl
      rw [he2] at b2
      rw [he2, ha7] at n7
      repeat (refine W.seq ?_)
      refine W.cond_t rfl (by first | rfl | assumption) ?_
      repeat (refine W.seq ?_)
      refine W.region 36 40 (by decide) rfl rfl ?_
      refine RW.opd rfl rfl (LO.fieldAddr rfl rfl ty27 rfl (by decide)) ?_
      refine RW.opd rfl rfl (LO.load_agg rfl rfl rfl ty24 rfl (Tk.lit rfl)) ?_
      refine RW.opd rfl rfl (LO.fieldAddr rfl rfl ty27 rfl (by decide)) ?_
      refine RW.opn rfl rfl (LO.store rfl rfl rfl rfl rfl ty24 rfl (by decide) (Sp.lit rfl)) ?_
      refine RW.nil ?_
      repeat (refine W.seq ?_)
      refine W.regionD 44 54 (by decide) rfl mixed rfl ?_
      refine RW.opd rfl rfl (LO.fieldAddr rfl rfl ty27 rfl (by decide)) ?_
      refine RW.opd rfl rfl (LO.fieldAddr rfl rfl ty24 rfl (by decide)) ?_
      refine RW.opd rfl rfl (LO.load rfl rfl rfl rfl ty22 rfl) ?_
      refine RW.opd rfl rfl (LO.move rfl rfl) ?_
      refine RW.opd rfl rfl (LO.call1 (fr := []) rfl rfl (n7) fok29 (.own rfl rfl (.cons rfl (.pure rfl) .nil)) rfl rfl rfl (List.cons_ne_nil _ _) (by decide) rfl) ?_
      refine RW.opd rfl rfl (LO.conv_in rfl rfl ty3 ty22 ?_) ?_; (· (first | exact IntWalk.u64_in _ (by omega) | assumption))
      refine RW.opd rfl rfl (LO.xor rfl rfl rfl) ?_
      refine RW.opd rfl rfl (LO.fieldAddr rfl rfl ty27 rfl (by decide)) ?_
      refine RW.opd rfl rfl (LO.fieldAddr rfl rfl ty24 rfl (by decide)) ?_
      refine RW.opn rfl rfl (LO.store rfl rfl rfl rfl rfl ty22 rfl (by decide) (Sp.lit rfl)) ?_
      refine RW.nil ⟨by kernel_rfl, ?_⟩
      intro yJ KJ hJ
      refine W.renameJ [(0, 0), (1, 1), (2, 23)] 3 (by decide) ?_ ?_ (hJ (((⟨xv, xh, bitV .xor .u64 xl e2⟩ : Ad)), a7) (show GoodA ((⟨xv, xh, bitV .xor .u64 xl e2⟩ : Ad)) from ⟨x2, u64_bd _⟩))
      · (repeat' (first | exact LookR.nil | refine LookR.cons ?_ ?_)) <;> first | exact .inl ⟨rfl, rfl⟩ | exact .inr ⟨rfl, fun _ h => by cases h⟩ | exact .inl ⟨rfl, by first | rfl | assumption ⟩
      · (repeat' (first | exact all_mt | refine all_up ?_ ?_)) <;> first | exact ⟨rfl, _, rfl, .inr ⟨rfl, rfl⟩⟩ | exact ⟨rfl, _, rfl, .inl rfl⟩ | exact ⟨rfl, _, rfl, .inr ⟨rfl, by first | rfl | assumption ⟩⟩
    ·
      repeat (refine W.seq ?_)
      refine W.cond_f rfl (by first | rfl | assumption) ?_
      refine W.skip ?_
      intro yJ KJ hJ
      refine W.renameJ [(0, 0), (1, 1), (2, 23)] 3 (by decide) ?_ ?_ (hJ (((⟨yv, yh, yl⟩ : Ad)), a6) (show GoodA ((⟨yv, yh, yl⟩ : Ad)) from ⟨y2, y3⟩))
      · (repeat' (first | exact LookR.nil | refine LookR.cons ?_ ?_)) <;> first | exact .inl ⟨rfl, rfl⟩ | exact .inr ⟨rfl, fun _ h => by cases h⟩ | exact .inl ⟨rfl, by first | rfl | assumption ⟩
      · (repeat' (first | exact all_mt | refine all_up ?_ ?_)) <;> first | exact ⟨rfl, _, rfl, .inr ⟨rfl, rfl⟩⟩ | exact ⟨rfl, _, rfl, .inl rfl⟩ | exact ⟨rfl, _, rfl, .inr ⟨rfl, by first | rfl | assumption ⟩⟩
  have hd : GoodA d := hIJ
  clear hIJ n1 n2 n3 n4 n5 n6
  obtain ⟨e3, he3⟩ : ∃ e3, nextV l a 12 = e3 := ⟨_, rfl⟩
  obtain ⟨a7, ha7⟩ : ∃ a7, nextAt l a = a7 := ⟨_, rfl⟩
  have n6 := next_any l a 12 (by decide) (by decide) hl
  rw [he3, ha7] at n6
  repeat (refine W.seq ?_)
  refine W.region 58 61 (by decide) rfl rfl ?_
  refine RW.opd rfl rfl (LO.move rfl rfl) ?_
  refine RW.opd rfl rfl (LO.call1 (fr := []) rfl rfl (n6) fok29 (.own rfl rfl (.cons rfl (.pure rfl) .nil)) rfl rfl rfl (List.cons_ne_nil _ _) (by decide) rfl) ?_
  refine RW.opd rfl rfl (LO.eql rfl rfl rfl) ?_
  refine RW.nil ?_
  refine W.joinK (α := List Int × Nat) 3 (fun x => [(0, .own 0 0), (2, .own 1 0), (3, .own 2 0)]) (fun x => up (up (up mt 0 (some (deckC l x.2))) 1 (some ([.base (.bool false), .base (.int .u64 0), .base (.int .u64 0), .base (.bool false), .base (.int .u64 0), .base (.int .u64 0), .base (.int .i64 0), .base (.int .i64 0), .nils]))) 2 (some (pkC ⟨⟨xv, xh, xl⟩, d, pv, tv, x.1⟩))) (fun x => IsB x.1 ∧ x.1.length ≤ 2000) .nil ?_ ?_
  rotate_left
  rintro ⟨M, c⟩ hIK
  try (dsimp only at hIK)
  try dsimp only [joinT, baseT, List.cons_append, List.nil_append]
  rotate_right
  · rcases Bool.eq_false_or_eq_true (e3 == 11) with g1 | g1
    · have n7 := next_any l a7 3 (by decide) (by decide) hl
      have b2 := nextV_bd l a7 3 (by decide)
      obtain ⟨w, hw⟩ : ∃ w : Nat, nextV l a7 3 = (w : Int) := ⟨(nextV l a7 3).toNat, by omega⟩
      obtain ⟨a8, ha8⟩ : ∃ a8, nextAt l a7 = a8 := ⟨_, rfl⟩
      rw [hw] at b2
      rw [hw, ha8] at n7
      have hw2 : (1460 : Int) + (w : Int) * 10 = ((1460 + w * 10 : Nat) : Int) := by omega
      have hrl : (List.replicate (1460 + w * 10) (0 : Int)).length = 1460 + w * 10 := List.length_replicate
      rw [pk_lit2]
      dsimp only
      repeat (refine W.seq ?_)
      refine W.cond_t rfl (by first | rfl | assumption) ?_
      repeat (refine W.seq ?_)
      refine W.region 65 72 (by decide) rfl rfl ?_
      refine RW.opd rfl rfl (LO.move rfl rfl) ?_
      refine RW.opd rfl rfl (LO.call1 (fr := []) rfl rfl (n7) fok29 (.own rfl rfl (.cons rfl (.pure rfl) .nil)) rfl rfl rfl (List.cons_ne_nil _ _) (by decide) rfl) ?_
      refine RW.opd rfl rfl (LO.mul_in rfl rfl rfl ?_) ?_; (· (first | exact IntWalk.i64_in _ (by omega) | assumption))
      refine RW.opd rfl rfl (LO.add_in rfl rfl rfl ?_) ?_; (· (first | exact IntWalk.i64_in _ (by omega) | assumption))
      refine RW.opd rfl rfl (LO.makeSlice rfl rfl rfl rfl rfl ty25 ty5 (by decide) ?_ ?_ ?_) ?_; (· (first | omega | decide | assumption | fail | (simp; done) | (simp; omega))); (· (first | omega | decide | assumption | fail | (simp; done) | (simp; omega))); (· (first | omega | decide | assumption | fail | (simp; done) | (simp; omega)))
      refine RW.opd rfl rfl (LO.fieldAddr rfl rfl ty27 rfl (by decide)) ?_
      refine RW.opn rfl rfl (LO.store rfl rfl rfl rfl rfl ty25 rfl (by decide) (Sp.lit rfl)) ?_
      refine RW.nil ?_
      rw [zerosB]
      intro yJ KJ hJ
      refine W.frzc (q := 2) (j := 8) (r := 69) rfl rfl (by decide) rfl (bytes_tk hrl) (bytesC_pure _) (Sp.lit rfl) ?_
      rw [show AV.isl (bytesC (List.replicate (1460 + w * 10) 0)) (1460 + w * 10) = AV.isl (bytesC (List.replicate (1460 + w * 10) 0)) (List.replicate (1460 + w * 10) (0 : Int)).length from by rw [hrl]]
      refine W.renameJ [(0, 0), (1, 1), (2, 2)] 3 (by decide) ?_ ?_ (hJ ((List.replicate (1460 + w * 10) 0), a8) (show IsB (List.replicate (1460 + w * 10) 0) ∧ (List.replicate (1460 + w * 10) 0).length ≤ 2000 from ⟨fun x hx => (by rw [(List.mem_replicate.1 hx).2]; decide), by rw [hrl]; omega⟩))
      · (repeat' (first | exact LookR.nil | refine LookR.cons ?_ ?_)) <;> first | exact .inl ⟨rfl, rfl⟩ | exact .inr ⟨rfl, fun _ h => by cases h⟩ | exact .inl ⟨rfl, by first | rfl | assumption ⟩
      · (repeat' (first | exact all_mt | refine all_up ?_ ?_)) <;> first | exact ⟨rfl, _, rfl, .inr ⟨rfl, rfl⟩⟩ | exact ⟨rfl, _, rfl, .inl rfl⟩ | exact ⟨rfl, _, rfl, .inr ⟨rfl, by first | rfl | assumption ⟩⟩
    ·
      repeat (refine W.seq ?_)
      refine W.cond_f rfl (by first | rfl | assumption) ?_
      refine W.skip ?_
      intro yJ KJ hJ
      refine W.renameJ [(0, 0), (1, 1), (2, 2)] 3 (by decide) ?_ ?_ (hJ (L, a7) (show IsB L ∧ L.length ≤ 2000 from ⟨hLB, by omega⟩))
      · (repeat' (first | exact LookR.nil | refine LookR.cons ?_ ?_)) <;> first | exact .inl ⟨rfl, rfl⟩ | exact .inr ⟨rfl, fun _ h => by cases h⟩ | exact .inl ⟨rfl, by first | rfl | assumption ⟩
      · (repeat' (first | exact all_mt | refine all_up ?_ ?_)) <;> first | exact ⟨rfl, _, rfl, .inr ⟨rfl, rfl⟩⟩ | exact ⟨rfl, _, rfl, .inl rfl⟩ | exact ⟨rfl, _, rfl, .inr ⟨rfl, by first | rfl | assumption ⟩⟩
  obtain ⟨hMB, hMl⟩ := hIK
  repeat (refine W.seq ?_)
  refine W.region 76 78 (by decide) rfl rfl ?_
  refine RW.opd rfl rfl (LO.load_agg rfl rfl rfl ty27 rfl (Tk.lit rfl)) ?_
  refine RW.opn rfl rfl (LO.store rfl rfl rfl rfl rfl ty27 rfl (by decide) (Sp.lit rfl)) ?_
  refine RW.nil ?_
  repeat (refine W.seq ?_)
  refine W.ret ⟨.inl rfl, _, (up mt 0 (some (deckC l c))), (RVs.cons (RV.cellA rfl rfl ty27 rfl (Tk.lit rfl)) RVs.nil), (by (repeat' (first | exact all_mt | refine all_up ?_ ?_)) <;> rfl), ?_⟩
  exact ⟨⟨⟨xv, xh, xl⟩, d, pv, tv, M⟩, c, ⟨hMB, hMl, ⟨x2, x3⟩, hd⟩, rfl, rfl⟩
theorem AFn.nils1 {P : Program} {f : FuncId} {v : AV} {H' : Hp} (h : AFn P f 0 [.isl [] 0] mt v H') : AFn P f 0 [.nils] mt v H' := fun X φ w vals h1 h2 h3 h4 =>
  h X φ w vals h1 (fun i x a hx ha => by
    match i with
    | 0 =>
      simp at ha; subst ha
      exact (h2 0 x .nils hx rfl).nil_isl
    | i + 1 => simp at ha) h3 h4
theorem pawake_any : AFn Try.prog 10 0 [] mt (.base (.bool true)) mt := by
  refine AFn.eq Try.func10 rfl rfl (Nat.le_of_ble_eq_true rfl) ?_
  have h1 := sum_any [0, 1, 242, 3, 244, 245, 246, 247] (by intro x hx; simp only [List.mem_cons, List.not_mem_nil, or_false] at hx; omega) (by decide)
  have h2 := sum_any [] (by intro x hx; cases hx) (by decide)
  have e1 : sumL [0, 1, 242, 3, 244, 245, 246, 247] = 8717 := by decide
  have e2 : sumL [] = 65535 := by decide
  rw [e1] at h1
  rw [e2] at h2
  have h2 := AFn.nils1 h2
  repeat (refine W.seq ?_)
  refine W.region 0 1 (by decide) rfl rfl ?_
  refine RW.opd rfl rfl (LO.assign rfl rfl) ?_
  refine RW.nil ?_
  repeat (refine W.seq ?_)
  refine W.region 5 13 (by decide) rfl rfl ?_
  refine RW.opd rfl rfl (LO.buildSlice rfl ty25 ty5 (by decide) (by decide) (.cons rfl rfl rfl rfl (Sp.lit rfl) (.cons rfl rfl rfl rfl (Sp.lit rfl) (.cons rfl rfl rfl rfl (Sp.lit rfl) (.cons rfl rfl rfl rfl (Sp.lit rfl) (.cons rfl rfl rfl rfl (Sp.lit rfl) (.cons rfl rfl rfl rfl (Sp.lit rfl) (.cons rfl rfl rfl rfl (Sp.lit rfl) (.cons rfl rfl rfl rfl (Sp.lit rfl) .nil))))))))) ?_
  refine RW.opd rfl rfl (LO.callB (fr := [5]) rfl rfl (h1) fok33 (.cons rfl (.one (.osl (by decide) rfl (Tk.lit rfl) rfl)) .nil)) ?_
  refine RW.opd rfl rfl (LO.eql rfl rfl rfl) ?_
  refine RW.opd rfl rfl (LO.move rfl rfl) ?_
  refine RW.gd rfl rfl rfl ?_ rfl (LO.call0 (fr := []) rfl rfl (h2) fok33 (.cons rfl (.pure rfl) .nil) rfl) ?_; (· (first | rfl | assumption))
  refine RW.gd rfl rfl rfl ?_ rfl (LO.eql rfl rfl rfl) ?_; (· (first | rfl | assumption))
  refine RW.opd rfl rfl (LO.pick_t rfl rfl ?_ rfl) ?_; (· (first | rfl | assumption))
  refine RW.opd rfl rfl (LO.assign rfl rfl) ?_
  refine RW.nil ?_
  repeat (refine W.seq ?_)
  refine W.ret ⟨.inl rfl, _, mt, RVs.cons (RV.tmp rfl) (RVs.nil), all_mt, ?_⟩
  exact ⟨rfl, rfl⟩
end Go.Proofs.Ytoijkcnefnmbjaa
