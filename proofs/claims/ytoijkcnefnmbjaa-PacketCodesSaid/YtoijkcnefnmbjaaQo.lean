/-
  The message that is made from a list of numbers, and two addresses.
-/
import Derived.Test.YtoijkcnefnmbjaaQn
namespace Go.Proofs.Ytoijkcnefnmbjaa
open Go.RowKit
def GoodN (n : Nb) : Prop := (n.ln.length = 6 ∧ IsB n.ln) ∧ U64 n.tg.hi ∧ U64 n.tg.lo
def GoodA (a : Ad) : Prop := U64 a.hi ∧ U64 a.lo
theorem u64z : U64 0 := ⟨by decide, by decide⟩
theorem GoodA.z (b : Bool) : GoodA ⟨b, 0, 0⟩ := ⟨u64z, u64z⟩
theorem zMac_isB : IsB zMac := fun x hx => by
  simp only [zMac, List.mem_cons, List.not_mem_nil, or_false] at hx
  rcases hx with rfl | rfl | rfl | rfl | rfl | rfl <;> decide
theorem sp_tg {a b c d e f c' d' e' : AV} {m : List Int} : Sp ([a, b, c, d, e, f] ++ bytesC m) (0 + 2) [c', d', e'] ([a, b, c', d', e', f] ++ bytesC m) := by
  refine ⟨by simp, by simp, fun j x hj => ?_⟩
  match j with
  | 0 => exact .inr ⟨.inl (by omega), hj⟩
  | 1 => exact .inr ⟨.inl (by omega), hj⟩
  | 2 => exact .inl ⟨by omega, hj⟩
  | 3 => exact .inl ⟨by omega, hj⟩
  | 4 => exact .inl ⟨by omega, hj⟩
  | 5 => exact .inr ⟨.inr (by simp), hj⟩
  | j + 6 => exact .inr ⟨.inr (by simp), hj⟩
theorem sp_v6 {a b c d e f c' : AV} {m : List Int} : Sp ([a, b, c, d, e, f] ++ bytesC m) (0 + 2 + 0) [c'] ([a, b, c', d, e, f] ++ bytesC m) := by
  refine ⟨by simp, by simp, fun j x hj => ?_⟩
  match j with
  | 0 => exact .inr ⟨.inl (by omega), hj⟩
  | 1 => exact .inr ⟨.inl (by omega), hj⟩
  | 2 => exact .inl ⟨by omega, hj⟩
  | j + 3 => exact .inr ⟨.inr (by simp), hj⟩
theorem sp_fl {a b c d e f b' : AV} {m : List Int} : Sp ([a, b, c, d, e, f] ++ bytesC m) (0 + 1) [b'] ([a, b', c, d, e, f] ++ bytesC m) := by
  refine ⟨by simp, by simp, fun j x hj => ?_⟩
  match j with
  | 0 => exact .inr ⟨.inl (by omega), hj⟩
  | 1 => exact .inl ⟨by omega, hj⟩
  | j + 2 => exact .inr ⟨.inr (by simp), hj⟩
theorem made_any (l : List Int) (at_ : Nat) (hl : l.length ≤ 9223372036854775807) :
    ∃ v H', AFn Try.prog 23 1 [.own 0 0] (up mt 0 (some (deckC l at_))) v H' ∧ ∃ (n : Nb) (x y : Ad) (at' : Nat), (GoodN n ∧ GoodA x ∧ GoodA y ∧ y.v6 = true) ∧ v = .tup [.agg (nbC n), .agg (adC x), .agg (adC y)] ∧ H' = up mt 0 (some (deckC l at')) := by
  refine AFn.ex Try.func23 rfl rfl (Nat.le_of_ble_eq_true rfl) ?_
  obtain ⟨_, _, n1, x, a1, ⟨_, x2, x3⟩, rfl, rfl⟩ := daddr_any l at_ hl
  obtain ⟨_, _, n2, y, a2, ⟨_, y2, y3⟩, rfl, rfl⟩ := daddr_any l a1 hl
  repeat (refine W.seq ?_)
  refine W.region 1 4 (by decide) rfl rfl ?_
  refine RW.opd rfl rfl (LO.alloc rfl ty52) ?_
  refine RW.opd rfl rfl (LO.alloc rfl ty24) ?_
  refine RW.opd rfl rfl (LO.alloc rfl ty24) ?_
  refine RW.nil ?_
  repeat (refine W.seq ?_)
  refine W.region 8 16 (by decide) rfl rfl ?_
  refine RW.opd rfl rfl (LO.move rfl rfl) ?_
  refine RW.opd rfl rfl (LO.call1 (fr := []) rfl rfl (n1) fok34 (.own rfl rfl .nil) rfl rfl rfl (List.cons_ne_nil _ _) (by decide) rfl) ?_
  refine RW.opd rfl rfl (LO.move rfl rfl) ?_
  refine RW.opd rfl rfl (LO.call1 (fr := []) rfl rfl (n2) fok34 (.own rfl rfl .nil) rfl rfl rfl (List.cons_ne_nil _ _) (by decide) rfl) ?_
  refine RW.opd rfl rfl (LO.alloc rfl ty24) ?_
  refine RW.opd rfl rfl (LO.alloc rfl ty24) ?_
  refine RW.opn rfl rfl (LO.store rfl rfl rfl rfl rfl ty24 rfl (by decide) (Sp.lit rfl)) ?_
  refine RW.opn rfl rfl (LO.store rfl rfl rfl rfl rfl ty24 rfl (by decide) (Sp.lit rfl)) ?_
  refine RW.nil ?_
  obtain ⟨xv, xh, xl⟩ := x
  obtain ⟨yv, yh, yl⟩ := y
  unfold adC
  repeat (refine W.seq ?_)
  refine W.region 20 27 (by decide) rfl rfl ?_
  refine RW.opd rfl rfl (LO.move rfl rfl) ?_
  refine RW.opd rfl rfl (LO.call1 (fr := []) rfl rfl (next_any l a2 9 (by decide) (by decide) hl) fok29 (.own rfl rfl (.cons rfl (.pure rfl) .nil)) rfl rfl rfl (List.cons_ne_nil _ _) (by decide) rfl) ?_
  refine RW.opd rfl rfl (LO.gtr rfl rfl rfl) ?_
  refine RW.opd rfl rfl (LO.fieldAddr rfl rfl ty24 rfl (by decide)) ?_
  refine RW.opn rfl rfl (LO.store rfl rfl rfl rfl rfl ty4 rfl (by decide) (Sp.lit rfl)) ?_
  refine RW.opd rfl rfl (LO.fieldAddr rfl rfl ty24 rfl (by decide)) ?_
  refine RW.opn rfl rfl (LO.store rfl rfl rfl rfl rfl ty4 rfl (by decide) (Sp.lit rfl)) ?_
  refine RW.nil ?_
  obtain ⟨v6, hv6⟩ : ∃ v6, decide (nextV l a2 9 > 0) = v6 := ⟨_, rfl⟩
  rw [hv6]
  obtain ⟨a3, ha3⟩ : ∃ a3, nextAt l a2 = a3 := ⟨_, rfl⟩
  rw [ha3]
  have r1 := range_any l a3 133 138 (by decide) (by decide) (by decide) hl
  have b1 := nextV_bd l a3 (138 - 133 + 1) (by decide)
  obtain ⟨k1, hk1⟩ : ∃ k1, 133 + nextV l a3 (138 - 133 + 1) = k1 := ⟨_, rfl⟩
  obtain ⟨a4, ha4⟩ : ∃ a4, nextAt l a3 = a4 := ⟨_, rfl⟩
  rw [hk1, ha4] at r1
  have r2 := next_any l a4 8 (by decide) (by decide) hl
  have b2 := nextV_bd l a4 8 (by decide)
  obtain ⟨k2, hk2⟩ : ∃ k2, nextV l a4 8 = k2 := ⟨_, rfl⟩
  obtain ⟨a5, ha5⟩ : ∃ a5, nextAt l a4 = a5 := ⟨_, rfl⟩
  rw [hk2] at b2
  rw [hk2, ha5] at r2
  have b3 : 0 ≤ k2 / 7 ∧ k2 / 7 ≤ 1 := by
    omega
  repeat (refine W.seq ?_)
  refine W.region 31 44 (by decide) rfl rfl ?_
  refine RW.opd rfl rfl (LO.move rfl rfl) ?_
  refine RW.opd rfl rfl (LO.call1 (fr := []) rfl rfl (r1) fok45 (.own rfl rfl (.cons rfl (.pure rfl) (.cons rfl (.pure rfl) .nil))) rfl rfl rfl (List.cons_ne_nil _ _) (by decide) rfl) ?_
  refine RW.opd rfl rfl (LO.move rfl rfl) ?_
  refine RW.opd rfl rfl (LO.call1 (fr := []) rfl rfl (r2) fok29 (.own rfl rfl (.cons rfl (.pure rfl) .nil)) rfl rfl rfl (List.cons_ne_nil _ _) (by decide) rfl) ?_
  refine RW.opd rfl rfl (LO.quo_in rfl rfl rfl ?_ ?_ ?_) ?_; (· (first | omega | decide | assumption | fail | (simp; done) | (simp; omega))); (· (first | omega | decide | assumption | fail | (simp; done) | (simp; omega))); (· (first | exact IntWalk.i64_in _ (by omega) | assumption))
  refine RW.opd rfl rfl (LO.mul_in rfl rfl rfl ?_) ?_; (· (first | exact IntWalk.i64_in _ (by omega) | assumption))
  refine RW.opd rfl rfl (LO.sub_in rfl rfl rfl ?_) ?_; (· (first | exact IntWalk.i64_in _ (by omega) | assumption))
  refine RW.opd rfl rfl (LO.move rfl rfl) ?_
  refine RW.opd rfl rfl (LO.call1 (fr := []) rfl rfl (next_any l a5 2 (by decide) (by decide) hl) fok29 (.own rfl rfl (.cons rfl (.pure rfl) .nil)) rfl rfl rfl (List.cons_ne_nil _ _) (by decide) rfl) ?_
  refine RW.opd rfl rfl (LO.eql rfl rfl rfl) ?_
  refine RW.opd rfl rfl (LO.build_st rfl ty52 (.cons rfl rfl rfl rfl (Sp.lit rfl) (.cons rfl rfl rfl rfl (Sp.lit rfl) .nil))) ?_
  refine RW.opd rfl rfl (LO.alloc rfl ty52) ?_
  refine RW.opn rfl rfl (LO.store rfl rfl rfl rfl rfl ty52 rfl (by decide) (Sp.lit rfl)) ?_
  refine RW.nil ?_
  obtain ⟨hs, hhs⟩ : ∃ hs, (nextV l a5 2 == 0) = hs := ⟨_, rfl⟩
  rw [hhs]
  obtain ⟨a6, ha6⟩ : ∃ a6, nextAt l a5 = a6 := ⟨_, rfl⟩
  rw [ha6]
  obtain ⟨k, hk⟩ : ∃ k, k1 - k2 / 7 * 5 = k := ⟨_, rfl⟩
  rw [hk]
  have hkk : 128 ≤ k ∧ k ≤ 138 := by omega
  clear hk hk1 hk2 b3 r1 r2 b1 b2
  refine W.seq ?_
  refine W.joinK (α := Ad × Nat) 7 (fun x => [(0, .own 0 0), (2, .own 1 0), (3, .own 2 0), (4, .own 3 0), (5, .own 4 0), (6, .own 5 0), (7, .own 6 0)]) (fun x => up (up (up (up (up (up (up mt 0 (some (deckC l x.2))) 1 (some (nbC zNb))) 2 (some (adC zAd))) 3 (some (adC zAd))) 4 (some (adC ⟨v6, xh, xl⟩))) 5 (some (adC ⟨true, yh, yl⟩))) 6 (some (nbC ⟨k, 0, x.1, hs, zMac⟩))) (fun x => GoodA x.1) .nil ?_ ?_
  rotate_left
  rintro ⟨g, a⟩ hIJ
  try (dsimp only at hIJ)
  try dsimp only [joinT, baseT, List.cons_append, List.nil_append]
  rotate_right
  ·
    rcases Int.lt_or_le k 135 with c1 | c1
    · have g1 : decide (k ≥ 135) = false := decide_eq_false (by omega)
      repeat (refine W.seq ?_)
      refine W.region 48 56 (by decide) rfl rfl ?_
      refine RW.opd rfl rfl (LO.fieldAddr rfl rfl ty52 rfl (by decide)) ?_
      refine RW.opd rfl rfl (LO.load rfl rfl rfl rfl ty3 rfl) ?_
      refine RW.opd rfl rfl (LO.geq rfl rfl rfl) ?_
      refine RW.opd rfl rfl (LO.move rfl rfl) ?_
      refine RW.sd rfl rfl rfl ?_ rfl ?_; (· (first | rfl | assumption))
      refine RW.sd rfl rfl rfl ?_ rfl ?_; (· (first | rfl | assumption))
      refine RW.sd rfl rfl rfl ?_ rfl ?_; (· (first | rfl | assumption))
      refine RW.opd rfl rfl (LO.pick_f rfl rfl ?_ rfl) ?_; (· (first | rfl | assumption))
      refine RW.nil ?_
      repeat (refine W.seq ?_)
      refine W.cond_f rfl (by first | rfl | assumption) ?_
      refine W.skip ?_
      intro yJ KJ hJ
      refine W.renameJ [(0, 0), (1, 1), (2, 2), (3, 3), (4, 12), (5, 13), (6, 42)] 7 (by decide) ?_ ?_ (hJ (zAd, a6) (show GoodA zAd from GoodA.z _))
      · (repeat' (first | exact LookR.nil | refine LookR.cons ?_ ?_)) <;> first | exact .inl ⟨rfl, rfl⟩ | exact .inr ⟨rfl, fun _ h => by cases h⟩ | exact .inl ⟨rfl, by first | rfl | assumption ⟩
      · (repeat' (first | exact all_mt | refine all_up ?_ ?_)) <;> first | exact ⟨rfl, _, rfl, .inr ⟨rfl, rfl⟩⟩ | exact ⟨rfl, _, rfl, .inl rfl⟩ | exact ⟨rfl, _, rfl, .inr ⟨rfl, by first | rfl | assumption ⟩⟩
    · have g1 : decide (k ≥ 135) = true := decide_eq_true c1
      obtain ⟨a7, ha7⟩ : ∃ a7, nextAt l a6 = a7 := ⟨_, rfl⟩
      have n4 := next_any l a6 9 (by decide) (by decide) hl
      rw [ha7] at n4
      obtain ⟨k7, hk7⟩ : ∃ k7, nextV l a6 9 = k7 := ⟨_, rfl⟩
      rw [hk7] at n4
      rcases Int.lt_or_le 0 k7 with c2 | c2
      · have g2 : decide (k7 > 0) = true := decide_eq_true c2
        obtain ⟨_, _, n3, g, a8, ⟨_, q2, q3⟩, rfl, rfl⟩ := daddr_any l a7 hl
        repeat (refine W.seq ?_)
        refine W.region 48 56 (by decide) rfl rfl ?_
        refine RW.opd rfl rfl (LO.fieldAddr rfl rfl ty52 rfl (by decide)) ?_
        refine RW.opd rfl rfl (LO.load rfl rfl rfl rfl ty3 rfl) ?_
        refine RW.opd rfl rfl (LO.geq rfl rfl rfl) ?_
        refine RW.opd rfl rfl (LO.move rfl rfl) ?_
        refine RW.gd rfl rfl rfl ?_ rfl (LO.move rfl rfl) ?_; (· (first | rfl | assumption))
        refine RW.gd rfl rfl rfl ?_ rfl (LO.call1 (fr := []) rfl rfl (n4) fok29 (.own rfl rfl (.cons rfl (.pure rfl) .nil)) rfl rfl rfl (List.cons_ne_nil _ _) (by decide) rfl) ?_; (· (first | rfl | assumption))
        refine RW.gd rfl rfl rfl ?_ rfl (LO.gtr rfl rfl rfl) ?_; (· (first | rfl | assumption))
        refine RW.opd rfl rfl (LO.pick_t rfl rfl ?_ rfl) ?_; (· (first | rfl | assumption))
        refine RW.nil ?_
        repeat (refine W.seq ?_)
        refine W.cond_t rfl (by first | rfl | assumption) ?_
        repeat (refine W.seq ?_)
        refine W.region 60 64 (by decide) rfl rfl ?_
        refine RW.opd rfl rfl (LO.move rfl rfl) ?_
        refine RW.opd rfl rfl (LO.call1 (fr := []) rfl rfl (n3) fok34 (.own rfl rfl .nil) rfl rfl rfl (List.cons_ne_nil _ _) (by decide) rfl) ?_
        refine RW.opd rfl rfl (LO.fieldAddr rfl rfl ty52 rfl (by decide)) ?_
        refine RW.opn rfl rfl (LO.store rfl rfl rfl rfl rfl ty24 rfl (by decide) (Sp.lit rfl)) ?_
        refine RW.nil ?_
        obtain ⟨gv, gh, gl⟩ := g
        unfold adC
        repeat (refine W.seq ?_)
        refine W.region 68 71 (by decide) rfl rfl ?_
        refine RW.opd rfl rfl (LO.fieldAddr rfl rfl ty52 rfl (by decide)) ?_
        refine RW.opd rfl rfl (LO.fieldAddr rfl rfl ty24 rfl (by decide)) ?_
        refine RW.opn rfl rfl (LO.store rfl rfl rfl rfl rfl ty4 rfl (by decide) (Sp.lit rfl)) ?_
        refine RW.nil ?_
        intro yJ KJ hJ
        refine W.renameJ [(0, 0), (1, 1), (2, 2), (3, 3), (4, 12), (5, 13), (6, 42)] 7 (by decide) ?_ ?_ (hJ ((⟨true, gh, gl⟩), a8) (show GoodA (⟨true, gh, gl⟩) from ⟨q2, q3⟩))
        · (repeat' (first | exact LookR.nil | refine LookR.cons ?_ ?_)) <;> first | exact .inl ⟨rfl, rfl⟩ | exact .inr ⟨rfl, fun _ h => by cases h⟩ | exact .inl ⟨rfl, by first | rfl | assumption ⟩
        · (repeat' (first | exact all_mt | refine all_up ?_ ?_)) <;> first | exact ⟨rfl, _, rfl, .inr ⟨rfl, rfl⟩⟩ | exact ⟨rfl, _, rfl, .inl rfl⟩ | exact ⟨rfl, _, rfl, .inr ⟨rfl, by first | rfl | assumption ⟩⟩
      · have g2 : decide (k7 > 0) = false := decide_eq_false (by omega)
        repeat (refine W.seq ?_)
        refine W.region 48 56 (by decide) rfl rfl ?_
        refine RW.opd rfl rfl (LO.fieldAddr rfl rfl ty52 rfl (by decide)) ?_
        refine RW.opd rfl rfl (LO.load rfl rfl rfl rfl ty3 rfl) ?_
        refine RW.opd rfl rfl (LO.geq rfl rfl rfl) ?_
        refine RW.opd rfl rfl (LO.move rfl rfl) ?_
        refine RW.gd rfl rfl rfl ?_ rfl (LO.move rfl rfl) ?_; (· (first | rfl | assumption))
        refine RW.gd rfl rfl rfl ?_ rfl (LO.call1 (fr := []) rfl rfl (n4) fok29 (.own rfl rfl (.cons rfl (.pure rfl) .nil)) rfl rfl rfl (List.cons_ne_nil _ _) (by decide) rfl) ?_; (· (first | rfl | assumption))
        refine RW.gd rfl rfl rfl ?_ rfl (LO.gtr rfl rfl rfl) ?_; (· (first | rfl | assumption))
        refine RW.opd rfl rfl (LO.pick_t rfl rfl ?_ rfl) ?_; (· (first | rfl | assumption))
        refine RW.nil ?_
        repeat (refine W.seq ?_)
        refine W.cond_f rfl (by first | rfl | assumption) ?_
        refine W.skip ?_
        intro yJ KJ hJ
        refine W.renameJ [(0, 0), (1, 1), (2, 2), (3, 3), (4, 12), (5, 13), (6, 42)] 7 (by decide) ?_ ?_ (hJ (zAd, a7) (show GoodA zAd from GoodA.z _))
        · (repeat' (first | exact LookR.nil | refine LookR.cons ?_ ?_)) <;> first | exact .inl ⟨rfl, rfl⟩ | exact .inr ⟨rfl, fun _ h => by cases h⟩ | exact .inl ⟨rfl, by first | rfl | assumption ⟩
        · (repeat' (first | exact all_mt | refine all_up ?_ ?_)) <;> first | exact ⟨rfl, _, rfl, .inr ⟨rfl, rfl⟩⟩ | exact ⟨rfl, _, rfl, .inl rfl⟩ | exact ⟨rfl, _, rfl, .inr ⟨rfl, by first | rfl | assumption ⟩⟩
  clear ha6
  refine W.seq ?_
  refine W.joinK (α := Int × Nat) 7 (fun x => [(0, .own 0 0), (2, .own 1 0), (3, .own 2 0), (4, .own 3 0), (5, .own 4 0), (6, .own 5 0), (7, .own 6 0)]) (fun x => up (up (up (up (up (up (up mt 0 (some (deckC l x.2))) 1 (some (nbC zNb))) 2 (some (adC zAd))) 3 (some (adC zAd))) 4 (some (adC ⟨v6, xh, xl⟩))) 5 (some (adC ⟨true, yh, yl⟩))) 6 (some (nbC ⟨k, x.1, g, hs, zMac⟩))) (fun x => True) .nil ?_ ?_
  rotate_left
  rintro ⟨fl, b⟩ hIL
  try (dsimp only at hIL)
  try dsimp only [joinT, baseT, List.cons_append, List.nil_append]
  rotate_right
  ·
    by_cases hc : k = 136
    · have g1 : (k == 136) = true := by simpa using hc
      repeat (refine W.seq ?_)
      refine W.region 75 78 (by decide) rfl rfl ?_
      refine RW.opd rfl rfl (LO.fieldAddr rfl rfl ty52 rfl (by decide)) ?_
      refine RW.opd rfl rfl (LO.load rfl rfl rfl rfl ty3 rfl) ?_
      refine RW.opd rfl rfl (LO.eql rfl rfl rfl) ?_
      refine RW.nil ?_
      repeat (refine W.seq ?_)
      refine W.cond_t rfl (by first | rfl | assumption) ?_
      repeat (refine W.seq ?_)
      refine W.region 82 86 (by decide) rfl rfl ?_
      refine RW.opd rfl rfl (LO.move rfl rfl) ?_
      refine RW.opd rfl rfl (LO.call1 (fr := []) rfl rfl (next_any l a 9 (by decide) (by decide) hl) fok29 (.own rfl rfl (.cons rfl (.pure rfl) .nil)) rfl rfl rfl (List.cons_ne_nil _ _) (by decide) rfl) ?_
      refine RW.opd rfl rfl (LO.fieldAddr rfl rfl ty52 rfl (by decide)) ?_
      refine RW.opn rfl rfl (LO.store rfl rfl rfl rfl rfl ty3 rfl (by decide) (Sp.lit rfl)) ?_
      refine RW.nil ?_
      intro yJ KJ hJ
      refine W.renameJ [(0, 0), (1, 1), (2, 2), (3, 3), (4, 4), (5, 5), (6, 6)] 7 (by decide) ?_ ?_ (hJ ((nextV l a 9), (nextAt l a)) (show True from trivial))
      · (repeat' (first | exact LookR.nil | refine LookR.cons ?_ ?_)) <;> first | exact .inl ⟨rfl, rfl⟩ | exact .inr ⟨rfl, fun _ h => by cases h⟩ | exact .inl ⟨rfl, by first | rfl | assumption ⟩
      · (repeat' (first | exact all_mt | refine all_up ?_ ?_)) <;> first | exact ⟨rfl, _, rfl, .inr ⟨rfl, rfl⟩⟩ | exact ⟨rfl, _, rfl, .inl rfl⟩ | exact ⟨rfl, _, rfl, .inr ⟨rfl, by first | rfl | assumption ⟩⟩
    · have g1 : (k == 136) = false := by simpa using hc
      repeat (refine W.seq ?_)
      refine W.region 75 78 (by decide) rfl rfl ?_
      refine RW.opd rfl rfl (LO.fieldAddr rfl rfl ty52 rfl (by decide)) ?_
      refine RW.opd rfl rfl (LO.load rfl rfl rfl rfl ty3 rfl) ?_
      refine RW.opd rfl rfl (LO.eql rfl rfl rfl) ?_
      refine RW.nil ?_
      repeat (refine W.seq ?_)
      refine W.cond_f rfl (by first | rfl | assumption) ?_
      refine W.skip ?_
      intro yJ KJ hJ
      refine W.renameJ [(0, 0), (1, 1), (2, 2), (3, 3), (4, 4), (5, 5), (6, 6)] 7 (by decide) ?_ ?_ (hJ (0, a) (show True from trivial))
      · (repeat' (first | exact LookR.nil | refine LookR.cons ?_ ?_)) <;> first | exact .inl ⟨rfl, rfl⟩ | exact .inr ⟨rfl, fun _ h => by cases h⟩ | exact .inl ⟨rfl, by first | rfl | assumption ⟩
      · (repeat' (first | exact all_mt | refine all_up ?_ ?_)) <;> first | exact ⟨rfl, _, rfl, .inr ⟨rfl, rfl⟩⟩ | exact ⟨rfl, _, rfl, .inl rfl⟩ | exact ⟨rfl, _, rfl, .inr ⟨rfl, by first | rfl | assumption ⟩⟩
  refine W.seq ?_
  refine W.joinK (α := List Int × Nat) 7 (fun x => [(0, .own 0 0), (2, .own 1 0), (3, .own 2 0), (4, .own 3 0), (5, .own 4 0), (6, .own 5 0), (7, .own 6 0)]) (fun x => up (up (up (up (up (up (up mt 0 (some (deckC l x.2))) 1 (some (nbC zNb))) 2 (some (adC zAd))) 3 (some (adC zAd))) 4 (some (adC ⟨v6, xh, xl⟩))) 5 (some (adC ⟨true, yh, yl⟩))) 6 (some (nbC ⟨k, fl, g, hs, x.1⟩))) (fun x => x.1.length = 6 ∧ IsB x.1) .nil ?_ ?_
  rotate_left
  rintro ⟨ln, c⟩ hIM
  try (dsimp only at hIM)
  try dsimp only [joinT, baseT, List.cons_append, List.nil_append]
  rotate_right
  ·
    cases hs with
    | true =>
      repeat (refine W.seq ?_)
      refine W.region 90 97 (by decide) rfl rfl ?_
      refine RW.opd rfl rfl (LO.fieldAddr rfl rfl ty52 rfl (by decide)) ?_
      refine RW.opd rfl rfl (LO.load rfl rfl rfl rfl ty4 rfl) ?_
      refine RW.opd rfl rfl (LO.move rfl rfl) ?_
      refine RW.sd rfl rfl rfl ?_ rfl ?_; (· (first | rfl | assumption))
      refine RW.sd rfl rfl rfl ?_ rfl ?_; (· (first | rfl | assumption))
      refine RW.sd rfl rfl rfl ?_ rfl ?_; (· (first | rfl | assumption))
      refine RW.opd rfl rfl (LO.pick_t rfl rfl ?_ rfl) ?_; (· (first | rfl | assumption))
      refine RW.nil ?_
      repeat (refine W.seq ?_)
      refine W.cond_t rfl (by first | rfl | assumption) ?_
      repeat (refine W.seq ?_)
      refine W.region 101 106 (by decide) rfl rfl ?_
      refine RW.opd rfl rfl (LO.move rfl rfl) ?_
      refine RW.opd rfl rfl (LO.call1 (fr := []) rfl rfl (next_any l b 99 (by decide) (by decide) hl) fok29 (.own rfl rfl (.cons rfl (.pure rfl) .nil)) rfl rfl rfl (List.cons_ne_nil _ _) (by decide) rfl) ?_
      refine RW.opd rfl rfl (LO.call0 (fr := []) rfl rfl (mac_any _) fok46 (.cons rfl (.pure rfl) .nil) rfl) ?_
      refine RW.opd rfl rfl (LO.fieldAddr rfl rfl ty52 rfl (by decide)) ?_
      refine RW.opn rfl rfl (LO.store rfl rfl rfl rfl rfl ty50 rfl (by decide) (Sp.lit rfl)) ?_
      refine RW.nil ?_
      intro yJ KJ hJ
      refine W.renameJ [(0, 0), (1, 1), (2, 2), (3, 3), (4, 4), (5, 5), (6, 6)] 7 (by decide) ?_ ?_ (hJ ((macF (nextV l b 99)), (nextAt l b)) (show (macF (nextV l b 99)).length = 6 ∧ IsB (macF (nextV l b 99)) from ⟨rfl, macF_isB _⟩))
      · (repeat' (first | exact LookR.nil | refine LookR.cons ?_ ?_)) <;> first | exact .inl ⟨rfl, rfl⟩ | exact .inr ⟨rfl, fun _ h => by cases h⟩ | exact .inl ⟨rfl, by first | rfl | assumption ⟩
      · (repeat' (first | exact all_mt | refine all_up ?_ ?_)) <;> first | exact ⟨rfl, _, rfl, .inr ⟨rfl, rfl⟩⟩ | exact ⟨rfl, _, rfl, .inl rfl⟩ | exact ⟨rfl, _, rfl, .inr ⟨rfl, by first | rfl | assumption ⟩⟩
    | false =>
      obtain ⟨b2, hb2⟩ : ∃ b2, nextAt l b = b2 := ⟨_, rfl⟩
      have n5 := next_any l b 9 (by decide) (by decide) hl
      rw [hb2] at n5
      obtain ⟨k8, hk8⟩ : ∃ k8, nextV l b 9 = k8 := ⟨_, rfl⟩
      rw [hk8] at n5
      cases g1 : (k8 == 8) with
      | true =>
        repeat (refine W.seq ?_)
        refine W.region 90 97 (by decide) rfl rfl ?_
        refine RW.opd rfl rfl (LO.fieldAddr rfl rfl ty52 rfl (by decide)) ?_
        refine RW.opd rfl rfl (LO.load rfl rfl rfl rfl ty4 rfl) ?_
        refine RW.opd rfl rfl (LO.move rfl rfl) ?_
        refine RW.gd rfl rfl rfl ?_ rfl (LO.move rfl rfl) ?_; (· (first | rfl | assumption))
        refine RW.gd rfl rfl rfl ?_ rfl (LO.call1 (fr := []) rfl rfl (n5) fok29 (.own rfl rfl (.cons rfl (.pure rfl) .nil)) rfl rfl rfl (List.cons_ne_nil _ _) (by decide) rfl) ?_; (· (first | rfl | assumption))
        refine RW.gd rfl rfl rfl ?_ rfl (LO.eql rfl rfl rfl) ?_; (· (first | rfl | assumption))
        refine RW.opd rfl rfl (LO.pick_f rfl rfl ?_ rfl) ?_; (· (first | rfl | assumption))
        refine RW.nil ?_
        repeat (refine W.seq ?_)
        refine W.cond_t rfl (by first | rfl | assumption) ?_
        repeat (refine W.seq ?_)
        refine W.region 101 106 (by decide) rfl rfl ?_
        refine RW.opd rfl rfl (LO.move rfl rfl) ?_
        refine RW.opd rfl rfl (LO.call1 (fr := []) rfl rfl (next_any l b2 99 (by decide) (by decide) hl) fok29 (.own rfl rfl (.cons rfl (.pure rfl) .nil)) rfl rfl rfl (List.cons_ne_nil _ _) (by decide) rfl) ?_
        refine RW.opd rfl rfl (LO.call0 (fr := []) rfl rfl (mac_any _) fok46 (.cons rfl (.pure rfl) .nil) rfl) ?_
        refine RW.opd rfl rfl (LO.fieldAddr rfl rfl ty52 rfl (by decide)) ?_
        refine RW.opn rfl rfl (LO.store rfl rfl rfl rfl rfl ty50 rfl (by decide) (Sp.lit rfl)) ?_
        refine RW.nil ?_
        intro yJ KJ hJ
        refine W.renameJ [(0, 0), (1, 1), (2, 2), (3, 3), (4, 4), (5, 5), (6, 6)] 7 (by decide) ?_ ?_ (hJ ((macF (nextV l b2 99)), (nextAt l b2)) (show (macF (nextV l b2 99)).length = 6 ∧ IsB (macF (nextV l b2 99)) from ⟨rfl, macF_isB _⟩))
        · (repeat' (first | exact LookR.nil | refine LookR.cons ?_ ?_)) <;> first | exact .inl ⟨rfl, rfl⟩ | exact .inr ⟨rfl, fun _ h => by cases h⟩ | exact .inl ⟨rfl, by first | rfl | assumption ⟩
        · (repeat' (first | exact all_mt | refine all_up ?_ ?_)) <;> first | exact ⟨rfl, _, rfl, .inr ⟨rfl, rfl⟩⟩ | exact ⟨rfl, _, rfl, .inl rfl⟩ | exact ⟨rfl, _, rfl, .inr ⟨rfl, by first | rfl | assumption ⟩⟩
      | false =>
        repeat (refine W.seq ?_)
        refine W.region 90 97 (by decide) rfl rfl ?_
        refine RW.opd rfl rfl (LO.fieldAddr rfl rfl ty52 rfl (by decide)) ?_
        refine RW.opd rfl rfl (LO.load rfl rfl rfl rfl ty4 rfl) ?_
        refine RW.opd rfl rfl (LO.move rfl rfl) ?_
        refine RW.gd rfl rfl rfl ?_ rfl (LO.move rfl rfl) ?_; (· (first | rfl | assumption))
        refine RW.gd rfl rfl rfl ?_ rfl (LO.call1 (fr := []) rfl rfl (n5) fok29 (.own rfl rfl (.cons rfl (.pure rfl) .nil)) rfl rfl rfl (List.cons_ne_nil _ _) (by decide) rfl) ?_; (· (first | rfl | assumption))
        refine RW.gd rfl rfl rfl ?_ rfl (LO.eql rfl rfl rfl) ?_; (· (first | rfl | assumption))
        refine RW.opd rfl rfl (LO.pick_f rfl rfl ?_ rfl) ?_; (· (first | rfl | assumption))
        refine RW.nil ?_
        repeat (refine W.seq ?_)
        refine W.cond_f rfl (by first | rfl | assumption) ?_
        refine W.skip ?_
        intro yJ KJ hJ
        refine W.renameJ [(0, 0), (1, 1), (2, 2), (3, 3), (4, 4), (5, 5), (6, 6)] 7 (by decide) ?_ ?_ (hJ (zMac, b2) (show zMac.length = 6 ∧ IsB zMac from ⟨rfl, zMac_isB⟩))
        · (repeat' (first | exact LookR.nil | refine LookR.cons ?_ ?_)) <;> first | exact .inl ⟨rfl, rfl⟩ | exact .inr ⟨rfl, fun _ h => by cases h⟩ | exact .inl ⟨rfl, by first | rfl | assumption ⟩
        · (repeat' (first | exact all_mt | refine all_up ?_ ?_)) <;> first | exact ⟨rfl, _, rfl, .inr ⟨rfl, rfl⟩⟩ | exact ⟨rfl, _, rfl, .inl rfl⟩ | exact ⟨rfl, _, rfl, .inr ⟨rfl, by first | rfl | assumption ⟩⟩
  have n6 := next_any l c 5 (by decide) (by decide) hl
  obtain ⟨a9, ha9⟩ : ∃ a9, nextAt l c = a9 := ⟨_, rfl⟩
  rw [ha9] at n6
  obtain ⟨k9, hk9⟩ : ∃ k9, nextV l c 5 = k9 := ⟨_, rfl⟩
  rw [hk9] at n6
  have hnl : (nbC ⟨k, fl, g, hs, ln⟩).length = 12 := by simp [nbC, adC, bytesC_len, hIM.1]
  have htk : Tk (nbC ⟨k, fl, g, hs, ln⟩) 0 12 (nbC ⟨k, fl, g, hs, ln⟩) := by
    have := Tk.all (nbC ⟨k, fl, g, hs, ln⟩)
    rwa [hnl] at this
  have hgn : GoodN ⟨k, fl, g, hs, ln⟩ := ⟨hIM, hIJ⟩
  cases g1 : (k9 == 4) with
  | true =>
    repeat (refine W.seq ?_)
    refine W.region 110 113 (by decide) rfl rfl ?_
    refine RW.opd rfl rfl (LO.move rfl rfl) ?_
    refine RW.opd rfl rfl (LO.call1 (fr := []) rfl rfl (n6) fok29 (.own rfl rfl (.cons rfl (.pure rfl) .nil)) rfl rfl rfl (List.cons_ne_nil _ _) (by decide) rfl) ?_
    refine RW.opd rfl rfl (LO.eql rfl rfl rfl) ?_
    refine RW.nil ?_
    repeat (refine W.seq ?_)
    refine W.cond_t rfl (by first | rfl | assumption) ?_
    unfold adC
    repeat (refine W.seq ?_)
    refine W.region 117 119 (by decide) rfl rfl ?_
    refine RW.opd rfl rfl (LO.build_st rfl ty24 (.cons rfl rfl rfl rfl (Sp.lit rfl) .nil)) ?_
    refine RW.opn rfl rfl (LO.store rfl rfl rfl rfl rfl ty24 rfl (by decide) (Sp.lit rfl)) ?_
    refine RW.nil ?_
    repeat (refine W.seq ?_)
    refine W.regionD 123 129 (by decide) rfl mixed rfl ?_
    refine RW.opd rfl rfl (LO.load_agg rfl rfl rfl ty52 rfl htk) ?_
    refine RW.opd rfl rfl (LO.load_agg rfl rfl rfl ty24 rfl (Tk.lit rfl)) ?_
    refine RW.opd rfl rfl (LO.load_agg rfl rfl rfl ty24 rfl (Tk.lit rfl)) ?_
    refine RW.opn rfl rfl (LO.store rfl rfl rfl rfl rfl ty52 hnl (by decide) (Sp.of_all hnl)) ?_
    refine RW.opn rfl rfl (LO.store rfl rfl rfl rfl rfl ty24 rfl (by decide) (Sp.lit rfl)) ?_
    refine RW.opn rfl rfl (LO.store rfl rfl rfl rfl rfl ty24 rfl (by decide) (Sp.lit rfl)) ?_
    refine RW.nil ⟨by kernel_rfl, ?_⟩
    repeat (refine W.seq ?_)
    refine W.ret ⟨.inl rfl, _, (up mt 0 (some (deckC l a9))), (RVs.cons (RV.cellA rfl rfl ty52 rfl (by first | exact htk | exact Tk.lit rfl)) (RVs.cons (RV.cellA rfl rfl ty24 rfl (by first | exact htk | exact Tk.lit rfl)) (RVs.cons (RV.cellA rfl rfl ty24 rfl (by first | exact htk | exact Tk.lit rfl)) RVs.nil))), (by (repeat' (first | exact all_mt | refine all_up ?_ ?_)) <;> rfl), ?_⟩
    exact ⟨⟨k, fl, g, hs, ln⟩, ⟨true, 0, 0⟩, ⟨true, yh, yl⟩, a9, ⟨hgn, GoodA.z _, ⟨y2, y3⟩, rfl⟩, rfl, rfl⟩
  | false =>
    repeat (refine W.seq ?_)
    refine W.region 110 113 (by decide) rfl rfl ?_
    refine RW.opd rfl rfl (LO.move rfl rfl) ?_
    refine RW.opd rfl rfl (LO.call1 (fr := []) rfl rfl (n6) fok29 (.own rfl rfl (.cons rfl (.pure rfl) .nil)) rfl rfl rfl (List.cons_ne_nil _ _) (by decide) rfl) ?_
    refine RW.opd rfl rfl (LO.eql rfl rfl rfl) ?_
    refine RW.nil ?_
    repeat (refine W.seq ?_)
    refine W.cond_f rfl (by first | rfl | assumption) ?_
    refine W.skip ?_
    unfold adC
    repeat (refine W.seq ?_)
    refine W.regionD 123 129 (by decide) rfl mixed rfl ?_
    refine RW.opd rfl rfl (LO.load_agg rfl rfl rfl ty52 rfl htk) ?_
    refine RW.opd rfl rfl (LO.load_agg rfl rfl rfl ty24 rfl (Tk.lit rfl)) ?_
    refine RW.opd rfl rfl (LO.load_agg rfl rfl rfl ty24 rfl (Tk.lit rfl)) ?_
    refine RW.opn rfl rfl (LO.store rfl rfl rfl rfl rfl ty52 hnl (by decide) (Sp.of_all hnl)) ?_
    refine RW.opn rfl rfl (LO.store rfl rfl rfl rfl rfl ty24 rfl (by decide) (Sp.lit rfl)) ?_
    refine RW.opn rfl rfl (LO.store rfl rfl rfl rfl rfl ty24 rfl (by decide) (Sp.lit rfl)) ?_
    refine RW.nil ⟨by kernel_rfl, ?_⟩
    repeat (refine W.seq ?_)
    refine W.ret ⟨.inl rfl, _, (up mt 0 (some (deckC l a9))), (RVs.cons (RV.cellA rfl rfl ty52 rfl (by first | exact htk | exact Tk.lit rfl)) (RVs.cons (RV.cellA rfl rfl ty24 rfl (by first | exact htk | exact Tk.lit rfl)) (RVs.cons (RV.cellA rfl rfl ty24 rfl (by first | exact htk | exact Tk.lit rfl)) RVs.nil))), (by (repeat' (first | exact all_mt | refine all_up ?_ ?_)) <;> rfl), ?_⟩
    exact ⟨⟨k, fl, g, hs, ln⟩, ⟨v6, xh, xl⟩, ⟨true, yh, yl⟩, a9, ⟨hgn, ⟨x2, x3⟩, ⟨y2, y3⟩, rfl⟩, rfl, rfl⟩
end Go.Proofs.Ytoijkcnefnmbjaa
