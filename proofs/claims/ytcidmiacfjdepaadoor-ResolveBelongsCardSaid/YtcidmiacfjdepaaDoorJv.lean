/-
  Addresses, bytes and stations zs frames are made from them.
-/
import Derived.Test.YtcidmiacfjdepaaDoorJt
import Derived.Test.YtcidmiacfjdepaaDoorMab
namespace Go.Proofs.YtcidmiacfjdepaaDoor
open Go.RowKit

theorem dbytes_any (l : List Int) (at_ : Nat) (n : Nat) (hn : n ≤ 1000) (hl : l.length ≤ 9223372036854775807) :
    ∃ v H', AFn Tryd.prog 54 1 [.own 0 0, .base (.int .i64 (n : Int))] (up mt 0 (some (deckC l at_))) v H' ∧ ∃ (L : List Int) (at' : Nat), (IsB L ∧ L.length ≤ n) ∧ v = .isl (bytesC L) L.length ∧ H' = up mt 0 (some (deckC l at')) := by
  refine AFn.ex Tryd.func54 rfl rfl (Nat.le_of_ble_eq_true rfl) ?_
  have n1 := next_any l at_ ((n : Int) + 1) (by omega) (by omega) hl
  have b1 := nextV_bd l at_ ((n : Int) + 1) (by omega)
  obtain ⟨k, hk⟩ : ∃ k : Nat, nextV l at_ ((n : Int) + 1) = (k : Int) := ⟨(nextV l at_ ((n : Int) + 1)).toNat, by omega⟩
  obtain ⟨a1, ha1⟩ : ∃ a1, nextAt l at_ = a1 := ⟨_, rfl⟩
  rw [hk] at b1
  rw [hk, ha1] at n1
  refine Wq (Wr 1 2 (by decide) rfl rfl (Od rfl rfl (As rfl rfl) (Nl (Wq (Wr 6 7 (by decide) rfl rfl (Od rfl rfl (As rfl rfl) (Nl (Wq (Wq (Wr 11 16 (by decide) rfl rfl (Od rfl rfl (Mv rfl rfl) (Od rfl rfl (Mv rfl rfl) (Od rfl rfl (Ad0 rfl rfl rfl (by (first | exact IntWalk.i64_in _ (by omega) | assumption))) (Od rfl rfl (C1 (fr := []) rfl rfl (n1) fok23 (.own rfl rfl (.cons rfl (.pure rfl) .nil)) rfl rfl rfl (Cn _ _) (by decide) rfl) (Od rfl rfl (As rfl rfl) (Nl (W.name 16 (16 + 1) (t := 5) (sz := 1) rfl (by decide) (by decide) (Wb (W.loop_keep (α := Nat × Nat × List Int) (fun x => x.1) 2 (fun x => [(0, .own 0 0), (5, .osl 1 0 x.2.2.length 1), (6, .base (.int .i64 (x.1 : Int)))]) (fun x => up (up mt 0 (some (deckC l x.2.1))) 1 (some (bytesC x.2.2))) (fun x => IsB x.2.2 ∧ x.2.2.length + x.1 ≤ n) (k, a1, (([] : List Int))) [(0, 0), (1, 16)] .nil (show IsB (([] : List Int)) ∧ (([] : List Int)).length + k ≤ n from ⟨fun x hx => (by cases hx), (by show 0 + k ≤ n; omega)⟩) (by decide) ?_ ?_ ?_)))))))))))))))))))
  · (repeat' (first | exact LookR.nil | refine LookR.cons ?_ ?_)) <;> first | exact .inl ⟨rfl, rfl⟩ | exact .inr ⟨rfl, fun _ h => by cases h⟩ | exact .inl ⟨rfl, by first | rfl | assumption | exact (bytesC_pure _)⟩
  · (repeat' (first | exact all_mt | refine all_up ?_ ?_)) <;> first | exact ⟨rfl, _, rfl, .inr ⟨rfl, rfl⟩⟩ | exact ⟨rfl, _, rfl, .inl rfl⟩ | exact ⟨rfl, _, rfl, .inr ⟨rfl, by first | rfl | assumption | exact (bytesC_pure _)⟩⟩
  rintro ⟨q, a, L⟩ hIA ihA
  try (dsimp only at hIA)
  try dsimp only [baseT, List.cons_append, List.nil_append]
  obtain ⟨hLB, hLq⟩ := hIA
  by_cases hq : q = 0
  · have g1 : decide ((q : Int) > 0) = false := decide_eq_false (by omega)
    refine Wq (Wq (Wr 20 22 (by decide) rfl rfl (Od rfl rfl (Mv rfl rfl) (Od rfl rfl (Gt0 rfl rfl rfl) (Nl (Wf rfl (by first|rfl|assumption) (Wx (Wq (Wr 44 46 (by decide) rfl rfl (Od rfl rfl (Mv rfl rfl) (Od rfl rfl (As rfl rfl) (Nl (W.frz1 (t := 4) rfl rfl (bytes_tk rfl) (bytesC_pure _) ?_)))))))))))))
    refine W.ret ⟨.inl rfl, _, (up mt 0 (some (deckC l a))), (RVs.cons (RV.tmp rfl) RVs.nil), (by (repeat' (first | exact all_mt | refine all_up ?_ ?_)) <;> rfl), ?_⟩
    exact ⟨L, a, ⟨hLB, by omega⟩, rfl, rfl⟩
  · have g1 : decide ((q : Int) > 0) = true := decide_eq_true (by omega)
    have n2 := next_any l a 256 (by decide) (by decide) hl
    obtain ⟨e, he⟩ : ∃ e, nextV l a 256 = e := ⟨_, rfl⟩
    obtain ⟨a2, ha2⟩ : ∃ a2, nextAt l a = a2 := ⟨_, rfl⟩
    rw [he, ha2] at n2
    have hqq : (q : Int) - 1 = ((q - 1 : Nat) : Int) := by omega
    have hap : bytesC L ++ [AV.base (.int .u8 (IntKind.u8.wrap e))] = bytesC (L ++ [IntKind.u8.wrap e]) := by rw [bytesC_app]; rfl
    have hl1 : L.length + 1 = (L ++ [IntKind.u8.wrap e]).length := by simp
    refine Wq (Wq (Wr 20 22 (by decide) rfl rfl (Od rfl rfl (Mv rfl rfl) (Od rfl rfl (Gt0 rfl rfl rfl) (Nl (Wt rfl (by first|rfl|assumption) (Wk (Wq (Wb (Wr 26 33 (by decide) rfl rfl (Od rfl rfl (Mv rfl rfl) (Od rfl rfl (Mv rfl rfl) (Od rfl rfl (C1 (fr := []) rfl rfl (n2) fok23 (.own rfl rfl (.cons rfl (.pure rfl) .nil)) rfl rfl rfl (Cn _ _) (by decide) rfl) (Od rfl rfl (LO.conv rfl rfl ty3 ty5) (Od rfl rfl (LO.buildSlice rfl ty46 ty5 (by decide) (by decide) (.cons rfl rfl rfl rfl (Sp.lit rfl) .nil)) (Od rfl rfl (LO.append rfl rfl (SrcAV.own rfl rfl (Tk.lit rfl)) rfl (bytes_tk rfl) ty46 ty46 ty5 (by decide) (by omega) (by omega) (by decide)) (Od rfl rfl (As rfl rfl) (Nl ?_))))))))))))))))))
    rw [hap, hl1]
    refine Wr 37 40 (by decide) rfl rfl (Od rfl rfl (Mv rfl rfl) (Od rfl rfl (LO.sub_in rfl rfl rfl (by (first | exact IntWalk.i64_in _ (by omega) | assumption))) (Od rfl rfl (As rfl rfl) (Nl ?_))))
    rw [hqq]
    refine WL.renameL [(0, 0), (1, 31)] 2 (by decide) ?_ ?_ (ihA ((q - 1), a2, (L ++ [IntKind.u8.wrap e])) (show (q - 1) < q from by omega) (show IsB (L ++ [IntKind.u8.wrap e]) ∧ (L ++ [IntKind.u8.wrap e]).length + (q - 1) ≤ n from ⟨hLB.append (fun x hx => by rw [List.mem_singleton] at hx; subst hx; exact u8_bd _), by rw [← hl1]; omega⟩))
    · (repeat' (first | exact LookR.nil | refine LookR.cons ?_ ?_)) <;> first | exact .inl ⟨rfl, rfl⟩ | exact .inr ⟨rfl, fun _ h => by cases h⟩ | exact .inl ⟨rfl, by first | rfl | assumption | exact (bytesC_pure _)⟩
    · (repeat' (first | exact all_mt | refine all_up ?_ ?_)) <;> first | exact ⟨rfl, _, rfl, .inr ⟨rfl, rfl⟩⟩ | exact ⟨rfl, _, rfl, .inl rfl⟩ | exact ⟨rfl, _, rfl, .inr ⟨rfl, by first | rfl | assumption | exact (bytesC_pure _)⟩⟩
def V4Ok (a : Ad) : Prop := ip4 a = true ∧ U64 a.hi ∧ U64 a.lo
def V6Ok (a : Ad) : Prop := a.v6 = true ∧ U64 a.hi ∧ U64 a.lo
theorem fourA_ok {n : Int} (h0 : 0 ≤ n) (h1 : n ≤ 100) : V4Ok (fourA n) := by
  unfold V4Ok ip4 validA fourA U64
  simp
  omega
theorem sixA_ok {n : Int} (h0 : 0 ≤ n) (h1 : n ≤ 100) : V6Ok (sixA n) := by
  unfold V6Ok sixA U64
  simp
  omega
theorem dfour_any (l : List Int) (at_ : Nat) (hl : l.length ≤ 9223372036854775807) :
    ∃ v H', AFn Tryd.prog 53 1 [.own 0 0] (up mt 0 (some (deckC l at_))) v H' ∧ ∃ (a : Ad) (at' : Nat), V4Ok a ∧ v = .agg (adC a) ∧ H' = up mt 0 (some (deckC l at')) := by
  refine AFn.ex Tryd.func53 rfl rfl (Nat.le_of_ble_eq_true rfl) ?_
  have n1 := next_any l at_ 6 (by decide) (by decide) hl
  have n2 := next_any l (nextAt l at_) 10 (by decide) (by decide) hl
  have b2 := nextV_bd l (nextAt l at_) 10 (by decide)
  generalize nextV l (nextAt l at_) 10 = q at *
  generalize nextAt l (nextAt l at_) = a2 at *
  generalize nextV l at_ 6 = r at *
  generalize nextAt l at_ = a1 at *
  refine Wq (Wr 1 2 (by decide) rfl rfl (Od rfl rfl (Al rfl ty25) (Nl ?_)))
  cases k1 : (r == 5)
  ·
    refine Wq (Wq (Wr 6 9 (by decide) rfl rfl (Od rfl rfl (Mv rfl rfl) (Od rfl rfl (C1 (fr := []) rfl rfl (n1) fok23 (.own rfl rfl (.cons rfl (.pure rfl) .nil)) rfl rfl rfl (Cn _ _) (by decide) rfl) (Od rfl rfl (Eq0 rfl rfl rfl) (Nl (Wf rfl (by first|rfl|assumption) (Wk (Wq (Wr 19 23 (by decide) rfl rfl (Od rfl rfl (Mv rfl rfl) (Od rfl rfl (C1 (fr := []) rfl rfl (n2) fok23 (.own rfl rfl (.cons rfl (.pure rfl) .nil)) rfl rfl rfl (Cn _ _) (by decide) rfl) (Od rfl rfl (C0 (fr := []) rfl rfl (fourM_any q (by omega) (by omega)) fok41 (.cons rfl (.pure rfl) .nil) rfl) (On rfl rfl (Sr rfl rfl rfl rfl rfl ty25 rfl (by decide) (Sp.lit rfl)) (Nl ?_)))))))))))))))
    refine W.ret ⟨.inl rfl, _, up mt 0 (some (deckC l a2)), (RVs.cons (RV.cellA rfl rfl ty25 rfl (Tk.lit rfl)) RVs.nil), (by (repeat' (first | exact all_mt | refine all_up ?_ ?_)) <;> rfl), ?_⟩
    exact ⟨fourA q, a2, fourA_ok (by omega) (by omega), rfl, rfl⟩
  ·
    refine Wq (Wq (Wr 6 9 (by decide) rfl rfl (Od rfl rfl (Mv rfl rfl) (Od rfl rfl (C1 (fr := []) rfl rfl (n1) fok23 (.own rfl rfl (.cons rfl (.pure rfl) .nil)) rfl rfl rfl (Cn _ _) (by decide) rfl) (Od rfl rfl (Eq0 rfl rfl rfl) (Nl (Wt rfl (by first|rfl|assumption) (Wq (Wr 13 15 (by decide) rfl rfl (Od rfl rfl (Bs rfl ty25 (.cons rfl rfl rfl rfl (Sp.lit rfl) .nil)) (On rfl rfl (Sr rfl rfl rfl rfl rfl ty25 rfl (by decide) (Sp.lit rfl)) (Nl ?_))))))))))))
    refine W.ret ⟨.inl rfl, _, up mt 0 (some (deckC l a1)), (RVs.cons (RV.cellA rfl rfl ty25 rfl (Tk.lit rfl)) RVs.nil), (by (repeat' (first | exact all_mt | refine all_up ?_ ?_)) <;> rfl), ?_⟩
    exact ⟨⟨false, 0, 134744072⟩, a1, by unfold V4Ok ip4 validA U64; decide, rfl, rfl⟩
theorem one_any (l : List Int) (at_ : Nat) (zs : List Ad) (o : Ad) (hzs : zs.length ≤ 1000) (hl : l.length ≤ 9223372036854775807) :
    ∃ v H', AFn Tryd.prog 82 1 [.own 0 0, .isl (adsC zs) zs.length, .agg (adC o)] (up mt 0 (some (deckC l at_))) v H' ∧ ∃ (a : Ad) (at' : Nat), (a = o ∨ a ∈ zs) ∧ v = .agg (adC a) ∧ H' = up mt 0 (some (deckC l at')) := by
  refine AFn.ex Tryd.func82 rfl rfl (Nat.le_of_ble_eq_true rfl) ?_
  have n1 := next_any l at_ 7 (by decide) (by decide) hl
  generalize nextV l at_ 7 = r at *
  generalize nextAt l at_ = a1 at *
  refine Wq (Wr 1 3 (by decide) rfl rfl (Od rfl rfl (Bx rfl rfl rfl) (Od rfl rfl (Al rfl ty25) (Nl ?_))))
  by_cases h0 : zs.length = 0
  · have k0 : ((zs.length : Int) == 0) = true := by rw [beq_iff_eq]; omega
    refine Wq (Wq (Wr 7 15 (by decide) rfl rfl (Od rfl rfl (Mv rfl rfl) (Od rfl rfl (Ln rfl rfl rfl ty41) (Od rfl rfl (Eq0 rfl rfl rfl) (Od rfl rfl (Mv rfl rfl) (Sd rfl rfl rfl (by first|rfl|assumption) rfl (Sd rfl rfl rfl (by first|rfl|assumption) rfl (Sd rfl rfl rfl (by first|rfl|assumption) rfl (Od rfl rfl (Pt rfl rfl (by first|rfl|assumption) rfl) (Nl (Wt rfl (by first|rfl|assumption) (Wq (Wr 19 21 (by decide) rfl rfl (Od rfl rfl (La rfl rfl rfl ty25 rfl (Tk.lit rfl)) (On rfl rfl (Sr rfl rfl rfl rfl rfl ty25 rfl (by decide) (Sp.lit rfl)) (Nl ?_)))))))))))))))))
    refine W.ret ⟨.inl rfl, _, up mt 0 (some (deckC l at_)), (RVs.cons (RV.cellA rfl rfl ty25 rfl (Tk.lit rfl)) RVs.nil), (by (repeat' (first | exact all_mt | refine all_up ?_ ?_)) <;> rfl), ?_⟩
    exact ⟨o, at_, .inl rfl, rfl, rfl⟩
  · have k0 : ((zs.length : Int) == 0) = false := by rw [beq_eq_false_iff_ne]; omega
    cases k1 : (r == 6)
    ·
      obtain ⟨j, hj, hjb⟩ := nat_of (nextV_bd l a1 (zs.length : Int) (by omega))
      have n2 := next_any l a1 (zs.length : Int) (by omega) (by omega) hl
      rw [hj] at n2
      generalize nextAt l a1 = a2 at *
      have hjl : j < zs.length := by omega
      refine Wq (Wq (Wr 7 15 (by decide) rfl rfl (Od rfl rfl (Mv rfl rfl) (Od rfl rfl (Ln rfl rfl rfl ty41) (Od rfl rfl (Eq0 rfl rfl rfl) (Od rfl rfl (Mv rfl rfl) (Gd rfl rfl rfl (by first|rfl|assumption) rfl (Mv rfl rfl) (Gd rfl rfl rfl (by first|rfl|assumption) rfl (C1 (fr := []) rfl rfl (n1) fok23 (.own rfl rfl (.cons rfl (.pure rfl) .nil)) rfl rfl rfl (Cn _ _) (by decide) rfl) (Gd rfl rfl rfl (by first|rfl|assumption) rfl (Eq0 rfl rfl rfl) (Od rfl rfl (Pf0 rfl rfl (by first|rfl|assumption) rfl) (Nl (Wf rfl (by first|rfl|assumption) (Wk (Wq (Wr 25 33 (by decide) rfl rfl (Od rfl rfl (Mv rfl rfl) (Od rfl rfl (Mv rfl rfl) (Od rfl rfl (Mv rfl rfl) (Od rfl rfl (Ln rfl rfl rfl ty41) (Od rfl rfl (C1 (fr := []) rfl rfl (n2) fok23 (.own rfl rfl (.cons rfl (.pure rfl) .nil)) rfl rfl rfl (Cn _ _) (by decide) rfl) (Od rfl rfl (Ii rfl rfl rfl rfl rfl ty41 ty25 (by first|omega|decide|assumption|(simp;done)|(simp;omega))) (Od rfl rfl (Lg rfl rfl ty25 rfl (ads_tk hjl)) (On rfl rfl (Sr rfl rfl rfl rfl rfl ty25 rfl (by decide) (Sp.lit rfl)) (Nl ?_))))))))))))))))))))))))
      refine W.ret ⟨.inl rfl, _, up mt 0 (some (deckC l a2)), (RVs.cons (RV.cellA rfl rfl ty25 rfl (Tk.lit rfl)) RVs.nil), (by (repeat' (first | exact all_mt | refine all_up ?_ ?_)) <;> rfl), ?_⟩
      exact ⟨zs[j], a2, .inr (List.getElem_mem hjl), rfl, rfl⟩
    ·
      refine Wq (Wq (Wr 7 15 (by decide) rfl rfl (Od rfl rfl (Mv rfl rfl) (Od rfl rfl (Ln rfl rfl rfl ty41) (Od rfl rfl (Eq0 rfl rfl rfl) (Od rfl rfl (Mv rfl rfl) (Gd rfl rfl rfl (by first|rfl|assumption) rfl (Mv rfl rfl) (Gd rfl rfl rfl (by first|rfl|assumption) rfl (C1 (fr := []) rfl rfl (n1) fok23 (.own rfl rfl (.cons rfl (.pure rfl) .nil)) rfl rfl rfl (Cn _ _) (by decide) rfl) (Gd rfl rfl rfl (by first|rfl|assumption) rfl (Eq0 rfl rfl rfl) (Od rfl rfl (Pf0 rfl rfl (by first|rfl|assumption) rfl) (Nl (Wt rfl (by first|rfl|assumption) (Wq (Wr 19 21 (by decide) rfl rfl (Od rfl rfl (La rfl rfl rfl ty25 rfl (Tk.lit rfl)) (On rfl rfl (Sr rfl rfl rfl rfl rfl ty25 rfl (by decide) (Sp.lit rfl)) (Nl ?_)))))))))))))))))
      refine W.ret ⟨.inl rfl, _, up mt 0 (some (deckC l a1)), (RVs.cons (RV.cellA rfl rfl ty25 rfl (Tk.lit rfl)) RVs.nil), (by (repeat' (first | exact all_mt | refine all_up ?_ ?_)) <;> rfl), ?_⟩
      exact ⟨o, a1, .inl rfl, rfl, rfl⟩
theorem solic_any (a : Ad) : ∃ v H', AFn Tryd.prog 83 0 [.agg (adC a)] mt v H' ∧ ∃ m : List Int, (m.length = 6 ∧ IsB m) ∧ v = .agg (bytesC m) ∧ H' = mt := by
  refine AFn.ex Tryd.func83 rfl rfl (Nat.le_of_ble_eq_true rfl) ?_
  obtain ⟨v6, hi, lo⟩ := a
  cases v6
  ·
    refine Wq (Wr 0 2 (by decide) rfl rfl (Od rfl rfl (Bx rfl rfl rfl) (Od rfl rfl (Al rfl ty50) (Nl (Wq (Wq (Wr 6 9 (by decide) rfl rfl (Od rfl rfl (Fa rfl rfl ty25 rfl (by decide)) (Od rfl rfl (Ld rfl rfl rfl rfl ty4 rfl) (Od rfl rfl (Nt rfl rfl) (Nl (Wt rfl (by first|rfl|assumption) (Wq (Wr 13 15 (by decide) rfl rfl (Od rfl rfl (LO.build_ar rfl ty50 ty5 .nil) (On rfl rfl (Sr rfl rfl rfl rfl rfl ty50 rfl (by decide) (Sp.lit rfl)) (Nl ?_)))))))))))))))))
    refine W.ret ⟨.inl rfl, _, mt, (RVs.cons (RV.cellA rfl rfl ty50 rfl (Tk.lit rfl)) RVs.nil), (by (repeat' (first | exact all_mt | refine all_up ?_ ?_)) <;> rfl), ?_⟩
    exact ⟨[0, 0, 0, 0, 0, 0], ⟨rfl, fun x hx => by simp at hx; omega⟩, rfl, rfl⟩
  ·
    refine Wq (Wr 0 2 (by decide) rfl rfl (Od rfl rfl (Bx rfl rfl rfl) (Od rfl rfl (Al rfl ty50) (Nl (Wq (Wq (Wr 6 9 (by decide) rfl rfl (Od rfl rfl (Fa rfl rfl ty25 rfl (by decide)) (Od rfl rfl (Ld rfl rfl rfl rfl ty4 rfl) (Od rfl rfl (Nt rfl rfl) (Nl (Wf rfl (by first|rfl|assumption) (Wk (Wq (Wr 19 32 (by decide) rfl rfl (Od rfl rfl (Fa rfl rfl ty25 rfl (by decide)) (Od rfl rfl (Ld rfl rfl rfl rfl ty23 rfl) (Od rfl rfl (LO.shr rfl rfl rfl (by first|omega|decide|assumption|(simp;done)|(simp;omega))) (Od rfl rfl (LO.conv rfl rfl ty23 ty5) (Od rfl rfl (Fa rfl rfl ty25 rfl (by decide)) (Od rfl rfl (Ld rfl rfl rfl rfl ty23 rfl) (Od rfl rfl (LO.shr rfl rfl rfl (by first|omega|decide|assumption|(simp;done)|(simp;omega))) (Od rfl rfl (LO.conv rfl rfl ty23 ty5) (Od rfl rfl (Fa rfl rfl ty25 rfl (by decide)) (Od rfl rfl (Ld rfl rfl rfl rfl ty23 rfl) (Od rfl rfl (LO.conv rfl rfl ty23 ty5) (Od rfl rfl (LO.build_ar rfl ty50 ty5 (.cons rfl rfl rfl rfl (Sp.lit rfl) (.cons rfl rfl rfl rfl (Sp.lit rfl) (.cons rfl rfl rfl rfl (Sp.lit rfl) (.cons rfl rfl rfl rfl (Sp.lit rfl) (.cons rfl rfl rfl rfl (Sp.lit rfl) (.cons rfl rfl rfl rfl (Sp.lit rfl) .nil))))))) (On rfl rfl (Sr rfl rfl rfl rfl rfl ty50 rfl (by decide) (Sp.lit rfl)) (Nl ?_)))))))))))))))))))))))))))))
    refine W.ret ⟨.inl rfl, _, mt, (RVs.cons (RV.cellA rfl rfl ty50 rfl (Tk.lit rfl)) RVs.nil), (by (repeat' (first | exact all_mt | refine all_up ?_ ?_)) <;> rfl), ?_⟩
    refine ⟨[51, 51, 255, _, _, _], ⟨rfl, fun x hx => ?_⟩, rfl, rfl⟩
    simp only [List.mem_cons, List.not_mem_nil, or_false] at hx
    rcases hx with rfl | rfl | rfl | rfl | rfl | rfl <;> first | decide | exact u8_bd _
end Go.Proofs.YtcidmiacfjdepaaDoor
