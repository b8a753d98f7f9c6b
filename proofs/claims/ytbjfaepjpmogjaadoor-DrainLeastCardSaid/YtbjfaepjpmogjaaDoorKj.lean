/-
  Loads and items as they are made; the scene.
-/
import Derived.Test.YtbjfaepjpmogjaaDoorKi
namespace Go.Proofs.YtbjfaepjpmogjaaDoor
open Go.RowKit

def LdM (sw : Int) (x : Ld) : Prop := 0 ≤ x.a ∧ x.a < sw ∧ 0 ≤ x.b ∧ x.b < sw ∧ 0 ≤ x.r ∧ x.r < 2500
theorem ldM {sw a b r : Int} (h1 : 0 ≤ a ∧ a < sw) (h2 : 0 ≤ b ∧ b < sw) (h3 : 0 ≤ r ∧ r < 2500) : LdM sw ⟨a, b, r⟩ := ⟨h1.1, h1.2, h2.1, h2.2, h3.1, h3.2⟩
theorem lds_snoc (l : List Ld) (a b c : Int) : ldsC l ++ [.base (.int .i64 a), .base (.int .i64 b), .base (.int .i64 c)] = ldsC (l ++ [⟨a, b, c⟩]) := by simp [ldsC, ldC]
theorem lds_all {l : List Ld} {n : Nat} (h : l.length = n) : Tk (ldsC l) 0 (n * 3) (ldsC l) := flatAll (c := ldC) (fun _ => rfl) h
theorem loadsM_any (l : List Int) (at_ : Nat) (f : Fab) (hf : 1 ≤ f.sw ∧ f.sw ≤ 5) (hl : l.length ≤ 9223372036854775807) :
    ∃ v H', AFn Tryd.prog 29 1 [.own 0 0, .agg (fabC f)] (up mt 0 (some (deckC l at_))) v H' ∧ ∃ (ls : List Ld) (at' : Nat), (ls.length ≤ 6 ∧ ∀ z ∈ ls, LdM f.sw z) ∧ v = .isl (ldsC ls) ls.length ∧ H' = up mt 0 (some (deckC l at')) := by
  refine AFn.ex Tryd.func29 rfl rfl (Nat.le_of_ble_eq_true rfl) ?_
  obtain ⟨hf1, hf5⟩ := hf
  repeat (refine W.seq ?_)
  refine W.region 1 3 (by decide) rfl rfl ?_
  refine RW.opd rfl rfl (LO.box rfl rfl rfl) ?_
  refine RW.opd rfl rfl (LO.assign rfl rfl) ?_
  refine RW.nil ?_
  repeat (refine W.seq ?_)
  refine W.region 7 8 (by decide) rfl rfl ?_
  refine RW.opd rfl rfl (LO.assign rfl rfl) ?_
  refine RW.nil ?_
  refine W.name 8 (8 + 1) (t := 5) (sz := 3) rfl (by decide) (by decide) ?_
  have hk := nextV_bd l at_ 7 (by decide)
  repeat (refine W.seq ?_)
  refine W.region 12 15 (by decide) rfl rfl ?_
  refine RW.opd rfl rfl (LO.move rfl rfl) ?_
  refine RW.opd rfl rfl (LO.call1 (fr := []) rfl rfl (next_any l at_ 7 (by decide) (by decide) hl) fok45 (.own rfl rfl (.cons rfl (.pure rfl) .nil)) rfl rfl rfl (List.cons_ne_nil _ _) (by decide) rfl) ?_
  refine RW.opd rfl rfl (LO.assign rfl rfl) ?_
  refine RW.nil ?_
  generalize nextV l at_ 7 = k at hk
  generalize nextAt l at_ = a1
  repeat (refine W.seq ?_)
  refine W.block ?_
  refine W.rename [(0, 0), (1, 1), (2, 8)] 3 (T' := up (up (up (up mt 0 (some (.own 0 0))) 3 (some (.own 1 0))) 5 (some (.osl 2 0 (([] : List Ld)).length 3))) 6 (some (.base (.int .i64 k)))) (H' := up (up (up mt 0 (some (deckC l a1))) 1 (some (fabC f))) 2 (some (ldsC (([] : List Ld))))) (by decide) ?_ ?_ ?_
  · (repeat' (first | exact all_mt | refine all_up ?_ ?_)) <;> first | exact .inl ⟨rfl, rfl⟩ | exact .inr ⟨rfl, fun _ h => by cases h⟩ | exact .inl ⟨rfl, by first | rfl | assumption | exact (lds_pure _)⟩
  · (repeat' (first | exact all_mt | refine all_up ?_ ?_)) <;> first | exact ⟨rfl, _, rfl, .inr ⟨rfl, rfl⟩⟩ | exact ⟨rfl, _, rfl, .inl rfl⟩ | exact ⟨rfl, _, rfl, .inr ⟨rfl, by first | rfl | assumption | exact (lds_pure _)⟩⟩
  refine W.loop_ind (α := Int × Nat × List Ld) (fun x => x.1.toNat) 3 (fun x => up (up (up (up mt 0 (some (.own 0 0))) 3 (some (.own 1 0))) 5 (some (.osl 2 0 x.2.2.length 3))) 6 (some (.base (.int .i64 x.1)))) (fun x => up (up (up mt 0 (some (deckC l x.2.1))) 1 (some (fabC f))) 2 (some (ldsC x.2.2))) (fun x => (0 ≤ x.1 ∧ x.2.2.length + x.1 ≤ 6) ∧ ∀ z ∈ x.2.2, LdM f.sw z) (k, a1, (([] : List Ld))) (show (0 ≤ k ∧ (([] : List Ld)).length + k ≤ 6) ∧ ∀ z ∈ (([] : List Ld)), LdM f.sw z from ⟨⟨by omega, by simp; omega⟩, fun z h => absurd h List.not_mem_nil⟩) ?_
  rintro ⟨k, a, ls⟩ hIA ihA
  try (dsimp only at hIA)
  try dsimp only
  obtain ⟨⟨hk0, hk1⟩, hls⟩ := hIA
  by_cases hc : 0 < k
  · have g1 : decide (k > 0) = true := decide_eq_true hc
    have b1 := nextV_bd l a f.sw (by omega)
    have b2 := nextV_bd l (nextAt l a) f.sw (by omega)
    have b3 := nextV_bd l (nextAt l (nextAt l a)) 2500 (by decide)
    repeat (refine W.seq ?_)
    refine W.region 19 21 (by decide) rfl rfl ?_
    refine RW.opd rfl rfl (LO.move rfl rfl) ?_
    refine RW.opd rfl rfl (LO.gtr rfl rfl rfl) ?_
    refine RW.nil ?_
    repeat (refine W.seq ?_)
    refine W.cond_t rfl (by first | rfl | assumption) ?_
    refine W.skip ?_
    repeat (refine W.seq ?_)
    refine W.block ?_
    repeat (refine W.seq ?_)
    refine W.regionD 25 40 (by decide) rfl mixed rfl ?_
    refine RW.opd rfl rfl (LO.move rfl rfl) ?_
    refine RW.opd rfl rfl (LO.move rfl rfl) ?_
    refine RW.opd rfl rfl (LO.fieldAddr rfl rfl ty28 rfl (by decide)) ?_
    refine RW.opd rfl rfl (LO.load rfl rfl rfl rfl ty3 rfl) ?_
    refine RW.opd rfl rfl (LO.call1 (fr := []) rfl rfl (next_any l a f.sw (by omega) (by omega) hl) fok45 (.own rfl rfl (.cons rfl (.pure rfl) .nil)) rfl rfl rfl (List.cons_ne_nil _ _) (by decide) rfl) ?_
    refine RW.opd rfl rfl (LO.move rfl rfl) ?_
    refine RW.opd rfl rfl (LO.fieldAddr rfl rfl ty28 rfl (by decide)) ?_
    refine RW.opd rfl rfl (LO.load rfl rfl rfl rfl ty3 rfl) ?_
    refine RW.opd rfl rfl (LO.call1 (fr := []) rfl rfl (next_any l (nextAt l a) f.sw (by omega) (by omega) hl) fok45 (.own rfl rfl (.cons rfl (.pure rfl) .nil)) rfl rfl rfl (List.cons_ne_nil _ _) (by decide) rfl) ?_
    refine RW.opd rfl rfl (LO.move rfl rfl) ?_
    refine RW.opd rfl rfl (LO.call1 (fr := []) rfl rfl (next_any l (nextAt l (nextAt l a)) 2500 (by decide) (by decide) hl) fok45 (.own rfl rfl (.cons rfl (.pure rfl) .nil)) rfl rfl rfl (List.cons_ne_nil _ _) (by decide) rfl) ?_
    refine RW.opd rfl rfl (LO.build_st rfl ty51 (.cons rfl rfl rfl rfl (Sp.lit rfl) (.cons rfl rfl rfl rfl (Sp.lit rfl) (.cons rfl rfl rfl rfl (Sp.lit rfl) .nil)))) ?_
    refine RW.opd rfl rfl (LO.buildSlice rfl ty29 ty51 (by decide) (by decide) (.cons rfl rfl rfl rfl (Sp.lit rfl) .nil)) ?_
    refine RW.opd rfl rfl (LO.append rfl rfl (SrcAV.own rfl rfl (Tk.lit rfl)) rfl (lds_all rfl) ty29 ty29 ty51 (by decide) ?_ ?_ ?_) ?_; (· (first | omega | decide | assumption | fail | (simp; done) | (simp; omega))); (· (first | omega | decide | assumption | fail | (simp; done) | (simp; omega))); (· (first | decide | omega))
    refine RW.opd rfl rfl (LO.assign rfl rfl) ?_
    refine RW.nil ⟨by kernel_rfl, ?_⟩
    repeat (refine W.seq ?_)
    refine W.region 44 47 (by decide) rfl rfl ?_
    refine RW.opd rfl rfl (LO.move rfl rfl) ?_
    refine RW.opd rfl rfl (LO.sub_in rfl rfl rfl ?_) ?_; (· (first | exact IntWalk.i64_in _ (by omega) | assumption))
    refine RW.opd rfl rfl (LO.assign rfl rfl) ?_
    refine RW.nil ?_
    rw [lds_snoc, show ls.length + 1 = (ls ++ [(⟨nextV l a f.sw, nextV l (nextAt l a) f.sw, nextV l (nextAt l (nextAt l a)) 2500⟩ : Ld)]).length from by simp]
    refine WL.rename [(0, 0), (1, 1), (2, 38)] 3 (by decide) ?_ ?_ (ihA ((k - 1), (nextAt l (nextAt l (nextAt l a))), (ls ++ [(⟨nextV l a f.sw, nextV l (nextAt l a) f.sw, nextV l (nextAt l (nextAt l a)) 2500⟩ : Ld)])) (show (k - 1).toNat < k.toNat from by omega) (show (0 ≤ (k - 1) ∧ (ls ++ [(⟨nextV l a f.sw, nextV l (nextAt l a) f.sw, nextV l (nextAt l (nextAt l a)) 2500⟩ : Ld)]).length + (k - 1) ≤ 6) ∧ ∀ z ∈ (ls ++ [(⟨nextV l a f.sw, nextV l (nextAt l a) f.sw, nextV l (nextAt l (nextAt l a)) 2500⟩ : Ld)]), LdM f.sw z from ⟨⟨by omega, by simp; omega⟩, mem_snoc hls (ldM b1 b2 b3)⟩))
    · (repeat' (first | exact all_mt | refine all_up ?_ ?_)) <;> first | exact .inl ⟨rfl, rfl⟩ | exact .inr ⟨rfl, fun _ h => by cases h⟩ | exact .inl ⟨rfl, by first | rfl | assumption | exact (lds_pure _)⟩
    · (repeat' (first | exact all_mt | refine all_up ?_ ?_)) <;> first | exact ⟨rfl, _, rfl, .inr ⟨rfl, rfl⟩⟩ | exact ⟨rfl, _, rfl, .inl rfl⟩ | exact ⟨rfl, _, rfl, .inr ⟨rfl, by first | rfl | assumption | exact (lds_pure _)⟩⟩
  · have g1 : decide (k > 0) = false := decide_eq_false hc
    repeat (refine W.seq ?_)
    refine W.region 19 21 (by decide) rfl rfl ?_
    refine RW.opd rfl rfl (LO.move rfl rfl) ?_
    refine RW.opd rfl rfl (LO.gtr rfl rfl rfl) ?_
    refine RW.nil ?_
    repeat (refine W.seq ?_)
    refine W.cond_f rfl (by first | rfl | assumption) ?_
    refine W.exit ?_
    repeat (refine W.seq ?_)
    refine W.region 51 53 (by decide) rfl rfl ?_
    refine RW.opd rfl rfl (LO.move rfl rfl) ?_
    refine RW.opd rfl rfl (LO.assign rfl rfl) ?_
    refine RW.nil ?_
    refine W.frz1 (t := 4) rfl rfl (lds_all rfl) (lds_pure _) ?_
    repeat (refine W.seq ?_)
    refine W.ret ⟨.inl rfl, _, up mt 0 (some (deckC l a)), (RVs.cons (RV.tmp rfl) RVs.nil), (by (repeat' (first | exact all_mt | refine all_up ?_ ?_)) <;> rfl), ?_⟩
    exact ⟨ls, a, ⟨by omega, hls⟩, rfl, rfl⟩
theorem validD_its {f : Fab} {its : List Itm} (hv : validB f = true) : validD f [] its = true ↔ its.length ≤ 8 ∧ (∀ z ∈ its, itB f z = true) ∧ its.Nodup := by
  unfold validD
  rw [hv]
  simp [List.all_eq_true]
theorem itsM_any (l : List Int) (at_ : Nat) (f : Fab) (hf : FabM f) (hl : l.length ≤ 9223372036854775807) :
    ∃ v H', AFn Tryd.prog 30 1 [.own 0 0, .agg (fabC f), .base (.int .i64 5)] (up mt 0 (some (deckC l at_))) v H' ∧ ∃ (its : List Itm) (at' : Nat), (its.length ≤ 5 ∧ validD f [] its = true) ∧ v = .isl (itsC its) its.length ∧ H' = up mt 0 (some (deckC l at')) := by
  refine AFn.ex Tryd.func30 rfl rfl (Nat.le_of_ble_eq_true rfl) ?_
  have hf1 := hf.sw1
  have hf5 := hf.sw5
  have hf7 := hf.nl
  have hvb := hf.val
  have hvd := fun its h => AFn.arg1 (a := .nils) (validDX_any f [] its (by omega) (by decide) h) fun X φ w x h => h.nil_isl
  repeat (refine W.seq ?_)
  refine W.region 1 3 (by decide) rfl rfl ?_
  refine RW.opd rfl rfl (LO.box rfl rfl rfl) ?_
  refine RW.opd rfl rfl (LO.assign rfl rfl) ?_
  refine RW.nil ?_
  repeat (refine W.seq ?_)
  refine W.region 7 8 (by decide) rfl rfl ?_
  refine RW.opd rfl rfl (LO.assign rfl rfl) ?_
  refine RW.nil ?_
  refine W.name 8 (8 + 1) (t := 7) (sz := 2) rfl (by decide) (by decide) ?_
  have hk := nextV_bd l at_ 6 (by decide)
  repeat (refine W.seq ?_)
  refine W.region 12 17 (by decide) rfl rfl ?_
  refine RW.opd rfl rfl (LO.move rfl rfl) ?_
  refine RW.opd rfl rfl (LO.move rfl rfl) ?_
  refine RW.opd rfl rfl (LO.add_in rfl rfl rfl ?_) ?_; (· (first | exact IntWalk.i64_in _ (by omega) | assumption))
  refine RW.opd rfl rfl (LO.call1 (fr := []) rfl rfl (next_any l at_ 6 (by decide) (by decide) hl) fok45 (.own rfl rfl (.cons rfl (.pure rfl) .nil)) rfl rfl rfl (List.cons_ne_nil _ _) (by decide) rfl) ?_
  refine RW.opd rfl rfl (LO.assign rfl rfl) ?_
  refine RW.nil ?_
  rw [show (5 : Int) + 1 = 6 from rfl]
  generalize nextV l at_ 6 = k at hk
  generalize nextAt l at_ = a1
  repeat (refine W.seq ?_)
  refine W.block ?_
  refine W.rename [(0, 0), (1, 1), (2, 8)] 3 (T' := up (up (up (up mt 0 (some (.own 0 0))) 4 (some (.own 1 0))) 7 (some (.osl 2 0 (([] : List Itm)).length 2))) 8 (some (.base (.int .i64 k)))) (H' := up (up (up mt 0 (some (deckC l a1))) 1 (some (fabC f))) 2 (some (itsC (([] : List Itm))))) (by decide) ?_ ?_ ?_
  · (repeat' (first | exact all_mt | refine all_up ?_ ?_)) <;> first | exact .inl ⟨rfl, rfl⟩ | exact .inr ⟨rfl, fun _ h => by cases h⟩ | exact .inl ⟨rfl, by first | rfl | assumption | exact (its_pure _)⟩
  · (repeat' (first | exact all_mt | refine all_up ?_ ?_)) <;> first | exact ⟨rfl, _, rfl, .inr ⟨rfl, rfl⟩⟩ | exact ⟨rfl, _, rfl, .inl rfl⟩ | exact ⟨rfl, _, rfl, .inr ⟨rfl, by first | rfl | assumption | exact (its_pure _)⟩⟩
  refine W.loop_ind (α := Int × Nat × List Itm) (fun x => x.1.toNat) 3 (fun x => up (up (up (up mt 0 (some (.own 0 0))) 4 (some (.own 1 0))) 7 (some (.osl 2 0 x.2.2.length 2))) 8 (some (.base (.int .i64 x.1)))) (fun x => up (up (up mt 0 (some (deckC l x.2.1))) 1 (some (fabC f))) 2 (some (itsC x.2.2))) (fun x => (0 ≤ x.1 ∧ x.2.2.length + x.1 ≤ 5) ∧ validD f [] x.2.2 = true) (k, a1, (([] : List Itm))) (show (0 ≤ k ∧ (([] : List Itm)).length + k ≤ 5) ∧ validD f [] (([] : List Itm)) = true from ⟨⟨by omega, by simp; omega⟩, (validD_its hvb).2 ⟨by decide, fun z h => absurd h List.not_mem_nil, List.nodup_nil⟩⟩) ?_
  rintro ⟨k, a, its⟩ hIA ihA
  try (dsimp only at hIA)
  try dsimp only
  obtain ⟨⟨hk0, hk1⟩, hval⟩ := hIA
  by_cases hc : 0 < k
  · have g1 : decide (k > 0) = true := decide_eq_true hc
    have b1 := nextV_bd l a ((f.links.length : Int) + 1) (by omega)
    repeat (refine W.seq ?_)
    refine W.region 21 23 (by decide) rfl rfl ?_
    refine RW.opd rfl rfl (LO.move rfl rfl) ?_
    refine RW.opd rfl rfl (LO.gtr rfl rfl rfl) ?_
    refine RW.nil ?_
    repeat (refine W.seq ?_)
    refine W.cond_t rfl (by first | rfl | assumption) ?_
    refine W.skip ?_
    repeat (refine W.seq ?_)
    refine W.block ?_
    repeat (refine W.seq ?_)
    refine W.region 27 36 (by decide) rfl rfl ?_
    refine RW.opd rfl rfl (LO.move rfl rfl) ?_
    refine RW.opd rfl rfl (LO.fieldAddr rfl rfl ty28 rfl (by decide)) ?_
    refine RW.opd rfl rfl (LO.load rfl rfl rfl rfl ty25 rfl) ?_
    refine RW.opd rfl rfl (LO.len_isl rfl rfl rfl ty25) ?_
    refine RW.opd rfl rfl (LO.add_in rfl rfl rfl ?_) ?_; (· (first | exact IntWalk.i64_in _ (by omega) | assumption))
    refine RW.opd rfl rfl (LO.call1 (fr := []) rfl rfl (next_any l a ((f.links.length : Int) + 1) (by omega) (by omega) hl) fok45 (.own rfl rfl (.cons rfl (.pure rfl) .nil)) rfl rfl rfl (List.cons_ne_nil _ _) (by decide) rfl) ?_
    refine RW.opd rfl rfl (LO.build_st rfl ty45 (.cons rfl rfl rfl rfl (Sp.lit rfl) .nil)) ?_
    refine RW.opd rfl rfl (LO.alloc rfl ty45) ?_
    refine RW.opn rfl rfl (LO.store rfl rfl rfl rfl rfl ty45 rfl (by decide) (Sp.lit rfl)) ?_
    refine RW.nil ?_
    generalize nextV l a ((f.links.length : Int) + 1) = ix at b1
    generalize nextAt l a = a2
    refine W.seq ?_
    refine W.joinK (α := Bool × Int × Nat) 4 (fun x => [(0, .own 0 0), (4, .own 1 0), (7, .osl 2 0 its.length 2), (9, .own 3 0)]) (fun x => up (up (up (up mt 0 (some (deckC l x.2.2))) 1 (some (fabC f))) 2 (some (itsC its))) 3 (some (itC ⟨x.1, x.2.1⟩))) (fun x => True) (.cons (t := 8) rfl (by first | exact .inl rfl | exact .inr ⟨rfl, fun _ h => by cases h⟩ | (exact .inl (by assumption)) ) .nil) ?_ ?_
    rotate_left
    rintro ⟨s, y, b⟩ hIJ
    try (dsimp only at hIJ)
    try dsimp only [joinT, baseT, List.cons_append, List.nil_append]
    rotate_right
    ·
      by_cases e : ix = f.links.length
      case' pos =>
        have k1 : (ix == (f.links.length : Int)) = true := by simpa using e
        repeat (refine W.seq ?_)
        refine W.region 40 51 (by decide) rfl rfl ?_
        refine RW.opd rfl rfl (LO.fieldAddr rfl rfl ty45 rfl (by decide)) ?_
        refine RW.opd rfl rfl (LO.load rfl rfl rfl rfl ty3 rfl) ?_
        refine RW.opd rfl rfl (LO.fieldAddr rfl rfl ty28 rfl (by decide)) ?_
        refine RW.opd rfl rfl (LO.load rfl rfl rfl rfl ty25 rfl) ?_
        refine RW.opd rfl rfl (LO.len_isl rfl rfl rfl ty25) ?_
        refine RW.opd rfl rfl (LO.eql rfl rfl rfl) ?_
        refine RW.opd rfl rfl (LO.move rfl rfl) ?_
        refine RW.sd rfl rfl rfl ?_ rfl ?_; (· (first | rfl | assumption))
      case' neg =>
        have k1 : (ix == (f.links.length : Int)) = false := by simpa using e
        have n4 := next_any l a2 4 (by decide) (by decide) hl
        obtain ⟨r4, h4⟩ : ∃ r4, nextV l a2 4 = r4 := ⟨_, rfl⟩
        rw [h4] at n4
        cases k2 : (r4 == 0)
        case' false =>
          repeat (refine W.seq ?_)
          refine W.region 40 51 (by decide) rfl rfl ?_
          refine RW.opd rfl rfl (LO.fieldAddr rfl rfl ty45 rfl (by decide)) ?_
          refine RW.opd rfl rfl (LO.load rfl rfl rfl rfl ty3 rfl) ?_
          refine RW.opd rfl rfl (LO.fieldAddr rfl rfl ty28 rfl (by decide)) ?_
          refine RW.opd rfl rfl (LO.load rfl rfl rfl rfl ty25 rfl) ?_
          refine RW.opd rfl rfl (LO.len_isl rfl rfl rfl ty25) ?_
          refine RW.opd rfl rfl (LO.eql rfl rfl rfl) ?_
          refine RW.opd rfl rfl (LO.move rfl rfl) ?_
          refine RW.gd rfl rfl rfl ?_ rfl (LO.move rfl rfl) ?_; (· (first | rfl | assumption))
          refine RW.gd rfl rfl rfl ?_ rfl (LO.call1 (fr := []) rfl rfl (n4) fok45 (.own rfl rfl (.cons rfl (.pure rfl) .nil)) rfl rfl rfl (List.cons_ne_nil _ _) (by decide) rfl) ?_; (· (first | rfl | assumption))
          refine RW.gd rfl rfl rfl ?_ rfl (LO.eql rfl rfl rfl) ?_; (· (first | rfl | assumption))
          refine RW.opd rfl rfl (LO.pick_f rfl rfl ?_ rfl) ?_; (· (first | rfl | assumption))
          refine RW.nil ?_
          repeat (refine W.seq ?_)
          refine W.cond_f rfl (by first | rfl | assumption) ?_
          refine W.skip ?_
          intro yJ KJ hJ
          refine W.renameJ [(0, 0), (1, 1), (2, 2), (3, 34)] 4 (by decide) ?_ ?_ (hJ (false, ix, (nextAt l a2)) (show True from trivial))
          · (repeat' (first | exact LookR.nil | refine LookR.cons ?_ ?_)) <;> first | exact .inl ⟨rfl, rfl⟩ | exact .inr ⟨rfl, fun _ h => by cases h⟩ | exact .inl ⟨rfl, by first | rfl | assumption | exact (its_pure _)⟩
          · (repeat' (first | exact all_mt | refine all_up ?_ ?_)) <;> first | exact ⟨rfl, _, rfl, .inr ⟨rfl, rfl⟩⟩ | exact ⟨rfl, _, rfl, .inl rfl⟩ | exact ⟨rfl, _, rfl, .inr ⟨rfl, by first | rfl | assumption | exact (its_pure _)⟩⟩
        case' true =>
          repeat (refine W.seq ?_)
          refine W.region 40 51 (by decide) rfl rfl ?_
          refine RW.opd rfl rfl (LO.fieldAddr rfl rfl ty45 rfl (by decide)) ?_
          refine RW.opd rfl rfl (LO.load rfl rfl rfl rfl ty3 rfl) ?_
          refine RW.opd rfl rfl (LO.fieldAddr rfl rfl ty28 rfl (by decide)) ?_
          refine RW.opd rfl rfl (LO.load rfl rfl rfl rfl ty25 rfl) ?_
          refine RW.opd rfl rfl (LO.len_isl rfl rfl rfl ty25) ?_
          refine RW.opd rfl rfl (LO.eql rfl rfl rfl) ?_
          refine RW.opd rfl rfl (LO.move rfl rfl) ?_
          refine RW.gd rfl rfl rfl ?_ rfl (LO.move rfl rfl) ?_; (· (first | rfl | assumption))
          refine RW.gd rfl rfl rfl ?_ rfl (LO.call1 (fr := []) rfl rfl (n4) fok45 (.own rfl rfl (.cons rfl (.pure rfl) .nil)) rfl rfl rfl (List.cons_ne_nil _ _) (by decide) rfl) ?_; (· (first | rfl | assumption))
          refine RW.gd rfl rfl rfl ?_ rfl (LO.eql rfl rfl rfl) ?_; (· (first | rfl | assumption))
          refine RW.opd rfl rfl (LO.pick_f rfl rfl ?_ rfl) ?_; (· (first | rfl | assumption))
          refine RW.nil ?_
          generalize nextAt l a2 = a2
      case' pos =>
        refine RW.sd rfl rfl rfl ?_ rfl ?_; (· (first | rfl | assumption))
        refine RW.sd rfl rfl rfl ?_ rfl ?_; (· (first | rfl | assumption))
        refine RW.opd rfl rfl (LO.pick_t rfl rfl ?_ rfl) ?_; (· (first | rfl | assumption))
        refine RW.nil ?_
      all_goals
        repeat (refine W.seq ?_)
        refine W.cond_t rfl (by first | rfl | assumption) ?_
        repeat (refine W.seq ?_)
        refine W.region 55 61 (by decide) rfl rfl ?_
        refine RW.opd rfl rfl (LO.move rfl rfl) ?_
        refine RW.opd rfl rfl (LO.fieldAddr rfl rfl ty28 rfl (by decide)) ?_
        refine RW.opd rfl rfl (LO.load rfl rfl rfl rfl ty3 rfl) ?_
        refine RW.opd rfl rfl (LO.call1 (fr := []) rfl rfl (next_any l a2 f.sw (by omega) (by omega) hl) fok45 (.own rfl rfl (.cons rfl (.pure rfl) .nil)) rfl rfl rfl (List.cons_ne_nil _ _) (by decide) rfl) ?_
        refine RW.opd rfl rfl (LO.build_st rfl ty45 (.cons rfl rfl rfl rfl (Sp.lit rfl) (.cons rfl rfl rfl rfl (Sp.lit rfl) .nil))) ?_
        refine RW.opn rfl rfl (LO.store rfl rfl rfl rfl rfl ty45 rfl (by decide) (Sp.lit rfl)) ?_
        refine RW.nil ?_
        intro yJ KJ hJ
        refine W.renameJ [(0, 0), (1, 1), (2, 2), (3, 34)] 4 (by decide) ?_ ?_ (hJ (true, (nextV l a2 f.sw), (nextAt l a2)) (show True from trivial))
        · (repeat' (first | exact LookR.nil | refine LookR.cons ?_ ?_)) <;> first | exact .inl ⟨rfl, rfl⟩ | exact .inr ⟨rfl, fun _ h => by cases h⟩ | exact .inl ⟨rfl, by first | rfl | assumption | exact (its_pure _)⟩
        · (repeat' (first | exact all_mt | refine all_up ?_ ?_)) <;> first | exact ⟨rfl, _, rfl, .inr ⟨rfl, rfl⟩⟩ | exact ⟨rfl, _, rfl, .inl rfl⟩ | exact ⟨rfl, _, rfl, .inr ⟨rfl, by first | rfl | assumption | exact (its_pure _)⟩⟩
    clear hIJ
    obtain ⟨it, hit⟩ : ∃ it : Itm, (⟨s, y⟩ : Itm) = it := ⟨_, rfl⟩
    have hci : itC ⟨s, y⟩ = [.base (.bool s), .base (.int .i64 y)] := rfl
    have hsn : itsC its ++ [.base (.bool s), .base (.int .i64 y)] = itsC (its ++ [it]) := by rw [← hit]; exact its_snoc its ⟨s, y⟩
    have hln : its.length + 1 = (its ++ [it]).length := by simp
    have hvi := hvd (its ++ [it]) (by simp; omega)
    cases hv2 : validD f [] (its ++ [it]) with
    | false =>
      rw [hv2] at hvi
      repeat (refine W.seq ?_)
      refine W.regionD 65 72 (by decide) rfl mixed rfl ?_
      refine RW.opd rfl rfl (LO.load_agg rfl rfl rfl ty28 rfl (Tk.lit rfl)) ?_
      refine RW.opd rfl rfl (LO.move rfl rfl) ?_
      refine RW.opd rfl rfl (LO.append_nil rfl rfl (SrcAV.own rfl rfl (its_all rfl)) ty22 ty22 ty45 (by decide) ?_ ?_ ?_) ?_; (· (first | omega | decide | assumption | fail | (simp; done) | (simp; omega))); (· (first | omega | decide | assumption | fail | (simp; done) | (simp; omega))); (· (first | decide | omega))
      refine RW.opd rfl rfl (LO.load_agg rfl rfl rfl ty45 rfl (Tk.lit rfl)) ?_
      refine RW.opd rfl rfl (LO.buildSlice rfl ty22 ty45 (by decide) (by decide) (.cons rfl rfl rfl rfl (Sp.lit rfl) .nil)) ?_
      refine RW.opd rfl rfl (LO.append rfl rfl (SrcAV.own rfl rfl (Tk.lit rfl)) rfl (its_all rfl) ty22 ty22 ty45 (by decide) ?_ ?_ ?_) ?_; (· (first | omega | decide | assumption | fail | (simp; done) | (simp; omega))); (· (first | omega | decide | assumption | fail | (simp; done) | (simp; omega))); (· (first | decide | omega))
      rw [hsn, hln]
      refine RW.opd rfl rfl (LO.call0 (fr := [70]) rfl rfl (hvi) fok25 (.cons rfl (.pure rfl) (.cons rfl (.pure rfl) (.cons rfl (.one (.osl (by decide) rfl (its_all rfl) (its_pure _))) .nil))) rfl) ?_
      refine RW.nil ⟨by kernel_rfl, ?_⟩
      repeat (refine W.seq ?_)
      refine W.cond_f rfl (by first | rfl | assumption) ?_
      refine W.skip ?_
      repeat (refine W.seq ?_)
      refine W.region 85 88 (by decide) rfl rfl ?_
      refine RW.opd rfl rfl (LO.move rfl rfl) ?_
      refine RW.opd rfl rfl (LO.sub_in rfl rfl rfl ?_) ?_; (· (first | exact IntWalk.i64_in _ (by omega) | assumption))
      refine RW.opd rfl rfl (LO.assign rfl rfl) ?_
      refine RW.nil ?_
      refine WL.rename [(0, 0), (1, 1), (2, 2)] 3 (by decide) ?_ ?_ (ihA ((k - 1), b, its) (show (k - 1).toNat < k.toNat from by omega) (show (0 ≤ (k - 1) ∧ its.length + (k - 1) ≤ 5) ∧ validD f [] its = true from ⟨⟨by omega, by omega⟩, hval⟩))
      · (repeat' (first | exact all_mt | refine all_up ?_ ?_)) <;> first | exact .inl ⟨rfl, rfl⟩ | exact .inr ⟨rfl, fun _ h => by cases h⟩ | exact .inl ⟨rfl, by first | rfl | assumption | exact (its_pure _)⟩
      · (repeat' (first | exact all_mt | refine all_up ?_ ?_)) <;> first | exact ⟨rfl, _, rfl, .inr ⟨rfl, rfl⟩⟩ | exact ⟨rfl, _, rfl, .inl rfl⟩ | exact ⟨rfl, _, rfl, .inr ⟨rfl, by first | rfl | assumption | exact (its_pure _)⟩⟩
    | true =>
      rw [hv2] at hvi
      repeat (refine W.seq ?_)
      refine W.regionD 65 72 (by decide) rfl mixed rfl ?_
      refine RW.opd rfl rfl (LO.load_agg rfl rfl rfl ty28 rfl (Tk.lit rfl)) ?_
      refine RW.opd rfl rfl (LO.move rfl rfl) ?_
      refine RW.opd rfl rfl (LO.append_nil rfl rfl (SrcAV.own rfl rfl (its_all rfl)) ty22 ty22 ty45 (by decide) ?_ ?_ ?_) ?_; (· (first | omega | decide | assumption | fail | (simp; done) | (simp; omega))); (· (first | omega | decide | assumption | fail | (simp; done) | (simp; omega))); (· (first | decide | omega))
      refine RW.opd rfl rfl (LO.load_agg rfl rfl rfl ty45 rfl (Tk.lit rfl)) ?_
      refine RW.opd rfl rfl (LO.buildSlice rfl ty22 ty45 (by decide) (by decide) (.cons rfl rfl rfl rfl (Sp.lit rfl) .nil)) ?_
      refine RW.opd rfl rfl (LO.append rfl rfl (SrcAV.own rfl rfl (Tk.lit rfl)) rfl (its_all rfl) ty22 ty22 ty45 (by decide) ?_ ?_ ?_) ?_; (· (first | omega | decide | assumption | fail | (simp; done) | (simp; omega))); (· (first | omega | decide | assumption | fail | (simp; done) | (simp; omega))); (· (first | decide | omega))
      rw [hsn, hln]
      refine RW.opd rfl rfl (LO.call0 (fr := [70]) rfl rfl (hvi) fok25 (.cons rfl (.pure rfl) (.cons rfl (.pure rfl) (.cons rfl (.one (.osl (by decide) rfl (its_all rfl) (its_pure _))) .nil))) rfl) ?_
      refine RW.nil ⟨by kernel_rfl, ?_⟩
      repeat (refine W.seq ?_)
      refine W.cond_t rfl (by first | rfl | assumption) ?_
      repeat (refine W.seq ?_)
      refine W.region 76 81 (by decide) rfl rfl ?_
      refine RW.opd rfl rfl (LO.move rfl rfl) ?_
      refine RW.opd rfl rfl (LO.load_agg rfl rfl rfl ty45 rfl (Tk.lit rfl)) ?_
      refine RW.opd rfl rfl (LO.buildSlice rfl ty22 ty45 (by decide) (by decide) (.cons rfl rfl rfl rfl (Sp.lit rfl) .nil)) ?_
      refine RW.opd rfl rfl (LO.append rfl rfl (SrcAV.own rfl rfl (Tk.lit rfl)) rfl (its_all rfl) ty22 ty22 ty45 (by decide) ?_ ?_ ?_) ?_; (· (first | omega | decide | assumption | fail | (simp; done) | (simp; omega))); (· (first | omega | decide | assumption | fail | (simp; done) | (simp; omega))); (· (first | decide | omega))
      refine RW.opd rfl rfl (LO.assign rfl rfl) ?_
      refine RW.nil ?_
      repeat (refine W.seq ?_)
      refine W.region 85 88 (by decide) rfl rfl ?_
      refine RW.opd rfl rfl (LO.move rfl rfl) ?_
      refine RW.opd rfl rfl (LO.sub_in rfl rfl rfl ?_) ?_; (· (first | exact IntWalk.i64_in _ (by omega) | assumption))
      refine RW.opd rfl rfl (LO.assign rfl rfl) ?_
      refine RW.nil ?_
      rw [hsn, hln]
      refine WL.rename [(0, 0), (1, 1), (2, 79)] 3 (by decide) ?_ ?_ (ihA ((k - 1), b, (its ++ [it])) (show (k - 1).toNat < k.toNat from by omega) (show (0 ≤ (k - 1) ∧ (its ++ [it]).length + (k - 1) ≤ 5) ∧ validD f [] (its ++ [it]) = true from ⟨⟨by omega, by simp; omega⟩, hv2⟩))
      · (repeat' (first | exact all_mt | refine all_up ?_ ?_)) <;> first | exact .inl ⟨rfl, rfl⟩ | exact .inr ⟨rfl, fun _ h => by cases h⟩ | exact .inl ⟨rfl, by first | rfl | assumption | exact (its_pure _)⟩
      · (repeat' (first | exact all_mt | refine all_up ?_ ?_)) <;> first | exact ⟨rfl, _, rfl, .inr ⟨rfl, rfl⟩⟩ | exact ⟨rfl, _, rfl, .inl rfl⟩ | exact ⟨rfl, _, rfl, .inr ⟨rfl, by first | rfl | assumption | exact (its_pure _)⟩⟩
  · have g1 : decide (k > 0) = false := decide_eq_false hc
    repeat (refine W.seq ?_)
    refine W.region 21 23 (by decide) rfl rfl ?_
    refine RW.opd rfl rfl (LO.move rfl rfl) ?_
    refine RW.opd rfl rfl (LO.gtr rfl rfl rfl) ?_
    refine RW.nil ?_
    repeat (refine W.seq ?_)
    refine W.cond_f rfl (by first | rfl | assumption) ?_
    refine W.exit ?_
    repeat (refine W.seq ?_)
    refine W.region 92 94 (by decide) rfl rfl ?_
    refine RW.opd rfl rfl (LO.move rfl rfl) ?_
    refine RW.opd rfl rfl (LO.assign rfl rfl) ?_
    refine RW.nil ?_
    refine W.frz1 (t := 6) rfl rfl (its_all rfl) (its_pure _) ?_
    repeat (refine W.seq ?_)
    refine W.ret ⟨.inl rfl, _, up mt 0 (some (deckC l a)), (RVs.cons (RV.tmp rfl) RVs.nil), (by (repeat' (first | exact all_mt | refine all_up ?_ ?_)) <;> rfl), ?_⟩
    exact ⟨its, a, ⟨by omega, hval⟩, rfl, rfl⟩
end Go.Proofs.YtbjfaepjpmogjaaDoor
