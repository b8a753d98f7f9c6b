/-
  The list of numbers that everything is made from: the next number, a new list.
-/
import Derived.Test.YtcidmiacfjdepaaDoorTt
namespace Go.Proofs.YtcidmiacfjdepaaDoor
open Go.RowKit

theorem tmod_pos (v n : Int) (hn : 1 ≤ n) : -n < v.tmod n ∧ v.tmod n < n ∧ v % n = if v.tmod n < 0 then v.tmod n + n else v.tmod n := by
  have h0 := Int.emod_nonneg v (show n ≠ 0 by omega)
  have h1 := Int.emod_lt_of_pos v (show 0 < n by omega)
  rw [Int.tmod_eq_emod]
  have h3 : (n.natAbs : Int) = n := by omega
  split
  · refine ⟨by omega, by omega, ?_⟩
    rw [if_neg (by omega)]; omega
  · rename_i h
    have h2 : v % n ≠ 0 := fun e => h (.inr (Int.dvd_of_emod_eq_zero e))
    refine ⟨by omega, by omega, ?_⟩
    rw [if_pos (by omega)]; omega

theorem mod_any (v n : Int) (hn : 1 ≤ n) (hn2 : n ≤ 9223372036854775807) : AFn Tryd.prog 10 0 [.base (.int .i64 v), .base (.int .i64 n)] mt (.base (.int .i64 (v % n))) mt := by
  refine AFn.eq Tryd.func10 rfl rfl (Nat.le_of_ble_eq_true rfl) ?_
  obtain ⟨h1, h2, h3⟩ := tmod_pos v n hn
  repeat (refine W.seq ?_)
  refine W.region 0 1 (by decide) rfl rfl ?_
  refine RW.opd rfl rfl (LO.assign rfl rfl) ?_
  refine RW.nil ?_
  repeat (refine W.seq ?_)
  refine W.region 5 9 (by decide) rfl rfl ?_
  refine RW.opd rfl rfl (LO.move rfl rfl) ?_
  refine RW.opd rfl rfl (LO.move rfl rfl) ?_
  refine RW.opd rfl rfl (LO.rem rfl rfl rfl ?_) ?_; (· (first | omega | decide | assumption | fail | (simp; done) | (simp; omega)))
  refine RW.opd rfl rfl (LO.assign rfl rfl) ?_
  refine RW.nil ?_
  repeat (refine W.seq ?_)
  refine W.region 13 15 (by decide) rfl rfl ?_
  refine RW.opd rfl rfl (LO.move rfl rfl) ?_
  refine RW.opd rfl rfl (LO.lss rfl rfl rfl) ?_
  refine RW.nil ?_
  repeat (refine W.seq ?_)
  refine W.cond rfl (fun hb => ?_) (fun hb => ?_)
  · have hb : v.tmod n < 0 := of_decide_eq_true hb
    repeat (refine W.seq ?_)
    refine W.region 19 23 (by decide) rfl rfl ?_
    refine RW.opd rfl rfl (LO.move rfl rfl) ?_
    refine RW.opd rfl rfl (LO.move rfl rfl) ?_
    refine RW.opd rfl rfl (LO.add_in rfl rfl rfl ?_) ?_; (· (first | exact IntWalk.i64_in _ (by omega) | assumption))
    refine RW.opd rfl rfl (LO.assign rfl rfl) ?_
    refine RW.nil ?_
    repeat (refine W.seq ?_)
    refine W.region 27 29 (by decide) rfl rfl ?_
    refine RW.opd rfl rfl (LO.move rfl rfl) ?_
    refine RW.opd rfl rfl (LO.assign rfl rfl) ?_
    refine RW.nil ?_
    repeat (refine W.seq ?_)
    refine W.ret ⟨.inl rfl, _, mt, RVs.cons (RV.tmp rfl) (RVs.nil), all_mt, ?_⟩
    exact ⟨by rw [h3, if_pos hb]; rfl, rfl⟩
  · have hb : ¬ v.tmod n < 0 := of_decide_eq_false hb
    refine W.skip ?_
    repeat (refine W.seq ?_)
    refine W.region 27 29 (by decide) rfl rfl ?_
    refine RW.opd rfl rfl (LO.move rfl rfl) ?_
    refine RW.opd rfl rfl (LO.assign rfl rfl) ?_
    refine RW.nil ?_
    repeat (refine W.seq ?_)
    refine W.ret ⟨.inl rfl, _, mt, RVs.cons (RV.tmp rfl) (RVs.nil), all_mt, ?_⟩
    exact ⟨by rw [h3, if_neg hb]; rfl, rfl⟩

def deckC (l : List Int) (at_ : Nat) : List AV := [.isl (l.map fun z => .base (.int .i64 z)) l.length, .base (.int .i64 (at_ : Int))]
/-- the next number of a list -/
def nextV (l : List Int) (at_ : Nat) (n : Int) : Int := if h : at_ < l.length then l[at_] % n else 0
def nextAt (l : List Int) (at_ : Nat) : Nat := if at_ < l.length then at_ + 1 else at_
theorem next_any (l : List Int) (at_ : Nat) (n : Int) (hn : 1 ≤ n) (hn2 : n ≤ 9223372036854775807) (hl : l.length ≤ 9223372036854775807) :
    AFn Tryd.prog 23 1 [.own 0 0, .base (.int .i64 n)] (up mt 0 (some (deckC l at_))) (.base (.int .i64 (nextV l at_ n))) (up mt 0 (some (deckC l (nextAt l at_)))) := by
  refine AFn.eq Tryd.func23 rfl rfl (Nat.le_of_ble_eq_true rfl) ?_
  unfold deckC
  repeat (refine W.seq ?_)
  refine W.region 1 2 (by decide) rfl rfl ?_
  refine RW.opd rfl rfl (LO.assign rfl rfl) ?_
  refine RW.nil ?_
  repeat (refine W.seq ?_)
  refine W.regionD 6 16 (by decide) rfl mixed rfl ?_
  refine RW.opd rfl rfl (LO.move rfl rfl) ?_
  refine RW.opd rfl rfl (LO.nilCheck rfl rfl) ?_
  refine RW.opd rfl rfl (LO.fieldAddr rfl rfl ty71 rfl (by decide)) ?_
  refine RW.opd rfl rfl (LO.load rfl rfl rfl rfl ty3 rfl) ?_
  refine RW.opd rfl rfl (LO.move rfl rfl) ?_
  refine RW.opd rfl rfl (LO.nilCheck rfl rfl) ?_
  refine RW.opd rfl rfl (LO.fieldAddr rfl rfl ty71 rfl (by decide)) ?_
  refine RW.opd rfl rfl (LO.load rfl rfl rfl rfl ty22 rfl) ?_
  refine RW.opd rfl rfl (LO.len_isl rfl rfl rfl ty22) ?_
  refine RW.opd rfl rfl (LO.geq rfl rfl rfl) ?_
  refine RW.nil ⟨by kernel_rfl, ?_⟩
  repeat (refine W.seq ?_)
  refine W.cond rfl (fun hb => ?_) (fun hb => ?_)
  · have hb : ¬ at_ < l.length := by have := of_decide_eq_true hb; omega
    repeat (refine W.seq ?_)
    refine W.region 20 21 (by decide) rfl rfl ?_
    refine RW.opd rfl rfl (LO.assign rfl rfl) ?_
    refine RW.nil ?_
    repeat (refine W.seq ?_)
    refine W.ret ⟨.inl rfl, _, up mt 0 (some (deckC l at_)), RVs.cons (RV.tmp rfl) RVs.nil, all_up rfl all_mt, ?_⟩
    exact ⟨by unfold nextV; rw [dif_neg hb]; rfl, by unfold nextAt deckC; rw [if_neg hb]⟩
  · have hb : at_ < l.length := by have := of_decide_eq_false hb; omega
    refine W.skip ?_
    have he : (at_ : Int) + 1 - 1 = (at_ : Int) := by omega
    repeat (refine W.seq ?_)
    refine W.region 25 33 (by decide) rfl rfl ?_
    refine RW.opd rfl rfl (LO.move rfl rfl) ?_
    refine RW.opd rfl rfl (LO.nilCheck rfl rfl) ?_
    refine RW.opd rfl rfl (LO.fieldAddr rfl rfl ty71 rfl (by decide)) ?_
    refine RW.opd rfl rfl (LO.load rfl rfl rfl rfl ty3 rfl) ?_
    refine RW.opd rfl rfl (LO.add_in rfl rfl rfl ?_) ?_; (· (first | exact IntWalk.i64_in _ (by omega) | assumption))
    refine RW.opd rfl rfl (LO.nilCheck rfl rfl) ?_
    refine RW.opd rfl rfl (LO.fieldAddr rfl rfl ty71 rfl (by decide)) ?_
    refine RW.opn rfl rfl (LO.store rfl rfl rfl rfl rfl ty3 rfl (by decide) (Sp.lit rfl)) ?_
    refine RW.nil ?_
    have hg : (l.map fun z => AV.base (.int .i64 z))[at_ * 1]? = some (.base (.int .i64 l[at_])) := by simp [hb]
    repeat (refine W.seq ?_)
    refine W.regionD 37 51 (by decide) rfl mixed rfl ?_
    refine RW.opd rfl rfl (LO.move rfl rfl) ?_
    refine RW.opd rfl rfl (LO.nilCheck rfl rfl) ?_
    refine RW.opd rfl rfl (LO.fieldAddr rfl rfl ty71 rfl (by decide)) ?_
    refine RW.opd rfl rfl (LO.load rfl rfl rfl rfl ty22 rfl) ?_
    refine RW.opd rfl rfl (LO.move rfl rfl) ?_
    refine RW.opd rfl rfl (LO.nilCheck rfl rfl) ?_
    refine RW.opd rfl rfl (LO.fieldAddr rfl rfl ty71 rfl (by decide)) ?_
    refine RW.opd rfl rfl (LO.load rfl rfl rfl rfl ty3 rfl) ?_
    refine RW.opd rfl rfl (LO.sub_in rfl rfl rfl ?_) ?_; (· (first | exact IntWalk.i64_in _ (by omega) | assumption))
    refine RW.opd rfl rfl (LO.indexAddr_isl rfl rfl rfl rfl he ty22 ty3 ?_) ?_; (· (first | omega | decide | assumption | fail | (simp; done) | (simp; omega)))
    refine RW.opd rfl rfl (LO.load_imm rfl rfl hg ty3 rfl) ?_
    refine RW.opd rfl rfl (LO.move rfl rfl) ?_
    refine RW.opd rfl rfl (LO.call0 (fr := []) rfl rfl (mod_any _ _ hn hn2) fok10 (.cons rfl (.pure rfl) (.cons rfl (.pure rfl) .nil)) rfl) ?_
    refine RW.opd rfl rfl (LO.assign rfl rfl) ?_
    refine RW.nil ⟨by kernel_rfl, ?_⟩
    refine W.ret ⟨.inl rfl, _, up mt 0 (some (deckC l (at_ + 1))), RVs.cons (RV.tmp rfl) RVs.nil, all_up rfl all_mt, ?_⟩
    exact ⟨by unfold nextV; rw [dif_pos hb]; rfl, by unfold nextAt deckC; rw [if_pos hb]⟩
theorem new_any (l : List Int) : AFn Tryd.prog 6 0 [.isl (l.map fun z => .base (.int .i64 z)) l.length] mt (.own 0 0) (up mt 0 (some (deckC l 0))) := by
  refine AFn.eq Tryd.func6 rfl rfl (Nat.le_of_ble_eq_true rfl) ?_
  unfold deckC
  repeat (refine W.seq ?_)
  refine W.region 0 1 (by decide) rfl rfl ?_
  refine RW.opd rfl rfl (LO.assign rfl rfl) ?_
  refine RW.nil ?_
  repeat (refine W.seq ?_)
  refine W.region 5 9 (by decide) rfl rfl ?_
  refine RW.opd rfl rfl (LO.move rfl rfl) ?_
  refine RW.opd rfl rfl (LO.build_st rfl ty71 (.cons rfl rfl rfl rfl (Sp.lit rfl) .nil)) ?_
  refine RW.opd rfl rfl (LO.box rfl rfl rfl) ?_
  refine RW.opd rfl rfl (LO.assign rfl rfl) ?_
  refine RW.nil ?_
  refine W.rename [(0, 7)] 1 (T' := up mt 2 (some (.own 0 0))) (H' := up mt 0 (some (deckC l 0))) (by decide) (all_up (.inr ⟨rfl, fun _ h => by cases h⟩) all_mt) (all_up ⟨rfl, _, rfl, .inr ⟨rfl, rfl⟩⟩ all_mt) ?_
  refine W.ret ⟨.inl rfl, _, up mt 0 (some (deckC l 0)), RVs.cons (RV.tmp rfl) RVs.nil, all_up rfl all_mt, ?_⟩
  exact ⟨rfl, rfl⟩
end Go.Proofs.YtcidmiacfjdepaaDoor
