/-
  Reading a packet: the program and the document.
-/
import Derived.Test.YtcidmiacfjdepaaDoorCa
import Derived.Test.YtcidmiacfjdepaaDoorMab
namespace Go.Proofs.YtcidmiacfjdepaaDoor
open Go.RowKit
def fin (p : Pk) (e : Int) : Int := if e = 0 then (if vpk p then 0 else 3) else e
def dcP (b : List Int) : Pk := if gB b 0 / 16 = 4 then p4 b else p6 b
def dcE (b : List Int) : Int := if b.length = 0 then 4 else if gB b 0 / 16 = 4 then fin (p4 b) (c4 b) else if gB b 0 / 16 = 6 then fin (p6 b) (c6 b) else 5
theorem sh4 (x : Int) (_hx : 0 ≤ x ∧ x ≤ 255) : x.fdiv (2 ^ (min (4 : Int).toNat IntKind.u8.bits)) = x / 16 := by
  rw [show (2 : Int) ^ (min (4 : Int).toNat IntKind.u8.bits) = 16 from by decide, Int.fdiv_eq_ediv_of_nonneg _ (by decide)]
theorem fin_cases (q : Pk) (e : Int) : ((e == 0) = false ∧ (e != 0) = true ∧ fin q e = e ∧ e ≠ 0) ∨ (e = 0 ∧ vpk q = false ∧ fin q e = 3) ∨ (e = 0 ∧ vpk q = true ∧ fin q e = 0) := by
  unfold fin
  by_cases h : e = 0
  · subst h
    cases hv : vpk q
    · exact .inr (.inl ⟨rfl, rfl, rfl⟩)
    · exact .inr (.inr ⟨rfl, rfl, rfl⟩)
  · exact .inl ⟨by simpa using h, by simpa using h, if_neg h, h⟩
set_option maxHeartbeats 2000000 in
theorem pdec_any (b : List Int) (hB : IsB b) (hl : b.length ≤ 1000000) : AFn Tryd.prog 38 0 [.isl (bytesC b) b.length] mt (rdV (dcP b) (dcE b)) mt := by
  refine AFn.eq Tryd.func38 rfl rfl (Nat.le_of_ble_eq_true rfl) ?_
  have b0 := hB.at 0
  have hsh := sh4 _ b0
  by_cases h0 : b.length = 0
  · have g1 : ((b.length : Int) == 0) = true := by rw [h0]; rfl
    have hd : dcE b = 4 := by unfold dcE; rw [if_pos h0]
    rw [hd, rdV_bad (by decide)]
    refine Wq (Wr 0 2 (by decide) rfl rfl (Od rfl rfl (Al rfl ty99) (Od rfl rfl (As rfl rfl) (Nl (Wq (Wq (Wr 6 9 (by decide) rfl rfl (Od rfl rfl (Mv rfl rfl) (Od rfl rfl (Ln rfl rfl rfl ty46) (Od rfl rfl (Eq0 rfl rfl rfl) (Nl (Wt rfl (by first|rfl|assumption) (Wq (Wr 13 16 (by decide) rfl rfl (Od rfl rfl (Bs rfl ty99 .nil) (On rfl rfl (Sr rfl rfl rfl rfl rfl ty99 rfl (by decide) (Sp.lit rfl)) (Od rfl rfl (As rfl rfl) (Nl (W.nilc (q := 0) (j := 8) rfl rfl (Sp.lit rfl) ?_)))))))))))))))))))
    refine W.ret ⟨.inl rfl, _, mt, (RVs.cons (RV.cellA rfl rfl ty99 rfl (Tk.lit rfl)) (RVs.cons (RV.tmp rfl) RVs.nil)), (by (repeat' (first | exact all_mt | refine all_up ?_ ?_)) <;> rfl), ?_⟩
    exact ⟨rfl, rfl⟩
  have g1 : ((b.length : Int) == 0) = false := by rw [beq_eq_false_iff_ne]; omega
  have hat0 := by_at (l := b) (k := 0) (by omega)
  have hcase : (gB b 0 / 16 = 4 ∧ dcP b = p4 b ∧ dcE b = fin (p4 b) (c4 b)) ∨ ((gB b 0 / 16 == 4) = false ∧ gB b 0 / 16 = 6 ∧ dcP b = p6 b ∧ dcE b = fin (p6 b) (c6 b)) ∨ ((gB b 0 / 16 == 4) = false ∧ (gB b 0 / 16 == 6) = false ∧ dcE b = 5) := by
    unfold dcP dcE
    by_cases c1 : gB b 0 / 16 = 4
    · exact .inl ⟨c1, if_pos c1, by rw [if_neg h0, if_pos c1]⟩
    · by_cases c2 : gB b 0 / 16 = 6
      · exact .inr (.inl ⟨by simpa using c1, c2, if_neg c1, by rw [if_neg h0, if_neg c1, if_pos c2]⟩)
      · exact .inr (.inr ⟨by simpa using c1, by simpa using c2, by rw [if_neg h0, if_neg c1, if_neg c2]⟩)
  have hf4 := four_any b hB hl
  have hf6 := six_any b hB hl
  refine Wq (Wr 0 2 (by decide) rfl rfl (Od rfl rfl (Al rfl ty99) (Od rfl rfl (As rfl rfl) (Nl (Wq (Wq (Wr 6 9 (by decide) rfl rfl (Od rfl rfl (Mv rfl rfl) (Od rfl rfl (Ln rfl rfl rfl ty46) (Od rfl rfl (Eq0 rfl rfl rfl) (Nl (Wf rfl (by first|rfl|assumption) (Wk (Wq (Wr 20 21 (by decide) rfl rfl (Od rfl rfl (Al rfl ty99) (Nl (Wq (Wr 25 26 (by decide) rfl rfl (Od rfl rfl (As rfl rfl) (Nl (Wq (Wq (Wr 30 34 (by decide) rfl rfl (Od rfl rfl (Mv rfl rfl) (Od rfl rfl (Ii rfl rfl rfl rfl rfl ty46 ty5 (by first|omega|decide|assumption|(simp;done)|(simp;omega))) (Od rfl rfl (Li rfl rfl hat0 ty5 rfl) (Od rfl rfl (LO.shr rfl rfl rfl (by first|omega|decide|assumption|(simp;done)|(simp;omega))) (Nl ?_)))))))))))))))))))))))))))))
  rw [hsh]
  refine Wb ?_
  rcases hcase with ⟨c1, hd1, hd2⟩ | ⟨c1, c2, hd1, hd2⟩ | ⟨c1, c2, hd2⟩
  case' inl =>
    rw [c1, hd1, hd2]
    obtain ⟨q, hq⟩ : ∃ q, p4 b = q := ⟨_, rfl⟩
    obtain ⟨e, he⟩ : ∃ e, c4 b = e := ⟨_, rfl⟩
    rw [hq, he] at hf4 ⊢
    unfold rdV at hf4
    obtain ⟨Q, hQ⟩ : ∃ Q, (if e = 0 then q else zPk) = Q := ⟨_, rfl⟩
    rw [hQ] at hf4
    refine Wq (Wr 38 40 (by decide) rfl rfl (Od rfl rfl (Eq0 rfl rfl rfl) (Od rfl rfl (As rfl rfl) (Nl (Wt rfl (rfl) (Wr 44 51 (by decide) rfl rfl (Od rfl rfl (Mv rfl rfl) (Od rfl rfl (C0 (fr := []) rfl rfl (hf4) fok63 (.cons rfl (.pure rfl) .nil) rfl) (Od rfl rfl (Mv rfl rfl) (Od rfl rfl (Ex rfl rfl rfl) (Od rfl rfl (Ex rfl rfl rfl) (On rfl rfl (Sr rfl rfl rfl rfl rfl ty99 rfl (by decide) (Sp.lit rfl)) (Od rfl rfl (As rfl rfl) (Nl ?_))))))))))))))
  case' inr.inl =>
    rw [c2, hd1, hd2]
    obtain ⟨q, hq⟩ : ∃ q, p6 b = q := ⟨_, rfl⟩
    obtain ⟨e, he⟩ : ∃ e, c6 b = e := ⟨_, rfl⟩
    rw [hq, he] at hf6 ⊢
    unfold rdV at hf6
    obtain ⟨Q, hQ⟩ : ∃ Q, (if e = 0 then q else zPk) = Q := ⟨_, rfl⟩
    rw [hQ] at hf6
    refine Wq (Wr 38 40 (by decide) rfl rfl (Od rfl rfl (Eq0 rfl rfl rfl) (Od rfl rfl (As rfl rfl) (Nl (Wf rfl (rfl) (Wq (Wr 55 57 (by decide) rfl rfl (Od rfl rfl (Eq0 rfl rfl rfl) (Od rfl rfl (As rfl rfl) (Nl (Wt rfl (rfl) (Wr 61 68 (by decide) rfl rfl (Od rfl rfl (Mv rfl rfl) (Od rfl rfl (C0 (fr := []) rfl rfl (hf6) fok64 (.cons rfl (.pure rfl) .nil) rfl) (Od rfl rfl (Mv rfl rfl) (Od rfl rfl (Ex rfl rfl rfl) (Od rfl rfl (Ex rfl rfl rfl) (On rfl rfl (Sr rfl rfl rfl rfl rfl ty99 rfl (by decide) (Sp.lit rfl)) (Od rfl rfl (As rfl rfl) (Nl ?_))))))))))))))))))))
  case' inr.inr =>
    rw [hd2, rdV_bad (by decide)]
    refine Wq (Wr 38 40 (by decide) rfl rfl (Od rfl rfl (Eq0 rfl rfl rfl) (Od rfl rfl (As rfl rfl) (Nl (Wf rfl (by first|rfl|assumption) (Wq (Wr 55 57 (by decide) rfl rfl (Od rfl rfl (Eq0 rfl rfl rfl) (Od rfl rfl (As rfl rfl) (Nl (Wf rfl (by first|rfl|assumption) (Wr 72 73 (by decide) rfl rfl (Od rfl rfl (As rfl rfl) (Nl (Wq (Wq (Wr 77 84 (by decide) rfl rfl (Od rfl rfl (Mv rfl rfl) (Od rfl rfl (Eq0 rfl rfl rfl) (Od rfl rfl (Mv rfl rfl) (Sd rfl rfl rfl (by first|rfl|assumption) rfl (Sd rfl rfl rfl (by first|rfl|assumption) rfl (Sd rfl rfl rfl (by first|rfl|assumption) rfl (Od rfl rfl (Pf0 rfl rfl (by first|rfl|assumption) rfl) (Nl (Wf rfl (rfl) (Wk (Wq (Wq (Wr 93 95 (by decide) rfl rfl (Od rfl rfl (Mv rfl rfl) (Od rfl rfl (Ne0 rfl rfl rfl) (Nl (Wt rfl (rfl) (Wq (Wr 99 103 (by decide) rfl rfl (Od rfl rfl (Bs rfl ty99 .nil) (Od rfl rfl (Mv rfl rfl) (On rfl rfl (Sr rfl rfl rfl rfl rfl ty99 rfl (by decide) (Sp.lit rfl)) (Od rfl rfl (As rfl rfl) (Nl (W.nilc (q := 0) (j := 8) rfl rfl (Sp.lit rfl) ?_))))))))))))))))))))))))))))))))))))))))))
    refine W.ret ⟨.inl rfl, _, mt, (RVs.cons (RV.cellA rfl rfl ty99 rfl (Tk.lit rfl)) (RVs.cons (RV.tmp rfl) RVs.nil)), (by (repeat' (first | exact all_mt | refine all_up ?_ ?_)) <;> rfl), ?_⟩
    exact ⟨rfl, rfl⟩
  all_goals
    have hpv := pvalid_any Q
    rcases fin_cases q e with ⟨f1, f2, f3, f4⟩ | ⟨rfl, f2, f3⟩ | ⟨rfl, f2, f3⟩
    · rw [f3, rdV_bad f4]
      repeat (refine W.seq ?_)
      refine Wr 77 84 (by decide) rfl rfl (Od rfl rfl (Mv rfl rfl) (Od rfl rfl (Eq0 rfl rfl rfl) (Od rfl rfl (Mv rfl rfl) (Sd rfl rfl rfl (by first|rfl|assumption) rfl (Sd rfl rfl rfl (by first|rfl|assumption) rfl (Sd rfl rfl rfl (by first|rfl|assumption) rfl (Od rfl rfl (Pf0 rfl rfl (by first|rfl|assumption) rfl) (Nl (Wf rfl (by first|rfl|assumption) (Wk ?_))))))))))
      repeat (refine W.seq ?_)
      refine Wr 93 95 (by decide) rfl rfl (Od rfl rfl (Mv rfl rfl) (Od rfl rfl (Ne0 rfl rfl rfl) (Nl (Wt rfl (by first|rfl|assumption) ?_))))
      repeat (refine W.seq ?_)
      refine Wr 99 103 (by decide) rfl rfl (Od rfl rfl (Bs rfl ty99 .nil) (Od rfl rfl (Mv rfl rfl) (On rfl rfl (Sr rfl rfl rfl rfl rfl ty99 rfl (by decide) (Sp.lit rfl)) (Od rfl rfl (As rfl rfl) (Nl (W.nilc (q := 0) (j := 8) rfl rfl (Sp.lit rfl) ?_))))))
      refine W.ret ⟨.inl rfl, _, mt, (RVs.cons (RV.cellA rfl rfl ty99 rfl (Tk.lit rfl)) (RVs.cons (RV.tmp rfl) RVs.nil)), (by (repeat' (first | exact all_mt | refine all_up ?_ ?_)) <;> rfl), ?_⟩
      exact ⟨rfl, rfl⟩
    · have hQ2 : Q = q := hQ.symm
      subst hQ2
      rw [f2] at hpv
      rw [f3, rdV_bad (by decide)]
      repeat (refine W.seq ?_)
      refine Wr 77 84 (by decide) rfl rfl (Od rfl rfl (Mv rfl rfl) (Od rfl rfl (Eq0 rfl rfl rfl) (Od rfl rfl (Mv rfl rfl) (Gd rfl rfl rfl (by first|rfl|assumption) rfl (La rfl rfl rfl ty99 rfl (Tk.lit rfl)) (Gd rfl rfl rfl (by first|rfl|assumption) rfl (C0 (fr := []) rfl rfl (hpv) fok65 (.cons rfl (.pure (pkC_pure Q)) .nil) rfl) (Gd rfl rfl rfl (by first|rfl|assumption) rfl (Nt rfl rfl) (Od rfl rfl (Pt rfl rfl (by first|rfl|assumption) rfl) (Nl (Wt rfl (rfl) (Wr 88 89 (by decide) rfl rfl (Od rfl rfl (As rfl rfl) (Nl ?_))))))))))))
      repeat (refine W.seq ?_)
      refine Wr 93 95 (by decide) rfl rfl (Od rfl rfl (Mv rfl rfl) (Od rfl rfl (Ne0 rfl rfl rfl) (Nl (Wt rfl (rfl) ?_))))
      repeat (refine W.seq ?_)
      refine Wr 99 103 (by decide) rfl rfl (Od rfl rfl (Bs rfl ty99 .nil) (Od rfl rfl (Mv rfl rfl) (On rfl rfl (Sr rfl rfl rfl rfl rfl ty99 rfl (by decide) (Sp.lit rfl)) (Od rfl rfl (As rfl rfl) (Nl (W.nilc (q := 0) (j := 8) rfl rfl (Sp.lit rfl) ?_))))))
      refine W.ret ⟨.inl rfl, _, mt, (RVs.cons (RV.cellA rfl rfl ty99 rfl (Tk.lit rfl)) (RVs.cons (RV.tmp rfl) RVs.nil)), (by (repeat' (first | exact all_mt | refine all_up ?_ ?_)) <;> rfl), ?_⟩
      exact ⟨rfl, rfl⟩
    · have hQ2 : Q = q := hQ.symm
      subst hQ2
      rw [f2] at hpv
      rw [f3, rdV_ok]
      repeat (refine W.seq ?_)
      refine Wr 77 84 (by decide) rfl rfl (Od rfl rfl (Mv rfl rfl) (Od rfl rfl (Eq0 rfl rfl rfl) (Od rfl rfl (Mv rfl rfl) (Gd rfl rfl rfl (by first|rfl|assumption) rfl (La rfl rfl rfl ty99 rfl (Tk.lit rfl)) (Gd rfl rfl rfl (by first|rfl|assumption) rfl (C0 (fr := []) rfl rfl (hpv) fok65 (.cons rfl (.pure (pkC_pure Q)) .nil) rfl) (Gd rfl rfl rfl (by first|rfl|assumption) rfl (Nt rfl rfl) (Od rfl rfl (Pt rfl rfl (by first|rfl|assumption) rfl) (Nl (Wf rfl (rfl) (Wk ?_))))))))))
      repeat (refine W.seq ?_)
      refine Wr 93 95 (by decide) rfl rfl (Od rfl rfl (Mv rfl rfl) (Od rfl rfl (Ne0 rfl rfl rfl) (Nl (Wf rfl (rfl) (Wk ?_)))))
      repeat (refine W.seq ?_)
      refine Wr 107 110 (by decide) rfl rfl (Od rfl rfl (La rfl rfl rfl ty99 rfl (Tk.lit rfl)) (On rfl rfl (Sr rfl rfl rfl rfl rfl ty99 rfl (by decide) (Sp.lit rfl)) (Od rfl rfl (As rfl rfl) (Nl ?_))))
      refine W.ret ⟨.inl rfl, _, mt, (RVs.cons (RV.cellA rfl rfl ty99 rfl (pk_tk Q)) (RVs.cons (RV.tmp rfl) RVs.nil)), (by (repeat' (first | exact all_mt | refine all_up ?_ ?_)) <;> rfl), ?_⟩
      exact ⟨rfl, rfl⟩
end Go.Proofs.YtcidmiacfjdepaaDoor
