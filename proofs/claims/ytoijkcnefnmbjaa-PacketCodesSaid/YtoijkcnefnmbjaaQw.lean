/-
  What stands behind a message: options of other kinds, a second link address: plain words, no program.
-/
import Derived.Test.YtoijkcnefnmbjaaQv
namespace Go.Proofs.Ytoijkcnefnmbjaa
open Go.RowKit
theorem optF_skip {m : List Int} {u : Nat} {num : Int} {has : Bool} {ln : List Int} (hu : 1 ≤ u) (hm : m.length = 8 * u) (h1 : gB m 1 = (u : Int)) (hk : has = true ∨ gB m 0 ≠ num) (q : Nat) : optF (q + 1) m num has ln = some (has, ln) := by
  unfold optF
  rw [if_neg (by omega), if_neg (by rw [h1]; omega), if_neg (fun ⟨a, b, _⟩ => hk.elim (fun h => by rw [h] at a; cases a) (fun h => h b))]
  rw [h1, List.drop_eq_nil_of_le (by omega)]
  exact optF_none _ _ _ _
theorem optF_take {m : List Int} {num : Int} {ln r : List Int} (hl : ln.length = 6) (q : Nat) (hm : m = [num, 1] ++ ln ++ r) : optF (q + 1) m num false zMac = optF q r num true ln := by
  subst hm
  match ln, hl with
  | [a, b, c, d, e, f], _ =>
    show optF (q + 1) (num :: 1 :: a :: b :: c :: d :: e :: f :: r) num false zMac = _
    rw [optF]
    rw [if_neg (by simp), if_neg (by simp [gB]; omega), if_pos ⟨rfl, rfl, rfl⟩]
    rfl
theorem rd_any {n : Nb} {s : Ad} {O : List Int} (h : OkN n) (hg : GoodN n) : rdB s n.k (fixL n ++ O) = match optF O.length O (optN n.k) false zMac with
    | none => (zNb, 5)
    | some r => if n.k = 135 ∧ r.1 = true ∧ eqA s ⟨true, 0, 0⟩ = true then (zNb, 5) else (⟨n.k, n.fl, n.tg, r.1, r.2⟩, 0) := by
  have hfx := h.fix
  have hk1 := h.k1
  have hk2 := h.k2
  have hdr : (fixL n ++ O).drop (fixN n.k) = O := by rw [← hfx, List.drop_left]
  have htg : tgF n.k (fixL n ++ O) = n.tg := by
    unfold tgF
    cases ht : targB n.k with
    | false => simp only [Bool.false_eq_true, if_false]; rw [h.t2 ht]
    | true =>
      simp only [if_true]
      have h6 := (h.t1 ht).1
      have hd : ∃ r, ((fixL n ++ O).drop 4) = addrL n.tg ++ r := by
        unfold targB at ht
        simp only [Bool.and_eq_true, decide_eq_true_eq] at ht
        unfold fixL
        rw [if_neg (by omega), if_neg (by omega)]
        by_cases c : n.k = 137
        · rw [if_pos c]; exact ⟨addrL n.tg ++ O, by simp [List.replicate]⟩
        · rw [if_neg c]; exact ⟨O, by simp⟩
      obtain ⟨r, hr⟩ := hd
      rw [hr, addrL_take h6, adOf_addrL h6 hg.2]
  have hfl : flF n.k (fixL n ++ O) = n.fl := by
    unfold flF
    by_cases c : n.k = 136
    · rw [if_pos c]
      have : gB (fixL n ++ O) 0 = flB n := by
        unfold fixL
        rw [if_neg (by omega), if_neg (by omega), if_neg (by omega)]
        rfl
      have f1 := h.f1
      have f2 := h.f2
      rw [this, flB, show (2 : Int) ^ (min (5 : Int).toNat IntKind.u8.bits) = 32 from by decide, show (2 : Int) ^ (min (5 : Int).toNat IntKind.i64.bits) = 32 from by decide, IntWalk.i64_in _ (by omega), IntKind.wrap_u8', Int.fdiv_eq_ediv_of_nonneg _ (by decide)]
      omega
    · rw [if_neg c]
      rcases h.f3 with e | e
      · exact e.symm
      · exact absurd e c
  unfold rdB
  rw [if_neg (by rw [List.length_append, hfx]; omega), htg, hfl, hdr]
  rw [if_neg (by rintro ⟨e1, e2⟩; rw [(h.t1 e1).2] at e2; cases e2)]
  cases optF O.length O (optN n.k) false zMac <;> rfl
theorem zB_at {l : List Int} (h : 4 ≤ l.length) : gB (zB l) 2 = 0 ∧ gB (zB l) 3 = 0 := by
  refine ⟨?_, ?_⟩
  · unfold zB; rw [gB_set_far _ _ (by omega)]; simp only [gB, List.getD]; rw [List.getElem?_set_self (by omega)]; rfl
  · unfold zB; simp only [gB, List.getD]; rw [List.getElem?_set_self (by simp; omega)]; rfl
theorem zB_low {l : List Int} {j : Nat} (h : j < 2) : gB (zB l) j = gB l j := by
  unfold zB; rw [gB_set_far _ _ (by omega), gB_set_far _ _ (by omega)]
theorem zB_drop (l : List Int) : (zB l).drop 4 = l.drop 4 := by
  unfold zB; rw [List.drop_set_of_lt (by omega), List.drop_set_of_lt (by omega)]
/-- a message with more behind it, the sum set right, is read by its options -/
theorem more_dec {n : Nb} {s d : Ad} {more : List Int} (hv : validN n = true) (hg : GoodN n) (hs : s.v6 = true) (hd : d.v6 = true) (hB : IsB more) (hm : more.length ≤ 100) : decR (sgn ⟨s, d, 58, 255, (encN n s d).bs ++ more⟩) = rdB s n.k (fixL n ++ ((if n.has then [optN n.k, 1] ++ n.ln else []) ++ more)) := by
  have h := validN_ok hv
  have hk1 := h.k1
  have hk2 := h.k2
  have hl := enc_len hg s d
  have hlen : ((encN n s d).bs ++ more).length ≤ 1460 := by simp; omega
  have hl4 : 4 ≤ ((encN n s d).bs ++ more).length := by simp; omega
  have hBB : IsB ((encN n s d).bs ++ more) := (enc_isB hg s d).append hB
  obtain ⟨D, hD⟩ : ∃ D, (encN n s d).bs ++ more = D := ⟨_, rfl⟩
  have hdr : D.drop 4 = fixL n ++ ((if n.has then [optN n.k, 1] ++ n.ln else []) ++ more) := by
    rw [← hD, List.drop_append_of_le_length hl.1]
    have : (encN n s d).bs.drop 4 = fixL n ++ if n.has then [optN n.k, 1] ++ n.ln else [] := by
      show (sumL2 _ (encL n)).drop 4 = _
      rw [sumL2_drop]
      rfl
    rw [this, List.append_assoc]
  have h0 : gB D 0 = n.k := by
    rw [← hD, gB_append_left _ _ _ (by omega)]
    show gB (sumL2 _ (encL n)) 0 = _
    rw [sumL2_at _ _ (by decide)]
    show IntKind.u8.wrap n.k = _
    rw [IntKind.wrap_u8']; omega
  have h1 : gB D 1 = 0 := by
    rw [← hD, gB_append_left _ _ _ (by omega)]
    show gB (sumL2 _ (encL n)) 1 = _
    rw [sumL2_at _ _ (by decide)]
    rfl
  rw [hD] at hlen hl4 hBB ⊢
  have hvp := vpk_of hs hd (t := 255) (by omega) hlen
  have hsg : sgn ⟨s, d, 58, 255, D⟩ = ⟨s, d, 58, 255, sumL2 (chkF s d 58 (zB D)) (zB D)⟩ := if_pos ⟨hl4, hvp, hs⟩
  rw [hsg]
  have hz := chk_zero s d 58 (zB_isB hBB) (by rw [zB_len]; exact hl4) (zB_at hl4).1 (zB_at hl4).2
  obtain ⟨E, hE⟩ : ∃ E, sumL2 (chkF s d 58 (zB D)) (zB D) = E := ⟨_, rfl⟩
  have hEl : E.length = D.length := by rw [← hE, sumL2_len, zB_len]
  have hE0 : gB E 0 = n.k := by rw [← hE, sumL2_at _ _ (by decide), zB_low (by decide), h0]
  have hE1 : gB E 1 = 0 := by rw [← hE, sumL2_at _ _ (by decide), zB_low (by decide), h1]
  have hEd : E.drop 4 = D.drop 4 := by rw [← hE, sumL2_drop, zB_drop]
  rw [hE] at hz ⊢
  have hve := vpk_of hs hd (t := 255) (by omega) (bs := E) (by omega)
  have hc : chkE ⟨s, d, 58, 255, E⟩ = 0 := by
    unfold chkE
    rw [hve, hz, hE0, hE1]
    rw [if_neg (by simp), if_neg (by simp [hs]), if_neg (by simp), if_neg (by simp; omega), if_neg (by simp), if_neg (by simp; omega)]
  unfold decR
  rw [if_neg (by rw [hc]; decide)]
  show rdB s (gB E 0) (E.drop 4) = _
  rw [hE0, hEd, hdr]
theorem rd_other {n : Nb} {s : Ad} {more : List Int} {u : Nat} (h : OkN n) (hg : GoodN n) (hno : ¬ (n.k = 135 ∧ eqA s ⟨true, 0, 0⟩ = true)) (hu : 1 ≤ u) (hm : more.length = 8 * u) (h1 : gB more 1 = (u : Int)) (hk : gB more 0 ≠ optN n.k) : rdB s n.k (fixL n ++ ((if n.has then [optN n.k, 1] ++ n.ln else []) ++ more)) = (n, 0) := by
  rw [rd_any h hg]
  have hopt : optF ((if n.has then [optN n.k, 1] ++ n.ln else []) ++ more).length ((if n.has then [optN n.k, 1] ++ n.ln else []) ++ more) (optN n.k) false zMac = some (n.has, n.ln) := by
    cases hh : n.has with
    | true =>
      simp only [if_true]
      rw [show ([optN n.k, 1] ++ n.ln ++ more).length = (6 + more.length) + 1 + 1 from by simp [hg.1.1] <;> omega, optF_take hg.1.1 _ rfl]
      exact optF_skip hu hm h1 (.inl rfl) _
    | false =>
      have := h.l1
      rw [hh] at this
      simp only [Bool.false_eq_true, false_or] at this
      simp only [Bool.false_eq_true, if_false, List.nil_append]
      rw [show more.length = (more.length - 1) + 1 from by omega, optF_skip hu hm h1 (.inr hk) _, this]
  rw [hopt]
  dsimp only
  rw [if_neg (fun e => hno ⟨e.1, e.2.2⟩)]
theorem rd_again {n : Nb} {s : Ad} (h : OkN n) (hg : GoodN n) (hno : ¬ (n.k = 135 ∧ eqA s ⟨true, 0, 0⟩ = true)) : rdB s n.k (fixL n ++ ((if n.has then [optN n.k, 1] ++ n.ln else []) ++ [optN n.k, 1, 2, 2, 2, 2, 2, 2])) = (⟨n.k, n.fl, n.tg, true, if n.has then n.ln else [2, 2, 2, 2, 2, 2]⟩, 0) := by
  rw [rd_any h hg]
  have hopt : optF ((if n.has then [optN n.k, 1] ++ n.ln else []) ++ [optN n.k, 1, 2, 2, 2, 2, 2, 2]).length ((if n.has then [optN n.k, 1] ++ n.ln else []) ++ [optN n.k, 1, 2, 2, 2, 2, 2, 2]) (optN n.k) false zMac = some (true, if n.has then n.ln else [2, 2, 2, 2, 2, 2]) := by
    cases hh : n.has with
    | true =>
      simp only [if_true]
      rw [show ([optN n.k, 1] ++ n.ln ++ [optN n.k, 1, 2, 2, 2, 2, 2, 2]).length = 14 + 1 + 1 from by simp [hg.1.1], optF_take hg.1.1 _ rfl]
      exact optF_skip (u := 1) (by decide) rfl rfl (.inl rfl) _
    | false =>
      simp only [Bool.false_eq_true, if_false, List.nil_append]
      exact (optF_take (num := optN n.k) (ln := [2, 2, 2, 2, 2, 2]) (r := []) rfl 7 rfl).trans (optF_none _ _ _ _)
  rw [hopt]
  dsimp only
  rw [if_neg (fun e => hno ⟨e.1, e.2.2⟩)]
end Go.Proofs.Ytoijkcnefnmbjaa
