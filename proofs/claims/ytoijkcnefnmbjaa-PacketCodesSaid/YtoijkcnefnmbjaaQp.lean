/-
  A message is read back from its packet: plain words, no program.
-/
import Derived.Test.YtoijkcnefnmbjaaQo
namespace Go.Proofs.Ytoijkcnefnmbjaa
open Go.RowKit
theorem sum_set2 (h : List Int) (i : Nat) (hB : IsB h) (hi : i + 1 < h.length) (he : i % 2 = 0) (z0 : gB h i = 0) (z1 : gB h (i + 1) = 0) : sumL ((h.set i (sumL h / 256 % 256)).set (i + 1) (sumL h % 256)) = 0 := by
  have hs := sumL_bd hB
  have e : accL ((h.set i (sumL h / 256 % 256)).set (i + 1) (sumL h % 256)) = accL h + sumL h := by
    unfold accL
    rw [List.length_set, List.length_set, gB_set _ _ _ (by simp; omega), gB_set _ _ _ (by omega), accN_upd _ _ _ _ (by omega), accN_upd _ _ _ _ (by omega), upd_far _ (by omega), z0, z1]
    have w0 : wt i = 256 := by unfold wt; rw [if_pos he]
    have w1 : wt (i + 1) = 1 := by unfold wt; rw [if_neg (by omega)]
    rw [w0, w1]
    omega
  have e2 : sumL h = 65535 - foldS (accL h) := rfl
  have e3 : sumL ((h.set i (sumL h / 256 % 256)).set (i + 1) (sumL h % 256)) = 65535 - foldS (accL h + sumL h) := by rw [← e]; rfl
  rw [e3, e2, foldS_full (n := accL h) (accN_bd (gB h) h.length (fun j => hB.at j)).1]
  omega
theorem gB_append_right (xs ys : List Int) (j : Nat) : gB (xs ++ ys) (xs.length + j) = gB ys j := by
  simp only [gB, List.getD]
  rw [List.getElem?_append_right (by omega), Nat.add_sub_cancel_left]
theorem sumL2_eq {c : Int} (l : List Int) (_h : 0 ≤ c ∧ c ≤ 65535) : sumL2 c l = (l.set 2 (c / 256 % 256)).set 3 (c % 256) := by
  unfold sumL2
  rw [show (2 : Int) ^ (min (8 : Int).toNat IntKind.u16.bits) = 256 from by decide, Int.fdiv_eq_ediv_of_nonneg _ (by decide), IntKind.wrap_u8', IntKind.wrap_u8']
/-- with its own sum the sum is 0 -/
theorem chk_zero (s d : Ad) (p : Int) {l : List Int} (hB : IsB l) (h4 : 4 ≤ l.length) (z2 : gB l 2 = 0) (z3 : gB l 3 = 0) : chkF s d p (sumL2 (chkF s d p l) l) = 0 := by
  have hb := chkB_isB s d p hB
  have hs := sumL_bd hb
  have hc : chkF s d p l = sumL (chkB s d p l) := rfl
  rw [sumL2_eq l (by rw [hc]; exact hs)]
  have hev : ((addrL s).length + (addrL d).length) % 2 = 0 := by rw [addrL_len, addrL_len]; split <;> split <;> rfl
  have hsp : ∀ l2 : List Int, l2.length = l.length → chkB s d p l2 = (addrL s ++ addrL d ++ (len4 l.length ++ [0, 0, 0, IntKind.u8.wrap p])) ++ l2 := fun l2 h => by rw [chkB_eq, h]
  obtain ⟨P, hP⟩ : ∃ P, addrL s ++ addrL d ++ (len4 l.length ++ [0, 0, 0, IntKind.u8.wrap p]) = P := ⟨_, rfl⟩
  have hPl : P.length % 2 = 0 := by rw [← hP]; simp [len4]; omega
  rw [hP] at hsp
  have h1 := hsp l rfl
  have h2 := hsp ((l.set 2 (chkF s d p l / 256 % 256)).set 3 (chkF s d p l % 256)) (by simp)
  have h3 : P ++ (l.set 2 (chkF s d p l / 256 % 256)).set 3 (chkF s d p l % 256) = ((P ++ l).set (P.length + 2) (sumL (P ++ l) / 256 % 256)).set (P.length + 2 + 1) (sumL (P ++ l) % 256) := by
    rw [List.set_append_right _ _ (by omega), List.set_append_right _ _ (by omega), show P.length + 2 - P.length = 2 from by omega, show P.length + 2 + 1 - P.length = 3 from by omega, hc, h1]
  unfold chkF at h3 h2 ⊢
  rw [h2, h3]
  rw [h1] at hb
  refine sum_set2 (P ++ l) (P.length + 2) hb (by simp; omega) (by omega) ?_ ?_
  · rw [gB_append_right, z2]
  · rw [Nat.add_assoc, gB_append_right, z3]
theorem chkF_bd (s d : Ad) (p : Int) {l : List Int} (hB : IsB l) : 0 ≤ chkF s d p l ∧ chkF s d p l ≤ 65535 := sumL_bd (chkB_isB s d p hB)
theorem gB_set_far (l : List Int) {i j : Nat} (x : Int) (h : j ≠ i) : gB (l.set i x) j = gB l j := by
  simp only [gB, List.getD]
  rw [List.getElem?_set_ne (by omega)]
theorem sumL2_at (c : Int) (l : List Int) {j : Nat} (h : j < 2) : gB (sumL2 c l) j = gB l j := by
  unfold sumL2; rw [gB_set_far _ _ (by omega), gB_set_far _ _ (by omega)]
theorem sumL2_drop (c : Int) (l : List Int) : (sumL2 c l).drop 4 = l.drop 4 := by
  unfold sumL2; rw [List.drop_set_of_lt (by omega), List.drop_set_of_lt (by omega)]
structure OkN (n : Nb) : Prop where
  k1 : 133 ≤ n.k
  k2 : n.k ≤ 137
  f1 : 0 ≤ n.fl
  f2 : n.fl ≤ 7
  f3 : n.fl = 0 ∨ n.k = 136
  l1 : n.has = true ∨ n.ln = zMac
  t1 : targB n.k = true → n.tg.v6 = true ∧ grpA n.tg = false
  t2 : targB n.k = false → n.tg = zAd
theorem validN_ok {n : Nb} (h : validN n = true) : OkN n := by
  unfold validN at h
  simp only [Bool.and_eq_true, decide_eq_true_eq, Bool.or_eq_true, beq_iff_eq] at h
  obtain ⟨h1, h2, h3, h4, h5, h6, h7⟩ := h
  refine ⟨h1, h2, h3, h4, h5, h6, fun e => ?_, fun e => ?_⟩
  · rw [e] at h7; simpa using h7
  · rw [e] at h7; simp only [Bool.false_eq_true, if_false] at h7; exact eqA_iff.1 h7
theorem OkN.fix {n : Nb} (h : OkN n) : (fixL n).length = fixN n.k := by
  have := addrL_len n.tg
  unfold fixL fixN
  by_cases c1 : n.k = 133
  · simp [c1]
  · by_cases c2 : n.k = 134
    · simp [c2]
    · have ht : targB n.k = true := by unfold targB; simp only [Bool.and_eq_true, decide_eq_true_eq]; have := h.k1; have := h.k2; omega
      rw [(h.t1 ht).1] at this
      simp only [if_true] at this
      by_cases c3 : n.k = 137
      · simp [c3, this]
      · simp [c1, c2, c3, this]
theorem adOf_addrL {a : Ad} (h6 : a.v6 = true) (h : GoodA a) : adOf (addrL a) = a := by
  have h1 := fb_addrB (v6 := a.v6) (hi := a.hi) (lo := a.lo) (by unfold validA; rw [h6]; rfl) h.1 h.2
  have h2 := addrL_len a
  rw [h6] at h2
  unfold adOf
  rw [h2]
  unfold addrL
  rw [h1]
  obtain ⟨v, x, y⟩ := a
  simp only at h6
  subst h6
  rfl
theorem addrL_take {a : Ad} (h6 : a.v6 = true) (r : List Int) : (addrL a ++ r).take (20 - 4) = addrL a := by
  have h2 := addrL_len a
  rw [h6] at h2
  rw [List.take_append_of_le_length (by rw [h2]; decide), List.take_of_length_le (by rw [h2]; decide)]
theorem optF_none (q : Nat) (num : Int) (has : Bool) (ln : List Int) : optF q [] num has ln = some (has, ln) := by
  cases q with
  | zero => rfl
  | succ q => unfold optF; rfl
theorem optF_one {num : Int} {ln : List Int} (h : ln.length = 6) : optF ([num, 1] ++ ln).length ([num, 1] ++ ln) num false zMac = some (true, ln) := by
  match ln, h with
  | [a, b, c, d, e, f], _ =>
    show optF 8 [num, 1, a, b, c, d, e, f] num false zMac = _
    unfold optF
    rw [if_neg (by simp), if_neg (by simp [gB]), if_pos ⟨rfl, rfl, rfl⟩]
    exact optF_none _ _ _ _
/-- the solicitation that is not read back -/
def oddS (n : Nb) (s : Ad) : Bool := n.k == 135 && (n.has && eqA s ⟨true, 0, 0⟩)
theorem rd_back {n : Nb} {s : Ad} (h : OkN n) (hg : GoodN n) : rdB s n.k (fixL n ++ if n.has then [optN n.k, 1] ++ n.ln else []) = if oddS n s then (zNb, 5) else (n, 0) := by
  have hfx := h.fix
  have hk1 := h.k1
  have hk2 := h.k2
  obtain ⟨O, hO⟩ : ∃ O, (if n.has then [optN n.k, 1] ++ n.ln else []) = O := ⟨_, rfl⟩
  have hopt : optF O.length O (optN n.k) false zMac = some (n.has, n.ln) := by
    rw [← hO]
    cases hh : n.has with
    | true => simp only [if_true]; exact optF_one hg.1.1
    | false =>
      have := h.l1
      rw [hh] at this
      simp only [Bool.false_eq_true, false_or] at this
      simp only [Bool.false_eq_true, if_false]
      rw [optF_none, this]
  rw [hO]
  have hdr : (fixL n ++ O).drop (fixN n.k) = O := by rw [← hfx, List.drop_left]
  have htg : tgF n.k (fixL n ++ O) = n.tg := by
    unfold tgF
    cases ht : targB n.k with
    | false => simp only [Bool.false_eq_true, if_false]; rw [h.t2 ht]
    | true =>
      simp only [if_true]
      have h6 := (h.t1 ht).1
      have hd : ∃ r, ((fixL n ++ O).drop 4) = addrL n.tg ++ r := by
        unfold targB at ht
        simp only [Bool.and_eq_true, decide_eq_true_eq] at ht
        unfold fixL
        rw [if_neg (by omega), if_neg (by omega)]
        by_cases c : n.k = 137
        · rw [if_pos c]; exact ⟨addrL n.tg ++ O, by simp [List.replicate]⟩
        · rw [if_neg c]; exact ⟨O, by simp⟩
      obtain ⟨r, hr⟩ := hd
      rw [hr, addrL_take h6, adOf_addrL h6 hg.2]
  have hfl : flF n.k (fixL n ++ O) = n.fl := by
    unfold flF
    by_cases c : n.k = 136
    · rw [if_pos c]
      have : gB (fixL n ++ O) 0 = flB n := by
        unfold fixL
        rw [if_neg (by omega), if_neg (by omega), if_neg (by omega)]
        rfl
      have f1 := h.f1
      have f2 := h.f2
      rw [this, flB, show (2 : Int) ^ (min (5 : Int).toNat IntKind.u8.bits) = 32 from by decide, show (2 : Int) ^ (min (5 : Int).toNat IntKind.i64.bits) = 32 from by decide, IntWalk.i64_in _ (by omega), IntKind.wrap_u8', Int.fdiv_eq_ediv_of_nonneg _ (by decide)]
      omega
    · rw [if_neg c]
      rcases h.f3 with e | e
      · exact e.symm
      · exact absurd e c
  unfold rdB
  rw [if_neg (by rw [List.length_append, hfx]; omega), htg, hfl, hdr, hopt]
  rw [if_neg (by rintro ⟨e1, e2⟩; rw [(h.t1 e1).2] at e2; cases e2)]
  dsimp only
  unfold oddS
  by_cases c : n.k = 135 ∧ n.has = true ∧ eqA s ⟨true, 0, 0⟩ = true
  · rw [if_pos c, if_pos (by rw [c.1, c.2.1, c.2.2]; rfl)]
  · rw [if_neg c, if_neg (fun e => c (by simpa using e))]
theorem IsB.set {l : List Int} (h : IsB l) (i : Nat) {x : Int} (hx : 0 ≤ x ∧ x ≤ 255) : IsB (l.set i x) := fun y hy => by
  rcases List.mem_or_eq_of_mem_set hy with h1 | h1
  · exact h y h1
  · rw [h1]; exact hx
theorem sumL2_isB (c : Int) {l : List Int} (h : IsB l) : IsB (sumL2 c l) := by
  unfold sumL2; exact (h.set 2 (u8_bd _)).set 3 (u8_bd _)
theorem enc_isB {n : Nb} (hg : GoodN n) (s d : Ad) : IsB (encN n s d).bs := sumL2_isB _ (encL_isB hg.1.2)
/-- nothing is wrong with a packet that was made -/
theorem enc_chk {n : Nb} {s d : Ad} (h : OkN n) (hg : GoodN n) (hs : s.v6 = true) (hd : d.v6 = true) : chkE (encN n s d) = 0 := by
  have hel := encL_len hg.1.1
  have hk1 := h.k1
  have hk2 := h.k2
  have hb := encL_isB (n := n) hg.1.2
  have hv : vpk (encN n s d) = true := by
    unfold vpk validP
    simp only [Bool.and_eq_true, decide_eq_true_eq, beq_iff_eq]
    unfold encN
    refine ⟨by unfold validA; rw [hs]; rfl, by unfold validA; rw [hd]; rfl, by rw [hs, hd], show (0 : Int) ≤ 58 by decide, show (58 : Int) ≤ 255 by decide, show (0 : Int) ≤ 255 by decide, show (255 : Int) ≤ 255 by decide, ?_⟩
    simp only [sumL2_len, hs]
    unfold mostP
    simp only [if_true]
    omega
  have h0 : gB (encN n s d).bs 0 = n.k := by
    show gB (sumL2 _ (encL n)) 0 = _
    rw [sumL2_at _ _ (by decide)]
    show IntKind.u8.wrap n.k = _
    rw [IntKind.wrap_u8']; omega
  have h1 : gB (encN n s d).bs 1 = 0 := by
    show gB (sumL2 _ (encL n)) 1 = _
    rw [sumL2_at _ _ (by decide)]
    rfl
  have hz : chkF (encN n s d).s (encN n s d).d (encN n s d).p (encN n s d).bs = 0 := chk_zero s d 58 hb hel.1 rfl rfl
  have hl : (encN n s d).bs.length = (encL n).length := sumL2_len _ _
  unfold chkE
  rw [hv, h0, h1, hz, hl]
  rw [if_neg (by simp), if_neg (by show ¬ ((!s.v6 || ((58 : Int) != 58)) = true); rw [hs]; simp), if_neg (by show ¬ (((255 : Int) != 255) = true); simp), if_neg (by simp; omega), if_neg (by simp), if_neg (by simp; omega)]
theorem dec_enc {n : Nb} {s d : Ad} (hv : validN n = true) (hg : GoodN n) (hs : s.v6 = true) (hd : d.v6 = true) : decR (encN n s d) = if oddS n s then (zNb, 5) else (n, 0) := by
  have h := validN_ok hv
  have hk1 := h.k1
  have hk2 := h.k2
  unfold decR
  rw [if_neg (by rw [enc_chk h hg hs hd]; simp)]
  have h0 : gB (encN n s d).bs 0 = n.k := by
    show gB (sumL2 _ (encL n)) 0 = _
    rw [sumL2_at _ _ (by decide)]
    show IntKind.u8.wrap n.k = _
    rw [IntKind.wrap_u8']; omega
  have hd4 : (encN n s d).bs.drop 4 = fixL n ++ if n.has then [optN n.k, 1] ++ n.ln else [] := by
    show (sumL2 _ (encL n)).drop 4 = _
    rw [sumL2_drop]
    rfl
  rw [h0, hd4]
  exact rd_back h hg
end Go.Proofs.Ytoijkcnefnmbjaa
