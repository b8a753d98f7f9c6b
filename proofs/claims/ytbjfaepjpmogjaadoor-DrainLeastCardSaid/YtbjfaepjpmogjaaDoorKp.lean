/-
  The least number of rounds, in plain words: sets of at most eight items as numbers, and the table of the least divisions.
-/
namespace Go.Proofs.YtbjfaepjpmogjaaDoor

/-- what of a set is not in another one -/
def dif (s t : Nat) : Nat := s ^^^ (s &&& t)
theorem dif_bit (s t k : Nat) : (dif s t).testBit k = (s.testBit k && !t.testBit k) := by
  unfold dif; rw [Nat.testBit_xor, Nat.testBit_and]; cases s.testBit k <;> cases t.testBit k <;> rfl
theorem dif_lt {s t n : Nat} (h : s < 2 ^ n) : dif s t < 2 ^ n := by
  unfold dif; exact Nat.xor_lt_two_pow h (Nat.lt_of_le_of_lt Nat.and_le_left h)
theorem bits_ext {s t : Nat} (h : ∀ k, s.testBit k = t.testBit k) : s = t := Nat.eq_of_testBit_eq h
theorem dif_zero {s t : Nat} : dif s t = 0 ↔ ∀ k, s.testBit k = true → t.testBit k = true := by
  constructor
  · intro h k hk
    have := dif_bit s t k
    rw [h, Nat.zero_testBit, hk] at this
    cases ht : t.testBit k with
    | true => rfl
    | false => rw [ht] at this; exact absurd this (by decide)
  · intro h
    refine bits_ext fun k => ?_
    rw [dif_bit, Nat.zero_testBit]
    cases hk : s.testBit k with
    | false => rfl
    | true => rw [h k hk]; rfl
theorem dif_none (s : Nat) : dif s 0 = s := by unfold dif; simp
/-- the number of elements -/
def pc (s : Nat) : Nat := ((List.range 8).map fun k => if s.testBit k then 1 else 0).sum
theorem sum_le {l : List Nat} {f g : Nat → Nat} (h : ∀ k ∈ l, f k ≤ g k) : (l.map f).sum ≤ (l.map g).sum := by
  induction l with
  | nil => simp
  | cons x l ih =>
    simp only [List.map_cons, List.sum_cons]
    have h1 := h x (by simp)
    have h2 := ih fun k hk => h k (by simp [hk])
    omega
theorem sum_lt {l : List Nat} {f g : Nat → Nat} (h : ∀ k ∈ l, f k ≤ g k) {j : Nat} (hj : j ∈ l) (hlt : f j < g j) : (l.map f).sum < (l.map g).sum := by
  induction l with
  | nil => cases hj
  | cons x l ih =>
    simp only [List.map_cons, List.sum_cons]
    have h1 := h x (by simp)
    rcases List.mem_cons.1 hj with e | e
    · subst e
      have := sum_le (l := l) (f := f) (g := g) fun k hk => h k (by simp [hk])
      omega
    · have := ih (fun k hk => h k (by simp [hk])) e
      omega
theorem pc_lt {s t k : Nat} (h : ∀ j, s.testBit j = true → t.testBit j = true) (hk : k < 8) (h1 : s.testBit k = false) (h2 : t.testBit k = true) : pc s < pc t := by
  unfold pc
  refine sum_lt (fun j _ => ?_) (j := k) (by simpa using hk) ?_
  · cases hj : s.testBit j
    · simp
    · simp [h j hj]
  · simp [h1, h2]
theorem pc_le (s : Nat) : pc s ≤ 8 := by
  unfold pc
  have := sum_le (l := List.range 8) (f := fun k => if s.testBit k then 1 else 0) (g := fun _ => 1) fun k _ => by split <;> omega
  simp only [List.map_const', List.length_range, List.sum_replicate_nat, Nat.mul_one] at this
  exact this
/-- the least element, as a set -/
def lw (s : Nat) : Nat := s ^^^ (s &&& (s - 1))
theorem lw_tab : ∀ s : Fin 256, s.val ≠ 0 → ∃ c : Fin 8, lw s.val = 2 ^ c.val ∧ s.val.testBit c.val = true := by decide +kernel
theorem lw_bit {s : Nat} (h : s < 256) (h0 : s ≠ 0) : ∃ c, c < 8 ∧ lw s = 2 ^ c ∧ s.testBit c = true := by
  obtain ⟨c, h1, h2⟩ := lw_tab ⟨s, h⟩ h0
  exact ⟨c.val, c.isLt, h1, h2⟩
theorem and_pow (t c : Nat) : (t &&& 2 ^ c != 0) = t.testBit c := by
  cases h : t.testBit c with
  | true =>
    have : t &&& 2 ^ c ≠ 0 := fun e => by
      have := congrArg (fun x => Nat.testBit x c) e
      simp [Nat.testBit_and, h] at this
    simpa using this
  | false =>
    have : t &&& 2 ^ c = 0 := by
      refine bits_ext fun k => ?_
      rw [Nat.testBit_and, Nat.zero_testBit, Nat.testBit_two_pow]
      by_cases e : c = k
      · subst e; rw [h]; rfl
      · simp [e]
    simpa using this
theorem lw_low {s t : Nat} (h : s < 256) (h0 : s ≠ 0) (ht : t < lw s) : (t &&& lw s != 0) = false := by
  obtain ⟨c, _, h1, _⟩ := lw_bit h h0
  rw [h1] at ht ⊢
  rw [and_pow]
  exact Nat.testBit_lt_two_pow ht
theorem lw_le {s : Nat} (h : s < 256) (h0 : s ≠ 0) : lw s ≤ s := by
  obtain ⟨c, _, h1, h2⟩ := lw_bit h h0
  rw [h1]
  exact Nat.ge_two_pow_of_testBit h2
theorem lw_pos {s : Nat} (h : s < 256) (h0 : s ≠ 0) : 0 < lw s := by
  obtain ⟨c, _, h1, h2⟩ := lw_bit h h0
  rw [h1]; exact Nat.two_pow_pos c

/-- a set that may be the first round -/
def cand (safe : Nat → Bool) (r : Nat → Nat) (s t : Nat) : Bool := dif t s == 0 && (t &&& lw s != 0 && (safe t && decide (r (dif s t) < 9)))
def scan (safe : Nat → Bool) (r : Nat → Nat) (s : Nat) : Nat → Nat × Nat
  | 0 => (9, 0)
  | k + 1 => if cand safe r s k = true ∧ r (dif s k) + 1 < (scan safe r s k).1 then (r (dif s k) + 1, k) else scan safe r s k
def rtab (safe : Nat → Bool) : Nat → List (Nat × Nat)
  | 0 => []
  | k + 1 => rtab safe k ++ [if k = 0 then (0, 0) else scan safe (fun x => ((rtab safe k)[x]?.getD (9, 0)).1) k (k + 1)]
/-- the least number of rounds, and the first round -/
def rn (safe : Nat → Bool) (s : Nat) : Nat × Nat := (rtab safe (s + 1))[s]?.getD (9, 0)
theorem rtab_len (safe : Nat → Bool) (k : Nat) : (rtab safe k).length = k := by
  induction k with
  | zero => rfl
  | succ k ih => rw [rtab, List.length_append, ih]; rfl
theorem rtab_at (safe : Nat → Bool) {s k : Nat} (h : s < k) : (rtab safe k)[s]? = some (rn safe s) := by
  have hx : ∀ m, s < s + 1 + m → (rtab safe (s + 1 + m))[s]? = (rtab safe (s + 1))[s]? := fun m => by
    induction m with
    | zero => intro _; rfl
    | succ m ih =>
      intro _
      rw [show s + 1 + (m + 1) = (s + 1 + m) + 1 from rfl, rtab, List.getElem?_append_left (by rw [rtab_len]; omega)]
      exact ih (by omega)
  obtain ⟨m, rfl⟩ : ∃ m, k = s + 1 + m := ⟨k - (s + 1), by omega⟩
  rw [hx m h]
  unfold rn
  rw [List.getElem?_eq_getElem (by rw [rtab_len]; omega)]
  rfl
theorem rn_zero (safe : Nat → Bool) : rn safe 0 = (0, 0) := rfl
theorem cand_bits {safe : Nat → Bool} {r : Nat → Nat} {s t : Nat} (h : s < 256) (h0 : s ≠ 0) (hc : cand safe r s t = true) : (∀ k, t.testBit k = true → s.testBit k = true) ∧ (∃ c, c < 8 ∧ lw s = 2 ^ c ∧ s.testBit c = true ∧ t.testBit c = true) ∧ safe t = true ∧ r (dif s t) < 9 := by
  unfold cand at hc
  simp only [Bool.and_eq_true, beq_iff_eq, decide_eq_true_eq] at hc
  obtain ⟨h1, h2, h3, h4⟩ := hc
  obtain ⟨c, hc8, hl, hs⟩ := lw_bit h h0
  rw [hl, and_pow] at h2
  exact ⟨dif_zero.1 h1, ⟨c, hc8, hl, hs, h2⟩, h3, h4⟩
theorem dif_sub {s t : Nat} (c : Nat) (h1 : s.testBit c = true) (h2 : t.testBit c = true) : dif s t < s := by
  have hle : ∀ k, (dif s t).testBit k = true → s.testBit k = true := fun k hk => by rw [dif_bit] at hk; simp only [Bool.and_eq_true] at hk; exact hk.1
  have hle2 : dif s t ≤ s := by
    have e : dif s t = dif s t &&& s := bits_ext fun k => by
      rw [Nat.testBit_and]
      cases hk : (dif s t).testBit k with
      | false => rfl
      | true => rw [hle k hk]; rfl
    rw [e]; exact Nat.and_le_right
  have hne : dif s t ≠ s := fun e => by
    have := dif_bit s t c
    rw [e, h1, h2] at this
    exact absurd this (by decide)
  omega
theorem cand_congr {safe : Nat → Bool} {r q : Nat → Nat} {s t : Nat} (h : s < 256) (h0 : s ≠ 0) (hr : ∀ x, x < s → r x = q x) : cand safe r s t = cand safe q s t ∧ (cand safe r s t = true → r (dif s t) = q (dif s t)) := by
  obtain ⟨c, hc8, hl, hs⟩ := lw_bit h h0
  cases ht : t.testBit c with
  | false => unfold cand; rw [hl, and_pow, ht]; simp
  | true =>
    have e := hr _ (dif_sub c hs ht)
    unfold cand
    rw [e]
    exact ⟨rfl, fun _ => rfl⟩
theorem scan_congr {safe : Nat → Bool} {r q : Nat → Nat} {s : Nat} (h : s < 256) (h0 : s ≠ 0) (hr : ∀ x, x < s → r x = q x) (k : Nat) : scan safe r s k = scan safe q s k := by
  induction k with
  | zero => rfl
  | succ k ih =>
    obtain ⟨h1, h2⟩ := cand_congr (safe := safe) (t := k) h h0 hr
    unfold scan
    rw [ih, ← h1]
    by_cases hc : cand safe r s k = true
    · rw [h2 hc]
    · rw [if_neg (fun e => hc e.1), if_neg (fun e => hc e.1)]
def rr (safe : Nat → Bool) (s : Nat) : Nat := (rn safe s).1
theorem rn_eq (safe : Nat → Bool) {s : Nat} (h : s < 256) (h0 : s ≠ 0) : rn safe s = scan safe (rr safe) s (s + 1) := by
  have : rn safe s = scan safe (fun x => ((rtab safe s)[x]?.getD (9, 0)).1) s (s + 1) := by
    unfold rn
    rw [rtab, List.getElem?_append_right (by rw [rtab_len]; omega), rtab_len, Nat.sub_self, if_neg h0]
    rfl
  rw [this]
  exact scan_congr h h0 (fun x hx => by rw [rtab_at safe hx]; rfl) _
/-- sets below the least element are no first rounds -/
theorem scan_low (safe : Nat → Bool) (r : Nat → Nat) {s k : Nat} (h : s < 256) (h0 : s ≠ 0) (hk : k ≤ lw s) : scan safe r s k = (9, 0) := by
  induction k with
  | zero => rfl
  | succ k ih =>
    unfold scan
    have : cand safe r s k = false := by
      unfold cand
      rw [lw_low h h0 (by omega)]
      simp
    rw [if_neg (fun e => by rw [this] at e; exact absurd e.1 (by decide))]
    exact ih (by omega)
theorem scan_spec (safe : Nat → Bool) (r : Nat → Nat) (s k : Nat) : (scan safe r s k).1 ≤ 9 ∧ ((scan safe r s k).1 < 9 → (scan safe r s k).2 < k ∧ cand safe r s (scan safe r s k).2 = true ∧ (scan safe r s k).1 = r (dif s (scan safe r s k).2) + 1) ∧ ∀ t, t < k → cand safe r s t = true → (scan safe r s k).1 ≤ r (dif s t) + 1 := by
  induction k with
  | zero => exact ⟨Nat.le_refl _, fun h => absurd h (Nat.lt_irrefl 9), fun t h => absurd h (by omega)⟩
  | succ k ih =>
    obtain ⟨h1, h2, h3⟩ := ih
    unfold scan
    split
    · rename_i hc
      refine ⟨by dsimp only; omega, fun _ => ⟨by dsimp only; omega, hc.1, rfl⟩, fun t ht hct => ?_⟩
      dsimp only
      by_cases e : t = k
      · subst e; omega
      · have := h3 t (by omega) hct; omega
    · rename_i hc
      refine ⟨h1, fun h => ?_, fun t ht hct => ?_⟩
      · obtain ⟨a, b, c⟩ := h2 h; exact ⟨by omega, b, c⟩
      · by_cases e : t = k
        · subst e
          have : ¬ r (dif s t) + 1 < (scan safe r s t).1 := fun e => hc ⟨hct, e⟩
          omega
        · exact h3 t (by omega) hct
theorem rn_spec (safe : Nat → Bool) {s : Nat} (h : s < 256) (h0 : s ≠ 0) : (rn safe s).1 ≤ 9 ∧ ((rn safe s).1 < 9 → cand safe (rr safe) s (rn safe s).2 = true ∧ (rn safe s).1 = rr safe (dif s (rn safe s).2) + 1) ∧ ∀ t, t ≤ s → cand safe (rr safe) s t = true → (rn safe s).1 ≤ rr safe (dif s t) + 1 := by
  obtain ⟨h1, h2, h3⟩ := scan_spec safe (rr safe) s (s + 1)
  rw [rn_eq safe h h0]
  exact ⟨h1, fun hh => ⟨(h2 hh).2.1, (h2 hh).2.2⟩, fun t ht hc => h3 t (by omega) hc⟩
theorem dif_lt256 {s t : Nat} (h : s < 256) : dif s t < 256 := dif_lt (n := 8) h
/-- no set needs more rounds than it has elements -/
theorem rr_pc (safe : Nat → Bool) : ∀ s : Nat, s < 256 → rr safe s < 9 → rr safe s ≤ pc s := by
  intro s
  induction s using Nat.strongRecOn with
  | _ s ih =>
    intro h hr
    by_cases h0 : s = 0
    · subst h0; unfold rr; rw [rn_zero]; exact Nat.zero_le _
    · obtain ⟨_, h2, _⟩ := rn_spec safe h h0
      obtain ⟨hc, he⟩ := h2 hr
      obtain ⟨b1, ⟨c, hc8, _, hs, ht⟩, _, b4⟩ := cand_bits h h0 hc
      have hlt := dif_sub c hs ht
      have hi := ih _ hlt (dif_lt256 h) b4
      have hp : pc (dif s (rn safe s).2) < pc s := pc_lt (k := c) (fun j hj => by rw [dif_bit] at hj; simp only [Bool.and_eq_true] at hj; exact hj.1) hc8 (by rw [dif_bit, hs, ht]; rfl) hs
      unfold rr at he hi ⊢
      omega
theorem rr_le (safe : Nat → Bool) {s : Nat} (h : s < 256) : rr safe s ≤ 9 := by
  by_cases h0 : s = 0
  · subst h0; unfold rr; rw [rn_zero]; exact Nat.zero_le _
  · exact (rn_spec safe h h0).1
/-- what is left of a set behind a first round needs less than eight rounds -/
theorem rr_left (safe : Nat → Bool) {s t : Nat} (h : s < 256) (h0 : s ≠ 0) (ht : (t &&& lw s != 0) = true) (h9 : rr safe (dif s t) < 9) : rr safe (dif s t) < 8 := by
  obtain ⟨c, hc8, hl, hs⟩ := lw_bit h h0
  rw [hl, and_pow] at ht
  have hp : pc (dif s t) < pc s := pc_lt (k := c) (fun j hj => by rw [dif_bit] at hj; simp only [Bool.and_eq_true] at hj; exact hj.1) hc8 (by rw [dif_bit, hs, ht]; rfl) hs
  have := rr_pc safe _ (dif_lt256 (t := t) h) h9
  have := pc_le s
  omega
/-- the rounds -/
def divsN (safe : Nat → Bool) : Nat → Nat → List Nat
  | 0, _ => []
  | m + 1, s => (rn safe s).2 :: divsN safe m (dif s (rn safe s).2)
def divs (safe : Nat → Bool) (s : Nat) : List Nat := divsN safe (rr safe s) s
theorem divsN_len (safe : Nat → Bool) (m s : Nat) : (divsN safe m s).length = m := by
  induction m generalizing s with
  | zero => rfl
  | succ m ih => rw [divsN, List.length_cons, ih]
theorem rr_zero {safe : Nat → Bool} {s : Nat} (h : s < 256) : rr safe s = 0 ↔ s = 0 := by
  constructor
  · intro hr
    apply Classical.byContradiction
    intro h0
    obtain ⟨_, h2, _⟩ := rn_spec safe h h0
    have := (h2 (by unfold rr at hr; omega)).2
    unfold rr at hr; omega
  · rintro rfl; rfl
theorem rr_next {safe : Nat → Bool} {s : Nat} (h : s < 256) (h0 : s ≠ 0) (hr : rr safe s < 9) : rr safe s = rr safe (dif s (rn safe s).2) + 1 ∧ dif s (rn safe s).2 < s := by
  obtain ⟨_, h2, _⟩ := rn_spec safe h h0
  obtain ⟨h3, h4⟩ := h2 hr
  obtain ⟨_, ⟨c, _, _, h5, h6⟩, _⟩ := cand_bits h h0 h3
  exact ⟨h4, dif_sub c h5 h6⟩
theorem divs_cons {safe : Nat → Bool} {s : Nat} (h : s < 256) (h0 : s ≠ 0) (hr : rr safe s < 9) : divs safe s = (rn safe s).2 :: divs safe (dif s (rn safe s).2) := by
  unfold divs
  rw [(rr_next h h0 hr).1]; rfl
/-- each round is safe and not empty, and each element is in exactly one of them -/
theorem divs_ok (safe : Nat → Bool) : ∀ s : Nat, s < 256 → rr safe s < 9 → (∀ t ∈ divs safe s, safe t = true ∧ t ≠ 0 ∧ t < 256 ∧ ∀ k, t.testBit k = true → s.testBit k = true) ∧ ∀ k, s.testBit k = true → ((divs safe s).map fun t => if t.testBit k then 1 else 0).sum = 1 := by
  intro s
  induction s using Nat.strongRecOn with
  | _ s ih =>
    intro h hr
    by_cases h0 : s = 0
    · subst h0
      exact ⟨fun t ht => absurd ht List.not_mem_nil, fun k hk => by rw [Nat.zero_testBit] at hk; exact absurd hk (by decide)⟩
    · obtain ⟨he, hlt⟩ := rr_next h h0 hr
      obtain ⟨_, h2, _⟩ := rn_spec safe h h0
      obtain ⟨b1, ⟨c, hc8, _, hs, ht⟩, b3, b4⟩ := cand_bits h h0 (h2 hr).1
      obtain ⟨i1, i2⟩ := ih _ hlt (dif_lt256 h) (by omega)
      have hsub : ∀ k, (dif s (rn safe s).2).testBit k = true → s.testBit k = true := fun k hk => by rw [dif_bit] at hk; simp only [Bool.and_eq_true] at hk; exact hk.1
      rw [divs_cons h h0 hr]
      refine ⟨fun t ht' => ?_, fun k hk => ?_⟩
      · rcases List.mem_cons.1 ht' with e | e
        · subst e
          refine ⟨b3, fun e => ?_, ?_, b1⟩
          · rw [e, Nat.zero_testBit] at ht; exact absurd ht (by decide)
          · apply Nat.lt_of_le_of_lt _ h
            have e : (rn safe s).2 = (rn safe s).2 &&& s := bits_ext fun k => by
              rw [Nat.testBit_and]
              cases hk : (rn safe s).2.testBit k with
              | false => rfl
              | true => rw [b1 k hk]; rfl
            rw [e]; exact Nat.and_le_right
        · obtain ⟨x1, x2, x3, x4⟩ := i1 t e
          exact ⟨x1, x2, x3, fun k hk => hsub k (x4 k hk)⟩
      · rw [List.map_cons, List.sum_cons]
        cases hk2 : (rn safe s).2.testBit k with
        | true =>
          have hz : ∀ t ∈ divs safe (dif s (rn safe s).2), t.testBit k = false := fun t ht' => by
            cases htk : t.testBit k with
            | false => rfl
            | true =>
              have := (i1 t ht').2.2.2 k htk
              rw [dif_bit, hk2] at this
              simp at this
          have : ((divs safe (dif s (rn safe s).2)).map fun t => if t.testBit k then 1 else 0) = (divs safe (dif s (rn safe s).2)).map fun _ => 0 := List.map_congr_left fun t ht' => by rw [hz t ht']; rfl
          rw [this]
          have z : ∀ l : List Nat, (l.map fun _ => 0).sum = 0 := fun l => by induction l with
            | nil => rfl
            | cons x l ih => rw [List.map_cons, List.sum_cons, ih]
          rw [z]; rfl
        | false =>
          rw [i2 k (by rw [dif_bit, hk, hk2]; rfl)]; rfl
/-- if all is safe, there are rounds -/
theorem rr_full {safe : Nat → Bool} {s : Nat} (h : s < 256) (hs : s = 0 ∨ safe s = true) : rr safe s < 9 := by
  by_cases h0 : s = 0
  · subst h0; unfold rr; rw [rn_zero]; decide
  · have hs := hs.resolve_left h0
    obtain ⟨c, hc8, hl, hb⟩ := lw_bit h h0
    obtain ⟨_, _, h3⟩ := rn_spec safe h h0
    have hd : dif s s = 0 := dif_zero.2 fun k hk => hk
    have := h3 s (Nat.le_refl _) (by unfold cand; rw [hd, hl, and_pow, hb, hs]; rfl)
    rw [hd] at this
    have hz : rr safe 0 = 0 := rfl
    unfold rr at this ⊢
    unfold rr at hz
    omega
/-- a division into n sets, each empty or safe, has no fewer parts than there are rounds -/
theorem rr_least (safe : Nat → Bool) (m : Nat → Nat) (n : Nat) (hsafe : ∀ j, j < n → m j = 0 ∨ safe (m j) = true) (hn : n ≤ 8) : ∀ s : Nat, s < 256 → (∀ k, s.testBit k = true → ∃ j, j < n ∧ (m j).testBit k = true) → (∀ i j, i < n → j < n → ∀ k, (m i).testBit k = true → (m j).testBit k = true → i = j) →
    (∀ j, j < n → (∀ k, (m j).testBit k = true → s.testBit k = true) ∨ (∀ k, (m j).testBit k = true → s.testBit k = false)) → rr safe s ≤ ((List.range n).map fun j => if (m j &&& s) = 0 then 0 else 1).sum := by
  intro s
  induction s using Nat.strongRecOn with
  | _ s ih =>
    intro h hcov hdis hin
    by_cases h0 : s = 0
    · subst h0; unfold rr; rw [rn_zero]; exact Nat.zero_le _
    · obtain ⟨c, hc8, hl, hb⟩ := lw_bit h h0
      obtain ⟨j, hj, hjc⟩ := hcov c hb
      have hsub : ∀ k, (m j).testBit k = true → s.testBit k = true := by
        rcases hin j hj with h1 | h1
        · exact h1
        · have := h1 c hjc; rw [hb] at this; exact absurd this (by decide)
      have hlt := dif_sub c hb hjc
      have hmj : m j ≠ 0 := fun e => by rw [e, Nat.zero_testBit] at hjc; exact absurd hjc (by decide)
      have hsf := (hsafe j hj).resolve_left hmj
      have hle : m j ≤ s := by
        have e : m j = m j &&& s := bits_ext fun k => by
          rw [Nat.testBit_and]
          cases hk : (m j).testBit k with
          | false => rfl
          | true => rw [hsub k hk]; rfl
        rw [e]; exact Nat.and_le_right
      have hi := ih _ hlt (dif_lt256 h) (fun k hk => by rw [dif_bit] at hk; simp only [Bool.and_eq_true] at hk; exact hcov k hk.1) hdis (fun i hi => by
        by_cases e : i = j
        · subst e
          refine .inr fun k hk => ?_
          rw [dif_bit, hk]; simp
        · rcases hin i hi with h1 | h1
          · refine .inl fun k hk => ?_
            rw [dif_bit, h1 k hk]
            cases hjk : (m j).testBit k with
            | false => rfl
            | true => exact absurd (hdis i j hi hj k hk hjk) e
          · refine .inr fun k hk => ?_
            rw [dif_bit, h1 k hk]; rfl)
      have hstrict : ((List.range n).map fun i => if (m i &&& dif s (m j)) = 0 then 0 else 1).sum < ((List.range n).map fun i => if (m i &&& s) = 0 then 0 else 1).sum := by
        refine sum_lt (fun i hi => ?_) (j := j) (by simpa using hj) ?_
        · by_cases e : m i &&& s = 0
          · have : m i &&& dif s (m j) = 0 := bits_ext fun k => by
              have := congrArg (fun x => Nat.testBit x k) e
              simp only [Nat.testBit_and, Nat.zero_testBit] at this ⊢
              rw [dif_bit]
              cases h1 : (m i).testBit k
              · rfl
              · rw [h1] at this
                simp only [Bool.true_and] at this
                rw [this]; rfl
            rw [if_pos e, if_pos this]; exact Nat.le_refl _
          · rw [if_neg e]; split <;> omega
        · have e1 : m j &&& dif s (m j) = 0 := bits_ext fun k => by
            simp only [Nat.testBit_and, Nat.zero_testBit]
            rw [dif_bit]
            cases (m j).testBit k <;> simp
          have e2 : m j &&& s ≠ 0 := fun e => by
            have := congrArg (fun x => Nat.testBit x c) e
            simp [Nat.testBit_and, hjc, hb] at this
          rw [if_pos e1, if_neg e2]; decide
      obtain ⟨_, _, h3⟩ := rn_spec safe h h0
      have hcap : ((List.range n).map fun i => if (m i &&& s) = 0 then 0 else 1).sum ≤ 8 := by
        have := sum_le (l := List.range n) (f := fun i => if (m i &&& s) = 0 then 0 else 1) (g := fun _ => 1) fun k _ => by split <;> omega
        simp only [List.map_const', List.length_range, List.sum_replicate_nat, Nat.mul_one] at this
        omega
      have := h3 (m j) hle (by
        unfold cand
        rw [dif_zero.2 hsub, hl, and_pow, hjc, hsf, decide_eq_true (by omega)]; rfl)
      unfold rr at this hi ⊢
      omega
end Go.Proofs.YtbjfaepjpmogjaaDoor
