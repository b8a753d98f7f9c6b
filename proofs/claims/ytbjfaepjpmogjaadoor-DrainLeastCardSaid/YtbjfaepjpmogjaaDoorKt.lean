/-
  A division into fewer sets is not safe: plain words.
-/
import Derived.Test.YtbjfaepjpmogjaaDoorKv
namespace Go.Proofs.YtbjfaepjpmogjaaDoor
open Go.RowKit

/-- the items that are chosen -/
def selK (its : List Itm) (χ : Nat → Bool) : Nat → List Itm
  | 0 => []
  | k + 1 => selK its χ k ++ (match its[k]? with
    | some x => if χ k = true then [x] else []
    | none => [])
theorem selK_succ {its : List Itm} {χ : Nat → Bool} {k : Nat} (h : k < its.length) : selK its χ (k + 1) = selK its χ k ++ if χ k = true then [its[k]] else [] := by
  rw [selK, List.getElem?_eq_getElem h]
theorem selK_yes {its : List Itm} {χ : Nat → Bool} {k : Nat} {L : List Itm} (h : k < its.length) (hL : L = selK its χ k) (hx : χ k = true) : L ++ [its[k]] = selK its χ (k + 1) := by rw [selK_succ h, if_pos hx, hL]
theorem selK_no {its : List Itm} {χ : Nat → Bool} {k : Nat} {L : List Itm} (h : k < its.length) (hL : L = selK its χ k) (hx : χ k = false) : L = selK its χ (k + 1) := by rw [selK_succ h, hx, if_neg (by decide), hL, List.append_nil]
theorem selK_len (its : List Itm) (χ : Nat → Bool) (k : Nat) : (selK its χ k).length ≤ k := by
  induction k with
  | zero => exact Nat.le_refl _
  | succ k ih =>
    rw [selK, List.length_append]
    cases its[k]? with
    | none => simp; omega
    | some x => dsimp only; split <;> simp <;> omega
/-- the digits of a code -/
def dg (code n j : Nat) (i : Nat) : Bool := decide (code / n ^ i % n = j)
def mskN (χ : Nat → Bool) : Nat → Nat
  | 0 => 0
  | k + 1 => mskN χ k ||| (if χ k = true then 2 ^ k else 0)
theorem mskN_bit (χ : Nat → Bool) (n k : Nat) : (mskN χ n).testBit k = (decide (k < n) && χ k) := by
  induction n with
  | zero => simp [mskN]
  | succ n ih =>
    rw [mskN, Nat.testBit_or, ih]
    by_cases hx : χ n = true
    · rw [if_pos hx, Nat.testBit_two_pow]
      by_cases e : n = k
      · subst e; simp [hx]
      · by_cases h : k < n
        · simp [h, show k < n + 1 by omega, e]
        · simp [h, show ¬ k < n + 1 by omega, e]
    · rw [if_neg hx, Nat.zero_testBit, Bool.or_false]
      by_cases e : k = n
      · subst e; simp [hx]
      · by_cases h : k < n
        · simp [h, show k < n + 1 by omega]
        · simp [h, show ¬ k < n + 1 by omega]
theorem mskN_lt (χ : Nat → Bool) (n : Nat) : mskN χ n < 2 ^ n := by
  refine Nat.lt_of_not_le fun h => ?_
  obtain ⟨k, hk, hb⟩ : ∃ k, n ≤ k ∧ (mskN χ n).testBit k = true := by
    obtain ⟨k, hk⟩ := Nat.exists_ge_and_testBit_of_ge_two_pow h
    exact ⟨k, hk.1, hk.2⟩
  rw [mskN_bit] at hb
  simp at hb
  omega
theorem chK_sel {its : List Itm} {χ : Nat → Bool} {s : Nat} (n : Nat) (h : ∀ k, k < n → s.testBit k = χ k) (hn : n ≤ its.length) : chK its s n = selK its χ n := by
  induction n with
  | zero => rfl
  | succ n ih => rw [chK_succ (show n < its.length by omega), selK_succ (show n < its.length by omega), ih (fun k hk => h k (by omega)) (by omega), h n (by omega)]
def okS (f : Fab) (ls : List Ld) (c : List Itm) : Bool := (c.length == 0) || (safeE f ls c == 0)
theorem pc_le_pow {s m : Nat} (hm : m ≤ 8) (h : s < 2 ^ m) : pc s ≤ m := by
  unfold pc
  have h1 := sum_le (l := List.range 8) (f := fun k => if s.testBit k then 1 else 0) (g := fun k => if k < m then 1 else 0) fun k _ => by
    by_cases hk : k < m
    · rw [if_pos hk]; split <;> omega
    · rw [if_neg hk, Nat.testBit_lt_two_pow (Nat.lt_of_lt_of_le h (Nat.pow_le_pow_right (by decide) (by omega)))]
      exact Nat.le_refl 0
  have h2 : ∀ m : Fin 9, ((List.range 8).map fun k => if k < m.val then 1 else 0).sum = m.val := by decide
  have h3 : ((List.range 8).map fun k => if k < m then 1 else 0).sum = m := h2 ⟨m, by omega⟩
  omega
theorem least_false {f : Fab} {ls : List Ld} {its : List Itm} (hn : its.Nodup) (h8 : its.length ≤ 8) {n : Nat} (hn1 : 1 ≤ n) (hn8 : n ≤ 8) (hr : rr (safeB f ls its) (2 ^ its.length - 1) = n + 1) (code : Nat) :
    ¬ ∀ j, j < n → okS f ls (selK its (dg code n j) its.length) = true := fun hall => by
  have hpow : (2 : Nat) ^ its.length ≤ 256 := Nat.le_trans (Nat.pow_le_pow_right (n := 2) (by decide) h8) (by decide)
  have hpos : 1 ≤ (2 : Nat) ^ its.length := Nat.two_pow_pos _
  let m : Nat → Nat := fun j => mskN (dg code n j) its.length
  have hmb : ∀ j k, (m j).testBit k = (decide (k < its.length) && dg code n j k) := fun j k => mskN_bit _ _ _
  have hsel : ∀ j, chF its (m j) = selK its (dg code n j) its.length := fun j => chK_sel its.length (fun k hk => by rw [hmb]; simp [hk]) (Nat.le_refl _)
  have hA : ∀ k, (2 ^ its.length - 1).testBit k = decide (k < its.length) := fun k => Nat.testBit_two_pow_sub_one ..
  have := rr_least (safeB f ls its) m n (fun j hj => ?_) hn8 (2 ^ its.length - 1) (by omega) (fun k hk => ?_) (fun i j hi hj k h1 h2 => ?_) fun j hj => ?_
  · have hs := sum_le (l := List.range n) (f := fun j => if (m j &&& (2 ^ its.length - 1)) = 0 then 0 else 1) (g := fun _ => 1) fun k _ => by split <;> omega
    simp only [List.map_const', List.length_range, List.sum_replicate_nat, Nat.mul_one] at hs
    omega
  · have h1 := hall j hj
    rw [← hsel] at h1
    unfold okS at h1
    by_cases h0 : m j = 0
    · exact .inl h0
    · refine .inr ?_
      have hl : (chF its (m j)).length ≠ 0 := chF_some hn h0 fun k hk => by rw [hmb] at hk; simp at hk; exact hk.1
      have h2 : ((chF its (m j)).length == 0) = false := by simpa using hl
      rw [h2, Bool.false_or] at h1
      exact h1
  · rw [hA] at hk
    have hk := of_decide_eq_true hk
    refine ⟨code / n ^ k % n, Nat.mod_lt _ (by omega), ?_⟩
    rw [hmb]; simp [hk, dg]
  · rw [hmb] at h1 h2
    simp [dg] at h1 h2
    omega
  · refine .inl fun k hk => ?_
    rw [hmb] at hk
    rw [hA]
    simp at hk
    simpa using hk.1
end Go.Proofs.YtbjfaepjpmogjaaDoor
