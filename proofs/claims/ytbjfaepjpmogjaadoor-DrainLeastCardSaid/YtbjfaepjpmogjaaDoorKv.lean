/-
  The rounds hold each item once: plain words.
-/
import Derived.Test.YtbjfaepjpmogjaaDoorKk
namespace Go.Proofs.YtbjfaepjpmogjaaDoor
open Go.RowKit

theorem shl_tabJ : ∀ n : Fin 9, IntKind.i64.wrap (1 * 2 ^ (min n.val 64)) = ((2 ^ n.val : Nat) : Int) := by decide +kernel
theorem divs_len2 {safe : Nat → Bool} {s : Nat} : (divs safe s).length = rr safe s := divsN_len _ _ _
theorem nodupAt {α : Type} {ks : List α} {x : α} {i j : Nat} (hn : ks.Nodup) (h1 : ks[i]? = some x) (h2 : ks[j]? = some x) : i = j := by
  induction ks generalizing i j with
  | nil => simp at h1
  | cons k ks ih =>
    rw [List.nodup_cons] at hn
    cases i with
    | zero =>
      cases j with
      | zero => rfl
      | succ j =>
        simp at h1 h2
        subst h1
        exact absurd (List.mem_of_getElem? h2) hn.1
    | succ i =>
      cases j with
      | zero =>
        simp at h1 h2
        subst h2
        exact absurd (List.mem_of_getElem? h1) hn.1
      | succ j =>
        have : i = j := ih hn.2 (by simpa using h1) (by simpa using h2)
        omega
/-! the sets' items -/
theorem chK_count {its : List Itm} (hn : its.Nodup) (t : Nat) {k : Nat} (hk : k < its.length) (m : Nat) (hm : m ≤ its.length) : (chK its t m).count its[k] = if k < m ∧ t.testBit k = true then 1 else 0 := by
  induction m with
  | zero => simp [chK]
  | succ m ih =>
    rw [chK_succ (show m < its.length by omega), List.count_append, ih (by omega)]
    have hinj : its[m] = its[k] ↔ m = k := by
      constructor
      · intro e
        exact nodupAt hn (List.getElem?_eq_getElem (show m < its.length by omega)) (by rw [e]; exact List.getElem?_eq_getElem hk)
      · intro e; subst e; rfl
    by_cases hb : t.testBit m = true
    · rw [if_pos hb]
      by_cases e : m = k
      · subst e
        simp [hb]
      · have : ¬ its[m] = its[k] := fun h => e (hinj.1 h)
        have h2 : List.count its[k] [its[m]] = 0 := by simp [this]
        rw [h2]
        by_cases h3 : k < m
        · simp [h3, show k < m + 1 by omega]
        · simp [h3, show ¬ k < m + 1 by omega]
    · rw [if_neg hb, List.count_nil]
      by_cases e : k = m
      · subst e; simp [hb]
      · by_cases h3 : k < m
        · simp [h3, show k < m + 1 by omega]
        · simp [h3, show ¬ k < m + 1 by omega]
theorem chK_mem {its : List Itm} {t m : Nat} (hm : m ≤ its.length) : ∀ x ∈ chK its t m, x ∈ its := by
  induction m with
  | zero => intro x h; cases h
  | succ m ih =>
    intro x h
    rw [chK_succ (show m < its.length by omega), List.mem_append] at h
    rcases h with h | h
    · exact ih (by omega) x h
    · split at h
      · rw [List.mem_singleton] at h; rw [h]; exact List.getElem_mem _
      · cases h
theorem chK_full {its : List Itm} {t m : Nat} (hm : m ≤ its.length) (h : (chK its t m).length = m) : chK its t m = its.take m := by
  induction m with
  | zero => simp [chK]
  | succ m ih =>
    rw [chK_succ (show m < its.length by omega)] at h ⊢
    have hl := chK_len its t m
    split at h
    · rename_i hb
      rw [List.length_append, List.length_singleton] at h
      rw [if_pos hb, ih (by omega) (by omega), List.take_succ_eq_append_getElem (show m < its.length by omega)]
    · rw [List.append_nil] at h; omega
theorem chK_all {its : List Itm} {t m : Nat} (hm : m ≤ its.length) (h : ∀ k, k < m → t.testBit k = true) : chK its t m = its.take m := by
  induction m with
  | zero => simp [chK]
  | succ m ih =>
    rw [chK_succ (show m < its.length by omega), if_pos (h m (by omega)), ih (by omega) (fun k hk => h k (by omega)), List.take_succ_eq_append_getElem (show m < its.length by omega)]
theorem chF_full {its : List Itm} {t : Nat} (h : (chF its t).length = its.length) : chF its t = its := by
  have := chK_full (Nat.le_refl _) h
  rwa [List.take_length] at this
theorem chF_top (its : List Itm) : chF its (2 ^ its.length - 1) = its := by
  have := chK_all (its := its) (t := 2 ^ its.length - 1) (Nat.le_refl _) fun k hk => by rw [Nat.testBit_two_pow_sub_one]; simpa using hk
  rwa [List.take_length] at this
theorem count_flat (its : List Itm) (x : Itm) (D : List Nat) : ((D.map (chF its)).flatten).count x = (D.map fun t => (chF its t).count x).sum := by
  induction D with
  | nil => rfl
  | cons t D ih => rw [List.map_cons, List.flatten_cons, List.count_append, ih, List.map_cons, List.sum_cons]
/-- the rounds hold each item once -/
theorem rounds_perm {safe : Nat → Bool} {its : List Itm} (hn : its.Nodup) (h8 : its.length ≤ 8) (hr : rr safe (2 ^ its.length - 1) < 9) : ((divs safe (2 ^ its.length - 1)).map (chF its)).flatten.Perm its := by
  have hpow : (2 : Nat) ^ its.length ≤ 256 := Nat.le_trans (Nat.pow_le_pow_right (n := 2) (by decide) h8) (by decide)
  have hpos : 1 ≤ (2 : Nat) ^ its.length := Nat.two_pow_pos _
  obtain ⟨h1, h2⟩ := divs_ok safe _ (show 2 ^ its.length - 1 < 256 by omega) hr
  rw [List.perm_iff_count]
  intro x
  rw [count_flat]
  by_cases hx : x ∈ its
  · obtain ⟨k, hk, rfl⟩ := List.getElem_of_mem hx
    have hc : its.count its[k] = 1 := by rw [hn.count, if_pos hx]
    have h3 := h2 k (by rw [Nat.testBit_two_pow_sub_one]; simpa using hk)
    rw [hc]
    refine Eq.trans ?_ h3
    congr 1
    refine List.map_congr_left fun t _ => ?_
    have := chK_count hn t hk its.length (Nat.le_refl _)
    show (chK its t its.length).count its[k] = _
    rw [this]
    simp [hk]
  · rw [List.count_eq_zero_of_not_mem hx]
    have : ((divs safe (2 ^ its.length - 1)).map fun t => (chF its t).count x) = (divs safe (2 ^ its.length - 1)).map fun _ => 0 := List.map_congr_left fun t _ => List.count_eq_zero_of_not_mem fun hm => hx (chK_mem (Nat.le_refl _) x hm)
    rw [this]
    generalize divs safe (2 ^ its.length - 1) = D
    induction D with
    | nil => rfl
    | cons t D ih => rw [List.map_cons, List.sum_cons, ih]
theorem chF_some {its : List Itm} (hn : its.Nodup) {t : Nat} (h0 : t ≠ 0) (hb : ∀ k, t.testBit k = true → k < its.length) : (chF its t).length ≠ 0 := by
  intro hl
  obtain ⟨k, hk⟩ := Nat.exists_testBit_of_ne_zero h0
  have hk2 := hb k hk
  have := chK_count hn t hk2 its.length (Nat.le_refl _)
  rw [if_pos ⟨hk2, hk⟩] at this
  have e : chK its t its.length = [] := List.length_eq_zero_iff.1 hl
  rw [e] at this
  cases this
end Go.Proofs.YtbjfaepjpmogjaaDoor
