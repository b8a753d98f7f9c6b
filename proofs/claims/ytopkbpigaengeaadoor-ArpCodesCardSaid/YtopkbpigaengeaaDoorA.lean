/-
  Walks of small functions: Short, Mod, the check sum.
-/
import Derived.Test.YtopkbpigaengeaaDoorBase
namespace Go.Proofs.YtopkbpigaengeaaDoor
open Go.RowKit

def modf (v n : Int) : Int := if v.tmod n < 0 then v.tmod n + n else v.tmod n
theorem modf_neg {v n : Int} (h : v.tmod n < 0) : modf v n = v.tmod n + n := if_pos h
theorem modf_pos {v n : Int} (h : 0 ≤ v.tmod n) : modf v n = v.tmod n := if_neg (by omega)
theorem modf_bd (v n : Int) (hn : 1 ≤ n) : 0 ≤ modf v n ∧ modf v n < n := by
  have hb1 : v.tmod n < n := Int.tmod_lt_of_pos v (by omega)
  have hb2 : -n < v.tmod n := by have := Int.lt_tmod_of_pos v (b := n) (by omega); omega
  unfold modf; split <;> omega

set_option maxHeartbeats 400000 in
theorem mod_any (v n : Int) (w : World) (hn : 1 ≤ n) (hn2 : n ≤ 9223372036854775807) :
    Calls Tryd.prog 21 #[.int .i64 v, .int .i64 n] w fun e w' => e = .returned (.int .i64 (modf v n)) ∧ w = w' := by
  have hb1 : v.tmod n < n := Int.tmod_lt_of_pos v (by omega)
  have hb2 : -n < v.tmod n := by have := Int.lt_tmod_of_pos v (b := n) (by omega); omega
  go_enter Tryd.func21, Tryd.ntmps21
  go_wp2
  · have hlt : v.tmod n < 0 := by assumption
    go_ret
    exact ⟨ret_eq (modf_neg hlt).symm, rfl⟩
  · have hlt : 0 ≤ v.tmod n := by assumption
    go_ret
    exact ⟨ret_eq (modf_pos hlt).symm, rfl⟩

theorem mod_nat (v n : Int) (w : World) (hn : 1 ≤ n) (hn2 : n ≤ 9223372036854775807) :
    Calls Tryd.prog 21 #[.int .i64 v, .int .i64 n] w fun e w' => ∃ i : Nat, e = .returned (.int .i64 (i : Int)) ∧ (i : Int) < n ∧ w = w' := by
  refine (mod_any v n w hn hn2).mono ?_
  rintro e w' ⟨rfl, rfl⟩
  obtain ⟨h0, h1⟩ := modf_bd v n hn
  obtain ⟨i, hi⟩ := Int.eq_ofNat_of_zero_le h0
  exact ⟨i, by rw [hi], by omega, rfl⟩

set_option maxHeartbeats 400000 in
theorem short_any (A : Option Addr) (n c : Nat) (w : World) :
    Calls Tryd.prog 15 #[.slice A n c] w fun e w' => e = .returned (.bool (decide ((n : Int) ≤ 600))) ∧ w = w' := by
  go_enter Tryd.func15, Tryd.ntmps15
  go_wp2
  go_ret
  exact ⟨rfl, rfl⟩

/-! the check sum, as plain numbers -/
def accN (f : Nat → Int) : Nat → Int
  | 0 => 0
  | k + 1 => accN f k + (if k % 2 = 0 then f k * 256 else f k)
def foldS (n : Int) : Int := if n = 0 then 0 else (n - 1) % 65535 + 1
/-- element k -/
def gB (bs : List Int) (k : Nat) : Int := bs.getD k 0
def accL (bs : List Int) : Int := accN (gB bs) bs.length
def sumL (bs : List Int) : Int := 65535 - foldS (accL bs)
def IsB (bs : List Int) : Prop := ∀ x ∈ bs, 0 ≤ x ∧ x ≤ 255
def bytesV (bs : List Int) : List Value := bs.map (Value.int .u8)
theorem bytesV_get (bs : List Int) (k : Nat) (h : k < bs.length) : (bytesV bs)[k]? = some (.int .u8 (gB bs k)) := by
  simp [bytesV, gB, h]
theorem bytesV_len (bs : List Int) : (bytesV bs).length = bs.length := by simp [bytesV]
theorem IsB.at {bs : List Int} (h : IsB bs) (k : Nat) : 0 ≤ gB bs k ∧ gB bs k ≤ 255 := by
  unfold gB
  by_cases hk : k < bs.length
  · simp only [List.getD_eq_getElem?_getD, List.getElem?_eq_getElem hk, Option.getD_some]
    exact h _ (List.getElem_mem hk)
  · simp [List.getElem?_eq_none (Nat.le_of_not_lt hk)]
theorem accN_bd (f : Nat → Int) (k : Nat) (h : ∀ j, 0 ≤ f j ∧ f j ≤ 255) : 0 ≤ accN f k ∧ accN f k ≤ 65280 * k := by
  induction k with
  | zero => simp [accN]
  | succ k ih =>
    have h2 := h k
    unfold accN
    split <;> omega
theorem foldS_small {n : Int} (h0 : 0 ≤ n) (h : n ≤ 65535) : foldS n = n := by
  unfold foldS; split <;> omega
theorem foldS_step {n : Int} (h : 65535 < n) : foldS (n / 65536 + n % 65536) = foldS n := by
  unfold foldS; rw [if_neg (by omega), if_neg (by omega)]; omega
theorem sumL_bd {bs : List Int} (h : IsB bs) : 0 ≤ sumL bs ∧ sumL bs ≤ 65535 := by
  have := (accN_bd (gB bs) bs.length (fun j => h.at j)).1
  unfold sumL foldS accL; split <;> omega

/-- a function with one value changed -/
def upd (f : Nat → Int) (i : Nat) (x : Int) : Nat → Int := fun j => if j = i then x else f j
theorem upd_same (f : Nat → Int) (i : Nat) (x : Int) : upd f i x i = x := by simp [upd]
theorem upd_far (f : Nat → Int) {i j : Nat} (h : j ≠ i) (x : Int) : upd f i x j = f j := by simp [upd, h]
def wt (i : Nat) : Int := if i % 2 = 0 then 256 else 1
theorem accN_wt (f : Nat → Int) (k : Nat) : accN f (k + 1) = accN f k + wt k * f k := by
  unfold wt; rw [accN]; split <;> omega
theorem accN_congr {f g : Nat → Int} {k : Nat} (h : ∀ j, j < k → f j = g j) : accN f k = accN g k := by
  induction k with
  | zero => rfl
  | succ k ih => rw [accN, accN, ih (fun j hj => h j (by omega)), h k (by omega)]
theorem accN_upd (f : Nat → Int) (i : Nat) (x : Int) (n : Nat) (h : i < n) : accN (upd f i x) n = accN f n + wt i * (x - f i) := by
  induction n with
  | zero => omega
  | succ n ih =>
    rw [accN_wt, accN_wt]
    by_cases hi : i = n
    · subst hi
      rw [upd_same, accN_congr (g := f) (fun j hj => upd_far f (by omega) x), Int.mul_sub]
      omega
    · rw [ih (by omega), upd_far f (by omega)]
      omega
theorem gB_set (bs : List Int) (i : Nat) (x : Int) (h : i < bs.length) : gB (bs.set i x) = upd (gB bs) i x := by
  funext j
  unfold gB upd
  by_cases hj : j = i
  · subst hj; simp [List.getD, h]
  · simp [List.getD, List.getElem?_set, Ne.symm hj, hj]
theorem gB_append_left (xs ys : List Int) (j : Nat) (h : j < xs.length) : gB (xs ++ ys) j = gB xs j := by
  simp [gB, List.getD, List.getElem?_append_left h]
theorem accL_two (bs : List Int) (x y : Int) (h : bs.length % 2 = 0) : accL (bs ++ [x, y]) = accL bs + 256 * x + y := by
  unfold accL
  have hl : (bs ++ [x, y]).length = bs.length + 1 + 1 := by simp
  have e0 : gB (bs ++ [x, y]) bs.length = x := by simp [gB, List.getD]
  have e1 : gB (bs ++ [x, y]) (bs.length + 1) = y := by simp [gB, List.getD, List.getElem?_append]
  rw [hl, accN, accN, accN_congr (fun j hj => gB_append_left bs [x, y] j hj), e0, e1, if_pos h, if_neg (by omega)]
  omega
/-- the sum with its own sum is 0 -/
theorem sumL_self (bs : List Int) (hB : IsB bs) (h : bs.length % 2 = 0) : sumL (bs ++ [sumL bs / 256, sumL bs % 256]) = 0 := by
  have ha := (accN_bd (gB bs) bs.length (fun j => hB.at j)).1
  have e := accL_two bs (sumL bs / 256) (sumL bs % 256) h
  have e2 : accL (bs ++ [sumL bs / 256, sumL bs % 256]) = accL bs + sumL bs := by omega
  unfold sumL at e2 ⊢
  rw [e2]
  unfold foldS
  have : 0 ≤ accL bs := ha
  split <;> split <;> omega
/-- two words exchanged -/
def swapW (bs : List Int) (i k : Nat) : List Int :=
  (((bs.set (2 * i) (gB bs (2 * k))).set (2 * i + 1) (gB bs (2 * k + 1))).set (2 * k) (gB bs (2 * i))).set (2 * k + 1) (gB bs (2 * i + 1))
theorem sumL_swap (bs : List Int) (i k : Nat) (hi : 2 * i + 1 < bs.length) (hk : 2 * k + 1 < bs.length) : sumL (swapW bs i k) = sumL bs := by
  have e : accL (swapW bs i k) = accL bs := by
    unfold accL swapW
    simp only [List.length_set]
    rw [gB_set _ _ _ (by simpa using hk), gB_set _ _ _ (by simp; omega), gB_set _ _ _ (by simpa using hi), gB_set _ _ _ (by omega)]
    rw [accN_upd _ _ _ _ hk, accN_upd _ _ _ _ (by omega), accN_upd _ _ _ _ hi, accN_upd _ _ _ _ (by omega)]
    have w0 : ∀ j, wt (2 * j) = 256 := fun j => by unfold wt; rw [if_pos (by omega)]
    have w1 : ∀ j, wt (2 * j + 1) = 1 := fun j => by unfold wt; rw [if_neg (by omega)]
    rw [w0, w0, w1, w1]
    simp only [upd]
    (repeat' split) <;> omega
  unfold sumL; rw [e]

end Go.Proofs.YtopkbpigaengeaaDoor
