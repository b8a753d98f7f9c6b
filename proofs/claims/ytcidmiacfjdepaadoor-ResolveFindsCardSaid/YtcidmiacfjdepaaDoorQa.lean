/-
  Bytes, numbers of several bytes, addresses, check sums, packets: plain words and laws.
-/
import Derived.Test.YtcidmiacfjdepaaDoorDk
import Derived.Laws.Entries
import Derived.Laws.CopyOwn
import Derived.OpenShut
namespace Go.Proofs.YtcidmiacfjdepaaDoor
open Go.RowKit

def accN (f : Nat → Int) : Nat → Int
  | 0 => 0
  | k + 1 => accN f k + (if k % 2 = 0 then f k * 256 else f k)
def foldS (n : Int) : Int := if n = 0 then 0 else (n - 1) % 65535 + 1
/-- element k -/
def gB (bs : List Int) (k : Nat) : Int := bs.getD k 0
def accL (bs : List Int) : Int := accN (gB bs) bs.length
def sumL (bs : List Int) : Int := 65535 - foldS (accL bs)
def IsB (bs : List Int) : Prop := ∀ x ∈ bs, 0 ≤ x ∧ x ≤ 255
theorem IsB.at {bs : List Int} (h : IsB bs) (k : Nat) : 0 ≤ gB bs k ∧ gB bs k ≤ 255 := by
  unfold gB
  by_cases hk : k < bs.length
  · simp only [List.getD_eq_getElem?_getD, List.getElem?_eq_getElem hk, Option.getD_some]
    exact h _ (List.getElem_mem hk)
  · simp [List.getElem?_eq_none (Nat.le_of_not_lt hk)]
theorem accN_bd (f : Nat → Int) (k : Nat) (h : ∀ j, 0 ≤ f j ∧ f j ≤ 255) : 0 ≤ accN f k ∧ accN f k ≤ 65280 * k := by
  induction k with
  | zero => simp [accN]
  | succ k ih =>
    have h2 := h k
    unfold accN
    split <;> omega
theorem foldS_small {n : Int} (h0 : 0 ≤ n) (h : n ≤ 65535) : foldS n = n := by
  unfold foldS; split <;> omega
theorem foldS_step {n : Int} (h : 65535 < n) : foldS (n / 65536 + n % 65536) = foldS n := by
  unfold foldS; rw [if_neg (by omega), if_neg (by omega)]; omega
theorem sumL_bd {bs : List Int} (h : IsB bs) : 0 ≤ sumL bs ∧ sumL bs ≤ 65535 := by
  have := (accN_bd (gB bs) bs.length (fun j => h.at j)).1
  unfold sumL foldS accL; split <;> omega

/-- a function with one value changed -/
def upd (f : Nat → Int) (i : Nat) (x : Int) : Nat → Int := fun j => if j = i then x else f j
theorem upd_same (f : Nat → Int) (i : Nat) (x : Int) : upd f i x i = x := by simp [upd]
theorem upd_far (f : Nat → Int) {i j : Nat} (h : j ≠ i) (x : Int) : upd f i x j = f j := by simp [upd, h]
def wt (i : Nat) : Int := if i % 2 = 0 then 256 else 1
theorem accN_wt (f : Nat → Int) (k : Nat) : accN f (k + 1) = accN f k + wt k * f k := by
  unfold wt; rw [accN]; split <;> omega
theorem accN_congr {f g : Nat → Int} {k : Nat} (h : ∀ j, j < k → f j = g j) : accN f k = accN g k := by
  induction k with
  | zero => rfl
  | succ k ih => rw [accN, accN, ih (fun j hj => h j (by omega)), h k (by omega)]
theorem accN_upd (f : Nat → Int) (i : Nat) (x : Int) (n : Nat) (h : i < n) : accN (upd f i x) n = accN f n + wt i * (x - f i) := by
  induction n with
  | zero => omega
  | succ n ih =>
    rw [accN_wt, accN_wt]
    by_cases hi : i = n
    · subst hi
      rw [upd_same, accN_congr (g := f) (fun j hj => upd_far f (by omega) x), Int.mul_sub]
      omega
    · rw [ih (by omega), upd_far f (by omega)]
      omega
theorem gB_set (bs : List Int) (i : Nat) (x : Int) (h : i < bs.length) : gB (bs.set i x) = upd (gB bs) i x := by
  funext j
  unfold gB upd
  by_cases hj : j = i
  · subst hj; simp [List.getD, h]
  · simp [List.getD, Ne.symm hj, hj]
theorem gB_append_left (xs ys : List Int) (j : Nat) (h : j < xs.length) : gB (xs ++ ys) j = gB xs j := by
  simp [gB, List.getD, List.getElem?_append_left h]
theorem accL_two (bs : List Int) (x y : Int) (h : bs.length % 2 = 0) : accL (bs ++ [x, y]) = accL bs + 256 * x + y := by
  unfold accL
  have hl : (bs ++ [x, y]).length = bs.length + 1 + 1 := by simp
  have e0 : gB (bs ++ [x, y]) bs.length = x := by simp [gB, List.getD]
  have e1 : gB (bs ++ [x, y]) (bs.length + 1) = y := by simp [gB, List.getD]
  rw [hl, accN, accN, accN_congr (fun j hj => gB_append_left bs [x, y] j hj), e0, e1, if_pos h, if_neg (by omega)]
  omega
/-- the sum with its own sum is 0 -/
theorem sumL_self (bs : List Int) (hB : IsB bs) (h : bs.length % 2 = 0) : sumL (bs ++ [sumL bs / 256, sumL bs % 256]) = 0 := by
  have ha := (accN_bd (gB bs) bs.length (fun j => hB.at j)).1
  have e := accL_two bs (sumL bs / 256) (sumL bs % 256) h
  have e2 : accL (bs ++ [sumL bs / 256, sumL bs % 256]) = accL bs + sumL bs := by omega
  unfold sumL at e2 ⊢
  rw [e2]
  unfold foldS
  have : 0 ≤ accL bs := ha
  split <;> split <;> omega
structure Ad where
  v6 : Bool
  hi : Int
  lo : Int
/-- is it a valid address? -/
theorem IsB.append {xs ys : List Int} (h : IsB xs) (k : IsB ys) : IsB (xs ++ ys) := by
  intro y hy
  rcases List.mem_append.1 hy with h1 | h1
  · exact h y h1
  · exact k y h1
def validA (v6 : Bool) (hi lo : Int) : Bool := v6 || (hi == 0 && decide (lo < 4294967296))

/-- one more byte behind an address' number -/
def fbStep (a : Int × Int) (x : Int) : Int × Int := (bits .or .u64 (IntKind.u64.wrap (a.1 * 256)) (a.2 / 72057594037927936), bits .or .u64 (IntKind.u64.wrap (a.2 * 256)) x)
def fb (bs : List Int) : Int × Int := bs.foldl fbStep (0, 0)
theorem fb_snoc (bs : List Int) (k : Nat) (h : k < bs.length) : fb (bs.take (k + 1)) = fbStep (fb (bs.take k)) (gB bs k) := by
  unfold fb
  rw [List.take_succ_eq_append_getElem h, List.foldl_append]
  simp [gB, List.getD, h]
def U64 (x : Int) : Prop := 0 ≤ x ∧ x < 18446744073709551616
theorem u64_bits (op : BinOp) (x y : Int) : U64 (bits op .u64 x y) := by
  have := bounds_u64 (wf_bits op .u64 x y)
  unfold U64; omega
theorem fbStep_bd (a : Int × Int) (x : Int) : U64 (fbStep a x).1 ∧ U64 (fbStep a x).2 := by
  simp only [fbStep]
  exact ⟨u64_bits _ _ _, u64_bits _ _ _⟩
theorem fb_bd (bs : List Int) : U64 (fb bs).1 ∧ U64 (fb bs).2 := by
  unfold fb
  rw [← List.foldr_reverse]
  generalize bs.reverse = l
  cases l with
  | nil => unfold U64; simp
  | cons x l =>
    simp only [List.foldr_cons]
    exact fbStep_bd _ _

/-- byte i of a number, from the least on -/
def byteN (N : Int) (i : Nat) : Int := N / 256 ^ i % 256
/-- n bytes, the greatest first -/
def beN (n : Nat) (N : Int) : List Int := (List.range n).map fun p => byteN N (n - 1 - p)
/-- the bytes of a valid address -/
def addrB (v6 : Bool) (hi lo : Int) : List Int := beN (if v6 then 16 else 4) (hi * 18446744073709551616 + lo)
theorem addrB_len (v6 : Bool) (hi lo : Int) : (addrB v6 hi lo).length = if v6 then 16 else 4 := by unfold addrB; simp [beN]
theorem byteN_bd (N : Int) (i : Nat) : 0 ≤ byteN N i ∧ byteN N i ≤ 255 := by unfold byteN; omega
theorem beN_len (n : Nat) (N : Int) : (beN n N).length = n := by simp [beN]
theorem beN_isB (n : Nat) (N : Int) : IsB (beN n N) := by
  intro x hx
  simp only [beN, List.mem_map] at hx
  obtain ⟨p, _, rfl⟩ := hx
  exact byteN_bd _ _

theorem u64_or_split {hi lo : Int} (_h0 : 0 ≤ hi) (l0 : 0 ≤ lo) (l1 : lo < 18446744073709551616) :
    bits .or .u64 (lo / 256) (IntKind.u64.wrap (hi * 72057594037927936)) = lo / 256 + hi % 256 * 72057594037927936 := by
  have e : IntKind.u64.wrap (hi * 72057594037927936) = hi % 256 * 72057594037927936 := by rw [IntKind.wrap_u64]; omega
  rw [e]
  obtain ⟨a, ha⟩ := Int.eq_ofNat_of_zero_le (show 0 ≤ lo / 256 by omega)
  obtain ⟨b, hb⟩ := Int.eq_ofNat_of_zero_le (show 0 ≤ hi % 256 by omega)
  rw [ha, hb]
  have hb1 : (b : Int) * 72057594037927936 = ((2 ^ 56 * b : Nat) : Int) := by omega
  rw [hb1, u64_or_nat a (2 ^ 56 * b) (by omega) (by omega), Nat.or_comm, ← Nat.two_pow_add_eq_or_of_lt (i := 56) (by omega) b]
  omega

theorem beN_N (hi lo : Int) (_l0 : 0 ≤ lo) (_l1 : lo < 18446744073709551616) : (hi * 18446744073709551616 + lo) / 256 = hi / 256 * 18446744073709551616 + (lo / 256 + hi % 256 * 72057594037927936) := by omega
theorem div_succ (N : Int) (j : Nat) : N / 256 ^ (j + 1) = N / 256 ^ j / 256 := by
  rw [Int.pow_succ, Int.ediv_ediv_of_nonneg (Int.le_of_lt (Int.pow_pos (by decide)))]

/-- the first j of n bytes -/
def preB (n j : Nat) (N : Int) : List Int := (List.range j).map fun p => byteN N (n - 1 - p)
theorem preB_len (n j : Nat) (N : Int) : (preB n j N).length = j := by simp [preB]
theorem preB_snoc (n j : Nat) (N : Int) : preB n (j + 1) N = preB n j N ++ [byteN N (n - 1 - j)] := by simp [preB, List.range_succ]

theorem byteN_at (hi lo : Int) (l1 : 0 ≤ lo) (l2 : lo < 18446744073709551616) (i : Nat) (h : i < 16) :
    (if 8 ≤ i then hi else lo) / 2 ^ (8 * (i % 8)) % 256 = byteN (hi * 18446744073709551616 + lo) i := by
  unfold byteN
  obtain rfl | rfl | rfl | rfl | rfl | rfl | rfl | rfl | rfl | rfl | rfl | rfl | rfl | rfl | rfl | rfl : i = 0 ∨ i = 1 ∨ i = 2 ∨ i = 3 ∨ i = 4 ∨ i = 5 ∨ i = 6 ∨ i = 7 ∨ i = 8 ∨ i = 9 ∨ i = 10 ∨ i = 11 ∨ i = 12 ∨ i = 13 ∨ i = 14 ∨ i = 15 := by omega
  all_goals (simp; try omega)

def mostP (v6 : Bool) : Int := if v6 then 1460 else 1480
def validP (s d : Ad) (p t : Int) (n : Nat) : Bool :=
  validA s.v6 s.hi s.lo && (validA d.v6 d.hi d.lo && ((s.v6 == d.v6) && (decide (0 ≤ p) && (decide (p ≤ 255) && (decide (0 ≤ t) && (decide (t ≤ 255) && decide ((n : Int) ≤ mostP s.v6)))))))

/-- the bytes of a packet with V6 -/
def enc6 (s d : Ad) (p t : Int) (n : Nat) (bs : List Int) : List Int := [96, 0, 0, 0, (n : Int) / 256 % 256, (n : Int) % 256, p, t] ++ (addrB s.v6 s.hi s.lo ++ addrB d.v6 d.hi d.lo) ++ bs
/-- the header of a packet without V6, its sum still 0 -/
def head4 (s d : Ad) (p t : Int) (n : Nat) : List Int := [69, 0, (20 + (n : Int)) / 256 % 256, (20 + (n : Int)) % 256, 0, 0, 64, 0, t, p, 0, 0] ++ (addrB s.v6 s.hi s.lo ++ addrB d.v6 d.hi d.lo)
def setSum (h : List Int) : List Int := splice h 10 [sumL h / 256 % 256, sumL h % 256]
def encP (s d : Ad) (p t : Int) (n : Nat) (bs : List Int) : List Int := if s.v6 then enc6 s d p t n bs else setSum (head4 s d p t n) ++ bs

def U8 (x : Int) : Prop := 0 ≤ x ∧ x ≤ 255
theorem wrap8 {x : Int} (h : 0 ≤ x ∧ x ≤ 255) : IntKind.u8.wrap x = x := by rw [IntKind.wrap_u8']; omega

theorem head4_isB (s d : Ad) {p t : Int} {n : Nat} (hp : 0 ≤ p ∧ p ≤ 255) (ht : 0 ≤ t ∧ t ≤ 255) (_hn : n ≤ 1480) : IsB (head4 s d p t n) := by
  unfold head4
  refine IsB.append ?_ ((beN_isB _ _).append (beN_isB _ _))
  intro x hx
  simp only [List.mem_cons, List.not_mem_nil, or_false] at hx
  rcases hx with rfl | rfl | rfl | rfl | rfl | rfl | rfl | rfl | rfl | rfl | rfl | rfl <;> omega
/-- the length of a header, as its first byte says -/
def hd4 (bs : List Int) : Int := gB bs 0 % 16 * 4
def wh4 (bs : List Int) : Int := gB bs 2 * 256 + gB bs 3
/-- what reading a packet without V6 answers -/
def code4 (n : Nat) (bs : List Int) : Int :=
  if n < 20 then 4 else if hd4 bs < 20 ∨ wh4 bs < hd4 bs then 5 else if (n : Int) < wh4 bs then 4 else if sumL (bs.take (hd4 bs).toNat) ≠ 0 then 6 else if (gB bs 6 * 256 + gB bs 7) % 16384 ≠ 0 then 5 else 0

/-- a packet that was read -/
structure Rd where
  s : Ad
  d : Ad
  p : Int
  t : Int
  bs : List Int
def Rd.valid (r : Rd) : Bool := validP r.s r.d r.p r.t r.bs.length
def code6 (n : Nat) (bs : List Int) : Int := if n < 40 ∨ (n : Int) < 40 + (gB bs 4 * 256 + gB bs 5) then 4 else 0
def rd4 (bs : List Int) : Rd := ⟨⟨false, (fb ((bs.drop 12).take 4)).1, (fb ((bs.drop 12).take 4)).2⟩, ⟨false, (fb ((bs.drop 16).take 4)).1, (fb ((bs.drop 16).take 4)).2⟩, gB bs 9, gB bs 8, (bs.take (wh4 bs).toNat).drop (hd4 bs).toNat⟩
def rd6 (bs : List Int) : Rd := ⟨⟨true, (fb ((bs.drop 8).take 16)).1, (fb ((bs.drop 8).take 16)).2⟩, ⟨true, (fb ((bs.drop 24).take 16)).1, (fb ((bs.drop 24).take 16)).2⟩, gB bs 6, gB bs 7, (bs.drop 40).take (gB bs 4 * 256 + gB bs 5).toNat⟩
def codeR (bs : List Int) : Int := if bs.length = 0 then 4 else if gB bs 0 / 16 = 4 then code4 bs.length bs else if gB bs 0 / 16 = 6 then code6 bs.length bs else 5
def rdP (bs : List Int) : Rd := if gB bs 0 / 16 = 4 then rd4 bs else rd6 bs
/-- what reading a packet answers -/
def codeD (bs : List Int) : Int := if codeR bs = 0 then (if (rdP bs).valid then 0 else 3) else codeR bs


theorem u64_shl8 {a x : Int} (ha : U64 a) (hx : 0 ≤ x ∧ x ≤ 255) : bits .or .u64 (IntKind.u64.wrap (a * 256)) x = a % 72057594037927936 * 256 + x := by
  have ha1 : 0 ≤ a := ha.1
  have e : IntKind.u64.wrap (a * 256) = a % 72057594037927936 * 256 := by rw [IntKind.wrap_u64]; omega
  rw [e]
  obtain ⟨p, hp⟩ := Int.eq_ofNat_of_zero_le (show 0 ≤ a % 72057594037927936 by omega)
  obtain ⟨q, hq⟩ := Int.eq_ofNat_of_zero_le hx.1
  rw [hp, hq]
  have hb1 : (p : Int) * 256 = ((2 ^ 8 * p : Nat) : Int) := by omega
  rw [hb1, u64_or_nat (2 ^ 8 * p) q (by omega) (by omega), ← Nat.two_pow_add_eq_or_of_lt (i := 8) (by omega) p]
  omega
theorem fbStep_val {a : Int × Int} {x : Int} (h1 : U64 a.1) (h2 : U64 a.2) (hx : 0 ≤ x ∧ x ≤ 255) :
    (fbStep a x).1 * 18446744073709551616 + (fbStep a x).2 = ((a.1 * 18446744073709551616 + a.2) * 256 + x) % 340282366920938463463374607431768211456 := by
  obtain ⟨h, l⟩ := a
  simp only at h1 h2
  have e1 : (fbStep (h, l) x).1 = h % 72057594037927936 * 256 + l / 72057594037927936 := u64_shl8 h1 (by unfold U64 at h2; omega)
  have e2 : (fbStep (h, l) x).2 = l % 72057594037927936 * 256 + x := u64_shl8 h2 hx
  rw [e1, e2]
  unfold U64 at h1 h2
  simp only
  omega
theorem beN_take (n k : Nat) (N : Int) (h : k < n) : gB (beN n N) k = byteN N (n - 1 - k) := by
  unfold gB beN
  simp [List.getD, h]
theorem pow_le_big {n : Nat} (h : n ≤ 16) : (256 : Int) ^ n ≤ 340282366920938463463374607431768211456 := by
  have : (256 : Nat) ^ n ≤ 256 ^ 16 := Nat.pow_le_pow_right (by omega) h
  have e : ((256 : Nat) ^ n : Int) = (256 : Int) ^ n := by simp
  omega
theorem fb_beN (n : Nat) (N : Int) (hn : n ≤ 16) (h0 : 0 ≤ N) (h1 : N < 256 ^ n) : ∀ k, k ≤ n → (fb ((beN n N).take k)).1 * 18446744073709551616 + (fb ((beN n N).take k)).2 = N / 256 ^ (n - k) := by
  have hb := pow_le_big hn
  intro k
  induction k with
  | zero =>
    intro _
    simp [fb]
    rw [Int.ediv_eq_zero_of_lt h0 h1]
  | succ k ih =>
    intro hk
    have ihk := ih (by omega)
    have hl : k < (beN n N).length := by rw [beN_len]; omega
    rw [fb_snoc _ _ hl]
    obtain ⟨b1, b2⟩ := fb_bd ((beN n N).take k)
    have hx : 0 ≤ gB (beN n N) k ∧ gB (beN n N) k ≤ 255 := (beN_isB n N).at k
    rw [fbStep_val b1 b2 hx, ihk, beN_take n k N (by omega)]
    have e : n - k = (n - (k + 1)) + 1 := by omega
    have e2 : n - 1 - k = n - (k + 1) := by omega
    rw [e, div_succ, e2]
    unfold byteN
    have hX0 : 0 ≤ N / 256 ^ (n - (k + 1)) := Int.ediv_nonneg h0 (Int.le_of_lt (Int.pow_pos (by decide)))
    have hX1 : N / 256 ^ (n - (k + 1)) ≤ N := Int.ediv_le_self _ h0
    generalize N / 256 ^ (n - (k + 1)) = X at *
    omega
theorem fb_addrB {v6 : Bool} {hi lo : Int} (hv : validA v6 hi lo = true) (h1 : U64 hi) (h2 : U64 lo) : fb (addrB v6 hi lo) = (hi, lo) := by
  unfold U64 at h1 h2
  obtain ⟨b1, b2⟩ := fb_bd (addrB v6 hi lo)
  unfold U64 at b1 b2
  have hf : addrB v6 hi lo = beN (if v6 then 16 else 4) (hi * 18446744073709551616 + lo) := rfl
  rw [hf] at b1 b2 ⊢
  have key : (fb (beN (if v6 then 16 else 4) (hi * 18446744073709551616 + lo))).1 * 18446744073709551616 + (fb (beN (if v6 then 16 else 4) (hi * 18446744073709551616 + lo))).2 = hi * 18446744073709551616 + lo := by
    cases v6 with
    | true =>
      have hp : (256 : Int) ^ 16 = 340282366920938463463374607431768211456 := by decide
      have := fb_beN 16 (hi * 18446744073709551616 + lo) (by omega) (by omega) (by omega) 16 (by omega)
      rw [List.take_of_length_le (by rw [beN_len]; omega)] at this
      simpa using this
    | false =>
      simp [validA] at hv
      have hp : (256 : Int) ^ 4 = 4294967296 := by decide
      have := fb_beN 4 (hi * 18446744073709551616 + lo) (by omega) (by omega) (by omega) 4 (by omega)
      rw [List.take_of_length_le (by rw [beN_len]; omega)] at this
      simpa using this
  generalize fb (beN (if v6 then 16 else 4) (hi * 18446744073709551616 + lo)) = r at *
  obtain ⟨x, y⟩ := r
  simp only at *
  have e1 : x = hi := by omega
  have e2 : y = lo := by omega
  rw [e1, e2]

theorem foldS_full {n : Int} (h : 0 ≤ n) : foldS (n + (65535 - foldS n)) = 65535 := by
  unfold foldS
  split <;> split <;> omega
theorem splice_set (h : List Int) (x y : Int) (hl : 12 ≤ h.length) : splice h 10 [x, y] = (h.set 10 x).set 11 y := by
  apply List.ext_getElem?
  intro j
  unfold splice
  rw [List.getElem?_append, List.getElem?_set, List.getElem?_set]
  simp only [List.length_take, List.length_set, List.getElem?_take, List.length_cons, List.length_nil]
  rw [Nat.min_eq_left (by omega)]
  by_cases h1 : j < 10
  · simp [h1]
    rw [if_neg (by omega), if_neg (by omega)]
  · simp only [h1, if_false]
    rcases Nat.lt_or_ge j 12 with h2 | h2
    · have : j = 10 ∨ j = 11 := by omega
      rcases this with rfl | rfl
      · have : 10 < h.length := by omega
        simp [this]
      · have : 11 < h.length := by omega
        simp [this]
    · rw [if_neg (by omega), if_neg (by omega), List.getElem?_append_right (by simp; omega), List.getElem?_drop]
      simp
      congr 1
      omega
theorem sumL_setSum (h : List Int) (hB : IsB h) (hl : 12 ≤ h.length) (z0 : gB h 10 = 0) (z1 : gB h 11 = 0) : sumL (setSum h) = 0 := by
  have hs := sumL_bd hB
  unfold setSum
  rw [splice_set _ _ _ hl]
  have e : accL ((h.set 10 (sumL h / 256 % 256)).set 11 (sumL h % 256)) = accL h + sumL h := by
    unfold accL
    rw [List.length_set, List.length_set, gB_set _ _ _ (by simp; omega), gB_set _ _ _ (by omega), accN_upd _ _ _ _ (by omega), accN_upd _ _ _ _ (by omega), upd_far _ (by omega), z0, z1]
    simp [wt]
    omega
  have e2 : sumL h = 65535 - foldS (accL h) := rfl
  have e3 : sumL ((h.set 10 (sumL h / 256 % 256)).set 11 (sumL h % 256)) = 65535 - foldS (accL h + sumL h) := by rw [← e]; rfl
  rw [e3, e2, foldS_full (n := accL h) (accN_bd (gB h) h.length (fun j => hB.at j)).1]
  omega

theorem valid_parts {s d : Ad} {p t : Int} {n : Nat} (h : validP s d p t n = true) : validA s.v6 s.hi s.lo = true ∧ validA d.v6 d.hi d.lo = true ∧ s.v6 = d.v6 ∧ (0 ≤ p ∧ p ≤ 255) ∧ (0 ≤ t ∧ t ≤ 255) ∧ (n : Int) ≤ mostP s.v6 := by
  unfold validP at h
  simp only [Bool.and_eq_true, decide_eq_true_eq, beq_iff_eq] at h
  obtain ⟨h1, h2, h3, h4, h5, h6, h7, h8⟩ := h
  exact ⟨h1, h2, h3, ⟨h4, h5⟩, ⟨h6, h7⟩, h8⟩
theorem most_le (v6 : Bool) : mostP v6 ≤ 1480 := by cases v6 <;> decide

theorem back6 {s d : Ad} {p t : Int} {bs more : List Int} (hv : validP s d p t bs.length = true) (hs1 : U64 s.hi) (hs2 : U64 s.lo) (hd1 : U64 d.hi) (hd2 : U64 d.lo) (h6 : s.v6 = true) :
    codeR (enc6 s d p t bs.length bs ++ more) = 0 ∧ rdP (enc6 s d p t bs.length bs ++ more) = ⟨s, d, p, t, bs⟩ := by
  obtain ⟨va, vb, hvv, hp, ht, hm⟩ := valid_parts hv
  have hm2 := most_le s.v6
  obtain ⟨sv, sh, sl⟩ := s
  obtain ⟨dv, dh, dl⟩ := d
  simp only at *
  subst hvv h6
  have fa := fb_addrB va hs1 hs2
  have fc := fb_addrB vb hd1 hd2
  have la : (addrB true sh sl).length = 16 := addrB_len _ _ _
  have lb : (addrB true dh dl).length = 16 := addrB_len _ _ _
  unfold enc6
  generalize hA : addrB true sh sl = A at *
  generalize hBv : addrB true dh dl = B at *
  have hlen : (([96, 0, 0, 0, (bs.length : Int) / 256 % 256, (bs.length : Int) % 256, p, t] ++ (A ++ B) ++ bs) ++ more).length = 40 + bs.length + more.length := by simp [la, lb] <;> omega
  have e8 : ((([96, 0, 0, 0, (bs.length : Int) / 256 % 256, (bs.length : Int) % 256, p, t] ++ (A ++ B) ++ bs) ++ more).drop 8) = A ++ (B ++ (bs ++ more)) := by simp
  have e24 : ((([96, 0, 0, 0, (bs.length : Int) / 256 % 256, (bs.length : Int) % 256, p, t] ++ (A ++ B) ++ bs) ++ more).drop 24) = B ++ (bs ++ more) := by
    rw [show 24 = 8 + 16 from rfl, ← List.drop_drop, e8, ← la, List.drop_left]
  have e40 : ((([96, 0, 0, 0, (bs.length : Int) / 256 % 256, (bs.length : Int) % 256, p, t] ++ (A ++ B) ++ bs) ++ more).drop 40) = bs ++ more := by
    rw [show 40 = 24 + 16 from rfl, ← List.drop_drop, e24, ← lb, List.drop_left]
  have g0 : gB (([96, 0, 0, 0, (bs.length : Int) / 256 % 256, (bs.length : Int) % 256, p, t] ++ (A ++ B) ++ bs) ++ more) 0 = 96 := by simp [gB]
  have g4 : gB (([96, 0, 0, 0, (bs.length : Int) / 256 % 256, (bs.length : Int) % 256, p, t] ++ (A ++ B) ++ bs) ++ more) 4 * 256 + gB (([96, 0, 0, 0, (bs.length : Int) / 256 % 256, (bs.length : Int) % 256, p, t] ++ (A ++ B) ++ bs) ++ more) 5 = (bs.length : Int) := by
    simp [gB]; omega
  have g6 : gB (([96, 0, 0, 0, (bs.length : Int) / 256 % 256, (bs.length : Int) % 256, p, t] ++ (A ++ B) ++ bs) ++ more) 6 = p := by simp [gB]
  have g7 : gB (([96, 0, 0, 0, (bs.length : Int) / 256 % 256, (bs.length : Int) % 256, p, t] ++ (A ++ B) ++ bs) ++ more) 7 = t := by simp [gB]
  generalize ([96, 0, 0, 0, (bs.length : Int) / 256 % 256, (bs.length : Int) % 256, p, t] ++ (A ++ B) ++ bs) ++ more = L at *
  constructor
  · unfold codeR code6
    rw [g0, g4, hlen, if_neg (by omega), if_neg (by decide), if_pos (by decide), if_neg (by omega)]
  · unfold rdP rd6
    rw [g0, if_neg (by decide), g4, g6, g7, e8, e24, e40, ← la, List.take_left, la, ← lb, List.take_left, fa, fc, Int.toNat_natCast, List.take_left]

theorem set4 (s d : Ad) (p t : Int) (n : Nat) : setSum (head4 s d p t n) = [69, 0, (20 + (n : Int)) / 256 % 256, (20 + (n : Int)) % 256, 0, 0, 64, 0, t, p, sumL (head4 s d p t n) / 256 % 256, sumL (head4 s d p t n) % 256] ++ (addrB s.v6 s.hi s.lo ++ addrB d.v6 d.hi d.lo) := by
  unfold setSum
  generalize sumL (head4 s d p t n) = S
  unfold head4 splice
  simp
theorem back4 {s d : Ad} {p t : Int} {bs more : List Int} (hv : validP s d p t bs.length = true) (hs1 : U64 s.hi) (hs2 : U64 s.lo) (hd1 : U64 d.hi) (hd2 : U64 d.lo) (h6 : s.v6 = false) :
    codeR ((setSum (head4 s d p t bs.length) ++ bs) ++ more) = 0 ∧ rdP ((setSum (head4 s d p t bs.length) ++ bs) ++ more) = ⟨s, d, p, t, bs⟩ := by
  obtain ⟨va, vb, hvv, hp, ht, hm⟩ := valid_parts hv
  have hm2 := most_le s.v6
  have hB4 := head4_isB s d hp ht (n := bs.length) (by omega)
  have hz := sumL_setSum (head4 s d p t bs.length) hB4 (by unfold head4; simp) (by simp [head4, gB]) (by simp [head4, gB])
  have la : (addrB s.v6 s.hi s.lo).length = 4 := by rw [addrB_len, h6]; rfl
  have lb : (addrB d.v6 d.hi d.lo).length = 4 := by rw [addrB_len, ← hvv, h6]; rfl
  have fa := fb_addrB va hs1 hs2
  have fc := fb_addrB vb hd1 hd2
  rw [set4] at hz ⊢
  generalize sumL (head4 s d p t bs.length) / 256 % 256 = S1 at *
  generalize sumL (head4 s d p t bs.length) % 256 = S2 at *
  obtain ⟨sv, sh, sl⟩ := s
  obtain ⟨dv, dh, dl⟩ := d
  simp only at *
  subst hvv h6
  generalize hA : addrB false sh sl = A at *
  generalize hBv : addrB false dh dl = B at *
  have hlen : (([69, 0, (20 + (bs.length : Int)) / 256 % 256, (20 + (bs.length : Int)) % 256, 0, 0, 64, 0, t, p, S1, S2] ++ (A ++ B) ++ bs) ++ more).length = 20 + bs.length + more.length := by simp [la, lb] <;> omega
  have e12 : ((([69, 0, (20 + (bs.length : Int)) / 256 % 256, (20 + (bs.length : Int)) % 256, 0, 0, 64, 0, t, p, S1, S2] ++ (A ++ B) ++ bs) ++ more).drop 12) = A ++ (B ++ (bs ++ more)) := by simp
  have e16 : ((([69, 0, (20 + (bs.length : Int)) / 256 % 256, (20 + (bs.length : Int)) % 256, 0, 0, 64, 0, t, p, S1, S2] ++ (A ++ B) ++ bs) ++ more).drop 16) = B ++ (bs ++ more) := by
    rw [show 16 = 12 + 4 from rfl, ← List.drop_drop, e12, ← la, List.drop_left]
  have e20 : ((([69, 0, (20 + (bs.length : Int)) / 256 % 256, (20 + (bs.length : Int)) % 256, 0, 0, 64, 0, t, p, S1, S2] ++ (A ++ B) ++ bs) ++ more).drop 20) = bs ++ more := by
    rw [show 20 = 16 + 4 from rfl, ← List.drop_drop, e16, ← lb, List.drop_left]
  have t20 : ((([69, 0, (20 + (bs.length : Int)) / 256 % 256, (20 + (bs.length : Int)) % 256, 0, 0, 64, 0, t, p, S1, S2] ++ (A ++ B) ++ bs) ++ more).take 20) = [69, 0, (20 + (bs.length : Int)) / 256 % 256, (20 + (bs.length : Int)) % 256, 0, 0, 64, 0, t, p, S1, S2] ++ (A ++ B) := by
    rw [List.append_assoc _ bs more]
    exact List.take_left' (by simp [la, lb])
  have g0 : gB (([69, 0, (20 + (bs.length : Int)) / 256 % 256, (20 + (bs.length : Int)) % 256, 0, 0, 64, 0, t, p, S1, S2] ++ (A ++ B) ++ bs) ++ more) 0 = 69 := by simp [gB]
  have g2 : wh4 (([69, 0, (20 + (bs.length : Int)) / 256 % 256, (20 + (bs.length : Int)) % 256, 0, 0, 64, 0, t, p, S1, S2] ++ (A ++ B) ++ bs) ++ more) = ((20 + bs.length : Nat) : Int) := by
    simp [wh4, gB]; omega
  have g6 : (gB (([69, 0, (20 + (bs.length : Int)) / 256 % 256, (20 + (bs.length : Int)) % 256, 0, 0, 64, 0, t, p, S1, S2] ++ (A ++ B) ++ bs) ++ more) 6 * 256 + gB (([69, 0, (20 + (bs.length : Int)) / 256 % 256, (20 + (bs.length : Int)) % 256, 0, 0, 64, 0, t, p, S1, S2] ++ (A ++ B) ++ bs) ++ more) 7) % 16384 = 0 := by simp [gB]
  have g8 : gB (([69, 0, (20 + (bs.length : Int)) / 256 % 256, (20 + (bs.length : Int)) % 256, 0, 0, 64, 0, t, p, S1, S2] ++ (A ++ B) ++ bs) ++ more) 8 = t := by simp [gB]
  have g9 : gB (([69, 0, (20 + (bs.length : Int)) / 256 % 256, (20 + (bs.length : Int)) % 256, 0, 0, 64, 0, t, p, S1, S2] ++ (A ++ B) ++ bs) ++ more) 9 = p := by simp [gB]
  rw [← t20] at hz
  have hbl : ((([69, 0, (20 + (bs.length : Int)) / 256 % 256, (20 + (bs.length : Int)) % 256, 0, 0, 64, 0, t, p, S1, S2] ++ (A ++ B) ++ bs) ++ more).take (20 + bs.length)).drop 20 = bs := by
    rw [List.drop_take, e20, Nat.add_sub_cancel_left, List.take_left]
  generalize ([69, 0, (20 + (bs.length : Int)) / 256 % 256, (20 + (bs.length : Int)) % 256, 0, 0, 64, 0, t, p, S1, S2] ++ (A ++ B) ++ bs) ++ more = L at *
  have gh : hd4 L = 20 := by unfold hd4; rw [g0]; decide
  constructor
  · unfold codeR code4
    rw [g0, gh, g2, hlen, if_neg (by omega), if_pos (by decide), if_neg (by omega), if_neg (by omega), if_neg (by omega)]
    rw [show (20 : Int).toNat = 20 from rfl, if_neg (by simpa using hz), if_neg (by simpa using g6)]
  · unfold rdP rd4
    rw [g0, if_pos (by decide), gh, g2, g8, g9, e12, e16, ← la, List.take_left, la, ← lb, List.take_left, fa, fc, Int.toNat_natCast, show (20 : Int).toNat = 20 from rfl, hbl]

theorem back_all {s d : Ad} {p t : Int} {bs more : List Int} (hv : validP s d p t bs.length = true) (hs1 : U64 s.hi) (hs2 : U64 s.lo) (hd1 : U64 d.hi) (hd2 : U64 d.lo) :
    codeD (encP s d p t bs.length bs ++ more) = 0 ∧ rdP (encP s d p t bs.length bs ++ more) = ⟨s, d, p, t, bs⟩ := by
  have key : codeR (encP s d p t bs.length bs ++ more) = 0 ∧ rdP (encP s d p t bs.length bs ++ more) = ⟨s, d, p, t, bs⟩ := by
    unfold encP
    cases h6 : s.v6 with
    | true => rw [if_pos rfl]; exact back6 hv hs1 hs2 hd1 hd2 h6
    | false => rw [if_neg (by decide)]; exact back4 hv hs1 hs2 hd1 hd2 h6
  refine ⟨?_, key.2⟩
  unfold codeD
  rw [if_pos key.1, key.2]
  exact if_pos hv

def flipB (x : Int) (j : Nat) : Int := ((x.toNat ^^^ 2 ^ j : Nat) : Int)
theorem flipB_near : ∀ x : Nat, x < 256 → ∀ j : Nat, j < 8 → (x ^^^ 2 ^ j = x + 2 ^ j ∨ (x ^^^ 2 ^ j) + 2 ^ j = x) ∧ (x ^^^ 2 ^ j) < 256 := by
  decide +kernel
theorem flipB_bd {x : Int} (hx : 0 ≤ x ∧ x ≤ 255) {j : Nat} (hj : j < 8) : (flipB x j = x + 2 ^ j ∨ flipB x j = x - 2 ^ j) ∧ (0 ≤ flipB x j ∧ flipB x j ≤ 255) ∧ ((2 : Int) ^ j = 1 ∨ (2 : Int) ^ j = 2 ∨ (2 : Int) ^ j = 4 ∨ (2 : Int) ^ j = 8 ∨ (2 : Int) ^ j = 16 ∨ (2 : Int) ^ j = 32 ∨ (2 : Int) ^ j = 64 ∨ (2 : Int) ^ j = 128) := by
  obtain ⟨a, rfl⟩ := Int.eq_ofNat_of_zero_le hx.1
  have h := flipB_near a (by omega) j hj
  have e : ((2 : Int) ^ j) = ((2 ^ j : Nat) : Int) := by simp
  refine ⟨?_, ?_, ?_⟩
  · unfold flipB
    rw [e, Int.toNat_natCast]
    omega
  · unfold flipB
    rw [Int.toNat_natCast]
    omega
  · have : j = 0 ∨ j = 1 ∨ j = 2 ∨ j = 3 ∨ j = 4 ∨ j = 5 ∨ j = 6 ∨ j = 7 := by omega
    rcases this with rfl | rfl | rfl | rfl | rfl | rfl | rfl | rfl <;> simp
theorem wt_or (i : Nat) : wt i = 256 ∨ wt i = 1 := by unfold wt; split <;> simp
theorem foldS_zero {n : Int} (_h0 : 0 ≤ n) (h : foldS n = 65535) : n % 65535 = 0 := by
  unfold foldS at h
  split at h <;> omega
theorem sum_flip {h : List Int} (hB : IsB h) (hz : sumL h = 0) {i : Nat} (hi : i < h.length) {x : Int} (hx : 0 ≤ x ∧ x ≤ 255) {j : Nat} (hj : j < 8) (he : x = gB h i + 2 ^ j ∨ x = gB h i - 2 ^ j) : sumL (h.set i x) ≠ 0 := by
  intro hz2
  obtain ⟨-, -, hp⟩ := flipB_bd (x := 0) (by omega) hj
  have a0 := (accN_bd (gB h) h.length (fun k => hB.at k)).1
  have e : accL (h.set i x) = accL h + wt i * (x - gB h i) := by
    unfold accL
    rw [List.length_set, gB_set _ _ _ hi, accN_upd _ _ _ _ hi]
  have hB2 : IsB (h.set i x) := by
    intro y hy
    rcases List.mem_or_eq_of_mem_set hy with h1 | h1
    · exact hB y h1
    · rw [h1]; exact hx
  have b0 := (accN_bd (gB (h.set i x)) (h.set i x).length (fun k => hB2.at k)).1
  have m1 := foldS_zero (n := accL h) a0 (by unfold sumL at hz; omega)
  have m2 := foldS_zero (n := accL (h.set i x)) b0 (by unfold sumL at hz2; omega)
  rw [e] at m2
  rcases wt_or i with hw | hw <;> rw [hw] at m2 <;> rcases he with he | he <;> rw [he] at m2 <;> rcases hp with hp | hp | hp | hp | hp | hp | hp | hp <;> rw [hp] at m2 <;> omega

theorem flip_bad {s d : Ad} {p t : Int} {bs : List Int} (hv : validP s d p t bs.length = true) (h6 : s.v6 = false) {i : Nat} (h1 : 1 ≤ i) (h20 : i < 20) {x : Int} (hx : 0 ≤ x ∧ x ≤ 255) {j : Nat} (hj : j < 8)
    (he : x = gB (encP s d p t bs.length bs) i + 2 ^ j ∨ x = gB (encP s d p t bs.length bs) i - 2 ^ j) : codeD ((encP s d p t bs.length bs).set i x) ≠ 0 := by
  obtain ⟨va, vb, hvv, hp, ht, hm⟩ := valid_parts hv
  have hm2 := most_le s.v6
  have hB4 := head4_isB s d hp ht (n := bs.length) (by omega)
  have hz := sumL_setSum (head4 s d p t bs.length) hB4 (by unfold head4; simp) (by simp [head4, gB]) (by simp [head4, gB])
  have la : (addrB s.v6 s.hi s.lo).length = 4 := by rw [addrB_len, h6]; rfl
  have lb : (addrB d.v6 d.hi d.lo).length = 4 := by rw [addrB_len, ← hvv, h6]; rfl
  have hs := sumL_bd hB4
  have hBs : IsB (setSum (head4 s d p t bs.length)) := by
    rw [set4]
    refine IsB.append ?_ ((beN_isB _ _).append (beN_isB _ _))
    intro y hy
    simp only [List.mem_cons, List.not_mem_nil, or_false] at hy
    rcases hy with rfl | rfl | rfl | rfl | rfl | rfl | rfl | rfl | rfl | rfl | rfl | rfl <;> omega
  have hl4 : (setSum (head4 s d p t bs.length)).length = 20 := by rw [set4]; simp [la, lb]
  have g0 : gB (setSum (head4 s d p t bs.length)) 0 = 69 := by rw [set4]; simp [gB]
  have hE : encP s d p t bs.length bs = setSum (head4 s d p t bs.length) ++ bs := by unfold encP; rw [h6]; rfl
  rw [hE] at he ⊢
  generalize setSum (head4 s d p t bs.length) = H at *
  rw [gB_append_left _ _ _ (by omega)] at he
  have e1 : (H ++ bs).set i x = H.set i x ++ bs := by rw [List.set_append]; simp [hl4, h20]
  rw [e1]
  have g0' : gB (H.set i x ++ bs) 0 = 69 := by
    rw [gB_append_left _ _ _ (by simp [hl4]), gB_set _ _ _ (by omega), upd_far _ (by omega), g0]
  have t20 : (H.set i x ++ bs).take 20 = H.set i x := List.take_left' (by simp [hl4])
  have hsum := sum_flip hBs hz (i := i) (by omega) hx hj he
  have gh : hd4 (H.set i x ++ bs) = 20 := by unfold hd4; rw [g0']; decide
  have hR : codeR (H.set i x ++ bs) ≠ 0 := by
    unfold codeR code4
    rw [gh, g0', show (20 : Int).toNat = 20 from rfl, t20]
    rw [if_neg (by simp [hl4]), if_pos (by decide)]
    split
    · decide
    · split
      · decide
      · split
        · decide
        · decide
  unfold codeD
  rw [if_neg hR]
  exact hR

end Go.Proofs.YtcidmiacfjdepaaDoor
