/-
  Plain laws of distances, parts and flows (no program in sight).
-/
import Derived.Test.YthbdngfnbpkefaaFw
namespace Go.Proofs.Ythbdngfnbpkefaa
open Go.RowKit

/-- a walk over k links -/
inductive Walk (f : Fab) (W : Nat → Bool) : Nat → Int → Int → Prop
  | nil (x : Int) : Walk f W 0 x x
  | cons {k : Nat} {x y z : Int} (he : Edge f W x y) (h : Walk f W k y z) : Walk f W (k + 1) x z
section
variable {f g : Fab} {W V : Nat → Bool} {k j : Nat} {x y z : Int}
theorem Walk.snoc (h : Walk f W k x y) (he : Edge f W y z) : Walk f W (k + 1) x z := by
  induction h with
  | nil => exact .cons he (.nil _)
  | cons he' _ ih => exact .cons he' (ih he)
theorem Walk.symm (h : Walk f W k x y) : Walk f W k y x := by
  induction h with
  | nil => exact .nil _
  | cons he _ ih => exact ih.snoc he.symm
theorem Walk.trans (h : Walk f W k x y) (h2 : Walk f W j y z) : Walk f W (k + j) x z := by
  induction h with
  | nil => rw [Nat.zero_add]; exact h2
  | @cons k' _ _ _ he _ ih => rw [show k' + 1 + j = (k' + j) + 1 from by omega]; exact .cons he (ih h2)
theorem Walk.mono (hm : ∀ a b, Edge f W a b → Edge g V a b) (h : Walk f W k x y) : Walk g V k x y := by
  induction h with
  | nil => exact .nil _
  | cons he _ ih => exact .cons (hm _ _ he) ih
end
section
variable {f g : Fab} {x y t : Int} {k : Nat}
theorem edge_alive (h : Edge f (wkF f) x y) : aliveB f x = true ∧ aliveB f y = true := by
  obtain ⟨i, l, hl, hW, ⟨rfl, rfl⟩ | ⟨rfl, rfl⟩⟩ := h
  · exact worksB_ends hW hl
  · exact (worksB_ends hW hl).symm
theorem dist_ok (h : aliveB f t = true) : IsDist f (wkF f) f.dead.length t (dist f t) := distW_ok (wkF_wf f) h
theorem dist_none (h : aliveB f t = false) (x : Int) : gI (dist f t) x = -1 := by
  unfold dist; rw [distW_dead h, gI_rep]
theorem dist_ge (f : Fab) (t x : Int) : -1 ≤ gI (dist f t) x := by
  cases h : aliveB f t with
  | true => exact (dist_ok h).ge x
  | false => rw [dist_none h]; omega
theorem dist_alive (h : 0 ≤ gI (dist f t) x) : aliveB f t = true := by
  cases e : aliveB f t with
  | true => rfl
  | false => rw [dist_none e] at h; omega
theorem dist_walk : ∀ (k : Nat) (x : Int), gI (dist f t) x = k → Walk f (wkF f) k x t := by
  intro k
  induction k with
  | zero =>
    intro x h
    have ha := dist_alive (f := f) (t := t) (x := x) (by omega)
    rw [(dist_ok ha).zero x (by simpa using h)]
    exact .nil _
  | succ k ih =>
    intro x h
    have ha := dist_alive (f := f) (t := t) (x := x) (by omega)
    obtain ⟨y, hy, h1⟩ := (dist_ok ha).pred x (by omega)
    exact .cons hy (ih y (by rw [h1, h]; omega))
theorem walk_dist (ha : aliveB f t = true) (h : Walk f (wkF f) k x t) : 0 ≤ gI (dist f t) x ∧ gI (dist f t) x ≤ k := by
  induction h with
  | nil => rw [(dist_ok ha).src]; simp
  | cons he _ ih =>
    have h1 := ih ha
    have h2 := (dist_ok ha).step _ _ he.symm h1.1
    omega
theorem walk_alive (ha : aliveB f t = true) (h : Walk f (wkF f) k x t) : aliveB f x = true := by
  cases h with
  | nil => exact ha
  | cons he _ => exact (edge_alive he).1
theorem dist_swap (h : 0 ≤ gI (dist f t) x) : 0 ≤ gI (dist f x) t ∧ gI (dist f x) t ≤ gI (dist f t) x := by
  obtain ⟨k, hk⟩ := Int.eq_ofNat_of_zero_le h
  have hw := dist_walk k x hk
  have := walk_dist (walk_alive (dist_alive h) hw) hw.symm
  omega
theorem dist_symm (f : Fab) (t x : Int) : gI (dist f t) x = gI (dist f x) t := by
  have h1 := dist_ge f t x
  have h2 := dist_ge f x t
  rcases Int.lt_or_le (gI (dist f t) x) 0 with h3 | h3
  · rcases Int.lt_or_le (gI (dist f x) t) 0 with h4 | h4
    · omega
    · have := dist_swap h4; omega
  · have h5 := dist_swap h3
    have h6 := dist_swap h5.1
    omega
theorem dist_tri {m : Int} (h1 : 0 ≤ gI (dist f m) x) (h2 : 0 ≤ gI (dist f t) m) : 0 ≤ gI (dist f t) x ∧ gI (dist f t) x ≤ gI (dist f m) x + gI (dist f t) m := by
  obtain ⟨k, hk⟩ := Int.eq_ofNat_of_zero_le h1
  obtain ⟨j, hj⟩ := Int.eq_ofNat_of_zero_le h2
  have := walk_dist (dist_alive h2) ((dist_walk k x hk).trans (dist_walk j m hj))
  omega
theorem dist_mono (hm : ∀ a b, Edge g (wkF g) a b → Edge f (wkF f) a b) (ha : aliveB g t = true → aliveB f t = true) (h : 0 ≤ gI (dist g t) x) : 0 ≤ gI (dist f t) x ∧ gI (dist f t) x ≤ gI (dist g t) x := by
  obtain ⟨k, hk⟩ := Int.eq_ofNat_of_zero_le h
  have := walk_dist (ha (dist_alive h)) ((dist_walk k x hk).mono hm)
  omega
theorem dist_self (ha : aliveB f t = true) : gI (dist f t) t = 0 := (dist_ok ha).src
theorem dist_alive2 (h : 0 ≤ gI (dist f t) x) : aliveB f x = true := dist_alive (x := t) (by rw [← dist_symm]; exact h)
end

/-! the least one that is joined -/
theorem lst_spec (p : Nat → Bool) (k : Nat) : ((∀ t, t < k → p t = false) ∧ lst p k = -1) ∨ ∃ t, t < k ∧ p t = true ∧ lst p k = t ∧ ∀ u, u < t → p u = false := by
  induction k with
  | zero => exact .inl ⟨fun t h => by omega, rfl⟩
  | succ k ih =>
    rw [lst_succ]
    rcases ih with ⟨h1, h2⟩ | ⟨t, h1, h2, h3, h4⟩
    · cases hp : p k with
      | true => exact .inr ⟨k, by omega, hp, by rw [if_pos ⟨rfl, by omega⟩], h1⟩
      | false =>
        refine .inl ⟨fun t ht => ?_, by rw [if_neg (by simp), h2]⟩
        by_cases e : t = k
        · rw [e]; exact hp
        · exact h1 t (by omega)
    · exact .inr ⟨t, by omega, h2, by rw [if_neg (by omega), h3], h4⟩
theorem lst_congr {p q : Nat → Bool} {k : Nat} (h : ∀ t, t < k → p t = q t) : lst p k = lst q k := by
  induction k with
  | zero => rfl
  | succ k ih => rw [lst_succ, lst_succ, ih (fun t ht => h t (by omega)), h k (by omega)]
theorem parts_eq (f : Fab) : partsX f = partsF f := by
  unfold partsX partsF
  refine tab_congr fun x _ => lst_congr fun t _ => ?_
  rw [dist_symm]
def partAt (f : Fab) (i : Nat) : Int := lst (fun s => decide (0 ≤ gI (dist f s) i)) f.dead.length
theorem parts_at {f : Fab} {i : Nat} (h : i < f.dead.length) : gI (partsF f) i = partAt f i := tab_at h
theorem parts_len (f : Fab) : (partsF f).length = f.dead.length := by simp [partsF]
theorem partAt_spec (f : Fab) (i : Nat) : ((∀ t : Nat, t < f.dead.length → ¬ 0 ≤ gI (dist f t) i) ∧ partAt f i = -1) ∨ ∃ t : Nat, t < f.dead.length ∧ 0 ≤ gI (dist f t) i ∧ partAt f i = t ∧ ∀ u : Nat, u < t → ¬ 0 ≤ gI (dist f u) i := by
  rcases lst_spec (fun s => decide (0 ≤ gI (dist f s) i)) f.dead.length with ⟨h1, h2⟩ | ⟨t, h1, h2, h3, h4⟩
  · exact .inl ⟨fun t ht => of_decide_eq_false (h1 t ht), h2⟩
  · exact .inr ⟨t, h1, of_decide_eq_true h2, h3, fun u hu => of_decide_eq_false (h4 u hu)⟩
theorem alive_nat {f : Fab} {s : Nat} (h : aliveB f s = true) : s < f.dead.length := by have := (aliveB_lt h).2; omega
theorem partAt_neg (f : Fab) (i : Nat) : partAt f i < 0 ↔ aliveB f i = false := by
  constructor
  · intro h
    cases e : aliveB f i with
    | false => rfl
    | true =>
      rcases partAt_spec f i with ⟨h1, _⟩ | ⟨t, _, _, h3, _⟩
      · exact absurd (by rw [dist_self e]; omega) (h1 i (alive_nat e))
      · omega
  · intro h
    rcases partAt_spec f i with ⟨_, h2⟩ | ⟨t, _, h2, _, _⟩
    · omega
    · rw [dist_alive2 h2] at h; cases h
theorem partAt_le (f : Fab) (i : Nat) (_hi : i < f.dead.length) : partAt f i ≤ i := by
  rcases partAt_spec f i with ⟨_, h2⟩ | ⟨t, _, h2, h3, h4⟩
  · omega
  · have ha := dist_alive2 h2
    rcases Nat.lt_or_ge i t with h | h
    · exact absurd (by rw [dist_self ha]; omega) (h4 i h)
    · omega
/-- joined ones have the same part -/
theorem partAt_same {f : Fab} {i j : Nat} (h : 0 ≤ gI (dist f i) j) : partAt f i = partAt f j := by
  unfold partAt
  refine lst_congr fun t _ => ?_
  have h' : 0 ≤ gI (dist f j) i := by rw [dist_symm]; exact h
  exact decide_eq_decide.2 ⟨fun h1 => (dist_tri h h1).1, fun h1 => (dist_tri h' h1).1⟩
theorem partAt_join {f : Fab} {i j : Nat} (h0 : 0 ≤ partAt f i) (h : partAt f i = partAt f j) : 0 ≤ gI (dist f i) j := by
  rcases partAt_spec f i with ⟨_, h2⟩ | ⟨t, _, h2, h3, _⟩
  · omega
  · rcases partAt_spec f j with ⟨_, k2⟩ | ⟨u, _, k2, k3, _⟩
    · omega
    · have : t = u := by omega
      subst this
      rw [dist_symm] at h2
      exact (dist_tri k2 h2).1

/-! flows -/
theorem flow_is {f : Fab} (hL : LinksOK f) {a b : Nat} (hab : a ≠ b) (ha : aliveB f a = true) (hb : aliveB f b = true) : IsFlow f (wkF f) a b (flowF f a b) := by
  have e : flowF f a b = minCut f (wkF f) a b (2 ^ f.dead.length) := by
    unfold flowF
    rw [if_neg (by omega), ha, hb]; rfl
  rw [e]
  exact minCut_flow (fun i l hl hW => (hL i l hl hW).c1) (fun i l hl hW => by obtain ⟨h1, h2, h3, h4⟩ := wkF_wf f i l hl hW; omega) (alive_nat ha) (alive_nat hb) hab
theorem flow_zero {f : Fab} {a b : Int} (h : a = b ∨ aliveB f a = false ∨ aliveB f b = false) : flowF f a b = 0 := by
  unfold flowF
  rcases h with h | h | h
  · rw [if_pos h]
  · rw [h]; simp
  · rw [h]; simp
theorem flow_cases (f : Fab) (a b : Int) : (flowF f a b = 0 ∧ (a = b ∨ aliveB f a = false ∨ aliveB f b = false)) ∨ ∃ x y : Nat, a = x ∧ b = y ∧ x ≠ y ∧ aliveB f x = true ∧ aliveB f y = true := by
  by_cases h : a = b
  · exact .inl ⟨flow_zero (.inl h), .inl h⟩
  · cases ha : aliveB f a with
    | false => exact .inl ⟨flow_zero (.inr (.inl ha)), .inr (.inl rfl)⟩
    | true =>
      cases hb : aliveB f b with
      | false => exact .inl ⟨flow_zero (.inr (.inr hb)), .inr (.inr rfl)⟩
      | true =>
        obtain ⟨a0, a1⟩ := aliveB_lt ha
        obtain ⟨b0, b1⟩ := aliveB_lt hb
        obtain ⟨x, rfl⟩ := Int.eq_ofNat_of_zero_le a0
        obtain ⟨y, rfl⟩ := Int.eq_ofNat_of_zero_le b0
        exact .inr ⟨x, y, rfl, rfl, by omega, ha, hb⟩
theorem flow_symm {f : Fab} (hL : LinksOK f) (a b : Int) : flowF f a b = flowF f b a := by
  rcases flow_cases f a b with ⟨h1, h2⟩ | ⟨x, y, rfl, rfl, h1, h2, h3⟩
  · rw [h1, flow_zero]
    rcases h2 with h | h | h
    · exact .inl h.symm
    · exact .inr (.inr h)
    · exact .inr (.inl h)
  · exact (flow_is hL h1 h2 h3).uniq (flow_is hL (fun e => h1 e.symm) h3 h2).symm
theorem flow_nonneg {f : Fab} (hL : LinksOK f) (a b : Int) : 0 ≤ flowF f a b := by
  rcases flow_cases f a b with ⟨h1, h2⟩ | ⟨x, y, rfl, rfl, h1, h2, h3⟩
  · omega
  · obtain ⟨χ, _, _, h⟩ := (flow_is hL h1 h2 h3).eq
    rw [h]
    exact (capK_bd hL χ f.links.length).1
theorem sum_le2 (n : Nat) (p q : Nat → Int) (h : ∀ i, i < n → p i ≤ q i) : ((List.range n).map p).sum ≤ ((List.range n).map q).sum := by
  induction n with
  | zero => simp
  | succ n ih =>
    rw [List.range_succ, List.map_append, List.map_append, List.sum_append, List.sum_append]
    have h1 := ih fun i hi => h i (by omega)
    have h2 := h n (by omega)
    simp only [List.map_cons, List.map_nil, List.sum_cons, List.sum_nil]
    omega
theorem flow_mono {f g : Fab} (hLf : LinksOK f) (hLg : LinksOK g) (hl : g.links = f.links) (hw : ∀ i, wkF g i = true → wkF f i = true) (ha : ∀ s, aliveB g s = true → aliveB f s = true) (a b : Int) : flowF g a b ≤ flowF f a b := by
  rcases flow_cases g a b with ⟨h1, h2⟩ | ⟨x, y, rfl, rfl, h1, h2, h3⟩
  · rw [h1]; exact flow_nonneg hLf a b
  · obtain ⟨χ, c1, c2, c3⟩ := (flow_is hLf h1 (ha _ h2) (ha _ h3)).eq
    refine Int.le_trans ((flow_is hLg h1 h2 h3).le χ c1 c2) ?_
    rw [c3]
    unfold capC
    rw [hl]
    refine sum_le2 _ _ _ fun i _ => ?_
    unfold capI
    rw [hl]
    cases e : f.links[i]? with
    | none => exact Int.le_refl _
    | some l =>
      dsimp only
      cases hg : wkF g i with
      | false =>
        rw [Bool.false_and]
        rw [if_neg (by decide)]
        cases hf : wkF f i with
        | false => simp
        | true =>
          have := (hLf i l e hf).c1
          split <;> omega
      | true => rw [hw i hg]; exact Int.le_refl _
/-- something can flow exactly between those that are joined -/
theorem flow_join {f : Fab} (hL : LinksOK f) (hc : ∀ i l, f.links[i]? = some l → wkF f i = true → 1 ≤ l.c) {a b : Nat} (hab : a ≠ b) (_ha : a < f.dead.length) (_hb : b < f.dead.length) : 0 < flowF f a b ↔ 0 ≤ gI (dist f a) b := by
  rcases flow_cases f a b with ⟨h1, h2⟩ | ⟨x, y, hx, hy, h1, h2, h3⟩
  · rw [h1]
    refine ⟨fun h => by omega, fun h => ?_⟩
    rcases h2 with h2 | h2 | h2
    · omega
    · rw [dist_alive h] at h2; cases h2
    · rw [dist_alive2 h] at h2; cases h2
  · obtain rfl : a = x := by omega
    obtain rfl : b = y := by omega
    have hfl := flow_is hL h1 h2 h3
    constructor
    · intro hp
      rcases Int.lt_or_le (gI (dist f a) b) 0 with hn | hn
      · exfalso
        have hle := hfl.le (fun x => decide (0 ≤ gI (dist f a) (x : Nat))) (by simp [dist_self h2]) (by simp; omega)
        have : capC f (wkF f) (fun x => decide (0 ≤ gI (dist f a) (x : Nat))) = 0 := by
          refine sum_zero _ _ fun i _ => ?_
          unfold capI
          cases e : f.links[i]? with
          | none => rfl
          | some l =>
            dsimp only
            cases hw : wkF f i with
            | false => simp
            | true =>
              obtain ⟨x1, x2, x3, x4⟩ := wkF_wf f i l e hw
              have he : Edge f (wkF f) l.a l.b := ⟨i, l, e, hw, .inl ⟨rfl, rfl⟩⟩
              have k1 : 0 ≤ gI (dist f a) l.a ↔ 0 ≤ gI (dist f a) l.b := ⟨fun h => ((dist_ok h2).step _ _ he h).1, fun h => ((dist_ok h2).step _ _ he.symm h).1⟩
              have e1 : decide (0 ≤ gI (dist f a) (l.a.toNat : Nat)) = decide (0 ≤ gI (dist f a) (l.b.toNat : Nat)) := by
                rw [Int.toNat_of_nonneg x1, Int.toNat_of_nonneg x3]; exact decide_eq_decide.2 k1
              simp only [e1, bne_self_eq_false, Bool.and_false, Bool.false_eq_true, if_false]
        omega
      · exact hn
    · intro hn
      obtain ⟨χ, c1, c2, c3⟩ := hfl.eq
      rw [c3]
      obtain ⟨k, hk⟩ := Int.eq_ofNat_of_zero_le hn
      have hw := (dist_walk k b hk).symm
      -- the walk crosses
      have key : ∀ (k : Nat) (u v : Int), Walk f (wkF f) k u v → χ u.toNat = true → χ v.toNat = false → ∃ i l, f.links[i]? = some l ∧ wkF f i = true ∧ (χ l.a.toNat != χ l.b.toNat) = true := by
        intro k u v h
        induction h with
        | nil => intro h1 h2; rw [h1] at h2; cases h2
        | @cons k u m v he _ ih =>
          intro h1 h2
          cases hm : χ m.toNat with
          | true => exact ih hm h2
          | false =>
            obtain ⟨i, l, hl, hW, ⟨rfl, rfl⟩ | ⟨rfl, rfl⟩⟩ := he
            · exact ⟨i, l, hl, hW, by rw [h1, hm]; rfl⟩
            · exact ⟨i, l, hl, hW, by rw [h1, hm]; rfl⟩
      obtain ⟨i, l, hl, hW, hx⟩ := key k a b hw (by simpa using c1) (by simpa using c2)
      have hi : i < f.links.length := (List.getElem?_eq_some_iff.1 hl).1
      have hci : capI f (wkF f) χ i = l.c := by unfold capI; rw [hl]; simp only [hW, hx, Bool.and_self, if_true]
      have h1c := hc i l hl hW
      have hmem : capI f (wkF f) χ i ≤ capC f (wkF f) χ := by
        have h0 : ∀ n, i < n → capI f (wkF f) χ i ≤ capK f (wkF f) χ n := by
          intro n
          induction n with
          | zero => intro h; omega
          | succ n ih =>
            intro h
            rw [capK_succ]
            have h1 := (capI_bd hL χ n).1
            have h2 := (capK_bd hL χ n).1
            by_cases e : i = n
            · subst e; omega
            · have := ih (by omega); omega
        exact h0 _ hi
      omega
end Go.Proofs.Ythbdngfnbpkefaa
