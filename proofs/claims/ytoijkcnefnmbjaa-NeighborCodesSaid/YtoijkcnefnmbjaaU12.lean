/-
  New names, things given up, tables of types, and what a law's call means for its world.
-/
import Derived.Test.YtoijkcnefnmbjaaU11
namespace Go.Proofs.Ytoijkcnefnmbjaa
open Go.RowKit

abbrev TyRow := Lay × Nat × Nat × List AV
def lkT : List (Nat × TyRow) → Nat → Option TyRow
  | [], _ => none
  | (k, v) :: l, t => match Nat.beq k t with
    | true => some v
    | false => lkT l t
theorem lkT_mem : ∀ (l : List (Nat × TyRow)) (t : Nat) (v : TyRow), lkT l t = some v → (t, v) ∈ l := by
  intro l
  induction l with
  | nil => intro t v h; cases h
  | cons p l ih =>
    intro t v h
    obtain ⟨k, u⟩ := p
    unfold lkT at h
    split at h
    · rename_i hb
      have := Nat.eq_of_beq_eq_true hb
      subst this
      injection h with h
      subst h
      simp
    · exact List.mem_cons_of_mem _ (ih t v h)

/-! properties of what is written out -/
theorem all_mt {α : Type} {p : Nat → α → Prop} : ∀ t v, (mt : Nat → Option α) t = some v → p t v := fun t v h => by cases h
theorem all_up {α : Type} {p : Nat → α → Prop} {F : Nat → Option α} {k : Nat} {a : α} (h0 : p k a) (h : ∀ t v, F t = some v → p t v) : ∀ t v, up F k (some a) t = some v → p t v := by
  intro t v ht
  by_cases e : t = k
  · subst e; rw [up_at] at ht; injection ht with ht; subst ht; exact h0
  · rw [up_ne e] at ht; exact h t v ht
theorem frK_one (H : Hp) (r : Nat) : frK H [r] = up H r none := by
  funext x
  by_cases h : x = r
  · subst h; simp [frK, up_at]
  · simp [frK, h, up_ne h]
theorem frK_two (H : Hp) (r s : Nat) : frK H [r, s] = up (up H r none) s none := by
  funext x
  by_cases h : x = s
  · subst h; simp [frK, up_at]
  · by_cases h' : x = r
    · subst h'; simp [frK, up_ne h, up_at]
    · simp [frK, h, h', up_ne h, up_ne h']

section
variable {P : Program} {k n m : Nat} {T : Tp} {H : Hp} {K : Exit → Nat → Tp → Hp → Prop} {c : Code}

theorem W.freeze (fr : List Nat) {T' : Tp} (hT : ∀ t v, T' t = some v → ∃ u, T t = some u ∧ (u = v ∨ Fz H fr u v)) (h : W P k n c m T' (frK H fr) K) : W P k n c m T H K := by
  obtain ⟨e, m2, T2, H2, h1, h2⟩ := h
  refine ⟨e, m2, T2, H2, h1, fun B hB a w hs => h2 B hB a w ?_⟩
  obtain ⟨h0, X, φ, g1, g2, g3, g4, g5, g6⟩ := hs
  refine ⟨h0, frX X H φ fr, φ, g1.trans (Nxt.frz (f := fun _ => False)) (fun _ h => h.elim), g2, g3, g4.frz, fun t v ht => ?_, g6⟩
  obtain ⟨u, hu, rfl | hf⟩ := hT t v ht
  · exact (g5 t u hu).frz
  · exact hf.rep g4 (g5 t u hu)
/-- a slice that was made is only read from now on -/
theorem W.frz1 {t r off len sz : Nat} {cs vs : List AV} (ht : T t = some (.osl r off len sz)) (hr : H r = some cs) (hv : Tk cs off (len * sz) vs) (hp : vs.all AV.pure1 = true) (h : W P k n c m (up T t (some (.isl vs len))) (up H r none) K) : W P k n c m T H K := by
  rw [← frK_one] at h
  refine W.freeze [r] (all_up (p := fun t v => ∃ u, T t = some u ∧ (u = v ∨ Fz H [r] u v)) ⟨_, ht, .inr (.one (.osl (by simp) hr hv hp))⟩ fun t v h => ⟨v, h, .inl rfl⟩) h
/-- a slice that was made and lies in a cell is only read from now on -/
theorem W.frzc {q j r off len sz : Nat} {cs vs qs qs' : List AV} (hq : H q = some qs) (hj : qs[j]? = some (.osl r off len sz)) (hqr : q ≠ r) (hr : H r = some cs) (hv : Tk cs off (len * sz) vs) (hp : vs.all AV.pure1 = true) (hs : Sp qs j [.isl vs len] qs') (h : W P k n c m T (up (up H r none) q (some qs')) K) : W P k n c m T H K := by
  obtain ⟨e, m2, T2, H2, h1, h2⟩ := h
  refine ⟨e, m2, T2, H2, h1, fun B hB a w hsim => h2 B hB a w ?_⟩
  obtain ⟨h0, X, φ, g1, g2, g3, g4, g5, g6⟩ := hsim
  have hst := g4.frz (fr := [r])
  rw [← frK_one]
  have hq1 : frK H [r] q = some qs := by unfold frK; rw [if_neg (by simpa using hqr)]; exact hq
  have hnx := (g1.trans (Nxt.frz (fr := [r]) (f := fun _ => False)) (fun _ h => h.elim))
  have hup : ∀ r' c', up (frK H [r]) q (some qs') r' = some c' → ∃ c0, frK H [r] r' = some c0 := fun r' c' h => by
    by_cases e : r' = q
    · subst e; exact ⟨qs, hq1⟩
    · rw [up_ne e] at h; exact ⟨c', h⟩
  refine ⟨h0, frX X H φ [r], φ, { hnx with lv := fun r' c' b o i1 i2 => by obtain ⟨c0, i3⟩ := hup r' c' i1; exact hnx.lv r' c0 b o i3 i2 }, g2, g3, ⟨fun r' c' hr' => ?_, fun r1 r2 c1 c2 b o1 o2 i1 i2 i3 i4 => ?_⟩, fun t v ht => (g5 t v ht).frz, g6⟩
  · by_cases e : r' = q
    · subst e
      rw [up_at] at hr'
      injection hr' with hr'
      subst hr'
      obtain ⟨i1, i2⟩ | ⟨b, o, c1, el, i1, i2, i3, i4⟩ := hst.1 r' qs hq1
      · rw [i1] at hj; simp at hj
      · refine .inr ⟨b, o, c1, el, i1, i2, i3, fun j' a' hj' => ?_⟩
        rcases hs.2.2 j' a' hj' with ⟨j1, j2⟩ | ⟨_, j2⟩
        · have e1 : j' - j = 0 := by have := (List.getElem?_eq_some_iff.1 j2).1; simp at this; omega
          have e2 : j' = j := by omega
          rw [e1] at j2
          simp at j2
          subst e2 j2
          obtain ⟨i5, u, i6, i7⟩ := i4 j' _ hj
          obtain ⟨b2, o2, c2, el2, k1, k2, k3, k4⟩ := (g4.1 r' qs hq).resolve_left (fun h => by rw [h.1] at hj; simp at hj)
          rw [k1] at i1
          injection i1 with i1
          injection i1 with z1 z2
          subst z1 z2
          rw [k3] at i3
          injection i3 with i3
          injection i3 with z3 z4
          subst z3
          obtain ⟨_, u', k5, k6⟩ := k4 j' _ hj
          rw [k5] at i6
          injection i6 with i6
          subst i6
          exact ⟨rfl, u', k5, k6.osl_frz g4 (by simp) hr hv hp⟩
        · exact i4 j' a' j2
    · rw [up_ne e] at hr'; exact hst.1 r' c' hr'
  · obtain ⟨d1, j1⟩ := hup r1 c1 i1
    obtain ⟨d2, j2⟩ := hup r2 c2 i2
    exact hst.2 r1 r2 d1 d2 b o1 o2 j1 j2 i3 i4
/-- an empty slice gets a name, to be appended to -/
theorem W.name (f m' : Nat) {t sz : Nat} (ht : T t = some .nils) (hm : m ≤ f) (hm' : f < m') (h : W P k n c m' (up T t (some (.osl f 0 0 sz))) (up H f (some [])) K) : W P k n c m T H K := by
  obtain ⟨e, m2, T2, H2, h1, h2⟩ := h
  refine ⟨e, m2, T2, H2, h1, fun B hB a w hsim => h2 B hB a w ?_⟩
  obtain ⟨h0, X, φ, g1, g2, g3, g4, g5, g6⟩ := hsim
  obtain ⟨i1, i2⟩ := g4.phantom (g6 f hm)
  refine ⟨by omega, X, φ, g1.trans i1 (fun r hr => by rw [hr]; omega), g2, g3, i2, all_up (p := fun t v => Rep X w φ (a.tmps.getD t undef) v) ?_ g5, fun r hr => g6 r (by omega)⟩
  have h3 := g5 t _ ht
  generalize a.tmps.getD t undef = u at h3
  cases h3
  exact .osl0 _ _ _ _

/-- an empty slice in a cell gets a name, to be appended to -/
theorem W.namec (f m' : Nat) {q j sz : Nat} {qs qs' : List AV} (hq : H q = some qs) (hj : qs[j]? = some .nils) (hs : Sp qs j [.osl f 0 0 sz] qs') (hm : m ≤ f) (hm' : f < m') (hqf : q ≠ f) (h : W P k n c m' T (up (up H f (some [])) q (some qs')) K) : W P k n c m T H K := by
  obtain ⟨e, m2, T2, H2, h1, h2⟩ := h
  refine ⟨e, m2, T2, H2, h1, fun B hB a w hsim => h2 B hB a w ?_⟩
  obtain ⟨h0, X, φ, g1, g2, g3, g4, g5, g6⟩ := hsim
  obtain ⟨i1, i2⟩ := g4.phantom (g6 f hm)
  have hq1 : up H f (some []) q = some qs := by rw [up_ne hqf]; exact hq
  have hnx := g1.trans i1 (fun r hr => by rw [hr]; omega)
  have hup : ∀ r' c', up (up H f (some [])) q (some qs') r' = some c' → ∃ c0, up H f (some []) r' = some c0 := fun r' c' h => by
    by_cases e : r' = q
    · subst e; exact ⟨qs, hq1⟩
    · rw [up_ne e] at h; exact ⟨c', h⟩
  refine ⟨by omega, X, φ, { hnx with lv := fun r' c' b o j1 j2 => by obtain ⟨c0, j3⟩ := hup r' c' j1; exact hnx.lv r' c0 b o j3 j2 }, g2, g3, ⟨fun r' c' hr' => ?_, fun r1 r2 c1 c2 b o1 o2 j1 j2 j3 j4 => ?_⟩, g5, fun r hr => g6 r (by omega)⟩
  · by_cases e : r' = q
    · subst e
      rw [up_at] at hr'
      injection hr' with hr'
      subst hr'
      obtain ⟨k1, k2⟩ | ⟨b, o, c1, el, k1, k2, k3, k4⟩ := i2.1 r' qs hq1
      · rw [k1] at hj; simp at hj
      · refine .inr ⟨b, o, c1, el, k1, k2, k3, fun j' a' hj' => ?_⟩
        rcases hs.2.2 j' a' hj' with ⟨j1, j2⟩ | ⟨_, j2⟩
        · have e1 : j' - j = 0 := by have := (List.getElem?_eq_some_iff.1 j2).1; simp at this; omega
          have e2 : j' = j := by omega
          rw [e1] at j2
          simp at j2
          subst e2 j2
          obtain ⟨_, u, k5, k6⟩ := k4 j' _ hj
          refine ⟨rfl, u, k5, ?_⟩
          cases k6
          exact .osl0 _ _ _ _
        · exact k4 j' a' j2
    · rw [up_ne e] at hr'; exact i2.1 r' c' hr'
  · obtain ⟨d1, l1⟩ := hup r1 c1 j1
    obtain ⟨d2, l2⟩ := hup r2 c2 j2
    exact i2.2 r1 r2 d1 d2 b o1 o2 l1 l2 j3 j4

/-! new names -/
def ren1 (σ : Nat → Nat) : AV → AV
  | .own r off => .own (σ r) off
  | .osl r off len sz => .osl (σ r) off len sz
  | a => a
def ren2 (σ : Nat → Nat) : AV → AV
  | .agg cs => .agg (cs.map (ren1 σ))
  | a => ren1 σ a
theorem ren1_one (σ : Nat → Nat) (a : AV) : (ren1 σ a).one = a.one := by cases a <;> rfl
theorem ren1_rep {X : Nat → Prop} {w : World} {φ : Em} {v : Value} {a : AV} (σ : Nat → Nat) (h1 : a.one = true) (h : Rep X w φ v (ren1 σ a)) : Rep X w (fun r => φ (σ r)) v a := by
  cases a with
  | own r off => obtain ⟨b, o, hp, rfl⟩ := h.own_inv; exact .own r off b o hp
  | osl r off len sz =>
    obtain ⟨A, cap, rfl, hc, ⟨rfl, rfl⟩ | ⟨b, o, hp, rfl, hs⟩⟩ := h.osl_inv
    · exact .osl0 _ _ _ _
    · exact .osl r off len sz b o cap hp hc hs
  | agg cs => cases h1
  | tup vs => cases h1
  | base u => exact h.pure1 rfl
  | nils => exact h.pure1 rfl
  | imm cs off => exact h.pure1 rfl
  | isl cs len => exact h.pure1 rfl
theorem ren2_rep {X : Nat → Prop} {w : World} {φ : Em} {v : Value} {a : AV} (σ : Nat → Nat) (ht : ∀ vs, a ≠ .tup vs) (h : Rep X w φ v (ren2 σ a)) : Rep X w (fun r => φ (σ r)) v a := by
  by_cases ha : ∃ cs, a = .agg cs
  · obtain ⟨cs, rfl⟩ := ha
    cases h with
    | agg vs _ hl h1 hh =>
      refine .agg vs cs (by simpa using hl) (fun i c hc => ?_) fun i v c hv hc => ?_
      · have := h1 i (ren1 σ c) (by simp [hc])
        rwa [ren1_one] at this
      · have h2 := h1 i (ren1 σ c) (by simp [hc])
        rw [ren1_one] at h2
        exact ren1_rep σ h2 (hh i v (ren1 σ c) hv (by simp [hc]))
  · have h2 : ren2 σ a = ren1 σ a := by cases a <;> first | rfl | exact absurd ⟨_, rfl⟩ ha
    rw [h2] at h
    cases a with
    | agg cs => exact absurd ⟨_, rfl⟩ ha
    | tup vs => exact absurd rfl (ht vs)
    | base u => exact h.pure1 (by rfl)
    | own r off => exact ren1_rep σ rfl h
    | osl r off len sz => exact ren1_rep σ rfl h
    | nils => exact ren1_rep σ rfl h
    | imm cs off => exact ren1_rep σ rfl h
    | isl cs len => exact ren1_rep σ rfl h
def sg (L : List (Nat × Nat)) (m : Nat) : Nat → Nat := fun r => match L with
  | [] => m + r
  | (a, b) :: l => match Nat.beq a r with
    | true => b
    | false => sg l m r
def keyIn : List (Nat × Nat) → Nat → Bool
  | [], _ => false
  | (a, _) :: l, r => Nat.beq a r || keyIn l r
/-- the names are new, all different, and what was handed in keeps its name -/
def okL (k m2 : Nat) (L : List (Nat × Nat)) : Bool := L.all (fun p => decide (p.1 < m2)) && decide ((L.map (·.2)).Nodup) && (List.range k).all (fun r => Nat.beq (sg L 0 r) r && keyIn L r) && decide (k ≤ m2)
theorem sg_far {L : List (Nat × Nat)} {m r : Nat} (h : keyIn L r = false) : sg L m r = m + r := by
  induction L with
  | nil => rfl
  | cons p l ih =>
    obtain ⟨a, b⟩ := p
    simp only [keyIn, Bool.or_eq_false_iff] at h
    unfold sg
    rw [h.1]
    exact ih h.2
theorem sg_mem {L : List (Nat × Nat)} {m r : Nat} (h : keyIn L r = true) : (r, sg L m r) ∈ L := by
  induction L with
  | nil => cases h
  | cons p l ih =>
    obtain ⟨a, b⟩ := p
    simp only [keyIn, Bool.or_eq_true] at h
    unfold sg
    cases hb : Nat.beq a r with
    | true => have := Nat.eq_of_beq_eq_true hb; subst this; simp
    | false => exact List.mem_cons_of_mem _ (ih (by rcases h with h | h; rw [hb] at h; cases h; exact h))
theorem sg_in {L : List (Nat × Nat)} {m m' r : Nat} (h : keyIn L r = true) : sg L m r = sg L m' r := by
  induction L with
  | nil => cases h
  | cons p l ih =>
    obtain ⟨a, b⟩ := p
    simp only [keyIn, Bool.or_eq_true] at h
    unfold sg
    cases hb : Nat.beq a r with
    | true => rfl
    | false => exact ih (by rcases h with h | h; rw [hb] at h; cases h; exact h)
theorem nodup_fst {α : Type} {L : List (Nat × α)} {a b : Nat} {c : α} (h : (L.map (·.2)).Nodup) (h1 : (a, c) ∈ L) (h2 : (b, c) ∈ L) : a = b := by
  induction L with
  | nil => cases h1
  | cons p l ih =>
    simp only [List.map_cons, List.nodup_cons] at h
    rcases List.mem_cons.1 h1 with e1 | e1
    · rcases List.mem_cons.1 h2 with e2 | e2
      · rw [← e1] at e2; injection e2 with e2; exact e2.symm
      · exfalso; exact h.1 (List.mem_map.2 ⟨_, e2, by rw [← e1]⟩)
    · rcases List.mem_cons.1 h2 with e2 | e2
      · exfalso; exact h.1 (List.mem_map.2 ⟨_, e1, by rw [← e2]⟩)
      · exact ih h.2 e1 e2
theorem W.rename (L : List (Nat × Nat)) (m2 : Nat) {T' : Tp} {H' : Hp} (hL : okL k m2 L = true)
    (hT : ∀ t v, T' t = some v → (T t = some v ∧ v.pure = true) ∨ (T t = some (ren2 (sg L m) v) ∧ ∀ vs, v ≠ .tup vs))
    (hH : ∀ r cs, H' r = some cs → keyIn L r = true ∧ ∃ cs0, H (sg L m r) = some cs0 ∧ (cs0 = cs.map (ren1 (sg L m)) ∨ (cs0 = cs ∧ cs.all AV.pure1 = true))) (h : W P k n c m2 T' H' K) : W P k n c m T H K := by
  obtain ⟨e, m3, T2, H2, h1, h2⟩ := h
  unfold okL at hL
  simp only [Bool.and_eq_true, List.all_eq_true, decide_eq_true_eq, List.mem_range] at hL
  obtain ⟨⟨⟨hlt, hnd⟩, hid⟩, hkm⟩ := hL
  have hσk : ∀ r, r < k → sg L m r = r := fun r hr => by
    have h3 := hid r hr
    rw [sg_in (m' := 0) h3.2]
    exact Nat.eq_of_beq_eq_true h3.1
  refine ⟨e, m3, T2, H2, h1, fun B hB a w hs => h2 B hB a w ?_⟩
  obtain ⟨h0, X, φ, g1, g2, g3, g4, g5, g6⟩ := hs
  have hinj : ∀ r r', keyIn L r = true → keyIn L r' = true → sg L m r = sg L m r' → r = r' := fun r r' i1 i2 i3 => by
    have j1 := sg_mem (m := m) i1
    have j2 := sg_mem (m := m) i2
    rw [i3] at j1
    exact nodup_fst hnd j1 j2
  have hcells : ∀ (cs0 cs : List AV) (u : Value) (a' : AV) (j : Nat), (cs0 = cs.map (ren1 (sg L m)) ∨ (cs0 = cs ∧ cs.all AV.pure1 = true)) → cs[j]? = some a' → ∃ b, cs0[j]? = some b ∧ (b.one = true → a'.one = true ∧ (Rep X w φ u b → Rep X w (fun r => φ (sg L m r)) u a')) := by
    intro cs0 cs u a' j hc hj
    rcases hc with rfl | ⟨rfl, hp⟩
    · refine ⟨ren1 (sg L m) a', by simp [hj], fun h1 => ?_⟩
      rw [ren1_one] at h1
      exact ⟨h1, fun hr => ren1_rep _ h1 hr⟩
    · exact ⟨a', hj, fun h1 => ⟨h1, fun hr => hr.pure1 (List.all_eq_true.1 hp a' (List.mem_of_getElem? hj))⟩⟩
  refine ⟨by omega, X, fun r => φ (sg L m r), ⟨g1.os, g1.tape, g1.output, g1.size, g1.same, g1.bs, g1.xs, g1.xk, fun r hr => ?_, fun r cs b o i1 i2 => ?_⟩, g2, g3, ⟨fun r cs hr => ?_, fun r r' cs cs' b o o' i1 i2 i3 i4 => ?_⟩, fun t v ht => ?_, fun r hr => ?_⟩
  · have hrk : r < k := by rw [← hB]; omega
    show φ (sg L m r) = _
    rw [hσk r hrk]
    exact g1.ph r hr
  · obtain ⟨_, cs0, j1, _⟩ := hH r cs i1
    exact g1.lv _ cs0 b o j1 i2
  · obtain ⟨_, cs0, j1, j2⟩ := hH r cs hr
    obtain ⟨i1, i2⟩ | ⟨b, o, c1, el, i1, i2, i3, i4⟩ := g4.1 _ cs0 j1
    · refine .inl ⟨?_, i2⟩
      rcases j2 with j2 | ⟨j2, _⟩
      · rw [i1] at j2; simpa using j2.symm
      · rw [← j2]; exact i1
    · refine .inr ⟨b, o, c1, el, i1, i2, i3, fun j a' hj => ?_⟩
      obtain ⟨b', hb', _⟩ := hcells cs0 cs undef a' j j2 hj
      obtain ⟨k1, u, k2, k3⟩ := i4 j b' hb'
      obtain ⟨b'', hb'', h5⟩ := hcells cs0 cs u a' j j2 hj
      rw [hb'] at hb''
      injection hb'' with hb''
      subst hb''
      exact ⟨(h5 k1).1, u, k2, (h5 k1).2 k3⟩
  · obtain ⟨k1, c1, j1, _⟩ := hH r cs i1
    obtain ⟨k2, c2, j2, _⟩ := hH r' cs' i2
    exact hinj r r' k1 k2 (g4.2 _ _ c1 c2 b o o' j1 j2 i3 i4)
  · rcases hT t v ht with ⟨i1, i2⟩ | ⟨i1, i2⟩
    · exact (g5 t v i1).pure i2
    · exact ren2_rep _ i2 (g5 t _ i1)
  · show φ (sg L m r) = none
    refine g6 _ ?_
    cases hk : keyIn L r with
    | true => have := hlt _ (sg_mem (m := m) hk); simp only at this; omega
    | false => rw [sg_far hk]; omega
end

theorem WL.rename {P : Program} {k n m : Nat} {T : Tp} {H : Hp} {K : Exit → Nat → Tp → Hp → Prop} {c : Code} (L : List (Nat × Nat)) (m2 : Nat) {T' : Tp} {H' : Hp} (hL : okL k m2 L = true)
    (hT : ∀ t v, T' t = some v → (T t = some v ∧ v.pure = true) ∨ (T t = some (ren2 (sg L m) v) ∧ ∀ vs, v ≠ .tup vs))
    (hH : ∀ r cs, H' r = some cs → keyIn L r = true ∧ ∃ cs0, H (sg L m r) = some cs0 ∧ (cs0 = cs.map (ren1 (sg L m)) ∨ (cs0 = cs ∧ cs.all AV.pure1 = true))) (h : WL P k n c m2 T' H' K) : WL P k n c m T H K := by
  obtain ⟨r, hr⟩ := h
  cases r with
  | zero => exact hr.elim
  | succ r => exact ⟨r + 1, W.rename L m2 hL hT hH hr⟩
/-- a loop whose rounds go down -/
theorem W.loop_ind {P : Program} {k n : Nat} {K : Exit → Nat → Tp → Hp → Prop} {c : Code} {α : Type} (μ : α → Nat) (m : Nat) (T : α → Tp) (H : α → Hp) (I : α → Prop) (x0 : α) (h0 : I x0)
    (hstep : ∀ x, I x → (∀ y, μ y < μ x → I y → WL P k n c m (T y) (H y) K) → W P k n c m (T x) (H x) (thenK (fun m T H => WL P k n c m T H K) K)) : W P k n (.loop c) m (T x0) (H x0) K := by
  refine W.loop ?_
  have key : ∀ q x, μ x = q → I x → WL P k n c m (T x) (H x) K := by
    intro q
    induction q using Nat.strongRecOn with
    | _ q ih => intro x hx hI; exact WL.step (hstep x hI fun y hy hIy => ih (μ y) (by omega) y rfl hIy)
  exact key _ x0 rfl h0
theorem AFn.ex {P : Program} {f : FuncId} {fn : Func} {code : Code} {k n : Nat} {args : List AV} {H : Hp} {Q : AV → Hp → Prop} (hf : P.funcs[f]? = some fn) (hb : fn.body = some code) (hn : fn.ntmps = n) (hl : args.length ≤ n)
    (h : W P k n code k (fun t => args[t]?) H (RetK P fn Q)) : ∃ v H', AFn P f k args H v H' ∧ Q v H' := AFn.of_W hf hb hn hl h
theorem AFn.eq {P : Program} {f : FuncId} {fn : Func} {code : Code} {k n : Nat} {args : List AV} {H H' : Hp} {v : AV} (hf : P.funcs[f]? = some fn) (hb : fn.body = some code) (hn : fn.ntmps = n) (hl : args.length ≤ n)
    (h : W P k n code k (fun t => args[t]?) H (RetK P fn fun u G => u = v ∧ G = H')) : AFn P f k args H v H' := by
  obtain ⟨u, G, h1, rfl, rfl⟩ := AFn.of_W hf hb hn hl h
  exact h1

/-! a call from outside -/
theorem AFn.below {P : Program} {f : FuncId} {args : List AV} {v : Value} {w : World} {vals : Array Value} (h : AFn P f 0 args mt (.base v) mt) (hs : vals.size = args.length) (hR : ∀ (i : Nat) x a, vals[i]? = some x → args[i]? = some a → Rep (fun _ => False) w mt x a) :
    Calls P f vals w fun e w' => e = .returned v ∧ Below w.heap.size w w' := by
  refine (h (fun _ => False) mt w vals hs hR ⟨fun r cs h => (by cases h), fun r r' cs cs' b o o' h => (by cases h)⟩ (fun _ _ => rfl)).mono ?_
  rintro e w' ⟨x, X', φ', rfl, h1, h2, h3⟩
  rw [h3.base_eq]
  exact ⟨rfl, ⟨h1.os, h1.tape, h1.output, h1.size, fun b hb => h1.same b hb fun r cs o h => (by cases h)⟩⟩
theorem Rep.of_cells {w : World} {φ : Em} {_B off len cap : Nat} {A : Option Addr} {xs : List Value} (hc : len ≤ cap) (hl : 0 < len → ∃ b, A = some ⟨b, off, none⟩ ∧ ∀ (j : Nat) u, xs[j]? = some u → w.cell? ⟨b, off + j, none⟩ = some u) (h0 : len = 0 → xs = []) (hn : 0 < len → xs ≠ []) (h1 : ∀ u ∈ xs, u.oneCell' = true) :
    Rep (fun _ => False) w φ (.slice A len cap) (.isl (xs.map AV.base) len) := by
  rcases Nat.eq_zero_or_pos len with h | h
  · rw [h0 h, h]; exact .isl0 _ _
  · obtain ⟨b, rfl, hcs⟩ := hl h
    · have hx := hn h
      have hx0 : 0 < xs.length := by cases xs with | nil => exact absurd rfl hx | cons _ _ => simp
      have hlt := World.block_lt_of_cell? w _ (hcs 0 xs[0] (List.getElem?_eq_getElem hx0))
      refine mk_isl hc hlt (fun h => h) fun i c hi => ?_
      simp only [List.getElem?_map] at hi
      cases hu : xs[i]? with
      | none => rw [hu] at hi; cases hi
      | some u =>
        rw [hu] at hi
        injection hi with hi
        subst hi
        exact ⟨h1 u (List.mem_of_getElem? hu), u, hcs i u hu, fun _ => .base u⟩
end Go.Proofs.Ytoijkcnefnmbjaa
