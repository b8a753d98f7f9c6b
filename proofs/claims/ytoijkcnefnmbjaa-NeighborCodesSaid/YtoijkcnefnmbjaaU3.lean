/-
  Operations on memory over values without addresses: loads, stores, new blocks, addresses, slices, appends.
-/
import Derived.Test.YtoijkcnefnmbjaaU2
namespace Go.Proofs.Ytoijkcnefnmbjaa
open Go.RowKit

inductive Lay where
  | int (k : IntKind) | bool | str
  | ptr (e : Nat) | sl (e : Nat) | arr (n e : Nat) | st (fs : List (Nat × Nat × Nat)) | map (k e : Nat) | other
def Lay.agg : Lay → Bool
  | .arr _ _ | .st _ => true
  | _ => false
def layOf (P : Program) : TypeDesc → Lay
  | .int k => .int k
  | .bool => .bool
  | .string => .str
  | .pointer e => .ptr e
  | .slice e => .sl e
  | .array n e => .arr n e
  | .struct fs => .st (fs.toList.map fun f => (f.offset, ((P.info? f.type).map (·.size)).getD 0, f.type))
  | .map k e => .map k e
  | _ => .other
def sizesOK (P : Program) : TypeDesc → Bool
  | .struct fs => fs.toList.all fun f => (P.info? f.type).isSome
  | _ => true
/-- what is known of a type: its form, its cells, its bytes, its zero -/
def tyB (P : Program) (t : TypeId) : Option (Lay × Nat × Nat × List AV) :=
  match P.underlying t, P.info? t with
  | some d, some inf => match inf.zero with
    | some z => if (z.cells.toList.map absC).length = inf.size ∧ z.cells.toList.all (·.oneCell') = true ∧ sizesOK P d = true then some (layOf P d, inf.size, inf.bytes, z.cells.toList.map absC) else none
    | none => none
  | _, _ => none
def TyOK (P : Program) (t : TypeId) (l : Lay) (size bytes : Nat) (zero : List AV) : Prop := tyB P t = some (l, size, bytes, zero)
theorem TyOK.spec {P : Program} {t : TypeId} {l : Lay} {size bytes : Nat} {zero : List AV} (h : TyOK P t l size bytes zero) :
    ∃ d inf z, P.underlying t = some d ∧ layOf P d = l ∧ P.info? t = some inf ∧ inf.size = size ∧ inf.bytes = bytes ∧ inf.zero = some z ∧ z.cells.toList.map absC = zero ∧ zero.length = size ∧ z.cells.toList.all (·.oneCell') = true ∧ sizesOK P d = true := by
  unfold TyOK tyB at h
  split at h
  · rename_i d inf hd hi
    split at h
    · rename_i z hz
      split at h
      · rename_i hc
        injection h with h
        simp only [Prod.mk.injEq] at h
        obtain ⟨h1, h2, h3, h4⟩ := h
        exact ⟨d, inf, z, hd, h1, hi, h2, h3, hz, h4, by rw [← h4, ← h2]; exact hc.1, hc.2.1, hc.2.2⟩
      · cases h
    · cases h
  · cases h

/-- vs lies in cs from k on -/
def Tk (cs : List AV) (k n : Nat) (vs : List AV) : Prop := vs.length = n ∧ ∀ (j : Nat) c, vs[j]? = some c → cs[k + j]? = some c
theorem Tk.nil {cs : List AV} : Tk cs 0 0 [] := ⟨rfl, fun j c h => by simp at h⟩
theorem Tk.cons {cs vs : List AV} {n : Nat} {c : AV} (h : Tk cs 0 n vs) : Tk (c :: cs) 0 (n + 1) (c :: vs) :=
  ⟨by simp [h.1], fun j d hj => by
    cases j with
    | zero => simpa using hj
    | succ j => have := h.2 j d (by simpa using hj); simpa [Nat.zero_add] using this⟩
theorem Tk.skip {cs vs : List AV} {k n : Nat} {c : AV} (h : Tk cs k n vs) : Tk (c :: cs) (k + 1) n vs :=
  ⟨h.1, fun j d hj => by
    have := h.2 j d hj
    rw [show k + 1 + j = (k + j) + 1 from by omega]
    simpa using this⟩
def tkC : List AV → Nat → Nat → Option (List AV)
  | _, 0, 0 => some []
  | c :: cs, 0, n + 1 => match tkC cs 0 n with
    | some l => some (c :: l)
    | none => none
  | _ :: cs, k + 1, n => tkC cs k n
  | [], _, _ => none
theorem Tk.lit : ∀ {cs vs : List AV} {k n : Nat}, tkC cs k n = some vs → Tk cs k n vs := by
  intro cs
  induction cs with
  | nil =>
    intro vs k n h
    cases k <;> cases n <;> simp [tkC] at h
    subst h; exact .nil
  | cons c cs ih =>
    intro vs k n h
    cases k with
    | zero =>
      cases n with
      | zero => simp [tkC] at h; subst h; exact .nil
      | succ n =>
        simp only [tkC] at h
        split at h
        · rename_i l hl
          injection h with h
          subst h
          exact .cons (ih hl)
        · cases h
    | succ k => simp only [tkC] at h; exact .skip (ih h)
theorem Tk.of (cs : List AV) (k n : Nat) (h : k + n ≤ cs.length) : Tk cs k n ((cs.drop k).take n) :=
  ⟨by simp; omega, fun j c hj => by
    rw [List.getElem?_take] at hj
    split at hj
    · simpa [List.getElem?_drop] using hj
    · cases hj⟩
theorem Tk.all (cs : List AV) : Tk cs 0 cs.length cs := ⟨rfl, fun j c hj => by rwa [Nat.zero_add]⟩

/-- cs with ns from k on is cs' -/
def Sp (cs : List AV) (k : Nat) (ns cs' : List AV) : Prop := k + ns.length ≤ cs.length ∧ cs'.length = cs.length ∧
  ∀ (j : Nat) c, cs'[j]? = some c → (k ≤ j ∧ ns[j - k]? = some c) ∨ ((j < k ∨ k + ns.length ≤ j) ∧ cs[j]? = some c)
theorem Sp.nil {cs : List AV} : Sp cs 0 [] cs := ⟨by simp, rfl, fun j c h => .inr ⟨.inr (by simp), h⟩⟩
theorem Sp.cons {cs ns cs' : List AV} {c n : AV} (h : Sp cs 0 ns cs') : Sp (c :: cs) 0 (n :: ns) (n :: cs') :=
  ⟨by have := h.1; simp at this ⊢; omega, by simp [h.2.1], fun j d hj => by
    cases j with
    | zero => exact .inl ⟨Nat.le_refl _, by simpa using hj⟩
    | succ j =>
      rcases h.2.2 j d (by simpa using hj) with ⟨h1, h2⟩ | ⟨h1, h2⟩
      · exact .inl ⟨Nat.zero_le _, by simpa using h2⟩
      · exact .inr ⟨.inr (by simp; omega), by simpa using h2⟩⟩
theorem Sp.skip {cs ns cs' : List AV} {k : Nat} {c : AV} (h : Sp cs k ns cs') : Sp (c :: cs) (k + 1) ns (c :: cs') :=
  ⟨by have := h.1; simp; omega, by simp [h.2.1], fun j d hj => by
    cases j with
    | zero => exact .inr ⟨.inl (by omega), by simpa using hj⟩
    | succ j =>
      rcases h.2.2 j d (by simpa using hj) with ⟨h1, h2⟩ | ⟨h1, h2⟩
      · exact .inl ⟨by omega, by rw [show j + 1 - (k + 1) = j - k from by omega]; exact h2⟩
      · exact .inr ⟨by omega, by simpa using h2⟩⟩
def spC : List AV → Nat → List AV → Option (List AV)
  | cs, 0, [] => some cs
  | _ :: cs, 0, n :: ns => match spC cs 0 ns with
    | some l => some (n :: l)
    | none => none
  | c :: cs, k + 1, ns => match spC cs k ns with
    | some l => some (c :: l)
    | none => none
  | [], _, _ => none
theorem Sp.lit : ∀ {cs ns cs' : List AV} {k : Nat}, spC cs k ns = some cs' → Sp cs k ns cs' := by
  intro cs
  induction cs with
  | nil =>
    intro ns cs' k h
    cases k <;> cases ns <;> simp [spC] at h
    subst h; exact .nil
  | cons c cs ih =>
    intro ns cs' k h
    cases k with
    | zero =>
      cases ns with
      | nil => simp [spC] at h; subst h; exact .nil
      | cons a ns =>
        simp only [spC] at h
        split at h
        · rename_i l hl
          injection h with h
          subst h
          exact .cons (ih hl)
        · cases h
    | succ k =>
      simp only [spC] at h
      split at h
      · rename_i l hl
        injection h with h
        subst h
        exact .skip (ih hl)
      · cases h
theorem Sp.set (cs : List AV) (k : Nat) (a : AV) (h : k < cs.length) : Sp cs k [a] (cs.set k a) :=
  ⟨by simp; omega, by simp, fun j c hj => by
    rw [List.getElem?_set] at hj
    split at hj
    · rename_i e
      subst e
      first | rw [if_pos h] at hj | skip
      exact .inl ⟨Nat.le_refl _, by simpa using hj⟩
    · exact .inr ⟨by simp; omega, hj⟩⟩
theorem Sp.of (cs : List AV) (k : Nat) (ns : List AV) (h : k + ns.length ≤ cs.length) : Sp cs k ns (cs.take k ++ ns ++ cs.drop (k + ns.length)) :=
  ⟨h, by simp; omega, fun j c hj => by
    simp only [List.getElem?_append, List.length_append, List.length_take, List.getElem?_take, List.getElem?_drop] at hj
    have hm : min k cs.length = k := by omega
    rw [hm] at hj
    by_cases h1 : j < k
    · simp [h1, show j < k + ns.length by omega] at hj
      exact .inr ⟨.inl h1, hj⟩
    · by_cases h2 : j < k + ns.length
      · simp [h1, h2] at hj
        exact .inl ⟨by omega, hj⟩
      · simp [h2] at hj
        rw [show k + ns.length + (j - (k + ns.length)) = j from by omega] at hj
        exact .inr ⟨.inr (by omega), hj⟩⟩

section
variable {P : Program} {t : TypeId} {l : Lay} {size bytes : Nat} {zero : List AV}
theorem TyOK.isAgg (h : TyOK P t l size bytes zero) (w : World) : (Go.isAgg t).run P w = .ok l.agg w := by
  obtain ⟨d, inf, z, h1, h2, _⟩ := h.spec
  subst h2
  unfold Go.isAgg
  rw [Sem.run_bind, run_underlying h1]
  cases d <;> rfl
theorem TyOK.sizeOf (h : TyOK P t l size bytes zero) (w : World) : (Go.sizeOf t).run P w = .ok size w := by
  obtain ⟨d, inf, z, h1, h2, h3, h4, _⟩ := h.spec
  simp [Go.sizeOf, typeInfo, h3, h4]
theorem TyOK.info (h : TyOK P t l size bytes zero) (w : World) : ∃ inf, (Go.typeInfo t).run P w = .ok inf w ∧ inf.bytes = bytes := by
  obtain ⟨d, inf, z, h1, h2, h3, h4, h5, _⟩ := h.spec
  exact ⟨inf, by simp [typeInfo, h3], h5⟩
theorem TyOK.zeroV (h : TyOK P t l size bytes zero) : ∃ z : Value, (∀ w, (Go.zeroValue t).run P w = .ok z w) ∧ z.cells.size = size ∧ z.cells.toList.map absC = zero ∧ zero.length = size ∧ (∀ u ∈ z.cells.toList, u.oneCell' = true) := by
  obtain ⟨d, inf, z, h1, h2, h3, h4, h5, h6, h7, h8, h9, _⟩ := h.spec
  refine ⟨z, fun w => by simp [Go.zeroValue, typeInfo, h3, h6], ?_, h7, h8, fun u hu => List.all_eq_true.1 h9 u hu⟩
  rw [← h8, ← h7]
  simp
theorem absC_one {u : Value} (h : u.oneCell' = true) : (absC u).one = true := by
  unfold absC
  split
  · rfl
  · exact h
end

section
variable {X : Nat → Prop} {w : World} {φ : Em}
theorem run_cells {P : Program} {b i : Nat} (cl : List AV) (h : ∀ (j : Nat) c, cl[j]? = some c → ∃ u, w.cell? ⟨b, i + j, none⟩ = some u ∧ Rep X w φ u c) :
    ∃ us : Array Value, us.size = cl.length ∧ (loadCells ⟨b, i, none⟩ cl.length).run P w = .ok us w ∧ ∀ (j : Nat) c, cl[j]? = some c → ∃ u, us[j]? = some u ∧ w.cell? ⟨b, i + j, none⟩ = some u ∧ Rep X w φ u c := by
  refine ⟨((List.range cl.length).map fun j => (w.cell? ⟨b, i + j, none⟩).getD undef).toArray, by simp, ?_, fun j c hj => ?_⟩
  · rw [run_loadCells w ⟨b, i, none⟩ cl.length (fun j => (w.cell? ⟨b, i + j, none⟩).getD undef) (fun j hj => ?_)]
    obtain ⟨u, hu, _⟩ := h j cl[j] (List.getElem?_eq_getElem hj)
    rw [Addr.add_lit, hu]
    rfl
  · obtain ⟨u, hu, hr⟩ := h j c hj
    have hlt : j < cl.length := (List.getElem?_eq_some_iff.1 hj).1
    exact ⟨u, by simp [hlt, hu], hu, hr⟩

theorem St.cells {K : Hp} {r b o : Nat} {cs : List AV} (hst : St X φ K w) (hr : K r = some cs) (hp : φ r = some (b, o)) : ∃ c e, X b ∧ w.heap[b]? = some (.cells c e (0, 0)) ∧ ∀ (j : Nat) a, cs[j]? = some a → a.one = true ∧ ∃ u, c[o + j]? = some u ∧ Rep X w φ u a := by
  obtain ⟨_, h⟩ | ⟨b', o', c, e, h1, h2, h3, h4⟩ := hst.1 r cs hr
  · rw [h] at hp; cases hp
  · rw [h1] at hp
    injection hp with hp
    injection hp with e1 e2
    subst e1 e2
    exact ⟨c, e, h2, h3, h4⟩

/-- one block that is owned becomes another -/
theorem St.put {K : Hp} {r b o : Nat} {cs cs' : List AV} {w' : World} {c c' : Array Value} {e : TypeId} {f : Nat} (hst : St X φ K w) (hr : K r = some cs) (hp : φ r = some (b, o)) (hh : w.heap[b]? = some (.cells c e (0, 0)))
    (hos : w'.os = w.os) (htp : w'.tape = w.tape) (hout : w'.output = w.output) (hsz : w'.heap.size = w.heap.size) (hoth : ∀ b', b' ≠ b → w'.heap[b']? = w.heap[b']?) (hb : w'.heap[b]? = some (.cells c' e (0, 0))) (hc : c'.size = c.size)
    (hcs : ∀ (j : Nat) a, cs'[j]? = some a → a.one = true ∧ ∃ u, c'[o + j]? = some u ∧ Rep X w φ u a) :
    Nxt K (· = f) X φ w (up K r (some cs')) X φ w' ∧ St X φ (up K r (some cs')) w' ∧ ∀ v a, Rep X w φ v a → Rep X w' φ v a := by
  obtain ⟨c0, e0, hX, hh0, _⟩ := hst.cells hr hp
  have hbs : ∀ b', bsz w' b' = bsz w b' := by
    intro b'
    by_cases h : b' = b
    · subst h; rw [bsz_of hb, bsz_of hh, hc]
    · unfold bsz; rw [hoth b' h]
  have hkeep : ∀ v a, Rep X w φ v a → Rep X w' φ v a := fun v a h =>
    h.keep (Nat.le_of_eq hsz.symm) (fun b' _ hx => hoth b' (fun e => hx (e ▸ hX))) (fun b' _ => hbs b') (fun _ _ h => h) (fun _ _ h => h)
  have hlv : ∀ r' cs1, up K r (some cs') r' = some cs1 → ∃ cs0, K r' = some cs0 := by
    intro r' cs1 h
    by_cases hrr : r' = r
    · subst hrr; exact ⟨cs, hr⟩
    · rw [up_ne hrr] at h; exact ⟨cs1, h⟩
  refine ⟨⟨hos, htp, hout, Nat.le_of_eq hsz.symm, fun b' _ hn => hoth b' (fun e => hn r cs o hr (by rw [hp, e])), fun b' _ => hbs b', fun _ _ h => h, fun _ _ h => .inl h, fun _ _ => rfl, fun r' cs1 b' o' h1 h2 => ?_⟩, ⟨fun r' cs1 h1 => ?_, fun r1 r2 c1 c2 b' o1 o2 h1 h2 h3 h4 => ?_⟩, hkeep⟩
  · obtain ⟨cs0, h0⟩ := hlv r' cs1 h1
    exact .inr ⟨r', cs0, o', h0, h2⟩
  · by_cases hrr : r' = r
    · subst hrr
      rw [up_at] at h1
      injection h1 with h1
      subst h1
      refine .inr ⟨b, o, c', e, hp, hX, hb, fun j a hj => ?_⟩
      obtain ⟨h5, u, h6, h7⟩ := hcs j a hj
      exact ⟨h5, u, h6, hkeep _ _ h7⟩
    · rw [up_ne hrr] at h1
      obtain hn | ⟨b', o', c1, e1, h2, h3, h4, h5⟩ := hst.1 r' cs1 h1
      · exact .inl hn
      · have hne : b' ≠ b := fun e => hrr (hst.2 r' r cs1 cs b' o' o h1 hr h2 (by rw [hp, e]))
        refine .inr ⟨b', o', c1, e1, h2, h3, by rw [hoth b' hne]; exact h4, fun j a hj => ?_⟩
        obtain ⟨h6, u, h7, h8⟩ := h5 j a hj
        exact ⟨h6, u, h7, hkeep _ _ h8⟩
  · obtain ⟨d1, g1⟩ := hlv r1 c1 h1
    obtain ⟨d2, g2⟩ := hlv r2 c2 h2
    exact hst.2 r1 r2 d1 d2 b' o1 o2 g1 g2 h3 h4

/-- a new block -/
theorem St.fresh {K : Hp} {f : Nat} {cs : List AV} {w' : World} {c : Array Value} {e : TypeId} (hst : St X φ K w) (hf : φ f = none)
    (hos : w'.os = w.os) (htp : w'.tape = w.tape) (hout : w'.output = w.output) (hheap : w'.heap = w.heap.push (.cells c e))
    (hcs : ∀ (j : Nat) a, cs[j]? = some a → a.one = true ∧ ∃ u, c[j]? = some u ∧ Rep X w φ u a) :
    let X' : Nat → Prop := fun b => X b ∨ b = w.heap.size
    let φ' : Em := fun r => if r = f then some (w.heap.size, 0) else φ r
    Nxt K (· = f) X φ w (up K f (some cs)) X' φ' w' ∧ St X' φ' (up K f (some cs)) w' ∧ (∀ v a, Rep X w φ v a → Rep X' w' φ' v a) ∧ bsz w' w.heap.size = c.size ∧ φ' f = some (w.heap.size, 0) := by
  intro X' φ'
  have hsz : w'.heap.size = w.heap.size + 1 := by rw [hheap]; simp
  have hold : ∀ b, b < w.heap.size → w'.heap[b]? = w.heap[b]? := fun b hb => by rw [hheap, Array.getElem?_push, if_neg (by omega)]
  have hnew : w'.heap[w.heap.size]? = some (.cells c e (0, 0)) := by rw [hheap]; simp
  have hbs : ∀ b, b < w.heap.size → bsz w' b = bsz w b := fun b hb => by unfold bsz; rw [hold b hb]
  have hφ : ∀ r x, φ r = some x → φ' r = some x := fun r x h => by
    show (if r = f then _ else _) = _
    rw [if_neg (fun e => by rw [e, hf] at h; cases h)]
    exact h
  have hφf : φ' f = some (w.heap.size, 0) := if_pos rfl
  have hφn : ∀ r, r ≠ f → φ' r = φ r := fun r h => if_neg h
  have hkeep : ∀ v a, Rep X w φ v a → Rep X' w' φ' v a := fun v a h =>
    h.keep (by omega) (fun b hb _ => hold b hb) hbs (fun b hb h => h.resolve_right (by omega)) hφ
  refine ⟨⟨hos, htp, hout, by omega, fun b hb _ => hold b hb, hbs, fun b hb h => h.resolve_right (by omega), fun b _ h => .inl (.inl h), fun r h => hφn r h, fun r cs1 b o h1 h2 => ?_⟩, ⟨fun r cs1 h1 => ?_, fun r1 r2 c1 c2 b o1 o2 h1 h2 h3 h4 => ?_⟩, hkeep, bsz_of hnew, hφf⟩
  · by_cases hr : r = f
    · subst hr; rw [hφf] at h2; injection h2 with h2; injection h2 with h2; exact .inl (by omega)
    · rw [up_ne hr] at h1
      rw [hφn r hr] at h2
      exact .inr ⟨r, cs1, o, h1, h2⟩
  · by_cases hr : r = f
    · subst hr
      rw [up_at] at h1
      injection h1 with h1
      subst h1
      refine .inr ⟨w.heap.size, 0, c, e, hφf, .inr rfl, hnew, fun j a hj => ?_⟩
      obtain ⟨h5, u, h6, h7⟩ := hcs j a hj
      exact ⟨h5, u, by rw [Nat.zero_add]; exact h6, hkeep _ _ h7⟩
    · rw [up_ne hr] at h1
      obtain ⟨hn, hn2⟩ | ⟨b', o', c1, e1, h2, h3, h4, h5⟩ := hst.1 r cs1 h1
      · exact .inl ⟨hn, by rw [hφn r hr]; exact hn2⟩
      · have hlt : b' < w.heap.size := by
          rcases Nat.lt_or_ge b' w.heap.size with h | h
          · exact h
          · rw [Array.getElem?_eq_none h] at h4; cases h4
        refine .inr ⟨b', o', c1, e1, by rw [hφn r hr]; exact h2, .inl h3, by rw [hold b' hlt]; exact h4, fun j a hj => ?_⟩
        obtain ⟨h6, u, h7, h8⟩ := h5 j a hj
        exact ⟨h6, u, h7, hkeep _ _ h8⟩
  · have hblk : ∀ r c' o, r ≠ f → K r = some c' → φ r = some (b, o) → b < w.heap.size := by
      intro r c' o _ hK hp
      obtain ⟨_, hn⟩ | ⟨b', o', d1, e1, g2, g3, g4, g5⟩ := hst.1 r c' hK
      · rw [hn] at hp; cases hp
      · rw [g2] at hp
        injection hp with hp
        injection hp with i1 i2
        subst i1
        rcases Nat.lt_or_ge b' w.heap.size with h | h
        · exact h
        · rw [Array.getElem?_eq_none h] at g4; cases g4
    by_cases hr1 : r1 = f
    · by_cases hr2 : r2 = f
      · rw [hr1, hr2]
      · exfalso
        subst hr1
        rw [hφf] at h3
        injection h3 with h3
        injection h3 with h3 _
        rw [up_ne hr2] at h2
        rw [hφn r2 hr2] at h4
        have := hblk r2 c2 o2 hr2 h2 h4
        omega
    · rw [up_ne hr1] at h1
      rw [hφn r1 hr1] at h3
      by_cases hr2 : r2 = f
      · exfalso
        subst hr2
        rw [hφf] at h4
        injection h4 with h4
        injection h4 with h4 _
        have := hblk r1 c1 o1 hr1 h1 h3
        omega
      · rw [up_ne hr2] at h2
        rw [hφn r2 hr2] at h4
        exact hst.2 r1 r2 c1 c2 b o1 o2 h1 h2 h3 h4

/-- a block is given up -/
theorem St.drop {K K' : Hp} (h : St X φ K w) (hK : ∀ r cs, K' r = some cs → K r = some cs) : St X φ K' w :=
  ⟨fun r cs hr => h.1 r cs (hK r cs hr), fun r r' cs cs' b o o' h1 h2 h3 h4 => h.2 r r' cs cs' b o o' (hK _ _ h1) (hK _ _ h2) h3 h4⟩
theorem Nxt.drop {H K' K'' : Hp} {f : Nat → Prop} {X' : Nat → Prop} {φ' : Em} {w' : World} (h : Nxt H f X φ w K' X' φ' w') (hK : ∀ r cs, K'' r = some cs → K' r = some cs) : Nxt H f X φ w K'' X' φ' w' :=
  { h with lv := fun r cs b o h1 h2 => h.lv r cs b o (hK r cs h1) h2 }
end
end Go.Proofs.Ytoijkcnefnmbjaa
