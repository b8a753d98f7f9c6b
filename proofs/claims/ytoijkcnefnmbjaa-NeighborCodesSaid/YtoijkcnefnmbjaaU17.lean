/-
  What comes in, as the abstract machine sees it: opened by its type.
-/
import Derived.Test.YtoijkcnefnmbjaaU16
import Derived.ProofKit
import Derived.OpenShut
namespace Go.Proofs.Ytoijkcnefnmbjaa
open Go.ChangeShapes Go.WideShapes Go.ChangeAt Go.RowKit

/-- cells that stand for what is named -/
def CR (w : World) (cs : List Value) (avs : List AV) : Prop := cs.length = avs.length ∧ ∀ (i : Nat) v a, cs[i]? = some v → avs[i]? = some a → a.one = true ∧ a.pure1 = true ∧ Rep (fun _ => False) w mt v a
theorem CR.nil {w : World} : CR w [] [] := ⟨rfl, fun i v a h => by simp at h⟩
theorem CR.one {w : World} {v : Value} {a : AV} (h1 : a.one = true) (h0 : a.pure1 = true) (h : Rep (fun _ => False) w mt v a) : CR w [v] [a] := ⟨rfl, fun i u b hu hb => by
  cases i with
  | zero => simp at hu hb; subst hu hb; exact ⟨h1, h0, h⟩
  | succ i => simp at hu⟩
theorem CR.app {w : World} {c d : List Value} {avs bs : List AV} (h1 : CR w c avs) (h2 : CR w d bs) : CR w (c ++ d) (avs ++ bs) := by
  refine ⟨by rw [List.length_append, List.length_append, h1.1, h2.1], fun i v a hv ha => ?_⟩
  rcases Nat.lt_or_ge i c.length with hi | hi
  · rw [List.getElem?_append_left hi] at hv
    rw [List.getElem?_append_left (by rw [← h1.1]; exact hi)] at ha
    exact h1.2 i v a hv ha
  · rw [List.getElem?_append_right hi] at hv
    rw [List.getElem?_append_right (by rw [← h1.1]; exact hi), ← h1.1] at ha
    exact h2.2 _ v a hv ha

section
variable {H : Type}
/-- whatever was read as a value of a type stands for some x -/
def Opens (enc : TypeId × Value → H) (P : Program) (t : TypeId) {α : Type} (E : α → List AV) (ok : α → Prop) : Prop :=
  ∀ (w : World) (base : Nat) (spare : Nat → Bool) (held : Bool) (fuel : Nat) (cs : List Value) (y : DataW H × List MemPlace), DataW.trod enc P w base spare held fuel t cs = some y → ∃ x, ok x ∧ CR w cs (E x)
variable {enc : TypeId × Value → H} {P : Program} {t e : TypeId} {α β : Type} {E : α → List AV} {ok : α → Prop}

theorem Opens.int {k : IntKind} (ht : P.underlying t = some (.int k)) : Opens enc P t (fun (z : Int) => [.base (.int k z)]) (fun z => (Lit.int k z).wf = true) := fun _w _ _ _ _ _ _ h => by
  obtain ⟨n, rfl, _, hw⟩ := DataW.trod_int ht h
  exact ⟨n, hw, .one rfl rfl (.base _)⟩
theorem Opens.bool (ht : P.underlying t = some .bool) : Opens enc P t (fun (b : Bool) => [.base (.bool b)]) (fun _ => True) := fun _w _ _ _ _ _ _ h => by
  obtain ⟨b, rfl, _⟩ := DataW.trod_bool ht h
  exact ⟨b, trivial, .one rfl rfl (.base _)⟩
theorem Opens.str (ht : P.underlying t = some .string) : Opens enc P t (fun (s : ByteArray) => [.base (.string s)]) (fun s => s.size ≤ maxLen) := fun _w _ _ _ _ _ _ h => by
  obtain ⟨s, rfl, _, hw⟩ := DataW.trod_string ht h
  exact ⟨s, hw, .one rfl rfl (.base _)⟩
theorem Opens.map {E' : β → List AV} {ok' : β → Prop} (h : Opens enc P t E ok) (g : α → β) (hE : ∀ x, ok x → E' (g x) = E x) (hok : ∀ x, ok x → ok' (g x)) : Opens enc P t E' ok' := fun w b s hd f cs y hy => by
  obtain ⟨x, h1, h2⟩ := h w b s hd f cs y hy
  exact ⟨g x, hok x h1, by rw [hE x h1]; exact h2⟩

theorem Addr.add_add (a : Addr) (i j : Nat) : (a.add i).add j = a.add (i + j) := by
  unfold Addr.add
  by_cases hi : i = 0 <;> by_cases hj : j = 0 <;> simp [hi, hj, Nat.add_assoc]
theorem add_none (a : Addr) (hs : a = ⟨a.block, a.off, none⟩) (i : Nat) : a.add i = ⟨a.block, a.off + i, none⟩ := by
  obtain ⟨b, o, s⟩ := a
  simp only [Addr.mk.injEq, true_and] at hs
  subst hs
  unfold Addr.add
  split <;> simp [*]
theorem spotless {w : World} {a : Addr} {v : Value} (h : w.cell? a = some v) : a = ⟨a.block, a.off, none⟩ := by
  obtain ⟨b, o, s⟩ := a
  cases s with
  | none => rfl
  | some s => simp [World.cell?] at h; split at h <;> simp at h
/-- the same number of cells for each -/
theorem flat_at {f : α → List AV} {n : Nat} (h : ∀ x, ok x → (f x).length = n) : ∀ (l : List α), (∀ x ∈ l, ok x) → ∀ (i : Nat) a, (l.flatMap f)[i]? = some a → ∃ k j x, i = k * n + j ∧ j < n ∧ l[k]? = some x ∧ (f x)[j]? = some a := by
  intro l
  induction l with
  | nil => intro _ i a h; simp at h
  | cons x l ih =>
    intro hok i a hi
    have hx := h x (hok x (by simp))
    rw [List.flatMap_cons] at hi
    rcases Nat.lt_or_ge i n with hl | hl
    · rw [List.getElem?_append_left (by omega)] at hi
      exact ⟨0, i, x, by omega, hl, rfl, hi⟩
    · rw [List.getElem?_append_right (by omega), hx] at hi
      obtain ⟨k, j, z, h1, h2, h3, h4⟩ := ih (fun x hx => hok x (by simp [hx])) _ _ hi
      exact ⟨k + 1, j, z, by rw [Nat.add_mul]; omega, h2, h3, h4⟩
theorem pick_list {p : Nat → α → Prop} : ∀ (n : Nat), (∀ i, i < n → ∃ x, p i x) → ∃ l : List α, l.length = n ∧ ∀ (i : Nat) x, l[i]? = some x → p i x := by
  intro n
  induction n with
  | zero => intro _; exact ⟨[], rfl, fun i x h => by simp at h⟩
  | succ n ih =>
    intro h
    obtain ⟨l, h1, h2⟩ := ih fun i hi => h i (by omega)
    obtain ⟨x, hx⟩ := h n (by omega)
    refine ⟨l ++ [x], by simp [h1], fun i y hy => ?_⟩
    rcases Nat.lt_or_ge i n with hi | hi
    · rw [List.getElem?_append_left (by omega)] at hy; exact h2 i y hy
    · rw [List.getElem?_append_right (by omega)] at hy
      have : i - l.length = 0 := by have := (List.getElem?_eq_some_iff.1 hy).1; simp at this; omega
      rw [this] at hy
      simp at hy
      subst hy
      rw [show i = n from by omega]
      exact hx
theorem Opens.slice {n : Nat} (ht : P.underlying t = some (.slice e)) (he : Opens enc P e E ok) (hn : P.cellsOf e = n) (h0 : 0 < n) (hl : ∀ x, ok x → (E x).length = n) : Opens enc P t (fun (l : List α) => [.isl (l.flatMap E) l.length]) (fun l => l.length ≤ maxLen ∧ ∀ x ∈ l, ok x) := fun w base spare held fuel cs y h => by
  rcases DataW.trod_slice ht h with ⟨rfl, _⟩ | ⟨a, len, cap, elems, rest, m, _, rfl, _, hb, hlc, hm, hlen, hel, _, _⟩
  · exact ⟨[], ⟨Nat.zero_le _, fun x h => by cases h⟩, .one rfl rfl (.isl0 _ _)⟩
  · rw [hn] at hel
    have each : ∀ i, i < len → ∃ x : α, ok x ∧ ∀ (j : Nat) c, (E x)[j]? = some c → c.one = true ∧ c.pure1 = true ∧ ∃ v, w.cell? (a.add (i * n + j)) = some v ∧ Rep (fun _ => False) w mt v c := by
      intro i hi
      have h1 := hel i hi
      rw [List.getElem?_eq_getElem (by omega), Option.bind_eq_some_iff] at h1
      obtain ⟨cs', hc1, hc2⟩ := h1
      obtain ⟨_, hc3, hc4⟩ := World.cells?_some hc1
      obtain ⟨x, hx1, hx2, hx3⟩ := he w base spare held m cs' _ hc2
      refine ⟨x, hx1, fun j c hj => ?_⟩
      have hj1 : j < n := by have := (List.getElem?_eq_some_iff.1 hj).1; have := hl x hx1; omega
      have hj2 : cs'[j]? = some (cs'[j]'(by omega)) := List.getElem?_eq_getElem (by omega)
      obtain ⟨k1, k0, k2⟩ := hx3 j _ c hj2 hj
      refine ⟨k1, k0, _, ?_, k2⟩
      have := hc4 j hj1
      rw [hj2] at this
      rw [← this, Addr.add_add]
    obtain ⟨l, hl1, hl2⟩ := pick_list len each
    have hokl : ∀ x ∈ l, ok x := fun x hx => by
      obtain ⟨i, hi⟩ := List.getElem?_of_mem hx
      exact (hl2 i x hi).1
    refine ⟨l, ⟨by omega, hokl⟩, .one rfl rfl ?_⟩
    rcases Nat.eq_zero_or_pos len with hz | hz
    · obtain rfl : l = [] := List.length_eq_zero_iff.1 (by omega)
      obtain rfl : len = 0 := hz
      exact .isl0 _ _
    · have hx0 := hl2 0 (l[0]'(by omega)) (List.getElem?_eq_getElem (by omega))
      have hE0 := hl _ hx0.1
      obtain ⟨_, _, v0, hv0, _⟩ := hx0.2 0 _ (List.getElem?_eq_getElem (by omega))
      rw [show a.add (0 * n + 0) = a from by simp [Addr.add]] at hv0
      have hs := spotless hv0
      rw [hs, hl1]
      refine mk_isl hlc (World.block_lt_of_cell? w _ hv0) (fun h => h) fun i c hi => ?_
      obtain ⟨k, j, x, rfl, hj, hk, hc⟩ := flat_at hl l hokl i c hi
      obtain ⟨k1, hp, v, hv, hr⟩ := (hl2 k x hk).2 j c hc
      refine ⟨k1, v, ?_, fun φ' => hr.pure1 hp⟩
      rw [← hv, add_none a hs]

/-- fields one after the other -/
def OpensFs (enc : TypeId × Value → H) (P : Program) (fs : List Field) (off total : Nat) {α : Type} (E : α → List AV) (ok : α → Prop) : Prop :=
  ∀ (w : World) (base : Nat) (spare : Nat → Bool) (held : Bool) (m : Nat) (cs : List Value), cs.length = total → (∀ (i : Nat) f, fs[i]? = some f → ∃ y, DataW.trod enc P w base spare held m f.type ((cs.drop f.offset).take (P.cellsOf f.type)) = some y) → ∃ x, ok x ∧ CR w (cs.drop off) (E x)
theorem OpensFs.nil {off total : Nat} (h : off = total) : OpensFs enc P [] off total (fun (_ : Unit) => []) (fun _ => True) := fun w _ _ _ _ cs hl _ => ⟨(), trivial, by
  rw [List.drop_eq_nil_of_le (by omega)]; exact .nil⟩
theorem OpensFs.cons {f : Field} {fs : List Field} {off total n : Nat} {E' : β → List AV} {ok' : β → Prop} (h : Opens enc P f.type E ok) (ho : f.offset = off) (hn : P.cellsOf f.type = n) (hs : OpensFs enc P fs (off + n) total E' ok') :
    OpensFs enc P (f :: fs) off total (fun (p : α × β) => E p.1 ++ E' p.2) (fun p => ok p.1 ∧ ok' p.2) := fun w base spare held m cs hl hf => by
  obtain ⟨y, hy⟩ := hf 0 f rfl
  obtain ⟨x, hx1, hx2⟩ := h w base spare held m _ y hy
  obtain ⟨z, hz1, hz2⟩ := hs w base spare held m cs hl fun i g hg => hf (i + 1) g (by simpa using hg)
  refine ⟨(x, z), ⟨hx1, hz1⟩, ?_⟩
  rw [ho, hn] at hx2
  have := hx2.app hz2
  rwa [show cs.drop (off + n) = (cs.drop off).drop n from by rw [List.drop_drop], List.take_append_drop] at this
theorem Opens.struct {fs : List Field} {total : Nat} (ht : P.underlying t = some (.struct fs.toArray)) (hc : P.cellsOf t = total) (h : OpensFs enc P fs 0 total E ok) : Opens enc P t E ok := fun w base spare held fuel cs y hy => by
  obtain ⟨xs, n, _, _, hl, hxs, hf⟩ := DataW.trod_struct ht hy
  have := h w base spare held n cs (by omega) fun i f hi => by
    have hi2 : fs.toArray[i]? = some f := by simpa using hi
    have h1 := hf i f hi2
    have h2 : i < xs.length := by
      have := (List.getElem?_eq_some_iff.1 hi).1
      simp at hxs; omega
    exact ⟨xs[i], by rw [h1]; exact List.getElem?_eq_getElem h2⟩
  simpa using this
theorem Opens.array {n m : Nat} (ht : P.underlying t = some (.array n e)) (hc : P.cellsOf t = n * m) (hm : P.cellsOf e = m) (he : Opens enc P e E ok) : Opens enc P t (fun (l : List α) => l.flatMap E) (fun l => l.length = n ∧ ∀ x ∈ l, ok x) := fun w base spare held fuel cs y hy => by
  obtain ⟨xs, q, _, _, hl, hxs, hel⟩ := DataW.trod_array ht hy
  rw [hm] at hel
  rw [hc] at hl
  have key : ∀ k, k ≤ n → ∃ l : List α, l.length = k ∧ (∀ x ∈ l, ok x) ∧ CR w (cs.take (k * m)) (l.flatMap E) := by
    intro k
    induction k with
    | zero => intro _; exact ⟨[], rfl, fun x h => (by cases h), by simpa using CR.nil⟩
    | succ k ih =>
      intro hk
      obtain ⟨l, h1, h2, h3⟩ := ih (by omega)
      have h4 := hel k (by omega)
      rw [List.getElem?_eq_getElem (by omega)] at h4
      obtain ⟨x, hx1, hx2⟩ := he w base spare held q _ _ h4
      refine ⟨l ++ [x], by simp [h1], fun z hz => ?_, ?_⟩
      · rcases List.mem_append.1 hz with h | h
        · exact h2 z h
        · simp at h; subst h; exact hx1
      · have := h3.app hx2
        rw [show (k + 1) * m = k * m + m from by rw [Nat.add_mul, Nat.one_mul], List.take_add, List.flatMap_append]
        simpa using this
  obtain ⟨l, h1, h2, h3⟩ := key n (Nat.le_refl _)
  refine ⟨l, ⟨h1, h2⟩, ?_⟩
  rwa [List.take_of_length_le (by omega)] at h3

/-! arguments -/
theorem tAll_cons {w : World} {b0 : Nat} {spare : Nat → Bool} {held : Bool} {ts : List TypeId} {vs : List Value} {ds : List (DataW H)} {ps : List MemPlace} (h : DataW.TrodAll enc P w b0 spare held (t :: ts) vs ds ps) :
    ∃ v vs' d ds' p q, vs = v :: vs' ∧ ds = d :: ds' ∧ ps = p ++ q ∧ DataW.Trod enc P w b0 spare held t v d p ∧ DataW.TrodAll enc P w b0 spare held ts vs' ds' q := by
  cases vs with
  | nil => exact h.elim
  | cons v vs =>
    cases ds with
    | nil => exact h.elim
    | cons d ds =>
      obtain ⟨p, q, h1, h2, h3⟩ := h
      exact ⟨v, vs, d, ds, p, q, rfl, rfl, h3, h1, h2⟩
theorem tAll_nil {w : World} {b0 : Nat} {spare : Nat → Bool} {held : Bool} {vs : List Value} {ds : List (DataW H)} {ps : List MemPlace} (h : DataW.TrodAll enc P w b0 spare held [] vs ds ps) : vs = [] ∧ ds = [] ∧ ps = [] := by
  cases vs with
  | nil =>
    cases ds with
    | nil => exact ⟨rfl, rfl, h⟩
    | cons d ds => exact h.elim
  | cons v vs => cases ds <;> exact h.elim
theorem Opens.argI {w : World} {r : Reach} {base : Nat} {spare : Nat → Bool} {held : Bool} {b0 : Nat} {v : Value} {d : DataW H} {p : List MemPlace} {k : IntKind} (ht : P.underlying t = some (.int k)) (_hv : Value.okWide P w r base t v) (h : DataW.Trod enc P w b0 spare held t v d p) :
    ∃ z : Int, v = .int k z ∧ (Lit.int k z).wf = true := by
  obtain ⟨z, h1, _, _, h2⟩ := open_int ht _hv h
  exact ⟨z, h1, h2⟩
theorem Opens.argS {w : World} {r : Reach} {base : Nat} {spare : Nat → Bool} {held : Bool} {b0 : Nat} {v : Value} {d : DataW H} {p : List MemPlace} (ht : P.underlying t = some (.slice e)) (hv : Value.okWide P w r base t v) (h : DataW.Trod enc P w b0 spare held t v d p) {F : α → AV} (ho : Opens enc P t (fun x => [F x]) ok) :
    ∃ x, ok x ∧ Rep (fun _ => False) w mt v (F x) := by
  obtain ⟨a, len, cap, rfl⟩ := okWide_slice ht hv
  obtain ⟨fuel, hf⟩ := h
  obtain ⟨x, h1, h2⟩ := ho w _ _ _ _ _ _ hf
  exact ⟨x, h1, (h2.2 0 _ _ rfl rfl).2.2⟩
theorem CR.agg {w : World} {cs : Array Value} {avs : List AV} (h : CR w cs.toList avs) : Rep (fun _ => False) w mt (.agg cs) (.agg avs) := by
  have hl : cs.size = avs.length := by simpa using h.1
  refine .agg cs avs hl (fun i c hc => ?_) fun i v c hv hc => (h.2 i v c (by simpa using hv) hc).2.2
  have hi : i < cs.size := by have := (List.getElem?_eq_some_iff.1 hc).1; omega
  exact (h.2 i cs[i] c (by simp [hi]) hc).1
theorem Opens.argT {w : World} {r : Reach} {base : Nat} {spare : Nat → Bool} {held : Bool} {b0 : Nat} {v : Value} {d : DataW H} {p : List MemPlace} {fs : Array Field} (ht : P.underlying t = some (.struct fs)) (hv : Value.okWide P w r base t v) (h : DataW.Trod enc P w b0 spare held t v d p) (ho : Opens enc P t E ok) :
    ∃ x, ok x ∧ Rep (fun _ => False) w mt v (.agg (E x)) := by
  obtain ⟨cs, rfl, _⟩ := okWide_struct ht hv
  obtain ⟨fuel, hf⟩ := h
  obtain ⟨x, h1, h2⟩ := ho w _ _ _ _ _ _ hf
  exact ⟨x, h1, h2.agg⟩
theorem Opens.argA {w : World} {r : Reach} {base : Nat} {spare : Nat → Bool} {held : Bool} {b0 : Nat} {v : Value} {d : DataW H} {p : List MemPlace} {n : Nat} (ht : P.underlying t = some (.array n e)) (hv : Value.okWide P w r base t v) (h : DataW.Trod enc P w b0 spare held t v d p) (ho : Opens enc P t E ok) :
    ∃ x, ok x ∧ Rep (fun _ => False) w mt v (.agg (E x)) := by
  simp only [Value.okWide, ht] at hv
  obtain ⟨cs, rfl, _, _⟩ := hv
  obtain ⟨fuel, hf⟩ := h
  obtain ⟨x, h1, h2⟩ := ho w _ _ _ _ _ _ hf
  exact ⟨x, h1, h2.agg⟩
end
end Go.Proofs.Ytoijkcnefnmbjaa
