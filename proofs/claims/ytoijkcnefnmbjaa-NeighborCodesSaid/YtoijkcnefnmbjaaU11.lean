/-
  Calls, giving up what is owned, and new names.
-/
import Derived.Test.YtoijkcnefnmbjaaU10
namespace Go.Proofs.Ytoijkcnefnmbjaa
open Go.RowKit

/-! what is owned is given up: it may be read through from then on -/
def frX (X : Nat → Prop) (K : Hp) (φ : Em) (fr : List Nat) : Nat → Prop := fun b => X b ∧ ¬ ∃ r, r ∈ fr ∧ ∃ cs o, K r = some cs ∧ φ r = some (b, o)
def frK (K : Hp) (fr : List Nat) : Hp := fun r => if r ∈ fr then none else K r
theorem frK_nil (K : Hp) : frK K [] = K := by funext r; simp [frK]
theorem frK_sub {K : Hp} {fr : List Nat} : ∀ r cs, frK K fr r = some cs → K r = some cs := by
  intro r cs h
  unfold frK at h
  split at h
  · cases h
  · exact h

section
variable {X : Nat → Prop} {K : Hp} {φ : Em} {w : World} {fr : List Nat}
theorem Rep.frz {v : Value} {a : AV} (h : Rep X w φ v a) : Rep (frX X K φ fr) w φ v a :=
  h.keep (Nat.le_refl _) (fun _ _ _ => rfl) (fun _ _ => rfl) (fun _ _ h => h.1) (fun _ _ h => h)
theorem Nxt.frz {f : Nat → Prop} : Nxt K f X φ w (frK K fr) (frX X K φ fr) φ w where
  os := rfl
  tape := rfl
  output := rfl
  size := Nat.le_refl _
  same := fun _ _ _ => rfl
  bs := fun _ _ => rfl
  xs := fun _ _ h => h.1
  xk := fun b _ hx => by
    by_cases h : ∃ r, r ∈ fr ∧ ∃ cs o, K r = some cs ∧ φ r = some (b, o)
    · obtain ⟨r, _, cs, o, h1, h2⟩ := h
      exact .inr ⟨r, cs, o, h1, h2⟩
    · exact .inl ⟨hx, h⟩
  ph := fun _ _ => rfl
  lv := fun r cs b o h1 h2 => .inr ⟨r, cs, o, frK_sub r cs h1, h2⟩
theorem St.frz (h : St X φ K w) : St (frX X K φ fr) φ (frK K fr) w := by
  refine ⟨fun r cs hr => ?_, fun r r' cs cs' b o o' h1 h2 h3 h4 => h.2 r r' cs cs' b o o' (frK_sub _ _ h1) (frK_sub _ _ h2) h3 h4⟩
  have hr0 := frK_sub r cs hr
  have hnr : r ∉ fr := fun hm => by unfold frK at hr; rw [if_pos hm] at hr; cases hr
  obtain h1 | ⟨b, o, c, e, h1, h2, h3, h4⟩ := h.1 r cs hr0
  · exact .inl h1
  · refine .inr ⟨b, o, c, e, h1, ⟨h2, fun ⟨r', hm, cs', o', h5, h6⟩ => hnr ?_⟩, h3, fun j a hj => ?_⟩
    · rw [h.2 r r' cs cs' b o o' hr0 h5 h1 h6]; exact hm
    · obtain ⟨h5, u, h6, h7⟩ := h4 j a hj
      exact ⟨h5, u, h6, h7.frz⟩
theorem lt_heap {b : Nat} {o : Obj} (h : w.heap[b]? = some o) : b < w.heap.size := (Array.getElem?_eq_some_iff.1 h).1
theorem frz_cells {r b o : Nat} {cs : List AV} (hst : St X φ K w) (hm : r ∈ fr) (hr : K r = some cs) (hp : φ r = some (b, o)) : b < w.heap.size ∧ ¬ frX X K φ fr b ∧ ∀ (i : Nat) c, cs[i]? = some c → c.pure1 = true → c.one = true ∧ ∃ u, w.cell? ⟨b, o + i, none⟩ = some u ∧ ∀ φ' : Em, Rep (frX X K φ fr) w φ' u c := by
  obtain ⟨c, e, hX, hh, hcs⟩ := hst.cells hr hp
  refine ⟨lt_heap hh, fun hx => hx.2 ⟨r, hm, cs, o, hr, hp⟩, fun i a hi hpu => ?_⟩
  obtain ⟨h1, u, h2, h3⟩ := hcs i a hi
  exact ⟨h1, u, by rw [cell_of hh]; exact h2, fun φ' => (h3.frz).pure1 hpu⟩
theorem Rep.osl_frz {r off len sz : Nat} {cs vs : List AV} {v : Value} {φ' : Em} (h : Rep X w φ v (.osl r off len sz)) (hst : St X φ K w) (hm : r ∈ fr) (hr : K r = some cs) (hv : Tk cs off (len * sz) vs) (hp : vs.all AV.pure1 = true) : Rep (frX X K φ fr) w φ' v (.isl vs len) := by
  obtain ⟨A, cap, rfl, hc, ⟨h1, h2⟩ | ⟨b, o, hb, hA, hs⟩⟩ := h.osl_inv
  · subst h1
    have : vs = [] := List.eq_nil_of_length_eq_zero (by rw [hv.1]; simp)
    rw [this]
    exact .isl0 _ _
  · obtain ⟨g1, g2, g3⟩ := frz_cells (fr := fr) hst hm hr hb
    subst hA
    refine mk_isl hc g1 g2 fun i c hi => ?_
    obtain ⟨h3, u, h4, h5⟩ := g3 _ c (hv.2 i c hi) (List.all_eq_true.1 hp c (List.mem_of_getElem? hi))
    exact ⟨h3, u, by rw [Nat.add_assoc]; exact h4, h5⟩
theorem Rep.own_frz {r off : Nat} {cs : List AV} {v : Value} {φ' : Em} (h : Rep X w φ v (.own r off)) (hst : St X φ K w) (hm : r ∈ fr) (hr : K r = some cs) (hp : cs.all AV.pure1 = true) : Rep (frX X K φ fr) w φ' v (.imm cs off) := by
  obtain ⟨b, o, hb, rfl⟩ := h.own_inv
  obtain ⟨g1, g2, g3⟩ := frz_cells (fr := fr) hst hm hr hb
  exact mk_imm off g1 g2 fun i c hi => g3 i c hi (List.all_eq_true.1 hp c (List.mem_of_getElem? hi))
end

/-- a value, read through once the blocks fr are given up -/
inductive Fz1 (K : Hp) (fr : List Nat) : AV → AV → Prop
  | same {a : AV} (h : a.pure1 = true) : Fz1 K fr a a
  | osl {r off len sz : Nat} {cs vs : List AV} (hm : r ∈ fr) (hr : K r = some cs) (hv : Tk cs off (len * sz) vs) (hp : vs.all AV.pure1 = true) : Fz1 K fr (.osl r off len sz) (.isl vs len)
  | own {r off : Nat} {cs : List AV} (hm : r ∈ fr) (hr : K r = some cs) (hp : cs.all AV.pure1 = true) : Fz1 K fr (.own r off) (.imm cs off)
inductive FzL (K : Hp) (fr : List Nat) : List AV → List AV → Prop
  | nil : FzL K fr [] []
  | cons {a b : AV} {l l' : List AV} (h : Fz1 K fr a b) (hs : FzL K fr l l') : FzL K fr (a :: l) (b :: l')
inductive Fz (K : Hp) (fr : List Nat) : AV → AV → Prop
  | pure {a : AV} (h : a.pure = true) : Fz K fr a a
  | one {a b : AV} (h : Fz1 K fr a b) : Fz K fr a b
  | agg {cs cs' : List AV} (h : FzL K fr cs cs') : Fz K fr (.agg cs) (.agg cs')
  | nest {r off len sz : Nat} {cs vs vs' : List AV} (hm : r ∈ fr) (hr : K r = some cs) (hv : Tk cs off (len * sz) vs) (hz : FzL K fr vs vs') : Fz K fr (.osl r off len sz) (.isl vs' len)
theorem FzL.at {K : Hp} {fr : List Nat} {l l' : List AV} (h : FzL K fr l l') : l.length = l'.length ∧ ∀ (i : Nat) b, l'[i]? = some b → ∃ a, l[i]? = some a ∧ Fz1 K fr a b := by
  induction h with
  | nil => exact ⟨rfl, fun i b h => by simp at h⟩
  | cons h _ ih =>
    refine ⟨by simp [ih.1], fun i b hi => ?_⟩
    cases i with
    | zero => simp at hi; subst hi; exact ⟨_, rfl, h⟩
    | succ i => simpa using ih.2 i b (by simpa using hi)
section
variable {X : Nat → Prop} {K : Hp} {φ φ' : Em} {w : World} {fr : List Nat} {v : Value} {a b : AV}
theorem Fz1.rep (h : Fz1 K fr a b) (hst : St X φ K w) (hr : Rep X w φ v a) : Rep (frX X K φ fr) w φ' v b := by
  cases h with
  | same h => exact hr.frz.pure1 h
  | osl hm hk hv hp => exact hr.osl_frz hst hm hk hv hp
  | own hm hk hp => exact hr.own_frz hst hm hk hp
theorem Fz1.one (h : Fz1 K fr a b) (h1 : a.one = true) : b.one = true := by
  cases h with
  | same _ => exact h1
  | _ => rfl
theorem Fz.rep (h : Fz K fr a b) (hst : St X φ K w) (hr : Rep X w φ v a) : Rep (frX X K φ fr) w φ' v b := by
  cases h with
  | pure h => exact hr.frz.pure h
  | one h => exact h.rep hst hr
  | agg h =>
    cases hr with
    | agg vs _ hl h1 hh =>
      obtain ⟨g1, g2⟩ := h.at
      refine .agg _ _ (by rw [hl, g1]) (fun i c hi => ?_) fun i u c hu hi => ?_
      · obtain ⟨a, ha, hf⟩ := g2 i c hi
        exact hf.one (h1 i a ha)
      · obtain ⟨a, ha, hf⟩ := g2 i c hi
        exact hf.rep hst (hh i u a hu ha)
  | nest hm hk hv hz =>
    obtain ⟨g1, g2⟩ := hz.at
    obtain ⟨A, cap, rfl, hc, ⟨h1, h2⟩ | ⟨b, o, hb, hA, hs⟩⟩ := hr.osl_inv
    · subst h1
      have e0 := g1
      rw [hv.1, Nat.zero_mul] at e0
      rw [List.eq_nil_of_length_eq_zero e0.symm]
      exact .isl0 _ _
    · subst hA
      obtain ⟨c, e, hX, hh, hcs⟩ := hst.cells hk hb
      refine mk_isl hc (lt_heap hh) (fun hx => hx.2 ⟨_, hm, _, o, hk, hb⟩) fun i d hi => ?_
      obtain ⟨a, ha, hf⟩ := g2 i d hi
      obtain ⟨h3, u, h4, h5⟩ := hcs _ a (hv.2 i a ha)
      exact ⟨hf.one h3, u, by rw [cell_of hh, Nat.add_assoc]; exact h4, fun φ2 => hf.rep hst h5⟩
theorem Fz1.congr {K' : Hp} (h : Fz1 K fr a b) (hK : ∀ r, r ∈ fr → K' r = K r) : Fz1 K' fr a b := by
  cases h with
  | same h => exact .same h
  | osl hm hk hv hp => exact .osl hm ((hK _ hm).trans hk) hv hp
  | own hm hk hp => exact .own hm ((hK _ hm).trans hk) hp
theorem FzL.congr {K' : Hp} {l l' : List AV} (h : FzL K fr l l') (hK : ∀ r, r ∈ fr → K' r = K r) : FzL K' fr l l' := by
  induction h with
  | nil => exact .nil
  | cons h _ ih => exact .cons (h.congr hK) ih
theorem Fz.congr {K' : Hp} (h : Fz K fr a b) (hK : ∀ r, r ∈ fr → K' r = K r) : Fz K' fr a b := by
  cases h with
  | pure h => exact .pure h
  | one h => exact .one (h.congr hK)
  | agg h =>
    refine .agg ?_
    induction h with
    | nil => exact .nil
    | cons h _ ih => exact .cons (h.congr hK) ih
  | nest hm hk hv hz =>
    exact .nest hm ((hK _ hm).trans hk) hv (hz.congr hK)
end

/-- the arguments of a call; r: what is handed on to write -/
inductive Args (E : Operand → Option AV) (H : Hp) (fr : List Nat) (r : Option Nat) : List Operand → List AV → Prop
  | nil : Args E H fr r [] []
  | cons {x : Operand} {xs : List Operand} {a b : AV} {bs : List AV} (hx : E x = some a) (h : Fz H fr a b) (hs : Args E H fr r xs bs) : Args E H fr r (x :: xs) (b :: bs)
  | own {x : Operand} {xs : List Operand} {bs : List AV} {q off : Nat} (hr : r = some q) (hx : E x = some (.own q off)) (hs : Args E H fr r xs bs) : Args E H fr r (x :: xs) (.own 0 off :: bs)
  | osl {x : Operand} {xs : List Operand} {bs : List AV} {q off len sz : Nat} (hr : r = some q) (hx : E x = some (.osl q off len sz)) (hs : Args E H fr r xs bs) : Args E H fr r (x :: xs) (.osl 0 off len sz :: bs)

theorem Args.rep {E : Operand → Option AV} {H K : Hp} {fr : List Nat} {r : Option Nat} {X : Nat → Prop} {φ φ' : Em} {w : World} {ρ : Operand → Value} {xs : List Operand} {bs : List AV} (h : Args E H fr r xs bs) (hK : ∀ r, r ∈ fr → K r = H r) (hst : St X φ K w)
    (hR : ∀ x, x ∈ xs → ∀ a, E x = some a → Rep X w φ (ρ x) a) (hφ : ∀ q, r = some q → φ' 0 = φ q) : xs.length = bs.length ∧ ∀ (i : Nat) x b, (xs.map ρ)[i]? = some x → bs[i]? = some b → Rep (frX X K φ fr) w φ' x b := by
  induction h with
  | nil => exact ⟨rfl, fun i x b h => by simp at h⟩
  | cons hx h _ ih =>
    obtain ⟨g1, g2⟩ := ih fun y hy => hR y (by simp [hy])
    refine ⟨by simp [g1], fun i y b hy hb => ?_⟩
    cases i with
    | zero =>
      simp at hy hb
      subst hy hb
      exact (h.congr hK).rep hst (hR _ (by simp) _ hx)
    | succ i => exact g2 i y b (by simpa using hy) (by simpa using hb)
  | own hr hx _ ih =>
    obtain ⟨g1, g2⟩ := ih fun y hy => hR y (by simp [hy])
    refine ⟨by simp [g1], fun i y b hy hb => ?_⟩
    cases i with
    | zero =>
      simp at hy hb
      subst hy hb
      obtain ⟨b', o', hp, e⟩ := (hR _ (by simp) _ hx).own_inv
      rw [e]
      exact .own 0 _ b' o' (by rw [hφ _ hr]; exact hp)
    | succ i => exact g2 i y b (by simpa using hy) (by simpa using hb)
  | osl hr hx _ ih =>
    obtain ⟨g1, g2⟩ := ih fun y hy => hR y (by simp [hy])
    refine ⟨by simp [g1], fun i y b hy hb => ?_⟩
    cases i with
    | zero =>
      simp at hy hb
      subst hy hb
      obtain ⟨A, cap, e, hc, hcase⟩ := (hR _ (by simp) _ hx).osl_inv
      rw [e]
      rcases hcase with ⟨h1, h2⟩ | ⟨b', o', hp, h1, hs⟩
      · subst h1 h2; exact .osl0 _ _ _ _
      · subst h1; exact .osl 0 _ _ _ b' o' cap (by rw [hφ _ hr]; exact hp) hc hs
    | succ i => exact g2 i y b (by simpa using hy) (by simpa using hb)

section
variable {P : Program} {o : Oper} {E : Operand → Option AV} {H : Hp} {f : Nat} {v : AV} {g : FuncId} {xs : Array Operand} {ts : Array TypeId} {args : List AV} {fr : List Nat}

theorem nxt_pure {X X' : Nat → Prop} {φ φc φc' : Em} {K Hc Hc' : Hp} {w w' : World} {fc : Nat → Prop} (hst : St X φ K w) (hn : Nxt Hc fc X φc w Hc' X' φc' w') (hown : ∀ b o r cs, K r = some cs → φ r = some (b, o) → ∀ r' cs' o', Hc r' = some cs' → φc r' ≠ some (b, o'))
    (hno : ∀ r cs b o, Hc r = some cs → φc r = some (b, o) → X b) :
    (∀ v a, Rep X w φ v a → Rep X' w' φ v a) ∧ St X' φ K w' ∧ ∀ f : Nat → Prop, Nxt K f X φ w K X' φ w' → True := by
  have hkeep : ∀ v a, Rep X w φ v a → Rep X' w' φ v a := fun v a h => h.keep hn.size (fun b hb hx => hn.same b hb fun r cs o h1 h2 => hx (hno r cs b o h1 h2)) hn.bs hn.xs (fun _ _ h => h)
  refine ⟨hkeep, ⟨fun r cs hr => ?_, hst.2⟩, fun _ _ => trivial⟩
  obtain h1 | ⟨b, o', c, e, h1, h2, h3, h4⟩ := hst.1 r cs hr
  · exact .inl h1
  · have hlt := lt_heap h3
    refine .inr ⟨b, o', c, e, h1, ?_, ?_, fun j a hj => ?_⟩
    · rcases hn.xk b hlt h2 with h5 | ⟨r', cs', o2, h5, h6⟩
      · exact h5
      · exact absurd h6 (hown b o' r cs hr h1 r' cs' o2 h5)
    · rw [hn.same b hlt (hown b o' r cs hr h1)]; exact h3
    · obtain ⟨h5, u, h6, h7⟩ := h4 j a hj
      exact ⟨h5, u, h6, hkeep _ _ h7⟩

theorem ovr_frK {K : Hp} (_hK : ∀ r, r ∈ fr → K r = H r) : ovr K fr (frK H fr) = frK K fr := by
  funext r
  unfold ovr frK
  split <;> rfl

/-- a call that writes nothing that was there -/
theorem LO.call0 (ho : o.op = .call { callee := .value (.func g), args := xs, argTypes := ts }) (hE : E (.func g) = some (.base (.func (.func g) #[] #[]))) (h : AFn P g 0 args mt v mt) (hF : FnOK P g)
    (hargs : Args E H fr none xs.toList args) (hv : v.pure = true) : LO P o E H f [] fr v (frK H fr) := by
  refine ⟨fun r hr => if_neg hr, fun E' K hE' hK X φ w ρ hR hst hff => ?_⟩
  have hKf : ∀ r, r ∈ fr → K r = H r := fun r hr => hK r (.inr hr)
  rw [ovr_frK hKf]
  obtain ⟨fn, hf, hname, hb⟩ := hF
  have hops : o.op.operands = #[.func g] ++ xs := by rw [ho]; rfl
  have hρ : ρ (.func g) = .func (.func g) #[] #[] := (hR (.func g) _ ((hE' _ (by rw [hops]; simp)).trans hE)).base_eq
  unfold OpW
  rw [run_call ho hρ hf hname hb]
  obtain ⟨g1, g2⟩ := hargs.rep (K := K) (X := X) (φ := φ) (φ' := mt) (w := w) (ρ := ρ) hKf hst (fun x hx a ha => hR x a ((hE' x (by rw [hops]; simp; exact .inr (by simpa using hx))).trans ha)) (fun q h => by cases h)
  refine (h (frX X K φ fr) mt w (xs.map ρ) (by simp; simpa using g1) (fun i x a hx ha => g2 i x a (by simpa using hx) ha) ⟨fun r cs h => (by cases h), fun r r' cs cs' b o o' h => (by cases h)⟩ (fun _ _ => rfl)).mono ?_
  rintro e w' ⟨x, X', φ', rfl, h1, h2, h3⟩
  have hst1 := hst.frz (fr := fr)
  obtain ⟨k1, k2, _⟩ := nxt_pure hst1 h1 (fun _ _ _ _ _ _ _ _ _ h => by cases h) (fun _ _ _ _ h => by cases h)
  refine ⟨x, rfl, X', φ, ?_, k2, h3.pure hv⟩
  have hn2 : Nxt (frK K fr) (· = f) (frX X K φ fr) φ w (frK K fr) X' φ w' :=
    ⟨h1.os, h1.tape, h1.output, h1.size, fun b hb hn => h1.same b hb (fun _ _ _ h => by cases h), h1.bs, h1.xs, fun b hb hx => (h1.xk b hb hx).imp id fun ⟨_, _, _, h, _⟩ => (by cases h), fun _ _ => rfl, fun r cs b o h1 h2 => .inr ⟨r, cs, o, h1, h2⟩⟩
  exact Nxt.frz.trans hn2 fun _ h => h

/-- a call that makes what it hands back -/
theorem LO.callN {cs : List AV} (ho : o.op = .call { callee := .value (.func g), args := xs, argTypes := ts }) (hE : E (.func g) = some (.base (.func (.func g) #[] #[]))) (h : AFn P g 0 args mt (.own 0 0) (up mt 0 (some cs))) (hF : FnOK P g)
    (hargs : Args E H fr none xs.toList args) (hp : cs.all AV.pure1 = true) (hfr : f ∉ fr) : LO P o E H f [] (f :: fr) (.own f 0) (up (frK H fr) f (some cs)) := by
  refine ⟨fun r hr => by simp at hr; rw [up_ne hr.1]; exact if_neg hr.2, fun E' K hE' hK X φ w ρ hR hst hff => ?_⟩
  have hKf : ∀ r, r ∈ fr → K r = H r := fun r hr => hK r (.inr (by simp [hr]))
  have hov : ovr K (f :: fr) (up (frK H fr) f (some cs)) = up (frK K fr) f (some cs) := by
    funext r
    unfold ovr
    by_cases h1 : r = f
    · subst h1; simp [up_at]
    · rw [up_ne h1, up_ne h1]
      unfold frK
      by_cases h2 : r ∈ fr <;> simp [h1, h2]
  rw [hov]
  obtain ⟨fn, hf, hname, hb⟩ := hF
  have hops : o.op.operands = #[.func g] ++ xs := by rw [ho]; rfl
  have hρ : ρ (.func g) = .func (.func g) #[] #[] := (hR (.func g) _ ((hE' _ (by rw [hops]; simp)).trans hE)).base_eq
  unfold OpW
  rw [run_call ho hρ hf hname hb]
  obtain ⟨g1, g2⟩ := hargs.rep (K := K) (X := X) (φ := φ) (φ' := mt) (w := w) (ρ := ρ) hKf hst (fun x hx a ha => hR x a ((hE' x (by rw [hops]; simp; exact .inr (by simpa using hx))).trans ha)) (fun q h => by cases h)
  refine (h (frX X K φ fr) mt w (xs.map ρ) (by simp; simpa using g1) (fun i x a hx ha => g2 i x a (by simpa using hx) ha) ⟨fun r cs h => (by cases h), fun r r' cs cs' b o o' h => (by cases h)⟩ (fun _ _ => rfl)).mono ?_
  rintro e w' ⟨x, X', φ', rfl, h1, h2, h3⟩
  have hst1 := hst.frz (fr := fr)
  obtain ⟨k1, k2, _⟩ := nxt_pure hst1 h1 (fun _ _ _ _ _ _ _ _ _ h => by cases h) (fun _ _ _ _ h => by cases h)
  obtain ⟨b, o', hp0, rfl⟩ := h3.own_inv
  have hbn : w.heap.size ≤ b := by
    rcases h1.lv 0 cs b o' (up_at _ _ _) hp0 with h4 | ⟨_, _, _, h4, _⟩
    · exact h4
    · cases h4
  let φ2 : Em := fun r => if r = f then some (b, o') else φ r
  have hφf : φ2 f = some (b, o') := if_pos rfl
  have hφn : ∀ r, r ≠ f → φ2 r = φ r := fun r h => if_neg h
  have hφe : ∀ r y, φ r = some y → φ2 r = some y := fun r y h => by
    rw [hφn r (fun e => by rw [e, hff] at h; cases h)]; exact h
  have hkeep : ∀ v a, Rep X' w' φ v a → Rep X' w' φ2 v a := fun v a h => h.keep (Nat.le_refl _) (fun _ _ _ => rfl) (fun _ _ => rfl) (fun _ _ h => h) hφe
  refine ⟨_, rfl, X', φ2, ?_, ⟨fun r cs1 hr => ?_, fun r1 r2 c1 c2 b1 o1 o2 g1 g2 g3 g4 => ?_⟩, .own f 0 b o' hφf⟩
  · refine (Nxt.frz (fr := fr)).trans ⟨h1.os, h1.tape, h1.output, h1.size, fun b hb hn => h1.same b hb (fun _ _ _ h => by cases h), h1.bs, h1.xs, fun b hb hx => (h1.xk b hb hx).imp id fun ⟨_, _, _, h, _⟩ => (by cases h), fun r hr => hφn r hr, fun r cs1 b1 o1 g1 g2 => ?_⟩ fun _ h => h
    by_cases hr : r = f
    · subst hr
      rw [hφf] at g2
      injection g2 with g2
      injection g2 with g2 _
      exact .inl (by omega)
    · rw [up_ne hr] at g1
      rw [hφn r hr] at g2
      exact .inr ⟨r, cs1, o1, g1, g2⟩
  · by_cases hrf : r = f
    · subst hrf
      rw [up_at] at hr
      injection hr with hr
      subst hr
      obtain ⟨_, h4⟩ | ⟨b1, o1, c, el, h4, h5, h6, h7⟩ := h2.1 0 cs (up_at _ _ _)
      · rw [hp0] at h4; cases h4
      · rw [hp0] at h4
        injection h4 with h4
        injection h4 with e1 e2
        subst e1 e2
        refine .inr ⟨b, o', c, el, hφf, h5, h6, fun j a hj => ?_⟩
        obtain ⟨i1, u, i2, i3⟩ := h7 j a hj
        exact ⟨i1, u, i2, i3.pure1 (List.all_eq_true.1 hp a (List.mem_of_getElem? hj))⟩
    · rw [up_ne hrf] at hr
      obtain ⟨i1, i2⟩ | ⟨b1, o1, c, el, i1, i2, i3, i4⟩ := k2.1 r cs1 hr
      · exact .inl ⟨i1, by rw [hφn r hrf]; exact i2⟩
      · refine .inr ⟨b1, o1, c, el, by rw [hφn r hrf]; exact i1, i2, i3, fun j a hj => ?_⟩
        obtain ⟨j1, u, j2, j3⟩ := i4 j a hj
        exact ⟨j1, u, j2, hkeep _ _ j3⟩
  · have hlt : ∀ r c o2 b2, frK K fr r = some c → φ r = some (b2, o2) → b2 < w.heap.size := by
      intro r c o2 b2 i1 i2
      obtain ⟨_, i3⟩ | ⟨b3, o3, c3, el, i3, _, i4, _⟩ := hst1.1 r c i1
      · rw [i3] at i2; cases i2
      · rw [i3] at i2; injection i2 with i2; injection i2 with i2 _; subst i2; exact lt_heap i4
    by_cases hr1 : r1 = f
    · by_cases hr2 : r2 = f
      · rw [hr1, hr2]
      · exfalso
        rw [up_ne hr2] at g2
        rw [hφn r2 hr2] at g4
        rw [hr1, hφf] at g3
        injection g3 with g3
        injection g3 with g3 _
        have := hlt r2 c2 o2 b1 g2 g4
        omega
    · rw [up_ne hr1] at g1
      rw [hφn r1 hr1] at g3
      by_cases hr2 : r2 = f
      · exfalso
        rw [hr2, hφf] at g4
        injection g4 with g4
        injection g4 with g4 _
        have := hlt r1 c1 o1 b1 g1 g3
        omega
      · rw [up_ne hr2] at g2
        rw [hφn r2 hr2] at g4
        exact k2.2 r1 r2 c1 c2 b1 o1 o2 g1 g2 g3 g4

/-- a call that is handed one block to write -/
theorem LO.call1 {q : Nat} {cs cs' : List AV} (ho : o.op = .call { callee := .value (.func g), args := xs, argTypes := ts }) (hE : E (.func g) = some (.base (.func (.func g) #[] #[]))) (h : AFn P g 1 args (up mt 0 (some cs)) v (up mt 0 (some cs'))) (hF : FnOK P g)
    (hargs : Args E H fr (some q) xs.toList args) (hH : H q = some cs) (hp : cs.all AV.pure1 = true) (hp' : cs'.all AV.pure1 = true) (h0 : cs ≠ []) (hqf : q ∉ fr) (hv : v.pure = true) : LO P o E H f [] (q :: fr) v (up (frK H fr) q (some cs')) := by
  refine ⟨fun r hr => by simp at hr; rw [up_ne hr.1]; exact if_neg hr.2, fun E' K hE' hK X φ w ρ hR hst hff => ?_⟩
  have hKf : ∀ r, r ∈ fr → K r = H r := fun r hr => hK r (.inr (by simp [hr]))
  have hKq : K q = some cs := (hK q (.inr (by simp))).trans hH
  have hov : ovr K (q :: fr) (up (frK H fr) q (some cs')) = up (frK K fr) q (some cs') := by
    funext r
    unfold ovr
    by_cases h1 : r = q
    · subst h1; simp [up_at]
    · rw [up_ne h1, up_ne h1]
      unfold frK
      by_cases h2 : r ∈ fr <;> simp [h1, h2]
  rw [hov]
  obtain ⟨fn, hf, hname, hb⟩ := hF
  have hops : o.op.operands = #[.func g] ++ xs := by rw [ho]; rfl
  have hρ : ρ (.func g) = .func (.func g) #[] #[] := (hR (.func g) _ ((hE' _ (by rw [hops]; simp)).trans hE)).base_eq
  unfold OpW
  rw [run_call ho hρ hf hname hb]
  let φc : Em := fun i => if i = 0 then φ q else none
  obtain ⟨g1, g2⟩ := hargs.rep (K := K) (X := X) (φ := φ) (φ' := φc) (w := w) (ρ := ρ) hKf hst (fun x hx a ha => hR x a ((hE' x (by rw [hops]; simp; exact .inr (by simpa using hx))).trans ha)) (fun q' h => by injection h with h; subst h; exact if_pos rfl)
  have hst1 := hst.frz (fr := fr)
  have hKq1 : frK K fr q = some cs := by unfold frK; rw [if_neg hqf]; exact hKq
  obtain ⟨b0, o0, c0, el0, hq1, hq2, hq3, hq4⟩ : ∃ b o c e, φ q = some (b, o) ∧ frX X K φ fr b ∧ w.heap[b]? = some (.cells c e (0, 0)) ∧ (∀ (j : Nat) a, cs[j]? = some a → a.one = true ∧ ∃ u, c[o + j]? = some u ∧ Rep (frX X K φ fr) w φ u a) := by
    rcases hst1.1 q cs hKq1 with ⟨h1, _⟩ | h1
    · exact absurd h1 h0
    · exact h1
  have hc1 : ∀ r cs1, (up mt 0 (some cs) : Hp) r = some cs1 → r = 0 ∧ cs1 = cs := by
    intro r cs1 hr
    by_cases h1 : r = 0
    · subst h1; rw [up_at] at hr; injection hr with hr; exact ⟨rfl, hr.symm⟩
    · rw [up_ne h1] at hr; cases hr
  have hstc : St (frX X K φ fr) φc (up mt 0 (some cs)) w := by
    refine ⟨fun r cs1 hr => ?_, fun r r' c c' b o o' i1 i2 _ _ => by rw [(hc1 r c i1).1, (hc1 r' c' i2).1]⟩
    obtain ⟨rfl, rfl⟩ := hc1 r cs1 hr
    exact .inr ⟨b0, o0, c0, el0, by show (if 0 = 0 then φ q else none) = _; rw [if_pos rfl]; exact hq1, hq2, hq3, fun j a hj => by
      obtain ⟨i1, u, i2, i3⟩ := hq4 j a hj
      exact ⟨i1, u, i2, i3.pure1 (List.all_eq_true.1 hp a (List.mem_of_getElem? hj))⟩⟩
  refine (h (frX X K φ fr) φc w (xs.map ρ) (by simp; simpa using g1) (fun i x a hx ha => g2 i x a (by simpa using hx) ha) hstc (fun r hr => if_neg (by omega))).mono ?_
  rintro e w' ⟨x, X', φ', rfl, h1, h2, h3⟩
  have hφ0 : φ' 0 = some (b0, o0) := by rw [h1.ph 0 (by omega)]; show (if 0 = 0 then φ q else none) = _; rw [if_pos rfl]; exact hq1
  have hkeep : ∀ v a, Rep (frX X K φ fr) w φ v a → Rep X' w' φ v a := fun v a hr => hr.keep h1.size (fun b hb hx => h1.same b hb fun r cs1 o i1 i2 => by
      obtain ⟨rfl, rfl⟩ := hc1 r cs1 i1
      have : φ q = some (b, o) := i2
      rw [hq1] at this
      injection this with this
      injection this with this _
      subst this
      exact hx hq2) h1.bs h1.xs (fun _ _ h => h)
  have hne : ∀ r c b o, r ≠ q → frK K fr r = some c → φ r = some (b, o) → b ≠ b0 := fun r c b o i1 i2 i3 i4 => i1 (hst1.2 r q c cs b o o0 i2 hKq1 i3 (by rw [hq1, i4]))
  refine ⟨x, rfl, X', φ, ?_, ⟨fun r cs1 hr => ?_, fun r1 r2 c1 c2 b1 o1 o2 i1 i2 i3 i4 => ?_⟩, h3.pure hv⟩
  · refine (Nxt.frz (fr := fr)).trans ⟨h1.os, h1.tape, h1.output, h1.size, fun b hb hn => h1.same b hb (fun r cs1 o i1 i2 => ?_), h1.bs, h1.xs, fun b hb hx => ?_, fun _ _ => rfl, fun r cs1 b1 o1 i1 i2 => ?_⟩ fun _ h => h
    · obtain ⟨rfl, rfl⟩ := hc1 r cs1 i1
      exact hn q _ o hKq1 i2
    · rcases h1.xk b hb hx with i1 | ⟨r, cs1, o, i1, i2⟩
      · exact .inl i1
      · obtain ⟨rfl, rfl⟩ := hc1 r cs1 i1
        exact .inr ⟨q, _, o, hKq1, i2⟩
    · by_cases hr : r = q
      · subst hr; exact .inr ⟨r, cs, o1, hKq1, i2⟩
      · rw [up_ne hr] at i1; exact .inr ⟨r, cs1, o1, i1, i2⟩
  · by_cases hrq : r = q
    · subst hrq
      rw [up_at] at hr
      injection hr with hr
      subst hr
      obtain ⟨i1, i2⟩ | ⟨b1, o1, c, el, i1, i2, i3, i4⟩ := h2.1 0 cs' (up_at _ _ _)
      · rw [hφ0] at i2; cases i2
      · rw [hφ0] at i1
        injection i1 with i1
        injection i1 with e1 e2
        subst e1 e2
        refine .inr ⟨b0, o0, c, el, hq1, i2, i3, fun j a hj => ?_⟩
        obtain ⟨j1, u, j2, j3⟩ := i4 j a hj
        exact ⟨j1, u, j2, j3.pure1 (List.all_eq_true.1 hp' a (List.mem_of_getElem? hj))⟩
    · rw [up_ne hrq] at hr
      obtain i1 | ⟨b1, o1, c, el, i1, i2, i3, i4⟩ := hst1.1 r cs1 hr
      · exact .inl i1
      · have hbne := hne r cs1 b1 o1 hrq hr i1
        have hown : ∀ r' cs2 o2, (up mt 0 (some cs) : Hp) r' = some cs2 → φc r' ≠ some (b1, o2) := fun r' cs2 o2 k1 k2 => by
          obtain ⟨rfl, rfl⟩ := hc1 r' cs2 k1
          have : φ q = some (b1, o2) := k2
          rw [hq1] at this
          injection this with this
          injection this with this _
          exact hbne this.symm
        refine .inr ⟨b1, o1, c, el, i1, ?_, ?_, fun j a hj => ?_⟩
        · rcases h1.xk b1 (lt_heap i3) i2 with k1 | ⟨r', cs2, o2, k1, k2⟩
          · exact k1
          · exact absurd k2 (hown r' cs2 o2 k1)
        · rw [h1.same b1 (lt_heap i3) hown]; exact i3
        · obtain ⟨j1, u, j2, j3⟩ := i4 j a hj
          exact ⟨j1, u, j2, hkeep _ _ j3⟩
  · have hup : ∀ r c, up (frK K fr) q (some cs') r = some c → ∃ c', frK K fr r = some c' := fun r c hr => by
      by_cases hrq : r = q
      · subst hrq; exact ⟨cs, hKq1⟩
      · rw [up_ne hrq] at hr; exact ⟨c, hr⟩
    obtain ⟨d1, j1⟩ := hup r1 c1 i1
    obtain ⟨d2, j2⟩ := hup r2 c2 i2
    exact hst1.2 r1 r2 d1 d2 b1 o1 o2 j1 j2 i3 i4
end
end Go.Proofs.Ytoijkcnefnmbjaa
