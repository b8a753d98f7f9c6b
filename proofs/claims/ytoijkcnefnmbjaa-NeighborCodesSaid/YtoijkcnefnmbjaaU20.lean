/-
  A call that takes over a slice and hands a new one back.
-/
import Derived.Test.YtoijkcnefnmbjaaU19
namespace Go.Proofs.Ytoijkcnefnmbjaa
open Go.RowKit
section
variable {P : Program} {o : Oper} {E : Operand → Option AV} {H : Hp} {f : Nat} {v v' : AV} {g : FuncId} {xs : Array Operand} {ts : Array TypeId} {args : List AV} {fr : List Nat}
theorem LO.callT {q : Nat} {cs cs' : List AV} (ho : o.op = .call { callee := .value (.func g), args := xs, argTypes := ts }) (hE : E (.func g) = some (.base (.func (.func g) #[] #[]))) (h : AFn P g 1 args (up mt 0 (some cs)) v (up mt 1 (some cs'))) (hF : FnOK P g)
    (hargs : Args E H fr (some q) xs.toList args) (hH : H q = some cs) (hp : cs.all AV.pure1 = true) (hp' : cs'.all AV.pure1 = true) (h0 : cs ≠ []) (hqf : q ∉ fr) (hff2 : f ∉ fr) (hqn : q ≠ f) (hv : ∀ (X : Nat → Prop) (w : World) (φ φ2 : Em) (x : Value), Rep X w φ x v → φ2 f = φ 1 → Rep X w φ2 x v') :
    LO P o E H f [] (f :: q :: fr) v' (up (up (frK H fr) q none) f (some cs')) := by
  refine ⟨fun r hr => by simp at hr; rw [up_ne hr.1, up_ne hr.2.1]; exact if_neg hr.2.2, fun E' K hE' hK X φ w ρ hR hst hff => ?_⟩
  have hKf : ∀ r, r ∈ fr → K r = H r := fun r hr => hK r (.inr (by simp [hr]))
  have hKq : K q = some cs := (hK q (.inr (by simp))).trans hH
  have hov : ovr K (f :: q :: fr) (up (up (frK H fr) q none) f (some cs')) = up (up (frK K fr) q none) f (some cs') := by
    funext r
    unfold ovr
    by_cases h1 : r = f
    · subst h1; simp [up_at]
    · rw [up_ne h1, up_ne h1]
      by_cases h2 : r = q
      · subst h2; simp [up_at]
      · rw [up_ne h2, up_ne h2]
        unfold frK
        by_cases h3 : r ∈ fr <;> simp [h1, h2, h3]
  rw [hov]
  obtain ⟨fn, hf, hname, hb⟩ := hF
  have hops : o.op.operands = #[.func g] ++ xs := by rw [ho]; rfl
  have hρ : ρ (.func g) = .func (.func g) #[] #[] := (hR (.func g) _ ((hE' _ (by rw [hops]; simp)).trans hE)).base_eq
  unfold OpW
  rw [run_call ho hρ hf hname hb]
  let φc : Em := fun i => if i = 0 then φ q else none
  obtain ⟨g1, g2⟩ := hargs.rep (K := K) (X := X) (φ := φ) (φ' := φc) (w := w) (ρ := ρ) hKf hst (fun x hx a ha => hR x a ((hE' x (by rw [hops]; simp; exact .inr (by simpa using hx))).trans ha)) (fun q' h => by injection h with h; subst h; exact if_pos rfl)
  have hst1 := hst.frz (fr := fr)
  have hKq1 : frK K fr q = some cs := by unfold frK; rw [if_neg hqf]; exact hKq
  obtain ⟨b0, o0, c0, el0, hq1, hq2, hq3, hq4⟩ : ∃ b o c e, φ q = some (b, o) ∧ frX X K φ fr b ∧ w.heap[b]? = some (.cells c e (0, 0)) ∧ (∀ (j : Nat) a, cs[j]? = some a → a.one = true ∧ ∃ u, c[o + j]? = some u ∧ Rep (frX X K φ fr) w φ u a) := by
    rcases hst1.1 q cs hKq1 with ⟨h1, _⟩ | h1
    · exact absurd h1 h0
    · exact h1
  have hc1 : ∀ r cs1, (up mt 0 (some cs) : Hp) r = some cs1 → r = 0 ∧ cs1 = cs := by
    intro r cs1 hr
    by_cases h1 : r = 0
    · subst h1; rw [up_at] at hr; injection hr with hr; exact ⟨rfl, hr.symm⟩
    · rw [up_ne h1] at hr; cases hr
  have hstc : St (frX X K φ fr) φc (up mt 0 (some cs)) w := by
    refine ⟨fun r cs1 hr => ?_, fun r r' c c' b o o' i1 i2 _ _ => by rw [(hc1 r c i1).1, (hc1 r' c' i2).1]⟩
    obtain ⟨rfl, rfl⟩ := hc1 r cs1 hr
    exact .inr ⟨b0, o0, c0, el0, by show (if 0 = 0 then φ q else none) = _; rw [if_pos rfl]; exact hq1, hq2, hq3, fun j a hj => by
      obtain ⟨i1, u, i2, i3⟩ := hq4 j a hj
      exact ⟨i1, u, i2, i3.pure1 (List.all_eq_true.1 hp a (List.mem_of_getElem? hj))⟩⟩
  refine (h (frX X K φ fr) φc w (xs.map ρ) (by simp; simpa using g1) (fun i x a hx ha => g2 i x a (by simpa using hx) ha) hstc (fun r hr => if_neg (by omega))).mono ?_
  rintro e w' ⟨x, X', φ', rfl, h1, h2, h3⟩
  have hkeep : ∀ v a, Rep (frX X K φ fr) w φ v a → Rep X' w' φ v a := fun v a hr => hr.keep h1.size (fun b hb hx => h1.same b hb fun r cs1 o i1 i2 => by
      obtain ⟨rfl, rfl⟩ := hc1 r cs1 i1
      have : φ q = some (b, o) := i2
      rw [hq1] at this
      injection this with this
      injection this with this _
      subst this
      exact hx hq2) h1.bs h1.xs (fun _ _ h => h)
  have hne : ∀ r c b o, r ≠ q → frK K fr r = some c → φ r = some (b, o) → b ≠ b0 := fun r c b o i1 i2 i3 i4 => i1 (hst1.2 r q c cs b o o0 i2 hKq1 i3 (by rw [hq1, i4]))
  have hbn : ∀ b o', φ' 1 = some (b, o') → w.heap.size ≤ b ∨ b = b0 := fun b o' hp0 => by
    rcases h1.lv 1 cs' b o' (up_at _ _ _) hp0 with h4 | ⟨r, cs1, o1, h4, h5⟩
    · exact .inl h4
    · obtain ⟨rfl, rfl⟩ := hc1 r cs1 h4
      have : φ q = some (b, o1) := h5
      rw [hq1] at this
      injection this with this
      injection this with this _
      exact .inr this.symm
  let φ2 : Em := fun r => if r = f then φ' 1 else φ r
  have hφf : φ2 f = φ' 1 := if_pos rfl
  have hφn : ∀ r, r ≠ f → φ2 r = φ r := fun r h => if_neg h
  have hφe : ∀ r y, φ r = some y → φ2 r = some y := fun r y h => by
    rw [hφn r (fun e => by rw [e, hff] at h; cases h)]; exact h
  have hkeep2 : ∀ v a, Rep X' w' φ v a → Rep X' w' φ2 v a := fun v a h => h.keep (Nat.le_refl _) (fun _ _ _ => rfl) (fun _ _ => rfl) (fun _ _ h => h) hφe
  have hold : ∀ r c, r ≠ f → up (up (frK K fr) q none) f (some cs') r = some c → r ≠ q ∧ frK K fr r = some c := fun r c hr h => by
    rw [up_ne hr] at h
    by_cases e : r = q
    · subst e; rw [up_at] at h; cases h
    · rw [up_ne e] at h; exact ⟨e, h⟩
  have hlt : ∀ r c o2 b2, frK K fr r = some c → φ r = some (b2, o2) → b2 < w.heap.size := by
    intro r c o2 b2 i1 i2
    obtain ⟨_, i3⟩ | ⟨b3, o3, c3, el, i3, _, i4, _⟩ := hst1.1 r c i1
    · rw [i3] at i2; cases i2
    · rw [i3] at i2; injection i2 with i2; injection i2 with i2 _; subst i2; exact lt_heap i4
  refine ⟨x, rfl, X', φ2, ?_, ⟨fun r cs1 hr => ?_, fun r1 r2 c1 c2 b1 o1 o2 i1 i2 i3 i4 => ?_⟩, hv _ _ _ _ _ h3 hφf⟩
  · refine (Nxt.frz (fr := fr)).trans ⟨h1.os, h1.tape, h1.output, h1.size, fun b hb hn => h1.same b hb (fun r cs1 o i1 i2 => ?_), h1.bs, h1.xs, fun b hb hx => ?_, fun r hr => hφn r hr, fun r cs1 b1 o1 i1 i2 => ?_⟩ fun _ h => h
    · obtain ⟨rfl, rfl⟩ := hc1 r cs1 i1
      exact hn q _ o hKq1 i2
    · rcases h1.xk b hb hx with i1 | ⟨r, cs1, o, i1, i2⟩
      · exact .inl i1
      · obtain ⟨rfl, rfl⟩ := hc1 r cs1 i1
        exact .inr ⟨q, _, o, hKq1, i2⟩
    · by_cases hr : r = f
      · subst hr
        rw [hφf] at i2
        rcases hbn b1 o1 i2 with h4 | rfl
        · exact .inl h4
        · exact .inr ⟨q, cs, o0, hKq1, hq1⟩
      · obtain ⟨_, j2⟩ := hold r cs1 hr i1
        rw [hφn r hr] at i2
        exact .inr ⟨r, cs1, o1, j2, i2⟩
  · by_cases hrf : r = f
    · subst hrf
      rw [up_at] at hr
      injection hr with hr
      subst hr
      obtain ⟨h4, h5⟩ | ⟨b1, o1, c, el, h4, h5, h6, h7⟩ := h2.1 1 cs' (up_at _ _ _)
      · exact .inl ⟨h4, by rw [hφf]; exact h5⟩
      · refine .inr ⟨b1, o1, c, el, by rw [hφf]; exact h4, h5, h6, fun j a hj => ?_⟩
        obtain ⟨i1, u, i2, i3⟩ := h7 j a hj
        exact ⟨i1, u, i2, i3.pure1 (List.all_eq_true.1 hp' a (List.mem_of_getElem? hj))⟩
    · obtain ⟨hrq, hr⟩ := hold r cs1 hrf hr
      obtain ⟨i1, i2⟩ | ⟨b1, o1, c, el, i1, i2, i3, i4⟩ := hst1.1 r cs1 hr
      · exact .inl ⟨i1, by rw [hφn r hrf]; exact i2⟩
      · have hbne := hne r cs1 b1 o1 hrq hr i1
        have hown : ∀ r' cs2 o2, (up mt 0 (some cs) : Hp) r' = some cs2 → φc r' ≠ some (b1, o2) := fun r' cs2 o2 k1 k2 => by
          obtain ⟨rfl, rfl⟩ := hc1 r' cs2 k1
          have : φ q = some (b1, o2) := k2
          rw [hq1] at this
          injection this with this
          injection this with this _
          exact hbne this.symm
        refine .inr ⟨b1, o1, c, el, by rw [hφn r hrf]; exact i1, ?_, ?_, fun j a hj => ?_⟩
        · rcases h1.xk b1 (lt_heap i3) i2 with k1 | ⟨r', cs2, o2, k1, k2⟩
          · exact k1
          · exact absurd k2 (hown r' cs2 o2 k1)
        · rw [h1.same b1 (lt_heap i3) hown]; exact i3
        · obtain ⟨j1, u, j2, j3⟩ := i4 j a hj
          exact ⟨j1, u, j2, hkeep2 _ _ (hkeep _ _ j3)⟩
  · by_cases hr1 : r1 = f
    · by_cases hr2 : r2 = f
      · rw [hr1, hr2]
      · exfalso
        obtain ⟨k1, k2⟩ := hold r2 c2 hr2 i2
        rw [hφn r2 hr2] at i4
        rw [hr1, hφf] at i3
        have hl := hlt r2 c2 o2 b1 k2 i4
        rcases hbn b1 o1 i3 with h4 | h4
        · omega
        · exact hne r2 c2 b1 o2 k1 k2 i4 h4
    · obtain ⟨k1, k2⟩ := hold r1 c1 hr1 i1
      rw [hφn r1 hr1] at i3
      by_cases hr2 : r2 = f
      · exfalso
        rw [hr2, hφf] at i4
        have hl := hlt r1 c1 o1 b1 k2 i3
        rcases hbn b1 o2 i4 with h4 | h4
        · omega
        · exact hne r1 c1 b1 o1 k1 k2 i3 h4
      · obtain ⟨k3, k4⟩ := hold r2 c2 hr2 i2
        rw [hφn r2 hr2] at i4
        exact hst1.2 r1 r2 c1 c2 b1 o1 o2 k2 k4 i3 i4
theorem LO.callS {q n sz : Nat} {cs cs' : List AV} (ho : o.op = .call { callee := .value (.func g), args := xs, argTypes := ts }) (hE : E (.func g) = some (.base (.func (.func g) #[] #[]))) (h : AFn P g 1 args (up mt 0 (some cs)) (.osl 1 0 n sz) (up mt 1 (some cs'))) (hF : FnOK P g)
    (hargs : Args E H fr (some q) xs.toList args) (hH : H q = some cs) (hp : cs.all AV.pure1 = true) (hp' : cs'.all AV.pure1 = true) (h0 : cs ≠ []) (hqf : q ∉ fr) (hff2 : f ∉ fr) (hqn : q ≠ f) : LO P o E H f [] (f :: q :: fr) (.osl f 0 n sz) (up (up (frK H fr) q none) f (some cs')) :=
  .callT ho hE h hF hargs hH hp hp' h0 hqf hff2 hqn fun _ _ _ _ _ hr e => osl_move hr e
theorem AFn.phantom {k : Nat} {H0 : Hp} (h : AFn P g k args H0 v mt) (hv : v.pure = true) : AFn P g k args H0 v (up mt k (some [])) := fun X φ w vals h1 h2 h3 h4 => by
  refine (h X φ w vals h1 h2 h3 h4).mono ?_
  rintro e w' ⟨x, X', φ', rfl, g1, g2, g3⟩
  have e1 : ∀ r cs, (up mt k (some []) : Hp) r = some cs → r = k ∧ cs = [] := fun r cs hr => by
    by_cases h : r = k
    · subst h; rw [up_at] at hr; injection hr with hr; exact ⟨rfl, hr.symm⟩
    · rw [up_ne h] at hr; cases hr
  refine ⟨x, X', fun r => if r = k then none else φ' r, rfl, ⟨g1.os, g1.tape, g1.output, g1.size, g1.same, g1.bs, g1.xs, g1.xk, fun r hr => ?_, fun r cs b o i1 i2 => ?_⟩, ⟨fun r cs hr => ?_, fun r r' cs cs' b o o' i1 i2 i3 i4 => ?_⟩, g3.pure hv⟩
  · have hrk : r ≠ k := fun e => hr (Nat.le_of_eq e.symm)
    show (if r = k then none else φ' r) = _
    rw [if_neg hrk]; exact g1.ph r hr
  · obtain ⟨rfl, _⟩ := e1 r cs i1
    simp at i2
  · obtain ⟨rfl, rfl⟩ := e1 r cs hr
    exact .inl ⟨rfl, if_pos rfl⟩
  · rw [(e1 r cs i1).1, (e1 r' cs' i2).1]
/-- a call that takes over a slice and hands back what is only read -/
theorem LO.callD {q : Nat} {cs : List AV} (ho : o.op = .call { callee := .value (.func g), args := xs, argTypes := ts }) (hE : E (.func g) = some (.base (.func (.func g) #[] #[]))) (h : AFn P g 1 args (up mt 0 (some cs)) v mt) (hF : FnOK P g)
    (hargs : Args E H fr (some q) xs.toList args) (hH : H q = some cs) (hp : cs.all AV.pure1 = true) (hv : v.pure = true) (h0 : cs ≠ []) (hqf : q ∉ fr) (hff2 : f ∉ fr) (hqn : q ≠ f) : LO P o E H f [] (f :: q :: fr) v (up (up (frK H fr) q none) f (some [])) :=
  .callT ho hE (h.phantom hv) hF hargs hH hp rfl h0 hqf hff2 hqn fun _ _ _ _ _ hr _ => hr.pure hv
/-- a call that only reads what it is lent, and hands back a plain value -/
theorem LO.callB {u : Value} (ho : o.op = .call { callee := .value (.func g), args := xs, argTypes := ts }) (hE : E (.func g) = some (.base (.func (.func g) #[] #[]))) (h : AFn P g 0 args mt (.base u) mt) (hF : FnOK P g)
    (hargs : Args E H fr none xs.toList args) : LO P o E H f fr [] (.base u) H := by
  refine ⟨fun _ _ => rfl, fun E' K hE' hK X φ w ρ hR hst hff => ?_⟩
  rw [ovr_nil]
  have hKf : ∀ r, r ∈ fr → K r = H r := fun r hr => hK r (.inl hr)
  obtain ⟨fn, hf, hname, hb⟩ := hF
  have hops : o.op.operands = #[.func g] ++ xs := by rw [ho]; rfl
  have hρ : ρ (.func g) = .func (.func g) #[] #[] := (hR (.func g) _ ((hE' _ (by rw [hops]; simp)).trans hE)).base_eq
  unfold OpW
  rw [run_call ho hρ hf hname hb]
  obtain ⟨g1, g2⟩ := hargs.rep (K := K) (X := X) (φ := φ) (φ' := mt) (w := w) (ρ := ρ) hKf hst (fun x hx a ha => hR x a ((hE' x (by rw [hops]; simp; exact .inr (by simpa using hx))).trans ha)) (fun q h => by cases h)
  refine (h (frX X K φ fr) mt w (xs.map ρ) (by simp; simpa using g1) (fun i x a hx ha => g2 i x a (by simpa using hx) ha) ⟨fun r cs h => (by cases h), fun r r' cs cs' b o o' h => (by cases h)⟩ (fun _ _ => rfl)).mono ?_
  rintro e w' ⟨x, X', φ', rfl, h1, h2, h3⟩
  have hsame : ∀ b, b < w.heap.size → w'.heap[b]? = w.heap[b]? := fun b hb => h1.same b hb fun _ _ _ h => by cases h
  let X2 : Nat → Prop := fun b => b < w.heap.size ∧ X b
  have hkeep : ∀ v a, Rep X w φ v a → Rep X2 w' φ v a := fun v a hr => hr.keep h1.size (fun b hb _ => hsame b hb) h1.bs (fun b _ hx => hx.2) (fun _ _ h => h)
  refine ⟨x, rfl, X2, φ, ⟨h1.os, h1.tape, h1.output, h1.size, fun b hb _ => hsame b hb, h1.bs, fun b _ hx => hx.2, fun b hb hx => .inl ⟨hb, hx⟩, fun _ _ => rfl, fun r cs b o i1 i2 => .inr ⟨r, cs, o, i1, i2⟩⟩, ⟨fun r cs hr => ?_, hst.2⟩, by rw [h3.base_eq]; exact .base u⟩
  obtain i1 | ⟨b, o', c, e, i1, i2, i3, i4⟩ := hst.1 r cs hr
  · exact .inl i1
  · refine .inr ⟨b, o', c, e, i1, ⟨lt_heap i3, i2⟩, by rw [hsame b (lt_heap i3)]; exact i3, fun j a hj => ?_⟩
    obtain ⟨j1, u', j2, j3⟩ := i4 j a hj
    exact ⟨j1, u', j2, hkeep _ _ j3⟩
end
end Go.Proofs.Ytoijkcnefnmbjaa
