/-
  Calls that hand back a new slice which may be written, and the same slice only read.
-/
import Derived.Test.YtoijkcnefnmbjaaU12
namespace Go.Proofs.Ytoijkcnefnmbjaa
open Go.RowKit

section
variable {P : Program} {o : Oper} {E : Operand → Option AV} {H : Hp} {f : Nat} {v v' : AV} {g : FuncId} {xs : Array Operand} {ts : Array TypeId} {args : List AV} {fr : List Nat}
theorem osl_move {X : Nat → Prop} {w : World} {φ φ2 : Em} {x : Value} {r q len sz : Nat} (h : Rep X w φ x (.osl r 0 len sz)) (e : φ2 q = φ r) : Rep X w φ2 x (.osl q 0 len sz) := by
  obtain ⟨A, cap, rfl, hc, ⟨rfl, rfl⟩ | ⟨b, o, hp, rfl, hs⟩⟩ := h.osl_inv
  · exact .osl0 _ _ _ _
  · exact .osl q 0 len sz b o cap (e.trans hp) hc hs
theorem own_move {X : Nat → Prop} {w : World} {φ φ2 : Em} {x : Value} {r q off : Nat} (h : Rep X w φ x (.own r off)) (e : φ2 q = φ r) : Rep X w φ2 x (.own q off) := by
  obtain ⟨b, o, hp, rfl⟩ := h.own_inv
  exact .own q off b o (e.trans hp)
/-- a call that makes what it hands back -/
theorem LO.callV {cs : List AV} (ho : o.op = .call { callee := .value (.func g), args := xs, argTypes := ts }) (hE : E (.func g) = some (.base (.func (.func g) #[] #[]))) (h : AFn P g 0 args mt v (up mt 0 (some cs))) (hF : FnOK P g)
    (hargs : Args E H fr none xs.toList args) (hp : cs.all AV.pure1 = true) (hfr : f ∉ fr) (hv : ∀ (X : Nat → Prop) (w : World) (φ φ2 : Em) (x : Value), Rep X w φ x v → φ2 f = φ 0 → Rep X w φ2 x v') : LO P o E H f [] (f :: fr) v' (up (frK H fr) f (some cs)) := by
  refine ⟨fun r hr => by simp at hr; rw [up_ne hr.1]; exact if_neg hr.2, fun E' K hE' hK X φ w ρ hR hst hff => ?_⟩
  have hKf : ∀ r, r ∈ fr → K r = H r := fun r hr => hK r (.inr (by simp [hr]))
  have hov : ovr K (f :: fr) (up (frK H fr) f (some cs)) = up (frK K fr) f (some cs) := by
    funext r
    unfold ovr
    by_cases h1 : r = f
    · subst h1; simp [up_at]
    · rw [up_ne h1, up_ne h1]
      unfold frK
      by_cases h2 : r ∈ fr <;> simp [h1, h2]
  rw [hov]
  obtain ⟨fn, hf, hname, hb⟩ := hF
  have hops : o.op.operands = #[.func g] ++ xs := by rw [ho]; rfl
  have hρ : ρ (.func g) = .func (.func g) #[] #[] := (hR (.func g) _ ((hE' _ (by rw [hops]; simp)).trans hE)).base_eq
  unfold OpW
  rw [run_call ho hρ hf hname hb]
  obtain ⟨g1, g2⟩ := hargs.rep (K := K) (X := X) (φ := φ) (φ' := mt) (w := w) (ρ := ρ) hKf hst (fun x hx a ha => hR x a ((hE' x (by rw [hops]; simp; exact .inr (by simpa using hx))).trans ha)) (fun q h => by cases h)
  refine (h (frX X K φ fr) mt w (xs.map ρ) (by simp; simpa using g1) (fun i x a hx ha => g2 i x a (by simpa using hx) ha) ⟨fun r cs h => (by cases h), fun r r' cs cs' b o o' h => (by cases h)⟩ (fun _ _ => rfl)).mono ?_
  rintro e w' ⟨x, X', φ', rfl, h1, h2, h3⟩
  have hst1 := hst.frz (fr := fr)
  obtain ⟨k1, k2, _⟩ := nxt_pure hst1 h1 (fun _ _ _ _ _ _ _ _ _ h => by cases h) (fun _ _ _ _ h => by cases h)
  have hbn : ∀ b o', φ' 0 = some (b, o') → w.heap.size ≤ b := fun b o' hp0 => by
    rcases h1.lv 0 cs b o' (up_at _ _ _) hp0 with h4 | ⟨_, _, _, h4, _⟩
    · exact h4
    · cases h4
  let φ2 : Em := fun r => if r = f then φ' 0 else φ r
  have hφf : φ2 f = φ' 0 := if_pos rfl
  have hφn : ∀ r, r ≠ f → φ2 r = φ r := fun r h => if_neg h
  have hφe : ∀ r y, φ r = some y → φ2 r = some y := fun r y h => by
    rw [hφn r (fun e => by rw [e, hff] at h; cases h)]; exact h
  have hkeep : ∀ v a, Rep X' w' φ v a → Rep X' w' φ2 v a := fun v a h => h.keep (Nat.le_refl _) (fun _ _ _ => rfl) (fun _ _ => rfl) (fun _ _ h => h) hφe
  refine ⟨_, rfl, X', φ2, ?_, ⟨fun r cs1 hr => ?_, fun r1 r2 c1 c2 b1 o1 o2 g1 g2 g3 g4 => ?_⟩, hv _ _ _ _ _ h3 hφf⟩
  · refine (Nxt.frz (fr := fr)).trans ⟨h1.os, h1.tape, h1.output, h1.size, fun b hb hn => h1.same b hb (fun _ _ _ h => by cases h), h1.bs, h1.xs, fun b hb hx => (h1.xk b hb hx).imp id fun ⟨_, _, _, h, _⟩ => (by cases h), fun r hr => hφn r hr, fun r cs1 b1 o1 g1 g2 => ?_⟩ fun _ h => h
    by_cases hr : r = f
    · subst hr
      rw [hφf] at g2
      exact .inl (hbn b1 o1 g2)
    · rw [up_ne hr] at g1
      rw [hφn r hr] at g2
      exact .inr ⟨r, cs1, o1, g1, g2⟩
  · by_cases hrf : r = f
    · subst hrf
      rw [up_at] at hr
      injection hr with hr
      subst hr
      obtain ⟨h4, h5⟩ | ⟨b1, o1, c, el, h4, h5, h6, h7⟩ := h2.1 0 cs (up_at _ _ _)
      · exact .inl ⟨h4, by rw [hφf]; exact h5⟩
      · refine .inr ⟨b1, o1, c, el, by rw [hφf]; exact h4, h5, h6, fun j a hj => ?_⟩
        obtain ⟨i1, u, i2, i3⟩ := h7 j a hj
        exact ⟨i1, u, i2, i3.pure1 (List.all_eq_true.1 hp a (List.mem_of_getElem? hj))⟩
    · rw [up_ne hrf] at hr
      obtain ⟨i1, i2⟩ | ⟨b1, o1, c, el, i1, i2, i3, i4⟩ := k2.1 r cs1 hr
      · exact .inl ⟨i1, by rw [hφn r hrf]; exact i2⟩
      · refine .inr ⟨b1, o1, c, el, by rw [hφn r hrf]; exact i1, i2, i3, fun j a hj => ?_⟩
        obtain ⟨j1, u, j2, j3⟩ := i4 j a hj
        exact ⟨j1, u, j2, hkeep _ _ j3⟩
  · have hlt : ∀ r c o2 b2, frK K fr r = some c → φ r = some (b2, o2) → b2 < w.heap.size := by
      intro r c o2 b2 i1 i2
      obtain ⟨_, i3⟩ | ⟨b3, o3, c3, el, i3, _, i4, _⟩ := hst1.1 r c i1
      · rw [i3] at i2; cases i2
      · rw [i3] at i2; injection i2 with i2; injection i2 with i2 _; subst i2; exact lt_heap i4
    by_cases hr1 : r1 = f
    · by_cases hr2 : r2 = f
      · rw [hr1, hr2]
      · exfalso
        rw [up_ne hr2] at g2
        rw [hφn r2 hr2] at g4
        rw [hr1, hφf] at g3
        have := hbn b1 o1 g3
        have := hlt r2 c2 o2 b1 g2 g4
        omega
    · rw [up_ne hr1] at g1
      rw [hφn r1 hr1] at g3
      by_cases hr2 : r2 = f
      · exfalso
        rw [hr2, hφf] at g4
        have := hbn b1 o2 g4
        have := hlt r1 c1 o1 b1 g1 g3
        omega
      · rw [up_ne hr2] at g2
        rw [hφn r2 hr2] at g4
        exact k2.2 r1 r2 c1 c2 b1 o1 o2 g1 g2 g3 g4
theorem LO.callO {cs : List AV} {n sz : Nat} (ho : o.op = .call { callee := .value (.func g), args := xs, argTypes := ts }) (hE : E (.func g) = some (.base (.func (.func g) #[] #[]))) (h : AFn P g 0 args mt (.osl 0 0 n sz) (up mt 0 (some cs))) (hF : FnOK P g)
    (hargs : Args E H fr none xs.toList args) (hp : cs.all AV.pure1 = true) (hfr : f ∉ fr) : LO P o E H f [] (f :: fr) (.osl f 0 n sz) (up (frK H fr) f (some cs)) :=
  .callV ho hE h hF hargs hp hfr fun _ _ _ _ _ hr e => osl_move hr e

/-- a slice that a call has made, only read -/
theorem AFn.frozen {cs vs : List AV} {n sz : Nat} (h : AFn P g 0 args mt (.osl 0 0 n sz) (up mt 0 (some cs))) (hv : Tk cs 0 (n * sz) vs) (hp : vs.all AV.pure1 = true) : AFn P g 0 args mt (.isl vs n) mt := by
  intro X φ w vals hs hR hst hφ
  refine (h X φ w vals hs hR hst hφ).mono ?_
  rintro e w' ⟨x, X', φ', rfl, h1, h2, h3⟩
  refine ⟨x, frX X' (up mt 0 (some cs)) φ' [0], φ', rfl, ?_, ⟨fun r cs h => (by cases h), fun r r' cs cs' b o o' h => (by cases h)⟩, h3.osl_frz h2 (by simp) (up_at _ _ _) hv hp⟩
  refine h1.trans (f := fun _ => False) ?_ (fun _ h => h.elim)
  have := Nxt.frz (K := up mt 0 (some cs)) (X := X') (φ := φ') (w := w') (fr := [0]) (f := fun _ => False)
  rw [frK_one] at this
  have e : up (up mt 0 (some cs)) 0 none = (mt : Hp) := by
    funext r
    by_cases hr : r = 0
    · subst hr; rw [up_at]; rfl
    · rw [up_ne hr, up_ne hr]
  rwa [e] at this
end
end Go.Proofs.Ytoijkcnefnmbjaa
