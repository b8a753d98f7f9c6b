/-
  Values without addresses: what a value of the machine stands for, where memory that is never written again is read through; what is owned and may be written is named by numbers.
-/
import Derived.Test.YtoijkcnefnmbjaaRows
import Derived.WalkKit
import Derived.WalkSpells
import Derived.WalkLawsBesides
import Derived.Lib.Hide
import Derived.Laws.CopyRow
import Derived.Laws.Cells
import Derived.Below
import Derived.LoopN
namespace Go.Proofs.Ytoijkcnefnmbjaa
open Go.RowKit

inductive AV where
  | base (v : Value)
  | nils
  | agg (cs : List AV)
  | tup (vs : List AV)
  | own (r off : Nat)
  | osl (r off len sz : Nat)
  | imm (cs : List AV) (off : Nat)
  | isl (cs : List AV) (len : Nat)

abbrev Hp := Nat → Option (List AV)
abbrev Em := Nat → Option (Nat × Nat)

/-- a value that fits into one cell -/
def AV.one : AV → Bool
  | .base v => v.oneCell'
  | .agg _ | .tup _ => false
  | _ => true
def AV.cells : AV → List AV
  | .agg cs => cs
  | a => [a]

def AV.okb : AV → Bool
  | .agg _ => true
  | a => a.one
theorem AV.okb_or {a : AV} (h : a.okb = true) : a.one = true ∨ ∃ cs, a = .agg cs := by
  cases a <;> first | exact .inl h | exact .inr ⟨_, rfl⟩

/-- the size of a block of cells -/
def bsz (w : World) (b : Nat) : Nat := match w.heap[b]? with
  | some (.cells c _ _) => c.size
  | _ => 0

inductive Rep (X : Nat → Prop) (w : World) : Em → Value → AV → Prop
  | base {φ : Em} (v : Value) : Rep X w φ v (.base v)
  | nils {φ : Em} : Rep X w φ (.slice none 0 0) .nils
  | agg {φ : Em} (vs : Array Value) (cs : List AV) (hl : vs.size = cs.length) (h1 : ∀ (i : Nat) c, cs[i]? = some c → c.one = true) (h : ∀ (i : Nat) v c, vs[i]? = some v → cs[i]? = some c → Rep X w φ v c) : Rep X w φ (.agg vs) (.agg cs)
  | tup {φ : Em} (vs : Array Value) (cs : List AV) (hl : vs.size = cs.length) (h : ∀ (i : Nat) v c, vs[i]? = some v → cs[i]? = some c → Rep X w φ v c) : Rep X w φ (.tuple vs) (.tup cs)
  | own {φ : Em} (r off b o : Nat) (h : φ r = some (b, o)) : Rep X w φ (.pointer (some ⟨b, o + off, none⟩)) (.own r off)
  | osl {φ : Em} (r off len sz b o cap : Nat) (h : φ r = some (b, o)) (hc : len ≤ cap) (hs : o + off + cap * sz ≤ bsz w b) : Rep X w φ (.slice (some ⟨b, o + off, none⟩) len cap) (.osl r off len sz)
  | osl0 {φ : Em} (A : Option Addr) (r off sz : Nat) : Rep X w φ (.slice A 0 0) (.osl r off 0 sz)
  | imm {φ : Em} (cs : List AV) (off b o : Nat) (us : Nat → Value) (hb : b < w.heap.size) (hx : ¬ X b) (h1 : ∀ (i : Nat) c, cs[i]? = some c → c.one = true)
      (hc : ∀ (i : Nat) c, cs[i]? = some c → w.cell? ⟨b, o + i, none⟩ = some (us i)) (h : ∀ (i : Nat) c, cs[i]? = some c → Rep X w (fun _ => none) (us i) c) : Rep X w φ (.pointer (some ⟨b, o + off, none⟩)) (.imm cs off)
  | isl0 {φ : Em} (A : Option Addr) (cap : Nat) : Rep X w φ (.slice A 0 cap) (.isl [] 0)
  | isl {φ : Em} (cs : List AV) (len cap b o : Nat) (us : Nat → Value) (hb : b < w.heap.size) (hx : ¬ X b) (hcap : len ≤ cap) (h1 : ∀ (i : Nat) c, cs[i]? = some c → c.one = true)
      (hc : ∀ (i : Nat) c, cs[i]? = some c → w.cell? ⟨b, o + i, none⟩ = some (us i)) (h : ∀ (i : Nat) c, cs[i]? = some c → Rep X w (fun _ => none) (us i) c) : Rep X w φ (.slice (some ⟨b, o, none⟩) len cap) (.isl cs len)

/-- what is owned lies in memory, each in a block of its own -/
def St (X : Nat → Prop) (φ : Em) (H : Hp) (w : World) : Prop :=
  (∀ r cs, H r = some cs → (cs = [] ∧ φ r = none) ∨ ∃ b o c e, φ r = some (b, o) ∧ X b ∧ w.heap[b]? = some (.cells c e (0, 0)) ∧ (∀ (j : Nat) a, cs[j]? = some a → a.one = true ∧ ∃ u, c[o + j]? = some u ∧ Rep X w φ u a)) ∧
  (∀ r r' cs cs' b o o', H r = some cs → H r' = some cs' → φ r = some (b, o) → φ r' = some (b, o') → r = r')

section
variable {X X' : Nat → Prop} {w w' : World} {φ φ' : Em} {v : Value} {a : AV}

theorem Rep.keep (h : Rep X w φ v a) (hsz : w.heap.size ≤ w'.heap.size) (hs : ∀ b, b < w.heap.size → ¬ X b → w'.heap[b]? = w.heap[b]?) (hz : ∀ b, b < w.heap.size → bsz w' b = bsz w b) (hx : ∀ b, b < w.heap.size → X' b → X b)
    (hφ : ∀ r x, φ r = some x → φ' r = some x) : Rep X' w' φ' v a := by
  have hcell : ∀ (b i : Nat) (u : Value), ¬ X b → w.cell? ⟨b, i, none⟩ = some u → w'.cell? ⟨b, i, none⟩ = some u := fun b i u hb hc => by
    have hlt := World.block_lt_of_cell? w _ hc
    rw [← hc]
    exact World.cell?_of_block (hs b hlt hb)
  induction h generalizing φ' with
  | base v => exact .base v
  | nils => exact .nils
  | agg vs cs hl h1 _ ih => exact .agg vs cs hl h1 fun i v c hv hc => ih i v c hv hc hφ
  | tup vs cs hl _ ih => exact .tup vs cs hl fun i v c hv hc => ih i v c hv hc hφ
  | own r off b o h => exact .own r off b o (hφ _ _ h)
  | osl r off len sz b o cap h hc hsl =>
    rcases Nat.eq_zero_or_pos (bsz w b) with h0 | h0
    · have hb0 : o + off + cap * sz = 0 := by omega
      exact .osl r off len sz b o cap (hφ _ _ h) hc (by rw [hb0]; exact Nat.zero_le _)
    · have hlt : b < w.heap.size := by
        rcases Nat.lt_or_ge b w.heap.size with h | h
        · exact h
        · unfold bsz at h0; rw [Array.getElem?_eq_none h] at h0; simp at h0
      exact .osl r off len sz b o cap (hφ _ _ h) hc (by rw [hz b hlt]; exact hsl)
  | osl0 A r off sz => exact .osl0 A r off sz
  | imm cs off b o us hb hxb h1 hc _ ih =>
    exact .imm cs off b o us (Nat.lt_of_lt_of_le hb hsz) (fun h => hxb (hx b hb h)) h1 (fun i c hi => hcell _ _ _ hxb (hc i c hi)) fun i c hi => ih i c hi (fun _ _ h => h)
  | isl0 A cap => exact .isl0 A cap
  | isl cs len cap b o us hb hxb hcap h1 hc _ ih =>
    exact .isl cs len cap b o us (Nat.lt_of_lt_of_le hb hsz) (fun h => hxb (hx b hb h)) hcap h1 (fun i c hi => hcell _ _ _ hxb (hc i c hi)) fun i c hi => ih i c hi (fun _ _ h => h)

theorem Rep.oneCell (h : Rep X w φ v a) (h1 : a.one = true) : v.oneCell' = true := by
  cases h <;> first | exact h1 | rfl | (simp [AV.one] at h1)

theorem Rep.cells (h : Rep X w φ v a) (h1 : a.one = true ∨ ∃ cs, a = .agg cs) :
    v.cells.size = a.cells.length ∧ ∀ (i : Nat) c, a.cells[i]? = some c → c.one = true ∧ ∃ u, v.cells[i]? = some u ∧ Rep X w φ u c := by
  rcases h1 with h1 | ⟨cs, rfl⟩
  · have hv : v.cells = #[v] := by
      have := h.oneCell h1
      cases v <;> first | rfl | (simp [Value.oneCell'] at this)
    have ha : a.cells = [a] := by cases a <;> first | rfl | (simp [AV.one] at h1)
    rw [hv, ha]
    refine ⟨rfl, fun i c hi => ?_⟩
    cases i with
    | zero => simp at hi; subst hi; exact ⟨h1, v, by simp, h⟩
    | succ i => simp at hi
  · cases h with
    | agg vs _ hl h1 hh =>
      refine ⟨hl, fun i c hi => ⟨h1 i c hi, ?_⟩⟩
      have hlt : i < cs.length := (List.getElem?_eq_some_iff.1 hi).1
      have hv : vs[i]? = some vs[i] := by simp [hl, hlt]
      exact ⟨vs[i], hv, hh i _ c hv hi⟩

theorem bsz_of {b : Nat} {c : Array Value} {e : TypeId} {f : Nat × Nat} (h : w.heap[b]? = some (.cells c e f)) : bsz w b = c.size := by unfold bsz; rw [h]

theorem cell_of {b i : Nat} {c : Array Value} {e : TypeId} {f : Nat × Nat} (h : w.heap[b]? = some (.cells c e f)) : w.cell? ⟨b, i, none⟩ = c[i]? := cell_of_row w b i c e f h

/-- the worlds' step that an operation or a call may take: blocks that nobody here owns stay as they are -/
structure Nxt (H : Hp) (f : Nat → Prop) (X : Nat → Prop) (φ : Em) (w : World) (H' : Hp) (X' : Nat → Prop) (φ' : Em) (w' : World) : Prop where
  os : w'.os = w.os
  tape : w'.tape = w.tape
  output : w'.output = w.output
  size : w.heap.size ≤ w'.heap.size
  same : ∀ b, b < w.heap.size → (∀ r cs o, H r = some cs → φ r ≠ some (b, o)) → w'.heap[b]? = w.heap[b]?
  bs : ∀ b, b < w.heap.size → bsz w' b = bsz w b
  xs : ∀ b, b < w.heap.size → X' b → X b
  xk : ∀ b, b < w.heap.size → X b → X' b ∨ ∃ r cs o, H r = some cs ∧ φ r = some (b, o)
  ph : ∀ r, ¬ f r → φ' r = φ r
  lv : ∀ r cs b o, H' r = some cs → φ' r = some (b, o) → w.heap.size ≤ b ∨ ∃ r0 cs0 o0, H r0 = some cs0 ∧ φ r0 = some (b, o0)

theorem Nxt.refl (H : Hp) (f X φ) (w : World) : Nxt H f X φ w H X φ w :=
  ⟨rfl, rfl, rfl, Nat.le_refl _, fun _ _ _ => rfl, fun _ _ => rfl, fun _ _ h => h, fun _ _ h => .inl h, fun _ _ => rfl, fun r cs _ o h1 h2 => .inr ⟨r, cs, o, h1, h2⟩⟩

/-- what stands for something goes on standing for it -/
theorem Nxt.keep {H H' : Hp} {f : Nat → Prop} (h : Nxt H f X φ w H' X' φ' w') (hst : St X φ H w) (hf : ∀ r, f r → φ r = none) (hr : Rep X w φ v a) : Rep X' w' φ' v a := by
  refine hr.keep h.size (fun b hb hx => h.same b hb fun r cs o hH hp => ?_) h.bs h.xs fun r x hx => ?_
  · obtain ⟨_, h1⟩ | ⟨b', o', c, e, h1, h2, _⟩ := hst.1 r cs hH
    · rw [h1] at hp; cases hp
    rw [h1] at hp
    injection hp with hp
    injection hp with h3 h4
    subst h3
    exact hx h2
  · rw [h.ph r (fun hfr => by rw [hf r hfr] at hx; cases hx)]
    exact hx
end
end Go.Proofs.Ytoijkcnefnmbjaa
