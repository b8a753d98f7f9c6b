/-
  FabricSteps returns true.
-/
import Derived.Test.YtbjfaepjpmogjaaDoorFl
import Derived.Test.YtbjfaepjpmogjaaDoorFv
namespace Go.Proofs.YtbjfaepjpmogjaaDoor
open Go.RowKit

def gB (l : List Bool) (k : Nat) : Bool := l.getD k false
theorem gB_set {l : List Bool} {k : Nat} {b : Bool} (h : k < l.length) (j : Nat) : gB (l.set k b) j = if j = k then b else gB l j := by
  unfold gB
  by_cases e : j = k
  · subst e; simp [h]
  · have e2 : k ≠ j := fun h => e h.symm
    simp [List.getElem?_set_ne e2, e]
theorem gB_keep {l : List Bool} {k : Nat} {b : Bool} (h : k < l.length) (h0 : gB l k = true → b = true) (j : Nat) (hj : gB l j = true) : gB (l.set k b) j = true := by
  rw [gB_set h]
  split
  · rename_i e; rw [e] at hj; exact h0 hj
  · exact hj
theorem bg_at {l : List Bool} {x : Int} (h0 : 0 ≤ x) (h1 : x < l.length) : (boolsC l)[0 + x.toNat * 1]? = some (.base (.bool (gB l x.toNat))) := by
  have : x.toNat < l.length := by omega
  simp [boolsC, gB, this]
theorem bg_nat {l : List Bool} {k : Nat} (h : k < l.length) : (boolsC l)[0 + k * 1]? = some (.base (.bool (gB l k))) := by simp [boolsC, gB, h]
theorem bg_nat1 {l : List Bool} {k : Nat} (h : k < l.length) : (boolsC l)[k * 1]? = some (.base (.bool (gB l k))) := by simp [boolsC, gB, h]
theorem alive_gB {f : Fab} {k : Nat} (h : k < f.dead.length) : aliveB f k = !gB f.dead k := by
  rw [aliveB_at h]; simp [gB, h]
theorem zeros_bools (n : Nat) : zerosL n [.base (.bool false)] = boolsC (List.replicate n false) := by
  unfold zerosL boolsC
  induction n with
  | zero => rfl
  | succ n ih => rw [List.replicate_succ, List.flatten_cons, ih, List.replicate_succ, List.map_cons]; rfl
theorem dist_lt (f : Fab) (t x : Int) (h : 1 ≤ f.dead.length) : gI (dist f t) x < f.dead.length := by
  cases ha : aliveB f t with
  | true => exact (dist_ok ha).toDBase.lt x
  | false => rw [dist_none ha]; omega
/-- one of the two is next to the goal by the other -/
def okB (d : List Int) (x y : Int) : Prop := gI d y = gI d x - 1 ∧ 0 ≤ gI d y
def NearI (f : Fab) (d : List Int) (i : Nat) (nr : List Bool) : Prop := ∀ j l, j < i → f.links[j]? = some l → wkF f j = true → (okB d l.a l.b → gB nr l.a.toNat = true) ∧ (okB d l.b l.a → gB nr l.b.toNat = true)
theorem NearI.done {f : Fab} {t : Int} {nr : List Bool} (h : NearI f (dist f t) f.links.length nr) {x : Nat} (hx : 0 < gI (dist f t) x) : gB nr x = true := by
  have ha := dist_alive (f := f) (t := t) (x := x) (by omega)
  obtain ⟨y, ⟨i, l, hl, hW, h3⟩, h1⟩ := (dist_ok ha).pred x hx
  have := h i l (List.getElem?_eq_some_iff.1 hl).1 hl hW
  rcases h3 with ⟨h3, h4⟩ | ⟨h3, h4⟩
  · have h5 := this.1 ⟨by rw [h3, h4, h1], by rw [h4, h1]; omega⟩
    rw [h3] at h5; exact h5
  · have h5 := this.2 ⟨by rw [h3, h4, h1], by rw [h4, h1]; omega⟩
    rw [h3] at h5; exact h5
end Go.Proofs.YtbjfaepjpmogjaaDoor
