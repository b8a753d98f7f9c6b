/-
  Regions whose guards are not known: both ways; loops and joins that keep what they do not change.
-/
import Derived.Test.YtoijkcnefnmbjaaU15
namespace Go.Proofs.Ytoijkcnefnmbjaa
open Go.RowKit
theorem RW.split {P : Program} {ops : Array Oper} {m i : Nat} {K : Tp → Hp → List (List Nat × List Nat) → Prop} {l : List Oper} {T : Tp} {H : Hp} {acc : List (List Nat × List Nat)} {t : Nat} {x : Bool}
    (_ht : T t = some (.base (.bool x))) (h1 : x = true → RW P ops m K i l T H acc) (h2 : x = false → RW P ops m K i l T H acc) : RW P ops m K i l T H acc := by
  cases x
  · exact h2 rfl
  · exact h1 rfl
theorem ne_of_beq_false {a b : Int} (h : (a == b) = false) : a ≠ b := by simpa using h

/-- temps by a list -/
def baseT : List (Nat × AV) → Tp
  | [] => mt
  | (t, v) :: l => up (baseT l) t (some v)
theorem baseT_app (a b : List (Nat × AV)) : baseT (a ++ b) = a.foldr (fun p F => up F p.1 (some p.2)) (baseT b) := by
  induction a with
  | nil => rfl
  | cons p a ih => obtain ⟨t, v⟩ := p; exact congrArg (fun F => up F t (some v)) ih
def RenT (σ : Nat → Nat) (T : Tp) (t : Nat) (v : AV) : Prop := (T t = some v ∧ v.pure = true) ∨ (T t = some (ren2 σ v) ∧ ∀ vs, v ≠ .tup vs)
inductive LookR (σ : Nat → Nat) (T : Tp) : List (Nat × AV) → Prop
  | nil : LookR σ T []
  | cons {t : Nat} {v : AV} {l : List (Nat × AV)} (h : RenT σ T t v) (hl : LookR σ T l) : LookR σ T ((t, v) :: l)
/-- what is kept: found in T, not renamed -/
inductive LookK (σ : Nat → Nat) (T : Tp) : List (Nat × AV) → Prop
  | nil : LookK σ T []
  | cons {t : Nat} {v : AV} {l : List (Nat × AV)} (h : T t = some v) (h2 : v.pure = true ∨ (ren2 σ v = v ∧ ∀ vs, v ≠ .tup vs)) (hl : LookK σ T l) : LookK σ T ((t, v) :: l)
theorem LookK.R {σ : Nat → Nat} {T : Tp} {l : List (Nat × AV)} (h : LookK σ T l) : LookR σ T l := by
  induction h with
  | nil => exact .nil
  | cons h h2 _ ih =>
    refine .cons ?_ ih
    rcases h2 with h2 | ⟨h2, h3⟩
    · exact .inl ⟨h, h2⟩
    · exact .inr ⟨by rw [h2]; exact h, h3⟩
theorem LookR.app {σ : Nat → Nat} {T : Tp} {a b : List (Nat × AV)} (h1 : LookR σ T a) (h2 : LookR σ T b) : LookR σ T (a ++ b) := by
  induction h1 with
  | nil => exact h2
  | cons h _ ih => exact .cons h ih
theorem LookR.all {σ : Nat → Nat} {T : Tp} {l : List (Nat × AV)} (h : LookR σ T l) : ∀ t v, baseT l t = some v → RenT σ T t v := by
  induction h with
  | nil => intro t v h; cases h
  | cons h _ ih => exact all_up h ih
def RenH (L : List (Nat × Nat)) (m : Nat) (H : Hp) (r : Nat) (cs : List AV) : Prop := keyIn L r = true ∧ ∃ cs0, H (sg L m r) = some cs0 ∧ (cs0 = cs.map (ren1 (sg L m)) ∨ (cs0 = cs ∧ cs.all AV.pure1 = true))

/-- a loop; what it does not change is kept (vs) -/
theorem W.loop_keep {P : Program} {k n m : Nat} {T : Tp} {H : Hp} {K : Exit → Nat → Tp → Hp → Prop} {c : Code} {α : Type} {vs : List (Nat × AV)} (μ : α → Nat) (m2 : Nat) (os : α → List (Nat × AV)) (Hf : α → Hp) (I : α → Prop) (x0 : α) (L : List (Nat × Nat))
    (hk : LookK (sg L m) T vs) (h0 : I x0) (hL : okL k m2 L = true) (ho : LookR (sg L m) T (os x0)) (hH : ∀ r cs, Hf x0 r = some cs → RenH L m H r cs)
    (hstep : ∀ x, I x → (∀ y, μ y < μ x → I y → WL P k n c m2 (baseT (os y ++ vs)) (Hf y) K) → W P k n c m2 (baseT (os x ++ vs)) (Hf x) (thenK (fun m T H => WL P k n c m T H K) K)) : W P k n (.loop c) m T H K :=
  W.rename L m2 (T' := baseT (os x0 ++ vs)) (H' := Hf x0) hL (ho.app hk.R).all hH
    (W.loop_ind μ m2 (fun x => baseT (os x ++ vs)) Hf I x0 h0 hstep)
theorem WL.renameL {P : Program} {k n m : Nat} {T : Tp} {H : Hp} {K : Exit → Nat → Tp → Hp → Prop} {c : Code} (L : List (Nat × Nat)) (m2 : Nat) {l : List (Nat × AV)} {H' : Hp} (hL : okL k m2 L = true)
    (hT : LookR (sg L m) T l) (hH : ∀ r cs, H' r = some cs → RenH L m H r cs) (h : WL P k n c m2 (baseT l) H' K) : WL P k n c m T H K :=
  WL.rename L m2 hL hT.all hH h
theorem W.renameL {P : Program} {k n m : Nat} {T : Tp} {H : Hp} {K : Exit → Nat → Tp → Hp → Prop} {c : Code} (L : List (Nat × Nat)) (m2 : Nat) {l : List (Nat × AV)} {H' : Hp} (hL : okL k m2 L = true)
    (hT : LookR (sg L m) T l) (hH : ∀ r cs, H' r = some cs → RenH L m H r cs) (h : W P k n c m2 (baseT l) H' K) : W P k n c m T H K :=
  W.rename L m2 hL hT.all hH h
/-- branches that meet again; what they do not change is kept -/
theorem W.seqK {P : Program} {k n m : Nat} {T : Tp} {H : Hp} {K : Exit → Nat → Tp → Hp → Prop} {x y : Code} {α : Type} {vs : List (Nat × AV)} (m2 : Nat) (os : α → List (Nat × AV)) (Hf : α → Hp) (A : α → Prop)
    (_hk : LookK (fun r => r) T vs) (h1 : W P k n x m T H (thenK (fun m T H => Joins P k n m2 (fun a => baseT (os a ++ vs)) Hf A m T H) K)) (h2 : ∀ a, A a → W P k n y m2 (baseT (os a ++ vs)) (Hf a) K) : W P k n (.seq x y) m T H K :=
  W.seqJ m2 (fun a => baseT (os a ++ vs)) Hf A h1 h2
end Go.Proofs.Ytoijkcnefnmbjaa
