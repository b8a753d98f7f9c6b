/-
  One operation over values without addresses: what it reads, what it writes, what it leaves.
-/
import Derived.Test.YtoijkcnefnmbjaaU1
namespace Go.Proofs.Ytoijkcnefnmbjaa
open Go.RowKit

def up {α : Type} (F : Nat → Option α) (k : Nat) (v : Option α) : Nat → Option α := fun x => match Nat.beq k x with
  | true => v
  | false => F x
theorem up_at {α : Type} (F : Nat → Option α) (k : Nat) (v : Option α) : up F k v k = v := by unfold up; rw [Nat.beq_refl]
theorem up_ne {α : Type} {F : Nat → Option α} {k : Nat} {v : Option α} {x : Nat} (h : x ≠ k) : up F k v x = F x := by
  unfold up
  cases hb : Nat.beq k x with
  | true => exact absurd (Nat.eq_of_beq_eq_true hb).symm h
  | false => rfl
def mt {α : Type} : Nat → Option α := fun _ => none
abbrev Tp := Nat → Option AV

def absC : Value → AV
  | .slice none 0 0 => .nils
  | v => .base v
theorem rep_absC {X : Nat → Prop} {w : World} {φ : Em} (v : Value) : Rep X w φ v (absC v) := by
  unfold absC
  split
  · exact .nils
  · exact .base _

def ev (T : Tp) : Operand → Option AV
  | .tmp t => T t
  | .const (.slice none 0 0) => some .nils
  | .const v => some (.base v)
  | .func g => some (.base (.func (.func g) #[] #[]))
  | .global _ => none

theorem ev_const (T : Tp) (v : Value) : ev T (.const v) = some (absC v) := by
  unfold absC
  split
  · rfl
  · rename_i h
    unfold ev
    split
    · rename_i e; cases e
    · rename_i e; injection e with e; exact absurd e (h ·)
    · rename_i e; injection e with e; subst e; rfl
    · rename_i e; cases e
    · rename_i e; cases e
/-- one operation over an evaluation of its operands -/
def OpW (P : Program) (o : Oper) (r : Operand → Value) (w : World) (K : Value → World → Prop) : Prop :=
  match (execOp r o).run P w with
  | .ok (.value v) w' => K v w'
  | .ok .skip w' => K undef w'
  | .ok (.enter f args) w' => Calls P f args w' fun e w'' => ∃ v, e = .returned v ∧ K v w''
  | _ => False
theorem OpW.wp {P : Program} {Q : Exit → Act → World → Prop} {o : Oper} {a : Act} {w : World} {K : Act → World → Prop} (h : OpW P o a.eval w fun v w' => K (a.put o.dst v) w') : o.wp P a w K Q := by
  unfold OpW at h
  unfold Oper.wp
  generalize (execOp a.eval o).run P w = r at *
  cases r with
  | ok n w' =>
    cases n <;> simp only [Oper.upon] at h ⊢ <;> first
      | exact h
      | exact h.elim
      | exact Calls.mono h fun e w'' ⟨v, he, hk⟩ => by subst he; exact hk
  | halt x w' => exact h.elim

def ovr (K : Hp) (wr : List Nat) (H' : Hp) : Hp := fun r => if r ∈ wr then H' r else K r
theorem ovr_nil (K H' : Hp) : ovr K [] H' = K := by funext r; simp [ovr]
theorem ovr_one (K : Hp) (H : Hp) (f : Nat) (c : Option (List AV)) : ovr K [f] (up H f c) = up K f c := by
  funext r
  by_cases h : r = f
  · subst h; simp [ovr, up_at]
  · simp [ovr, h, up_ne h]
theorem ovr_two (K : Hp) (H : Hp) (f g : Nat) (c d : Option (List AV)) : ovr K [g, f] (up (up H f c) g d) = up (up K f c) g d := by
  funext r
  by_cases h : r = g
  · subst h; simp [ovr, up_at]
  · by_cases h' : r = f
    · subst h'; simp [ovr, up_ne h, up_at]
    · simp [ovr, h, h', up_ne h, up_ne h']

/-- an operation leaves v, and what is owned becomes K' -/
def SOp (P : Program) (o : Oper) (E : Operand → Option AV) (f : Nat) (K : Hp) (v : AV) (K' : Hp) : Prop :=
  ∀ (X : Nat → Prop) (φ : Em) (w : World) (ρ : Operand → Value), (∀ x a, E x = some a → Rep X w φ (ρ x) a) → St X φ K w → φ f = none →
    OpW P o ρ w fun x w' => ∃ X' φ', Nxt K (· = f) X φ w K' X' φ' w' ∧ St X' φ' K' w' ∧ Rep X' w' φ' x v

/-- the same, wherever the operands and the blocks rd and wr are as in E and H -/
def LO (P : Program) (o : Oper) (E : Operand → Option AV) (H : Hp) (f : Nat) (rd wr : List Nat) (v : AV) (H' : Hp) : Prop :=
  (∀ r, r ∉ wr → H' r = H r) ∧ ∀ E' K, (∀ x, x ∈ o.op.operands → E' x = E x) → (∀ r, r ∈ rd ∨ r ∈ wr → K r = H r) → SOp P o E' f K v (ovr K wr H')

section
variable {P : Program} {o : Oper} {E : Operand → Option AV} {H : Hp} {f : Nat} {v a : AV}

/-- an operation that only computes -/
theorem LO.pure (h : ∀ (X : Nat → Prop) (φ : Em) (w : World) (ρ : Operand → Value), (∀ x, x ∈ o.op.operands → ∀ a, E x = some a → Rep X w φ (ρ x) a) → ∃ x, (execOp ρ o).run P w = .ok (.value x) w ∧ Rep X w φ x v) :
    LO P o E H f [] [] v H := by
  refine ⟨fun _ _ => rfl, fun E' K hE hK X φ w ρ hR hst hf => ?_⟩
  rw [ovr_nil]
  obtain ⟨x, hx, hr⟩ := h X φ w ρ (fun x hx a ha => hR x a ((hE x hx).trans ha))
  unfold OpW
  rw [hx]
  exact ⟨X, φ, Nxt.refl _ _ _ _ _, hst, hr⟩

/-- an operation that reads what is owned -/
theorem LO.read (r : Nat) (h : ∀ (X : Nat → Prop) (φ : Em) (w : World) (ρ : Operand → Value) (K : Hp), (∀ x, x ∈ o.op.operands → ∀ a, E x = some a → Rep X w φ (ρ x) a) → K r = H r → St X φ K w → ∃ x, (execOp ρ o).run P w = .ok (.value x) w ∧ Rep X w φ x v) :
    LO P o E H f [r] [] v H := by
  refine ⟨fun _ _ => rfl, fun E' K hE hK X φ w ρ hR hst hf => ?_⟩
  rw [ovr_nil]
  obtain ⟨x, hx, hr⟩ := h X φ w ρ K (fun x hx a ha => hR x a ((hE x hx).trans ha)) (hK r (.inl (by simp))) hst
  unfold OpW
  rw [hx]
  exact ⟨X, φ, Nxt.refl _ _ _ _ _, hst, hr⟩

theorem Rep.base_eq {X : Nat → Prop} {w : World} {φ : Em} {x v : Value} (h : Rep X w φ x (.base v)) : x = v := by cases h; rfl

theorem LO.move {x : Operand} (ho : o.op = .move x) (hx : E x = some a) : LO P o E H f [] [] a H :=
  .pure fun X φ w ρ hR => ⟨ρ x, by simp [execOp, ho, Pure.pure], hR x (by simp [ho, Op.operands]) a hx⟩
theorem LO.assign {x : Operand} (ho : o.op = .assign x) (hx : E x = some a) : LO P o E H f [] [] a H :=
  .pure fun X φ w ρ hR => ⟨ρ x, by simp [execOp, ho, Pure.pure], hR x (by simp [ho, Op.operands]) a hx⟩
theorem LO.pick_t {c x y : Operand} {b : Bool} (ho : o.op = .pick c x y) (hc : E c = some (.base (.bool b))) (hb : b = true) (hx : E x = some a) : LO P o E H f [] [] a H :=
  .pure fun X φ w ρ hR => ⟨ρ x, by
    have h1 := (hR c (by simp [ho, Op.operands]) _ hc).base_eq
    subst hb
    simp [execOp, ho, h1, asBool, Sem.run_pure], hR x (by simp [ho, Op.operands]) a hx⟩
theorem LO.pick_f {c x y : Operand} {b : Bool} (ho : o.op = .pick c x y) (hc : E c = some (.base (.bool b))) (hb : b = false) (hy : E y = some a) : LO P o E H f [] [] a H :=
  .pure fun X φ w ρ hR => ⟨ρ y, by
    have h1 := (hR c (by simp [ho, Op.operands]) _ hc).base_eq
    subst hb
    simp [execOp, ho, h1, asBool, Sem.run_pure], hR y (by simp [ho, Op.operands]) a hy⟩

/-! numbers -/
theorem LO.bin {op : BinOp} {t ty : TypeId} {x y : Operand} {u u' r : Value} (ho : o.op = .binOp op t x y ty) (hx : E x = some (.base u)) (hy : E y = some (.base u'))
    (hr : ∀ w, (do eqGuard op t x y u u'; Go.binOp op t u u' : Sem Value).run P w = .ok r w) : LO P o E H f [] [] (.base r) H :=
  .pure fun X φ w ρ hR => ⟨r, by
    have h1 := (hR x (by simp [ho, Op.operands]) _ hx).base_eq
    have h2 := (hR y (by simp [ho, Op.operands]) _ hy).base_eq
    simp only [execOp, ho, h1, h2, Sem.run_bind, hr w, Result.andThen_ok, Sem.run_pure], .base _⟩

section
variable {t ty : TypeId} {x y : Operand} {k k' : IntKind} {m n : Int}
theorem LO.add (ho : o.op = .binOp .add t x y ty) (hx : E x = some (.base (.int k m))) (hy : E y = some (.base (.int k n))) : LO P o E H f [] [] (.base (.int k (k.wrap (m + n)))) H :=
  .bin ho hx hy fun w => by simp [eqGuard, Go.binOp, Op.intArith, Sem.run_pure]
theorem LO.sub (ho : o.op = .binOp .sub t x y ty) (hx : E x = some (.base (.int k m))) (hy : E y = some (.base (.int k n))) : LO P o E H f [] [] (.base (.int k (k.wrap (m - n)))) H :=
  .bin ho hx hy fun w => by simp [eqGuard, Go.binOp, Op.intArith, Sem.run_pure]
theorem LO.mul (ho : o.op = .binOp .mul t x y ty) (hx : E x = some (.base (.int k m))) (hy : E y = some (.base (.int k n))) : LO P o E H f [] [] (.base (.int k (k.wrap (m * n)))) H :=
  .bin ho hx hy fun w => by simp [eqGuard, Go.binOp, Op.intArith, Sem.run_pure]
theorem LO.add_in (ho : o.op = .binOp .add t x y ty) (hx : E x = some (.base (.int k m))) (hy : E y = some (.base (.int k n))) (hw : k.wrap (m + n) = m + n) : LO P o E H f [] [] (.base (.int k (m + n))) H := by
  have := LO.add (P := P) (H := H) (f := f) ho hx hy
  rwa [hw] at this
theorem LO.sub_in (ho : o.op = .binOp .sub t x y ty) (hx : E x = some (.base (.int k m))) (hy : E y = some (.base (.int k n))) (hw : k.wrap (m - n) = m - n) : LO P o E H f [] [] (.base (.int k (m - n))) H := by
  have := LO.sub (P := P) (H := H) (f := f) ho hx hy
  rwa [hw] at this
theorem LO.mul_in (ho : o.op = .binOp .mul t x y ty) (hx : E x = some (.base (.int k m))) (hy : E y = some (.base (.int k n))) (hw : k.wrap (m * n) = m * n) : LO P o E H f [] [] (.base (.int k (m * n))) H := by
  have := LO.mul (P := P) (H := H) (f := f) ho hx hy
  rwa [hw] at this
theorem LO.quo (ho : o.op = .binOp .quo t x y ty) (hx : E x = some (.base (.int k m))) (hy : E y = some (.base (.int k n))) (hn : n ≠ 0) : LO P o E H f [] [] (.base (.int k (k.wrap (m.tdiv n)))) H :=
  .bin ho hx hy fun w => by simp [eqGuard, Go.binOp, Op.intDiv, Sem.run_pure, hn]
theorem LO.quo_in (ho : o.op = .binOp .quo t x y ty) (hx : E x = some (.base (.int k m))) (hy : E y = some (.base (.int k n))) (hm : 0 ≤ m) (hn : 1 ≤ n) (hw : k.wrap (m / n) = m / n) : LO P o E H f [] [] (.base (.int k (m / n))) H := by
  have := LO.quo (P := P) (H := H) (f := f) ho hx hy (by omega)
  rwa [Int.tdiv_eq_ediv_of_nonneg hm, hw] at this
theorem LO.rem (ho : o.op = .binOp .rem t x y ty) (hx : E x = some (.base (.int k m))) (hy : E y = some (.base (.int k n))) (hn : n ≠ 0) : LO P o E H f [] [] (.base (.int k (m.tmod n))) H :=
  .bin ho hx hy fun w => by simp [eqGuard, Go.binOp, Op.intDiv, Sem.run_pure, hn]
theorem LO.rem_in (ho : o.op = .binOp .rem t x y ty) (hx : E x = some (.base (.int k m))) (hy : E y = some (.base (.int k n))) (hm : 0 ≤ m) (hn : n ≠ 0) : LO P o E H f [] [] (.base (.int k (m % n))) H := by
  have := LO.rem (P := P) (H := H) (f := f) ho hx hy hn
  rwa [Int.tmod_eq_emod_of_nonneg hm] at this
theorem LO.eql (ho : o.op = .binOp .eql t x y ty) (hx : E x = some (.base (.int k m))) (hy : E y = some (.base (.int k n))) : LO P o E H f [] [] (.base (.bool (m == n))) H :=
  .bin ho hx hy fun w => by simp [eqGuard, Go.binOp, Op.intCmp, Sem.run_pure]
theorem LO.neq (ho : o.op = .binOp .neq t x y ty) (hx : E x = some (.base (.int k m))) (hy : E y = some (.base (.int k n))) : LO P o E H f [] [] (.base (.bool (m != n))) H :=
  .bin ho hx hy fun w => by simp [eqGuard, Go.binOp, Op.intCmp, Sem.run_pure]
theorem LO.lss (ho : o.op = .binOp .lss t x y ty) (hx : E x = some (.base (.int k m))) (hy : E y = some (.base (.int k n))) : LO P o E H f [] [] (.base (.bool (decide (m < n)))) H :=
  .bin ho hx hy fun w => by simp [eqGuard, Go.binOp, Op.intCmp, Sem.run_pure]
theorem LO.leq (ho : o.op = .binOp .leq t x y ty) (hx : E x = some (.base (.int k m))) (hy : E y = some (.base (.int k n))) : LO P o E H f [] [] (.base (.bool (decide (m ≤ n)))) H :=
  .bin ho hx hy fun w => by simp [eqGuard, Go.binOp, Op.intCmp, Sem.run_pure]
theorem LO.gtr (ho : o.op = .binOp .gtr t x y ty) (hx : E x = some (.base (.int k m))) (hy : E y = some (.base (.int k n))) : LO P o E H f [] [] (.base (.bool (decide (n < m)))) H :=
  .bin ho hx hy fun w => by simp [eqGuard, Go.binOp, Op.intCmp, Sem.run_pure]
theorem LO.geq (ho : o.op = .binOp .geq t x y ty) (hx : E x = some (.base (.int k m))) (hy : E y = some (.base (.int k n))) : LO P o E H f [] [] (.base (.bool (decide (n ≤ m)))) H :=
  .bin ho hx hy fun w => by simp [eqGuard, Go.binOp, Op.intCmp, Sem.run_pure]
/-- the bits of two numbers of one kind -/
def bitV (op : BinOp) (k : IntKind) (m n : Int) : Int := match op with
  | .and => k.wrap (BitVec.ofInt k.bits m &&& BitVec.ofInt k.bits n).toNat
  | .or => k.wrap (BitVec.ofInt k.bits m ||| BitVec.ofInt k.bits n).toNat
  | .xor => k.wrap (BitVec.ofInt k.bits m ^^^ BitVec.ofInt k.bits n).toNat
  | _ => k.wrap (BitVec.ofInt k.bits m &&& ~~~BitVec.ofInt k.bits n).toNat
theorem LO.and (ho : o.op = .binOp .and t x y ty) (hx : E x = some (.base (.int k m))) (hy : E y = some (.base (.int k n))) : LO P o E H f [] [] (.base (.int k (bitV .and k m n))) H :=
  .bin ho hx hy fun w => by simp [eqGuard, Go.binOp, Op.intBits, bitV, Sem.run_pure]
theorem LO.or (ho : o.op = .binOp .or t x y ty) (hx : E x = some (.base (.int k m))) (hy : E y = some (.base (.int k n))) : LO P o E H f [] [] (.base (.int k (bitV .or k m n))) H :=
  .bin ho hx hy fun w => by simp [eqGuard, Go.binOp, Op.intBits, bitV, Sem.run_pure]
theorem LO.xor (ho : o.op = .binOp .xor t x y ty) (hx : E x = some (.base (.int k m))) (hy : E y = some (.base (.int k n))) : LO P o E H f [] [] (.base (.int k (bitV .xor k m n))) H :=
  .bin ho hx hy fun w => by simp [eqGuard, Go.binOp, Op.intBits, bitV, Sem.run_pure]
theorem LO.andNot (ho : o.op = .binOp .andNot t x y ty) (hx : E x = some (.base (.int k m))) (hy : E y = some (.base (.int k n))) : LO P o E H f [] [] (.base (.int k (bitV .andNot k m n))) H :=
  .bin ho hx hy fun w => by simp [eqGuard, Go.binOp, Op.intBits, bitV, Sem.run_pure]
theorem LO.shl (ho : o.op = .binOp .shl t x y ty) (hx : E x = some (.base (.int k m))) (hy : E y = some (.base (.int k' n))) (hn : 0 ≤ n) : LO P o E H f [] [] (.base (.int k (k.wrap (m * 2 ^ (min n.toNat k.bits))))) H :=
  .bin ho hx hy fun w => by simp [eqGuard, Go.binOp, Op.shift, Sem.run_pure, show ¬ n < 0 by omega]
theorem LO.shr (ho : o.op = .binOp .shr t x y ty) (hx : E x = some (.base (.int k m))) (hy : E y = some (.base (.int k' n))) (hn : 0 ≤ n) : LO P o E H f [] [] (.base (.int k (m.fdiv (2 ^ (min n.toNat k.bits))))) H :=
  .bin ho hx hy fun w => by simp [eqGuard, Go.binOp, Op.shift, Sem.run_pure, show ¬ n < 0 by omega]
theorem LO.neg (ho : o.op = .unOp .neg t x) (hx : E x = some (.base (.int k m))) : LO P o E H f [] [] (.base (.int k (k.wrap (0 - m)))) H :=
  .pure fun X φ w ρ hR => ⟨_, by
    have h1 := (hR x (by simp [ho, Op.operands]) _ hx).base_eq
    simp [execOp, ho, h1, Op.unary, Op.intArith, Sem.run_pure], .base _⟩
theorem LO.neg_in (ho : o.op = .unOp .neg t x) (hx : E x = some (.base (.int k m))) (hw : k.wrap (0 - m) = -m) : LO P o E H f [] [] (.base (.int k (-m))) H := by
  have := LO.neg (P := P) (H := H) (f := f) ho hx
  rwa [hw] at this
theorem LO.not {b : Bool} (ho : o.op = .unOp .not t x) (hx : E x = some (.base (.bool b))) : LO P o E H f [] [] (.base (.bool (!b))) H :=
  .pure fun X φ w ρ hR => ⟨_, by
    have h1 := (hR x (by simp [ho, Op.operands]) _ hx).base_eq
    simp [execOp, ho, h1, Op.unary, Sem.run_pure], .base _⟩
end
theorem LO.extract {x : Operand} {i : Nat} {vs : List AV} (ho : o.op = .extract x i) (hx : E x = some (.tup vs)) (hi : vs[i]? = some a) : LO P o E H f [] [] a H :=
  .pure fun X φ w ρ hR => by
    have h1 := hR x (by simp [ho, Op.operands]) _ hx
    generalize hq : ρ x = u at h1
    cases h1 with
    | tup us _ hl h =>
      have hlt : i < vs.length := (List.getElem?_eq_some_iff.1 hi).1
      have hu : us[i]? = some us[i] := by simp [hl, hlt]
      exact ⟨us[i], by simp [execOp, ho, hq, Instr.extract, hu, Sem.run_pure], h i _ a hu hi⟩
end
end Go.Proofs.Ytoijkcnefnmbjaa
