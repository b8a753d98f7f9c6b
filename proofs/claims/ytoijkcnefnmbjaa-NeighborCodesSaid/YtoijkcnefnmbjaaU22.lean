/-
  A block that is only read from now on; a slice of an array that is only read.
-/
import Derived.Test.YtoijkcnefnmbjaaU21
namespace Go.Proofs.Ytoijkcnefnmbjaa
open Go.RowKit
section
variable {P : Program} {k n m : Nat} {T : Tp} {H : Hp} {K : Exit → Nat → Tp → Hp → Prop} {c : Code}
theorem W.frzo {t r off : Nat} {cs : List AV} (ht : T t = some (.own r off)) (hr : H r = some cs) (hp : cs.all AV.pure1 = true) (h : W P k n c m (up T t (some (.imm cs off))) (up H r none) K) : W P k n c m T H K := by
  rw [← frK_one] at h
  refine W.freeze [r] (all_up (p := fun t v => ∃ u, T t = some u ∧ (u = v ∨ Fz H [r] u v)) ⟨_, ht, .inr (.one (.own (by simp) hr hp))⟩ fun t v h => ⟨v, h, .inl rfl⟩) h
end
section
variable {P : Program} {o : Oper} {E : Operand → Option AV} {H : Hp} {f : Nat} {t : TypeId} {size bytes : Nat} {zero : List AV} {x : Operand} {e sz by' : Nat} {l' : Lay} {z' : List AV}
theorem LO.slice_imm {off n : Nat} {cs vs : List AV} (ho : o.op = .slice t x none none none) (hx : E x = some (.imm cs off)) (ht : TyOK P t (.arr n e) size bytes zero) (he : TyOK P e l' sz by' z') (hv : Tk cs off (n * sz) vs) (hn : 0 < n) : LO P o E H f [] [] (.isl vs n) H :=
  .pure fun X φ w ρ hR => by
    have h := hR x (by simp [ho, Op.operands]) _ hx
    generalize hq : ρ x = u at h
    cases h with
    | imm _ _ b o' us hb hxb h1 hc h =>
      refine ⟨.slice (some ⟨b, o' + off, none⟩) n n, ?_, mk_isl (Nat.le_refl _) hb hxb fun i c hi => ?_⟩
      · have hb2 : (Instr.sliceBounds false n n none none none).run P w = .ok (0, n, n) w := by simp [Instr.sliceBounds]
        have hn0 : ¬ n = 0 := by omega
        simp only [execOp, ho, hq, Instr.sliceAt, Option.map_none, Sem.run_bind, run_underlying (lay_ar ht), Result.andThen_ok, Instr.sureAddr, Sem.run_pure, hb2, he.sizeOf, hn0, if_false, Addr.add_lit, Nat.zero_mul, Nat.add_zero, Nat.sub_zero]
      · have hi2 := hv.2 i c hi
        have h2 := hc _ c hi2
        refine ⟨h1 _ c hi2, us (off + i), by rw [Nat.add_assoc]; exact h2, fun φ' => ?_⟩
        have h3 := h _ c hi2
        exact h3.keep (Nat.le_refl _) (fun _ _ _ => rfl) (fun _ _ => rfl) (fun _ _ h => h) (fun _ _ h => by cases h)
end
end Go.Proofs.Ytoijkcnefnmbjaa
