/-
  A slice that is only read, as an array.
-/
import Derived.Test.YtoijkcnefnmbjaaU23
namespace Go.Proofs.Ytoijkcnefnmbjaa
open Go.RowKit
section
variable {P : Program} {o : Oper} {E : Operand → Option AV} {H : Hp} {f : Nat} {t : TypeId} {size bytes : Nat} {zero : List AV} {x : Operand} {e sz by' : Nat}
theorem LO.toArr {n len : Nat} {cs : List AV} {a : AV} (ho : o.op = .sliceToArrayPointer t x) (hx : E x = some a) (ha : a.isl? = some (cs, len)) (ht : TyOK P t (.arr n e) size bytes zero) (hn : 0 < n) (hl : n ≤ len) : LO P o E H f [] [] (.imm cs 0) H :=
  .pure fun X φ w ρ hR => by
    obtain ⟨A, cap, e1, hc, hcase⟩ := (hR x (by simp [ho, Op.operands]) _ hx).isl_inv ha
    obtain ⟨_, h1⟩ | ⟨b, o', rfl, hb, hX, hcs⟩ := hcase
    · omega
    · refine ⟨.pointer (some ⟨b, o', none⟩), ?_, ?_⟩
      · have hnl : ¬ len < n := by omega
        simp [execOp, ho, e1, Instr.arrayAt, run_underlying (lay_ar ht), hnl]
      · have := mk_imm (X := X) (w := w) (φ := φ) (cs := cs) 0 hb hX hcs
        exact this
end
end Go.Proofs.Ytoijkcnefnmbjaa
