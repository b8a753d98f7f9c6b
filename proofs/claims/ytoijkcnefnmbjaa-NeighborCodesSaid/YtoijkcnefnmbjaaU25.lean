/-
  Bytes as a string.
-/
import Derived.Test.YtoijkcnefnmbjaaU24
import Derived.Laws.BytesArg
namespace Go.Proofs.Ytoijkcnefnmbjaa
open Go.RowKit
section
variable {P : Program} {o : Oper} {E : Operand → Option AV} {H : Hp} {f : Nat} {t : TypeId} {x : Operand}
theorem LO.str {s e : TypeId} {xs : List Int} (ho : o.op = .convert s t x) (hx : E x = some (.isl (xs.map fun z => .base (.int .u8 z)) xs.length)) (hs : P.underlying s = some (.slice e)) (he : P.underlying e = some (.int .u8)) (ht : P.underlying t = some .string) : LO P o E H f [] [] (.base (.string (strOfNums xs))) H :=
  .pure fun X φ w ρ hR => by
    have h := hR x (by simp [ho, Op.operands]) _ hx
    refine ⟨.string (strOfNums xs), ?_, .base _⟩
    have key : (convert s t (ρ x)).run P w = .ok (.string (strOfNums xs)) w := by
      generalize ρ x = u at h
      generalize hn : xs.length = n at h
      generalize hc : (xs.map fun z => AV.base (.int .u8 z)) = cs at h
      cases h with
      | isl0 A cap =>
        have : xs = [] := List.eq_nil_of_length_eq_zero hn
        subst this
        rw [run_convert_bytes_string w s t e _ _ _ hs he ht]
        cases A with
        | none => simp [Conv.bytesToString, strOfNums]; rfl
        | some a =>
          rw [run_bytesToString w a 0 cap [] (run_loadCells_list (P := P) w a [] (fun j v hj => by simp at hj))]
          rfl
      | isl _ _ cap b o us hb hX hcap h1 hcell hrep =>
        subst hc
        refine run_convert_bytes_arg w s e hs he b o n cap xs hn (fun i hi => ?_) t ht
        have hi2 : i < xs.length := by omega
        have hat : (xs.map fun z => AV.base (.int .u8 z))[i]? = some (.base (.int .u8 xs[i])) := by simp [hi2]
        have h2 := hcell i _ hat
        have h3 := hrep i _ hat
        rw [h2]
        have h4 : us i = .int .u8 xs[i] := h3.base_eq
        rw [h4]
        simp [List.getD, hi2]
    simp only [execOp, ho, Sem.run_bind, key, Result.andThen_ok, Sem.run_pure]
end
end Go.Proofs.Ytoijkcnefnmbjaa
