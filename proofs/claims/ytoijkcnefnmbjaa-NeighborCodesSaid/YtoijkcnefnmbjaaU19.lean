/-
  Copying nothing; a new row of bytes that are not known.
-/
import Derived.Test.YtoijkcnefnmbjaaU18
import Derived.Laws.Externs
namespace Go.Proofs.Ytoijkcnefnmbjaa
open Go.RowKit Go.Lib
section
variable {P : Program} {o : Oper} {E : Operand → Option AV} {H : Hp} {f : Nat} {v a : AV} {t tx : TypeId} {l lx : Lay} {size bytes sx bx : Nat} {zero zx : List AV} {x y : Operand} {e ex sz by' m : Nat} {l' : Lay} {z' ns : List AV} {rd : List Nat}
theorem LO.copy_nil {r off len : Nat} (ho : o.op = .call { callee := .builtin .copy, args := #[x, y], argTypes := #[t, tx] }) (hx : E x = some (.osl r off len sz)) (hy : E y = some a) (ha : a.isl? = some (ns, 0)) (ht : TyOK P t (.sl e) size bytes zero) (he : TyOK P e l' sz by' z') :
    LO P o E H f [] [] (.base (.int .i64 0)) H :=
  .pure fun X φ w ρ hR => by
    obtain ⟨A, cap, e1, hc, hcase⟩ := (hR x (by simp [ho, Op.operands, Call.operands]) _ hx).osl_inv
    obtain ⟨A2, cap2, e2, _, _⟩ := (hR y (by simp [ho, Op.operands, Call.operands]) _ hy).isl_inv ha
    refine ⟨.int .i64 0, ?_, .base _⟩
    have hcr : (Builtin.copy_ #[t, tx] o.type #[.slice A len cap, .slice A2 0 cap2]).run P w = .ok (goInt 0) w := by
      cases A <;> cases A2 <;> simp [Builtin.copy_, loadCells, loadCellsFrom, run_underlying (lay_sl ht), Builtin.lenOf, Builtin.firstCells, he.sizeOf, storeCells]
    simp only [execOp, ho, resolve, invoke, Go.builtin, Sem.run_bind, Sem.run_pure, Result.andThen_ok, List.map_toArray, List.map_cons, List.map_nil, e1, e2, hcr]
    rfl
theorem LO.makeNoZero {g : FuncId} {fn : Func} {ts ps : Array TypeId} {n : Nat} (ho : o.op = .call { callee := .value (.func g), args := #[x], argTypes := ts }) (hE : E (.func g) = some (.base (.func (.func g) #[] #[]))) (hx : E x = some (.base (.int .i64 (n : Int))))
    (hf : P.funcs[g]? = some fn) (hname : (fn.name == "runtime.NumGoroutine") = false) (hb : fn.body.isNone = true) (hn : Extern.findNext fn = none) (he : Extern.find fn = some (Extern.BytealgMakeNoZero.makeNoZero ps #[t])) (ht : TyOK P t (.sl e) size bytes zero) (hn2 : n ≤ 281474976710656) :
    LO P o E H f [] [f] (.osl f 0 n 1) (up H f (some [])) := by
  refine ⟨fun r hr => up_ne (by simpa using hr), fun E' K hE' hK X φ w ρ hR hst hff => ?_⟩
  rw [ovr_one]
  have hops : o.op.operands = #[.func g] ++ #[x] := by rw [ho]; rfl
  have hρ : ρ (.func g) = .func (.func g) #[] #[] := (hR (.func g) _ ((hE' _ (by rw [hops]; simp)).trans hE)).base_eq
  have e1 := (hR x _ ((hE' _ (by rw [hops]; simp)).trans hx)).base_eq
  obtain ⟨cs, hrun, hle, _⟩ := run_makeNoZero (P := P) w ps t e (lay_sl ht) n hn2
  have hcall : (callFunc g #[ρ x]).run P w = .ok (.value (.slice (some ⟨w.heap.size, 0, none⟩) n cs.size)) (w.drew.drew.alloc (.cells cs e)) := by
    rw [run_callFunc_extern hf hname hb hn he, e1, hrun]; rfl
  obtain ⟨h1, h2, h3, h4, h5⟩ := hst.fresh (w' := w.drew.drew.alloc (.cells cs e)) (c := cs) (e := e) (cs := []) hff rfl rfl rfl rfl (fun j c hj => by simp at hj)
  unfold OpW
  have hex : (execOp ρ o).run P w = .ok (.value (.slice (some ⟨w.heap.size, 0, none⟩) n cs.size)) (w.drew.drew.alloc (.cells cs e)) := by
    simp only [execOp, ho, resolve, hρ, Deferred.ofValue, Sem.run_bind, Sem.run_pure, Result.andThen_ok, invoke]
    simpa using hcall
  rw [hex]
  refine ⟨_, _, h1, h2, ?_⟩
  have := Rep.osl (X := fun b => X b ∨ b = w.heap.size) (w := w.drew.drew.alloc (.cells cs e)) (φ := fun r => if r = f then some (w.heap.size, 0) else φ r) f 0 n 1 w.heap.size 0 cs.size h5 hle (by rw [h4]; omega)
  exact this
end
end Go.Proofs.Ytoijkcnefnmbjaa
