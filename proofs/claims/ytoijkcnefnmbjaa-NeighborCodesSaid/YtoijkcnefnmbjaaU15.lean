/-
  Slices of arrays that are only read from then on; nil slices; a new row by append of make.
-/
import Derived.Test.YtoijkcnefnmbjaaU14
import Derived.Lib.AppendZerosOnto
namespace Go.Proofs.Ytoijkcnefnmbjaa
open Go.RowKit Go.Lib
section
variable {P : Program} {o : Oper} {E : Operand → Option AV} {H : Hp} {f : Nat} {v a : AV} {t : TypeId} {l : Lay} {size bytes : Nat} {zero : List AV} {x y : Operand} {e sz by' m : Nat} {l' : Lay} {z' : List AV}
theorem LO.slice_arf {r off n : Nat} {cs vs : List AV} (ho : o.op = .slice t x none none none) (hx : E x = some (.own r off)) (hH : H r = some cs) (ht : TyOK P t (.arr n e) size bytes zero) (he : TyOK P e l' sz by' z') (hv : Tk cs off (n * sz) vs) (hp : vs.all AV.pure1 = true) (hn : 0 < n) :
    LO P o E H f [] [r] (.isl vs n) (up H r none) := by
  rw [← frK_one]
  refine ⟨fun r' hr => if_neg hr, fun E' K hE hK X φ w ρ hR hst hf => ?_⟩
  have hKf : ∀ r', r' ∈ [r] → K r' = H r' := fun r' hr => hK r' (.inr hr)
  rw [ovr_frK hKf]
  obtain ⟨b, o', hb, e1⟩ := (hR x _ ((hE x (by simp [ho, Op.operands])).trans hx)).own_inv
  obtain ⟨g1, g2, g3⟩ := frz_cells (fr := [r]) hst (by simp) ((hKf r (by simp)).trans hH) hb
  unfold OpW
  have hb2 : (Instr.sliceBounds false n n none none none).run P w = .ok (0, n, n) w := by simp [Instr.sliceBounds]
  have hrun : (execOp ρ o).run P w = .ok (.value (.slice (some ⟨b, o' + off, none⟩) n n)) w := by
    have hn0 : ¬ n = 0 := by omega
    simp only [execOp, ho, e1, Instr.sliceAt, Option.map_none, Sem.run_bind, run_underlying (lay_ar ht), Result.andThen_ok, Instr.sureAddr, Sem.run_pure, hb2, he.sizeOf, hn0, if_false, Addr.add_lit, Nat.zero_mul, Nat.add_zero, Nat.sub_zero]
  rw [hrun]
  refine ⟨_, φ, Nxt.frz, hst.frz, mk_isl (Nat.le_refl _) g1 g2 fun i c hi => ?_⟩
  obtain ⟨h3, u, h4, h5⟩ := g3 _ c (hv.2 i c hi) (List.all_eq_true.1 hp c (List.mem_of_getElem? hi))
  exact ⟨h3, u, by rw [Nat.add_assoc]; exact h4, h5⟩
theorem nils_val {X : Nat → Prop} {w : World} {φ : Em} {u : Value} (h : Rep X w φ u .nils) : u = .slice none 0 0 := by cases h; rfl
theorem LO.len_nil (ho : o.op = .call { callee := .builtin .len, args := #[x], argTypes := #[t] }) (hx : E x = some .nils) (ht : TyOK P t (.sl e) size bytes zero) : LO P o E H f [] [] (.base (.int .i64 0)) H :=
  .pure fun X φ w ρ hR => by
    have e1 := nils_val (hR x (by simp [ho, Op.operands, Call.operands]) _ hx)
    exact ⟨_, by simp [execOp, ho, resolve, invoke, Go.builtin, Builtin.len_, e1, run_underlying (lay_sl ht), goInt]; try rfl, .base _⟩
theorem LO.cap_nil (ho : o.op = .call { callee := .builtin .cap, args := #[x], argTypes := #[t] }) (hx : E x = some .nils) (ht : TyOK P t (.sl e) size bytes zero) : LO P o E H f [] [] (.base (.int .i64 0)) H :=
  .pure fun X φ w ρ hR => by
    have e1 := nils_val (hR x (by simp [ho, Op.operands, Call.operands]) _ hx)
    exact ⟨_, by simp [execOp, ho, resolve, invoke, Go.builtin, Builtin.cap_, e1, run_underlying (lay_sl ht), goInt]; try rfl, .base _⟩
theorem LO.slice_nil {hi : Operand} (ho : o.op = .slice t x none (some hi) none) (hx : E x = some .nils) (hh : E hi = some (.base (.int .i64 0))) (ht : TyOK P t (.sl e) size bytes zero) (he : TyOK P e l' sz by' z') : LO P o E H f [] [] .nils H :=
  .pure fun X φ w ρ hR => by
    have e1 := nils_val (hR x (by simp [ho, Op.operands]) _ hx)
    have e2 := (hR hi (by simp [ho, Op.operands]) _ hh).base_eq
    refine ⟨.slice none 0 0, ?_, .nils⟩
    have := run_slice (P := P) (w := w) (ρ := ρ) (lo := none) (hi := some hi) (A := none) (len := 0) (cap := 0) (m := 0) (n := 0) ht he (.inl ⟨rfl, rfl⟩) (.inr ⟨hi, .i64, rfl, e2⟩) (Nat.le_refl _) (Nat.le_refl _) (Nat.le_refl _)
    simp only [execOp, ho, e1, Sem.run_bind, Option.map_none, Option.map_some] at this ⊢
    rw [this]
    rfl
theorem LO.append_make {n : Nat} {k kn : IntKind} {tn : TypeId} {sn bn : Nat} {zn : List AV} (ho : o.op = .call { callee := .builtin .append, args := #[x, y], argTypes := #[t, tn] }) (hx : E x = some .nils) (hy : E y = some (.base (.int k (n : Int)))) (ht : TyOK P t (.sl e) size bytes zero) (htn : TyOK P tn (.int kn) sn bn zn) (he : TyOK P e l' sz by' z') (h0 : 0 < sz)
    (hn0 : 0 < n) (hm : n * by' ≤ 140737488355328) (hm2 : n ≤ 9223372036854775807) : LO P o E H f [] [f] (.osl f 0 n sz) (up H f (some [])) := by
  refine ⟨fun r hr => up_ne (by simpa using hr), fun E' K hE hK X φ w ρ hR hst hf => ?_⟩
  rw [ovr_one]
  have e1 := nils_val (hR x _ ((hE x (by simp [ho, Op.operands, Call.operands])).trans hx))
  have e2 := (hR y _ ((hE y (by simp [ho, Op.operands, Call.operands])).trans hy)).base_eq
  obtain ⟨i, z, hi, hsz, hby, hz, hzs⟩ := info_of he
  subst hsz
  unfold OpW
  have hfc : (Builtin.firstCells i.size 0 (.slice none 0 0)).run P w.drew = .ok ([] : List Value).toArray w.drew := by simp [Builtin.firstCells]
  have hun := lay_int htn
  have hrun := run_append_grow_zeros (P := P) w t tn o.type e i z k kn (lay_sl ht) hun hi hz none 0 0 [] hfc n hn0 h0 (by omega) (by omega) (by rw [hby]; omega) (growslice_fits (by omega) (by rw [hby]; simpa using hm))
  simp only [execOp, ho, resolve, invoke, Go.builtin, Sem.run_bind, Sem.run_pure, Result.andThen_ok, List.map_toArray, List.map_cons, List.map_nil, e1, e2, hrun]
  obtain ⟨h1, h2, h3, h4, h5⟩ := hst.fresh (w' := w.drew.alloc (.cells (([] : List Value).toArray ++ Builtin.zeroCells z.cells n ++ Builtin.zeroCells z.cells (grownCap w (0 + n) 0 e - (0 + n))) e)) (cs := []) hf rfl rfl rfl rfl (fun j c hj => by simp at hj)
  refine ⟨_, _, h1, h2, ?_⟩
  have := new_row_rep (φ' := fun r => if r = f then some (w.heap.size, 0) else φ r) (X' := fun b => X b ∨ b = w.heap.size) (sz := i.size) h5 h4 (n := 0 + n) (by simp [size_zeroCells, hzs]) hzs (grownCap_ge w (0 + n) 0 e)
  simpa using this
end
end Go.Proofs.Ytoijkcnefnmbjaa
