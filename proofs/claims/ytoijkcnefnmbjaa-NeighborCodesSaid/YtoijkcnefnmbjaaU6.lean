/-
  The operations on memory, third part: indices, slices, lengths, appends, makes, conversions.
-/
import Derived.Test.YtoijkcnefnmbjaaU5
namespace Go.Proofs.Ytoijkcnefnmbjaa
open Go.RowKit

section
variable {P : Program} {o : Oper} {E : Operand → Option AV} {H : Hp} {f : Nat} {v a : AV} {t : TypeId} {l : Lay} {size bytes : Nat} {zero : List AV}

/-! indices -/
theorem run_indexAt_sl {w : World} {e sz by' : Nat} {l' : Lay} {z' : List AV} {k : IntKind} {j len cap b off : Nat} (ht : TyOK P t (.sl e) size bytes zero) (he : TyOK P e l' sz by' z') (hj : j < len) :
    (Instr.indexAt t (.slice (some ⟨b, off, none⟩) len cap) (.int k (j : Int))).run P w = .ok (.pointer (some ⟨b, off + j * sz, none⟩)) w := by
  have h1 : (0 : Int) ≤ (j : Int) ∧ (j : Int) < (len : Int) := by omega
  simp only [Instr.indexAt, asIntOf, Sem.run_bind, Sem.run_pure, Result.andThen_ok, run_underlying (lay_sl ht), he.sizeOf, if_pos h1, Int.toNat_natCast, Addr.add_lit]
theorem run_indexAt_ar {w : World} {n e sz by' : Nat} {l' : Lay} {z' : List AV} {k : IntKind} {j b off : Nat} (ht : TyOK P t (.arr n e) size bytes zero) (he : TyOK P e l' sz by' z') (hj : j < n) :
    (Instr.indexAt t (.pointer (some ⟨b, off, none⟩)) (.int k (j : Int))).run P w = .ok (.pointer (some ⟨b, off + j * sz, none⟩)) w := by
  have h1 : (0 : Int) ≤ (j : Int) ∧ (j : Int) < (n : Int) := by omega
  simp only [Instr.indexAt, asIntOf, Sem.run_bind, Sem.run_pure, Result.andThen_ok, run_underlying (lay_ar ht), Instr.sureAddr, he.sizeOf, if_pos h1, Int.toNat_natCast, Addr.add_lit]
section
variable {x y : Operand} {e sz by' : Nat} {l' : Lay} {z' : List AV} {k : IntKind} {i : Int} {j : Nat}
theorem LO.indexAddr {len r off sz0 : Nat} (ho : o.op = .indexAddr t x y) (hx : E x = some (.osl r off len sz0)) (hy : E y = some (.base (.int k i))) (hi : i = (j : Int)) (ht : TyOK P t (.sl e) size bytes zero) (he : TyOK P e l' sz by' z') (hj : j < len) :
    LO P o E H f [] [] (.own r (off + j * sz)) H :=
  .pure fun X φ w ρ hR => by
    obtain ⟨A, cap, e1, hc, h0 | ⟨b, o', hp, hA, hs⟩⟩ := (hR x (by simp [ho, Op.operands]) _ hx).osl_inv
    · omega
    have e2 := (hR y (by simp [ho, Op.operands]) _ hy).base_eq
    subst hi hA
    refine ⟨_, by simp only [execOp, ho, e1, e2, Sem.run_bind, run_indexAt_sl ht he hj, Result.andThen_ok, Sem.run_pure]; try rfl, ?_⟩
    rw [Nat.add_assoc]
    exact .own r _ b o' hp
theorem LO.indexAddr_isl {len : Nat} {cs : List AV} {a : AV} (ho : o.op = .indexAddr t x y) (hx : E x = some a) (ha : a.isl? = some (cs, len)) (hy : E y = some (.base (.int k i))) (hi : i = (j : Int)) (ht : TyOK P t (.sl e) size bytes zero) (he : TyOK P e l' sz by' z') (hj : j < len) :
    LO P o E H f [] [] (.imm cs (j * sz)) H :=
  .pure fun X φ w ρ hR => by
    obtain ⟨A, cap, e1, hc, h0 | ⟨b, o', hA, hb, hX, hcs⟩⟩ := (hR x (by simp [ho, Op.operands]) _ hx).isl_inv ha
    · omega
    have e2 := (hR y (by simp [ho, Op.operands]) _ hy).base_eq
    subst hi hA
    exact ⟨_, by simp only [execOp, ho, e1, e2, Sem.run_bind, run_indexAt_sl ht he hj, Result.andThen_ok, Sem.run_pure]; try rfl, mk_imm _ hb hX hcs⟩
theorem LO.indexAddr_ar {n r off : Nat} (ho : o.op = .indexAddr t x y) (hx : E x = some (.own r off)) (hy : E y = some (.base (.int k i))) (hi : i = (j : Int)) (ht : TyOK P t (.arr n e) size bytes zero) (he : TyOK P e l' sz by' z') (hj : j < n) :
    LO P o E H f [] [] (.own r (off + j * sz)) H :=
  .pure fun X φ w ρ hR => by
    obtain ⟨b, o', hp, e1⟩ := (hR x (by simp [ho, Op.operands]) _ hx).own_inv
    have e2 := (hR y (by simp [ho, Op.operands]) _ hy).base_eq
    subst hi
    refine ⟨_, by simp only [execOp, ho, e1, e2, Sem.run_bind, run_indexAt_ar ht he hj, Result.andThen_ok, Sem.run_pure]; try rfl, ?_⟩
    rw [Nat.add_assoc]
    exact .own r _ b o' hp
theorem LO.indexAddr_imm {n off : Nat} {cs : List AV} (ho : o.op = .indexAddr t x y) (hx : E x = some (.imm cs off)) (hy : E y = some (.base (.int k i))) (hi : i = (j : Int)) (ht : TyOK P t (.arr n e) size bytes zero) (he : TyOK P e l' sz by' z') (hj : j < n) :
    LO P o E H f [] [] (.imm cs (off + j * sz)) H :=
  .pure fun X φ w ρ hR => by
    obtain ⟨b, o', e1, hb, hX, hcs⟩ := (hR x (by simp [ho, Op.operands]) _ hx).imm_inv
    have e2 := (hR y (by simp [ho, Op.operands]) _ hy).base_eq
    subst hi
    refine ⟨_, by simp only [execOp, ho, e1, e2, Sem.run_bind, run_indexAt_ar ht he hj, Result.andThen_ok, Sem.run_pure]; try rfl, ?_⟩
    rw [Nat.add_assoc]
    exact mk_imm _ hb hX hcs
theorem LO.index {n : Nat} {cs : List AV} (ho : o.op = .index t x y) (hx : E x = some (.agg cs)) (hy : E y = some (.base (.int k i))) (hi : i = (j : Int)) (ht : TyOK P t (.arr n e) size bytes zero) (he : TyOK P e l' sz by' z') (hg : l'.agg = false) (hj : j < n) (ha : cs[j * sz]? = some a) :
    LO P o E H f [] [] a H :=
  .pure fun X φ w ρ hR => by
    obtain ⟨us, e1, hgd⟩ := (hR x (by simp [ho, Op.operands]) _ hx).agg_inv
    have e2 := (hR y (by simp [ho, Op.operands]) _ hy).base_eq
    obtain ⟨_, u, h8, h9⟩ := hgd.2 _ a ha
    subst hi
    have h1 : (0 : Int) ≤ (j : Int) ∧ (j : Int) < (n : Int) := by omega
    exact ⟨u, by simp only [execOp, ho, e1, e2, Instr.index, asIntOf, Sem.run_bind, Sem.run_pure, Result.andThen_ok, run_underlying (lay_ar ht), if_pos h1, he.sizeOf, Int.toNat_natCast, run_part he hg h8], h9⟩
theorem LO.index_agg {n : Nat} {cs vs : List AV} (ho : o.op = .index t x y) (hx : E x = some (.agg cs)) (hy : E y = some (.base (.int k i))) (hi : i = (j : Int)) (ht : TyOK P t (.arr n e) size bytes zero) (he : TyOK P e l' sz by' z') (hg : l'.agg = true) (hj : j < n) (hv : Tk cs (j * sz) sz vs) :
    LO P o E H f [] [] (.agg vs) H :=
  .pure fun X φ w ρ hR => by
    obtain ⟨us, e1, hgd⟩ := (hR x (by simp [ho, Op.operands]) _ hx).agg_inv
    have e2 := (hR y (by simp [ho, Op.operands]) _ hy).base_eq
    subst hi
    have h1 : (0 : Int) ≤ (j : Int) ∧ (j : Int) < (n : Int) := by omega
    exact ⟨_, by simp only [execOp, ho, e1, e2, Instr.index, asIntOf, Sem.run_bind, Sem.run_pure, Result.andThen_ok, run_underlying (lay_ar ht), if_pos h1, he.sizeOf, Int.toNat_natCast, run_part_agg he hg]; try rfl, hgd.extract hv⟩

/-! slices -/
def Bnd (E : Operand → Option AV) (x : Option Operand) (dflt n : Nat) : Prop := (x = none ∧ n = dflt) ∨ ∃ y k, x = some y ∧ E y = some (.base (.int k (n : Int)))
theorem Bnd.no {E : Operand → Option AV} {d : Nat} : Bnd E none d d := .inl ⟨rfl, rfl⟩
theorem Bnd.at {E : Operand → Option AV} {y : Operand} {d n : Nat} {k : IntKind} {i : Int} (h : E y = some (.base (.int k i))) (hi : i = (n : Int)) : Bnd E (some y) d n := .inr ⟨y, k, rfl, by rw [h, hi]⟩
theorem run_slice {w : World} {ρ : Operand → Value} {lo hi : Option Operand} {A : Option Addr} {len cap m n : Nat} (ht : TyOK P t (.sl e) size bytes zero) (he : TyOK P e l' sz by' z')
    (hl : (lo = none ∧ m = 0) ∨ ∃ y k, lo = some y ∧ ρ y = .int k (m : Int)) (hh : (hi = none ∧ n = len) ∨ ∃ y k, hi = some y ∧ ρ y = .int k (n : Int)) (hmn : m ≤ n) (hn : n ≤ len) (hc : len ≤ cap) :
    (Instr.sliceAt t (.slice A len cap) (lo.map ρ) (hi.map ρ) (none : Option Value)).run P w = .ok (.slice (if cap = m then A else A.map (·.add (m * sz))) (n - m) (cap - m)) w := by
  have h1 : (0 : Int) ≤ (n : Int) ∧ (n : Int) ≤ (cap : Int) := by omega
  have h2 : (0 : Int) ≤ (m : Int) ∧ (m : Int) ≤ (n : Int) := by omega
  have hb : (Instr.sliceBounds true len cap (lo.map ρ) (hi.map ρ) none).run P w = .ok (m, n, cap) w := by
    rcases hl with ⟨rfl, rfl⟩ | ⟨y, k, rfl, ey⟩ <;> rcases hh with ⟨rfl, rfl⟩ | ⟨y', k', rfl, ey'⟩
    · simp [Instr.sliceBounds]
    · simp [Instr.sliceBounds, Instr.sliceBound, asIntOf, ey', show n ≤ cap by omega]
    · simp [Instr.sliceBounds, Instr.sliceBound, asIntOf, ey, hmn]
    · simp [Instr.sliceBounds, Instr.sliceBound, asIntOf, ey, ey', hmn, show n ≤ cap by omega]
  simp only [Instr.sliceAt, Instr.slice, Sem.run_bind, run_underlying (lay_sl ht), Result.andThen_ok, hb, he.sizeOf, Sem.run_pure]
theorem bnd_val {E : Operand → Option AV} {X : Nat → Prop} {w : World} {φ : Em} {ρ : Operand → Value} {x : Option Operand} {d n : Nat} (h : Bnd E x d n) (hR : ∀ y, x = some y → ∀ a, E y = some a → Rep X w φ (ρ y) a) : (x = none ∧ n = d) ∨ ∃ y k, x = some y ∧ ρ y = .int k (n : Int) := by
  rcases h with h | ⟨y, k, rfl, h⟩
  · exact .inl h
  · exact .inr ⟨y, k, rfl, (hR y rfl _ h).base_eq⟩
theorem LO.slice {lo hi : Option Operand} {r off len m n : Nat} (ho : o.op = .slice t x lo hi none) (hx : E x = some (.osl r off len sz)) (hl : Bnd E lo 0 m) (hh : Bnd E hi len n) (hmn : m ≤ n) (hn : n ≤ len) (ht : TyOK P t (.sl e) size bytes zero) (he : TyOK P e l' sz by' z') :
    LO P o E H f [] [] (.osl r (off + m * sz) (n - m) sz) H :=
  .pure fun X φ w ρ hR => by
    obtain ⟨A, cap, e1, hc, hcase⟩ := (hR x (by simp [ho, Op.operands]) _ hx).osl_inv
    have hl' := bnd_val (ρ := ρ) hl fun y hy a ha => hR y (by simp [ho, Op.operands, hy]) a ha
    have hh' := bnd_val (ρ := ρ) hh fun y hy a ha => hR y (by simp [ho, Op.operands, hy]) a ha
    refine ⟨_, by simp only [execOp, ho, e1, Sem.run_bind, Option.map_none, run_slice (A := A) (w := w) ht he hl' hh' hmn hn hc, Result.andThen_ok, Sem.run_pure]; try rfl, ?_⟩
    rcases hcase with ⟨h1, h2⟩ | ⟨b, o', hp, rfl, hs⟩
    · have e3 : n - m = 0 := by omega
      have e4 : cap - m = 0 := by omega
      rw [e3, e4]
      exact .osl0 _ _ _ _
    · by_cases hcm : cap = m
      · have e3 : n - m = 0 := by omega
        have e4 : cap - m = 0 := by omega
        rw [e3, e4]
        exact .osl0 _ _ _ _
      · rw [if_neg hcm]
        simp only [Option.map_some, Addr.add_lit]
        rw [Nat.add_assoc]
        refine .osl r _ _ sz b o' _ hp (by omega) ?_
        have : m * sz + (cap - m) * sz = cap * sz := by rw [← Nat.add_mul]; congr 1; omega
        omega
theorem LO.slice_isl {lo hi : Option Operand} {a : AV} {cs vs : List AV} {len m n : Nat} (ho : o.op = .slice t x lo hi none) (hx : E x = some a) (ha : a.isl? = some (cs, len)) (hl : Bnd E lo 0 m) (hh : Bnd E hi len n) (hmn : m ≤ n) (hn : n ≤ len) (ht : TyOK P t (.sl e) size bytes zero) (he : TyOK P e l' sz by' z') (hv : Tk cs (m * sz) ((n - m) * sz) vs) :
    LO P o E H f [] [] (.isl vs (n - m)) H :=
  .pure fun X φ w ρ hR => by
    obtain ⟨A, cap, e1, hc, hcase⟩ := (hR x (by simp [ho, Op.operands]) _ hx).isl_inv ha
    have hl' := bnd_val (ρ := ρ) hl fun y hy a ha => hR y (by simp [ho, Op.operands, hy]) a ha
    have hh' := bnd_val (ρ := ρ) hh fun y hy a ha => hR y (by simp [ho, Op.operands, hy]) a ha
    refine ⟨_, by simp only [execOp, ho, e1, Sem.run_bind, Option.map_none, run_slice (A := A) (w := w) ht he hl' hh' hmn hn hc, Result.andThen_ok, Sem.run_pure]; try rfl, ?_⟩
    rcases Nat.eq_zero_or_pos (n - m) with h0 | h0
    · have hvs : vs = [] := List.eq_nil_of_length_eq_zero (by rw [hv.1, h0]; simp)
      rw [h0, hvs]
      exact .isl0 _ _
    · rcases hcase with ⟨h1, h2⟩ | ⟨b, o', rfl, hb, hX, hcs⟩
      · omega
      · rw [if_neg (by omega)]
        simp only [Option.map_some, Addr.add_lit]
        refine mk_isl (by omega) hb hX fun i c hi => ?_
        obtain ⟨h3, u, h4, h5⟩ := hcs _ c (hv.2 i c hi)
        exact ⟨h3, u, by rw [Nat.add_assoc]; exact h4, h5⟩

/-! lengths -/
theorem LO.len {len r off : Nat} (ho : o.op = .call { callee := .builtin .len, args := #[x], argTypes := #[t] }) (hx : E x = some (.osl r off len sz)) (ht : TyOK P t (.sl e) size bytes zero) : LO P o E H f [] [] (.base (.int .i64 (len : Int))) H :=
  .pure fun X φ w ρ hR => by
    obtain ⟨A, cap, e1, _⟩ := (hR x (by simp [ho, Op.operands, Call.operands]) _ hx).osl_inv
    exact ⟨_, by simp [execOp, ho, resolve, invoke, Go.builtin, Builtin.len_, e1, run_underlying (lay_sl ht), goInt]; try rfl, .base _⟩
theorem LO.len_isl {a : AV} {cs : List AV} {len : Nat} (ho : o.op = .call { callee := .builtin .len, args := #[x], argTypes := #[t] }) (hx : E x = some a) (ha : a.isl? = some (cs, len)) (ht : TyOK P t (.sl e) size bytes zero) : LO P o E H f [] [] (.base (.int .i64 (len : Int))) H :=
  .pure fun X φ w ρ hR => by
    obtain ⟨A, cap, e1, _⟩ := (hR x (by simp [ho, Op.operands, Call.operands]) _ hx).isl_inv ha
    exact ⟨_, by simp [execOp, ho, resolve, invoke, Go.builtin, Builtin.len_, e1, run_underlying (lay_sl ht), goInt]; try rfl, .base _⟩
theorem LO.len_str {s : ByteArray} (ho : o.op = .call { callee := .builtin .len, args := #[x], argTypes := #[t] }) (hx : E x = some (.base (.string s))) (ht : TyOK P t .str size bytes zero) : LO P o E H f [] [] (.base (.int .i64 (s.size : Int))) H :=
  .pure fun X φ w ρ hR => by
    have e1 := (hR x (by simp [ho, Op.operands, Call.operands]) _ hx).base_eq
    exact ⟨_, by simp [execOp, ho, resolve, invoke, Go.builtin, Builtin.len_, e1, run_underlying (lay_str ht), goInt]; try rfl, .base _⟩
theorem LO.min {T' : Array TypeId} {m n : Int} (ho : o.op = .call { callee := .builtin .min, args := #[x, y], argTypes := T' }) (hx : E x = some (.base (.int k m))) (hy : E y = some (.base (.int k n))) : LO P o E H f [] [] (.base (.int k (if n < m then n else m))) H :=
  .pure fun X φ w ρ hR => by
    have e1 := (hR x (by simp [ho, Op.operands, Call.operands]) _ hx).base_eq
    have e2 := (hR y (by simp [ho, Op.operands, Call.operands]) _ hy).base_eq
    exact ⟨_, by simp [execOp, ho, resolve, invoke, Go.builtin, Builtin.min_, Builtin.min2, e1, e2]; try rfl, .base _⟩
theorem LO.max {T' : Array TypeId} {m n : Int} (ho : o.op = .call { callee := .builtin .max, args := #[x, y], argTypes := T' }) (hx : E x = some (.base (.int k m))) (hy : E y = some (.base (.int k n))) : LO P o E H f [] [] (.base (.int k (if m < n then n else m))) H :=
  .pure fun X φ w ρ hR => by
    have e1 := (hR x (by simp [ho, Op.operands, Call.operands]) _ hx).base_eq
    have e2 := (hR y (by simp [ho, Op.operands, Call.operands]) _ hy).base_eq
    exact ⟨_, by simp [execOp, ho, resolve, invoke, Go.builtin, Builtin.max_, Builtin.max2, e1, e2]; try rfl, .base _⟩

/-! conversions -/
theorem LO.conv {s : TypeId} {ls : Lay} {ss sb : Nat} {sz' : List AV} {k' : IntKind} (ho : o.op = .convert s t x) (hx : E x = some (.base (.int k i))) (hs : TyOK P s ls ss sb sz') (ht : TyOK P t (.int k') size bytes zero) : LO P o E H f [] [] (.base (.int k' (k'.wrap i))) H :=
  .pure fun X φ w ρ hR => by
    have e1 := (hR x (by simp [ho, Op.operands]) _ hx).base_eq
    obtain ⟨d, _, _, h1, _⟩ := hs.spec
    exact ⟨_, by
      simp only [execOp, ho, e1, Go.convert, Sem.run_bind, run_underlying h1, run_underlying (lay_int ht), Result.andThen_ok, Conv.intToInt, Sem.run_pure]
      try first | rfl | (cases d <;> rfl), .base _⟩
theorem LO.conv_in {s : TypeId} {ls : Lay} {ss sb : Nat} {sz' : List AV} {k' : IntKind} (ho : o.op = .convert s t x) (hx : E x = some (.base (.int k i))) (hs : TyOK P s ls ss sb sz') (ht : TyOK P t (.int k') size bytes zero) (hw : k'.wrap i = i) : LO P o E H f [] [] (.base (.int k' i)) H := by
  have := LO.conv (P := P) (H := H) (f := f) ho hx hs ht
  rwa [hw] at this
theorem LO.eql_bool {ty : TypeId} {b b' : Bool} (ho : o.op = .binOp .eql t x y ty) (hx : E x = some (.base (.bool b))) (hy : E y = some (.base (.bool b'))) (ht : TyOK P t .bool size bytes zero) : LO P o E H f [] [] (.base (.bool (b == b'))) H :=
  .bin ho hx hy fun w => by simp [eqGuard, Go.binOp, run_equal_bool (P := P) (w := w) t b b' (lay_bool ht)]
theorem LO.neq_bool {ty : TypeId} {b b' : Bool} (ho : o.op = .binOp .neq t x y ty) (hx : E x = some (.base (.bool b))) (hy : E y = some (.base (.bool b'))) (ht : TyOK P t .bool size bytes zero) : LO P o E H f [] [] (.base (.bool (!(b == b')))) H :=
  .bin ho hx hy fun w => by simp [eqGuard, Go.binOp, run_equal_bool (P := P) (w := w) t b b' (lay_bool ht)]
theorem LO.eql_str {ty : TypeId} {b b' : ByteArray} (ho : o.op = .binOp .eql t x y ty) (hx : E x = some (.base (.string b))) (hy : E y = some (.base (.string b'))) : LO P o E H f [] [] (.base (.bool (b.toList == b'.toList))) H :=
  .bin ho hx hy fun w => by simp [eqGuard, Go.binOp, Op.stringOp]
theorem LO.neq_str {ty : TypeId} {b b' : ByteArray} (ho : o.op = .binOp .neq t x y ty) (hx : E x = some (.base (.string b))) (hy : E y = some (.base (.string b'))) : LO P o E H f [] [] (.base (.bool (!(b.toList == b'.toList)))) H :=
  .bin ho hx hy fun w => by simp [eqGuard, Go.binOp, Op.stringOp]
end

/-! make -/
theorem LO.makeSlice {x y : Operand} {e sz by' n m : Nat} {l' : Lay} {z' : List AV} {k k' : IntKind} {i i' : Int} (ho : o.op = .makeSlice t x y) (hx : E x = some (.base (.int k i))) (hy : E y = some (.base (.int k' i'))) (hin : i = (n : Int)) (him : i' = (m : Int)) (ht : TyOK P t (.sl e) size bytes zero) (he : TyOK P e l' sz by' z') (h0 : 0 < sz)
    (hnm : n ≤ m) (hm : m ≤ 9223372036854775807) (hb : m * by' ≤ 281474976710656) : LO P o E H f [] [f] (.osl f 0 n sz) (up H f (some (zerosL m z'))) := by
  subst hin him
  obtain ⟨z, hz, hzs, hzm, hzl, h1⟩ := he.zeroV
  refine .mk _ fun X φ w ρ hR => ?_
  have e1 := (hR x (by simp [ho, Op.operands]) _ hx).base_eq
  have e2 := (hR y (by simp [ho, Op.operands]) _ hy).base_eq
  have hg := good_zeros (X := X) (w := w) (φ := φ) m hzm h1 (by omega)
  rw [hzl] at hg
  obtain ⟨inf, hi1, hi2⟩ := he.info w
  have w1 : IntKind.i64.wrap (n : Int) = n := IntWalk.i64_in _ (by omega)
  have w2 : IntKind.i64.wrap (m : Int) = m := IntWalk.i64_in _ (by omega)
  have hbz : bsz (w.alloc (.cells ((Array.range (m * sz)).map (z.cells[· % z.cells.size]!)) e)) w.heap.size = m * sz := by
    rw [bsz_of (c := (Array.range (m * sz)).map (z.cells[· % z.cells.size]!)) (e := e) (f := (0, 0)) (heap_alloc_new w _)]
    simp
  have hsz0 : m * sz = 0 → (Array.range (m * sz)).map (fun x => z.cells[x % z.cells.size]!) = #[] := fun h => by rw [h]; simp
  refine ⟨_, e, .slice (some ⟨w.heap.size, 0, none⟩) n m, w.alloc (.cells ((Array.range (m * sz)).map (z.cells[· % z.cells.size]!)) e), ?_, rfl, rfl, rfl, rfl, hg.2, fun X' φ' hf' _ => ?_⟩
  · have ht1 : ¬ ((by' : Int) * (m : Int) > 281474976710656) := by
      have : ((m * by' : Nat) : Int) ≤ 281474976710656 := by omega
      rw [Nat.mul_comm] at this
      simpa using this
    have hmark : ∀ q, (askRoom q).run P w = .ok () w := fun q => by unfold askRoom; split <;> simp [mark, Sem.run]
    have c1 : ¬ ((m : Int) < 0) := by omega
    have c2 : ¬ ((n : Int) < 0) := by omega
    have c3 : ¬ ((n : Int) > (m : Int)) := by omega
    have hto : (m : Int).toNat = m := Int.toNat_natCast m
    simp only [execOp, ho, e1, e2, Instr.makeSlice, Sem.run_bind, run_underlying (lay_sl ht), Result.andThen_ok, asInt, asIntOf, Sem.run_pure, hi1, hi2, w1, w2]
    have hcond : (((decide ((m : Int) < 0) || decide ((by' : Int) * (m : Int) > 2 ^ 48)) || decide ((n : Int) < 0)) || decide ((n : Int) > (m : Int))) = false := by
      simp [c1, c2, c3]
      omega
    rw [if_neg (by simp only [hcond]; simp)]
    simp only [Sem.run_bind, hmark, Result.andThen_ok, he.sizeOf, hto]
    by_cases hmz : m * sz = 0
    · rw [if_pos hmz]
      have := hsz0 hmz
      simp only [Sem.run_pure, Result.andThen_ok, newRow, newObj, Sem.run_bind, Int.toNat_natCast]
      rw [hmz]
      have hr : ∀ g : Nat → Value, (Array.range 0).map g = #[] := fun g => by simp
      simp only [hr]
      simp [Sem.run]
    · rw [if_neg hmz]
      simp [hz, newRow, newObj, Sem.run]
  · have := Rep.osl (X := X') (w := w.alloc (.cells ((Array.range (m * sz)).map (z.cells[· % z.cells.size]!)) e)) (φ := φ') f 0 n sz w.heap.size 0 m hf' hnm (by rw [hbz]; omega)
    exact this
end
end Go.Proofs.Ytoijkcnefnmbjaa
