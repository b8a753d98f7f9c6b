/-
  The operations on memory, second part: loads, stores, addresses, indices, slices, appends, conversions.
-/
import Derived.Test.YtoijkcnefnmbjaaU4
namespace Go.Proofs.Ytoijkcnefnmbjaa
open Go.RowKit

section
variable {P : Program} {o : Oper} {E : Operand → Option AV} {H : Hp} {f : Nat} {v a : AV} {t : TypeId} {l : Lay} {size bytes : Nat} {zero : List AV}

theorem Rep.own_inv {X : Nat → Prop} {w : World} {φ : Em} {u : Value} {r off : Nat} (h : Rep X w φ u (.own r off)) : ∃ b o, φ r = some (b, o) ∧ u = .pointer (some ⟨b, o + off, none⟩) := by
  cases h with
  | own _ _ b o hp => exact ⟨b, o, hp, rfl⟩
theorem Rep.imm_inv {X : Nat → Prop} {w : World} {φ : Em} {u : Value} {cs : List AV} {off : Nat} (h : Rep X w φ u (.imm cs off)) :
    ∃ b o, u = .pointer (some ⟨b, o + off, none⟩) ∧ b < w.heap.size ∧ ¬ X b ∧ ∀ (i : Nat) c, cs[i]? = some c → c.one = true ∧ ∃ u, w.cell? ⟨b, o + i, none⟩ = some u ∧ ∀ φ' : Em, Rep X w φ' u c := by
  cases h with
  | imm _ _ b o us hb hx h1 hc h => exact ⟨b, o, rfl, hb, hx, fun i c hi => ⟨h1 i c hi, us i, hc i c hi, fun φ' => (h i c hi).keep (Nat.le_refl _) (fun _ _ _ => rfl) (fun _ _ => rfl) (fun _ _ h => h) (fun _ _ h => by cases h)⟩⟩
/-- a slice that is read through -/
def AV.isl? : AV → Option (List AV × Nat)
  | .isl cs n => some (cs, n)
  | .nils => some ([], 0)
  | _ => none
theorem Rep.isl_inv {X : Nat → Prop} {w : World} {φ : Em} {u : Value} {a : AV} {cs : List AV} {n : Nat} (h : Rep X w φ u a) (ha : a.isl? = some (cs, n)) :
    ∃ A cap, u = .slice A n cap ∧ n ≤ cap ∧ ((cs = [] ∧ n = 0) ∨ ∃ b o, A = some ⟨b, o, none⟩ ∧ b < w.heap.size ∧ ¬ X b ∧ ∀ (i : Nat) c, cs[i]? = some c → c.one = true ∧ ∃ u, w.cell? ⟨b, o + i, none⟩ = some u ∧ ∀ φ' : Em, Rep X w φ' u c) := by
  cases h <;> simp only [AV.isl?] at ha <;> try (cases ha; done)
  · injection ha with ha
    injection ha with h1 h2
    subst h1 h2
    exact ⟨none, 0, rfl, Nat.le_refl _, .inl ⟨rfl, rfl⟩⟩
  · injection ha with ha
    injection ha with h1 h2
    subst h1 h2
    exact ⟨_, _, rfl, Nat.zero_le _, .inl ⟨rfl, rfl⟩⟩
  · rename_i cs0 len cap b o us hb hx hcap h1 hc h
    injection ha with ha
    injection ha with e1 e2
    subst e1 e2
    exact ⟨_, cap, rfl, hcap, .inr ⟨b, o, rfl, hb, hx, fun i c hi => ⟨h1 i c hi, us i, hc i c hi, fun φ' => (h i c hi).keep (Nat.le_refl _) (fun _ _ _ => rfl) (fun _ _ => rfl) (fun _ _ h => h) (fun _ _ h => by cases h)⟩⟩⟩
theorem Rep.osl_inv {X : Nat → Prop} {w : World} {φ : Em} {u : Value} {r off len sz : Nat} (h : Rep X w φ u (.osl r off len sz)) :
    ∃ A cap, u = .slice A len cap ∧ len ≤ cap ∧ ((len = 0 ∧ cap = 0) ∨ ∃ b o, φ r = some (b, o) ∧ A = some ⟨b, o + off, none⟩ ∧ o + off + cap * sz ≤ bsz w b) := by
  cases h with
  | osl _ _ _ _ b o cap hp hc hs => exact ⟨_, cap, rfl, hc, .inr ⟨b, o, hp, rfl, hs⟩⟩
  | osl0 A _ _ _ => exact ⟨A, 0, rfl, Nat.le_refl _, .inl ⟨rfl, rfl⟩⟩

theorem mk_imm {X : Nat → Prop} {w : World} {φ : Em} {cs : List AV} {b o : Nat} (off : Nat) (hb : b < w.heap.size) (hx : ¬ X b) (h : ∀ (i : Nat) c, cs[i]? = some c → c.one = true ∧ ∃ u, w.cell? ⟨b, o + i, none⟩ = some u ∧ ∀ φ' : Em, Rep X w φ' u c) :
    Rep X w φ (.pointer (some ⟨b, o + off, none⟩)) (.imm cs off) :=
  .imm cs off b o (fun i => (w.cell? ⟨b, o + i, none⟩).getD undef) hb hx (fun i c hi => (h i c hi).1) (fun i c hi => by obtain ⟨_, u, hu, _⟩ := h i c hi; rw [hu]; rfl) (fun i c hi => by obtain ⟨_, u, hu, hr⟩ := h i c hi; simp only [hu]; exact hr _)
theorem mk_isl {X : Nat → Prop} {w : World} {φ : Em} {cs : List AV} {b o len cap : Nat} (hc : len ≤ cap) (hb : b < w.heap.size) (hx : ¬ X b) (h : ∀ (i : Nat) c, cs[i]? = some c → c.one = true ∧ ∃ u, w.cell? ⟨b, o + i, none⟩ = some u ∧ ∀ φ' : Em, Rep X w φ' u c) :
    Rep X w φ (.slice (some ⟨b, o, none⟩) len cap) (.isl cs len) :=
  .isl cs len cap b o (fun i => (w.cell? ⟨b, o + i, none⟩).getD undef) hb hx hc (fun i c hi => (h i c hi).1) (fun i c hi => by obtain ⟨_, u, hu, _⟩ := h i c hi; rw [hu]; rfl) (fun i c hi => by obtain ⟨_, u, hu, hr⟩ := h i c hi; simp only [hu]; exact hr _)

/-! loads -/
theorem run_load_at {w : World} {a : Addr} {u : Value} (h : w.cell? a = some u) : (Go.load a).run P w = .ok u w := by simp [Go.load, Sem.run, h]
theorem LO.load {x : Operand} {r off : Nat} {cs : List AV} (ho : o.op = .load t x) (hx : E x = some (.own r off)) (hH : H r = some cs) (ha : cs[off]? = some a) (ht : TyOK P t l size bytes zero) (hg : l.agg = false) : LO P o E H f [r] [] a H :=
  .read r fun X φ w ρ K hR hK hst => by
    obtain ⟨b, o', hp, e⟩ := (hR x (by simp [ho, Op.operands]) _ hx).own_inv
    obtain ⟨c, el, hX, hh, hcs⟩ := hst.cells (hK.trans hH) hp
    obtain ⟨_, u, hu, hr⟩ := hcs off a ha
    refine ⟨u, ?_, hr⟩
    have hc : w.cell? ⟨b, o' + off, none⟩ = some u := by rw [cell_of hh]; exact hu
    simp only [execOp, ho, Instr.loadAt, e, Instr.sureAddr, Sem.run_bind, Sem.run_pure, Result.andThen_ok, loadVar, ht.isAgg, hg, Bool.false_eq_true, if_false, run_load_at hc]
theorem LO.load_agg {x : Operand} {r off : Nat} {cs vs : List AV} (ho : o.op = .load t x) (hx : E x = some (.own r off)) (hH : H r = some cs) (ht : TyOK P t l size bytes zero) (hg : l.agg = true) (hv : Tk cs off size vs) : LO P o E H f [r] [] (.agg vs) H :=
  .read r fun X φ w ρ K hR hK hst => by
    obtain ⟨b, o', hp, e⟩ := (hR x (by simp [ho, Op.operands]) _ hx).own_inv
    obtain ⟨c, el, hX, hh, hcs⟩ := hst.cells (hK.trans hH) hp
    obtain ⟨us, h1, h2, h3⟩ := run_cells (P := P) (X := X) (φ := φ) (w := w) (b := b) (i := o' + off) vs fun j d hj => by
      obtain ⟨_, u, hu, hr⟩ := hcs (off + j) d (hv.2 j d hj)
      exact ⟨u, by rw [cell_of hh, Nat.add_assoc]; exact hu, hr⟩
    rw [hv.1] at h2
    refine ⟨.agg us, by simp only [execOp, ho, Instr.loadAt, e, Instr.sureAddr, Sem.run_bind, Sem.run_pure, Result.andThen_ok, loadVar, ht.isAgg, hg, if_true, ht.sizeOf, h2], .agg _ _ h1 (fun i d hi => (hcs _ d (hv.2 i d hi)).1) fun i u d hu hi => ?_⟩
    obtain ⟨u', hu', _, hr⟩ := h3 i d hi
    rw [hu] at hu'
    injection hu' with hu'
    subst hu'
    exact hr
theorem LO.load_imm {x : Operand} {off : Nat} {cs : List AV} (ho : o.op = .load t x) (hx : E x = some (.imm cs off)) (ha : cs[off]? = some a) (ht : TyOK P t l size bytes zero) (hg : l.agg = false) : LO P o E H f [] [] a H :=
  .pure fun X φ w ρ hR => by
    obtain ⟨b, o', e, hb, hX, hcs⟩ := (hR x (by simp [ho, Op.operands]) _ hx).imm_inv
    obtain ⟨_, u, hu, hr⟩ := hcs off a ha
    refine ⟨u, ?_, hr φ⟩
    simp only [execOp, ho, Instr.loadAt, e, Instr.sureAddr, Sem.run_bind, Sem.run_pure, Result.andThen_ok, loadVar, ht.isAgg, hg, Bool.false_eq_true, if_false, run_load_at hu]
theorem LO.load_imm_agg {x : Operand} {off : Nat} {cs vs : List AV} (ho : o.op = .load t x) (hx : E x = some (.imm cs off)) (ht : TyOK P t l size bytes zero) (hg : l.agg = true) (hv : Tk cs off size vs) : LO P o E H f [] [] (.agg vs) H :=
  .pure fun X φ w ρ hR => by
    obtain ⟨b, o', e, hb, hX, hcs⟩ := (hR x (by simp [ho, Op.operands]) _ hx).imm_inv
    obtain ⟨us, h1, h2, h3⟩ := run_cells (P := P) (X := X) (φ := φ) (w := w) (b := b) (i := o' + off) vs fun j d hj => by
      obtain ⟨_, u, hu, hr⟩ := hcs (off + j) d (hv.2 j d hj)
      exact ⟨u, by rw [Nat.add_assoc]; exact hu, hr φ⟩
    rw [hv.1] at h2
    refine ⟨.agg us, by simp only [execOp, ho, Instr.loadAt, e, Instr.sureAddr, Sem.run_bind, Sem.run_pure, Result.andThen_ok, loadVar, ht.isAgg, hg, if_true, ht.sizeOf, h2], .agg _ _ h1 (fun i d hi => (hcs _ d (hv.2 i d hi)).1) fun i u d hu hi => ?_⟩
    obtain ⟨u', hu', _, hr⟩ := h3 i d hi
    rw [hu] at hu'
    injection hu' with hu'
    subst hu'
    exact hr

/-! stores -/
theorem splice_get {α : Type} (cur vs : List α) (k i : Nat) (h : k + vs.length ≤ cur.length) : (cur.take k ++ vs ++ cur.drop (k + vs.length))[i]? = if i < k then cur[i]? else if i < k + vs.length then vs[i - k]? else cur[i]? := by
  have hm : min k cur.length = k := by omega
  simp only [List.getElem?_append, List.length_append, List.length_take, List.getElem?_take, List.getElem?_drop, hm]
  by_cases h1 : i < k
  · simp [h1, show i < k + vs.length by omega]
  · by_cases h2 : i < k + vs.length
    · simp [h1, h2]
    · simp only [h1, h2, if_false]
      rw [show k + vs.length + (i - (k + vs.length)) = i from by omega]
theorem LO.store {x y : Operand} {r off : Nat} {cs cs' : List AV} (ho : o.op = .store t x y) (hx : E x = some (.own r off)) (hy : E y = some a) (hH : H r = some cs) (h1 : a.okb = true) (ht : TyOK P t l size bytes zero) (hl : a.cells.length = size) (h0 : 0 < size)
    (hs : Sp cs off a.cells cs') : LO P o E H f [] [r] (.base undef) (up H r (some cs')) := by
  refine ⟨fun r' hr => up_ne (by simpa using hr), fun E' K hE hK X φ w ρ hR hst hf => ?_⟩
  rw [ovr_one]
  obtain ⟨b, o', hp, e⟩ := (hR x _ ((hE x (by simp [ho, Op.operands])).trans hx)).own_inv
  have hry := hR y _ ((hE y (by simp [ho, Op.operands])).trans hy)
  have hg := hry.good (AV.okb_or h1)
  have hKr := (hK r (.inr (by simp))).trans hH
  obtain ⟨c, el, hX, hh, hcs⟩ := hst.cells hKr hp
  have hvl : (ρ y).cells.toList.length = a.cells.length := by simpa using hg.1
  have hs1 := hs.1
  have hfit : o' + off + (ρ y).cells.toList.length ≤ c.size := by
    obtain ⟨_, u, hu, _⟩ := hcs (cs.length - 1) cs[cs.length - 1] (List.getElem?_eq_getElem (by omega))
    have := (Array.getElem?_eq_some_iff.1 hu).1
    omega
  have hone : ∀ u ∈ (ρ y).cells.toList, u.oneCell' = true := by
    intro u hu
    obtain ⟨j, hj, e⟩ := List.mem_iff_getElem.1 hu
    obtain ⟨h2, u', h3, h4⟩ := hg.2 j a.cells[j] (List.getElem?_eq_getElem (by omega))
    have : u' = u := by
      have h5 : (ρ y).cells[j]? = some u := by rw [← e]; simp at hj ⊢; first | exact ⟨hj, trivial⟩ | exact hj | skip
      rw [h5] at h3; injection h3 with h3; exact h3.symm
    rw [← this]
    exact h4.oneCell h2
  have hrun := run_storeCells_at P b (o' + off) el (ρ y).cells.toList 0 c w hh (by simpa using hfit) hone
  simp only [Nat.add_zero] at hrun
  have hget := splice_get c.toList (ρ y).cells.toList (o' + off)
  generalize hc' : (c.toList.take (o' + off) ++ (ρ y).cells.toList ++ c.toList.drop (o' + off + (ρ y).cells.toList.length)).toArray = c' at hrun
  have hc'g : ∀ i, c'[i]? = if i < o' + off then c[i]? else if i < o' + off + (ρ y).cells.toList.length then (ρ y).cells.toList[i - (o' + off)]? else c[i]? := by
    intro i
    rw [← hc']
    have := hget i (by simpa using hfit)
    simpa using this
  have hc's : c'.size = c.size := by rw [← hc']; simp; simp at hfit; omega
  obtain ⟨n1, n2, n3⟩ := hst.put (f := f) (w' := w.setRow b c') (c' := c') (cs' := cs') hKr hp hh rfl rfl rfl (by simp) (fun b' hb' => setRow_other w b b' c' hb') (setRow_heap w b c c' el (0, 0) hh) hc's (fun j d hj => by
    rw [hc'g]
    rcases hs.2.2 j d hj with ⟨h3, h4⟩ | ⟨h3, h4⟩
    · have hlt : j - off < a.cells.length := (List.getElem?_eq_some_iff.1 h4).1
      obtain ⟨h5, u, h6, h7⟩ := hg.2 _ d h4
      refine ⟨h5, u, ?_, h7⟩
      rw [if_neg (by omega), if_pos (by omega), show o' + j - (o' + off) = j - off from by omega]
      simpa using h6
    · obtain ⟨h5, u, h6, h7⟩ := hcs j d h4
      refine ⟨h5, u, ?_, h7⟩
      rcases h3 with h3 | h3
      · rw [if_pos (by omega)]; exact h6
      · rw [if_neg (by omega), if_neg (by omega)]; exact h6)
  have hsz : (ρ y).cells.size = size := by rw [hg.1, hl]
  unfold OpW
  simp only [execOp, ho, Instr.storeAt, e, Instr.sureAddr, Sem.run_bind, Sem.run_pure, Result.andThen_ok, storeVar, ht.sizeOf, hsz, ne_eq, not_true, if_false, hrun]
  exact ⟨X, φ, n1, n2, .base _⟩

/-! addresses -/
theorem LO.nilCheck {x : Operand} {r off : Nat} (ho : o.op = .nilCheck x) (hx : E x = some (.own r off)) : LO P o E H f [] [] (.own r off) H :=
  .pure fun X φ w ρ hR => by
    have h := hR x (by simp [ho, Op.operands]) _ hx
    obtain ⟨b, o', hp, e⟩ := h.own_inv
    exact ⟨ρ x, by simp [execOp, ho, e, Sem.run_pure], h⟩
theorem LO.nilCheck_imm {x : Operand} {cs : List AV} {off : Nat} (ho : o.op = .nilCheck x) (hx : E x = some (.imm cs off)) : LO P o E H f [] [] (.imm cs off) H :=
  .pure fun X φ w ρ hR => by
    have h := hR x (by simp [ho, Op.operands]) _ hx
    obtain ⟨b, o', e, _⟩ := h.imm_inv
    exact ⟨ρ x, by simp [execOp, ho, e, Sem.run_pure], h⟩
theorem lay_st {fs : List (Nat × Nat × Nat)} (ht : TyOK P t (.st fs) size bytes zero) : ∃ flds : Array Field, P.underlying t = some (.struct flds) ∧ fs = flds.toList.map (fun f => (f.offset, ((P.info? f.type).map (·.size)).getD 0, f.type)) ∧ ∀ f ∈ flds.toList, (P.info? f.type).isSome = true := by
  obtain ⟨d, inf, z, h1, h2, h3, h4, h5, h6, h7, h8, h9, h10⟩ := ht.spec
  cases d <;> simp only [layOf] at h2 <;> try (cases h2; done)
  rename_i flds
  injection h2 with h2
  exact ⟨flds, h1, h2.symm, fun f hf => List.all_eq_true.1 h10 f hf⟩
theorem lay_sl {e : Nat} (ht : TyOK P t (.sl e) size bytes zero) : P.underlying t = some (.slice e) := by
  obtain ⟨d, inf, z, h1, h2, _⟩ := ht.spec
  cases d <;> simp only [layOf] at h2 <;> try (cases h2; done)
  injection h2 with h2
  rw [h1, h2]
theorem lay_ar {n e : Nat} (ht : TyOK P t (.arr n e) size bytes zero) : P.underlying t = some (.array n e) := by
  obtain ⟨d, inf, z, h1, h2, _⟩ := ht.spec
  cases d <;> simp only [layOf] at h2 <;> try (cases h2; done)
  injection h2 with h2 h3
  rw [h1, h2, h3]
theorem lay_int {k : IntKind} (ht : TyOK P t (.int k) size bytes zero) : P.underlying t = some (.int k) := by
  obtain ⟨d, inf, z, h1, h2, _⟩ := ht.spec
  cases d <;> simp only [layOf] at h2 <;> try (cases h2; done)
  injection h2 with h2
  rw [h1, h2]
theorem lay_bool (ht : TyOK P t .bool size bytes zero) : P.underlying t = some .bool := by
  obtain ⟨d, inf, z, h1, h2, _⟩ := ht.spec
  cases d <;> simp only [layOf] at h2 <;> try (cases h2; done)
  exact h1
theorem lay_str (ht : TyOK P t .str size bytes zero) : P.underlying t = some .string := by
  obtain ⟨d, inf, z, h1, h2, _⟩ := ht.spec
  cases d <;> simp only [layOf] at h2 <;> try (cases h2; done)
  exact h1
theorem field_of {fs : List (Nat × Nat × Nat)} {flds : Array Field} {i d s ty : Nat} (h : fs = flds.toList.map (fun f => (f.offset, ((P.info? f.type).map (·.size)).getD 0, f.type))) (hall : ∀ f ∈ flds.toList, (P.info? f.type).isSome = true) (hi : fs[i]? = some (d, s, ty)) :
    ∃ fl : Field, flds[i]? = some fl ∧ fl.offset = d ∧ fl.type = ty ∧ ∀ w, (Go.sizeOf fl.type).run P w = .ok s w := by
  subst h
  simp only [List.getElem?_map] at hi
  cases hf : flds.toList[i]? with
  | none => rw [hf] at hi; cases hi
  | some fl =>
    rw [hf] at hi
    injection hi with hi
    simp only [Prod.mk.injEq] at hi
    obtain ⟨h1, h2, h3⟩ := hi
    obtain ⟨inf, hinf⟩ := Option.isSome_iff_exists.1 (hall fl (List.mem_of_getElem? hf))
    rw [hinf] at h2
    exact ⟨fl, by simpa using hf, h1, h3, fun w => by simp [Go.sizeOf, typeInfo, hinf]; simpa using h2⟩
theorem run_fieldAt {fs : List (Nat × Nat × Nat)} {i d s ty b off : Nat} {w : World} (ht : TyOK P t (.st fs) size bytes zero) (hi : fs[i]? = some (d, s, ty)) (h0 : 0 < s) :
    (Instr.fieldAt t (.pointer (some ⟨b, off, none⟩)) i).run P w = .ok (.pointer (some ⟨b, off + d, none⟩)) w := by
  obtain ⟨flds, h1, h2, h3⟩ := lay_st ht
  obtain ⟨fl, h4, h5, h6, h7⟩ := field_of h2 h3 hi
  simp only [Instr.fieldAt, Sem.run_bind, run_underlying h1, Result.andThen_ok, h4, Instr.sureAddr, Sem.run_pure, fieldPlace, h7, if_neg (show ¬ s = 0 by omega), Addr.add_lit, h5]
theorem LO.fieldAddr {x : Operand} {fs : List (Nat × Nat × Nat)} {i d s ty r off : Nat} (ho : o.op = .fieldAddr t x i) (hx : E x = some (.own r off)) (ht : TyOK P t (.st fs) size bytes zero) (hi : fs[i]? = some (d, s, ty)) (h0 : 0 < s) : LO P o E H f [] [] (.own r (off + d)) H :=
  .pure fun X φ w ρ hR => by
    obtain ⟨b, o', hp, e⟩ := (hR x (by simp [ho, Op.operands]) _ hx).own_inv
    refine ⟨_, by simp only [execOp, ho, e, Sem.run_bind, run_fieldAt ht hi h0, Result.andThen_ok, Sem.run_pure]; rfl, ?_⟩
    rw [Nat.add_assoc]
    exact .own r (off + d) b o' hp
theorem LO.fieldAddr_imm {x : Operand} {fs : List (Nat × Nat × Nat)} {cs : List AV} {i d s ty off : Nat} (ho : o.op = .fieldAddr t x i) (hx : E x = some (.imm cs off)) (ht : TyOK P t (.st fs) size bytes zero) (hi : fs[i]? = some (d, s, ty)) (h0 : 0 < s) : LO P o E H f [] [] (.imm cs (off + d)) H :=
  .pure fun X φ w ρ hR => by
    obtain ⟨b, o', e, hb, hX, hc⟩ := (hR x (by simp [ho, Op.operands]) _ hx).imm_inv
    refine ⟨_, by simp only [execOp, ho, e, Sem.run_bind, run_fieldAt ht hi h0, Result.andThen_ok, Sem.run_pure]; rfl, ?_⟩
    rw [Nat.add_assoc]
    exact mk_imm (off + d) hb hX hc

theorem run_part {cs : Array Value} {off ty : Nat} {l' : Lay} {s by' : Nat} {z' : List AV} {w : World} {u : Value} (ht : TyOK P ty l' s by' z') (hg : l'.agg = false) (hu : cs[off]? = some u) : (Go.part ty cs off).run P w = .ok u w := by
  simp [Go.part, ht.isAgg, hg, hu]
theorem run_part_agg {cs : Array Value} {off ty : Nat} {l' : Lay} {s by' : Nat} {z' : List AV} {w : World} (ht : TyOK P ty l' s by' z') (hg : l'.agg = true) : (Go.part ty cs off).run P w = .ok (.agg (cs.extract off (off + s))) w := by
  simp [Go.part, ht.isAgg, hg, ht.sizeOf]
theorem Rep.agg_inv {X : Nat → Prop} {w : World} {φ : Em} {u : Value} {cs : List AV} (h : Rep X w φ u (.agg cs)) : ∃ us, u = .agg us ∧ Good X w φ us cs := by
  cases h with
  | agg us _ hl h1 h =>
    refine ⟨us, rfl, hl, fun j c hj => ⟨h1 j c hj, ?_⟩⟩
    have hlt : j < cs.length := (List.getElem?_eq_some_iff.1 hj).1
    have hu : us[j]? = some us[j] := by simp [hl, hlt]
    exact ⟨us[j], hu, h j _ c hu hj⟩
theorem Good.extract {X : Nat → Prop} {w : World} {φ : Em} {us : Array Value} {cs vs : List AV} {k n : Nat} (h : Good X w φ us cs) (hv : Tk cs k n vs) : Rep X w φ (.agg (us.extract k (k + n))) (.agg vs) := by
  have hbound : vs = [] ∨ k + n ≤ us.size := by
    rcases Nat.eq_zero_or_pos n with h0 | h0
    · left; exact List.eq_nil_of_length_eq_zero (by rw [hv.1, h0])
    · right
      have hlt : n - 1 < vs.length := by rw [hv.1]; omega
      have h1 := hv.2 (n - 1) vs[n - 1] (List.getElem?_eq_getElem hlt)
      have h2 := (List.getElem?_eq_some_iff.1 h1).1
      rw [h.1]
      omega
  refine .agg _ _ ?_ (fun i c hi => (h.2 _ c (hv.2 i c hi)).1) fun i u c hu hi => ?_
  · rcases hbound with h0 | h0
    · have h1 := hv.1
      subst h0
      simp at h1
      subst h1
      simp [Array.size_extract]; omega
    · rw [hv.1, Array.size_extract]
      omega
  · obtain ⟨_, u', h1, h2⟩ := h.2 _ c (hv.2 i c hi)
    rw [Array.getElem?_extract] at hu
    split at hu
    · rw [h1] at hu
      injection hu with hu
      subst hu
      exact h2
    · cases hu
theorem LO.field {x : Operand} {fs : List (Nat × Nat × Nat)} {cs : List AV} {i d s ty s' by' : Nat} {l' : Lay} {z' : List AV} (ho : o.op = .field t x i) (hx : E x = some (.agg cs)) (ha : cs[d]? = some a) (ht : TyOK P t (.st fs) size bytes zero) (hi : fs[i]? = some (d, s, ty)) (he : TyOK P ty l' s' by' z') (hg : l'.agg = false) :
    LO P o E H f [] [] a H :=
  .pure fun X φ w ρ hR => by
    obtain ⟨us, e, hgd⟩ := (hR x (by simp [ho, Op.operands]) _ hx).agg_inv
    obtain ⟨flds, h1, h2, h3⟩ := lay_st ht
    obtain ⟨fl, h4, h5, h6, h7⟩ := field_of h2 h3 hi
    obtain ⟨_, u, h8, h9⟩ := hgd.2 d a ha
    refine ⟨u, ?_, h9⟩
    subst h5 h6
    simp only [execOp, ho, e, Instr.field, Sem.run_bind, run_underlying h1, Result.andThen_ok, h4, asAgg, Sem.run_pure, run_part he hg h8]
theorem LO.field_agg {x : Operand} {fs : List (Nat × Nat × Nat)} {cs vs : List AV} {i d s ty s' by' : Nat} {l' : Lay} {z' : List AV} (ho : o.op = .field t x i) (hx : E x = some (.agg cs)) (ht : TyOK P t (.st fs) size bytes zero) (hi : fs[i]? = some (d, s, ty)) (he : TyOK P ty l' s' by' z') (hg : l'.agg = true) (hv : Tk cs d s' vs) :
    LO P o E H f [] [] (.agg vs) H :=
  .pure fun X φ w ρ hR => by
    obtain ⟨us, e, hgd⟩ := (hR x (by simp [ho, Op.operands]) _ hx).agg_inv
    obtain ⟨flds, h1, h2, h3⟩ := lay_st ht
    obtain ⟨fl, h4, h5, h6, h7⟩ := field_of h2 h3 hi
    refine ⟨_, ?_, hgd.extract hv⟩
    subst h5 h6
    simp only [execOp, ho, e, Instr.field, Sem.run_bind, run_underlying h1, Result.andThen_ok, h4, asAgg, Sem.run_pure, run_part_agg he hg]
end
end Go.Proofs.Ytoijkcnefnmbjaa
