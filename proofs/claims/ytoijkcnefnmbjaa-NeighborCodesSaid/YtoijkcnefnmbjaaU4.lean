/-
  The operations on memory, each by what it reads, writes and leaves.
-/
import Derived.Test.YtoijkcnefnmbjaaU3
namespace Go.Proofs.Ytoijkcnefnmbjaa
open Go.RowKit

/-- the cells of a row stand for the list -/
def Good (X : Nat → Prop) (w : World) (φ : Em) (cells : Array Value) (cs : List AV) : Prop :=
  cells.size = cs.length ∧ ∀ (j : Nat) c, cs[j]? = some c → c.one = true ∧ ∃ u, cells[j]? = some u ∧ Rep X w φ u c

section
variable {X : Nat → Prop} {w : World} {φ : Em}
theorem Rep.good {v : Value} {a : AV} (h : Rep X w φ v a) (h1 : a.one = true ∨ ∃ cs, a = .agg cs) : Good X w φ v.cells a.cells := h.cells h1

theorem foldset : ∀ (vs : List Value) (off k : Nat) (cells : Array Value),
    ((vs.zipIdx k).foldl (fun (cs : Array Value) (p : Value × Nat) => cs.setIfInBounds (off + p.2) p.1) cells).size = cells.size ∧
    ∀ j, ((vs.zipIdx k).foldl (fun (cs : Array Value) (p : Value × Nat) => cs.setIfInBounds (off + p.2) p.1) cells)[j]? = if off + k ≤ j ∧ j < off + k + vs.length ∧ j < cells.size then vs[j - (off + k)]? else cells[j]? := by
  intro vs
  induction vs with
  | nil => intro off k cells; exact ⟨rfl, fun j => by simp; intro h1 h2; omega⟩
  | cons v vs ih =>
    intro off k cells
    obtain ⟨h1, h2⟩ := ih off (k + 1) (cells.setIfInBounds (off + k) v)
    refine ⟨by simpa using h1, fun j => ?_⟩
    have := h2 j
    simp only [List.zipIdx_cons, List.foldl_cons] at this ⊢
    rw [this]
    simp only [Array.size_setIfInBounds, List.length_cons]
    by_cases hj : j = off + k
    · subst hj
      rw [if_neg (by omega)]
      by_cases hlt : off + k < cells.size
      · rw [if_pos (by omega)]
        simp [hlt]
      · rw [if_neg (by omega)]
        simp [hlt]
    · rw [Array.getElem?_setIfInBounds_ne (by omega)]
      by_cases hc : off + (k + 1) ≤ j ∧ j < off + (k + 1) + vs.length ∧ j < cells.size
      · rw [if_pos hc, if_pos (by omega), show j - (off + k) = (j - (off + (k + 1))) + 1 from by omega]
        simp
      · rw [if_neg hc, if_neg (by omega)]

theorem Good.splice {cells vs : Array Value} {cs ns cs' : List AV} {off : Nat} (h : Good X w φ cells cs) (hv : Good X w φ vs ns) (hs : Sp cs off ns cs') :
    Good X w φ (vs.zipIdx.foldl (fun (cs : Array Value) (p : Value × Nat) => cs.setIfInBounds (off + p.2) p.1) cells) cs' := by
  rw [← Array.foldl_toList, Array.toList_zipIdx]
  obtain ⟨h1, h2⟩ := foldset vs.toList off 0 cells
  refine ⟨by rw [h1, h.1, hs.2.1], fun j c hj => ?_⟩
  rw [h2 j]
  have hjl : j < cs'.length := (List.getElem?_eq_some_iff.1 hj).1
  have hvl : vs.toList.length = ns.length := by simpa using hv.1
  rcases hs.2.2 j c hj with ⟨h3, h4⟩ | ⟨h3, h4⟩
  · have h5 : j - off < ns.length := (List.getElem?_eq_some_iff.1 h4).1
    rw [if_pos ⟨by omega, by omega, by rw [h.1, ← hs.2.1]; exact hjl⟩]
    obtain ⟨h6, u, h7, h8⟩ := hv.2 (j - off) c h4
    exact ⟨h6, u, by simpa using h7, h8⟩
  · rw [if_neg (by omega)]
    exact h.2 j c h4

/-- the parts of a literal, laid into its cells -/
inductive Fil (E : Operand → Option AV) (pl : Nat → Option (Nat × Nat)) : List AV → List (Nat × Operand) → List AV → Prop
  | nil {cs : List AV} : Fil E pl cs [] cs
  | cons {cs cs1 cs' : List AV} {i : Nat} {x : Operand} {a : AV} {off sz : Nat} {ps : List (Nat × Operand)} (hx : E x = some a) (hp : pl i = some (off, sz)) (h1 : a.okb = true) (hl : a.cells.length = sz)
      (hs : Sp cs off a.cells cs1) (h : Fil E pl cs1 ps cs') : Fil E pl cs ((i, x) :: ps) cs'

theorem Fil.len {E : Operand → Option AV} {pl : Nat → Option (Nat × Nat)} {cs cs' : List AV} {ps : List (Nat × Operand)} (h : Fil E pl cs ps cs') : cs'.length = cs.length := by
  induction h with
  | nil => rfl
  | cons _ _ _ _ hs _ ih => rw [ih, hs.2.1]
theorem fill_ok {E : Operand → Option AV} {pl : Nat → Option (Nat × Nat)} {ρ : Operand → Value} {cs cs' : List AV} {ps : List (Nat × Operand)} (h : Fil E pl cs ps cs') (hE : ∀ x, x ∈ ps.map (·.2) → ∀ a, E x = some a → Rep X w φ (ρ x) a) :
    ∀ cells, Good X w φ cells cs → ∃ cells', Instr.fill pl cells (ps.map fun p => (p.1, ρ p.2)) = some cells' ∧ Good X w φ cells' cs' := by
  induction h with
  | nil => intro cells hg; exact ⟨cells, rfl, hg⟩
  | cons hx hp h1 hl hs _ ih =>
    intro cells hg
    rename_i cs0 cs1 cs2 i x a off sz ps hh
    have hr := hE x (by simp) a hx
    have hv := hr.good (AV.okb_or h1)
    obtain ⟨cells', h2, h3⟩ := ih (fun y hy => hE y (by simp at hy ⊢; exact .inr hy)) _ (hg.splice hv hs)
    refine ⟨cells', ?_, h3⟩
    have hc1 : ¬ ((ρ x).cells.size ≠ sz) := by rw [hv.1, hl]; simp
    have hc2 : ¬ (off + (ρ x).cells.size > cells.size) := by rw [hv.1, hg.1]; have := hs.1; omega
    simp only [List.map_cons, Instr.fill, hp]
    rw [if_neg (by simp only [Bool.or_eq_true, decide_eq_true_eq]; rintro (h | h); exact hc1 h; exact hc2 h)]
    exact h2

theorem Good.zero {zero : List AV} {z : Value} (h1 : z.cells.toList.map absC = zero) (h2 : ∀ u ∈ z.cells.toList, u.oneCell' = true) : Good X w φ z.cells zero := by
  subst h1
  refine ⟨by simp, fun j c hj => ?_⟩
  simp only [List.getElem?_map] at hj
  cases hz : z.cells.toList[j]? with
  | none => rw [hz] at hj; cases hj
  | some u =>
    rw [hz] at hj
    injection hj with hj
    subst hj
    exact ⟨absC_one (h2 u (List.mem_of_getElem? hz)), u, by simpa using hz, rep_absC u⟩
end

section
variable {P : Program} {o : Oper} {E : Operand → Option AV} {H : Hp} {f : Nat} {v a : AV}

/-- an operation that makes a block -/
theorem LO.mk (cs : List AV) (h : ∀ (X : Nat → Prop) (φ : Em) (w : World) (ρ : Operand → Value), (∀ x, x ∈ o.op.operands → ∀ a, E x = some a → Rep X w φ (ρ x) a) →
      ∃ c e x w', (execOp ρ o).run P w = .ok (.value x) w' ∧ w'.heap = w.heap.push (.cells c e) ∧ w'.os = w.os ∧ w'.tape = w.tape ∧ w'.output = w.output ∧
        (∀ (j : Nat) a, cs[j]? = some a → a.one = true ∧ ∃ u, c[j]? = some u ∧ Rep X w φ u a) ∧
        ∀ (X' : Nat → Prop) (φ' : Em), φ' f = some (w.heap.size, 0) → bsz w' w.heap.size = c.size → Rep X' w' φ' x v) :
    LO P o E H f [] [f] v (up H f (some cs)) := by
  refine ⟨fun r hr => up_ne (by simpa using hr), fun E' K hE hK X φ w ρ hR hst hf => ?_⟩
  rw [ovr_one]
  obtain ⟨c, e, x, w', hx, hh, hos, htp, hout, hcs, hv⟩ := h X φ w ρ (fun x hx a ha => hR x a ((hE x hx).trans ha))
  unfold OpW
  rw [hx]
  obtain ⟨h1, h2, h3, h4, h5⟩ := hst.fresh hf hos htp hout hh hcs
  exact ⟨_, _, h1, h2, hv _ _ h5 h4⟩

section
variable {t : TypeId} {l : Lay} {size bytes : Nat} {zero : List AV}
theorem LO.alloc (ho : o.op = .alloc t) (ht : TyOK P t l size bytes zero) : LO P o E H f [] [f] (.own f 0) (up H f (some zero)) := by
  obtain ⟨z, hz, hzs, hzm, hzl, h1⟩ := ht.zeroV
  refine .mk zero fun X φ w ρ hR => ⟨z.cells, t, .pointer (some ⟨w.heap.size, 0, none⟩), w.alloc (.cells z.cells t), ?_, rfl, rfl, rfl, rfl, (Good.zero hzm h1).2, fun X' φ' hf _ => ?_⟩
  · simp [execOp, ho, Instr.alloc, hz, newVar, newRow, newObj, Sem.run, Pure.pure]
  · exact .own f 0 w.heap.size 0 hf
theorem LO.box {x : Operand} (ho : o.op = .box t x) (hx : E x = some a) (h1 : a.okb = true) : LO P o E H f [] [f] (.own f 0) (up H f (some a.cells)) := by
  refine .mk a.cells fun X φ w ρ hR => ⟨(ρ x).cells, t, .pointer (some ⟨w.heap.size, 0, none⟩), w.alloc (.cells (ρ x).cells t), ?_, rfl, rfl, rfl, rfl, ((hR x (by simp [ho, Op.operands]) a hx).good (AV.okb_or h1)).2, fun X' φ' hf _ => ?_⟩
  · simp [execOp, ho, Instr.box, newVar, newRow, newObj, Sem.run, Pure.pure]
  · exact .own f 0 w.heap.size 0 hf

theorem built_st {fs : List (Nat × Nat × Nat)} (ht : TyOK P t (.st fs) size bytes zero) : ∃ z : Value, z.cells.toList.map absC = zero ∧ (∀ u ∈ z.cells.toList, u.oneCell' = true) ∧ ∀ parts, P.built t parts = Instr.fill (fun i => (fs[i]?).map fun f => (f.1, f.2.1)) z.cells parts := by
  obtain ⟨d, inf, z, h1, h2, h3, h4, h5, h6, h7, h8, h9, h10⟩ := ht.spec
  refine ⟨z, h7, fun u hu => List.all_eq_true.1 h9 u hu, fun parts => ?_⟩
  cases d <;> simp only [layOf] at h2 <;> try (cases h2; done)
  rename_i flds
  injection h2 with h2
  subst h2
  unfold Program.built
  simp only [h3, h1, h6]
  have hm : ∀ (fl : List Field), (fl.all fun f => (P.info? f.type).isSome) = true → fl.mapM (fun f => (P.info? f.type).map fun i => (f.offset, i.size)) = some (fl.map fun f => (f.offset, ((P.info? f.type).map (·.size)).getD 0)) := by
    intro fl
    induction fl with
    | nil => intro _; rfl
    | cons f fl ih =>
      intro h
      simp only [List.all_cons, Bool.and_eq_true] at h
      obtain ⟨i, hi⟩ := Option.isSome_iff_exists.1 h.1
      simp [List.mapM_cons, hi, ih h.2]
  rw [hm _ h10]
  simp only
  congr 1
  funext i
  simp
  rfl
theorem built_ar {n e : Nat} {l' : Lay} {sz bytes' : Nat} {zero' : List AV} (ht : TyOK P t (.arr n e) size bytes zero) (he : TyOK P e l' sz bytes' zero') : ∃ z : Value, z.cells.toList.map absC = zero ∧ (∀ u ∈ z.cells.toList, u.oneCell' = true) ∧ ∀ parts, P.built t parts = Instr.fill (fun i => some (i * sz, sz)) z.cells parts := by
  obtain ⟨d, inf, z, h1, h2, h3, h4, h5, h6, h7, h8, h9, h10⟩ := ht.spec
  obtain ⟨d', inf', z', g1, g2, g3, g4, _⟩ := he.spec
  refine ⟨z, h7, fun u hu => List.all_eq_true.1 h9 u hu, fun parts => ?_⟩
  cases d <;> simp only [layOf] at h2 <;> try (cases h2; done)
  injection h2 with h2 h2'
  subst h2 h2'
  unfold Program.built
  simp only [h3, h1, h6, g3, g4]

theorem map_parts (parts : Array (Nat × Operand)) (ρ : Operand → Value) : (parts.map fun (i, x) => (i, ρ x)).toList = parts.toList.map fun p => (p.1, ρ p.2) := by simp
theorem LO.build_st {fs : List (Nat × Nat × Nat)} {parts : Array (Nat × Operand)} {cs : List AV} (ho : o.op = .build t parts) (ht : TyOK P t (.st fs) size bytes zero) (hf : Fil E (fun i => (fs[i]?).map fun f => (f.1, f.2.1)) zero parts.toList cs) :
    LO P o E H f [] [] (.agg cs) H :=
  .pure fun X φ w ρ hR => by
    obtain ⟨z, hz1, hz2, hb⟩ := built_st ht
    obtain ⟨cells', h1, h2⟩ := fill_ok (X := X) (w := w) (φ := φ) (ρ := ρ) hf (fun x hx a ha => hR x (by rw [ho]; simpa [Op.operands] using hx) a ha) z.cells (Good.zero hz1 hz2)
    refine ⟨.agg cells', ?_, .agg _ _ h2.1 (fun i c hc => (h2.2 i c hc).1) fun i v c hv hc => ?_⟩
    · have := run_build (P := P) w t (parts.map fun (i, x) => (i, ρ x)) cells' (by rw [hb, map_parts]; exact h1)
      simp only [execOp, ho, Sem.run_bind, this, Result.andThen_ok, Sem.run_pure]
    · obtain ⟨_, u, h3, h4⟩ := h2.2 i c hc
      rw [hv] at h3
      injection h3 with h3
      subst h3
      exact h4
theorem LO.build_ar {n e : Nat} {l' : Lay} {sz bytes' : Nat} {zero' : List AV} {parts : Array (Nat × Operand)} {cs : List AV} (ho : o.op = .build t parts) (ht : TyOK P t (.arr n e) size bytes zero) (he : TyOK P e l' sz bytes' zero') (hf : Fil E (fun i => some (i * sz, sz)) zero parts.toList cs) :
    LO P o E H f [] [] (.agg cs) H :=
  .pure fun X φ w ρ hR => by
    obtain ⟨z, hz1, hz2, hb⟩ := built_ar ht he
    obtain ⟨cells', h1, h2⟩ := fill_ok (X := X) (w := w) (φ := φ) (ρ := ρ) hf (fun x hx a ha => hR x (by rw [ho]; simpa [Op.operands] using hx) a ha) z.cells (Good.zero hz1 hz2)
    refine ⟨.agg cells', ?_, .agg _ _ h2.1 (fun i c hc => (h2.2 i c hc).1) fun i v c hv hc => ?_⟩
    · have := run_build (P := P) w t (parts.map fun (i, x) => (i, ρ x)) cells' (by rw [hb, map_parts]; exact h1)
      simp only [execOp, ho, Sem.run_bind, this, Result.andThen_ok, Sem.run_pure]
    · obtain ⟨_, u, h3, h4⟩ := h2.2 i c hc
      rw [hv] at h3
      injection h3 with h3
      subst h3
      exact h4

/-- n times the cells of a zero -/
def zerosL (n : Nat) (zero : List AV) : List AV := (List.replicate n zero).flatten
theorem zerosL_len (n : Nat) (zero : List AV) : (zerosL n zero).length = n * zero.length := by simp [zerosL]
theorem zerosL_get (n : Nat) (zero : List AV) (_h0 : 0 < zero.length) : ∀ (j : Nat) c, (zerosL n zero)[j]? = some c → zero[j % zero.length]? = some c := by
  induction n with
  | zero => intro j c h; simp [zerosL] at h
  | succ n ih =>
    intro j c h
    rw [show zerosL (n + 1) zero = zero ++ zerosL n zero from by simp [zerosL, List.replicate_succ]] at h
    rw [List.getElem?_append] at h
    split at h
    · rename_i hj
      rwa [Nat.mod_eq_of_lt hj]
    · rename_i hj
      have := ih _ _ h
      rwa [Nat.mod_eq_sub_mod (by omega)]
theorem good_zeros {X : Nat → Prop} {w : World} {φ : Em} {z : Value} {zero : List AV} (n : Nat) (h1 : z.cells.toList.map absC = zero) (h2 : ∀ u ∈ z.cells.toList, u.oneCell' = true) (h0 : 0 < zero.length) :
    Good X w φ ((Array.range (n * zero.length)).map (z.cells[· % z.cells.size]!)) (zerosL n zero) := by
  have hg := Good.zero (X := X) (w := w) (φ := φ) h1 h2
  refine ⟨by simp [zerosL_len], fun j c hj => ?_⟩
  have hlt : j < n * zero.length := by rw [← zerosL_len]; exact (List.getElem?_eq_some_iff.1 hj).1
  obtain ⟨h3, u, h4, h5⟩ := hg.2 _ c (zerosL_get n zero h0 j c hj)
  refine ⟨h3, u, ?_, h5⟩
  have hs : z.cells.size = zero.length := hg.1
  rw [← hs] at h4
  have hm : j % z.cells.size < z.cells.size := Nat.mod_lt _ (by omega)
  simp [hlt]
  simp [hm] at h4 ⊢
  exact h4
theorem LO.buildSlice {e : Nat} {l' : Lay} {sz bytes' n : Nat} {zero' : List AV} {parts : Array (Nat × Operand)} {cs : List AV} (ho : o.op = .buildSlice t n parts) (ht : TyOK P t (.sl e) size bytes zero) (he : TyOK P e l' sz bytes' zero') (h0 : 0 < sz) (hn : n * sz ≤ 2 ^ 24)
    (hf : Fil E (fun i => some (i * sz, sz)) (zerosL n zero') parts.toList cs) : LO P o E H f [] [f] (.osl f 0 n sz) (up H f (some cs)) := by
  obtain ⟨z, hz, hzs, hzm, hzl, h1⟩ := he.zeroV
  obtain ⟨d, inf, zz, g1, g2, _⟩ := ht.spec
  have hd : d = .slice e := by
    cases d <;> simp only [layOf] at g2 <;> try (cases g2; done)
    injection g2 with g2; rw [g2]
  subst hd
  refine .mk cs fun X φ w ρ hR => ?_
  have hg := good_zeros (X := X) (w := w) (φ := φ) n hzm h1 (by omega)
  rw [hzl] at hg
  obtain ⟨cells', h2, h3⟩ := fill_ok (X := X) (w := w) (φ := φ) (ρ := ρ) hf (fun x hx a ha => hR x (by rw [ho]; simpa [Op.operands] using hx) a ha) _ hg
  refine ⟨cells', e, .slice (some ⟨w.heap.size, 0, none⟩) n n, w.alloc (.cells cells' e), ?_, rfl, rfl, rfl, rfl, h3.2, fun X' φ' hf' hb => ?_⟩
  · have hne : ¬ (n * sz > 2 ^ 24) := by omega
    have h4 : Instr.fill (fun i => some (i * sz, sz)) ((Array.range (n * sz)).map fun x => z.cells[x % z.cells.size]!) (parts.map fun (i, x) => (i, ρ x)).toList = some cells' := by rw [map_parts]; exact h2
    by_cases hn0 : n * sz = 0
    · obtain rfl : n = 0 := by
        rcases Nat.eq_zero_or_pos n with h | h
        · exact h
        · have := Nat.mul_pos h h0; omega
      have hr0 : (Array.range (0 * sz)).map (fun x => z.cells[x % z.cells.size]!) = #[] := by simp
      rw [hr0] at h4
      simp only [execOp, ho, Instr.buildSlice, Sem.run_bind, run_underlying g1, Result.andThen_ok, he.sizeOf, if_neg hne, if_pos hn0, Sem.run_pure]
      have hr1 : ∀ g : Nat → Value, (Array.range (0 * sz)).map g = #[] := fun g => by simp
      rw [hr1, h4]
      simp [newRow, newObj, Sem.run, Pure.pure]
    · simp only [execOp, ho, Instr.buildSlice, Sem.run_bind, run_underlying g1, Result.andThen_ok, he.sizeOf, if_neg hne, if_neg hn0, Sem.run_pure, hz]
      rw [h4]
      simp [newRow, newObj, Sem.run, Pure.pure]
  · have hbz : bsz (w.alloc (.cells cells' e)) w.heap.size = n * sz := by
      rw [hb, h3.1]
      rw [hf.len, zerosL_len, hzl]
    have := Rep.osl (X := X') (w := w.alloc (.cells cells' e)) (φ := φ') f 0 n sz w.heap.size 0 n hf' (Nat.le_refl _) (by rw [hbz]; omega)
    exact this
end
end
end Go.Proofs.Ytoijkcnefnmbjaa
