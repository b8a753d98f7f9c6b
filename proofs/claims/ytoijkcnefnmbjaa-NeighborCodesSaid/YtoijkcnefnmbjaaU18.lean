/-
  Copying into a slice; slices with a bound on their room; rows of bytes that are not known yet.
-/
import Derived.Test.YtoijkcnefnmbjaaU17
import Derived.Lib.MakeNoZero
namespace Go.Proofs.Ytoijkcnefnmbjaa
open Go.RowKit Go.Lib
/-- ns is written from k on; the rest stays -/
def Cp (cs : List AV) (k : Nat) (ns cs' : List AV) : Prop := ∀ (j : Nat) c, cs'[j]? = some c → (k ≤ j ∧ ns[j - k]? = some c) ∨ ((j < k ∨ k + ns.length ≤ j) ∧ cs[j]? = some c)
theorem Cp.of {cs ns cs' : List AV} {k : Nat} (h : Sp cs k ns cs') : Cp cs k ns cs' := h.2.2
theorem Cp.app {cs ns : List AV} {k : Nat} (h : k = cs.length) : Cp cs k ns (cs ++ ns) := fun j c hj => by
  subst h
  rcases Nat.lt_or_ge j cs.length with h1 | h1
  · rw [List.getElem?_append_left h1] at hj; exact .inr ⟨.inl h1, hj⟩
  · rw [List.getElem?_append_right h1] at hj; exact .inl ⟨h1, hj⟩
section
variable {P : Program} {o : Oper} {E : Operand → Option AV} {H : Hp} {f : Nat} {v a : AV} {t tx : TypeId} {l lx : Lay} {size bytes sx bx : Nat} {zero zx : List AV} {x y : Operand} {e ex sz by' m : Nat} {l' : Lay} {z' ns : List AV} {rd : List Nat}
theorem LO.copy {r off len : Nat} {cs cs' : List AV} (ho : o.op = .call { callee := .builtin .copy, args := #[x, y], argTypes := #[t, tx] }) (hx : E x = some (.osl r off len sz)) (hy : SrcAV E H y sz m ns rd) (hH : H r = some cs) (hs : Cp cs off ns cs')
    (ht : TyOK P t (.sl e) size bytes zero) (htx : TyOK P tx (.sl ex) sx bx zx) (he : TyOK P e l' sz by' z') (h0 : 0 < sz) (hm0 : 0 < m) (hm : m ≤ len) :
    LO P o E H f rd [r] (.base (.int .i64 (m : Int))) (up H r (some cs')) := by
  refine ⟨fun r' hr => up_ne (by simpa using hr), fun E' K hE hK X φ w ρ hR hst hf => ?_⟩
  rw [ovr_one]
  have hKr := (hK r (.inr (by simp))).trans hH
  obtain ⟨A, cap, e1, hc, hcase⟩ := (hR x _ ((hE x (by simp [ho, Op.operands, Call.operands])).trans hx)).osl_inv
  obtain ⟨news, hsr, hnl, hns⟩ := hy.src (P := P) (X := X) (w := w) (φ := φ) (u := ρ y) (fun r hr => hK r (.inl hr)) hst (fun a ha => hR y a ((hE y (by simp [ho, Op.operands, Call.operands])).trans ha)) (lay_sl htx) h0
  obtain ⟨i, z, hi, hsz, hby, hz, hzs⟩ := info_of he
  subst hsz
  obtain ⟨rfl, h1⟩ | ⟨b, o', hp, rfl, hbs⟩ := hcase
  · omega
  obtain ⟨c, el, hX, hh, hcs⟩ := hst.cells hKr hp
  have hnews := hsr.newsLen
  have hfit : o' + off + news.length ≤ c.size := by
    rw [bsz_of hh] at hbs
    have : m * i.size ≤ cap * i.size := Nat.mul_le_mul_right _ (by omega)
    omega
  have hrun := run_storeCells_at P b (o' + off) el news 0 c w hh (by simpa using hfit) hsr.one
  simp only [Nat.add_zero] at hrun
  have hget := splice_get c.toList news (o' + off)
  generalize hc' : (c.toList.take (o' + off) ++ news ++ c.toList.drop (o' + off + news.length)).toArray = c' at hrun
  have hc'g : ∀ i, c'[i]? = if i < o' + off then c[i]? else if i < o' + off + news.length then news[i - (o' + off)]? else c[i]? := by
    intro i
    rw [← hc']
    have := hget i (by simpa using hfit)
    simpa using this
  have hc's : c'.size = c.size := by rw [← hc']; simp; omega
  obtain ⟨n1, n2, n3⟩ := hst.put (f := f) (w' := w.setRow b c') (c' := c') (cs' := cs') hKr hp hh rfl rfl rfl (by simp) (fun b' hb' => setRow_other w b b' c' hb') (setRow_heap w b c c' el (0, 0) hh) hc's (fun j d hj => by
    rw [hc'g]
    rcases hs j d hj with ⟨h3, h4⟩ | ⟨h3, h4⟩
    · have hlt : j - off < ns.length := (List.getElem?_eq_some_iff.1 h4).1
      obtain ⟨h5, u, h6, h7⟩ := hns _ d h4
      refine ⟨h5, u, ?_, h7⟩
      rw [if_neg (by omega), if_pos (by omega), show o' + j - (o' + off) = j - off from by omega]
      exact h6
    · obtain ⟨h5, u, h6, h7⟩ := hcs j d h4
      refine ⟨h5, u, ?_, h7⟩
      rcases h3 with h3 | h3
      · rw [if_pos (by omega)]; exact h6
      · rw [if_neg (by omega), if_neg (by omega)]; exact h6)
  unfold OpW
  have hmin : Nat.min m len = m := Nat.min_eq_left hm
  have hsz : (P.info? e).map (·.size) = some i.size := by rw [hi]; rfl
  have hcr : (Builtin.copy_ #[t, tx] o.type #[.slice (some ⟨b, o' + off, none⟩) len cap, ρ y]).run P w = .ok (goInt m) (w.setRow b c') := by
    simp only [Builtin.copy_, Sem.run_bind, Sem.run_pure, Result.andThen_ok, List.getElem?_toArray, List.getElem?_cons_zero, List.getElem?_cons_succ, run_underlying (lay_sl ht), hsr.len, hmin, he.sizeOf, hsr.cells, hrun]
  simp only [execOp, ho, resolve, invoke, Go.builtin, Sem.run_bind, Sem.run_pure, Result.andThen_ok, List.map_toArray, List.map_cons, List.map_nil, e1, hcr]
  exact ⟨X, φ, n1, n2, .base _⟩
theorem LO.slice3 {hi mx : Operand} {r off n : Nat} {k1 k2 : IntKind} (ho : o.op = .slice t x none (some hi) (some mx)) (hx : E x = some (.osl r off n sz)) (hh : E hi = some (.base (.int k1 (n : Int)))) (hm : E mx = some (.base (.int k2 (n : Int)))) (hn0 : 0 < n) (ht : TyOK P t (.sl e) size bytes zero) (he : TyOK P e l' sz by' z') :
    LO P o E H f [] [] (.osl r off n sz) H :=
  .pure fun X φ w ρ hR => by
    obtain ⟨A, cap, e1, hc, hcase⟩ := (hR x (by simp [ho, Op.operands]) _ hx).osl_inv
    have e2 := (hR hi (by simp [ho, Op.operands]) _ hh).base_eq
    have e3 := (hR mx (by simp [ho, Op.operands]) _ hm).base_eq
    obtain ⟨h1, h2⟩ | ⟨b, o', hp, rfl, hs⟩ := hcase
    · omega
    have hn : (0 : Int) ≤ (n : Int) ∧ (n : Int) ≤ (cap : Int) := by omega
    have hb : (Instr.sliceBounds true n cap (none : Option Value) (some (.int k1 (n : Int))) (some (.int k2 (n : Int)))).run P w = .ok (0, n, n) w := by
      simp [Instr.sliceBounds, Instr.sliceBound, asIntOf, show n ≤ cap by omega]
    refine ⟨.slice (some ⟨b, o' + off, none⟩) n n, ?_, .osl r off n sz b o' n hp (Nat.le_refl _) ?_⟩
    · have h9 : (Instr.slice t (.slice (some ⟨b, o' + off, none⟩) n cap) none (some (.int k1 (n : Int))) (some (.int k2 (n : Int)))).run P w = .ok (.slice (some ⟨b, o' + off, none⟩) n n) w := by
        unfold Instr.slice
        simp [run_underlying (lay_sl ht), hb, he.sizeOf, Addr.add]
      simp only [execOp, ho, e1, e2, e3, Option.map_none, Option.map_some, Instr.sliceAt, Sem.run_bind, run_underlying (lay_sl ht), h9, Result.andThen_ok, Sem.run_pure]
    · have : n * sz ≤ cap * sz := Nat.mul_le_mul_right _ hc
      omega
end
end Go.Proofs.Ytoijkcnefnmbjaa
