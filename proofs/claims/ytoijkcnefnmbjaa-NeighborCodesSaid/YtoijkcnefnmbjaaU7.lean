/-
  Appends over values without addresses.
-/
import Derived.Test.YtoijkcnefnmbjaaU6
import Derived.Deep.AppendSrc
namespace Go.Proofs.Ytoijkcnefnmbjaa
open Go.RowKit

section
variable {X : Nat → Prop} {w : World} {φ : Em}
/-- a name for nothing yet: an empty slice -/
theorem St.phantom {K : Hp} {f : Nat} (hst : St X φ K w) (hf : φ f = none) : Nxt K (· = f) X φ w (up K f (some [])) X φ w ∧ St X φ (up K f (some [])) w := by
  refine ⟨{ Nxt.refl K (· = f) X φ w with lv := fun r cs b o h1 h2 => ?_ }, fun r cs hr => ?_, fun r1 r2 c1 c2 b o1 o2 h1 h2 h3 h4 => ?_⟩
  · by_cases h : r = f
    · subst h; rw [hf] at h2; cases h2
    · rw [up_ne h] at h1; exact .inr ⟨r, cs, o, h1, h2⟩
  · by_cases h : r = f
    · subst h
      rw [up_at] at hr
      injection hr with hr
      exact .inl ⟨hr.symm, hf⟩
    · rw [up_ne h] at hr; exact hst.1 r cs hr
  · have n1 : r1 ≠ f := fun h => by rw [h, hf] at h3; cases h3
    have n2 : r2 ≠ f := fun h => by rw [h, hf] at h4; cases h4
    rw [up_ne n1] at h1
    rw [up_ne n2] at h2
    exact hst.2 r1 r2 c1 c2 b o1 o2 h1 h2 h3 h4

/-- a block that is owned goes on under a new name -/
theorem St.reuse {K : Hp} {r f b o o' : Nat} {cs cs' : List AV} {w' : World} {c c' : Array Value} {e : TypeId} (hst : St X φ K w) (hr : K r = some cs) (hp : φ r = some (b, o)) (hh : w.heap[b]? = some (.cells c e (0, 0))) (hf : φ f = none)
    (hos : w'.os = w.os) (htp : w'.tape = w.tape) (hout : w'.output = w.output) (hsz : w'.heap.size = w.heap.size) (hoth : ∀ b', b' ≠ b → w'.heap[b']? = w.heap[b']?) (hb : w'.heap[b]? = some (.cells c' e (0, 0))) (hc : c'.size = c.size)
    (hcs : ∀ (j : Nat) a, cs'[j]? = some a → a.one = true ∧ ∃ u, c'[o' + j]? = some u ∧ Rep X w φ u a) :
    let φ' : Em := fun x => if x = f then some (b, o') else φ x
    Nxt K (· = f) X φ w (up (up K r none) f (some cs')) X φ' w' ∧ St X φ' (up (up K r none) f (some cs')) w' ∧ φ' f = some (b, o') := by
  intro φ'
  have hrf : r ≠ f := fun h => by rw [h, hf] at hp; cases hp
  obtain ⟨c0, e0, hX, hh0, _⟩ := hst.cells hr hp
  have hbs : ∀ b', bsz w' b' = bsz w b' := by
    intro b'
    by_cases h : b' = b
    · subst h; rw [bsz_of hb, bsz_of hh, hc]
    · unfold bsz; rw [hoth b' h]
  have hφ : ∀ x y, φ x = some y → φ' x = some y := fun x y h => by
    show (if x = f then _ else _) = _
    rw [if_neg (fun e => by rw [e, hf] at h; cases h)]
    exact h
  have hφf : φ' f = some (b, o') := if_pos rfl
  have hφn : ∀ x, x ≠ f → φ' x = φ x := fun x h => if_neg h
  have hkeep : ∀ v a, Rep X w φ v a → Rep X w' φ' v a := fun v a h =>
    h.keep (Nat.le_of_eq hsz.symm) (fun b' _ hx => hoth b' (fun e => hx (e ▸ hX))) (fun b' _ => hbs b') (fun _ _ h => h) hφ
  have hold : ∀ x cs1, up (up K r none) f (some cs') x = some cs1 → x ≠ f → x ≠ r ∧ K x = some cs1 := by
    intro x cs1 h hx
    rw [up_ne hx] at h
    by_cases hxr : x = r
    · subst hxr; rw [up_at] at h; cases h
    · rw [up_ne hxr] at h; exact ⟨hxr, h⟩
  refine ⟨⟨hos, htp, hout, Nat.le_of_eq hsz.symm, fun b' _ hn => hoth b' (fun e => hn r cs o hr (by rw [hp, e])), fun b' _ => hbs b', fun _ _ h => h, fun _ _ h => .inl h, fun x h => hφn x h, fun x cs1 b' o1 h1 h2 => ?_⟩, ⟨fun x cs1 h1 => ?_, fun r1 r2 c1 c2 b' o1 o2 h1 h2 h3 h4 => ?_⟩, hφf⟩
  · by_cases hx : x = f
    · subst hx
      rw [hφf] at h2
      injection h2 with h2
      injection h2 with h2 _
      exact .inr ⟨r, cs, o, hr, by rw [hp, h2]⟩
    · obtain ⟨_, h3⟩ := hold x cs1 h1 hx
      rw [hφn x hx] at h2
      exact .inr ⟨x, cs1, o1, h3, h2⟩
  · by_cases hx : x = f
    · subst hx
      rw [up_at] at h1
      injection h1 with h1
      subst h1
      refine .inr ⟨b, o', c', e, hφf, hX, hb, fun j a hj => ?_⟩
      obtain ⟨h5, u, h6, h7⟩ := hcs j a hj
      exact ⟨h5, u, h6, hkeep _ _ h7⟩
    · obtain ⟨hxr, h3⟩ := hold x cs1 h1 hx
      obtain ⟨g1, g2⟩ | ⟨b', o1, c1, e1, g2, g3, g4, g5⟩ := hst.1 x cs1 h3
      · exact .inl ⟨g1, by rw [hφn x hx]; exact g2⟩
      · have hne : b' ≠ b := fun e => hxr (hst.2 x r cs1 cs b' o1 o h3 hr g2 (by rw [hp, e]))
        refine .inr ⟨b', o1, c1, e1, by rw [hφn x hx]; exact g2, g3, by rw [hoth b' hne]; exact g4, fun j a hj => ?_⟩
        obtain ⟨h6, u, h7, h8⟩ := g5 j a hj
        exact ⟨h6, u, h7, hkeep _ _ h8⟩
  · by_cases hx1 : r1 = f
    · by_cases hx2 : r2 = f
      · rw [hx1, hx2]
      · exfalso
        obtain ⟨hxr, g1⟩ := hold r2 c2 h2 hx2
        rw [hφn r2 hx2] at h4
        rw [hx1, hφf] at h3
        injection h3 with h3
        injection h3 with h3 _
        exact hxr (hst.2 r2 r c2 cs b' o2 o g1 hr h4 (by rw [hp, h3]))
    · obtain ⟨hxr, g1⟩ := hold r1 c1 h1 hx1
      rw [hφn r1 hx1] at h3
      by_cases hx2 : r2 = f
      · exfalso
        rw [hx2, hφf] at h4
        injection h4 with h4
        injection h4 with h4 _
        exact hxr (hst.2 r1 r c1 cs b' o1 o g1 hr h3 (by rw [hp, h4]))
      · obtain ⟨_, g2⟩ := hold r2 c2 h2 hx2
        rw [hφn r2 hx2] at h4
        exact hst.2 r1 r2 c1 c2 b' o1 o2 g1 g2 h3 h4
end

/-- what is appended -/
def SrcAV (E : Operand → Option AV) (H : Hp) (y : Operand) (sz m : Nat) (ns : List AV) (rd : List Nat) : Prop :=
  (∃ a, E y = some a ∧ a.isl? = some (ns, m) ∧ ns.length = m * sz ∧ rd = []) ∨ (∃ r off cs, E y = some (.osl r off m sz) ∧ H r = some cs ∧ Tk cs off (m * sz) ns ∧ rd = [r])
theorem SrcAV.isl {E : Operand → Option AV} {H : Hp} {y : Operand} {sz m : Nat} {a : AV} {ns : List AV} (h : E y = some a) (ha : a.isl? = some (ns, m)) (hl : ns.length = m * sz) : SrcAV E H y sz m ns [] := .inl ⟨a, h, ha, hl, rfl⟩
theorem SrcAV.own {E : Operand → Option AV} {H : Hp} {y : Operand} {sz m r off : Nat} {cs ns : List AV} (h : E y = some (.osl r off m sz)) (hH : H r = some cs) (hv : Tk cs off (m * sz) ns) : SrcAV E H y sz m ns [r] := .inr ⟨r, off, cs, h, hH, hv, rfl⟩

section
variable {P : Program} {X : Nat → Prop} {w : World} {φ : Em}
/-- the values of the cells that are appended -/
theorem SrcAV.src {E : Operand → Option AV} {H K : Hp} {y : Operand} {sz m : Nat} {ns : List AV} {rd : List Nat} {u : Value} {tx ex : TypeId} (h : SrcAV E H y sz m ns rd) (hK : ∀ r, r ∈ rd → K r = H r) (hst : St X φ K w) (hR : ∀ a, E y = some a → Rep X w φ u a) (hk : P.underlying tx = some (.slice ex)) (_h0 : 0 < sz) :
    ∃ news : List Value, Src P sz tx u m news w ∧ news.length = ns.length ∧ ∀ (j : Nat) c, ns[j]? = some c → c.one = true ∧ ∃ x, news[j]? = some x ∧ Rep X w φ x c := by
  have key : ∀ (A : Option Addr) (cap : Nat), ((ns = [] ∧ m = 0) ∨ ∃ b o, A = some ⟨b, o, none⟩ ∧ ∀ (j : Nat) c, ns[j]? = some c → c.one = true ∧ ∃ x, w.cell? ⟨b, o + j, none⟩ = some x ∧ Rep X w φ x c) → ns.length = m * sz → u = .slice A m cap →
      ∃ news : List Value, Src P sz tx u m news w ∧ news.length = ns.length ∧ ∀ (j : Nat) c, ns[j]? = some c → c.one = true ∧ ∃ x, news[j]? = some x ∧ Rep X w φ x c := by
    intro A cap hc hl hu
    subst hu
    rcases hc with ⟨rfl, rfl⟩ | ⟨b, o, rfl, hcs⟩
    · refine ⟨[], ?_, rfl, fun j c hj => by simp at hj⟩
      cases A with
      | none => exact Src.ofNil w hk cap
      | some ad => exact Src.ofSlice w hk ad 0 cap [] (by simp) (fun j u hj => by simp at hj) (fun u hu => by cases hu)
    · refine ⟨(List.range ns.length).map fun j => (w.cell? ⟨b, o + j, none⟩).getD undef, Src.ofSlice w hk _ m cap _ (by simp [hl]) (fun j x hj => ?_) (fun x hx => ?_), by simp, fun j c hj => ?_⟩
      · rw [Addr.add_lit]
        have hlt : j < ns.length := by have := (List.getElem?_eq_some_iff.1 hj).1; simpa using this
        obtain ⟨_, x', h1, _⟩ := hcs j ns[j] (List.getElem?_eq_getElem hlt)
        simp [hlt, h1] at hj
        rw [h1, hj]
      · obtain ⟨j, hj, e⟩ := List.mem_map.1 hx
        have hlt : j < ns.length := List.mem_range.1 hj
        obtain ⟨h2, x', h1, h3⟩ := hcs j ns[j] (List.getElem?_eq_getElem hlt)
        rw [h1] at e
        simp at e
        rw [← e]
        exact h3.oneCell h2
      · have hlt : j < ns.length := (List.getElem?_eq_some_iff.1 hj).1
        obtain ⟨h2, x', h1, h3⟩ := hcs j c hj
        exact ⟨h2, x', by simp [hlt, h1], h3⟩
  rcases h with ⟨a, hy, ha, hl, rfl⟩ | ⟨r, off, cs, hy, hH, hv, rfl⟩
  · obtain ⟨A, cap, hu, hc, hcase⟩ := (hR a hy).isl_inv ha
    refine key A cap ?_ hl hu
    rcases hcase with h | ⟨b, o, hA, hb, hX, hcs⟩
    · exact .inl h
    · exact .inr ⟨b, o, hA, fun j c hj => by obtain ⟨h1, x, h2, h3⟩ := hcs j c hj; exact ⟨h1, x, h2, h3 φ⟩⟩
  · obtain ⟨A, cap, hu, hc, hcase⟩ := (hR _ hy).osl_inv
    refine key A cap ?_ hv.1 hu
    rcases hcase with ⟨h1, h2⟩ | ⟨b, o, hp, hA, hs⟩
    · exact .inl ⟨List.eq_nil_of_length_eq_zero (by rw [hv.1, h1]; simp), h1⟩
    · obtain ⟨c, e, hX, hh, hcs⟩ := hst.cells ((hK r (by simp)).trans hH) hp
      refine .inr ⟨b, o + off, hA, fun j d hj => ?_⟩
      obtain ⟨h1, x, h2, h3⟩ := hcs _ d (hv.2 j d hj)
      exact ⟨h1, x, by rw [cell_of hh, Nat.add_assoc]; exact h2, h3⟩

theorem run_append_none {t tx ty e : TypeId} {i : TypeInfo} (ht : P.underlying t = some (.slice e)) (hi : P.info? e = some i) (A : Option Addr) (x : Value) (news : List Value) (hs : Src P i.size tx x 0 news w) :
    (Builtin.append_ #[t, tx] ty #[.slice A 0 0, x]).run P w = .ok (.slice A 0 0) w := by
  have hn : news = [] := List.eq_nil_of_length_eq_zero (by rw [hs.newsLen]; simp)
  subst hn
  rcases hs.kind with ⟨e', hk⟩ | hk <;> cases A <;> simp [Builtin.append_, run_underlying ht, run_underlying hk, sizeOf, typeInfo, hi, hs.len, hs.cells, storeCells]
theorem run_append_room_row {t tx ty e : TypeId} {i : TypeInfo} (ht : P.underlying t = some (.slice e)) (hi : P.info? e = some i) (b off sLen sCap : Nat) (x : Value) (n : Nat) (news : List Value) (hs : Src P i.size tx x n news w)
    (hroom : sLen + n ≤ sCap) {cur : Array Value} {e' : TypeId} (hg : w.heap[b]? = some (.cells cur e' (0, 0))) (hfit : off + sLen * i.size + news.length ≤ cur.size) :
    (Builtin.append_ #[t, tx] ty #[.slice (some ⟨b, off, none⟩) sLen sCap, x]).run P w = .ok (.slice (some ⟨b, off, none⟩) (sLen + n) sCap) (w.setRow b (cur.toList.take (off + sLen * i.size) ++ news ++ cur.toList.drop (off + sLen * i.size + news.length)).toArray) := by
  have hst := run_storeCells_at P b (off + sLen * i.size) e' news 0 cur w hg (by simpa using hfit) hs.one
  simp only [Nat.add_zero] at hst
  rcases hs.kind with ⟨e', hk⟩ | hk <;> simp [Builtin.append_, run_underlying ht, run_underlying hk, sizeOf, typeInfo, hi, hs.len, hroom, hs.cells, Addr.add_lit, hst]

theorem info_of {e : TypeId} {l' : Lay} {sz by' : Nat} {z' : List AV} (he : TyOK P e l' sz by' z') : ∃ (i : TypeInfo) (z : Value), P.info? e = some i ∧ i.size = sz ∧ i.bytes = by' ∧ i.zero = some z ∧ z.cells.size = sz := by
  obtain ⟨d, inf, z, h1, h2, h3, h4, h5, h6, h7, h8, h9, _⟩ := he.spec
  refine ⟨inf, z, h3, h4, h5, h6, ?_⟩
  rw [← h8, ← h7]
  simp
end

section
variable {P : Program} {o : Oper} {E : Operand → Option AV} {H : Hp} {f : Nat} {v a : AV} {t tx : TypeId} {l lx : Lay} {size bytes sx bx : Nat} {zero zx : List AV} {x y : Operand} {e ex sz by' m : Nat} {l' : Lay} {z' ns : List AV} {rd : List Nat}

/-- a new row of what was and what comes, with room behind -/
theorem new_row_rep {X' : Nat → Prop} {φ' : Em} {w w' : World} {news : Array Value} {z : Value} {n cap : Nat} (hf : φ' f = some (w.heap.size, 0)) (hb : bsz w' w.heap.size = (news ++ Builtin.zeroCells z.cells (cap - n)).size) (hn : news.size = n * sz) (hz : z.cells.size = sz) (hc : n ≤ cap) :
    Rep X' w' φ' (.slice (some ⟨w.heap.size, 0, none⟩) n cap) (.osl f 0 n sz) := by
  have hs : bsz w' w.heap.size = cap * sz := by
    rw [hb, Array.size_append, hn, size_zeroCells, hz, ← Nat.add_mul]
    congr 1
    omega
  have := Rep.osl (X := X') (w := w') (φ := φ') f 0 n sz w.heap.size 0 cap hf hc (by rw [hs]; omega)
  exact this

theorem LO.append_nil (ho : o.op = .call { callee := .builtin .append, args := #[x, y], argTypes := #[t, tx] }) (hx : E x = some .nils) (hy : SrcAV E H y sz m ns rd) (ht : TyOK P t (.sl e) size bytes zero) (htx : TyOK P tx (.sl ex) sx bx zx) (he : TyOK P e l' sz by' z') (h0 : 0 < sz)
    (hm : m * by' ≤ 140737488355328) (hm2 : m ≤ 9223372036854775807) (_hrd : f ∉ rd) : LO P o E H f rd [f] (.osl f 0 m sz) (up H f (some ns)) := by
  refine ⟨fun r hr => up_ne (by simpa using hr), fun E' K hE hK X φ w ρ hR hst hf => ?_⟩
  rw [ovr_one]
  have e1 : ρ x = .slice none 0 0 := by
    have h := hR x _ ((hE x (by simp [ho, Op.operands, Call.operands])).trans hx)
    generalize ρ x = u at h
    cases h; rfl
  obtain ⟨news, hs, hnl, hns⟩ := hy.src (P := P) (X := X) (w := w) (φ := φ) (u := ρ y) (fun r hr => hK r (.inl hr)) hst (fun a ha => hR y a ((hE y (by simp [ho, Op.operands, Call.operands])).trans ha)) (lay_sl htx) h0
  obtain ⟨i, z, hi, hsz, hby, hz, hzs⟩ := info_of he
  subst hsz
  unfold OpW
  by_cases hm0 : m = 0
  · subst hm0
    have hns0 : ns = [] := List.eq_nil_of_length_eq_zero (by rw [← hnl, hs.newsLen]; simp)
    have hrun := run_append_none (P := P) (ty := o.type) (lay_sl ht) hi none (ρ y) news hs
    simp only [execOp, ho, resolve, invoke, Go.builtin, Sem.run_bind, Sem.run_pure, Result.andThen_ok, List.map_toArray, List.map_cons, List.map_nil, e1, hrun]
    obtain ⟨h1, h2⟩ := hst.phantom hf
    subst hns0
    exact ⟨X, φ, h1, h2, .osl0 _ _ _ _⟩
  · have hfc : (Builtin.firstCells i.size 0 (.slice none 0 0)).run P w.drew = .ok ([] : List Value).toArray w.drew := by simp [Builtin.firstCells]
    have hrun := run_append_grow_src (P := P) w t tx o.type e i z (lay_sl ht) hi hz none 0 0 [] hfc (ρ y) m news hs (by omega) (by omega) (growslice_fits (by omega) (by rw [hby]; simpa using hm))
    simp only [execOp, ho, resolve, invoke, Go.builtin, Sem.run_bind, Sem.run_pure, Result.andThen_ok, List.map_toArray, List.map_cons, List.map_nil, e1, hrun]
    obtain ⟨h1, h2, h3, h4, h5⟩ := hst.fresh (w' := w.drew.alloc (.cells (([] ++ news).toArray ++ Builtin.zeroCells z.cells (grownCap w (0 + m) 0 e - (0 + m))) e)) (cs := ns) hf rfl rfl rfl rfl (fun j c hj => by
      obtain ⟨g1, u, g2, g3⟩ := hns j c hj
      have hlt : j < news.length := (List.getElem?_eq_some_iff.1 g2).1
      exact ⟨g1, u, by simp [Array.getElem?_append, hlt]; exact (List.getElem?_eq_some_iff.1 g2).2, g3⟩)
    refine ⟨_, _, h1, h2, ?_⟩
    have := new_row_rep (φ' := fun r => if r = f then some (w.heap.size, 0) else φ r) (X' := fun b => X b ∨ b = w.heap.size) (sz := i.size) h5 h4 (by simp [hs.newsLen]) hzs (grownCap_ge w (0 + m) 0 e)
    simpa using this

theorem LO.append {r off len : Nat} {cs olds : List AV} (ho : o.op = .call { callee := .builtin .append, args := #[x, y], argTypes := #[t, tx] }) (hx : E x = some (.osl r off len sz)) (hy : SrcAV E H y sz m ns rd) (hH : H r = some cs) (hv : Tk cs off (len * sz) olds)
    (ht : TyOK P t (.sl e) size bytes zero) (htx : TyOK P tx (.sl ex) sx bx zx) (he : TyOK P e l' sz by' z') (h0 : 0 < sz) (hm : (len + m) * by' ≤ 140737488355328) (hm2 : len + m ≤ 9223372036854775807) (hrf : r ≠ f) :
    LO P o E H f rd [f, r] (.osl f 0 (len + m) sz) (up (up H r none) f (some (olds ++ ns))) := by
  refine ⟨fun r' hr' => by simp at hr'; rw [up_ne hr'.1, up_ne hr'.2], fun E' K hE hK X φ w ρ hR hst hf => ?_⟩
  rw [ovr_two]
  have hKr := (hK r (.inr (by simp))).trans hH
  obtain ⟨A, cap, e1, hc, hcase⟩ := (hR x _ ((hE x (by simp [ho, Op.operands, Call.operands])).trans hx)).osl_inv
  obtain ⟨news, hs, hnl, hns⟩ := hy.src (P := P) (X := X) (w := w) (φ := φ) (u := ρ y) (fun r hr => hK r (.inl hr)) hst (fun a ha => hR y a ((hE y (by simp [ho, Op.operands, Call.operands])).trans ha)) (lay_sl htx) h0
  obtain ⟨i, z, hi, hsz, hby, hz, hzs⟩ := info_of he
  subst hsz
  have hdrop : ∀ c : List AV, ∀ r' cs', up (up K r none) f (some c) r' = some cs' → up K f (some c) r' = some cs' := by
    intro c r' cs' h
    by_cases h1 : r' = f
    · subst h1; rw [up_at] at h ⊢; exact h
    · rw [up_ne h1] at h ⊢
      by_cases h2 : r' = r
      · subst h2; rw [up_at] at h; cases h
      · rwa [up_ne h2] at h
  -- what grows
  have grow : cap < len + m → ∀ oldV : List Value, oldV.length = len * i.size → (Builtin.firstCells i.size len (.slice A len cap)).run P w.drew = .ok oldV.toArray w.drew → (∀ (j : Nat) c, olds[j]? = some c → c.one = true ∧ ∃ u, oldV[j]? = some u ∧ Rep X w φ u c) →
      OpW P o ρ w fun x w' => ∃ X' φ', Nxt K (· = f) X φ w (up (up K r none) f (some (olds ++ ns))) X' φ' w' ∧ St X' φ' (up (up K r none) f (some (olds ++ ns))) w' ∧ Rep X' w' φ' x (.osl f 0 (len + m) i.size) := by
    intro hg oldV hol hfc hos
    have hrun := run_append_grow_src (P := P) w t tx o.type e i z (lay_sl ht) hi hz A len cap oldV hfc (ρ y) m news hs hg (by omega) (growslice_fits hg (by rw [hby]; exact hm))
    unfold OpW
    simp only [execOp, ho, resolve, invoke, Go.builtin, Sem.run_bind, Sem.run_pure, Result.andThen_ok, List.map_toArray, List.map_cons, List.map_nil, e1, hrun]
    have hoL : oldV.length = olds.length := by rw [hol, hv.1]
    obtain ⟨h1, h2, h3, h4, h5⟩ := hst.fresh (w' := w.drew.alloc (.cells ((oldV ++ news).toArray ++ Builtin.zeroCells z.cells (grownCap w (len + m) cap e - (len + m))) e)) (cs := olds ++ ns) hf rfl rfl rfl rfl (fun j c hj => by
      have hsz2 : (oldV ++ news).toArray.size = oldV.length + news.length := by simp
      rw [List.getElem?_append] at hj
      split at hj
      · rename_i hlt
        obtain ⟨g1, u, g2, g3⟩ := hos j c hj
        exact ⟨g1, u, by rw [Array.getElem?_append, if_pos (by omega)]; simp only [List.getElem?_toArray]; rw [List.getElem?_append, if_pos (by omega)]; exact g2, g3⟩
      · rename_i hge
        obtain ⟨g1, u, g2, g3⟩ := hns _ c hj
        have hlt : j - olds.length < news.length := (List.getElem?_eq_some_iff.1 g2).1
        exact ⟨g1, u, by rw [Array.getElem?_append, if_pos (by omega)]; simp only [List.getElem?_toArray]; rw [List.getElem?_append, if_neg (by omega), hoL]; exact g2, g3⟩)
    exact ⟨_, _, h1.drop (hdrop _), h2.drop (hdrop _), new_row_rep (φ' := fun r => if r = f then some (w.heap.size, 0) else φ r) (X' := fun b => X b ∨ b = w.heap.size) (sz := i.size) h5 h4 (by simp [hs.newsLen, hol, Nat.add_mul]) hzs (grownCap_ge w (len + m) cap e)⟩
  rcases hcase with ⟨h1, h2⟩ | ⟨b, o', hp, hA, hbz⟩
  · subst h1 h2
    have holds : olds = [] := List.eq_nil_of_length_eq_zero (by rw [hv.1]; simp)
    by_cases hm0 : m = 0
    · subst hm0
      have hns0 : ns = [] := List.eq_nil_of_length_eq_zero (by rw [← hnl, hs.newsLen]; simp)
      have hrun := run_append_none (P := P) (ty := o.type) (lay_sl ht) hi A (ρ y) news hs
      unfold OpW
      simp only [execOp, ho, resolve, invoke, Go.builtin, Sem.run_bind, Sem.run_pure, Result.andThen_ok, List.map_toArray, List.map_cons, List.map_nil, e1, hrun]
      obtain ⟨h1, h2⟩ := hst.phantom hf
      subst hns0 holds
      exact ⟨X, φ, h1.drop (hdrop _), h2.drop (hdrop _), .osl0 _ _ _ _⟩
    · refine grow (by omega) [] (by simp) (by cases A <;> simp [Builtin.firstCells, loadCells, loadCellsFrom]) fun j c hj => ?_
      rw [holds] at hj
      simp at hj
  · obtain ⟨c, el, hX, hh, hcs⟩ := hst.cells hKr hp
    rw [bsz_of hh] at hbz
    by_cases hroom : len + m ≤ cap
    · have hmul : len * i.size + m * i.size ≤ cap * i.size := by rw [← Nat.add_mul]; exact Nat.mul_le_mul_right _ hroom
      have hfit : o' + off + len * i.size + news.length ≤ c.size := by rw [hs.newsLen]; omega
      subst hA
      have hrun := run_append_room_row (P := P) (ty := o.type) (lay_sl ht) hi b (o' + off) len cap (ρ y) m news hs hroom hh hfit
      unfold OpW
      simp only [execOp, ho, resolve, invoke, Go.builtin, Sem.run_bind, Sem.run_pure, Result.andThen_ok, List.map_toArray, List.map_cons, List.map_nil, e1, hrun]
      have hget := splice_get c.toList news (o' + off + len * i.size)
      generalize hc' : (c.toList.take (o' + off + len * i.size) ++ news ++ c.toList.drop (o' + off + len * i.size + news.length)).toArray = c' at hrun
      have hc's : c'.size = c.size := by rw [← hc']; simp; omega
      obtain ⟨h1, h2, h3⟩ := hst.reuse (f := f) (w' := w.setRow b c') (c' := c') (o' := o' + off) (cs' := olds ++ ns) hKr hp hh hf rfl rfl rfl (by simp) (fun b' hb' => setRow_other w b b' c' hb') (setRow_heap w b c c' el (0, 0) hh) hc's (fun j d hj => by
        have hg2 : c'[o' + off + j]? = if o' + off + j < o' + off + len * i.size then c[o' + off + j]? else if o' + off + j < o' + off + len * i.size + news.length then news[o' + off + j - (o' + off + len * i.size)]? else c[o' + off + j]? := by
          rw [← hc']
          have := hget (o' + off + j) (by simpa using hfit)
          simpa using this
        rw [hg2]
        rw [List.getElem?_append] at hj
        split at hj
        · rename_i hlt
          obtain ⟨g1, u, g2, g3⟩ := hcs _ d (hv.2 j d hj)
          rw [hv.1] at hlt
          exact ⟨g1, u, by rw [if_pos (by omega), Nat.add_assoc]; exact g2, g3⟩
        · rename_i hge
          obtain ⟨g1, u, g2, g3⟩ := hns _ d hj
          have hlt : j - olds.length < news.length := (List.getElem?_eq_some_iff.1 g2).1
          rw [hv.1] at hge hlt g2
          exact ⟨g1, u, by rw [if_neg (by omega), if_pos (by omega), show o' + off + j - (o' + off + len * i.size) = j - len * i.size from by omega]; exact g2, g3⟩)
      refine ⟨_, _, h1, h2, ?_⟩
      have hbz2 : bsz (w.setRow b c') b = c.size := by rw [bsz_of (setRow_heap w b c c' el (0, 0) hh), hc's]
      have := Rep.osl (X := X) (w := w.setRow b c') (φ := fun x => if x = f then some (b, o' + off) else φ x) f 0 (len + m) i.size b (o' + off) cap h3 hroom (by rw [hbz2]; omega)
      exact this
    · subst hA
      have holdsAt : ∀ (j : Nat) d, olds[j]? = some d → d.one = true ∧ ∃ u, w.cell? ⟨b, o' + off + j, none⟩ = some u ∧ Rep X w φ u d := fun j d hj => by
        obtain ⟨g1, u, g2, g3⟩ := hcs _ d (hv.2 j d hj)
        exact ⟨g1, u, by rw [cell_of hh, Nat.add_assoc]; exact g2, g3⟩
      refine grow (by omega) ((List.range olds.length).map fun j => (w.cell? ⟨b, o' + off + j, none⟩).getD undef) (by simp [hv.1]) ?_ fun j d hj => ?_
      · refine run_firstCells_some (P := P) w.drew i.size len _ len cap _ (by simp [hv.1]) fun j u hu => ?_
        rw [Addr.add_lit]
        have hlt : j < olds.length := by have := (List.getElem?_eq_some_iff.1 hu).1; simpa using this
        obtain ⟨_, u', g2, _⟩ := holdsAt j olds[j] (List.getElem?_eq_getElem hlt)
        simp [hlt, g2] at hu
        show w.cell? _ = _
        rw [g2, hu]
      · obtain ⟨g1, u, g2, g3⟩ := holdsAt j d hj
        have hlt : j < olds.length := (List.getElem?_eq_some_iff.1 hj).1
        exact ⟨g1, u, by simp [hlt, g2], g3⟩
end
end Go.Proofs.Ytoijkcnefnmbjaa
