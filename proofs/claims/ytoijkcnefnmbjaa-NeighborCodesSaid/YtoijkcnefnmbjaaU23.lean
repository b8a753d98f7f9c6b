/-
  Appending zeros to what is owned.
-/
import Derived.Test.YtoijkcnefnmbjaaU22
namespace Go.Proofs.Ytoijkcnefnmbjaa
open Go.RowKit Go.Lib
def joinT (l : List (Nat × AV)) : Tp := baseT l
theorem W.renameJ {P : Program} {k n m : Nat} {T : Tp} {H : Hp} {K : Exit → Nat → Tp → Hp → Prop} {c : Code} (L : List (Nat × Nat)) (m2 : Nat) {l : List (Nat × AV)} {H' : Hp} (hL : okL k m2 L = true)
    (hT : LookR (sg L m) T l) (hH : ∀ r cs, H' r = some cs → RenH L m H r cs) (h : W P k n c m2 (joinT l) H' K) : W P k n c m T H K :=
  W.rename L m2 hL hT.all hH h
/-- branches that meet again; what they do not change is kept -/
theorem W.joinK {P : Program} {k n m : Nat} {T : Tp} {H : Hp} {K : Exit → Nat → Tp → Hp → Prop} {x y : Code} {α : Type} {vs : List (Nat × AV)} (m2 : Nat) (os : α → List (Nat × AV)) (Hf : α → Hp) (A : α → Prop)
    (_hk : LookK (fun r => r) T vs) (h1 : W P k n x m T H (thenK (fun m T H => Joins P k n m2 (fun a => joinT (os a ++ vs)) Hf A m T H) K)) (h2 : ∀ a, A a → W P k n y m2 (joinT (os a ++ vs)) (Hf a) K) : W P k n x m T H (thenK (fun m T H => W P k n y m T H K) K) := by
  refine h1.mono fun e m T H h => ?_
  cases e with
  | normal => exact h y K h2
  | _ => exact h
section
variable {P : Program} {o : Oper} {E : Operand → Option AV} {H : Hp} {f : Nat} {t tn : TypeId} {size bytes sn bn : Nat} {zero zn : List AV} {x y : Operand} {e sz by' : Nat} {l' : Lay} {z' : List AV}
theorem LO.append_zeros {r off len n : Nat} {k kn : IntKind} {cs olds : List AV} (ho : o.op = .call { callee := .builtin .append, args := #[x, y], argTypes := #[t, tn] }) (hx : E x = some (.osl r off len sz)) (hy : E y = some (.base (.int k (n : Int)))) (hH : H r = some cs) (hv : Tk cs off (len * sz) olds)
    (ht : TyOK P t (.sl e) size bytes zero) (htn : TyOK P tn (.int kn) sn bn zn) (he : TyOK P e l' sz by' z') (h0 : 0 < sz) (hl0 : 0 < len) (hn0 : 0 < n) (hm : (len + n) * by' ≤ 140737488355328) (hm2 : len + n ≤ 9223372036854775807) (hrf : r ≠ f) :
    LO P o E H f [] [f, r] (.osl f 0 (len + n) sz) (up (up H r none) f (some (olds ++ zerosL n z'))) := by
  refine ⟨fun r' hr' => by simp at hr'; rw [up_ne hr'.1, up_ne hr'.2], fun E' K hE hK X φ w ρ hR hst hf => ?_⟩
  rw [ovr_two]
  have hKr := (hK r (.inr (by simp))).trans hH
  obtain ⟨A, cap, e1, hc, hcase⟩ := (hR x _ ((hE x (by simp [ho, Op.operands, Call.operands])).trans hx)).osl_inv
  have e2 := (hR y _ ((hE y (by simp [ho, Op.operands, Call.operands])).trans hy)).base_eq
  obtain ⟨z, hz0, hzs, hzm, hzl, hz1⟩ := he.zeroV
  obtain ⟨i, zz, hi, hsz, hby, hz, _⟩ := info_of he
  obtain ⟨inf, hi1, hi2⟩ := he.info w
  have hzz : zz = z := by
    have h := hz0 w
    simp [zeroValue, typeInfo, hi, hz] at h
    exact h
  subst hzz
  subst hsz
  have hgz := good_zeros (X := X) (w := w) (φ := φ) n hzm hz1 (by omega)
  rw [hzl] at hgz
  obtain ⟨news, hnews⟩ : ∃ news : List Value, (Builtin.zeroCells zz.cells n).toList = news := ⟨_, rfl⟩
  have hnl : news.length = n * i.size := by rw [← hnews, Array.length_toList, size_zeroCells, hzs]
  have hns : ∀ (j : Nat) c, (zerosL n z')[j]? = some c → c.one = true ∧ ∃ u, news[j]? = some u ∧ Rep X w φ u c := fun j c hj => by
    obtain ⟨g1, u, g2, g3⟩ := hgz.2 j c hj
    refine ⟨g1, u, ?_, g3⟩
    have h9 : (Builtin.zeroCells zz.cells n)[j]? = some u := by
      unfold Builtin.zeroCells
      rw [hzs]
      rw [hzs] at g2
      exact g2
    rw [← hnews, Array.getElem?_toList]
    exact h9
  have hn1 : ∀ u ∈ news, u.oneCell' = true := fun u hu => by
    obtain ⟨j, hj⟩ := List.getElem?_of_mem hu
    have hlt : j < (zerosL n z').length := by rw [zerosL_len, hzl, ← hnl]; exact (List.getElem?_eq_some_iff.1 hj).1
    obtain ⟨g1, u', g2, g3⟩ := hns j _ (List.getElem?_eq_getElem hlt)
    rw [hj] at g2; injection g2 with g2; subst g2
    exact g3.oneCell g1
  have hdrop : ∀ c : List AV, ∀ r' cs', up (up K r none) f (some c) r' = some cs' → up K f (some c) r' = some cs' := by
    intro c r' cs' h
    by_cases h1 : r' = f
    · subst h1; rw [up_at] at h ⊢; exact h
    · rw [up_ne h1] at h ⊢
      by_cases h2 : r' = r
      · subst h2; rw [up_at] at h; cases h
      · rwa [up_ne h2] at h
  obtain ⟨h1, _⟩ | ⟨b, o', hp, hA, hbz⟩ := hcase
  · omega
  subst hA
  obtain ⟨c, el, hX, hh, hcs⟩ := hst.cells hKr hp
  rw [bsz_of hh] at hbz
  by_cases hroom : len + n ≤ cap
  · have hmul : len * i.size + n * i.size ≤ cap * i.size := by rw [← Nat.add_mul]; exact Nat.mul_le_mul_right _ hroom
    have hfit : o' + off + len * i.size + news.length ≤ c.size := by rw [hnl]; omega
    have hsto := run_storeCells_at P b (o' + off + len * i.size) el news 0 c w hh (by simpa using hfit) hn1
    have hrun : (Builtin.append_ #[t, tn] o.type #[.slice (some ⟨b, o' + off, none⟩) len cap, .int k (n : Int)]).run P w = .ok (.slice (some ⟨b, o' + off, none⟩) (len + n) cap) (w.setRow b (c.toList.take (o' + off + len * i.size) ++ news ++ c.toList.drop (o' + off + len * i.size + news.length)).toArray) := by
      have hk : n ≠ 0 := by omega
      have hw : IntKind.i64.wrap (n : Int) = n := IntWalk.i64_in _ (by omega)
      have hneg : ¬ ((n : Int) < 0) := by omega
      have hns : ¬ (n * i.size = 0) := Nat.mul_ne_zero hk (by omega)
      have h48 : ¬ (281474976710656 < (n : Int) * (i.bytes : Int)) := by
        rw [← Int.natCast_mul]
        have : n * i.bytes ≤ (len + n) * by' := by rw [hby]; exact Nat.mul_le_mul_right _ (by omega)
        omega
      simp only [Nat.add_zero] at hsto
      simp [Builtin.append_, run_underlying (lay_sl ht), run_underlying (lay_int htn), sizeOf, typeInfo, zeroValue, hi, hz, asInt, asIntOf, hw, hneg, hns, h48, hroom, hnews, Addr.add_lit, hsto]
    have hget := splice_get c.toList news (o' + off + len * i.size)
    generalize hc' : (c.toList.take (o' + off + len * i.size) ++ news ++ c.toList.drop (o' + off + len * i.size + news.length)).toArray = c' at hrun
    have hc's : c'.size = c.size := by rw [← hc']; simp; omega
    unfold OpW
    simp only [execOp, ho, resolve, invoke, Go.builtin, Sem.run_bind, Sem.run_pure, Result.andThen_ok, List.map_toArray, List.map_cons, List.map_nil, e1, e2, hrun]
    obtain ⟨h1, h2, h3⟩ := hst.reuse (f := f) (w' := w.setRow b c') (c' := c') (o' := o' + off) (cs' := olds ++ zerosL n z') hKr hp hh hf rfl rfl rfl (by simp) (fun b' hb' => setRow_other w b b' c' hb') (setRow_heap w b c c' el (0, 0) hh) hc's (fun j d hj => by
      have hg2 : c'[o' + off + j]? = if o' + off + j < o' + off + len * i.size then c[o' + off + j]? else if o' + off + j < o' + off + len * i.size + news.length then news[o' + off + j - (o' + off + len * i.size)]? else c[o' + off + j]? := by
        rw [← hc']
        have := hget (o' + off + j) (by simpa using hfit)
        simpa using this
      rw [hg2]
      rw [List.getElem?_append] at hj
      split at hj
      · rename_i hlt
        obtain ⟨g1, u, g2, g3⟩ := hcs _ d (hv.2 j d hj)
        rw [hv.1] at hlt
        exact ⟨g1, u, by rw [if_pos (by omega), Nat.add_assoc]; exact g2, g3⟩
      · rename_i hge
        obtain ⟨g1, u, g2, g3⟩ := hns _ d hj
        have hlt : j - olds.length < news.length := (List.getElem?_eq_some_iff.1 g2).1
        rw [hv.1] at hge hlt g2
        exact ⟨g1, u, by rw [if_neg (by omega), if_pos (by omega), show o' + off + j - (o' + off + len * i.size) = j - len * i.size from by omega]; exact g2, g3⟩)
    refine ⟨_, _, h1, h2, ?_⟩
    have hbz2 : bsz (w.setRow b c') b = c.size := by rw [bsz_of (setRow_heap w b c c' el (0, 0) hh), hc's]
    have := Rep.osl (X := X) (w := w.setRow b c') (φ := fun x => if x = f then some (b, o' + off) else φ x) f 0 (len + n) i.size b (o' + off) cap h3 hroom (by rw [hbz2]; omega)
    exact this
  · have holdsAt : ∀ (j : Nat) d, olds[j]? = some d → d.one = true ∧ ∃ u, w.cell? ⟨b, o' + off + j, none⟩ = some u ∧ Rep X w φ u d := fun j d hj => by
      obtain ⟨g1, u, g2, g3⟩ := hcs _ d (hv.2 j d hj)
      exact ⟨g1, u, by rw [cell_of hh, Nat.add_assoc]; exact g2, g3⟩
    obtain ⟨oldV, hoV⟩ : ∃ oldV : List Value, ((List.range olds.length).map fun j => (w.cell? ⟨b, o' + off + j, none⟩).getD undef) = oldV := ⟨_, rfl⟩
    have hoL : oldV.length = olds.length := by rw [← hoV]; simp
    have hos : ∀ (j : Nat) d, olds[j]? = some d → d.one = true ∧ ∃ u, oldV[j]? = some u ∧ Rep X w φ u d := fun j d hj => by
      obtain ⟨g1, u, g2, g3⟩ := holdsAt j d hj
      have hlt : j < olds.length := (List.getElem?_eq_some_iff.1 hj).1
      exact ⟨g1, u, by rw [← hoV]; simp [hlt, g2], g3⟩
    have hfc : (Builtin.firstCells i.size len (.slice (some ⟨b, o' + off, none⟩) len cap)).run P w.drew = .ok oldV.toArray w.drew := by
      refine run_firstCells_some (P := P) w.drew i.size len _ len cap _ (by rw [hoL, hv.1]) fun j u hu => ?_
      rw [Addr.add_lit]
      have hlt : j < olds.length := by rw [← hoL]; exact (List.getElem?_eq_some_iff.1 hu).1
      obtain ⟨_, u', g2, _⟩ := holdsAt j olds[j] (List.getElem?_eq_getElem hlt)
      rw [← hoV] at hu
      simp [hlt, g2] at hu
      show w.cell? _ = _
      rw [g2, hu]
    have hrun := run_append_grow_zeros (P := P) w t tn o.type e i zz k kn (lay_sl ht) (lay_int htn) hi hz (some ⟨b, o' + off, none⟩) len cap oldV hfc n hn0 h0 (by omega) (by omega) (by
      have : n * i.bytes ≤ (len + n) * by' := by rw [hby]; exact Nat.mul_le_mul_right _ (by omega)
      omega) (growslice_fits (by omega) (by rw [hby]; exact hm))
    unfold OpW
    simp only [execOp, ho, resolve, invoke, Go.builtin, Sem.run_bind, Sem.run_pure, Result.andThen_ok, List.map_toArray, List.map_cons, List.map_nil, e1, e2, hrun]
    have hnA : Builtin.zeroCells zz.cells n = news.toArray := by rw [← hnews]
    rw [hnA]
    have happ : oldV.toArray ++ news.toArray = (oldV ++ news).toArray := by simp
    rw [happ]
    obtain ⟨h1, h2, h3, h4, h5⟩ := hst.fresh (w' := w.drew.alloc (.cells ((oldV ++ news).toArray ++ Builtin.zeroCells zz.cells (grownCap w (len + n) cap e - (len + n))) e)) (cs := olds ++ zerosL n z') hf rfl rfl rfl rfl (fun j c hj => by
      have hsz2 : (oldV ++ news).toArray.size = oldV.length + news.length := by simp
      rw [List.getElem?_append] at hj
      split at hj
      · rename_i hlt
        obtain ⟨g1, u, g2, g3⟩ := hos j c hj
        exact ⟨g1, u, by rw [Array.getElem?_append, if_pos (by omega)]; simp only [List.getElem?_toArray]; rw [List.getElem?_append, if_pos (by omega)]; exact g2, g3⟩
      · rename_i hge
        obtain ⟨g1, u, g2, g3⟩ := hns _ c hj
        have hlt : j - olds.length < news.length := (List.getElem?_eq_some_iff.1 g2).1
        exact ⟨g1, u, by rw [Array.getElem?_append, if_pos (by omega)]; simp only [List.getElem?_toArray]; rw [List.getElem?_append, if_neg (by omega), hoL]; exact g2, g3⟩)
    exact ⟨_, _, h1.drop (hdrop _), h2.drop (hdrop _), new_row_rep (φ' := fun r => if r = f then some (w.heap.size, 0) else φ r) (X' := fun b => X b ∨ b = w.heap.size) (sz := i.size) h5 h4 (by simp [hnl, hoL, hv.1, Nat.add_mul]) hzs (grownCap_ge w (len + n) cap e)⟩
end
end Go.Proofs.Ytoijkcnefnmbjaa
