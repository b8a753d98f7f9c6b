/-
  A region over values without addresses: walked once, in the order of the text; sound in whatever order it is carried out.
-/
import Derived.Test.YtoijkcnefnmbjaaU7
namespace Go.Proofs.Ytoijkcnefnmbjaa
open Go.RowKit

/-! histories -/
theorem Nxt.trans {H0 H H' : Hp} {f0 : Nat → Prop} {f : Nat → Prop} {X0 X X' : Nat → Prop} {φ0 φ φ' : Em} {w0 w w' : World} (h : Nxt H0 f0 X0 φ0 w0 H X φ w) (k : Nxt H f X φ w H' X' φ' w') (hf : ∀ r, f r → f0 r) : Nxt H0 f0 X0 φ0 w0 H' X' φ' w' where
  os := k.os.trans h.os
  tape := k.tape.trans h.tape
  output := k.output.trans h.output
  size := Nat.le_trans h.size k.size
  same := fun b hb hn => by
    rw [k.same b (Nat.lt_of_lt_of_le hb h.size) fun r cs o hH hp => ?_, h.same b hb hn]
    rcases h.lv r cs b o hH hp with h1 | ⟨r0, cs0, o0, h1, h2⟩
    · omega
    · exact hn r0 cs0 o0 h1 h2
  bs := fun b hb => (k.bs b (Nat.lt_of_lt_of_le hb h.size)).trans (h.bs b hb)
  xs := fun b hb hx => h.xs b hb (k.xs b (Nat.lt_of_lt_of_le hb h.size) hx)
  xk := fun b hb hx => by
    rcases h.xk b hb hx with h1 | h1
    · rcases k.xk b (Nat.lt_of_lt_of_le hb h.size) h1 with h2 | ⟨r, cs, o, h2, h3⟩
      · exact .inl h2
      · rcases h.lv r cs b o h2 h3 with h4 | h4
        · omega
        · obtain ⟨r0, cs0, o0, h5, h6⟩ := h4
          exact .inr ⟨r0, cs0, o0, h5, h6⟩
    · exact .inr h1
  ph := fun r hr => (k.ph r (fun h => hr (hf r h))).trans (h.ph r hr)
  lv := fun r cs b o h1 h2 => by
    rcases k.lv r cs b o h1 h2 with h3 | ⟨r0, cs0, o0, h3, h4⟩
    · exact .inl (Nat.le_trans h.size h3)
    · exact h.lv r0 cs0 b o0 h3 h4

/-! the walk of a region -/
def dstAt (ops : Array Oper) (j : Nat) : Option Tmp := (ops[j]?).bind (·.dst)
def runsT (ops : Array Oper) (T : Tp) (o : Oper) : Option Bool := match o.guard with
  | none => some true
  | some (j, b) => match dstAt ops j with
    | some t => match T t with
      | some (.base (.bool x)) => some (x == b)
      | some (.base _) => some false
      | _ => none
    | none => none
def putT (T : Tp) (d : Option Tmp) (v : AV) : Tp := match d with
  | some t => up T t (some v)
  | none => T

inductive RW (P : Program) (ops : Array Oper) (m : Nat) (K : Tp → Hp → List (List Nat × List Nat) → Prop) : Nat → List Oper → Tp → Hp → List (List Nat × List Nat) → Prop
  | nil {i : Nat} {T : Tp} {H : Hp} {acc : List (List Nat × List Nat)} (h : K T H acc) : RW P ops m K i [] T H acc
  | op {i : Nat} {o : Oper} {l : List Oper} {T : Tp} {H H' : Hp} {acc : List (List Nat × List Nat)} {rd wr : List Nat} {v : AV} (hg : runsT ops T o = some true) (h : LO P o (ev T) H (m + i) rd wr v H')
      (k : RW P ops m K (i + 1) l (putT T o.dst v) H' ((rd, wr) :: acc)) : RW P ops m K i (o :: l) T H acc
  | skip {i : Nat} {o : Oper} {l : List Oper} {T : Tp} {H : Hp} {acc : List (List Nat × List Nat)} (hg : runsT ops T o = some false)
      (k : RW P ops m K (i + 1) l (putT T o.dst (.base undef)) H (([], []) :: acc)) : RW P ops m K i (o :: l) T H acc

/-- one step of the walk, in full -/
def StepT (P : Program) (ops : Array Oper) (m i : Nat) (o : Oper) (T : Tp) (H : Hp) (rd wr : List Nat) (T' : Tp) (H' : Hp) : Prop :=
  (runsT ops T o = some true ∧ ∃ v, LO P o (ev T) H (m + i) rd wr v H' ∧ T' = putT T o.dst v) ∨
  (runsT ops T o = some false ∧ T' = putT T o.dst (.base undef) ∧ H' = H ∧ rd = [] ∧ wr = [])

theorem RW.trace {P : Program} {ops : Array Oper} {m : Nat} {K : Tp → Hp → List (List Nat × List Nat) → Prop} : ∀ {i : Nat} {l : List Oper} {T : Tp} {H : Hp} {acc : List (List Nat × List Nat)}, RW P ops m K i l T H acc →
    ∃ (Ts : Nat → Tp) (Hs : Nat → Hp) (rds wrs : Nat → List Nat), Ts i = T ∧ Hs i = H ∧ (∀ j o, l[j]? = some o → StepT P ops m (i + j) o (Ts (i + j)) (Hs (i + j)) (rds (i + j)) (wrs (i + j)) (Ts (i + j + 1)) (Hs (i + j + 1))) ∧
      K (Ts (i + l.length)) (Hs (i + l.length)) (((List.range l.length).map fun j => (rds (i + j), wrs (i + j))).reverse ++ acc) := by
  intro i l T H acc h
  have ext : ∀ {i : Nat} {o : Oper} {l : List Oper} {T T1 : Tp} {H H1 : Hp} {acc : List (List Nat × List Nat)} {rd wr : List Nat}, StepT P ops m i o T H rd wr T1 H1 →
      (∃ (Ts : Nat → Tp) (Hs : Nat → Hp) (rds wrs : Nat → List Nat), Ts (i + 1) = T1 ∧ Hs (i + 1) = H1 ∧ (∀ j o, l[j]? = some o → StepT P ops m (i + 1 + j) o (Ts (i + 1 + j)) (Hs (i + 1 + j)) (rds (i + 1 + j)) (wrs (i + 1 + j)) (Ts (i + 1 + j + 1)) (Hs (i + 1 + j + 1))) ∧
        K (Ts (i + 1 + l.length)) (Hs (i + 1 + l.length)) (((List.range l.length).map fun j => (rds (i + 1 + j), wrs (i + 1 + j))).reverse ++ ((rd, wr) :: acc))) →
      ∃ (Ts : Nat → Tp) (Hs : Nat → Hp) (rds wrs : Nat → List Nat), Ts i = T ∧ Hs i = H ∧ (∀ j p, (o :: l)[j]? = some p → StepT P ops m (i + j) p (Ts (i + j)) (Hs (i + j)) (rds (i + j)) (wrs (i + j)) (Ts (i + j + 1)) (Hs (i + j + 1))) ∧
        K (Ts (i + (o :: l).length)) (Hs (i + (o :: l).length)) (((List.range (o :: l).length).map fun j => (rds (i + j), wrs (i + j))).reverse ++ acc) := by
    intro i o l T T1 H H1 acc rd wr hs ⟨Ts, Hs, rds, wrs, h1, h2, h3, h4⟩
    refine ⟨fun j => if j = i then T else Ts j, fun j => if j = i then H else Hs j, fun j => if j = i then rd else rds j, fun j => if j = i then wr else wrs j, if_pos rfl, if_pos rfl, fun j p hj => ?_, ?_⟩
    · cases j with
      | zero =>
        simp at hj
        subst hj
        simp only [Nat.add_zero, if_true, show ¬ (i + 1 = i) by omega, if_false]
        rw [h1, h2]
        exact hs
      | succ j =>
        have := h3 j p (by simpa using hj)
        simp only [show ¬ (i + (j + 1) = i) by omega, show ¬ (i + (j + 1) + 1 = i) by omega, if_false]
        rw [show i + (j + 1) = i + 1 + j from by omega]
        exact this
    · simp only [List.length_cons, show ¬ (i + (l.length + 1) = i) by omega, if_false]
      rw [show i + (l.length + 1) = i + 1 + l.length from by omega]
      have e : ((List.range (l.length + 1)).map fun j => (if i + j = i then rd else rds (i + j), if i + j = i then wr else wrs (i + j))) = (rd, wr) :: (List.range l.length).map fun j => (rds (i + 1 + j), wrs (i + 1 + j)) := by
        rw [List.range_succ_eq_map]
        simp only [List.map_cons, List.map_map, Nat.add_zero, if_true]
        congr 1
        apply List.map_congr_left
        intro j _
        simp only [Function.comp, Nat.succ_eq_add_one, show ¬ (i + (j + 1) = i) by omega, if_false]
        rw [show i + (j + 1) = i + 1 + j from by omega]
      rw [e]
      simpa using h4
  induction h with
  | nil h => exact ⟨fun _ => _, fun _ => _, fun _ => [], fun _ => [], rfl, rfl, fun j o hj => by simp at hj, by simpa using h⟩
  | op hg h _ ih => exact ext (.inl ⟨hg, _, h, rfl⟩) ih
  | skip hg _ ih => exact ext (.inr ⟨hg, rfl, rfl, rfl, rfl⟩) ih

/-! what comes before what -/
/-- the edges that bind in whatever order -/
def bEdges (o : Oper) : List Edge := o.after.toList.filter (Region.binds .any)
def edgesLt : Nat → List Oper → Bool
  | _, [] => true
  | k, o :: l => (bEdges o).all (fun e => decide (e.on < k)) && edgesLt (k + 1) l
theorem edgesLt_at : ∀ (l : List Oper) (k i : Nat) (o : Oper), edgesLt k l = true → l[i]? = some o → ∀ e ∈ bEdges o, e.on < k + i := by
  intro l
  induction l with
  | nil => intro k i o _ h; simp at h
  | cons x l ih =>
    intro k i o hd h e he
    simp only [edgesLt, Bool.and_eq_true, List.all_eq_true, decide_eq_true_eq] at hd
    cases i with
    | zero => simp at h; subst h; exact hd.1 e he
    | succ i =>
      have := ih (k + 1) i o hd.2 (by simpa using h) e he
      omega
def maskOf (o : Oper) (acc : List Nat) : Nat := (bEdges o).foldl (fun s e => s ||| ((1 <<< e.on) ||| acc.getD e.on 0)) 0
def masks : List Oper → List Nat → List Nat
  | [], acc => acc
  | o :: l, acc => masks l (acc ++ [maskOf o acc])
theorem testBit_foldl {α : Type} (g : α → Nat) (i : Nat) : ∀ (l : List α) (s : Nat), (l.foldl (fun s e => s ||| g e) s).testBit i = (s.testBit i || l.any fun e => (g e).testBit i) := by
  intro l
  induction l with
  | nil => intro s; simp
  | cons x l ih => intro s; rw [List.foldl_cons, ih, Nat.testBit_or]; simp [Bool.or_assoc]
/-- the listed operations are closed under what they wait for -/
def ClosedL (l : List Oper) (S : Nat → Bool) : Prop := ∀ (i : Nat) o, l[i]? = some o → S i = true → ∀ e ∈ (bEdges o), S e.on = true
def MaskOK (l : List Oper) (acc : List Nat) : Prop := ∀ (j mk : Nat), acc[j]? = some mk → ∀ S : Nat → Bool, ClosedL l S → ∀ o : Oper, l[j]? = some o → (∀ e ∈ (bEdges o), S e.on = true) → ∀ i : Nat, mk.testBit i = true → S i = true
theorem masks_ok (ops : List Oper) : ∀ (l pre : List Oper) (acc : List Nat), ops = pre ++ l → acc.length = pre.length → MaskOK ops acc → MaskOK ops (masks l acc) := by
  intro l
  induction l with
  | nil => intro pre acc _ _ h; exact h
  | cons o l ih =>
    intro pre acc he hl h
    refine ih (pre ++ [o]) _ (by simp [he]) (by simp [hl]) fun j mk hj S hS o' ho' hd i hb => ?_
    rw [List.getElem?_append] at hj
    split at hj
    · exact h j mk hj S hS o' ho' hd i hb
    · rename_i hge
      have hj0 : j = acc.length := by
        have := (List.getElem?_eq_some_iff.1 hj).1
        simp at this
        omega
      subst hj0
      simp at hj
      subst hj
      have ho : o' = o := by
        rw [he, hl, List.getElem?_append_right (Nat.le_refl _)] at ho'
        simpa using ho'.symm
      subst ho
      unfold maskOf at hb
      rw [testBit_foldl] at hb
      simp only [Nat.zero_testBit, Bool.false_or, List.any_eq_true] at hb
      obtain ⟨e, he1, he2⟩ := hb
      rw [Nat.testBit_or] at he2
      have hSe := hd e he1
      cases h1 : (1 <<< e.on).testBit i with
      | true =>
        rw [Nat.one_shiftLeft, Nat.testBit_two_pow] at h1
        have : e.on = i := by simpa using h1
        rw [← this]; exact hSe
      | false =>
        rw [h1, Bool.false_or] at he2
        cases ha : acc[e.on]? with
        | none =>
          rw [List.getD_eq_getElem?_getD, ha] at he2
          simp at he2
        | some mk =>
          rw [List.getD_eq_getElem?_getD, ha] at he2
          cases hoe : ops[e.on]? with
          | none =>
            have := (List.getElem?_eq_some_iff.1 ha).1
            rw [List.getElem?_eq_none_iff, he] at hoe
            simp at hoe
            omega
          | some oe => exact h e.on mk ha S hS oe hoe (hS e.on oe hoe hSe) i (by simpa using he2)

/-! independence -/
def slotsR (ops : Array Oper) (o : Oper) : List Nat := (o.op.operands.toList.filterMap fun | .tmp t => some t | _ => none) ++ (match o.guard with
  | some (j, _) => (dstAt ops j).toList
  | none => [])
def slotsW (o : Oper) : List Nat := o.dst.toList
def clash (r1 w1 r2 w2 : List Nat) : Bool := w1.any (fun x => r2.contains x || w2.contains x) || r1.any (fun x => w2.contains x)
theorem clash_of {r1 w1 r2 w2 : List Nat} {x : Nat} (h : (x ∈ w1 ∧ (x ∈ r2 ∨ x ∈ w2)) ∨ (x ∈ r1 ∧ x ∈ w2)) : clash r1 w1 r2 w2 = true := by
  unfold clash
  rcases h with ⟨h1, h2⟩ | ⟨h1, h2⟩
  · have : w1.any (fun x => r2.contains x || w2.contains x) = true := List.any_eq_true.2 ⟨x, h1, by rcases h2 with h2 | h2 <;> simp [h2]⟩
    rw [this]; rfl
  · have : r1.any (fun x => w2.contains x) = true := List.any_eq_true.2 ⟨x, h1, by simp [h2]⟩
    rw [this]; simp
def clashO (ops : Array Oper) (o1 o2 : Oper) (f1 f2 : List Nat × List Nat) : Bool := clash (slotsR ops o1) (slotsW o1) (slotsR ops o2) (slotsW o2) || clash f1.1 f1.2 f2.1 f2.2
/-- each operation before which another one clashes with it waits for it -/
def indepOne (ops : Array Oper) (o : Oper) (fo : List Nat × List Nat) (mk : Nat) : Nat → List Oper → List (List Nat × List Nat) → Bool
  | i, p :: l, fp :: fs => (!clashO ops p o fp fo || mk.testBit i) && indepOne ops o fo mk (i + 1) l fs
  | _, _, _ => true
def indepAll (ops : Array Oper) (L : List Oper) (F : List (List Nat × List Nat)) : List Oper → List (List Nat × List Nat) → List Nat → Nat → Bool
  | o :: l, fo :: fs, mk :: ms, j => indepOne ops o fo mk 0 (L.take j) (F.take j) && indepAll ops L F l fs ms (j + 1)
  | _, _, _, _ => true
def indep (ops : Array Oper) (acc : List (List Nat × List Nat)) : Bool :=
  edgesLt 0 ops.toList && indepAll ops ops.toList acc.reverse ops.toList acc.reverse (masks ops.toList []) 0
theorem indepOne_at {ops : Array Oper} {o : Oper} {fo : List Nat × List Nat} {mk : Nat} : ∀ {k : Nat} {l : List Oper} {fs : List (List Nat × List Nat)} {i : Nat} {p : Oper} {fp : List Nat × List Nat}, indepOne ops o fo mk k l fs = true → l[i]? = some p → fs[i]? = some fp → clashO ops p o fp fo = true → mk.testBit (k + i) = true := by
  intro k l
  induction l generalizing k with
  | nil => intro fs i p fp _ h; simp at h
  | cons q l ih =>
    intro fs i p fp h hp hf hc
    cases fs with
    | nil => simp at hf
    | cons g fs =>
      simp only [indepOne, Bool.and_eq_true, Bool.or_eq_true, Bool.not_eq_true'] at h
      cases i with
      | zero =>
        simp at hp hf
        subst hp hf
        rcases h.1 with h1 | h1
        · rw [h1] at hc; cases hc
        · exact h1
      | succ i =>
        have := ih h.2 (by simpa using hp) (by simpa using hf) hc
        rwa [show k + 1 + i = k + (i + 1) from by omega] at this
theorem indepAll_at {ops : Array Oper} {L : List Oper} {F : List (List Nat × List Nat)} : ∀ {l : List Oper} {fs : List (List Nat × List Nat)} {ms : List Nat} {k j : Nat} {o : Oper} {fo : List Nat × List Nat} {mk : Nat}, indepAll ops L F l fs ms k = true → l[j]? = some o → fs[j]? = some fo → ms[j]? = some mk →
    indepOne ops o fo mk 0 (L.take (k + j)) (F.take (k + j)) = true := by
  intro l
  induction l with
  | nil => intro fs ms k j o fo mk _ h; simp at h
  | cons q l ih =>
    intro fs ms k j o fo mk h ho hf hm
    cases fs with
    | nil => simp at hf
    | cons g fs =>
      cases ms with
      | nil => simp at hm
      | cons m' ms =>
        simp only [indepAll, Bool.and_eq_true] at h
        cases j with
        | zero => simp at ho hf hm; subst ho hf hm; exact h.1
        | succ j =>
          have := ih h.2 (by simpa using ho) (by simpa using hf) (by simpa using hm)
          rwa [show k + 1 + j = k + (j + 1) from by omega] at this
theorem masks_len : ∀ (l : List Oper) (acc : List Nat), (masks l acc).length = acc.length + l.length := by
  intro l
  induction l with
  | nil => intro acc; rfl
  | cons o l ih => intro acc; rw [masks, ih]; simp; omega

theorem runsT_congr {ops : Array Oper} {T T' : Tp} {o : Oper} (h : ∀ t, t ∈ slotsR ops o → T' t = T t) : runsT ops T' o = runsT ops T o := by
  unfold runsT
  cases hg : o.guard with
  | none => rfl
  | some jb =>
    obtain ⟨j, b⟩ := jb
    simp only
    cases hd : dstAt ops j with
    | none => rfl
    | some t => simp only; rw [h t (by simp [slotsR, hg, hd])]
/-- the last one that has written -/
def lastW (S W : Nat → Bool) : Nat → Nat
  | 0 => 0
  | n + 1 => if S n && W n then n + 1 else lastW S W n
theorem lastW_none {S W : Nat → Bool} (h : ∀ j, S j = false) (n : Nat) : lastW S W n = 0 := by
  induction n with
  | zero => rfl
  | succ n ih => unfold lastW; rw [h n]; simpa using ih
theorem lastW_le (S W : Nat → Bool) (n : Nat) : lastW S W n ≤ n := by
  induction n with
  | zero => exact Nat.le_refl _
  | succ n ih => unfold lastW; split <;> omega
theorem lastW_read {V : Type} (S W : Nat → Bool) (σ : Nat → V) (n i : Nat) (hσ : ∀ j, j < n → W j = false → σ (j + 1) = σ j) (hi : i ≤ n) (h1 : ∀ j, i ≤ j → j < n → S j = true → W j = false) (h2 : ∀ j, j < i → W j = true → S j = true) : σ (lastW S W n) = σ i := by
  have hA : lastW S W n = lastW S W i := by
    clear hσ
    induction n with
    | zero => rw [Nat.le_zero.1 hi]
    | succ n ih =>
      by_cases hn : i = n + 1
      · rw [hn]
      · have hc : (S n && W n) = false := by
          cases hs : S n with
          | false => rfl
          | true => simpa using h1 n (by omega) (by omega) hs
        have he : lastW S W (n + 1) = lastW S W n := by simp only [lastW, hc]; simp
        rw [he]
        exact ih (by omega) (fun j hj hj' => h1 j hj (by omega))
  rw [hA]
  clear hA h1
  induction i with
  | zero => rfl
  | succ i ih =>
    unfold lastW
    cases hw : W i with
    | true => rw [h2 i (by omega) hw]; rfl
    | false =>
      rw [Bool.and_false, if_neg (by simp), hσ i (by omega) hw]
      exact ih (by omega) fun j hj => h2 j (by omega)
theorem lastW_new {S S' W : Nat → Bool} {n i : Nat} (hi : i < n) (hS : S' i = true) (hW : W i = true) (hS' : ∀ j, j ≠ i → S' j = S j) (h : ∀ j, i < j → j < n → S j = true → W j = false) : lastW S' W n = i + 1 := by
  induction n with
  | zero => omega
  | succ n ih =>
    unfold lastW
    by_cases hn : i = n
    · subst hn; rw [hS, hW]; rfl
    · have hc : (S' n && W n) = false := by
        rw [hS' n (fun e => hn e.symm)]
        cases hs : S n with
        | false => rfl
        | true => simpa using h n (by omega) (by omega) hs
      rw [hc, if_neg (by simp)]
      exact ih (by omega) (fun j hj hj' => h j hj (by omega))
theorem lastW_same {S S' W : Nat → Bool} {n i : Nat} (hW : W i = false) (hS' : ∀ j, j ≠ i → S' j = S j) : lastW S' W n = lastW S W n := by
  induction n with
  | zero => rfl
  | succ n ih =>
    unfold lastW
    rw [ih]
    by_cases hn : n = i
    · subst hn; rw [hW]; simp
    · rw [hS' n hn]
end Go.Proofs.Ytoijkcnefnmbjaa
