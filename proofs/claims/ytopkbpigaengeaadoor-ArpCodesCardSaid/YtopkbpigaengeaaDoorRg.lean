/-
  A region that draws its order, walked once an operation and not once an order: each operation has a fact on the value that it leaves, the facts are kept by what the others do, and so they hold in whatever order the operations come up.
-/
import Derived.Test.YtopkbpigaengeaaDoorBase
namespace Go.Proofs.YtopkbpigaengeaaDoor
open Go.RowKit

section
variable {P : Program} {ops : Array Oper} {Q : Exit → Act → World → Prop}

/-- one operation over an evaluation of its operands: K is what follows, by the value that it leaves -/
def OpV (P : Program) (o : Oper) (r : Operand → Value) (w : World) (K : Value → World → Prop) : Prop :=
  match (execOp r o).run P w with
  | .ok (.value v) w' => K v w'
  | .ok .skip w' => K undef w'
  | .ok (.enter f args) w' => Calls P f args w' fun e w'' => ∃ v, e = .returned v ∧ K v w''
  | _ => False

theorem OpV.wp {o : Oper} {a : Act} {w : World} {K : Act → World → Prop} (h : OpV P o a.eval w fun v w' => K (a.put o.dst v) w') : o.wp P a w K Q := by
  unfold OpV at h
  unfold Oper.wp
  generalize (execOp a.eval o).run P w = r at *
  cases r with
  | ok n w' =>
    cases n <;> simp only [Oper.upon] at h ⊢ <;> first
      | exact h
      | exact h.elim
      | exact Calls.mono h fun e w'' ⟨v, he, hk⟩ => by subst he; exact hk
  | halt x w' => exact h.elim

/-- the slot that operation i writes -/
def slotOf (ops : Array Oper) (i : Nat) : Option Tmp := (ops[i]?).bind (·.dst)
/-- the value that operation i has left -/
def leftBy (ops : Array Oper) (a : Act) (i : Nat) : Value := match slotOf ops i with
  | some t => a.tmps.getD t undef
  | none => undef

def edgesDown : Nat → List Oper → Bool
  | _, [] => true
  | k, o :: l => o.after.toList.all (fun e => decide (e.on < k)) && edgesDown (k + 1) l

theorem edgesDown_at : ∀ (l : List Oper) (k i : Nat) (o : Oper), edgesDown k l = true → l[i]? = some o → ∀ e ∈ o.after.toList, e.on < k + i := by
  intro l
  induction l with
  | nil => intro k i o _ h; simp at h
  | cons x l ih =>
    intro k i o hd h e he
    simp only [edgesDown, Bool.and_eq_true, List.all_eq_true, decide_eq_true_eq] at hd
    cases i with
    | zero => simp at h; subst h; exact hd.1 e he
    | succ i =>
      have := ih (k + 1) i o hd.2 (by simpa using h) e he
      omega

theorem ready_full (hd : edgesDown 0 ops.toList = true) {l : Array Bool} (h : Region.ready .any ops l = []) : ∀ i, i < ops.size → l.getD i true = true := by
  intro i
  induction i using Nat.strongRecOn with
  | _ i ih =>
    intro hi
    cases hl : l.getD i true with
    | true => rfl
    | false =>
      exfalso
      have hm : i ∈ Region.ready .any ops l := by
        refine mem_ready.2 ⟨hl, ops[i], by simp [hi], fun e he _ => ?_⟩
        have hlt := edgesDown_at ops.toList 0 i ops[i] hd (by simp [hi]) e (by simpa using he)
        have h1 := ih e.on (by omega) (by omega)
        have hsz : i < l.size := by
          rcases Nat.lt_or_ge i l.size with h2 | h2
          · exact h2
          · simp [Array.getElem?_eq_none h2] at hl
        have h3 : e.on < l.size := by omega
        simp [h3] at h1 ⊢
        exact h1
      rw [h] at hm
      cases hm

/-- what an operation that waits for others knows of them -/
def Known (A : Nat → Value → World → Prop) (ops : Array Oper) (r : Operand → Value) (w : World) : List Edge → Prop
  | [] => True
  | e :: l => (match slotOf ops e.on with
      | some t => A e.on (r (.tmp t)) w
      | none => True) ∧ Known A ops r w l

/-- what each operation of a region is to be shown for -/
def EachOp (H : Nat → Oper → Prop) : Nat → List Oper → Prop
  | _, [] => True
  | k, o :: l => H k o ∧ EachOp H (k + 1) l
theorem EachOp.nil {H : Nat → Oper → Prop} {k : Nat} : EachOp H k [] := trivial
theorem EachOp.cons {H : Nat → Oper → Prop} {k : Nat} {o : Oper} {l : List Oper} (h : H k o) (hs : EachOp H (k + 1) l) : EachOp H k (o :: l) := ⟨h, hs⟩
theorem EachOp.at {H : Nat → Oper → Prop} : ∀ {l : List Oper} {k i : Nat} {o : Oper}, EachOp H k l → l[i]? = some o → H (k + i) o := by
  intro l
  induction l with
  | nil => intro k i o _ h; simp at h
  | cons x l ih =>
    intro k i o hs h
    cases i with
    | zero => simp at h; subst h; exact hs.1
    | succ i =>
      have := ih (k := k + 1) (i := i) hs.2 (by simpa using h)
      rwa [show k + 1 + i = k + (i + 1) from by omega] at this

/-- the slots of a list filled with values -/
def fillL : List (Option Tmp) → (Nat → Value) → Nat → Act → Act
  | [], _, _, a => a
  | d :: l, x, k, a => fillL l x (k + 1) (a.put d (x k))

theorem put_size (a : Act) (d : Option Tmp) (v : Value) : (a.put d v).tmps.size = a.tmps.size := by
  cases d <;> simp [Act.put]
theorem put_defers' (a : Act) (d : Option Tmp) (v : Value) : (a.put d v).defers = a.defers := by
  cases d <;> rfl
theorem put_other (a : Act) (d : Option Tmp) (v : Value) (t : Tmp) (h : d ≠ some t) : (a.put d v).tmps[t]? = a.tmps[t]? := by
  cases d with
  | none => rfl
  | some d =>
    have hne : d ≠ t := fun e => h (by rw [e])
    simp [Act.put, Array.getElem?_setIfInBounds_ne hne]

theorem fillL_spec (a : Act) : ∀ (l : List (Option Tmp)) (x : Nat → Value) (k : Nat) (b : Act), b.tmps.size = a.tmps.size → b.defers = a.defers →
    (∀ i t, l[i]? = some (some t) → x (k + i) = a.tmps.getD t undef) →
    (fillL l x k b).tmps.size = a.tmps.size ∧ (fillL l x k b).defers = a.defers ∧
    ∀ t, (fillL l x k b).tmps[t]? = if some t ∈ l then a.tmps[t]? else b.tmps[t]? := by
  intro l
  induction l with
  | nil => intro x k b hs hd _; exact ⟨hs, hd, fun t => by simp [fillL]⟩
  | cons d l ih =>
    intro x k b hs hd hx
    obtain ⟨h1, h2, h3⟩ := ih x (k + 1) (b.put d (x k)) (by rw [put_size]; exact hs) (by rw [put_defers']; exact hd) (fun i t h => by
      have := hx (i + 1) t (by simpa using h)
      rwa [show k + 1 + i = k + (i + 1) from by omega])
    refine ⟨h1, h2, fun t => ?_⟩
    rw [fillL, h3 t]
    by_cases hm : some t ∈ l
    · simp [hm]
    · simp only [hm, if_false, List.mem_cons, or_false]
      by_cases hdt : some t = d
      · subst hdt
        have h0 := hx 0 t (by simp)
        simp only [Nat.add_zero] at h0
        simp only [if_true, Act.put, h0]
        rcases Nat.lt_or_ge t a.tmps.size with hlt | hge
        · have hb : t < b.tmps.size := by rw [hs]; exact hlt
          simp [hlt, hb]
        · have hb : b.tmps.size ≤ t := by rw [hs]; exact hge
          simp [hge, hb]
      · rw [if_neg hdt, put_other _ _ _ _ (fun e => hdt e.symm)]

theorem act_ext {a b : Act} (hd : a.defers = b.defers) (h : ∀ t : Nat, a.tmps[t]? = b.tmps[t]?) : a = b := by
  obtain ⟨x, d⟩ := a
  obtain ⟨y, e⟩ := b
  simp only at hd h
  subst hd
  have : x = y := by
    apply Array.ext_getElem?
    exact h
  rw [this]

def nodupL : List (Option Tmp) → Bool
  | [] => true
  | d :: l => (match d with
      | some t => !l.contains (some t)
      | none => true) && nodupL l
theorem nodupL_at : ∀ (l : List (Option Tmp)) (i j : Nat) (t : Tmp), nodupL l = true → l[i]? = some (some t) → l[j]? = some (some t) → i = j := by
  intro l
  induction l with
  | nil => intro i j t _ h; simp at h
  | cons d l ih =>
    intro i j t hd h1 h2
    simp only [nodupL, Bool.and_eq_true] at hd
    cases i with
    | zero =>
      cases j with
      | zero => rfl
      | succ j =>
        simp at h1 h2
        subst h1
        have hm : some t ∈ l := List.mem_of_getElem? h2
        simp at hd
        exact absurd hm hd.1
    | succ i =>
      cases j with
      | zero =>
        simp at h1 h2
        subst h2
        have hm : some t ∈ l := List.mem_of_getElem? h1
        simp at hd
        exact absurd hm hd.1
      | succ j =>
        have := ih i j t hd.2 (by simpa using h1) (by simpa using h2)
        omega

theorem known_of {A : Nat → Value → World → Prop} {a : Act} {w : World} : ∀ (es : List Edge), (∀ e ∈ es, A e.on (leftBy ops a e.on) w) → Known A ops a.eval w es := by
  intro es
  induction es with
  | nil => intro _; trivial
  | cons e l ih =>
    intro h
    refine ⟨?_, ih fun x hx => h x (List.mem_cons_of_mem _ hx)⟩
    have h1 := h e (List.mem_cons_self ..)
    unfold leftBy at h1
    cases hs : slotOf ops e.on with
    | none => trivial
    | some t => rw [hs] at h1; exact h1
end

section
variable {P : Program} {Q : Exit → Act → World → Prop}

/-- what an operation that waits for others knows of them, by the list of the slots -/
def KnownL (A : Nat → Value → World → Prop) (ds : List (Option Tmp)) (r : Operand → Value) (w : World) : List Edge → Prop
  | [] => True
  | e :: l => (match ds[e.on]? with
      | some (some t) => A e.on (r (.tmp t)) w
      | _ => True) ∧ KnownL A ds r w l
theorem knownL_of {A : Nat → Value → World → Prop} {l : List Oper} {r : Operand → Value} {w : World} : ∀ (es : List Edge), Known A l.toArray r w es → KnownL A (l.map (·.dst)) r w es := by
  intro es
  induction es with
  | nil => intro _; trivial
  | cons e es ih =>
    intro h
    refine ⟨?_, ih h.2⟩
    have h1 := h.1
    unfold slotOf at h1
    cases ho : l[e.on]? with
    | none => simp [ho]
    | some o =>
      cases hd : o.dst with
      | none => simp [ho, hd]
      | some t => simpa [ho, hd] using h1
theorem EachOp.mono {H H' : Nat → Oper → Prop} (h : ∀ i o, H i o → H' i o) : ∀ {l : List Oper} {k : Nat}, EachOp H k l → EachOp H' k l := by
  intro l
  induction l with
  | nil => intro k _; trivial
  | cons x l ih => intro k hs; exact ⟨h _ _ hs.1, ih hs.2⟩

/-- what is to be shown of one operation of a region that draws -/
def Step (P : Program) (a0 : Act) (A : Nat → Value → World → Prop) (R : World → Prop) (S : World → World → Prop) (ds : List (Option Tmp)) (i : Nat) (o : Oper) : Prop :=
  ∀ (r : Operand → Value) (w : World), R w → (∀ v, r (.const v) = v) → ((∀ f, r (.func f) = .func (.func f) #[] #[]) ∧ ∀ g, r (.global g) = .pointer (some ⟨g, 0, none⟩)) →
    (∀ t, ds.contains (some t) = false → r (.tmp t) = a0.eval (.tmp t)) → KnownL A ds r w o.after.toList →
    ∀ K : Value → World → Prop, (∀ x w', R w' → S w w' → A i x w' → K x w') → OpV P o r w K

/-- the relation that holds all along the head of the region -/
def RgInv (l tl : List Oper) (a0 : Act) (A : Nat → Value → World → Prop) (R : World → Prop) (ld : Array Bool) (a : Act) (w : World) : Prop :=
  R w ∧ ld.size = l.length + tl.length ∧ (∀ i, l.length ≤ i → ld.getD i false = false) ∧ a.defers = a0.defers ∧ a.tmps.size = a0.tmps.size ∧ (∀ t, (∀ i, slotOf l.toArray i ≠ some t) → a.tmps[t]? = a0.tmps[t]?) ∧
  ∀ i, i < l.length → ld.getD i false = true → A i (leftBy l.toArray a i) w

/-- each operation of the tail waits for the whole head -/
def tailWaits (n : Nat) (tl : List Oper) : Bool := tl.all fun o => (List.range n).all fun j => o.after.toList.any fun e => e.on == j && Region.binds .any e

theorem count_set : ∀ (q : List Bool) (k n : Nat), k < n → (hk : k < q.length) → q[k] = false → ((q.set k true).take n).count false + 1 = (q.take n).count false := by
  intro q
  induction q with
  | nil => intro k n _ hk; simp at hk
  | cons b q ihq =>
    intro k n hn hk hb
    cases n with
    | zero => omega
    | succ n =>
      cases k with
      | zero => simp at hb; subst hb; simp
      | succ k =>
        have := ihq k n (by omega) (by simpa using hk) (by simpa using hb)
        simp only [List.set_cons_succ, List.take_succ_cons, List.count_cons]
        omega

theorem wpAny_rg (l tl : List Oper) (a0 : Act) (A : Nat → Value → World → Prop) (R : World → Prop) (S : World → World → Prop)
    (hd : edgesDown 0 (l ++ tl) = true) (hn : nodupL (l.map (·.dst)) = true) (hng : l.all (fun o => o.guard.isNone && o.after.toList.all fun e => Region.binds .any e) = true)
    (htw : tailWaits l.length tl = true) (hseq : Region.seqB .any (l ++ tl).toArray tl.length l.length (Array.replicate l.length true ++ Array.replicate tl.length false) = true)
    (hb : ∀ i t, slotOf l.toArray i = some t → t < a0.tmps.size)
    (hA : ∀ i x w w', S w w' → A i x w → A i x w')
    (hstep : EachOp (Step P a0 A R S (l.map (·.dst))) 0 l)
    (hend : ∀ (x : Nat → Value) w, R w → (∀ i, i < l.length → A i (x i) w) → wpList P (l ++ tl).toArray Q tl (fillL (l.map (·.dst)) x 0 a0) w)
    (hNone : ∀ i x w, i < l.length → slotOf l.toArray i = none → A i x w → A i undef w) :
    ∀ m ld a w, (ld.toList.take l.length).count false = m → RgInv l tl a0 A R ld a w → wpAny P .any (l ++ tl).toArray Q (m + tl.length) ld a w := by
  have hs1 : ∀ i t, slotOf l.toArray i = some t → some t ∈ l.map (·.dst) := by
    intro i t h
    unfold slotOf at h
    cases ho : l[i]? with
    | none => simp [ho] at h
    | some o =>
      simp [ho] at h
      exact List.mem_map.2 ⟨o, List.mem_of_getElem? ho, h⟩
  intro m
  induction m with
  | zero =>
    intro ld a w hc hJ
    obtain ⟨hR, hl, htl, hdf, hsz, hoff, hAs⟩ := hJ
    have hall : ∀ i, i < l.length → ld.getD i false = true := by
      intro i hi
      rw [List.count_eq_zero] at hc
      have h2 : i < ld.size := by omega
      have hm : ld[i] ∈ ld.toList.take l.length := List.mem_take_iff_getElem.2 ⟨i, by simp; omega, by simp⟩
      cases hv : ld[i] with
      | true => simp [h2, hv]
      | false => rw [hv] at hm; exact absurd hm hc
    have hld : ld = Array.replicate l.length true ++ Array.replicate tl.length false := by
      apply Array.ext
      · simp [hl]
      · intro i h1 h2
        rcases Nat.lt_or_ge i l.length with hi | hi
        · have := hall i hi
          simp [h1] at this
          rw [this, Array.getElem_append_left (by simpa using hi)]
          simp
        · have := htl i hi
          simp [h1] at this
          rw [this, Array.getElem_append_right (by simpa using hi)]
          simp
    have key : a = fillL (l.map (·.dst)) (fun i => leftBy l.toArray a i) 0 a0 := by
      have hsp := fillL_spec a (l.map (·.dst)) (fun i => leftBy l.toArray a i) 0 a0 hsz.symm hdf.symm (fun i t h => by
        have hs : slotOf l.toArray i = some t := by
          simp only [List.getElem?_map] at h
          unfold slotOf
          cases ho : l[i]? with
          | none => simp [ho] at h
          | some o => simp [ho] at h; simp [h, ho]
        simp [leftBy, hs])
      refine act_ext hsp.2.1.symm fun t => ?_
      rw [hsp.2.2 t]
      split
      · rfl
      · rename_i hm
        exact hoff t fun i hs => hm (hs1 i t hs)
    have hw := hend (fun i => leftBy l.toArray a i) w hR fun i hi => hAs i hi (hall i hi)
    rw [← key] at hw
    rw [Nat.zero_add, hld]
    exact wpAny_of_seq tl l.length _ a w (fun j => by simp [List.getElem?_append_right (Nat.le_add_right l.length j)]) hseq hw
  | succ m ih =>
    intro ld a w hc hJ
    obtain ⟨hR, hl, htl, hdf, hsz, hoff, hAs⟩ := hJ
    obtain ⟨j0, hj0, hjf⟩ : ∃ j, j < l.length ∧ ld.getD j true = false := by
      have hpos : 0 < (ld.toList.take l.length).count false := by omega
      rw [List.count_pos_iff] at hpos
      obtain ⟨j, hj, e⟩ := List.mem_take_iff_getElem.1 hpos
      have h2 : j < ld.size := by simp at hj; omega
      refine ⟨j, by omega, ?_⟩
      simp at e
      simp [h2, e]
    rw [Nat.succ_add]
    refine ⟨fun h => ?_, fun i hi => ?_⟩
    · have := ready_full (ops := (l ++ tl).toArray) (by simpa using hd) h j0 (by simp; omega)
      rw [this] at hjf
      cases hjf
    obtain ⟨hun, o, ho, hall⟩ := mem_ready.1 hi
    have hilt0 : i < (l ++ tl).length := by
      have := (Array.getElem?_eq_some_iff.1 ho).1
      simpa using this
    have hilt : i < l.length := by
      rcases Nat.lt_or_ge i l.length with h | h
      · exact h
      · exfalso
        have hot : tl[i - l.length]? = some o := by
          have : (l ++ tl)[i]? = some o := by simpa using ho
          rwa [List.getElem?_append_right h] at this
        have h1 := List.all_eq_true.1 htw o (List.mem_of_getElem? hot)
        have h2 := List.all_eq_true.1 h1 j0 (List.mem_range.2 hj0)
        obtain ⟨e, he, hb2⟩ := List.any_eq_true.1 h2
        simp only [Bool.and_eq_true, beq_iff_eq] at hb2
        have h3 := hall e (by simpa using he) hb2.2
        rw [hb2.1] at h3
        have h4 : j0 < ld.size := by omega
        simp [h4] at h3 hjf
        rw [h3] at hjf
        cases hjf
    have hol : l[i]? = some o := by
      have : (l ++ tl)[i]? = some o := by simpa using ho
      rwa [List.getElem?_append_left hilt] at this
    have hgd := List.all_eq_true.1 hng o (List.mem_of_getElem? hol)
    simp only [Bool.and_eq_true, Option.isNone_iff_eq_none] at hgd
    have hst := hstep.at hol
    rw [Nat.zero_add] at hst
    have hkn : Known A l.toArray a.eval w o.after.toList := known_of _ fun e he => by
      have hbd := List.all_eq_true.1 hgd.2 e he
      have h1 := hall e (by simpa using he) hbd
      have h2 := edgesDown_at (l ++ tl) 0 i o hd (by simpa using ho) e he
      exact hAs e.on (by omega) h1
    refine wpOp_step ho fun K' hK' => ?_
    have hw : Region.wanted o (yielded (l ++ tl).toArray a.tmps) = true := by simp [Region.wanted, hgd.1]
    rw [if_pos hw]
    refine OpV.wp (hst a.eval w hR (fun _ => rfl) ⟨fun _ => rfl, fun _ => rfl⟩ (fun t ht => ?_) (knownL_of _ hkn) _ fun x w' hR' hS' hAx => hK' _ _ (ih _ _ _ ?_ ⟨hR', by simpa using hl, fun j hj => ?_, by rw [put_defers']; exact hdf, by rw [put_size]; exact hsz, fun t ht => ?_, fun j hj hlj => ?_⟩))
    · simp only [Act.eval]
      have hoo := hoff t (fun j hj => by
        have := hs1 j t hj
        simp at ht
        simp at this
        obtain ⟨o', ho', e⟩ := this
        exact absurd e (ht o' ho'))
      simp [hoo]
    · have h2 : i < ld.size := by omega
      have h3 : ld[i] = false := by simpa [h2] using hun
      rw [Array.toList_setIfInBounds]
      have := count_set ld.toList i l.length hilt (by simpa using h2) (by simpa using h3)
      omega
    · rw [getD_set_ne false (by omega)]
      exact htl j hj
    · rw [put_other _ _ _ _ (fun e => ht i (by simp [slotOf, hol, e]))]
      exact hoff t ht
    · by_cases hji : j = i
      · subst hji
        have hso : slotOf l.toArray j = o.dst := by simp [slotOf, hol]
        unfold leftBy
        cases hdst : o.dst with
        | none => rw [hso, hdst]; exact hNone j x w' hj (by rw [hso, hdst]) hAx
        | some t =>
          rw [hso, hdst]
          have hbt := hb j t (by rw [hso, hdst])
          simp only [Act.put]
          have : t < a.tmps.size := by rw [hsz]; exact hbt
          simp [this]
          exact hAx
      · have h1 : ld.getD j false = true := by
          have : (ld.setIfInBounds i true).getD j false = ld.getD j false := getD_set_ne false (Ne.symm hji)
          rw [← this]; exact hlj
        have h2 := hA j _ w w' hS' (hAs j hj h1)
        have h3 : leftBy l.toArray (a.put o.dst x) j = leftBy l.toArray a j := by
          unfold leftBy
          cases hsj : slotOf l.toArray j with
          | none => rfl
          | some t =>
            have hne : o.dst ≠ some t := fun e => by
              have hj' : (l.map (·.dst))[j]? = some (some t) := by
                unfold slotOf at hsj
                cases hoj : l[j]? with
                | none => simp [hoj] at hsj
                | some q => simp [hoj] at hsj; simp [hoj, hsj]
              have hi' : (l.map (·.dst))[i]? = some (some t) := by simp [hol, e]
              exact hji (nodupL_at _ _ _ _ hn hj' hi')
            have := put_other a o.dst x t hne
            simp [this]
        rw [h3]
        exact h2

/-- **a region that draws its order, an operation at a time; its tail 'tl' in the one order that it has** -/
theorem wp_region_rg {id : Nat} {l : List Oper} {a0 : Act} {w0 : World} (hm : P.follows .mixedOrders = true) (k : Nat) (ds : List (Option Tmp)) (hds : (l.take k).map (·.dst) = ds) (hk : (l.take k).length = k)
    (A : Nat → Value → World → Prop) (R : World → Prop) (S : World → World → Prop)
    (hd : edgesDown 0 l = true) (hn : nodupL ds = true) (hng : (l.take k).all (fun o => o.guard.isNone && o.after.toList.all fun e => Region.binds .any e) = true)
    (htw : tailWaits k (l.drop k) = true) (hseq : Region.seqB .any l.toArray (l.drop k).length k (Array.replicate k true ++ Array.replicate (l.drop k).length false) = true)
    (n : Nat) (hsz : a0.tmps.size = n) (hb : ds.all (fun d => match d with | some t => decide (t < n) | none => true) = true)
    (hNone : ∀ i x w, ds[i]? = some none → A i x w → A i undef w)
    (hA : ∀ i x w w', S w w' → A i x w → A i x w')
    (hR : R w0.drew)
    (hend : ∀ (x : Nat → Value) w, R w → (∀ i, i < k → A i (x i) w) → wpList P l.toArray Q (l.drop k) (fillL ds x 0 a0) w)
    (hstep : EachOp (Step P a0 A R S ds) 0 (l.take k)) :
    (Code.region id l.toArray true).wp P Q a0 w0 := by
  obtain ⟨h, tl, hl, hh⟩ : ∃ h tl, l = h ++ tl ∧ h.length = k := ⟨l.take k, l.drop k, (List.take_append_drop k l).symm, hk⟩
  subst hl
  subst hh
  simp only [List.take_left, List.drop_left] at *
  subst hds
  have hs1 : ∀ i t, slotOf h.toArray i = some t → some t ∈ h.map (·.dst) := by
    intro i t hi
    unfold slotOf at hi
    cases ho : h[i]? with
    | none => simp [ho] at hi
    | some o =>
      simp [ho] at hi
      exact List.mem_map.2 ⟨o, List.mem_of_getElem? ho, hi⟩
  refine wp_region_any hm ?_
  have hfin := wpAny_rg (Q := Q) h tl a0 A R S hd hn hng htw hseq (fun i t hi => ?_) hA hstep hend (fun i x w hi hs hx => ?_) h.length (Array.replicate (h ++ tl).length false) a0 w0.drew ?_ ⟨hR, by simp, fun i hi => ?_, rfl, rfl, fun _ _ => rfl, fun i hi hf => ?_⟩
  · rw [show (h ++ tl).toArray.size = h.length + tl.length from by simp]
    have e : Array.replicate (h.length + tl.length) false = Array.replicate (h ++ tl).length false := by simp
    rw [e]
    exact hfin
  · have h1 := List.all_eq_true.1 hb _ (hs1 i t hi)
    rw [hsz]
    exact of_decide_eq_true h1
  · refine hNone i x w ?_ hx
    unfold slotOf at hs
    simp only [List.getElem?_map]
    simp [hi] at hs ⊢
    exact hs
  · have e : (Array.replicate (h ++ tl).length false).toList.take h.length = List.replicate h.length false := by
      simp [List.take_replicate]
    rw [e]
    simp [List.count_replicate]
  · simp only [Array.getD_eq_getD_getElem?]
    rw [Array.getElem?_replicate]
    split <;> rfl
  · exfalso
    have e : (Array.replicate (h ++ tl).length false).getD i false = false := by
      simp only [Array.getD_eq_getD_getElem?]
      rw [Array.getElem?_replicate]
      split <;> rfl
    rw [e] at hf
    cases hf
end

/-! ### all blocks but some are as they were -/
structure Keep (X : Nat → Prop) (w w' : World) : Prop where
  os : w'.os = w.os
  tape : w'.tape = w.tape
  output : w'.output = w.output
  size : w.heap.size ≤ w'.heap.size
  block : ∀ k, k < w.heap.size → ¬ X k → w'.heap[k]? = w.heap[k]?

section
variable {X : Nat → Prop} {w w' w'' : World}
theorem Keep.refl (X : Nat → Prop) (w : World) : Keep X w w := ⟨rfl, rfl, rfl, Nat.le_refl _, fun _ _ _ => rfl⟩
theorem Keep.trans (h : Keep X w w') (k : Keep X w' w'') : Keep X w w'' :=
  ⟨k.os.trans h.os, k.tape.trans h.tape, k.output.trans h.output, Nat.le_trans h.size k.size, fun i hi hx => (k.block i (Nat.lt_of_lt_of_le hi h.size) hx).trans (h.block i hi hx)⟩
theorem Keep.weak {Y : Nat → Prop} (h : Keep X w w') (hy : ∀ k, X k → Y k) : Keep Y w w' := ⟨h.os, h.tape, h.output, h.size, fun i hi hx => h.block i hi fun x => hx (hy i x)⟩
theorem Keep.alloc (h : Keep X w w') (o : Obj) : Keep X w (w'.alloc o) :=
  h.trans ⟨rfl, rfl, rfl, by simp, fun k hk _ => Below.heap_alloc w' o k hk⟩
theorem Keep.drew (h : Keep X w w') : Keep X w w'.drew := ⟨h.os, h.tape, h.output, h.size, h.block⟩
theorem Keep.drewN (h : Keep X w w') (n : Nat) : Keep X w (w'.drewN n) := ⟨h.os, h.tape, h.output, h.size, h.block⟩
theorem Keep.setCell (h : Keep X w w') {p : Addr} (hp : w.heap.size ≤ p.block ∨ X p.block) (u : Value) : Keep X w (w'.setCell p u) :=
  ⟨h.os, h.tape, h.output, by simpa using h.size, fun k hk hx => by
    have hne : k ≠ p.block := by
      intro e
      rcases hp with hp | hp
      · omega
      · rw [e] at hx; exact hx hp
    exact (Below.heap_setCell w' p u k hne).trans (h.block k hk hx)⟩
theorem Keep.of_grown {row : Option Nat} (h : w.grownBy w' row) (hr : ∀ k, row = some k → X k) : Keep X w w' :=
  ⟨h.os, h.tape, h.output, h.size, fun k hk hx => h.block k hk fun e => hx (hr k e.symm)⟩
theorem Keep.of_below (h : Below w.heap.size w w') : Keep X w w' := ⟨h.os, h.tape, h.output, h.size, fun k hk _ => h.block k hk⟩
theorem Keep.below (h : Keep X w w') {B : Nat} (hB : B ≤ w.heap.size) (hx : ∀ k, X k → B ≤ k) : Below B w w' :=
  ⟨h.os, h.tape, h.output, h.size, fun k hk => h.block k (by omega) fun x => by have := hx k x; omega⟩
theorem Keep.grown {g : Nat} (h : Keep (· = g) w w') : w.grownBy w' (some g) := ⟨h.os, h.tape, h.output, h.size, fun k hk hx => h.block k hk fun e => hx (by rw [e])⟩
theorem Keep.cell (h : Keep X w w') {p : Addr} (hp : p.block < w.heap.size) (hx : ¬ X p.block) : w'.cell? p = w.cell? p := World.cell?_of_block (h.block p.block hp hx)
theorem Keep.frozen (h : Keep X w w') {p : Addr} (hp : p.block < w.heap.size) (hx : ¬ X p.block) : w'.frozen? p = w.frozen? p := World.frozen?_of_block (h.block p.block hp hx)
theorem Blk.kept {g : Nat} {t : TypeId} {cs : Array Value} (h : Blk w g t cs) (hk : Keep X w w') (hx : ¬ X g) : Blk w' g t cs := (hk.block g h.lt hx).trans h
theorem Reads.kept {B size n : Nat} {A : Option Addr} {xs : List Value} (h : Reads w B size A n xs) (hk : Keep X w w') (hB : B ≤ w.heap.size) (hx : ∀ k, k < B → ¬ X k) : Reads w' B size A n xs :=
  h.keep fun p hp => hk.cell (by omega) (hx _ hp)
theorem own_keep {base e size n : Nat} {v : Value} {xs : List Value} (h : w.ownsRow base e size v n xs) (hk : Keep X w w') (hx : ∀ g, v.ownBlock = some g → ¬ X g) : w'.ownsRow base e size v n xs := by
  rcases h.2 with ⟨h1, h2⟩ | ⟨g, cap, c, hv, hb, hc, hnc, hm, hs, hx'⟩
  · exact ⟨h.1, .inl ⟨h1, h2⟩⟩
  · refine ⟨h.1, .inr ⟨g, cap, c, hv, hb, ?_, hnc, hm, hs, hx'⟩⟩
    have hlt : g < w.heap.size := by
      rcases Nat.lt_or_ge g w.heap.size with hlt | hge
      · exact hlt
      · rw [Array.getElem?_eq_none hge] at hc; cases hc
    exact (hk.block g hlt (hx g (by rw [hv]; rfl))).trans hc
end

/-- a fact on a value that stays when blocks outside X stay -/
def Fact (X : Nat → Prop) : Type := { p : Value → World → Prop // ∀ x w w', Keep X w w' → p x w → p x w' }
def Fact.any {X : Nat → Prop} : Fact X := ⟨fun _ _ => True, fun _ _ _ _ h => h⟩
def Fact.is {X : Nat → Prop} (v : Value) : Fact X := ⟨fun x _ => x = v, fun _ _ _ _ h => h⟩
def Fact.val {X : Nat → Prop} (p : Value → Prop) : Fact X := ⟨fun x _ => p x, fun _ _ _ _ h => h⟩
/-- a number below n -/
def Fact.lt {X : Nat → Prop} (n : Nat) : Fact X := ⟨fun x _ => ∃ q : Nat, x = .int .i64 (q : Int) ∧ q < n, fun _ _ _ _ h => h⟩
/-- a slice over a whole block -/
def Fact.row {X : Nat → Prop} (t : TypeId) (n c : Nat) (cs : Array Value) : Fact X :=
  ⟨fun x w => ∃ k, x = .slice (some ⟨k, 0, none⟩) n c ∧ ¬ X k ∧ Blk w k t cs, fun _ _ _ hk ⟨k, h1, h2, h3⟩ => ⟨k, h1, h2, h3.kept hk h2⟩⟩
/-- a pointer to a cell that holds a value -/
def Fact.ptr {X : Nat → Prop} (p : Value → Prop) : Fact X :=
  ⟨fun x w => ∃ (k o : Nat) (u : Value), x = .pointer (some ⟨k, o, none⟩) ∧ ¬ X k ∧ k < w.heap.size ∧ w.cell? ⟨k, o, none⟩ = some u ∧ p u,
   fun _ _ _ hk ⟨k, o, u, h1, h2, h3, h4, h5⟩ => ⟨k, o, u, h1, h2, Nat.lt_of_lt_of_le h3 hk.size, (hk.cell h3 h2).trans h4, h5⟩⟩
/-- an owned row -/
def Fact.own {X : Nat → Prop} (base e size n : Nat) (xs : List Value) : Fact X :=
  ⟨fun x w => w.ownsRow base e size x n xs ∧ ∀ g, x.ownBlock = some g → ¬ X g, fun _ _ _ hk ⟨h1, h2⟩ => ⟨own_keep h1 hk h2, h2⟩⟩

def FactAt {X : Nat → Prop} (ds : List (Option Tmp)) (F : List (Fact X)) (i : Nat) (x : Value) (w : World) : Prop :=
  match ds[i]? with
  | some (some _) => (match F[i]? with
    | some p => p.1 x w
    | none => True)
  | _ => True
theorem FactAt.keep {X : Nat → Prop} {ds : List (Option Tmp)} {F : List (Fact X)} (i : Nat) (x : Value) (w w' : World) (hk : Keep X w w') (h : FactAt ds F i x w) : FactAt ds F i x w' := by
  unfold FactAt at *
  split
  · rename_i t ht
    rw [ht] at h
    simp only at h
    split
    · rename_i p hp
      rw [hp] at h
      exact p.2 x w w' hk h
    · trivial
  · trivial

/-- the facts of all operations, with the value that each has left -/
def AllFacts {X : Nat → Prop} : List (Option Tmp) → List (Fact X) → (Nat → Value) → Nat → World → Prop
  | some _ :: ds, p :: F, x, k, w => p.1 (x k) w ∧ AllFacts ds F x (k + 1) w
  | none :: ds, _ :: F, x, k, w => AllFacts ds F x (k + 1) w
  | _, _, _, _, _ => True
theorem allFacts_of {X : Nat → Prop} {w : World} {x : Nat → Value} : ∀ (ds : List (Option Tmp)) (F : List (Fact X)) (k : Nat), (∀ i, i < ds.length → FactAt ds F i (x (k + i)) w) → AllFacts ds F x k w := by
  intro ds
  induction ds with
  | nil => intro F k _; unfold AllFacts; trivial
  | cons d ds ih =>
    intro F k h
    cases F with
    | nil => cases d <;> (unfold AllFacts; trivial)
    | cons p F =>
      have h1 : AllFacts ds F x (k + 1) w := ih F (k + 1) fun i hi => by
        have := h (i + 1) (by simpa using hi)
        unfold FactAt at this ⊢
        simpa [show k + 1 + i = k + (i + 1) from by omega] using this
      have h0 := h 0 (by simp)
      cases d with
      | none => exact h1
      | some t => exact ⟨by simpa [FactAt] using h0, h1⟩

theorem wp_region_facts {P : Program} {Q : Exit → Act → World → Prop} {id : Nat} {l : List Oper} {a0 : Act} {w0 : World} (hm : P.follows .mixedOrders = true) (k : Nat) (ds : List (Option Tmp)) (hds : (l.take k).map (·.dst) = ds) (hk : (l.take k).length = k)
    (X : Nat → Prop) (F : List (Fact X)) (R : World → Prop) (n : Nat)
    (hd : edgesDown 0 l = true) (hn : nodupL ds = true) (hng : (l.take k).all (fun o => o.guard.isNone && o.after.toList.all fun e => Region.binds .any e) = true)
    (htw : tailWaits k (l.drop k) = true) (hseq : Region.seqB .any l.toArray (l.drop k).length k (Array.replicate k true ++ Array.replicate (l.drop k).length false) = true)
    (hsz : a0.tmps.size = n) (hb : ds.all (fun d => match d with | some t => decide (t < n) | none => true) = true)
    (hR : R w0.drew)
    (hend : ∀ (x : Nat → Value) w, R w → AllFacts ds F x 0 w → wpList P l.toArray Q (l.drop k) (fillL ds x 0 a0) w)
    (hstep : EachOp (Step P a0 (FactAt ds F) R (Keep X) ds) 0 (l.take k)) :
    (Code.region id l.toArray true).wp P Q a0 w0 :=
  wp_region_rg hm k ds hds hk (FactAt ds F) R (Keep X) hd hn hng htw hseq n hsz hb (fun i x w h _ => by unfold FactAt; rw [h]; trivial) FactAt.keep hR
    (fun x w hR h => hend x w hR (allFacts_of ds F 0 fun i hi => by rw [Nat.zero_add]; exact h i (by rw [← hds, List.length_map, hk] at hi; exact hi))) hstep
end Go.Proofs.YtopkbpigaengeaaDoor
