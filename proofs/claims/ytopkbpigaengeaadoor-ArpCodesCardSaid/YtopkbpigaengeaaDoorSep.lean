/-
  A region that draws its order and makes rows of bytes: each operation is walked once; the rows that are alive lie in blocks of their own, apart from one another.
-/
import Derived.Test.YtopkbpigaengeaaDoorRg
import Derived.Test.YtopkbpigaengeaaDoorI
namespace Go.Proofs.YtopkbpigaengeaaDoor
open Go.RowKit

section
variable {P : Program} {Q : Exit → Act → World → Prop}

/-- operation i waits for operation j, by one or more edges -/
def reachB (l : List Oper) : Nat → Nat → Nat → Bool
  | 0, _, _ => false
  | f + 1, i, j => match l[i]? with
    | some o => o.after.toList.any fun e => Region.binds .any e && (e.on == j || reachB l f e.on j)
    | none => false

/-- what has come up is closed under what it waits for -/
def Closed (l : List Oper) (ld : Array Bool) : Prop := ∀ i o, l[i]? = some o → ld.getD i false = true → ∀ e ∈ o.after.toList, Region.binds .any e = true → ld.getD e.on false = true
theorem reach_listed {l : List Oper} {ld : Array Bool} (hc : Closed l ld) : ∀ (f i j : Nat), reachB l f i j = true → (∃ o, l[i]? = some o ∧ ∀ e ∈ o.after.toList, Region.binds .any e = true → ld.getD e.on false = true) → ld.getD j false = true := by
  intro f
  induction f with
  | zero => intro i j h; simp [reachB] at h
  | succ f ih =>
    intro i j h ⟨o, ho, hd⟩
    simp only [reachB, ho] at h
    obtain ⟨e, he, hb⟩ := List.any_eq_true.1 h
    simp only [Bool.and_eq_true, Bool.or_eq_true, beq_iff_eq] at hb
    have h1 := hd e he hb.1
    rcases hb.2 with h2 | h2
    · rw [← h2]; exact h1
    · refine ih e.on j h2 ?_
      cases hl : l[e.on]? with
      | none => exfalso; cases f <;> simp [reachB, hl] at h2
      | some o' => exact ⟨o', rfl, hc e.on o' hl h1⟩

def tailReach (n : Nat) (l tl : List Oper) : Bool := (List.range tl.length).all fun k => (List.range n).all fun j => reachB (l ++ tl) (n + tl.length) (n + k) j

theorem wpAny_J (l tl : List Oper) (J : Array Bool → Act → World → Prop)
    (hd : edgesDown 0 (l ++ tl) = true) (hng : l.all (fun o => o.guard.isNone && o.after.toList.all fun e => Region.binds .any e) = true)
    (htw : tailReach l.length l tl = true) (hseq : Region.seqB .any (l ++ tl).toArray tl.length l.length (Array.replicate l.length true ++ Array.replicate tl.length false) = true)
    (hstep : ∀ ld a w i o, J ld a w → l[i]? = some o → ld.getD i true = false → (∀ e ∈ o.after.toList, ld.getD e.on false = true) → Closed (l ++ tl) ld → ∀ K : Act → World → Prop, (∀ a w, J (ld.setIfInBounds i true) a w → K a w) → Oper.wp P o a w K Q)
    (hend : ∀ a w, J (Array.replicate l.length true ++ Array.replicate tl.length false) a w → wpList P (l ++ tl).toArray Q tl a w) :
    ∀ m ld a w, (ld.toList.take l.length).count false = m → ld.size = l.length + tl.length → (∀ i, l.length ≤ i → ld.getD i false = false) → Closed (l ++ tl) ld → J ld a w → wpAny P .any (l ++ tl).toArray Q (m + tl.length) ld a w := by
  intro m
  induction m with
  | zero =>
    intro ld a w hc hl htl hcl hJ
    have hall : ∀ i, i < l.length → ld.getD i false = true := by
      intro i hi
      rw [List.count_eq_zero] at hc
      have h2 : i < ld.size := by omega
      have hm : ld[i] ∈ ld.toList.take l.length := List.mem_take_iff_getElem.2 ⟨i, by simp; omega, by simp⟩
      cases hv : ld[i] with
      | true => simp [h2, hv]
      | false => rw [hv] at hm; exact absurd hm hc
    have hld : ld = Array.replicate l.length true ++ Array.replicate tl.length false := by
      apply Array.ext
      · simp [hl]
      · intro i h1 h2
        rcases Nat.lt_or_ge i l.length with hi | hi
        · have := hall i hi
          simp [h1] at this
          rw [this, Array.getElem_append_left (by simpa using hi)]
          simp
        · have := htl i hi
          simp [h1] at this
          rw [this, Array.getElem_append_right (by simpa using hi)]
          simp
    rw [Nat.zero_add, hld]
    rw [hld] at hJ
    exact wpAny_of_seq tl l.length _ a w (fun j => by simp [List.getElem?_append_right (Nat.le_add_right l.length j)]) hseq (hend a w hJ)
  | succ m ih =>
    intro ld a w hc hl htl hcl hJ
    obtain ⟨j0, hj0, hjf⟩ : ∃ j, j < l.length ∧ ld.getD j true = false := by
      have hpos : 0 < (ld.toList.take l.length).count false := by omega
      rw [List.count_pos_iff] at hpos
      obtain ⟨j, hj, e⟩ := List.mem_take_iff_getElem.1 hpos
      have h2 : j < ld.size := by simp at hj; omega
      refine ⟨j, by omega, ?_⟩
      simp at e
      simp [h2, e]
    rw [Nat.succ_add]
    refine ⟨fun h => ?_, fun i hi => ?_⟩
    · have := ready_full (ops := (l ++ tl).toArray) (by simpa using hd) h j0 (by simp; omega)
      rw [this] at hjf
      cases hjf
    obtain ⟨hun, o, ho, hall⟩ := mem_ready.1 hi
    have hoL : (l ++ tl)[i]? = some o := by simpa using ho
    have hilt0 : i < (l ++ tl).length := (List.getElem?_eq_some_iff.1 hoL).1
    have hilt : i < l.length := by
      rcases Nat.lt_or_ge i l.length with h | h
      · exact h
      · exfalso
        have h1 := List.all_eq_true.1 htw (i - l.length) (List.mem_range.2 (by simp at hilt0; omega))
        have h2 := List.all_eq_true.1 h1 j0 (List.mem_range.2 hj0)
        rw [show l.length + (i - l.length) = i from by omega] at h2
        have h3 := reach_listed hcl _ _ _ h2 ⟨o, hoL, fun e he hb => hall e (by simpa using he) hb⟩
        have h4 : j0 < ld.size := by omega
        simp [h4] at h3 hjf
        rw [h3] at hjf
        cases hjf
    have hol : l[i]? = some o := by rwa [List.getElem?_append_left hilt] at hoL
    have hgd := List.all_eq_true.1 hng o (List.mem_of_getElem? hol)
    simp only [Bool.and_eq_true, Option.isNone_iff_eq_none] at hgd
    have hdep : ∀ e ∈ o.after.toList, ld.getD e.on false = true := fun e he => hall e (by simpa using he) (List.all_eq_true.1 hgd.2 e he)
    refine wpOp_step ho fun K' hK' => ?_
    have hw : Region.wanted o (yielded (l ++ tl).toArray a.tmps) = true := by simp [Region.wanted, hgd.1]
    rw [if_pos hw]
    refine hstep ld a w i o hJ hol hun hdep hcl K' fun a' w' hJ' => hK' _ _ (ih _ _ _ ?_ (by simpa using hl) (fun j hj => ?_) (fun j oj hoj hlj e he hbe => ?_) hJ')
    · have h2 : i < ld.size := by omega
      have h3 : ld[i] = false := by simpa [h2] using hun
      rw [Array.toList_setIfInBounds]
      have := count_set ld.toList i l.length hilt (by simpa using h2) (by simpa using h3)
      omega
    · rw [getD_set_ne false (by omega)]
      exact htl j hj
    · by_cases hji : j = i
      · subst hji
        rw [hoL] at hoj
        injection hoj with hoj
        subst hoj
        exact getD_set_true (hdep e he)
      · have h1 : ld.getD j false = true := by
          have : (ld.setIfInBounds i true).getD j false = ld.getD j false := getD_set_ne false (Ne.symm hji)
          rw [← this]; exact hlj
        exact getD_set_true (hcl j oj hoj h1 e he hbe)
end

/-- what an operation leaves: a value with a property; perhaps a row of bytes; perhaps it takes over the row of another operation -/
structure OpSpec where
  p : Value → Prop
  row : Option (List Int)
  eats : Option Nat
def isV (v : Value) : OpSpec := ⟨(· = v), none, none⟩
def anyV : OpSpec := ⟨fun _ => True, none, none⟩
def rowV (xs : List Int) : OpSpec := ⟨fun x => ∃ A c, x = .slice A xs.length c, some xs, none⟩
def eatV (c : Nat) (xs : List Int) : OpSpec := ⟨fun x => ∃ A c, x = .slice A xs.length c, some xs, some c⟩

def RowAt (base : Nat) (w : World) (v : Value) (xs : List Int) : Prop := w.ownsRow base 5 1 v xs.length (bytesV xs)
theorem RowAt.lt {base : Nat} {w : World} {v : Value} {xs : List Int} (h : RowAt base w v xs) {g : Nat} (hv : v.ownBlock = some g) : base ≤ g ∧ g < w.heap.size := World.ownsRow.lt h g hv
theorem RowAt.form {base : Nat} {w : World} {v : Value} {xs : List Int} (h : RowAt base w v xs) : ∃ A c, v = .slice A xs.length c := by
  rcases h.2 with ⟨rfl, hn⟩ | ⟨g, cap, cur, rfl, _⟩
  · exact ⟨none, 0, by rw [hn]⟩
  · exact ⟨_, _, rfl⟩

/-- nobody takes over the row of j -/
def uneaten (SP : List OpSpec) (j : Nat) : Bool := SP.all fun s => s.eats != some j

def KnownS (SP : List OpSpec) (ds : List Tmp) (base : Nat) (eats : Option Nat) (r : Operand → Value) (w : World) : List Edge → Prop
  | [] => True
  | e :: es => (match ds[e.on]?, SP[e.on]? with
      | some t, some s => s.p (r (.tmp t)) ∧ (match s.row with
        | some xs => (eats == some e.on || uneaten SP e.on) = true → RowAt base w (r (.tmp t)) xs
        | none => True)
      | _, _ => True) ∧ KnownS SP ds base eats r w es

/-- what is to be shown of an operation: x is what it leaves, w' the world behind it -/
def PostS (ds : List Tmp) (base : Nat) (s : OpSpec) (r : Operand → Value) (w : World) (x : Value) (w' : World) : Prop :=
  match s.eats with
  | none => Below w.heap.size w w' ∧ s.p x ∧ (match s.row with
    | some xs => RowAt w.heap.size w' x xs
    | none => True)
  | some c => match ds[c]? with
    | some t => w.grownBy w' (r (.tmp t)).ownBlock ∧ s.p x ∧ (x.ownBlock = (r (.tmp t)).ownBlock ∨ ∀ k, x.ownBlock = some k → w.heap.size ≤ k) ∧ (match s.row with
      | some xs => RowAt base w' x xs
      | none => True)
    | none => False

def StepS (P : Program) (a0 : Act) (SP : List OpSpec) (ds : List Tmp) (base : Nat) (W0 : World) (i : Nat) (o : Oper) : Prop :=
  ∀ (r : Operand → Value) (w : World) (s : OpSpec), SP[i]? = some s → Below base W0 w → base ≤ w.heap.size → (∀ v, r (.const v) = v) → ((∀ f, r (.func f) = .func (.func f) #[] #[]) ∧ ∀ g, r (.global g) = .pointer (some ⟨g, 0, none⟩)) →
    (∀ t, ds.contains t = false → r (.tmp t) = a0.eval (.tmp t)) → KnownS SP ds base s.eats r w o.after.toList →
    ∀ K : Value → World → Prop, (∀ x w', PostS ds base s r w x w' → K x w') → OpV P o r w K

def AliveS (SP : List OpSpec) (ld : Array Bool) (i : Nat) : Prop := ld.getD i false = true ∧ ∀ (k : Nat) (s : OpSpec), SP[k]? = some s → s.eats = some i → ld.getD k false = false

def InvS (SP : List OpSpec) (ds : List Tmp) (a0 : Act) (base : Nat) (W0 : World) (ld : Array Bool) (a : Act) (w : World) : Prop :=
  Below base W0 w ∧ base ≤ w.heap.size ∧ a.defers = a0.defers ∧ a.tmps.size = a0.tmps.size ∧ (∀ t, ds.contains t = false → a.tmps[t]? = a0.tmps[t]?) ∧
  (∀ (i : Nat) (s : OpSpec) (t : Tmp), SP[i]? = some s → ds[i]? = some t → ld.getD i false = true → s.p (a.eval (.tmp t))) ∧
  (∀ (i : Nat) (s : OpSpec) (t : Tmp) (xs : List Int), SP[i]? = some s → ds[i]? = some t → s.row = some xs → AliveS SP ld i → RowAt base w (a.eval (.tmp t)) xs) ∧
  (∀ (i j : Nat) (s s' : OpSpec) (t t' : Tmp) (xs xs' : List Int) (g : Nat), i ≠ j → SP[i]? = some s → SP[j]? = some s' → ds[i]? = some t → ds[j]? = some t' → s.row = some xs → s'.row = some xs' → AliveS SP ld i → AliveS SP ld j →
    (a.eval (.tmp t)).ownBlock = some g → (a.eval (.tmp t')).ownBlock ≠ some g)

theorem eval_put_same {a : Act} {t : Tmp} (x : Value) (h : t < a.tmps.size) : (a.put (some t) x).eval (.tmp t) = x := by
  have h' : (t : Nat) < a.tmps.size := h
  simp [Act.eval, Act.put, h']
theorem eval_put_ne {a : Act} {t u : Tmp} (x : Value) (h : u ≠ t) : (a.put (some t) x).eval (.tmp u) = a.eval (.tmp u) := by
  simp [Act.eval, Act.put, Array.getElem?_setIfInBounds_ne (fun e => h e.symm)]

theorem knownS_of {SP : List OpSpec} {ds : List Tmp} {base : Nat} {eats : Option Nat} {r : Operand → Value} {w : World} : ∀ (es : List Edge),
    (∀ e ∈ es, ∀ s t, SP[e.on]? = some s → ds[e.on]? = some t → s.p (r (.tmp t)) ∧ ∀ xs, s.row = some xs → (eats == some e.on || uneaten SP e.on) = true → RowAt base w (r (.tmp t)) xs) → KnownS SP ds base eats r w es := by
  intro es
  induction es with
  | nil => intro _; trivial
  | cons e es ih =>
    intro h
    refine ⟨?_, ih fun x hx => h x (List.mem_cons_of_mem _ hx)⟩
    have h1 := h e (List.mem_cons_self ..)
    split
    · rename_i t s ht hs
      have h2 := h1 s t hs ht
      refine ⟨h2.1, ?_⟩
      split
      · rename_i xs hx
        exact h2.2 xs hx
      · trivial
    · trivial

theorem row_kept {base : Nat} {w w' : World} {v : Value} {xs : List Int} {row : Option Nat} (h : RowAt base w v xs) (hg : w.grownBy w' row) (hne : ∀ g, v.ownBlock = some g → some g ≠ row) : RowAt base w' v xs :=
  World.ownsRow.kept h hg (by
    cases hv : v.ownBlock with
    | none => exact .inl rfl
    | some g => exact .inr (hne g hv))

/-- each row is taken over once at most, and whoever takes it over waits for it -/
def eatsOk (SP : List OpSpec) (l : List Oper) : Prop :=
  ∀ (i : Nat) (s : OpSpec) (c : Nat), SP[i]? = some s → s.eats = some c → c ≠ i ∧ (∃ o e, l[i]? = some o ∧ e ∈ o.after.toList ∧ e.on = c) ∧ (∀ (k : Nat) (s' : OpSpec), SP[k]? = some s' → s'.eats = some c → k = i) ∧ ∃ sc xs, SP[c]? = some sc ∧ sc.row = some xs

theorem getD_set_ne' {ld : Array Bool} {i j : Nat} (d : Bool) (h : j ≠ i) : (ld.setIfInBounds i true).getD j d = ld.getD j d := getD_set_ne d (Ne.symm h)

theorem invS_step {P : Program} {Q : Exit → Act → World → Prop} (SP : List OpSpec) (ds : List Tmp) (l : List Oper) (hds : l.map (·.dst) = ds.map some) (hSP : SP.length = l.length) (hnd : ds.Nodup) (a0 : Act) (base : Nat) (W0 : World)
    (hb : ∀ t ∈ ds, t < a0.tmps.size) (hW : base ≤ W0.heap.size) (hE : eatsOk SP l) (hstep : EachOp (StepS P a0 SP ds base W0) 0 l)
    (ld : Array Bool) (a : Act) (w : World) (i : Nat) (o : Oper) (hJ : InvS SP ds a0 base W0 ld a w) (ho : l[i]? = some o) (hun : ld.getD i true = false) (hdep : ∀ e ∈ o.after.toList, ld.getD e.on false = true)
    (K : Act → World → Prop) (hK : ∀ a w, InvS SP ds a0 base W0 (ld.setIfInBounds i true) a w → K a w) : Oper.wp P o a w K Q := by
  obtain ⟨hB, hbs, hdf, hsz, hoff, hps, hrs, hpr⟩ := hJ
  have hi : i < l.length := (List.getElem?_eq_some_iff.1 ho).1
  have hlen : ds.length = l.length := by
    have := congrArg List.length hds
    simpa using this.symm
  obtain ⟨s, hs⟩ : ∃ s, SP[i]? = some s := ⟨SP[i], by rw [List.getElem?_eq_getElem]⟩
  obtain ⟨t, ht⟩ : ∃ t, ds[i]? = some t := ⟨ds[i], by rw [List.getElem?_eq_getElem]⟩
  have hdst : o.dst = some t := by
    have h1 : (l.map (·.dst))[i]? = some o.dst := by simp [ho]
    rw [hds] at h1
    simpa [ht] using h1.symm
  have hta : t < a.tmps.size := by rw [hsz]; exact hb t (List.mem_of_getElem? ht)
  have hne : ∀ (j : Nat) (u : Tmp), j ≠ i → ds[j]? = some u → u ≠ t := by
    intro j u hji hu e
    subst e
    have hj : j < ds.length := (List.getElem?_eq_some_iff.1 hu).1
    exact hji ((List.getElem?_inj hj hnd).1 (hu.trans ht.symm))
  have hilf : ld.getD i false = false := by
    rcases Nat.lt_or_ge i ld.size with h | h
    · simp [h] at hun ⊢; exact hun
    · simp [Array.getElem?_eq_none h]
  have hisz : i < ld.size := by
    rcases Nat.lt_or_ge i ld.size with h | h
    · exact h
    · simp [Array.getElem?_eq_none h] at hun
  have hon : (ld.setIfInBounds i true).getD i false = true := by simp [hisz]
  have alive_old : ∀ j, j ≠ i → AliveS SP (ld.setIfInBounds i true) j → AliveS SP ld j := by
    intro j hji ⟨h1, h2⟩
    refine ⟨by rw [← getD_set_ne' false hji]; exact h1, fun k sk hk he => ?_⟩
    by_cases hki : k = i
    · rw [hki]; exact hilf
    · have := h2 k sk hk he
      rwa [getD_set_ne' false hki] at this
  have hst := hstep.at ho
  rw [Nat.zero_add] at hst
  unfold StepS at hst
  have hkn : KnownS SP ds base s.eats a.eval w o.after.toList := knownS_of _ fun e he s' t' hs' ht' => by
    have h1 := hdep e he
    refine ⟨hps e.on s' t' hs' ht' h1, fun xs hx hv => hrs e.on s' t' xs hs' ht' hx ⟨h1, fun k sk hk hek => ?_⟩⟩
    simp only [Bool.or_eq_true, beq_iff_eq] at hv
    rcases hv with hv | hv
    · obtain ⟨_, _, hu, _⟩ := hE i s e.on hs hv
      have := hu k sk hk hek
      rw [this]
      exact hilf
    · have := List.all_eq_true.1 hv sk (List.mem_of_getElem? hk)
      simp [hek] at this
  refine OpV.wp (hst a.eval w s hs hB hbs (fun _ => rfl) ⟨fun _ => rfl, fun _ => rfl⟩ (fun u hu => ?_) hkn _ fun x w' hP => hK _ _ ?_)
  · simp only [Act.eval]
    simp [hoff u hu]
  rw [hdst]
  -- the new state
  have hpx : s.p x := by
    unfold PostS at hP
    split at hP
    · exact hP.2.1
    · split at hP
      · exact hP.2.1
      · exact hP.elim
  have common : ∀ (hB' : Below base W0 w') (hbs' : base ≤ w'.heap.size)
      (hold : ∀ (j : Nat) (sj : OpSpec) (tj : Tmp) (xs : List Int), j ≠ i → SP[j]? = some sj → ds[j]? = some tj → sj.row = some xs → AliveS SP (ld.setIfInBounds i true) j → RowAt base w' (a.eval (.tmp tj)) xs)
      (hnew : ∀ xs, s.row = some xs → RowAt base w' x xs)
      (hap : ∀ (j : Nat) (sj : OpSpec) (tj : Tmp) (xs xs' : List Int) (g : Nat), j ≠ i → SP[j]? = some sj → ds[j]? = some tj → sj.row = some xs → s.row = some xs' → AliveS SP (ld.setIfInBounds i true) j → (a.eval (.tmp tj)).ownBlock = some g → x.ownBlock ≠ some g),
      InvS SP ds a0 base W0 (ld.setIfInBounds i true) (a.put (some t) x) w' := by
    intro hB' hbs' hold hnew hap
    refine ⟨hB', hbs', by rw [put_defers']; exact hdf, by rw [put_size]; exact hsz, fun u hu => ?_, fun j sj tj hsj htj hl => ?_, fun j sj tj xs hsj htj hx hal => ?_, fun j j' sj sj' tj tj' xs xs' g hjj hsj hsj' htj htj' hx hx' hal hal' hg => ?_⟩
    · rw [put_other _ _ _ _ (fun e => by
        injection e with e
        subst e
        have := List.mem_of_getElem? ht
        simp [this] at hu)]
      exact hoff u hu
    · by_cases hji : j = i
      · subst hji
        rw [hs] at hsj; injection hsj with hsj; subst hsj
        rw [ht] at htj; injection htj with htj; subst htj
        rw [eval_put_same x hta]
        exact hpx
      · rw [eval_put_ne x (hne j tj hji htj)]
        exact hps j sj tj hsj htj (by rw [← getD_set_ne' false hji]; exact hl)
    · by_cases hji : j = i
      · subst hji
        rw [hs] at hsj; injection hsj with hsj; subst hsj
        rw [ht] at htj; injection htj with htj; subst htj
        rw [eval_put_same x hta]
        exact hnew xs hx
      · rw [eval_put_ne x (hne j tj hji htj)]
        exact hold j sj tj xs hji hsj htj hx hal
    · by_cases hji : j = i
      · subst hji
        have hj'i : j' ≠ j := fun e => hjj e.symm
        rw [hs] at hsj; injection hsj with hsj; subst hsj
        rw [ht] at htj; injection htj with htj; subst htj
        rw [eval_put_same x hta] at hg
        rw [eval_put_ne x (hne j' tj' hj'i htj')]
        intro hg'
        exact hap j' sj' tj' xs' xs g hj'i hsj' htj' hx' hx hal' hg' hg
      · rw [eval_put_ne x (hne j tj hji htj)] at hg
        by_cases hj'i : j' = i
        · subst hj'i
          rw [hs] at hsj'; injection hsj' with hsj'; subst hsj'
          rw [ht] at htj'; injection htj' with htj'; subst htj'
          rw [eval_put_same x hta]
          exact hap j sj tj xs xs' g hji hsj htj hx hx' hal hg
        · rw [eval_put_ne x (hne j' tj' hj'i htj')]
          exact hpr j j' sj sj' tj tj' xs xs' g hjj hsj hsj' htj htj' hx hx' (alive_old j hji hal) (alive_old j' hj'i hal') hg
  unfold PostS at hP
  cases he : s.eats with
  | none =>
    rw [he] at hP
    simp only at hP
    obtain ⟨hx, _, hrow⟩ := hP
    refine common (hB.trans (hx.mono hbs)) (Nat.le_trans hbs hx.size) (fun j sj tj xs hji hsj htj hxr hal => own_ext (hrs j sj tj xs hsj htj hxr (alive_old j hji hal)) hx) (fun xs hxs => ?_) (fun j sj tj xs xs' g hji hsj htj hxr hxs hal hg hg' => ?_)
    · rw [hxs] at hrow
      exact own_base hrow hbs
    · rw [hxs] at hrow
      have h1 := (RowAt.lt hrow hg').1
      have h2 := ((hrs j sj tj xs hsj htj hxr (alive_old j hji hal)).lt hg).2
      omega
  | some c =>
    rw [he] at hP
    simp only at hP
    obtain ⟨hci, ⟨o', e', ho', hem, hec⟩, huniq, sc, xsc, hsc, hxc⟩ := hE i s c hs he
    rw [ho] at ho'; injection ho' with ho'; subst ho'
    cases htc : ds[c]? with
    | none => rw [htc] at hP; exact hP.elim
    | some tc =>
      rw [htc] at hP
      simp only at hP
      obtain ⟨hg, _, hblk, hrow⟩ := hP
      have hcal : AliveS SP ld c := ⟨by rw [← hec]; exact hdep e' hem, fun k sk hk hek => by rw [huniq k sk hk hek]; exact hilf⟩
      have hrc := hrs c sc tc xsc hsc htc hxc hcal
      have hnc : ∀ j, AliveS SP (ld.setIfInBounds i true) j → j ≠ c := by
        intro j hal e
        subst e
        have := hal.2 i s hs he
        rw [hon] at this
        cases this
      have hrowlt : ∀ k, (a.eval (.tmp tc)).ownBlock = some k → base ≤ k := fun k hk => (hrc.lt hk).1
      refine common (hB.grown hg hbs hrowlt) (Nat.le_trans hbs hg.size) (fun j sj tj xs hji hsj htj hxr hal => row_kept (hrs j sj tj xs hsj htj hxr (alive_old j hji hal)) hg fun g hgj e => ?_) (fun xs hxs => ?_) (fun j sj tj xs xs' g hji hsj htj hxr hxs hal hgj hg' => ?_)
      · exact hpr j c sj sc tj tc xs xsc g (hnc j hal) hsj hsc htj htc hxr hxc (alive_old j hji hal) hcal hgj e.symm
      · rw [hxs] at hrow
        exact hrow
      · rcases hblk with hb1 | hb1
        · rw [hb1] at hg'
          exact hpr j c sj sc tj tc xs xsc g (hnc j hal) hsj hsc htj htc hxr hxc (alive_old j hji hal) hcal hgj hg'
        · have h1 := hb1 g hg'
          have h2 := ((hrs j sj tj xs hsj htj hxr (alive_old j hji hal)).lt hgj).2
          omega

/-- what is known of all operations behind the head -/
def AllS (SP0 : List OpSpec) (base : Nat) (w : World) (x : Nat → Value) : Nat → List OpSpec → Prop
  | _, [] => True
  | k, s :: l => (s.p (x k) ∧ match s.row with
      | some xs => uneaten SP0 k = true → RowAt base w (x k) xs
      | none => True) ∧ AllS SP0 base w x (k + 1) l
theorem allS_of {SP0 : List OpSpec} {base : Nat} {w : World} {x : Nat → Value} : ∀ (l : List OpSpec) (k : Nat), (∀ (i : Nat) (s : OpSpec), l[i]? = some s → s.p (x (k + i)) ∧ ∀ xs, s.row = some xs → uneaten SP0 (k + i) = true → RowAt base w (x (k + i)) xs) → AllS SP0 base w x k l := by
  intro l
  induction l with
  | nil => intro k _; trivial
  | cons s l ih =>
    intro k h
    have h0 := h 0 s (by simp)
    refine ⟨⟨h0.1, ?_⟩, ih (k + 1) fun i s' hs => ?_⟩
    · split
      · rename_i xs hx
        exact h0.2 xs hx
      · trivial
    · have := h (i + 1) s' (by simpa using hs)
      rwa [show k + (i + 1) = k + 1 + i from by omega] at this

/-- the condition on who takes over which row, as a Bool -/
def eatsB (SP : List OpSpec) (l : List Oper) : Bool :=
  (List.range SP.length).all fun i => match (SP[i]?).bind (·.eats) with
    | none => true
    | some c => c != i && ((l[i]?).map fun o => o.after.toList.any fun e => e.on == c).getD false &&
      (List.range SP.length).all (fun k => (SP[k]?).bind (·.eats) != some c || k == i) && ((SP[c]?).bind (·.row)).isSome
theorem eatsOk_of {SP : List OpSpec} {l : List Oper} (h : eatsB SP l = true) : eatsOk SP l := by
  intro i s c hs he
  have hi : i < SP.length := (List.getElem?_eq_some_iff.1 hs).1
  have h1 := List.all_eq_true.1 h i (List.mem_range.2 hi)
  rw [hs] at h1
  simp only [Option.bind_some, he, Bool.and_eq_true, bne_iff_ne] at h1
  obtain ⟨⟨⟨h2, h3⟩, h4⟩, h5⟩ := h1
  refine ⟨h2, ?_, fun k s' hk hek => ?_, ?_⟩
  · cases ho : l[i]? with
    | none => rw [ho] at h3; simp at h3
    | some o =>
      rw [ho] at h3
      simp only [Option.map_some, Option.getD_some] at h3
      obtain ⟨e, hem, hec⟩ := List.any_eq_true.1 h3
      exact ⟨o, e, rfl, hem, by simpa using hec⟩
  · have hk2 : k < SP.length := (List.getElem?_eq_some_iff.1 hk).1
    have h6 := List.all_eq_true.1 h4 k (List.mem_range.2 hk2)
    rw [hk] at h6
    simp [hek] at h6
    exact h6
  · cases hc : SP[c]? with
    | none => rw [hc] at h5; simp at h5
    | some sc =>
      rw [hc] at h5
      simp only [Option.bind_some] at h5
      cases hr : sc.row with
      | none => rw [hr] at h5; simp at h5
      | some xs => exact ⟨sc, xs, rfl, hr⟩

/-- **a region that draws its order and makes rows of bytes: an operation at a time; its tail in the one order that it has** -/
theorem wp_region_rows {P : Program} {Q : Exit → Act → World → Prop} {id : Nat} {l : List Oper} {a0 : Act} {w0 : World} (hm : P.follows .mixedOrders = true) (k : Nat) (ds : List Tmp) (hds : (l.take k).map (·.dst) = ds.map some) (hk : (l.take k).length = k)
    (SP : List OpSpec) (hSP : SP.length = k) (n : Nat)
    (hd : edgesDown 0 l = true) (hn : ds.Nodup) (hng : (l.take k).all (fun o => o.guard.isNone && o.after.toList.all fun e => Region.binds .any e) = true)
    (htw : tailReach k (l.take k) (l.drop k) = true) (hseq : Region.seqB .any l.toArray (l.drop k).length k (Array.replicate k true ++ Array.replicate (l.drop k).length false) = true)
    (hsz : a0.tmps.size = n) (hb : ds.all (fun t => decide (t < n)) = true) (hE : eatsB SP (l.take k) = true)
    (base : Nat) (hW : base ≤ w0.heap.size)
    (hend : ∀ (x : Nat → Value) w, Below base w0 w → base ≤ w.heap.size → AllS SP base w x 0 SP → wpList P l.toArray Q (l.drop k) (fillL (ds.map some) x 0 a0) w)
    (hstep : EachOp (StepS P a0 SP ds base w0) 0 (l.take k)) :
    (Code.region id l.toArray true).wp P Q a0 w0 := by
  obtain ⟨h, tl, hl, hh⟩ : ∃ h tl, l = h ++ tl ∧ h.length = k := ⟨l.take k, l.drop k, (List.take_append_drop k l).symm, hk⟩
  subst hl
  subst hh
  simp only [List.take_left, List.drop_left] at *
  have hbt : ∀ t ∈ ds, t < a0.tmps.size := fun t ht => by rw [hsz]; exact of_decide_eq_true (List.all_eq_true.1 hb t ht)
  have hE' := eatsOk_of hE
  have hlen : ds.length = h.length := by
    have := congrArg List.length hds
    simpa using this.symm
  have hrep : ∀ i, (Array.replicate (h.length + tl.length) false).getD i false = false := fun i => by
    simp only [Array.getD_eq_getD_getElem?]
    rw [Array.getElem?_replicate]
    split <;> rfl
  refine wp_region_any hm ?_
  have hB0 : Below base w0 w0.drew := (Below.refl _ _).drew
  have hfin := wpAny_J (P := P) (Q := Q) h tl (fun ld a w => InvS SP ds a0 base w0 ld a w) hd hng htw hseq
    (fun ld a w i o hJ ho hun hdep _ K hK => invS_step SP ds h hds hSP hn a0 base w0 hbt hW hE' hstep ld a w i o hJ ho hun hdep K hK)
    (fun a w hJ => ?_) h.length (Array.replicate (h.length + tl.length) false) a0 w0.drew ?_ (by simp) (fun i _ => hrep i) (fun i o _ hi => by rw [hrep i] at hi; cases hi)
    ⟨hB0, hW, rfl, rfl, fun _ _ => rfl, (fun i s t _ _ hi => by rw [hrep i] at hi; cases hi), (fun i s t xs _ _ _ hi => by have := hi.1; rw [hrep i] at this; cases this), (fun i j s s' t t' xs xs' g _ _ _ _ _ _ _ hi => by have := hi.1; rw [hrep i] at this; cases this)⟩
  · rw [show (h ++ tl).toArray.size = h.length + tl.length from by simp]
    exact hfin
  · obtain ⟨hB, hbs, hdf, hsz', hoff, hps, hrs, hpr⟩ := hJ
    have hon : ∀ i, i < h.length → (Array.replicate h.length true ++ Array.replicate tl.length false).getD i false = true := by
      intro i hi
      have h2 : i < h.length + tl.length := by omega
      simp [h2, Array.getElem_append_left, hi]
    have key : a = fillL (ds.map some) (fun i => match ds[i]? with | some t => a.tmps.getD t undef | none => undef) 0 a0 := by
      have hsp := fillL_spec a (ds.map some) (fun i => match ds[i]? with | some t => a.tmps.getD t undef | none => undef) 0 a0 hsz'.symm hdf.symm (fun i t hi => by
        simp only [List.getElem?_map] at hi
        cases hdi : ds[i]? with
        | none => simp [hdi] at hi
        | some u => simp [hdi] at hi; subst hi; simp [hdi])
      refine act_ext hsp.2.1.symm fun t => ?_
      rw [hsp.2.2 t]
      split
      · rfl
      · rename_i hm
        exact hoff t (by simpa using hm)
    rw [key]
    refine hend _ w hB hbs (allS_of SP 0 fun i s hs => ?_)
    have hi : i < h.length := by
      have := (List.getElem?_eq_some_iff.1 hs).1
      omega
    obtain ⟨t, ht⟩ : ∃ t, ds[i]? = some t := ⟨ds[i], by rw [List.getElem?_eq_getElem]⟩
    simp only [Nat.zero_add, ht]
    refine ⟨hps i s t hs ht (hon i hi), fun xs hx hu => hrs i s t xs hs ht hx ⟨hon i hi, fun k sk hk hek => ?_⟩⟩
    have := List.all_eq_true.1 hu sk (List.mem_of_getElem? hk)
    simp [hek] at this
  · have e : (Array.replicate (h.length + tl.length) false).toList.take h.length = List.replicate h.length false := by
      simp [List.take_replicate]
    rw [e]
    simp [List.count_replicate]
end Go.Proofs.YtopkbpigaengeaaDoor
