/-
  A region that draws its order, an operation at a time: with operations under a guard that is known, with a tail that waits by several edges, and with fresh pointers that differ from one another.
-/
import Derived.Test.YtopkbpigaengeaaDoorSep
namespace Go.Proofs.YtopkbpigaengeaaDoor
open Go.RowKit

section
variable {P : Program} {Q : Exit → Act → World → Prop}

theorem wpAny_JG (l tl : List Oper) (J : Array Bool → Act → World → Prop)
    (hd : edgesDown 0 (l ++ tl) = true) (hng : l.all (fun o => o.after.toList.all fun e => Region.binds .any e) = true)
    (htw : tailReach l.length l tl = true) (hseq : Region.seqB .any (l ++ tl).toArray tl.length l.length (Array.replicate l.length true ++ Array.replicate tl.length false) = true)
    (hstep : ∀ ld a w i o, J ld a w → l[i]? = some o → ld.getD i true = false → (∀ e ∈ o.after.toList, ld.getD e.on false = true) → ∀ K : Act → World → Prop, (∀ a w, J (ld.setIfInBounds i true) a w → K a w) → if Region.wanted o (yielded (l ++ tl).toArray a.tmps) = true then Oper.wp P o a w K Q else K (a.put o.dst undef) w)
    (hend : ∀ a w, J (Array.replicate l.length true ++ Array.replicate tl.length false) a w → wpList P (l ++ tl).toArray Q tl a w) :
    ∀ m ld a w, (ld.toList.take l.length).count false = m → ld.size = l.length + tl.length → (∀ i, l.length ≤ i → ld.getD i false = false) → Closed (l ++ tl) ld → J ld a w → wpAny P .any (l ++ tl).toArray Q (m + tl.length) ld a w := by
  intro m
  induction m with
  | zero =>
    intro ld a w hc hl htl hcl hJ
    have hall : ∀ i, i < l.length → ld.getD i false = true := by
      intro i hi
      rw [List.count_eq_zero] at hc
      have h2 : i < ld.size := by omega
      have hm : ld[i] ∈ ld.toList.take l.length := List.mem_take_iff_getElem.2 ⟨i, by simp; omega, by simp⟩
      cases hv : ld[i] with
      | true => simp [h2, hv]
      | false => rw [hv] at hm; exact absurd hm hc
    have hld : ld = Array.replicate l.length true ++ Array.replicate tl.length false := by
      apply Array.ext
      · simp [hl]
      · intro i h1 h2
        rcases Nat.lt_or_ge i l.length with hi | hi
        · have := hall i hi
          simp [h1] at this
          rw [this, Array.getElem_append_left (by simpa using hi)]
          simp
        · have := htl i hi
          simp [h1] at this
          rw [this, Array.getElem_append_right (by simpa using hi)]
          simp
    rw [Nat.zero_add, hld]
    rw [hld] at hJ
    exact wpAny_of_seq tl l.length _ a w (fun j => by simp [List.getElem?_append_right (Nat.le_add_right l.length j)]) hseq (hend a w hJ)
  | succ m ih =>
    intro ld a w hc hl htl hcl hJ
    obtain ⟨j0, hj0, hjf⟩ : ∃ j, j < l.length ∧ ld.getD j true = false := by
      have hpos : 0 < (ld.toList.take l.length).count false := by omega
      rw [List.count_pos_iff] at hpos
      obtain ⟨j, hj, e⟩ := List.mem_take_iff_getElem.1 hpos
      have h2 : j < ld.size := by simp at hj; omega
      refine ⟨j, by omega, ?_⟩
      simp at e
      simp [h2, e]
    rw [Nat.succ_add]
    refine ⟨fun h => ?_, fun i hi => ?_⟩
    · have := ready_full (ops := (l ++ tl).toArray) (by simpa using hd) h j0 (by simp; omega)
      rw [this] at hjf
      cases hjf
    obtain ⟨hun, o, ho, hall⟩ := mem_ready.1 hi
    have hoL : (l ++ tl)[i]? = some o := by simpa using ho
    have hilt0 : i < (l ++ tl).length := (List.getElem?_eq_some_iff.1 hoL).1
    have hilt : i < l.length := by
      rcases Nat.lt_or_ge i l.length with h | h
      · exact h
      · exfalso
        have h1 := List.all_eq_true.1 htw (i - l.length) (List.mem_range.2 (by simp at hilt0; omega))
        have h2 := List.all_eq_true.1 h1 j0 (List.mem_range.2 hj0)
        rw [show l.length + (i - l.length) = i from by omega] at h2
        have h3 := reach_listed hcl _ _ _ h2 ⟨o, hoL, fun e he hb => hall e (by simpa using he) hb⟩
        have h4 : j0 < ld.size := by omega
        simp [h4] at h3 hjf
        rw [h3] at hjf
        cases hjf
    have hol : l[i]? = some o := by rwa [List.getElem?_append_left hilt] at hoL
    have hgd := List.all_eq_true.1 hng o (List.mem_of_getElem? hol)
    have hdep : ∀ e ∈ o.after.toList, ld.getD e.on false = true := fun e he => hall e (by simpa using he) (List.all_eq_true.1 hgd e he)
    refine wpOp_step ho fun K' hK' => ?_
    refine hstep ld a w i o hJ hol hun hdep K' fun a' w' hJ' => hK' _ _ (ih _ _ _ ?_ (by simpa using hl) (fun j hj => ?_) (fun j oj hoj hlj e he hbe => ?_) hJ')
    · have h2 : i < ld.size := by omega
      have h3 : ld[i] = false := by simpa [h2] using hun
      rw [Array.toList_setIfInBounds]
      have := count_set ld.toList i l.length hilt (by simpa using h2) (by simpa using h3)
      omega
    · rw [getD_set_ne false (by omega)]
      exact htl j hj
    · by_cases hji : j = i
      · subst hji
        rw [hoL] at hoj
        injection hoj with hoj
        subst hoj
        exact getD_set_true (hdep e he)
      · have h1 : ld.getD j false = true := by
          have : (ld.setIfInBounds i true).getD j false = ld.getD j false := getD_set_ne false (Ne.symm hji)
          rw [← this]; exact hlj
        exact getD_set_true (hcl j oj hoj h1 e he hbe)

/-- a pointer to a block that is new -/
def FreshP (w : World) (x : Value) : Prop := ∃ k o : Nat, x = .pointer (some ⟨k, o, none⟩) ∧ w.heap.size ≤ k
def UsedP (w : World) (x : Value) : Prop := ∃ k o : Nat, x = .pointer (some ⟨k, o, none⟩) ∧ k < w.heap.size

/-- an operation is carried out, by what is known of the tests -/
def runsG (G : List (Option Bool)) (o : Oper) : Bool := match o.guard with
  | none => true
  | some (j, b) => (G[j]?).getD none == some b
/-- each guard is a test that is known, and that the operation waits for -/
def guardsOk (G : List (Option Bool)) (l : List Oper) : Bool := l.all fun o => match o.guard with
  | none => true
  | some (j, _) => ((G[j]?).getD none).isSome && decide (j < l.length) && ((l[j]?).bind (·.dst)).isSome && o.after.toList.any (fun e => e.on == j)

def StepG (P : Program) (a0 : Act) (A : Nat → Value → World → Prop) (R : World → Prop) (S : World → World → Prop) (D : List Nat) (G : List (Option Bool)) (ds : List (Option Tmp)) (i : Nat) (o : Oper) : Prop :=
  if runsG G o = true then
  ∀ (r : Operand → Value) (w : World), R w → (∀ v, r (.const v) = v) → ((∀ f, r (.func f) = .func (.func f) #[] #[]) ∧ ∀ g, r (.global g) = .pointer (some ⟨g, 0, none⟩)) →
    (∀ t, ds.contains (some t) = false → r (.tmp t) = a0.eval (.tmp t)) → KnownL A ds r w o.after.toList →
    ∀ K : Value → World → Prop, (∀ x w', R w' → S w w' → A i x w' → (D.contains i = true → FreshP w x) → K x w') → OpV P o r w K
  else (∀ w, R w → A i undef w) ∧ D.contains i = false

def InvG (l : List Oper) (a0 : Act) (A : Nat → Value → World → Prop) (R : World → Prop) (D : List Nat) (ld : Array Bool) (a : Act) (w : World) : Prop :=
  R w ∧ a.defers = a0.defers ∧ a.tmps.size = a0.tmps.size ∧ (∀ t, (∀ i, slotOf l.toArray i ≠ some t) → a.tmps[t]? = a0.tmps[t]?) ∧
  (∀ i, i < l.length → ld.getD i false = true → A i (leftBy l.toArray a i) w) ∧
  (∀ i j, i ≠ j → i < l.length → j < l.length → D.contains i = true → D.contains j = true → ld.getD i false = true → ld.getD j false = true → leftBy l.toArray a i ≠ leftBy l.toArray a j)

theorem wp_region_gen {id : Nat} {l : List Oper} {a0 : Act} {w0 : World} (hm : P.follows .mixedOrders = true) (k : Nat) (ds : List (Option Tmp)) (hds : (l.take k).map (·.dst) = ds) (hk : (l.take k).length = k)
    (A : Nat → Value → World → Prop) (R : World → Prop) (S : World → World → Prop) (D : List Nat) (G : List (Option Bool))
    (hd : edgesDown 0 l = true) (hn : nodupL ds = true) (hng : (l.take k).all (fun o => o.after.toList.all fun e => Region.binds .any e) = true)
    (htw : tailReach k (l.take k) (l.drop k) = true) (hseq : Region.seqB .any l.toArray (l.drop k).length k (Array.replicate k true ++ Array.replicate (l.drop k).length false) = true)
    (hgo : guardsOk G (l.take k) = true)
    (n : Nat) (hsz : a0.tmps.size = n) (hb : ds.all (fun d => match d with | some t => decide (t < n) | none => true) = true)
    (hDs : D.all (fun i => ((ds[i]?).bind fun x => x).isSome) = true)
    (hGA : ∀ j b x w, (G[j]?).getD none = some b → (∃ t, ds[j]? = some (some t)) → A j x w → x = .bool b)
    (hDA : ∀ i x w, D.contains i = true → A i x w → UsedP w x)
    (hNone : ∀ i x w, ds[i]? = some none → A i x w → A i undef w)
    (hA : ∀ i x w w', S w w' → A i x w → A i x w')
    (hR : R w0.drew)
    (hend : ∀ (x : Nat → Value) w, R w → (∀ i, i < k → A i (x i) w) → (∀ i j, i ≠ j → i < k → j < k → D.contains i = true → D.contains j = true → x i ≠ x j) → wpList P l.toArray Q (l.drop k) (fillL ds x 0 a0) w)
    (hstep : EachOp (StepG P a0 A R S D G ds) 0 (l.take k)) :
    (Code.region id l.toArray true).wp P Q a0 w0 := by
  obtain ⟨h, tl, hl, hh⟩ : ∃ h tl, l = h ++ tl ∧ h.length = k := ⟨l.take k, l.drop k, (List.take_append_drop k l).symm, hk⟩
  subst hl
  subst hh
  simp only [List.take_left, List.drop_left] at *
  subst hds
  have hs1 : ∀ i t, slotOf h.toArray i = some t → some t ∈ h.map (·.dst) := by
    intro i t hi
    unfold slotOf at hi
    cases ho : h[i]? with
    | none => simp [ho] at hi
    | some o =>
      simp [ho] at hi
      exact List.mem_map.2 ⟨o, List.mem_of_getElem? ho, hi⟩
  have hbt : ∀ i t, slotOf h.toArray i = some t → t < a0.tmps.size := by
    intro i t hi
    have h1 := List.all_eq_true.1 hb _ (hs1 i t hi)
    rw [hsz]
    exact of_decide_eq_true h1
  have hrep : ∀ i, (Array.replicate (h.length + tl.length) false).getD i false = false := fun i => by
    simp only [Array.getD_eq_getD_getElem?]
    rw [Array.getElem?_replicate]
    split <;> rfl
  refine wp_region_any hm ?_
  have hfin := wpAny_JG (P := P) (Q := Q) h tl (fun ld a w => InvG h a0 A R D ld a w) hd hng htw hseq ?_ ?_ h.length (Array.replicate (h.length + tl.length) false) a0 w0.drew ?_ (by simp) (fun i _ => hrep i) (fun i o _ hi => by rw [hrep i] at hi; cases hi)
    ⟨hR, rfl, rfl, fun _ _ => rfl, (fun i _ hi => by rw [hrep i] at hi; cases hi), (fun i j _ _ _ _ _ hi => by rw [hrep i] at hi; cases hi)⟩
  · rw [show (h ++ tl).toArray.size = h.length + tl.length from by simp]
    exact hfin
  · -- a step
    intro ld a w i o hJ ho hun hdep K hK
    obtain ⟨hRw, hdf, hsz', hoff, hAs, hDd⟩ := hJ
    have hi : i < h.length := (List.getElem?_eq_some_iff.1 ho).1
    have hisz : i < ld.size := by
      rcases Nat.lt_or_ge i ld.size with h | h
      · exact h
      · simp [Array.getElem?_eq_none h] at hun
    have hilf : ld.getD i false = false := by
      simp [hisz] at hun ⊢
      exact hun
    have hst := hstep.at ho
    rw [Nat.zero_add] at hst
    have hkn : Known A h.toArray a.eval w o.after.toList := known_of _ fun e he => by
      have h2 := edgesDown_at (h ++ tl) 0 i o hd (by rw [List.getElem?_append_left hi]; exact ho) e he
      exact hAs e.on (by omega) (hdep e he)
    -- the new state
    have common : ∀ x w', R w' → S w w' ∨ w' = w → A i x w' → (D.contains i = true → FreshP w x) → InvG h a0 A R D (ld.setIfInBounds i true) (a.put o.dst x) w' := by
      intro x w' hR' hS' hAx hfr
      have hleft : ∀ j, j ≠ i → leftBy h.toArray (a.put o.dst x) j = leftBy h.toArray a j := by
        intro j hji
        unfold leftBy
        cases hsj : slotOf h.toArray j with
        | none => rfl
        | some t =>
          have hne : o.dst ≠ some t := fun e => by
            have hj' : (h.map (·.dst))[j]? = some (some t) := by
              unfold slotOf at hsj
              cases hoj : h[j]? with
              | none => simp [hoj] at hsj
              | some q => simp [hoj] at hsj; simp [hoj, hsj]
            have hi' : (h.map (·.dst))[i]? = some (some t) := by simp [ho, e]
            exact hji (nodupL_at _ _ _ _ hn hj' hi')
          have := put_other a o.dst x t hne
          simp [this]
      have hlo : ∀ j, j ≠ i → (ld.setIfInBounds i true).getD j false = true → ld.getD j false = true := by
        intro j hji hl
        have : (ld.setIfInBounds i true).getD j false = ld.getD j false := getD_set_ne false (Ne.symm hji)
        rw [← this]; exact hl
      have hself : ∀ t, o.dst = some t → leftBy h.toArray (a.put o.dst x) i = x := by
        intro t ht
        have hso : slotOf h.toArray i = o.dst := by simp [slotOf, ho]
        unfold leftBy
        rw [hso, ht]
        have hlt := hbt i t (by rw [hso, ht])
        have : t < a.tmps.size := by rw [hsz']; exact hlt
        simp [Act.put, this]
      refine ⟨hR', by rw [put_defers']; exact hdf, by rw [put_size]; exact hsz', fun t ht => ?_, fun j hj hlj => ?_, fun j j' hjj hj hj' hDj hDj' hlj hlj' => ?_⟩
      · rw [put_other _ _ _ _ (fun e => ht i (by simp [slotOf, ho, e]))]
        exact hoff t ht
      · by_cases hji : j = i
        · subst hji
          cases hdst : o.dst with
          | none =>
            have hso : slotOf h.toArray j = none := by simp [slotOf, ho, hdst]
            unfold leftBy
            rw [hso]
            exact hNone j x w' (by simp [ho, hdst]) hAx
          | some t =>
            have := hself t hdst
            rw [hdst] at this
            rw [this]
            exact hAx
        · rw [hleft j hji]
          rcases hS' with hS' | rfl
          · exact hA j _ w w' hS' (hAs j hj (hlo j hji hlj))
          · exact hAs j hj (hlo j hji hlj)
      · have hDsl : ∀ j, D.contains j = true → j < h.length → ∃ t, slotOf h.toArray j = some t := by
          intro j hDj hj
          have h1 := List.all_eq_true.1 hDs j (by simpa using hDj)
          simp only [List.getElem?_map] at h1
          unfold slotOf
          cases hoj : h[j]? with
          | none => simp [hoj] at h1
          | some q =>
            simp [hoj] at h1 ⊢
            cases hq : q.dst with
            | none => simp [hq] at h1
            | some t => exact ⟨t, rfl⟩
        have hnew : ∀ j, j ≠ i → j < h.length → D.contains i = true → D.contains j = true → ld.getD j false = true → leftBy h.toArray a j ≠ x := by
          intro j hji hj hDi hDj hl e
          obtain ⟨k1, o1, e1, h1⟩ := hDA j _ w hDj (hAs j hj hl)
          obtain ⟨k2, o2, e2, h2⟩ := hfr hDi
          rw [e, e2] at e1
          injection e1 with e1
          injection e1 with e1
          injection e1 with e1 e3
          omega
        by_cases hji : j = i
        · subst hji
          obtain ⟨t, ht⟩ := hDsl j hDj hj
          have hd' : o.dst = some t := by simpa [slotOf, ho] using ht
          rw [hself t hd', hleft j' (Ne.symm hjj)]
          exact fun e => hnew j' (Ne.symm hjj) hj' hDj hDj' (hlo j' (Ne.symm hjj) hlj') e.symm
        · rw [hleft j hji]
          by_cases hj'i : j' = i
          · subst hj'i
            obtain ⟨t, ht⟩ := hDsl j' hDj' hj'
            have hd' : o.dst = some t := by simpa [slotOf, ho] using ht
            rw [hself t hd']
            exact hnew j hji hj hDj' hDj (hlo j hji hlj)
          · rw [hleft j' hj'i]
            exact hDd j j' hjj hj hj' hDj hDj' (hlo j hji hlj) (hlo j' hj'i hlj')
    -- is it wanted?
    have hwant : Region.wanted o (yielded (h ++ tl).toArray a.tmps) = runsG G o := by
      have hg := List.all_eq_true.1 hgo o (List.mem_of_getElem? ho)
      unfold Region.wanted runsG
      cases hgd : o.guard with
      | none => rfl
      | some jb =>
        obtain ⟨j, b⟩ := jb
        rw [hgd] at hg
        simp only [Bool.and_eq_true] at hg
        obtain ⟨⟨⟨g1, g2⟩, g3⟩, g4⟩ := hg
        have hj : j < h.length := of_decide_eq_true g2
        obtain ⟨e, he, hej⟩ := List.any_eq_true.1 g4
        have hej' : e.on = j := by simpa using hej
        have hAj := hAs j hj (by rw [← hej']; exact hdep e he)
        cases hG : (G[j]?).getD none with
        | none => rw [hG] at g1; cases g1
        | some b' =>
          obtain ⟨oj, hoj⟩ : ∃ oj, h[j]? = some oj := ⟨h[j], by rw [List.getElem?_eq_getElem]⟩
          obtain ⟨t, ht⟩ : ∃ t, oj.dst = some t := by
            rw [hoj] at g3
            simp only [Option.bind_some] at g3
            cases hq : oj.dst with
            | none => rw [hq] at g3; cases g3
            | some t => exact ⟨t, rfl⟩
          have hx := hGA j b' _ w hG ⟨t, by simp [hoj, ht]⟩ hAj
          have hso : slotOf h.toArray j = some t := by simp [slotOf, hoj, ht]
          unfold leftBy at hx
          rw [hso] at hx
          simp only at hx
          have hta : t < a.tmps.size := by rw [hsz']; exact hbt j t hso
          have hoj' : (h ++ tl)[j]? = some oj := by rw [List.getElem?_append_left hj]; exact hoj
          have hy : yielded (h ++ tl).toArray a.tmps j = some b' := by
            unfold yielded
            have hx' : a.tmps[t] = .bool b' := by simpa [hta] using hx
            have h2 : ((h ++ tl).toArray)[j]? = some oj := by simpa using hoj'
            rw [h2]
            simp [ht, hta, hx']
          show (yielded (h ++ tl).toArray a.tmps j == some b) = _
          rw [hy]
          first | rfl | rw [hG] | simp [hG]
    rw [hwant]
    unfold StepG at hst
    cases hrun : runsG G o with
    | true =>
      rw [hrun, if_pos rfl] at hst
      rw [if_pos rfl]
      refine OpV.wp (hst a.eval w hRw (fun _ => rfl) ⟨fun _ => rfl, fun _ => rfl⟩ (fun t ht => ?_) (knownL_of _ hkn) _ fun x w' hR' hS' hAx hfr => hK _ _ (common x w' hR' (.inl hS') hAx hfr))
      simp only [Act.eval]
      have hoo := hoff t (fun j hj => by
        have := hs1 j t hj
        simp at ht
        simp at this
        obtain ⟨o', ho', e⟩ := this
        exact absurd e (ht o' ho'))
      simp [hoo]
    | false =>
      rw [hrun, if_neg (by decide)] at hst
      rw [if_neg (by decide)]
      exact hK _ _ (common undef w hRw (.inr rfl) (hst.1 w hRw) (fun hc => by rw [hst.2] at hc; cases hc))
  · -- the end
    intro a w hJ
    obtain ⟨hRw, hdf, hsz', hoff, hAs, hDd⟩ := hJ
    have hon : ∀ i, i < h.length → (Array.replicate h.length true ++ Array.replicate tl.length false).getD i false = true := by
      intro i hi
      have h2 : i < h.length + tl.length := by omega
      simp [h2, Array.getElem_append_left, hi]
    have key : a = fillL (h.map (·.dst)) (fun i => leftBy h.toArray a i) 0 a0 := by
      have hsp := fillL_spec a (h.map (·.dst)) (fun i => leftBy h.toArray a i) 0 a0 hsz'.symm hdf.symm (fun i t hi => by
        have hs : slotOf h.toArray i = some t := by
          simp only [List.getElem?_map] at hi
          unfold slotOf
          cases ho : h[i]? with
          | none => simp [ho] at hi
          | some o => simp [ho] at hi; simp [hi, ho]
        simp [leftBy, hs])
      refine act_ext hsp.2.1.symm fun t => ?_
      rw [hsp.2.2 t]
      split
      · rfl
      · rename_i hm
        exact hoff t fun i hs => hm (hs1 i t hs)
    have hw := hend (fun i => leftBy h.toArray a i) w hRw (fun i hi => hAs i hi (hon i hi)) (fun i j hij hi hj hDi hDj => hDd i j hij hi hj hDi hDj (hon i hi) (hon j hj))
    rw [← key] at hw
    exact hw
  · have e : (Array.replicate (h.length + tl.length) false).toList.take h.length = List.replicate h.length false := by
      simp [List.take_replicate]
    rw [e]
    simp [List.count_replicate]

/-- the tests that are known, and their facts -/
def GF {X : Nat → Prop} : List (Option Bool) → List (Fact X) → Prop
  | [], _ => True
  | none :: G, _ :: F => GF G F
  | some b :: G, f :: F => f = Fact.is (.bool b) ∧ GF G F
  | _ :: _, [] => False
theorem GF.at {X : Nat → Prop} : ∀ {G : List (Option Bool)} {F : List (Fact X)} {j : Nat} {b : Bool}, GF G F → (G[j]?).getD none = some b → F[j]? = some (Fact.is (.bool b)) := by
  intro G
  induction G with
  | nil => intro F j b _ h; simp at h
  | cons g G ih =>
    intro F j b hG h
    cases F with
    | nil => cases g <;> exact hG.elim
    | cons f F =>
      cases j with
      | zero =>
        simp at h
        subst h
        simp [hG.1]
      | succ j =>
        have h' : (G[j]?).getD none = some b := by simpa using h
        cases g with
        | none => simpa using ih hG h'
        | some c => simpa using ih hG.2 h'

/-- a fresh block that holds what it holds -/
def Fact.blk {X : Nat → Prop} (r0 : Nat) (t : TypeId) (cs : Array Value) : Fact X := ⟨fun x w => ∃ k, x = .pointer (some ⟨k, 0, none⟩) ∧ ¬ X k ∧ Blk w k t cs ∧ r0 ≤ k, fun _ _ _ hk ⟨k, h1, h2, h3, h4⟩ => ⟨k, h1, h2, h3.kept hk h2, h4⟩⟩
/-- the facts at the places of fresh pointers -/
def DF {X : Nat → Prop} : List Nat → List (Fact X) → Prop
  | [], _ => True
  | i :: D, F => (∃ r0 t cs, F[i]? = some (Fact.blk r0 t cs)) ∧ DF D F
theorem DF.at {X : Nat → Prop} {F : List (Fact X)} : ∀ {D : List Nat} {i : Nat}, DF D F → D.contains i = true → ∃ r0 t cs, F[i]? = some (Fact.blk r0 t cs) := by
  intro D
  induction D with
  | nil => intro i _ h; simp at h
  | cons j D ih =>
    intro i hD h
    by_cases hij : i = j
    · subst hij; exact hD.1
    · exact ih hD.2 (by simp at h ⊢; exact h.resolve_left hij)

theorem wp_region_gfacts {id : Nat} {l : List Oper} {a0 : Act} {w0 : World} (hm : P.follows .mixedOrders = true) (k : Nat) (ds : List (Option Tmp)) (hds : (l.take k).map (·.dst) = ds) (hk : (l.take k).length = k)
    (X : Nat → Prop) (F : List (Fact X)) (R : World → Prop) (D : List Nat) (G : List (Option Bool)) (n : Nat)
    (hd : edgesDown 0 l = true) (hn : nodupL ds = true) (hng : (l.take k).all (fun o => o.after.toList.all fun e => Region.binds .any e) = true)
    (htw : tailReach k (l.take k) (l.drop k) = true) (hseq : Region.seqB .any l.toArray (l.drop k).length k (Array.replicate k true ++ Array.replicate (l.drop k).length false) = true)
    (hgo : guardsOk G (l.take k) = true)
    (hsz : a0.tmps.size = n) (hb : ds.all (fun d => match d with | some t => decide (t < n) | none => true) = true)
    (hDs : D.all (fun i => ((ds[i]?).bind fun x => x).isSome) = true)
    (hGF : GF G F) (hDF : DF D F)
    (hR : R w0.drew)
    (hend : ∀ (x : Nat → Value) w, R w → AllFacts ds F x 0 w → (∀ i j, i ≠ j → i < k → j < k → D.contains i = true → D.contains j = true → x i ≠ x j) → wpList P l.toArray Q (l.drop k) (fillL ds x 0 a0) w)
    (hstep : EachOp (StepG P a0 (FactAt ds F) R (Keep X) D G ds) 0 (l.take k)) :
    (Code.region id l.toArray true).wp P Q a0 w0 :=
  wp_region_gen hm k ds hds hk (FactAt ds F) R (Keep X) D G hd hn hng htw hseq hgo n hsz hb hDs
    (fun j b x w hG ⟨t, ht⟩ h => by
      unfold FactAt at h
      rw [ht, hGF.at hG] at h
      exact h)
    (fun i x w hDi h => by
      obtain ⟨r0, t, cs, hF⟩ := hDF.at hDi
      have h1 := List.all_eq_true.1 hDs i (by simpa using hDi)
      unfold FactAt at h
      cases hdi : ds[i]? with
      | none => rw [hdi] at h1; simp at h1
      | some d =>
        rw [hdi] at h1 h
        cases d with
        | none => simp at h1
        | some u =>
          rw [hF] at h
          obtain ⟨k, e, _, hb, _⟩ := h
          exact ⟨k, 0, e, hb.lt⟩)
    (fun i x w h _ => by unfold FactAt; rw [h]; trivial) FactAt.keep hR
    (fun x w hR h hD => hend x w hR (allFacts_of ds F 0 fun i hi => by rw [Nat.zero_add]; exact h i (by rw [← hds, List.length_map, hk] at hi; exact hi)) hD) hstep
end
end Go.Proofs.YtopkbpigaengeaaDoor
