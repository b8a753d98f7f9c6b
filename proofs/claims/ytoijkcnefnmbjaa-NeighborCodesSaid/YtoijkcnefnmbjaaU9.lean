/-
  States over values without addresses, and regions on them.
-/
import Derived.Test.YtoijkcnefnmbjaaU8
import Derived.RegionTactic
namespace Go.Proofs.Ytoijkcnefnmbjaa
open Go.RowKit

/-- where a call began: its world, what must not be read through, what it was handed to write -/
structure Base where
  w0 : World
  X0 : Nat → Prop
  φ0 : Em
  H0 : Hp
  k : Nat

def SimF (B : Base) (n : Nat) (Fr : Nat → Prop) (T : Tp) (H : Hp) (a : Act) (w : World) : Prop := ∃ X φ,
  Nxt B.H0 (fun r => B.k ≤ r) B.X0 B.φ0 B.w0 H X φ w ∧ a.tmps.size = n ∧ a.defers = [] ∧ St X φ H w ∧ (∀ t v, T t = some v → Rep X w φ (a.tmps.getD t undef) v) ∧ ∀ r, Fr r → φ r = none
def Sim (B : Base) (n m : Nat) (T : Tp) (H : Hp) (a : Act) (w : World) : Prop := B.k ≤ m ∧ SimF B n (fun r => m ≤ r) T H a w

theorem OpW.mono {P : Program} {o : Oper} {r : Operand → Value} {w : World} {K K' : Value → World → Prop} (h : OpW P o r w K) (hk : ∀ v w, K v w → K' v w) : OpW P o r w K' := by
  unfold OpW at *
  generalize (execOp r o).run P w = q at *
  cases q with
  | ok n w' =>
    cases n <;> simp only at h ⊢ <;> first
      | exact hk _ _ h
      | exact h.elim
      | exact Calls.mono h fun e w'' ⟨v, he, hh⟩ => ⟨v, he, hk _ _ hh⟩
  | halt x w' => exact h.elim

section
variable {P : Program} {Q : Exit → Act → World → Prop} {B : Base} {n : Nat} {Fr : Nat → Prop} {T : Tp} {H H' : Hp} {a : Act} {w : World}

theorem putT_rep {X : Nat → Prop} {φ : Em} {T : Tp} {d : Option Tmp} {x : Value} {v : AV} (hT : ∀ t v, T t = some v → Rep X w φ (a.tmps.getD t undef) v) (hd : ∀ t, d = some t → t < a.tmps.size) (hv : Rep X w φ x v) :
    ∀ t u, putT T d v t = some u → Rep X w φ ((a.put d x).tmps.getD t undef) u := by
  intro t u h
  cases d with
  | none => exact hT t u h
  | some d =>
    have hlt := hd d rfl
    simp only [putT] at h
    by_cases he : t = d
    · subst he
      rw [up_at] at h
      injection h with h
      subst h
      simp [Act.put, hlt]
      exact hv
    · rw [up_ne he] at h
      have := hT t u h
      simp only [Act.put, Array.getD_eq_getD_getElem?] at this ⊢
      rw [Array.getElem?_setIfInBounds_ne (fun e => he e.symm)]
      exact this

theorem SimF.step {o : Oper} {f : Nat} {v : AV} {K : Act → World → Prop} (hs : SimF B n Fr T H a w) (h : SOp P o (ev T) f H v H') (hf : Fr f) (hk : B.k ≤ f) (hd : ∀ t, o.dst = some t → t < n)
    (hK : ∀ a' w', SimF B n (fun r => Fr r ∧ r ≠ f) (putT T o.dst v) H' a' w' → K a' w') : o.wp P a w K Q := by
  obtain ⟨X, φ, h1, h2, h3, h4, h5, h6⟩ := hs
  have hE : ∀ x c, ev T x = some c → Rep X w φ (a.eval x) c := by
    intro x c hx
    cases x with
    | tmp t => exact h5 t c hx
    | const u => rw [ev_const] at hx; injection hx with hx; subst hx; exact rep_absC u
    | global g => cases hx
    | func g => injection hx with hx; subst hx; exact .base _
  refine OpW.wp ((h X φ w a.eval hE h4 (h6 f hf)).mono fun x w' ⟨X', φ', g1, g2, g3⟩ => hK _ _ ⟨X', φ', ?_, by rw [← h2]; cases o.dst <;> simp [Act.put], by cases o.dst <;> exact h3, g2, ?_, fun r hr => ?_⟩)
  · exact h1.trans g1 fun r hr => by rw [hr]; exact hk
  · refine putT_rep (fun t u ht => ?_) (fun t ht => by rw [h2]; exact hd t ht) g3
    exact g1.keep h4 (fun r hr => by rw [hr]; exact h6 f hf) (h5 t u ht)
  · rw [g1.ph r hr.2]; exact h6 r hr.1

theorem SimF.skip {d : Option Tmp} (hs : SimF B n Fr T H a w) (hd : ∀ t, d = some t → t < n) : SimF B n Fr (putT T d (.base undef)) H (a.put d undef) w := by
  obtain ⟨X, φ, h1, h2, h3, h4, h5, h6⟩ := hs
  exact ⟨X, φ, h1, by rw [← h2]; cases d <;> simp [Act.put], by cases d <;> exact h3, h4, putT_rep h5 (fun t ht => by rw [h2]; exact hd t ht) (.base _), h6⟩

/-- whether an operation is carried out -/
theorem SimF.wanted {ops : Array Oper} {o : Oper} {b : Bool} (hs : SimF B n Fr T H a w) (h : runsT ops T o = some b) : Region.wanted o (yielded ops a.tmps) = b := by
  obtain ⟨X, φ, h1, h2, h3, h4, h5, h6⟩ := hs
  unfold runsT at h
  unfold Region.wanted
  cases hg : o.guard with
  | none => rw [hg] at h; injection h
  | some jb =>
    obtain ⟨j, c⟩ := jb
    rw [hg] at h
    simp only at h ⊢
    cases hd : dstAt ops j with
    | none => rw [hd] at h; cases h
    | some t =>
      rw [hd] at h
      simp only at h
      cases ht : T t with
      | none => rw [ht] at h; cases h
      | some u =>
        rw [ht] at h
        cases u <;> first | (simp at h; done) | skip
        rename_i v
        have hr := (h5 t _ ht).base_eq
        have hno : (∀ x, v ≠ .bool x) → yielded ops a.tmps j = none := fun hv => by
          unfold yielded
          unfold dstAt at hd
          rw [hd]
          simp only [Option.bind_some]
          cases ha : a.tmps[t]? with
          | none => rfl
          | some u =>
            rw [Array.getD_eq_getD_getElem?, ha] at hr
            have hu : u = v := hr
            cases u with
            | bool x => exact absurd hu.symm (hv x)
            | _ => rfl
        by_cases hvb : ∃ x, v = .bool x
        case neg =>
          rw [hno fun x e => hvb ⟨x, e⟩]
          cases v with
          | bool x => exact absurd ⟨x, rfl⟩ hvb
          | _ => cases h; rfl
        obtain ⟨x, rfl⟩ := hvb
        injection h with h
        have hlt : t < a.tmps.size := by
          rcases Nat.lt_or_ge t a.tmps.size with hlt | hge
          · exact hlt
          · rw [Array.getD_eq_getD_getElem?, Array.getElem?_eq_none hge] at hr; cases hr
        have hx : a.tmps[t]? = some (.bool x) := by
          simp [hlt] at hr
          simp [hlt, hr]
        unfold yielded
        unfold dstAt at hd
        rw [hd]
        simp only [Option.bind_some, hx]
        rw [← h]
        rfl
end

theorem St.heap {X : Nat → Prop} {φ : Em} {H : Hp} {w w' : World} (h : St X φ H w) (he : w'.heap = w.heap) : St X φ H w' := by
  refine ⟨fun r cs hr => ?_, h.2⟩
  obtain h1 | ⟨b, o, c, e, h1, h2, h3, h4⟩ := h.1 r cs hr
  · exact .inl h1
  · refine .inr ⟨b, o, c, e, h1, h2, by rw [he]; exact h3, fun j a hj => ?_⟩
    obtain ⟨h5, u, h6, h7⟩ := h4 j a hj
    exact ⟨h5, u, h6, h7.keep (by rw [he]; exact Nat.le_refl _) (fun _ _ _ => by rw [he]) (fun _ _ => by unfold bsz; rw [he]) (fun _ _ h => h) (fun _ _ h => h)⟩

/-! a region that does not draw -/
def dstsLt (l : List Oper) (n : Nat) : Bool := l.all fun o => match o.dst with
  | some t => decide (t < n)
  | none => true
theorem dstsLt_at {l : List Oper} {n i : Nat} {o : Oper} (h : dstsLt l n = true) (ho : l[i]? = some o) : ∀ t, o.dst = some t → t < n := by
  intro t ht
  have := List.all_eq_true.1 h o (List.mem_of_getElem? ho)
  rw [ht] at this
  simpa using this

section
variable {P : Program} {B : Base} {n m : Nat}
theorem Sim.toF {T : Tp} {H : Hp} {a : Act} {w : World} (h : SimF B n (fun r => m ≤ r) T H a w) (k : Nat) : SimF B n (fun r => m + k ≤ r) T H a w := by
  obtain ⟨X, φ, h1, h2, h3, h4, h5, h6⟩ := h
  exact ⟨X, φ, h1, h2, h3, h4, h5, fun r hr => h6 r (by omega)⟩

theorem region_seq {ops : Array Oper} {id : Nat} {Ts : Nat → Tp} {Hs : Nat → Hp} {rds wrs : Nat → List Nat} (hk : B.k ≤ m) (hdl : dstsLt ops.toList n = true)
    (hstep : ∀ j o, ops.toList[j]? = some o → StepT P ops m j o (Ts j) (Hs j) (rds j) (wrs j) (Ts (j + 1)) (Hs (j + 1))) {a : Act} {w : World} (hs : Sim B n m (Ts 0) (Hs 0) a w) :
    (Code.region id ops false).wp P (fun e a' w' => e = .normal ∧ Sim B n (m + ops.size) (Ts ops.size) (Hs ops.size) a' w') a w := by
  have key : ∀ c j a w, j + c = ops.size → SimF B n (fun r => m + j ≤ r) (Ts j) (Hs j) a w → wpOps P ops (fun e a' w' => e = .normal ∧ Sim B n (m + ops.size) (Ts ops.size) (Hs ops.size) a' w') (List.range' j c) a w := by
    intro c
    induction c with
    | zero =>
      intro j a w hj h
      obtain rfl : j = ops.size := by omega
      exact ⟨rfl, by omega, h⟩
    | succ c ih =>
      intro j a w hj h
      rw [List.range'_succ, wpOps_cons]
      obtain ⟨o, ho⟩ : ∃ o, ops[j]? = some o := ⟨ops[j], by rw [Array.getElem?_eq_getElem]⟩
      have hol : ops.toList[j]? = some o := by simpa using ho
      have hd := dstsLt_at hdl hol
      refine wpOp_step ho fun K' hK' => ?_
      rcases hstep j o hol with ⟨hg, v, hLO, hT⟩ | ⟨hg, hT, hH, _⟩
      · rw [h.wanted hg, if_pos rfl]
        have hsop := hLO.2 (ev (Ts j)) (Hs j) (fun _ _ => rfl) (fun _ _ => rfl)
        have hovr : ovr (Hs j) (wrs j) (Hs (j + 1)) = Hs (j + 1) := by
          funext r
          unfold ovr
          split
          · rfl
          · rename_i hr; exact (hLO.1 r hr).symm
        rw [hovr] at hsop
        refine h.step hsop (Nat.le_refl _) (by omega) hd fun a' w' hs' => hK' _ _ (ih (j + 1) a' w' (by omega) ?_)
        rw [hT]
        obtain ⟨X, φ, h1, h2, h3, h4, h5, h6⟩ := hs'
        exact ⟨X, φ, h1, h2, h3, h4, h5, fun r hr => h6 r ⟨by omega, by omega⟩⟩
      · rw [h.wanted hg, if_neg (by decide)]
        refine hK' _ _ (ih (j + 1) _ w (by omega) ?_)
        rw [hT, hH]
        obtain ⟨X, φ, h1, h2, h3, h4, h5, h6⟩ := h.skip hd
        exact ⟨X, φ, h1, h2, h3, h4, h5, fun r hr => h6 r (by omega)⟩
  have := key ops.size 0 a w (by omega) hs.2
  rw [← List.range_eq_range'] at this
  exact wp_region this

/-! a region that draws -/
theorem count_le_of_all {q : List Bool} (h : ∀ i, i < q.length → q[i]? = some true) : q.count false = 0 := by
  rw [List.count_eq_zero]
  intro hm
  obtain ⟨i, hi, e⟩ := List.mem_iff_getElem.1 hm
  have := h i hi
  rw [List.getElem?_eq_getElem hi, e] at this
  cases this
theorem count_set1 : ∀ (q : List Bool) (i : Nat), q[i]? = some false → (q.set i true).count false + 1 = q.count false := by
  intro q
  induction q with
  | nil => intro i h; simp at h
  | cons b q ih =>
    intro i h
    cases i with
    | zero => simp at h; subst h; simp
    | succ i =>
      have := ih i (by simpa using h)
      simp only [List.set_cons_succ, List.count_cons]
      omega
theorem lget_set_ne {ld : Array Bool} {i j : Nat} {d : Bool} (h : j ≠ i) : (ld.setIfInBounds i true).getD j d = ld.getD j d := by
  simp only [Array.getD_eq_getD_getElem?]
  rw [Array.getElem?_setIfInBounds_ne (fun e => h e.symm)]
theorem lget_set_eq {ld : Array Bool} {i : Nat} {d : Bool} (h : i < ld.size) : (ld.setIfInBounds i true).getD i d = true := by
  simp [h]

theorem wpAny_J0 {ops : Array Oper} {Q : Exit → Act → World → Prop} (J : Array Bool → Act → World → Prop) (hd : edgesLt 0 ops.toList = true)
    (hstep : ∀ ld a w i o, J ld a w → ld.size = ops.size → ClosedL ops.toList (fun j => ld.getD j false) → ops[i]? = some o → ld.getD i false = false → (∀ e ∈ bEdges o, ld.getD e.on false = true) → ∀ K : Act → World → Prop, (∀ a w, J (ld.setIfInBounds i true) a w → K a w) →
      if Region.wanted o (yielded ops a.tmps) = true then Oper.wp P o a w K Q else K (a.put o.dst undef) w)
    (hend : ∀ ld a w, J ld a w → ld.size = ops.size → (∀ i, i < ops.size → ld.getD i false = true) → Q .normal a w) :
    ∀ c ld a w, ld.toList.count false = c → ld.size = ops.size → ClosedL ops.toList (fun j => ld.getD j false) → J ld a w → wpAny P .any ops Q c ld a w := by
  have full : ∀ ld : Array Bool, ld.size = ops.size → Region.ready .any ops ld = [] → ∀ i, i < ops.size → ld.getD i false = true := by
    intro ld hsz hr i
    induction i using Nat.strongRecOn with
    | _ i ih =>
      intro hi
      cases hl : ld.getD i false with
      | true => rfl
      | false =>
        exfalso
        have hm : i ∈ Region.ready .any ops ld := by
          refine mem_ready.2 ⟨by simp [hsz, hi] at hl ⊢; exact hl, ops[i], by simp [hi], fun e he hbe => ?_⟩
          have := edgesLt_at ops.toList 0 i ops[i] hd (by simp [hi]) e (List.mem_filter.2 ⟨by simpa using he, hbe⟩)
          exact ih e.on (by omega) (by omega)
        rw [hr] at hm
        cases hm
  intro c
  induction c with
  | zero =>
    intro ld a w hc hsz hcl hJ
    have hall : ∀ i, i < ops.size → ld.getD i false = true := by
      intro i hi
      cases hl : ld.getD i false with
      | true => rfl
      | false =>
        exfalso
        rw [List.count_eq_zero] at hc
        have : ld[i]'(by omega) = false := by simpa [hsz, hi] using hl
        exact hc (by rw [← this]; simp)
    refine ⟨?_, hend ld a w hJ hsz hall⟩
    cases hr : Region.ready .any ops ld with
    | nil => rfl
    | cons i l =>
      exfalso
      have hm : i ∈ Region.ready .any ops ld := by rw [hr]; simp
      obtain ⟨hun, o, ho, _⟩ := mem_ready.1 hm
      have hi : i < ops.size := (Array.getElem?_eq_some_iff.1 ho).1
      have := hall i hi
      simp [hsz, hi] at hun this
      rw [this] at hun
      cases hun
  | succ c ih =>
    intro ld a w hc hsz hcl hJ
    refine ⟨fun hr => hend ld a w hJ hsz (full ld hsz hr), fun i hm => ?_⟩
    obtain ⟨hun, o, ho, hdep⟩ := mem_ready.1 hm
    have hi : i < ops.size := (Array.getElem?_eq_some_iff.1 ho).1
    have hil : ld.getD i false = false := by simp [hsz, hi] at hun ⊢; exact hun
    have hdep' : ∀ e ∈ bEdges o, ld.getD e.on false = true := fun e he =>
      hdep e (by simpa using (List.mem_filter.1 he).1) (List.mem_filter.1 he).2
    refine wpOp_step ho fun K' hK' => hstep ld a w i o hJ hsz hcl ho hil hdep' K' fun a' w' hJ' => hK' _ _ (ih _ _ _ ?_ (by simpa using hsz) ?_ hJ')
    · rw [Array.toList_setIfInBounds]
      have h2 : ld.toList[i]? = some false := by simp [hsz, hi] at hil ⊢; exact hil
      have := count_set1 ld.toList i h2
      omega
    · intro j p hp hlj e he
      by_cases hji : j = i
      · subst hji
        have : p = o := by simp at hp; rw [ho] at hp; injection hp with hp; exact hp.symm
        subst this
        have h3 := hdep' e he
        by_cases hej : e.on = j
        · rw [hej]; exact lget_set_eq (by omega)
        · show (ld.setIfInBounds j true).getD e.on false = true
          rw [lget_set_ne hej]; exact h3
      · have hlj' : ld.getD j false = true := by
          have : (ld.setIfInBounds i true).getD j false = true := hlj
          rwa [lget_set_ne hji] at this
        have h3 := hcl j p hp hlj' e he
        by_cases hei : e.on = i
        · show (ld.setIfInBounds i true).getD e.on false = true
          rw [hei]; exact lget_set_eq (by omega)
        · show (ld.setIfInBounds i true).getD e.on false = true
          rw [lget_set_ne hei]; exact h3

theorem region_any {ops : Array Oper} {id : Nat} {Ts : Nat → Tp} {Hs : Nat → Hp} {rds wrs : Nat → List Nat} (hm : P.follows .mixedOrders = true) (hdl : dstsLt ops.toList n = true)
    (hstep : ∀ j o, ops.toList[j]? = some o → StepT P ops m j o (Ts j) (Hs j) (rds j) (wrs j) (Ts (j + 1)) (Hs (j + 1))) (hind : indep ops ((List.range ops.size).map fun j => (rds j, wrs j)).reverse = true)
    {a : Act} {w : World} (hs : Sim B n m (Ts 0) (Hs 0) a w) :
    (Code.region id ops true).wp P (fun e a' w' => e = .normal ∧ Sim B n (m + ops.size) (Ts ops.size) (Hs ops.size) a' w') a w := by
  unfold indep at hind
  simp only [Bool.and_eq_true, List.reverse_reverse] at hind
  obtain ⟨hed, hia⟩ := hind
  let WT : Nat → Nat → Bool := fun t j => match ops[j]? with
    | some o => o.dst == some t
    | none => false
  let WH : Nat → Nat → Bool := fun r j => (wrs j).contains r
  have hmask := masks_ok ops.toList ops.toList [] [] rfl rfl (fun j mk h => by simp at h)
  -- earlier before later
  have key : ∀ (i j : Nat) (p q : Oper), i < j → ops[i]? = some p → ops[j]? = some q → clashO ops p q (rds i, wrs i) (rds j, wrs j) = true → ∀ S, ClosedL ops.toList S → (∀ e ∈ bEdges q, S e.on = true) → S i = true := by
    intro i j p q hij hp hq hc S hS hd
    have hj : j < ops.size := (Array.getElem?_eq_some_iff.1 hq).1
    have hi : i < ops.size := by omega
    obtain ⟨mk, hmk⟩ : ∃ mk, (masks ops.toList [])[j]? = some mk := by
      have hl : j < (masks ops.toList []).length := by rw [masks_len]; simpa using hj
      exact ⟨_, List.getElem?_eq_getElem hl⟩
    have h1 := indepAll_at (j := j) (o := q) (fo := (rds j, wrs j)) (mk := mk) hia (by simpa using hq) (by simp [hj]) hmk
    rw [Nat.zero_add] at h1
    have h2 := indepOne_at (i := i) (p := p) (fp := (rds i, wrs i)) h1 (by rw [List.getElem?_take]; simp [hij]; exact hp) (by rw [List.getElem?_take]; simp [hij, hi]) hc
    rw [Nat.zero_add] at h2
    exact hmask j mk hmk S hS q (by simpa using hq) hd i h2
  have hTw : ∀ t j, j < ops.size → WT t j = false → Ts (j + 1) t = Ts j t := by
    intro t j hj hw
    obtain ⟨o, ho⟩ : ∃ o, ops[j]? = some o := ⟨ops[j], by rw [Array.getElem?_eq_getElem]⟩
    have hne : o.dst ≠ some t := by
      intro e
      simp only [WT, ho, e] at hw
      simp at hw
    rcases hstep j o (by simpa using ho) with ⟨_, v, _, hT⟩ | ⟨_, hT, _⟩ <;> rw [hT] <;> (cases hd : o.dst with
      | none => rfl
      | some d => exact up_ne (fun e => hne (by rw [hd, e])))
  have hHw : ∀ r j, j < ops.size → WH r j = false → Hs (j + 1) r = Hs j r := by
    intro r j hj hw
    obtain ⟨o, ho⟩ : ∃ o, ops[j]? = some o := ⟨ops[j], by rw [Array.getElem?_eq_getElem]⟩
    rcases hstep j o (by simpa using ho) with ⟨_, v, hLO, _⟩ | ⟨_, _, hH, _⟩
    · exact hLO.1 r (by simpa [WH] using hw)
    · rw [hH]
  let Tc : Array Bool → Tp := fun ld t => Ts (lastW (fun j => ld.getD j false) (WT t) ops.size) t
  let Hc : Array Bool → Hp := fun ld r => Hs (lastW (fun j => ld.getD j false) (WH r) ops.size) r
  let J : Array Bool → Act → World → Prop := fun ld a w => SimF B n (fun r => m + ops.size ≤ r ∨ ∃ i, i < ops.size ∧ r = m + i ∧ ld.getD i false = false) (Tc ld) (Hc ld) a w
  have hWT : ∀ t j, WT t j = true → ∃ p, ops[j]? = some p ∧ p.dst = some t := by
    intro t j h
    simp only [WT] at h
    cases hp : ops[j]? with
    | none => rw [hp] at h; cases h
    | some p => rw [hp] at h; exact ⟨p, rfl, by simpa using h⟩
  have h0 : ∀ i, (Array.replicate ops.size false).getD i false = false := fun i => by
    simp only [Array.getD_eq_getD_getElem?, Array.getElem?_replicate]
    split <;> rfl
  refine wp_region_any hm (wpAny_J0 (P := P) (ops := ops) J hed ?_ ?_ ops.size (Array.replicate ops.size false) a _ (by simp) (by simp) (fun i o _ hi => by simp only [h0] at hi; cases hi) ?_)
  · -- a step
    intro ld a w i o hJ hsz hcl ho hil hdep K hK
    have hi : i < ops.size := (Array.getElem?_eq_some_iff.1 ho).1
    have hol : ops.toList[i]? = some o := by simpa using ho
    have hd := dstsLt_at hdl hol
    -- no later one has written what this one touches
    have lateT : ∀ t, (t ∈ slotsR ops o ∨ o.dst = some t) → ∀ j, i ≤ j → j < ops.size → ld.getD j false = true → WT t j = false := by
      intro t ht j hij hj hlj
      by_cases hji : j = i
      · subst hji; rw [hil] at hlj; cases hlj
      · cases hw : WT t j with
        | false => rfl
        | true =>
          exfalso
          obtain ⟨p, hp, hpt⟩ := hWT t j hw
          have hc : clashO ops o p (rds i, wrs i) (rds j, wrs j) = true := by
            unfold clashO
            rw [clash_of (x := t) (by
              rcases ht with ht | ht
              · exact .inr ⟨ht, by simp [slotsW, hpt]⟩
              · exact .inl ⟨by simp [slotsW, ht], .inr (by simp [slotsW, hpt])⟩)]
            rfl
          have := key i j o p (by omega) ho hp hc _ hcl (hcl j p (by simpa using hp) hlj)
          rw [hil] at this
          cases this
    have lateH : ∀ r, (r ∈ rds i ∨ r ∈ wrs i) → ∀ j, i ≤ j → j < ops.size → ld.getD j false = true → WH r j = false := by
      intro r hr j hij hj hlj
      by_cases hji : j = i
      · subst hji; rw [hil] at hlj; cases hlj
      · cases hw : WH r j with
        | false => rfl
        | true =>
          exfalso
          obtain ⟨p, hp⟩ : ∃ p, ops[j]? = some p := ⟨ops[j], by rw [Array.getElem?_eq_getElem]⟩
          have hwr : r ∈ wrs j := by simpa [WH] using hw
          have hc : clashO ops o p (rds i, wrs i) (rds j, wrs j) = true := by
            unfold clashO
            rw [clash_of (x := r) (r1 := rds i) (w1 := wrs i) (r2 := rds j) (w2 := wrs j) (by
              rcases hr with hr | hr
              · exact .inr ⟨hr, hwr⟩
              · exact .inl ⟨hr, .inr hwr⟩)]
            simp
          have := key i j o p (by omega) ho hp hc _ hcl (hcl j p (by simpa using hp) hlj)
          rw [hil] at this
          cases this
    have readT : ∀ t, (t ∈ slotsR ops o ∨ o.dst = some t) → Tc ld t = Ts i t := by
      intro t ht
      refine lastW_read (fun j => ld.getD j false) (WT t) (fun j => Ts j t) ops.size i (hTw t) (by omega) (lateT t ht) fun j hj hw => ?_
      obtain ⟨p, hp, hpt⟩ := hWT t j hw
      refine key j i p o hj hp ho ?_ _ hcl hdep
      unfold clashO
      rw [clash_of (x := t) (.inl ⟨by simp [slotsW, hpt], by
        rcases ht with ht | ht
        · exact .inl ht
        · exact .inr (by simp [slotsW, ht])⟩)]
      rfl
    have readH : ∀ r, (r ∈ rds i ∨ r ∈ wrs i) → Hc ld r = Hs i r := by
      intro r hr
      refine lastW_read (fun j => ld.getD j false) (WH r) (fun j => Hs j r) ops.size i (hHw r) (by omega) (lateH r hr) fun j hj hw => ?_
      obtain ⟨p, hp⟩ : ∃ p, ops[j]? = some p := ⟨ops[j]'(by omega), by rw [Array.getElem?_eq_getElem]⟩
      refine key j i p o hj hp ho ?_ _ hcl hdep
      have hwr : r ∈ wrs j := by simpa [WH] using hw
      unfold clashO
      rw [clash_of (x := r) (r1 := rds j) (w1 := wrs j) (r2 := rds i) (w2 := wrs i) (.inl ⟨hwr, hr⟩)]
      simp
    have hset : ∀ j, j ≠ i → (fun j => (ld.setIfInBounds i true).getD j false) j = (fun j => ld.getD j false) j := fun j hj => lget_set_ne hj
    have hseti : (fun j => (ld.setIfInBounds i true).getD j false) i = true := lget_set_eq (by omega)
    have Tset : ∀ v, Ts (i + 1) = putT (Ts i) o.dst v → Tc (ld.setIfInBounds i true) = putT (Tc ld) o.dst v := by
      intro v hT
      funext t
      by_cases ht : o.dst = some t
      · have hWi : WT t i = true := by simp [WT, ho, ht]
        have := lastW_new (S := fun j => ld.getD j false) (S' := fun j => (ld.setIfInBounds i true).getD j false) (W := WT t) (n := ops.size) hi hseti hWi hset (fun j hij hj hS => lateT t (.inr ht) j (by omega) hj hS)
        show Ts (lastW _ _ _) t = _
        rw [this, hT, ht]
        simp only [putT, up_at]
      · have hWi : WT t i = false := by simp [WT, ho, ht]
        have := lastW_same (S := fun j => ld.getD j false) (S' := fun j => (ld.setIfInBounds i true).getD j false) (W := WT t) (n := ops.size) hWi hset
        show Ts (lastW _ _ _) t = _
        rw [this]
        cases hdd : o.dst with
        | none => rfl
        | some d => exact (up_ne (fun e => ht (by rw [hdd, e]))).symm
    have Hset : Hc (ld.setIfInBounds i true) = ovr (Hc ld) (wrs i) (Hs (i + 1)) := by
      funext r
      unfold ovr
      by_cases hr : r ∈ wrs i
      · have hWi : WH r i = true := by simp [WH, hr]
        have := lastW_new (S := fun j => ld.getD j false) (S' := fun j => (ld.setIfInBounds i true).getD j false) (W := WH r) (n := ops.size) hi hseti hWi hset (fun j hij hj hS => lateH r (.inr hr) j (by omega) hj hS)
        rw [if_pos hr]
        show Hs (lastW _ _ _) r = _
        rw [this]
      · have hWi : WH r i = false := by simp [WH, hr]
        have := lastW_same (S := fun j => ld.getD j false) (S' := fun j => (ld.setIfInBounds i true).getD j false) (W := WH r) (n := ops.size) hWi hset
        rw [if_neg hr]
        show Hs (lastW _ _ _) r = _
        rw [this]
    have hFr : ∀ r, (m + ops.size ≤ r ∨ ∃ i', i' < ops.size ∧ r = m + i' ∧ (ld.setIfInBounds i true).getD i' false = false) → (m + ops.size ≤ r ∨ ∃ i', i' < ops.size ∧ r = m + i' ∧ ld.getD i' false = false) ∧ r ≠ m + i := by
      intro r hr
      rcases hr with hr | ⟨i', hi', rfl, hl⟩
      · exact ⟨.inl hr, by omega⟩
      · have hne : i' ≠ i := fun e => by rw [e] at hl; rw [lget_set_eq (by omega)] at hl; cases hl
        rw [lget_set_ne hne] at hl
        exact ⟨.inr ⟨i', hi', rfl, hl⟩, by omega⟩
    have hwant : ∀ b, runsT ops (Ts i) o = some b → Region.wanted o (yielded ops a.tmps) = b := fun b hb => hJ.wanted (by rw [runsT_congr fun t ht => readT t (.inl ht)]; exact hb)
    rcases hstep i o hol with ⟨hg, v, hLO, hT⟩ | ⟨hg, hT, hH, hrd, hwr⟩
    · rw [hwant _ hg, if_pos rfl]
      have hsop := hLO.2 (ev (Tc ld)) (Hc ld) (fun x hx => by
        cases x with
        | tmp t => exact readT t (.inl (by simp only [slotsR, List.mem_append, List.mem_filterMap]; exact .inl ⟨.tmp t, by simpa using hx, rfl⟩))
        | const u => rw [ev_const, ev_const]
        | _ => rfl) readH
      refine hJ.step hsop (.inr ⟨i, hi, rfl, hil⟩) (by have := hs.1; omega) hd fun a' w' hs' => hK _ _ ?_
      show SimF B n _ (Tc (ld.setIfInBounds i true)) (Hc (ld.setIfInBounds i true)) a' w'
      rw [Tset v hT, Hset]
      obtain ⟨X, φ, h1, h2, h3, h4, h5, h6⟩ := hs'
      exact ⟨X, φ, h1, h2, h3, h4, h5, fun r hr => h6 r (hFr r hr)⟩
    · rw [hwant _ hg, if_neg (by decide)]
      refine hK _ _ ?_
      show SimF B n _ (Tc (ld.setIfInBounds i true)) (Hc (ld.setIfInBounds i true)) _ w
      rw [Tset _ hT, Hset, hwr, ovr_nil]
      obtain ⟨X, φ, h1, h2, h3, h4, h5, h6⟩ := SimF.skip hJ hd
      exact ⟨X, φ, h1, h2, h3, h4, h5, fun r hr => h6 r (hFr r hr).1⟩
  · -- the end
    intro ld a w hJ hsz hall
    refine ⟨rfl, by have := hs.1; omega, ?_⟩
    have hT : Tc ld = Ts ops.size := by
      funext t
      exact lastW_read (fun j => ld.getD j false) (WT t) (fun j => Ts j t) ops.size ops.size (hTw t) (Nat.le_refl _) (fun j h1 h2 => by omega) (fun j hj _ => hall j hj)
    have hH : Hc ld = Hs ops.size := by
      funext r
      exact lastW_read (fun j => ld.getD j false) (WH r) (fun j => Hs j r) ops.size ops.size (hHw r) (Nat.le_refl _) (fun j h1 h2 => by omega) (fun j hj _ => hall j hj)
    rw [← hT, ← hH]
    obtain ⟨X, φ, h1, h2, h3, h4, h5, h6⟩ := hJ
    exact ⟨X, φ, h1, h2, h3, h4, h5, fun r hr => h6 r (.inl hr)⟩
  · -- the start
    have hT : Tc (Array.replicate ops.size false) = Ts 0 := by
      funext t
      show Ts (lastW _ _ _) t = _
      rw [lastW_none h0]
    have hH : Hc (Array.replicate ops.size false) = Hs 0 := by
      funext r
      show Hs (lastW _ _ _) r = _
      rw [lastW_none h0]
    show SimF B n _ (Tc _) (Hc _) a _
    rw [hT, hH]
    obtain ⟨X, φ, h1, h2, h3, h4, h5, h6⟩ := hs.2
    refine ⟨X, φ, ⟨h1.os, h1.tape, h1.output, h1.size, h1.same, h1.bs, h1.xs, h1.xk, h1.ph, h1.lv⟩, h2, h3, ?_, fun t v ht => ?_, fun r hr => h6 r (by rcases hr with hr | ⟨i, _, rfl, _⟩ <;> omega)⟩
    · exact h4.heap rfl
    · exact (h5 t v ht).keep (Nat.le_refl _) (fun _ _ _ => rfl) (fun _ _ => rfl) (fun _ _ h => h) (fun _ _ h => h)
end
end Go.Proofs.Ytoijkcnefnmbjaa
