/-
  Regions that draw, in which an operation may come before or behind one that writes what it reads.
-/
import Derived.Test.YtbjfaepjpmogjaaDoorMab
namespace Go.Proofs.YtbjfaepjpmogjaaDoor
open Go.RowKit
section
variable {P : Program} {B : Base} {n m : Nat}
theorem region_anyT {ops : Array Oper} {id : Nat} {Ts : Nat → Tp} {Hs : Nat → Hp} {rds wrs : Nat → List Nat} {i0 j0 r0 : Nat} (hm : P.follows .mixedOrders = true) (hdl : dstsLt ops.toList n = true)
    (hstep : ∀ j o, j ≠ i0 → ops.toList[j]? = some o → StepT P ops m j o (Ts j) (Hs j) (rds j) (wrs j) (Ts (j + 1)) (Hs (j + 1)))
    (hi0 : ∀ o, ops.toList[i0]? = some o → runsT ops (Ts i0) o = some true ∧ ∃ v, Ts (i0 + 1) = putT (Ts i0) o.dst v ∧ ∀ E' K, (∀ x, x ∈ o.op.operands → E' x = ev (Ts i0) x) → (K r0 = Hs i0 r0 ∨ K r0 = Hs (j0 + 1) r0) → SOp P o E' (m + i0) K v K)
    (hw0 : wrs i0 = []) (hH0 : Hs (i0 + 1) = Hs i0) (hij : i0 < j0) (hjn : j0 < ops.size) (hno : ∀ j, j < j0 → r0 ∉ wrs j) (hmk : ∀ j, j0 < j → j < ops.size → r0 ∈ wrs j → (((masks ops.toList [])[j]?).getD 0).testBit i0 = true)
    (hind : indep ops ((List.range ops.size).map fun j => (if j = i0 then [] else rds j, wrs j)).reverse = true)
    {a : Act} {w : World} (hs : Sim B n m (Ts 0) (Hs 0) a w) :
    (Code.region id ops true).wp P (fun e a' w' => e = .normal ∧ Sim B n (m + ops.size) (Ts ops.size) (Hs ops.size) a' w') a w := by
  unfold indep at hind
  simp only [Bool.and_eq_true, List.reverse_reverse] at hind
  obtain ⟨hed, hia⟩ := hind
  let WT : Nat → Nat → Bool := fun t j => match ops[j]? with
    | some o => o.dst == some t
    | none => false
  let WH : Nat → Nat → Bool := fun r j => (wrs j).contains r
  have hmask := masks_ok ops.toList ops.toList [] [] rfl rfl (fun j mk h => by simp at h)
  -- earlier before later
  have key : ∀ (i j : Nat) (p q : Oper), i < j → ops[i]? = some p → ops[j]? = some q → clashO ops p q (if i = i0 then [] else rds i, wrs i) (if j = i0 then [] else rds j, wrs j) = true → ∀ S, ClosedL ops.toList S → (∀ e ∈ bEdges q, S e.on = true) → S i = true := by
    intro i j p q hij hp hq hc S hS hd
    have hj : j < ops.size := (Array.getElem?_eq_some_iff.1 hq).1
    have hi : i < ops.size := by omega
    obtain ⟨mk, hmk⟩ : ∃ mk, (masks ops.toList [])[j]? = some mk := by
      have hl : j < (masks ops.toList []).length := by rw [masks_len]; simpa using hj
      exact ⟨_, List.getElem?_eq_getElem hl⟩
    have h1 := indepAll_at (j := j) (o := q) (fo := (if j = i0 then [] else rds j, wrs j)) (mk := mk) hia (by simpa using hq) (by simp [hj]) hmk
    rw [Nat.zero_add] at h1
    have h2 := indepOne_at (i := i) (p := p) (fp := (if i = i0 then [] else rds i, wrs i)) h1 (by rw [List.getElem?_take]; simp [hij]; exact hp) (by rw [List.getElem?_take]; simp [hij, hi]) hc
    rw [Nat.zero_add] at h2
    exact hmask j mk hmk S hS q (by simpa using hq) hd i h2
  have hTw : ∀ t j, j < ops.size → WT t j = false → Ts (j + 1) t = Ts j t := by
    intro t j hj hw
    obtain ⟨o, ho⟩ : ∃ o, ops[j]? = some o := ⟨ops[j], by rw [Array.getElem?_eq_getElem]⟩
    have hne : o.dst ≠ some t := by
      intro e
      simp only [WT, ho, e] at hw
      simp at hw
    have fin : ∀ v, Ts (j + 1) = putT (Ts j) o.dst v → Ts (j + 1) t = Ts j t := fun v hT => by
      rw [hT]
      cases hd : o.dst with
      | none => rfl
      | some d => exact up_ne (fun e => hne (by rw [hd, e]))
    by_cases hji : j = i0
    · subst hji
      obtain ⟨_, v, hT, _⟩ := hi0 o (by simpa using ho)
      exact fin v hT
    · rcases hstep j o hji (by simpa using ho) with ⟨_, v, _, hT⟩ | ⟨_, hT, _⟩
      · exact fin v hT
      · exact fin _ hT
  have hHw : ∀ r j, j < ops.size → WH r j = false → Hs (j + 1) r = Hs j r := by
    intro r j hj hw
    obtain ⟨o, ho⟩ : ∃ o, ops[j]? = some o := ⟨ops[j], by rw [Array.getElem?_eq_getElem]⟩
    by_cases hji : j = i0
    · subst hji; rw [hH0]
    · rcases hstep j o hji (by simpa using ho) with ⟨_, v, hLO, _⟩ | ⟨_, _, hH, _⟩
      · exact hLO.1 r (by simpa [WH] using hw)
      · rw [hH]
  let Tc : Array Bool → Tp := fun ld t => Ts (lastW (fun j => ld.getD j false) (WT t) ops.size) t
  let Hc : Array Bool → Hp := fun ld r => Hs (lastW (fun j => ld.getD j false) (WH r) ops.size) r
  let J : Array Bool → Act → World → Prop := fun ld a w => SimF B n (fun r => m + ops.size ≤ r ∨ ∃ i, i < ops.size ∧ r = m + i ∧ ld.getD i false = false) (Tc ld) (Hc ld) a w
  have hWT : ∀ t j, WT t j = true → ∃ p, ops[j]? = some p ∧ p.dst = some t := by
    intro t j h
    simp only [WT] at h
    cases hp : ops[j]? with
    | none => rw [hp] at h; cases h
    | some p => rw [hp] at h; exact ⟨p, rfl, by simpa using h⟩
  have h0 : ∀ i, (Array.replicate ops.size false).getD i false = false := fun i => by
    simp only [Array.getD_eq_getD_getElem?, Array.getElem?_replicate]
    split <;> rfl
  refine wp_region_any hm (wpAny_J0 (P := P) (ops := ops) J hed ?_ ?_ ops.size (Array.replicate ops.size false) a _ (by simp) (by simp) (fun i o _ hi => by simp only [h0] at hi; cases hi) ?_)
  · -- a step
    intro ld a w i o hJ hsz hcl ho hil hdep K hK
    have hi : i < ops.size := (Array.getElem?_eq_some_iff.1 ho).1
    have hol : ops.toList[i]? = some o := by simpa using ho
    have hd := dstsLt_at hdl hol
    -- no later one has written what this one touches
    have lateT : ∀ t, (t ∈ slotsR ops o ∨ o.dst = some t) → ∀ j, i ≤ j → j < ops.size → ld.getD j false = true → WT t j = false := by
      intro t ht j hij hj hlj
      by_cases hji : j = i
      · subst hji; rw [hil] at hlj; cases hlj
      · cases hw : WT t j with
        | false => rfl
        | true =>
          exfalso
          obtain ⟨p, hp, hpt⟩ := hWT t j hw
          have hc : clashO ops o p (if i = i0 then [] else rds i, wrs i) (if j = i0 then [] else rds j, wrs j) = true := by
            unfold clashO
            rw [clash_of (x := t) (by
              rcases ht with ht | ht
              · exact .inr ⟨ht, by simp [slotsW, hpt]⟩
              · exact .inl ⟨by simp [slotsW, ht], .inr (by simp [slotsW, hpt])⟩)]
            rfl
          have := key i j o p (by omega) ho hp hc _ hcl (hcl j p (by simpa using hp) hlj)
          rw [hil] at this
          cases this
    have lateH : ∀ r, (r ∈ (if i = i0 then [] else rds i) ∨ r ∈ wrs i) → ∀ j, i ≤ j → j < ops.size → ld.getD j false = true → WH r j = false := by
      intro r hr j hij hj hlj
      by_cases hji : j = i
      · subst hji; rw [hil] at hlj; cases hlj
      · cases hw : WH r j with
        | false => rfl
        | true =>
          exfalso
          obtain ⟨p, hp⟩ : ∃ p, ops[j]? = some p := ⟨ops[j], by rw [Array.getElem?_eq_getElem]⟩
          have hwr : r ∈ wrs j := by simpa [WH] using hw
          have hc : clashO ops o p (if i = i0 then [] else rds i, wrs i) (if j = i0 then [] else rds j, wrs j) = true := by
            unfold clashO
            rw [clash_of (x := r) (r1 := if i = i0 then [] else rds i) (w1 := wrs i) (r2 := if j = i0 then [] else rds j) (w2 := wrs j) (by
              rcases hr with hr | hr
              · exact .inr ⟨hr, hwr⟩
              · exact .inl ⟨hr, .inr hwr⟩)]
            simp
          have := key i j o p (by omega) ho hp hc _ hcl (hcl j p (by simpa using hp) hlj)
          rw [hil] at this
          cases this
    have readT : ∀ t, (t ∈ slotsR ops o ∨ o.dst = some t) → Tc ld t = Ts i t := by
      intro t ht
      refine lastW_read (fun j => ld.getD j false) (WT t) (fun j => Ts j t) ops.size i (hTw t) (by omega) (lateT t ht) fun j hj hw => ?_
      obtain ⟨p, hp, hpt⟩ := hWT t j hw
      refine key j i p o hj hp ho ?_ _ hcl hdep
      unfold clashO
      rw [clash_of (x := t) (.inl ⟨by simp [slotsW, hpt], by
        rcases ht with ht | ht
        · exact .inl ht
        · exact .inr (by simp [slotsW, ht])⟩)]
      rfl
    have readH : ∀ r, (r ∈ (if i = i0 then [] else rds i) ∨ r ∈ wrs i) → Hc ld r = Hs i r := by
      intro r hr
      refine lastW_read (fun j => ld.getD j false) (WH r) (fun j => Hs j r) ops.size i (hHw r) (by omega) (lateH r hr) fun j hj hw => ?_
      obtain ⟨p, hp⟩ : ∃ p, ops[j]? = some p := ⟨ops[j]'(by omega), by rw [Array.getElem?_eq_getElem]⟩
      refine key j i p o hj hp ho ?_ _ hcl hdep
      have hwr : r ∈ wrs j := by simpa [WH] using hw
      unfold clashO
      rw [clash_of (x := r) (r1 := if j = i0 then [] else rds j) (w1 := wrs j) (r2 := if i = i0 then [] else rds i) (w2 := wrs i) (.inl ⟨hwr, hr⟩)]
      simp
    have hset : ∀ j, j ≠ i → (fun j => (ld.setIfInBounds i true).getD j false) j = (fun j => ld.getD j false) j := fun j hj => lget_set_ne hj
    have hseti : (fun j => (ld.setIfInBounds i true).getD j false) i = true := lget_set_eq (by omega)
    have Tset : ∀ v, Ts (i + 1) = putT (Ts i) o.dst v → Tc (ld.setIfInBounds i true) = putT (Tc ld) o.dst v := by
      intro v hT
      funext t
      by_cases ht : o.dst = some t
      · have hWi : WT t i = true := by simp [WT, ho, ht]
        have := lastW_new (S := fun j => ld.getD j false) (S' := fun j => (ld.setIfInBounds i true).getD j false) (W := WT t) (n := ops.size) hi hseti hWi hset (fun j hij hj hS => lateT t (.inr ht) j (by omega) hj hS)
        show Ts (lastW _ _ _) t = _
        rw [this, hT, ht]
        simp only [putT, up_at]
      · have hWi : WT t i = false := by simp [WT, ho, ht]
        have := lastW_same (S := fun j => ld.getD j false) (S' := fun j => (ld.setIfInBounds i true).getD j false) (W := WT t) (n := ops.size) hWi hset
        show Ts (lastW _ _ _) t = _
        rw [this]
        cases hdd : o.dst with
        | none => rfl
        | some d => exact (up_ne (fun e => ht (by rw [hdd, e]))).symm
    have Hset : Hc (ld.setIfInBounds i true) = ovr (Hc ld) (wrs i) (Hs (i + 1)) := by
      funext r
      unfold ovr
      by_cases hr : r ∈ wrs i
      · have hWi : WH r i = true := by simp [WH, hr]
        have := lastW_new (S := fun j => ld.getD j false) (S' := fun j => (ld.setIfInBounds i true).getD j false) (W := WH r) (n := ops.size) hi hseti hWi hset (fun j hij hj hS => lateH r (.inr hr) j (by omega) hj hS)
        rw [if_pos hr]
        show Hs (lastW _ _ _) r = _
        rw [this]
      · have hWi : WH r i = false := by simp [WH, hr]
        have := lastW_same (S := fun j => ld.getD j false) (S' := fun j => (ld.setIfInBounds i true).getD j false) (W := WH r) (n := ops.size) hWi hset
        rw [if_neg hr]
        show Hs (lastW _ _ _) r = _
        rw [this]
    have hFr : ∀ r, (m + ops.size ≤ r ∨ ∃ i', i' < ops.size ∧ r = m + i' ∧ (ld.setIfInBounds i true).getD i' false = false) → (m + ops.size ≤ r ∨ ∃ i', i' < ops.size ∧ r = m + i' ∧ ld.getD i' false = false) ∧ r ≠ m + i := by
      intro r hr
      rcases hr with hr | ⟨i', hi', rfl, hl⟩
      · exact ⟨.inl hr, by omega⟩
      · have hne : i' ≠ i := fun e => by rw [e] at hl; rw [lget_set_eq (by omega)] at hl; cases hl
        rw [lget_set_ne hne] at hl
        exact ⟨.inr ⟨i', hi', rfl, hl⟩, by omega⟩
    have hwant : ∀ b, runsT ops (Ts i) o = some b → Region.wanted o (yielded ops a.tmps) = b := fun b hb => hJ.wanted (by rw [runsT_congr fun t ht => readT t (.inl ht)]; exact hb)
    by_cases hii : i = i0
    · subst hii
      obtain ⟨hg, v, hT, hS⟩ := hi0 o hol
      rw [hwant _ hg, if_pos rfl]
      have hHc : Hc ld r0 = Hs i r0 ∨ Hc ld r0 = Hs (j0 + 1) r0 := by
        have hWf : ∀ j, j < j0 → WH r0 j = false := fun j hj => by simpa [WH] using hno j hj
        have hlt : ∀ j, j0 < j → j < ops.size → ld.getD j false = true → WH r0 j = false := by
          intro j hj hj2 hlj
          cases hw : WH r0 j with
          | false => rfl
          | true =>
            exfalso
            obtain ⟨p, hp⟩ : ∃ p, ops[j]? = some p := ⟨ops[j], by rw [Array.getElem?_eq_getElem]⟩
            obtain ⟨mk, hmk2⟩ : ∃ mk, (masks ops.toList [])[j]? = some mk := by
              have hl : j < (masks ops.toList []).length := by rw [masks_len]; simpa using hj2
              exact ⟨_, List.getElem?_eq_getElem hl⟩
            have h1 := hmk j hj hj2 (by simpa [WH] using hw)
            rw [hmk2] at h1
            have := hmask j mk hmk2 (fun j => ld.getD j false) hcl p (by simpa using hp) (hcl j p (by simpa using hp) hlj) i h1
            rw [hil] at this
            cases this
        cases hj0 : ld.getD j0 false with
        | false =>
          refine .inl (lastW_read (fun j => ld.getD j false) (WH r0) (fun j => Hs j r0) ops.size i (hHw r0) (by omega) (fun j h1 h2 h3 => ?_) fun j h1 h2 => ?_)
          · rcases Nat.lt_trichotomy j j0 with h4 | h4 | h4
            · exact hWf j h4
            · subst h4; rw [hj0] at h3; cases h3
            · exact hlt j h4 h2 h3
          · rw [hWf j (by omega)] at h2; cases h2
        | true =>
          refine .inr (lastW_read (fun j => ld.getD j false) (WH r0) (fun j => Hs j r0) ops.size (j0 + 1) (hHw r0) (by omega) (fun j h1 h2 h3 => hlt j (by omega) h2 h3) fun j h1 h2 => ?_)
          by_cases h4 : j = j0
          · subst h4; exact hj0
          · rw [hWf j (by omega)] at h2; cases h2
      have hsop := hS (ev (Tc ld)) (Hc ld) (fun x hx => by
        cases x with
        | tmp t => exact readT t (.inl (by simp only [slotsR, List.mem_append, List.mem_filterMap]; exact .inl ⟨.tmp t, by simpa using hx, rfl⟩))
        | const u => rw [ev_const, ev_const]
        | _ => rfl) hHc
      refine hJ.step hsop (.inr ⟨i, hi, rfl, hil⟩) (by have := hs.1; omega) hd fun a' w' hs' => hK _ _ ?_
      show SimF B n _ (Tc (ld.setIfInBounds i true)) (Hc (ld.setIfInBounds i true)) a' w'
      rw [Tset v hT, Hset, hw0, ovr_nil]
      obtain ⟨X, φ, h1, h2, h3, h4, h5, h6⟩ := hs'
      exact ⟨X, φ, h1, h2, h3, h4, h5, fun r hr => h6 r (hFr r hr)⟩
    · rw [if_neg hii] at readH
      rcases hstep i o hii hol with ⟨hg, v, hLO, hT⟩ | ⟨hg, hT, hH, hrd, hwr⟩
      · rw [hwant _ hg, if_pos rfl]
        have hsop := hLO.2 (ev (Tc ld)) (Hc ld) (fun x hx => by
          cases x with
          | tmp t => exact readT t (.inl (by simp only [slotsR, List.mem_append, List.mem_filterMap]; exact .inl ⟨.tmp t, by simpa using hx, rfl⟩))
          | const u => rw [ev_const, ev_const]
          | _ => rfl) readH
        refine hJ.step hsop (.inr ⟨i, hi, rfl, hil⟩) (by have := hs.1; omega) hd fun a' w' hs' => hK _ _ ?_
        show SimF B n _ (Tc (ld.setIfInBounds i true)) (Hc (ld.setIfInBounds i true)) a' w'
        rw [Tset v hT, Hset]
        obtain ⟨X, φ, h1, h2, h3, h4, h5, h6⟩ := hs'
        exact ⟨X, φ, h1, h2, h3, h4, h5, fun r hr => h6 r (hFr r hr)⟩
      · rw [hwant _ hg, if_neg (by decide)]
        refine hK _ _ ?_
        show SimF B n _ (Tc (ld.setIfInBounds i true)) (Hc (ld.setIfInBounds i true)) _ w
        rw [Tset _ hT, Hset, hwr, ovr_nil]
        obtain ⟨X, φ, h1, h2, h3, h4, h5, h6⟩ := SimF.skip hJ hd
        exact ⟨X, φ, h1, h2, h3, h4, h5, fun r hr => h6 r (hFr r hr).1⟩
  · -- the end
    intro ld a w hJ hsz hall
    refine ⟨rfl, by have := hs.1; omega, ?_⟩
    have hT : Tc ld = Ts ops.size := by
      funext t
      exact lastW_read (fun j => ld.getD j false) (WT t) (fun j => Ts j t) ops.size ops.size (hTw t) (Nat.le_refl _) (fun j h1 h2 => by omega) (fun j hj _ => hall j hj)
    have hH : Hc ld = Hs ops.size := by
      funext r
      exact lastW_read (fun j => ld.getD j false) (WH r) (fun j => Hs j r) ops.size ops.size (hHw r) (Nat.le_refl _) (fun j h1 h2 => by omega) (fun j hj _ => hall j hj)
    rw [← hT, ← hH]
    obtain ⟨X, φ, h1, h2, h3, h4, h5, h6⟩ := hJ
    exact ⟨X, φ, h1, h2, h3, h4, h5, fun r hr => h6 r (.inl hr)⟩
  · -- the start
    have hT : Tc (Array.replicate ops.size false) = Ts 0 := by
      funext t
      show Ts (lastW _ _ _) t = _
      rw [lastW_none h0]
    have hH : Hc (Array.replicate ops.size false) = Hs 0 := by
      funext r
      show Hs (lastW _ _ _) r = _
      rw [lastW_none h0]
    show SimF B n _ (Tc _) (Hc _) a _
    rw [hT, hH]
    obtain ⟨X, φ, h1, h2, h3, h4, h5, h6⟩ := hs.2
    refine ⟨X, φ, ⟨h1.os, h1.tape, h1.output, h1.size, h1.same, h1.bs, h1.xs, h1.xk, h1.ph, h1.lv⟩, h2, h3, ?_, fun t v ht => ?_, fun r hr => h6 r (by rcases hr with hr | ⟨i, _, rfl, _⟩ <;> omega)⟩
    · exact h4.heap rfl
    · exact (h5 t v ht).keep (Nat.le_refl _) (fun _ _ _ => rfl) (fun _ _ => rfl) (fun _ _ h => h) (fun _ _ h => h)
end
section
variable {P : Program} {k n m : Nat} {T : Tp} {H : Hp} {K : Exit → Nat → Tp → Hp → Prop}
/-- a region that draws, in which the operation behind pre reads a block that jo may write before it, and finds the same there -/
theorem W.regionT {ops : Array Oper} {id : Nat} {pre mid post : List Oper} {co jo : Oper} (r0 a jj s m' : Nat) (hops : ops.toList = pre ++ co :: (mid ++ jo :: post)) (ha : pre.length = a) (hjj : a + 1 + mid.length = jj) (hs : m ≤ s) (hm' : s + ops.size = m') (hmx : P.follows .mixedOrders = true) (hdl : dstsLt ops.toList n = true)
    (h : RW P ops s (fun T1 H1 acc1 => runsT ops T1 co = some true ∧ ∃ v c2, (∀ H2, (H2 r0 = H1 r0 ∨ H2 r0 = some c2) → LO P co (ev T1) H2 (s + a) [r0] [] v H2) ∧
      RW P ops s (fun T2 H2 acc2 => runsT ops T2 jo = some true ∧ ∃ v2 rd2 wr2 H3, LO P jo (ev T2) H2 (s + jj) rd2 wr2 v2 H3 ∧ H3 r0 = some c2 ∧ (acc2.all fun x => !x.2.contains r0) = true ∧
        RW P ops s (fun T' H' acc => (indep ops acc && (List.range ops.size).all fun j => decide (j ≤ jj) || ((((masks ops.toList [])[j]?).getD 0).testBit a || !((acc.reverse[j]?).getD ([], [])).2.contains r0)) = true ∧ K .normal m' T' H') (jj + 1) post (putT T2 jo.dst v2) H3 ((rd2, wr2) :: acc2)) (a + 1) mid (putT T1 co.dst v) H1 (([], []) :: acc1)) 0 pre T H []) : W P k n (.region id ops true) m T H K := by
  obtain ⟨Ts1, Hs1, rds1, wrs1, a1, a2, a3, a4, v, c2, a5, a6⟩ := h.trace
  obtain ⟨Ts2, Hs2, rds2, wrs2, b1, b2, b3, b4, v2, rd2, wr2, H3, b5, b6, b7, b8⟩ := a6.trace
  obtain ⟨Ts3, Hs3, rds3, wrs3, d1, d2, d3, d45, d6⟩ := b8.trace
  obtain ⟨d4, d5⟩ := Bool.and_eq_true_iff.1 d45
  clear d45
  have hsz : ops.size = a + 1 + mid.length + 1 + post.length := by rw [← Array.length_toList, hops]; simp; omega
  subst hm'
  simp only [Nat.zero_add, ha] at a3 a4 a5 b1 b2 b7 d4 d5
  rw [hjj] at hsz b4 b5 d1
  obtain ⟨b, hb⟩ : ∃ b, mid.length = b := ⟨_, rfl⟩
  obtain ⟨c, hc⟩ : ∃ c, post.length = c := ⟨_, rfl⟩
  rw [hb] at hjj b7 d4 d5
  rw [hc] at hsz d4 d5 d6
  simp only [ha] at a6 b2
  let Ts : Nat → Tp := fun j => if j ≤ a then Ts1 j else if j ≤ jj then Ts2 j else Ts3 j
  let Hs : Nat → Hp := fun j => if j ≤ a then Hs1 j else if j ≤ jj then Hs2 j else Hs3 j
  let rds : Nat → List Nat := fun j => if j < a then rds1 j else if j = a then [] else if j < jj then rds2 j else if j = jj then rd2 else rds3 j
  let wrs : Nat → List Nat := fun j => if j < a then wrs1 j else if j = a then [] else if j < jj then wrs2 j else if j = jj then wr2 else wrs3 j
  let F : Nat → List Nat × List Nat := fun j => (if j = a then [] else rds j, wrs j)
  have hF1 : (List.range a).map F = (List.range a).map fun j => (rds1 j, wrs1 j) := List.map_congr_left fun j hj => by
    have h1 : j < a := by simpa using hj
    simp [F, rds, wrs, h1, show j ≠ a by omega]
  have hF2 : F a = ([], []) := by simp [F, wrs]
  have hF3 : (List.range b).map (fun j => F (a + 1 + j)) = (List.range b).map fun j => (rds2 (a + 1 + j), wrs2 (a + 1 + j)) := List.map_congr_left fun j hj => by
    have h1 : j < b := by simpa using hj
    simp [F, rds, wrs, show ¬ a + 1 + j < a by omega, show a + 1 + j ≠ a by omega, show a + 1 + j < jj by omega]
  have hF4 : F jj = (rd2, wr2) := by simp [F, rds, wrs, show ¬ jj < a by omega, show jj ≠ a by omega]
  have hF5 : (List.range c).map (fun j => F (jj + 1 + j)) = (List.range c).map fun j => (rds3 (jj + 1 + j), wrs3 (jj + 1 + j)) := List.map_congr_left fun j hj => by
    simp [F, rds, wrs, show ¬ jj + 1 + j < a by omega, show jj + 1 + j ≠ a by omega, show ¬ jj + 1 + j < jj by omega, show jj + 1 + j ≠ jj by omega]
  have hall : (List.range ops.size).map F = ((List.range a).map fun j => (rds1 j, wrs1 j)) ++ ([([], [])] ++ (((List.range b).map fun j => (rds2 (a + 1 + j), wrs2 (a + 1 + j))) ++ ([(rd2, wr2)] ++ (List.range c).map fun j => (rds3 (jj + 1 + j), wrs3 (jj + 1 + j))))) := by
    rw [hsz, List.range_add, List.range_succ]
    rw [show List.range jj = List.range (a + 1 + b) from by rw [hjj], List.range_add, List.range_succ]
    simp only [List.map_append, List.map_map, List.map_cons, List.map_nil, List.append_assoc]
    rw [hF1, hF2, hF4]
    rw [show (F ∘ fun x => a + 1 + x) = fun j => F (a + 1 + j) from rfl, hF3, show (F ∘ fun x => jj + 1 + x) = fun j => F (jj + 1 + j) from rfl, hF5]
  have hrev : ((List.range ops.size).map F).reverse = ((List.range c).map fun j => (rds3 (jj + 1 + j), wrs3 (jj + 1 + j))).reverse ++ (rd2, wr2) :: (((List.range b).map fun j => (rds2 (a + 1 + j), wrs2 (a + 1 + j))).reverse ++ ([], []) :: (((List.range a).map fun j => (rds1 j, wrs1 j)).reverse ++ [])) := by
    rw [hall]; simp only [List.reverse_append, List.reverse_cons, List.append_assoc, List.singleton_append, List.append_nil]; simp
  rw [← hrev] at d4 d5
  have hwrs : ∀ j, j < ops.size → ((List.range ops.size).map F)[j]? = some (F j) := fun j hj => by simp [hj]
  refine ⟨.normal, _, _, _, d6, fun B hB a' w hsim => ?_⟩
  have e := region_anyT (P := P) (n := n) (m := s) (ops := ops) (id := id) (Ts := Ts) (Hs := Hs) (rds := rds) (wrs := wrs) (i0 := a) (j0 := jj) (r0 := r0) (B := B) (a := a') (w := w) hmx hdl ?_ ?_ ?_ ?_ (by omega) (by omega) ?_ ?_ d4 ?_
  · have hT : Ts ops.size = Ts3 (jj + 1 + c) := by simp only [Ts, hsz, show ¬ jj + 1 + c ≤ a by omega, show ¬ jj + 1 + c ≤ jj by omega, if_false]
    have hH : Hs ops.size = Hs3 (jj + 1 + c) := by simp only [Hs, hsz, show ¬ jj + 1 + c ≤ a by omega, show ¬ jj + 1 + c ≤ jj by omega, if_false]
    rw [hT, hH] at e
    exact e
  · intro j o hj ho
    rw [hops] at ho
    rcases Nat.lt_or_ge j a with h1 | h1
    · rw [List.getElem?_append_left (by omega)] at ho
      simp only [Ts, Hs, rds, wrs, h1, show j ≤ a by omega, show j + 1 ≤ a by omega, if_true]
      exact a3 j o ho
    · obtain ⟨i, rfl⟩ : ∃ i, j = a + 1 + i := ⟨j - (a + 1), by omega⟩
      rw [List.getElem?_append_right (by omega), show a + 1 + i - pre.length = i + 1 from by omega, List.getElem?_cons_succ] at ho
      rcases Nat.lt_trichotomy i b with h2 | h2 | h2
      · rw [List.getElem?_append_left (by omega)] at ho
        simp only [Ts, Hs, rds, wrs, show ¬ a + 1 + i < a by omega, show ¬ a + 1 + i = a by omega, show a + 1 + i < jj by omega, show ¬ a + 1 + i ≤ a by omega, show ¬ a + 1 + i + 1 ≤ a by omega, show a + 1 + i ≤ jj by omega, show a + 1 + i + 1 ≤ jj by omega, if_true, if_false]
        exact b3 i o ho
      · rw [List.getElem?_append_right (by omega), show i - mid.length = 0 from by omega] at ho
        simp at ho
        subst ho
        have hij : a + 1 + i = jj := by omega
        rw [hij]
        simp only [Ts, Hs, rds, wrs, show ¬ jj < a by omega, show ¬ jj = a by omega, show ¬ jj < jj by omega, show ¬ jj ≤ a by omega, show ¬ jj + 1 ≤ a by omega, Nat.le_refl, show ¬ jj + 1 ≤ jj by omega, if_true, if_false]
        exact .inl ⟨b4, v2, by rw [d2]; exact b5, d1⟩
      · obtain ⟨q, rfl⟩ : ∃ q, i = b + 1 + q := ⟨i - (b + 1), by omega⟩
        rw [List.getElem?_append_right (by omega), show b + 1 + q - mid.length = q + 1 from by omega, List.getElem?_cons_succ] at ho
        have hij : a + 1 + (b + 1 + q) = jj + 1 + q := by omega
        rw [hij]
        simp only [Ts, Hs, rds, wrs, show ¬ jj + 1 + q < a by omega, show ¬ jj + 1 + q = a by omega, show ¬ jj + 1 + q < jj by omega, show ¬ jj + 1 + q = jj by omega, show ¬ jj + 1 + q ≤ a by omega, show ¬ jj + 1 + q + 1 ≤ a by omega, show ¬ jj + 1 + q ≤ jj by omega, show ¬ jj + 1 + q + 1 ≤ jj by omega, if_false]
        exact d3 q o ho
  · intro o ho
    rw [hops, List.getElem?_append_right (by omega), show a - pre.length = 0 from by omega] at ho
    simp at ho
    subst ho
    have hT1 : Ts a = Ts1 a := by simp only [Ts, Nat.le_refl, if_true]
    have hT2 : Ts (a + 1) = Ts2 (a + 1) := by simp only [Ts, show ¬ a + 1 ≤ a by omega, show a + 1 ≤ jj by omega, if_true, if_false]
    have hH1 : Hs a = Hs1 a := by simp only [Hs, Nat.le_refl, if_true]
    have hH2 : Hs (jj + 1) = Hs3 (jj + 1) := by simp only [Hs, show ¬ jj + 1 ≤ a by omega, show ¬ jj + 1 ≤ jj by omega, if_false]
    rw [hT1, hT2, hH1, hH2]
    refine ⟨a4, v, b1, fun E' K' hE hK => ?_⟩
    have hl := a5 K' (hK.imp (fun h => h) fun h => by rw [h, d2]; exact b6)
    have := hl.2 E' K' hE (fun _ _ => rfl)
    rwa [ovr_nil] at this
  · simp only [wrs, show ¬ a < a by omega, if_true, if_false]
  · simp only [Hs, show ¬ a + 1 ≤ a by omega, show a + 1 ≤ jj by omega, Nat.le_refl, if_true, if_false]
    exact b2
  · intro j hj
    have hin : ((if j = a then [] else rds j), wrs j) ∈ (((List.range b).map fun j => (rds2 (a + 1 + j), wrs2 (a + 1 + j))).reverse ++ ([], []) :: (((List.range a).map fun j => (rds1 j, wrs1 j)).reverse ++ [])) := by
      have h1 := hwrs j (by omega)
      rw [hall] at h1
      have h2 : F j = F j := rfl
      rcases Nat.lt_trichotomy j a with h3 | h3 | h3
      · have : F j ∈ (List.range a).map F := List.mem_map.2 ⟨j, by simpa using h3, rfl⟩
        rw [hF1] at this
        show F j ∈ _
        simp only [List.mem_append, List.mem_reverse, List.mem_cons]
        exact .inr (.inr (.inl this))
      · subst h3
        show F j ∈ _
        rw [hF2]
        simp
      · have : F j ∈ (List.range b).map (fun i => F (a + 1 + i)) := List.mem_map.2 ⟨j - (a + 1), by simp; omega, by congr 1; omega⟩
        rw [hF3] at this
        show F j ∈ _
        simp only [List.mem_append, List.mem_reverse, List.mem_cons]
        exact .inl this
    have := List.all_eq_true.1 b7 _ hin
    simpa using this
  · intro j h1 h2 h3
    have := List.all_eq_true.1 d5 j (by simpa using h2)
    rw [List.reverse_reverse, hwrs j h2] at this
    simp only [Option.getD_some, Bool.or_eq_true, decide_eq_true_eq, Bool.not_eq_true'] at this
    rcases this with h4 | h4 | h4
    · omega
    · exact h4
    · have h5 : (F j).2 = wrs j := rfl
      rw [h5] at h4
      simp at h4
      exact absurd h3 h4
  · have hT : Ts 0 = T := by simp only [Ts, Nat.zero_le, if_true]; exact a1
    have hH : Hs 0 = H := by simp only [Hs, Nat.zero_le, if_true]; exact a2
    rw [hT, hH]
    exact hsim.more hs
end
end Go.Proofs.YtbjfaepjpmogjaaDoor
