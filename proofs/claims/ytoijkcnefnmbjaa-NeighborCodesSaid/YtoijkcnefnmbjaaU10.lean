/-
  Code and calls over values without addresses.
-/
import Derived.Test.YtoijkcnefnmbjaaU9
namespace Go.Proofs.Ytoijkcnefnmbjaa
open Go.RowKit

/-! values that name nothing that is owned -/
def AV.pure1 : AV → Bool
  | .own _ _ | .osl _ _ _ _ | .agg _ | .tup _ => false
  | _ => true
def AV.pure2 : AV → Bool
  | .agg cs => cs.all AV.pure1
  | a => a.pure1
def AV.pure : AV → Bool
  | .tup vs => vs.all AV.pure2
  | a => a.pure2
section
variable {X : Nat → Prop} {w : World} {φ φ' : Em} {v : Value} {a : AV}
theorem Rep.pure1 (h : Rep X w φ v a) (hp : a.pure1 = true) : Rep X w φ' v a := by
  cases h with
  | base v => exact .base v
  | nils => exact .nils
  | agg _ _ _ _ _ => simp [AV.pure1] at hp
  | tup _ _ _ _ => simp [AV.pure1] at hp
  | own _ _ _ _ _ => simp [AV.pure1] at hp
  | osl _ _ _ _ _ _ _ _ _ _ => simp [AV.pure1] at hp
  | osl0 _ _ _ _ => simp [AV.pure1] at hp
  | imm cs off b o us hb hx h1 hc h => exact .imm cs off b o us hb hx h1 hc h
  | isl0 A cap => exact .isl0 A cap
  | isl cs len cap b o us hb hx hcap h1 hc h => exact .isl cs len cap b o us hb hx hcap h1 hc h
theorem Rep.pure2 (h : Rep X w φ v a) (hp : a.pure2 = true) : Rep X w φ' v a := by
  by_cases hq : ∃ cs, a = .agg cs
  · obtain ⟨cs, rfl⟩ := hq
    cases h with
    | agg vs _ hl h1 h => exact .agg vs cs hl h1 fun i v c hv hc => (h i v c hv hc).pure1 (List.all_eq_true.1 hp c (List.mem_of_getElem? hc))
  · refine h.pure1 ?_
    cases a <;> first | exact hp | (exact absurd ⟨_, rfl⟩ hq)
theorem Rep.pure (h : Rep X w φ v a) (hp : a.pure = true) : Rep X w φ' v a := by
  by_cases hq : ∃ vs, a = .tup vs
  · obtain ⟨vs, rfl⟩ := hq
    cases h with
    | tup us _ hl h => exact .tup us vs hl fun i v c hv hc => (h i v c hv hc).pure2 (List.all_eq_true.1 hp c (List.mem_of_getElem? hc))
  · refine h.pure2 ?_
    cases a <;> first | exact hp | (exact absurd ⟨_, rfl⟩ hq)
end

/-! code -/
def W (P : Program) (k n : Nat) (c : Code) (m : Nat) (T : Tp) (H : Hp) (K : Exit → Nat → Tp → Hp → Prop) : Prop :=
  ∃ e m' T' H', K e m' T' H' ∧ ∀ B : Base, B.k = k → ∀ a w, Sim B n m T H a w → c.wp P (fun e' a' w' => e' = e ∧ Sim B n m' T' H' a' w') a w

def thenK (next : Nat → Tp → Hp → Prop) (K : Exit → Nat → Tp → Hp → Prop) : Exit → Nat → Tp → Hp → Prop
  | .normal, m, T, H => next m T H
  | e, m, T, H => K e m T H
def blockK (id : Nat) (K : Exit → Nat → Tp → Hp → Prop) : Exit → Nat → Tp → Hp → Prop
  | .exit j, m, T, H => match Nat.beq j id with
    | true => K .normal m T H
    | false => K (.exit j) m T H
  | e, m, T, H => K e m T H

section
variable {P : Program} {k n m : Nat} {T : Tp} {H : Hp} {K : Exit → Nat → Tp → Hp → Prop}

theorem W.mono {c : Code} {K' : Exit → Nat → Tp → Hp → Prop} (h : W P k n c m T H K) (hk : ∀ e m T H, K e m T H → K' e m T H) : W P k n c m T H K' := by
  obtain ⟨e, m', T', H', h1, h2⟩ := h
  exact ⟨e, m', T', H', hk _ _ _ _ h1, h2⟩
theorem W.seq {x y : Code} (h : W P k n x m T H (thenK (fun m T H => W P k n y m T H K) K)) : W P k n (.seq x y) m T H K := by
  obtain ⟨e, m', T', H', h1, h2⟩ := h
  cases e with
  | normal =>
    obtain ⟨e2, m2, T2, H2, h3, h4⟩ := h1
    exact ⟨e2, m2, T2, H2, h3, fun B hB a w hs => wp_seq (wp_mono (h2 B hB a w hs) fun e a w ⟨he, hs'⟩ => by subst he; exact h4 B hB a w hs')⟩
  | exit j => exact ⟨_, m', T', H', h1, fun B hB a w hs => wp_seq (wp_mono (h2 B hB a w hs) fun e a w ⟨he, hs'⟩ => by subst he; exact ⟨rfl, hs'⟩)⟩
  | goto l => exact ⟨_, m', T', H', h1, fun B hB a w hs => wp_seq (wp_mono (h2 B hB a w hs) fun e a w ⟨he, hs'⟩ => by subst he; exact ⟨rfl, hs'⟩)⟩
  | ret => exact ⟨_, m', T', H', h1, fun B hB a w hs => wp_seq (wp_mono (h2 B hB a w hs) fun e a w ⟨he, hs'⟩ => by subst he; exact ⟨rfl, hs'⟩)⟩
  | panic ch => exact ⟨_, m', T', H', h1, fun B hB a w hs => wp_seq (wp_mono (h2 B hB a w hs) fun e a w ⟨he, hs'⟩ => by subst he; exact ⟨rfl, hs'⟩)⟩
  | outgrown => exact ⟨_, m', T', H', h1, fun B hB a w hs => wp_seq (wp_mono (h2 B hB a w hs) fun e a w ⟨he, hs'⟩ => by subst he; exact ⟨rfl, hs'⟩)⟩
theorem W.skip (h : K .normal m T H) : W P k n .skip m T H K := ⟨_, _, _, _, h, fun _B _hB _a _w hs => wp_skip ⟨rfl, hs⟩⟩
theorem W.exit {id : Nat} (h : K (.exit id) m T H) : W P k n (.exit id) m T H K := ⟨_, _, _, _, h, fun _B _hB _a _w hs => wp_exit ⟨rfl, hs⟩⟩
theorem W.ret (h : K .ret m T H) : W P k n .ret m T H K := ⟨_, _, _, _, h, fun _B _hB _a _w hs => wp_ret ⟨rfl, hs⟩⟩
theorem SimF.eval {B : Base} {Fr : Nat → Prop} {a : Act} {w : World} {x : Operand} {b : Bool} (hs : SimF B n Fr T H a w) (h : ev T x = some (.base (.bool b))) : a.eval x = .bool b := by
  obtain ⟨X, φ, h1, h2, h3, h4, h5, h6⟩ := hs
  cases x with
  | tmp t => exact (h5 t _ h).base_eq
  | const u =>
    rw [ev_const] at h
    injection h with h
    unfold absC at h
    split at h
    · cases h
    · injection h with h
  | global g => cases h
  | func g => injection h with h; injection h with h
theorem W.cond {x : Operand} {c d : Code} {b : Bool} (hx : ev T x = some (.base (.bool b))) (ht : b = true → W P k n c m T H K) (hf : b = false → W P k n d m T H K) : W P k n (.cond x c d) m T H K := by
  cases b with
  | true =>
    obtain ⟨e, m', T', H', h1, h2⟩ := ht rfl
    exact ⟨e, m', T', H', h1, fun B hB a w hs => wp_cond_true (hs.2.eval hx) (h2 B hB a w hs)⟩
  | false =>
    obtain ⟨e, m', T', H', h1, h2⟩ := hf rfl
    exact ⟨e, m', T', H', h1, fun B hB a w hs => wp_cond_false (hs.2.eval hx) (h2 B hB a w hs)⟩
theorem W.cond_t {x : Operand} {c d : Code} {b : Bool} (hx : ev T x = some (.base (.bool b))) (hb : b = true) (ht : W P k n c m T H K) : W P k n (.cond x c d) m T H K :=
  W.cond hx (fun _ => ht) (fun h => by rw [hb] at h; cases h)
theorem W.cond_f {x : Operand} {c d : Code} {b : Bool} (hx : ev T x = some (.base (.bool b))) (hb : b = false) (hf : W P k n d m T H K) : W P k n (.cond x c d) m T H K :=
  W.cond hx (fun h => by rw [hb] at h; cases h) (fun _ => hf)
theorem W.block {id : Nat} {c : Code} (h : W P k n c m T H (blockK id K)) : W P k n (.block id c) m T H K := by
  obtain ⟨e, m', T', H', h1, h2⟩ := h
  by_cases he : e = .exit id
  · subst he
    simp only [blockK, Nat.beq_refl] at h1
    exact ⟨.normal, m', T', H', h1, fun B hB a w hs => wp_block (wp_mono (h2 B hB a w hs) fun e a w ⟨he, hs'⟩ => by subst he; simp only [Exit.inBlock, if_true]; first | exact ⟨rfl, hs'⟩ | exact ⟨trivial, hs'⟩)⟩
  · refine ⟨e, m', T', H', ?_, fun B hB a w hs => wp_block (wp_mono (h2 B hB a w hs) fun e' a w ⟨he', hs'⟩ => ?_)⟩
    · cases e <;> try exact h1
      rename_i j
      simp only [blockK] at h1
      have hb : Nat.beq j id = false := by
        cases hb : Nat.beq j id with
        | true => exact absurd (by rw [Nat.eq_of_beq_eq_true hb]) he
        | false => rfl
      rwa [hb] at h1
    · subst he'
      cases e' <;> try exact ⟨rfl, hs'⟩
      rename_i j
      simp only [Exit.inBlock]
      rw [if_neg (fun e => he (by rw [e]))]
      first | exact ⟨rfl, hs'⟩ | exact ⟨trivial, hs'⟩

/-- a loop, some rounds of it -/
def WLn (P : Program) (k n : Nat) (c : Code) (K : Exit → Nat → Tp → Hp → Prop) : Nat → Nat → Tp → Hp → Prop
  | 0, _, _, _ => False
  | r + 1, m, T, H => W P k n c m T H (thenK (fun m T H => WLn P k n c K r m T H) K)
def WL (P : Program) (k n : Nat) (c : Code) (m : Nat) (T : Tp) (H : Hp) (K : Exit → Nat → Tp → Hp → Prop) : Prop := ∃ r, WLn P k n c K r m T H
theorem WL.step {c : Code} (h : W P k n c m T H (thenK (fun m T H => WL P k n c m T H K) K)) : WL P k n c m T H K := by
  obtain ⟨e, m', T', H', h1, h2⟩ := h
  cases e with
  | normal =>
    obtain ⟨r, hr⟩ := h1
    exact ⟨r + 1, .normal, m', T', H', hr, h2⟩
  | exit j => exact ⟨1, .exit j, m', T', H', h1, h2⟩
  | goto l => exact ⟨1, .goto l, m', T', H', h1, h2⟩
  | ret => exact ⟨1, .ret, m', T', H', h1, h2⟩
  | panic ch => exact ⟨1, .panic ch, m', T', H', h1, h2⟩
  | outgrown => exact ⟨1, .outgrown, m', T', H', h1, h2⟩
theorem W.loop {c : Code} (h : WL P k n c m T H K) : W P k n (.loop c) m T H K := by
  obtain ⟨r, hr⟩ := h
  have key : ∀ r m T H, WLn P k n c K r m T H → ∃ e m' T' H', K e m' T' H' ∧ ∀ B : Base, B.k = k → ∀ a w, Sim B n m T H a w → Code.rounds P c (fun e' a' w' => e' = e ∧ Sim B n m' T' H' a' w') r a w := by
    intro r
    induction r with
    | zero => intro m T H h; exact h.elim
    | succ r ih =>
      intro m T H h
      obtain ⟨e, m', T', H', h1, h2⟩ := h
      cases e with
      | normal =>
        obtain ⟨e2, m2, T2, H2, h3, h4⟩ := ih m' T' H' h1
        refine ⟨e2, m2, T2, H2, h3, fun B hB a w hs => ?_⟩
        rw [rounds_succ]
        exact wp_mono (h2 B hB a w hs) fun e a w ⟨he, hs'⟩ => by subst he; exact h4 B hB a w hs'
      | exit j => exact ⟨_, m', T', H', h1, fun B hB a w hs => by rw [rounds_succ]; exact wp_mono (h2 B hB a w hs) fun e a w ⟨he, hs'⟩ => by subst he; exact ⟨rfl, hs'⟩⟩
      | goto l => exact ⟨_, m', T', H', h1, fun B hB a w hs => by rw [rounds_succ]; exact wp_mono (h2 B hB a w hs) fun e a w ⟨he, hs'⟩ => by subst he; exact ⟨rfl, hs'⟩⟩
      | ret => exact ⟨_, m', T', H', h1, fun B hB a w hs => by rw [rounds_succ]; exact wp_mono (h2 B hB a w hs) fun e a w ⟨he, hs'⟩ => by subst he; exact ⟨rfl, hs'⟩⟩
      | panic ch => exact ⟨_, m', T', H', h1, fun B hB a w hs => by rw [rounds_succ]; exact wp_mono (h2 B hB a w hs) fun e a w ⟨he, hs'⟩ => by subst he; exact ⟨rfl, hs'⟩⟩
      | outgrown => exact ⟨_, m', T', H', h1, fun B hB a w hs => by rw [rounds_succ]; exact wp_mono (h2 B hB a w hs) fun e a w ⟨he, hs'⟩ => by subst he; exact ⟨rfl, hs'⟩⟩
  obtain ⟨e, m', T', H', h1, h2⟩ := key r m T H hr
  exact ⟨e, m', T', H', h1, fun B hB a w hs => wp_loop_rounds r (h2 B hB a w hs)⟩

theorem Sim.more {B : Base} {s : Nat} {a : Act} {w : World} (h : Sim B n m T H a w) (hs : m ≤ s) : Sim B n s T H a w := by
  obtain ⟨h0, X, φ, h1, h2, h3, h4, h5, h6⟩ := h
  exact ⟨by omega, X, φ, h1, h2, h3, h4, h5, fun r hr => h6 r (by omega)⟩

theorem W.region {ops : Array Oper} {id : Nat} (s m' : Nat) (hs : m ≤ s) (hm' : s + ops.size = m') (hdl : dstsLt ops.toList n = true) (h : RW P ops s (fun T' H' _ => K .normal m' T' H') 0 ops.toList T H []) : W P k n (.region id ops false) m T H K := by
  obtain ⟨Ts, Hs, rds, wrs, h1, h2, h3, h4⟩ := h.trace
  simp only [Nat.zero_add, Array.length_toList] at h3 h4
  refine ⟨.normal, m', Ts ops.size, Hs ops.size, h4, fun B hB a w hsim => ?_⟩
  subst hm'
  refine region_seq (m := s) (rds := rds) (wrs := wrs) (by have := hsim.1; omega) hdl h3 ?_
  rw [h1, h2]
  exact hsim.more hs
theorem W.regionD {ops : Array Oper} {id : Nat} (s m' : Nat) (hs : m ≤ s) (hm' : s + ops.size = m') (hmx : P.follows .mixedOrders = true) (hdl : dstsLt ops.toList n = true) (h : RW P ops s (fun T' H' acc => indep ops acc = true ∧ K .normal m' T' H') 0 ops.toList T H []) : W P k n (.region id ops true) m T H K := by
  obtain ⟨Ts, Hs, rds, wrs, h1, h2, h3, h4⟩ := h.trace
  simp only [Nat.zero_add, Array.length_toList, List.append_nil] at h3 h4
  refine ⟨.normal, m', Ts ops.size, Hs ops.size, h4.2, fun B hB a w hsim => ?_⟩
  subst hm'
  refine region_any (m := s) (rds := rds) (wrs := wrs) hmx hdl h3 h4.1 ?_
  rw [h1, h2]
  exact hsim.more hs

/-- what is no longer needed is left out -/
theorem W.forget {c : Code} {T' : Tp} {H' : Hp} (h : W P k n c m T' H' K) (hT : ∀ t v, T' t = some v → T t = some v) (hH : ∀ r cs, H' r = some cs → H r = some cs) : W P k n c m T H K := by
  obtain ⟨e, m2, T2, H2, h1, h2⟩ := h
  refine ⟨e, m2, T2, H2, h1, fun B hB a w hs => h2 B hB a w ?_⟩
  obtain ⟨h0, X, φ, g1, g2, g3, g4, g5, g6⟩ := hs
  exact ⟨h0, X, φ, g1.drop hH, g2, g3, g4.drop hH, fun t v ht => g5 t v (hT t v ht), g6⟩
end

/-! the walk of a region, a step at a time -/
section
variable {P : Program} {ops : Array Oper} {m i : Nat} {K : Tp → Hp → List (List Nat × List Nat) → Prop} {o : Oper} {l : List Oper} {T : Tp} {H H' : Hp} {acc : List (List Nat × List Nat)} {rd wr : List Nat} {v : AV} {d j t : Nat} {b x : Bool}
theorem RW.opd (hg : o.guard = none) (hd : o.dst = some d) (h : LO P o (ev T) H (m + i) rd wr v H') (k : RW P ops m K (i + 1) l (up T d (some v)) H' ((rd, wr) :: acc)) : RW P ops m K i (o :: l) T H acc :=
  .op (by unfold runsT; rw [hg]) h (by rw [hd]; exact k)
theorem RW.opn (hg : o.guard = none) (hd : o.dst = none) (h : LO P o (ev T) H (m + i) rd wr v H') (k : RW P ops m K (i + 1) l T H' ((rd, wr) :: acc)) : RW P ops m K i (o :: l) T H acc :=
  .op (by unfold runsT; rw [hg]) h (by rw [hd]; exact k)
theorem RW.gd (hg : o.guard = some (j, b)) (hj : dstAt ops j = some t) (ht : T t = some (.base (.bool x))) (hx : x = b) (hd : o.dst = some d) (h : LO P o (ev T) H (m + i) rd wr v H') (k : RW P ops m K (i + 1) l (up T d (some v)) H' ((rd, wr) :: acc)) : RW P ops m K i (o :: l) T H acc :=
  .op (by unfold runsT; rw [hg]; simp only [hj, ht, hx]; simp) h (by rw [hd]; exact k)
theorem RW.gn (hg : o.guard = some (j, b)) (hj : dstAt ops j = some t) (ht : T t = some (.base (.bool x))) (hx : x = b) (hd : o.dst = none) (h : LO P o (ev T) H (m + i) rd wr v H') (k : RW P ops m K (i + 1) l T H' ((rd, wr) :: acc)) : RW P ops m K i (o :: l) T H acc :=
  .op (by unfold runsT; rw [hg]; simp only [hj, ht, hx]; simp) h (by rw [hd]; exact k)
theorem RW.sd (hg : o.guard = some (j, b)) (hj : dstAt ops j = some t) (ht : T t = some (.base (.bool x))) (hx : x = !b) (hd : o.dst = some d) (k : RW P ops m K (i + 1) l (up T d (some (.base undef))) H (([], []) :: acc)) : RW P ops m K i (o :: l) T H acc :=
  .skip (by unfold runsT; rw [hg]; simp only [hj, ht, hx]; cases b <;> rfl) (by rw [hd]; exact k)
theorem RW.sn (hg : o.guard = some (j, b)) (hj : dstAt ops j = some t) (ht : T t = some (.base (.bool x))) (hx : x = !b) (hd : o.dst = none) (k : RW P ops m K (i + 1) l T H (([], []) :: acc)) : RW P ops m K i (o :: l) T H acc :=
  .skip (by unfold runsT; rw [hg]; simp only [hj, ht, hx]; cases b <;> rfl) (by rw [hd]; exact k)
theorem RW.ud (hg : o.guard = some (j, b)) (hj : dstAt ops j = some t) (ht : T t = some (.base undef)) (hd : o.dst = some d) (k : RW P ops m K (i + 1) l (up T d (some (.base undef))) H (([], []) :: acc)) : RW P ops m K i (o :: l) T H acc :=
  .skip (by unfold runsT; rw [hg]; simp only [hj, ht, undef]) (by rw [hd]; exact k)
theorem RW.un (hg : o.guard = some (j, b)) (hj : dstAt ops j = some t) (ht : T t = some (.base undef)) (hd : o.dst = none) (k : RW P ops m K (i + 1) l T H (([], []) :: acc)) : RW P ops m K i (o :: l) T H acc :=
  .skip (by unfold runsT; rw [hg]; simp only [hj, ht, undef]) (by rw [hd]; exact k)
end

/-! calls -/
def AFn (P : Program) (f : FuncId) (k : Nat) (args : List AV) (H : Hp) (v : AV) (H' : Hp) : Prop :=
  ∀ (X : Nat → Prop) (φ : Em) (w : World) (vals : Array Value), vals.size = args.length → (∀ (i : Nat) x a, vals[i]? = some x → args[i]? = some a → Rep X w φ x a) → St X φ H w → (∀ r, k ≤ r → φ r = none) →
    Calls P f vals w fun e w' => ∃ x X' φ', e = .returned x ∧ Nxt H (fun r => k ≤ r) X φ w H' X' φ' w' ∧ St X' φ' H' w' ∧ Rep X' w' φ' x v

inductive RV (P : Program) (T : Tp) (H : Hp) : ResultVar → AV → Prop
  | tmp {t : Tmp} {v : AV} (h : T t = some v) : RV P T H (.tmp t) v
  | cell {t : Tmp} {ty r off : Nat} {cs : List AV} {v : AV} {l : Lay} {s b : Nat} {z : List AV} (h : T t = some (.own r off)) (hH : H r = some cs) (ht : TyOK P ty l s b z) (hg : l.agg = false) (hv : cs[off]? = some v) : RV P T H (.cell t ty) v
  | cellA {t : Tmp} {ty r off : Nat} {cs vs : List AV} {l : Lay} {s b : Nat} {z : List AV} (h : T t = some (.own r off)) (hH : H r = some cs) (ht : TyOK P ty l s b z) (hg : l.agg = true) (hv : Tk cs off s vs) : RV P T H (.cell t ty) (.agg vs)
inductive RVs (P : Program) (T : Tp) (H : Hp) : List ResultVar → List AV → Prop
  | nil : RVs P T H [] []
  | cons {r : ResultVar} {rs : List ResultVar} {v : AV} {vs : List AV} (h : RV P T H r v) (hs : RVs P T H rs vs) : RVs P T H (r :: rs) (v :: vs)
def retOf : List AV → AV
  | [v] => v
  | vs => .tup vs

section
variable {P : Program} {T : Tp} {H : Hp} {X : Nat → Prop} {φ : Em} {a : Act} {w : World}
theorem RV.run {r : ResultVar} {v : AV} (h : RV P T H r v) (hst : St X φ H w) (hT : ∀ t v, T t = some v → Rep X w φ (a.tmps.getD t undef) v) :
    ∃ x, ((match r with | .tmp t => pure (a.tmps.getD t undef) | .cell q t => do loadVar t (← asAddr (a.tmps.getD q undef)) : Sem Value)).run P w = .ok x w ∧ Rep X w φ x v := by
  cases h with
  | tmp h => exact ⟨_, rfl, hT _ _ h⟩
  | cell h hH ht hg hv =>
    obtain ⟨b, o, hp, e⟩ := (hT _ _ h).own_inv
    obtain ⟨c, el, hX, hh, hcs⟩ := hst.cells hH hp
    obtain ⟨_, u, hu, hr⟩ := hcs _ _ hv
    refine ⟨u, ?_, hr⟩
    simp only [e, asAddr, Sem.run_bind, Sem.run_pure, Result.andThen_ok, loadVar, ht.isAgg, hg, Bool.false_eq_true, if_false]
    exact run_load_at (by rw [cell_of hh]; exact hu)
  | cellA h hH ht hg hv =>
    rename_i t ty r off cs vs l s b' z
    obtain ⟨b, o, hp, e⟩ := (hT _ _ h).own_inv
    obtain ⟨c, el, hX, hh, hcs⟩ := hst.cells hH hp
    obtain ⟨us, h1, h2, h3⟩ := run_cells (P := P) (X := X) (φ := φ) (w := w) (b := b) (i := o + off) vs fun j d hj => by
      obtain ⟨_, u, hu, hr⟩ := hcs (off + j) d (hv.2 j d hj)
      exact ⟨u, by rw [cell_of hh, Nat.add_assoc]; exact hu, hr⟩
    rw [hv.1] at h2
    refine ⟨.agg us, ?_, .agg _ _ h1 (fun i d hi => (hcs _ d (hv.2 i d hi)).1) fun i u d hu hi => ?_⟩
    · simp only [e, asAddr, Sem.run_bind, Sem.run_pure, Result.andThen_ok, loadVar, ht.isAgg, hg, if_true, ht.sizeOf, h2]
    · obtain ⟨u', hu', _, hr⟩ := h3 i d hi
      rw [hu] at hu'
      injection hu' with hu'
      subst hu'
      exact hr
theorem RVs.run {rs : List ResultVar} {vs : List AV} (h : RVs P T H rs vs) (hst : St X φ H w) (hT : ∀ t v, T t = some v → Rep X w φ (a.tmps.getD t undef) v) :
    ∃ xs : List Value, (rs.mapM fun r => (match r with | .tmp t => pure (a.tmps.getD t undef) | .cell q t => do loadVar t (← asAddr (a.tmps.getD q undef)) : Sem Value)).run P w = .ok xs w ∧ xs.length = vs.length ∧ ∀ (i : Nat) x v, xs[i]? = some x → vs[i]? = some v → Rep X w φ x v := by
  induction h with
  | nil => exact ⟨[], rfl, rfl, fun i x v h => by simp at h⟩
  | cons h _ ih =>
    obtain ⟨x, h1, h2⟩ := h.run hst hT
    obtain ⟨xs, h3, h4, h5⟩ := ih
    refine ⟨x :: xs, ?_, by simp [h4], fun i y v hy hv => ?_⟩
    · simp only [List.mapM_cons, Sem.run_bind, h1, Result.andThen_ok, h3, Sem.run_pure]
    · cases i with
      | zero => simp at hy hv; subst hy hv; exact h2
      | succ i => exact h5 i y v (by simpa using hy) (by simpa using hv)
theorem results_run {fn : Func} {vs : List AV} (h : RVs P T H fn.results.toList vs) (hst : St X φ H w) (hT : ∀ t v, T t = some v → Rep X w φ (a.tmps.getD t undef) v) : ∃ x, (results fn a.tmps).run P w = .ok x w ∧ Rep X w φ x (retOf vs) := by
  obtain ⟨xs, h1, h2, h3⟩ := h.run hst hT
  unfold results
  have he : (fn.results.mapM fun r => (match r with | .tmp t => pure (a.tmps.getD t undef) | .cell q t => do loadVar t (← asAddr (a.tmps.getD q undef)) : Sem Value)).run P w = .ok xs.toArray w := by
    rw [Array.mapM_eq_mapM_toList, Sem.run_map, h1]
    rfl
  refine ⟨if h : xs.toArray.size = 1 then xs.toArray[0] else .tuple xs.toArray, ?_, ?_⟩
  · rw [Sem.run_bind]
    refine (congrArg (fun r => Result.andThen r _) he).trans ?_
    simp only [Result.andThen_ok, Sem.run_pure]
  · by_cases hl : xs.toArray.size = 1
    · rw [dif_pos hl]
      have hl1 : xs.length = 1 := by simpa using hl
      obtain ⟨x, rfl⟩ := List.length_eq_one_iff.1 hl1
      obtain ⟨v, rfl⟩ := List.length_eq_one_iff.1 (h2 ▸ hl1 : vs.length = 1)
      exact h3 0 x v rfl rfl
    · rw [dif_neg hl]
      have hl1 : vs.length ≠ 1 := by rw [← h2]; simpa using hl
      have hr : retOf vs = .tup vs := by
        match vs, hl1 with
        | [], _ => rfl
        | [v], h => exact absurd rfl h
        | _ :: _ :: _, _ => rfl
      rw [hr]
      exact .tup _ _ (by simpa using h2) fun i x v hx hv => h3 i x v (by simpa using hx) hv
end

/-- how a body ends -/
def RetK (P : Program) (fn : Func) (K : AV → Hp → Prop) : Exit → Nat → Tp → Hp → Prop := fun e _ T H => (e = .ret ∨ e = .normal) ∧ ∃ vs H', RVs P T H fn.results.toList vs ∧ (∀ r cs, H' r = some cs → H r = some cs) ∧ K (retOf vs) H'

theorem AFn.of_W {P : Program} {f : FuncId} {fn : Func} {code : Code} {k n : Nat} {args : List AV} {H : Hp} {K : AV → Hp → Prop} (hf : P.funcs[f]? = some fn) (hb : fn.body = some code) (hn : fn.ntmps = n) (hl : args.length ≤ n)
    (h : W P k n code k (fun t => args[t]?) H (RetK P fn K)) : ∃ v H', AFn P f k args H v H' ∧ K v H' := by
  obtain ⟨e, m', T', H', ⟨he, vs, H'', hv, hsub, hK⟩, h2⟩ := h
  refine ⟨_, H'', fun X φ w vals hsz hR hst hφ => ?_, hK⟩
  refine calls_of_wp hf hb ?_
  let B : Base := ⟨w, X, φ, H, k⟩
  have hsim : Sim B n k (fun t => args[t]?) H { tmps := vals ++ Array.replicate (fn.ntmps - vals.size) undef, defers := [] } w := by
    refine ⟨Nat.le_refl _, X, φ, Nxt.refl _ _ _ _ _, by simp; omega, rfl, hst, fun t v ht => ?_, hφ⟩
    have hlt : t < args.length := (List.getElem?_eq_some_iff.1 ht).1
    have hlv : t < vals.size := by omega
    have : (vals ++ Array.replicate (fn.ntmps - vals.size) undef).getD t undef = vals[t] := by
      rw [Array.getD_eq_getD_getElem?, Array.getElem?_append, if_pos hlv]
      simp [hlv]
    rw [this]
    exact hR t _ v (by simp [hlv]) ht
  refine wp_mono (h2 B rfl _ _ hsim) fun e' a' w' ⟨he', hs'⟩ => ?_
  obtain ⟨_, X', φ', g1, g2, g3, g4, g5, g6⟩ := hs'
  obtain ⟨x, hx, hr⟩ := results_run (a := a') hv g4 g5
  subst he'
  rcases he with rfl | rfl <;> exact ⟨g3, x, hx, x, X', φ', rfl, g1.drop hsub, g4.drop hsub, hr⟩

/-- a function with a text -/
def FnOK (P : Program) (g : FuncId) : Prop := ∃ fn : Func, P.funcs[g]? = some fn ∧ (fn.name == "runtime.NumGoroutine") = false ∧ fn.body.isNone = false
theorem run_callFunc_enter {P : Program} {f : FuncId} {fn : Func} (hf : P.funcs[f]? = some fn) (hname : (fn.name == "runtime.NumGoroutine") = false) (hb : fn.body.isNone = false) (args : Array Value) (w : World) : (callFunc f args).run P w = .ok (.enter f args) w := by
  have hp : (program).run P w = .ok P w := rfl
  unfold callFunc
  rw [Sem.run_bind, hp, Result.andThen_ok]
  simp only [hf, hname, hb, Bool.false_eq_true, if_false]
  rfl
theorem run_call {P : Program} {o : Oper} {g : FuncId} {fn : Func} {xs : Array Operand} {ts : Array TypeId} {ρ : Operand → Value} {w : World} (ho : o.op = .call { callee := .value (.func g), args := xs, argTypes := ts }) (hρ : ρ (.func g) = .func (.func g) #[] #[])
    (hf : P.funcs[g]? = some fn) (hname : (fn.name == "runtime.NumGoroutine") = false) (hb : fn.body.isNone = false) : (execOp ρ o).run P w = .ok (.enter g (xs.map ρ)) w := by
  have he := run_callFunc_enter hf hname hb (xs.map ρ) w
  simp only [execOp, ho, resolve, hρ, Deferred.ofValue, Sem.run_bind, Sem.run_pure, Result.andThen_ok, invoke]
  simpa using he
end Go.Proofs.Ytoijkcnefnmbjaa
