/-
  Routes of one prefix from different members; the sanity check.
-/
import Derived.Test.YtgklkocmimjifaaCg
import Derived.Test.YtgklkocmimjifaaMab
namespace Go.Proofs.Ytgklkocmimjifaa
open Go.RowKit
theorem Rep.agg_nils {X : Nat → Prop} {w : World} {φ : Em} {v : Value} {cs cs' : List AV} (h : Rep X w φ v (.agg cs)) (hl : cs.length = cs'.length) (hc : ∀ (i : Nat) c, cs'[i]? = some c → cs[i]? = some c ∨ (cs[i]? = some .nils ∧ c = .isl [] 0)) : Rep X w φ v (.agg cs') := by
  cases h with
  | agg vs _ h1 h2 h3 =>
    refine .agg vs cs' (by omega) (fun i c hi => ?_) fun i u c hu hi => ?_
    · rcases hc i c hi with h | ⟨_, rfl⟩
      · exact h2 i c h
      · rfl
    · rcases hc i c hi with h | ⟨h, rfl⟩
      · exact h3 i u c hu h
      · exact (h3 i u .nils hu h).nil_isl
theorem AFn.arg0 {P : Program} {f : FuncId} {k : Nat} {a a' : AV} {args : List AV} {H H' : Hp} {v : AV} (h : AFn P f k (a' :: args) H v H') (ha : ∀ (X : Nat → Prop) (φ : Em) (w : World) (x : Value), Rep X w φ x a → Rep X w φ x a') : AFn P f k (a :: args) H v H' := fun X φ w vals h1 h2 h3 h4 =>
  h X φ w vals h1 (fun i x b hx hb => by
    match i with
    | 0 => simp at hb; subst hb; exact ha X φ w x (h2 0 x a hx rfl)
    | i + 1 => exact h2 (i + 1) x b hx hb) h3 h4
def RtsOk (rs : List Rt) : Prop := rs.length ≤ 10 ∧ (∀ r ∈ rs, OkR r) ∧ rs.Pairwise fun u w => u.from_ < w.from_
def meds : List AV := [.base (.int .i64 (-1)), .base (.int .i64 (-1)), .base (.int .i64 0), .base (.int .i64 1)]
theorem meds_at {i : Nat} (h : i < 4) : ∃ m : Int, (-1 ≤ m ∧ m ≤ 2) ∧ meds[0 + i * 1]? = some (.base (.int .i64 m)) := by
  rcases (show i = 0 ∨ i = 1 ∨ i = 2 ∨ i = 3 by omega) with rfl | rfl | rfl | rfl <;> exact ⟨_, by decide, rfl⟩
set_option maxHeartbeats 2000000 in
theorem routes_any (l : List Int) (at_ : Nat) (hl : l.length ≤ 9223372036854775807) :
    ∃ v H', AFn Try.prog 9 1 [.own 0 0] (up mt 0 (some (deckC l at_))) v H' ∧ ∃ (rs : List Rt) (at' : Nat), (RtsOk rs ∧ rs.length ≤ 5) ∧ v = .osl 1 0 rs.length 16 ∧ H' = up (up mt 0 (some (deckC l at'))) 1 (some (rtsC rs)) := by
  refine AFn.ex Try.func9 rfl rfl (Nat.le_of_ble_eq_true rfl) ?_
  repeat (refine W.seq ?_)
  refine W.region 1 2 (by decide) rfl rfl ?_
  refine RW.opd rfl rfl (LO.assign rfl rfl) ?_
  refine RW.nil ?_
  repeat (refine W.seq ?_)
  refine W.region 6 7 (by decide) rfl rfl ?_
  refine RW.opd rfl rfl (LO.assign rfl rfl) ?_
  refine RW.nil ?_
  repeat (refine W.seq ?_)
  refine W.region 11 12 (by decide) rfl rfl ?_
  refine RW.opd rfl rfl (LO.assign rfl rfl) ?_
  refine RW.nil ?_
  refine W.name 12 (12 + 1) (t := 3) (sz := 16) rfl (by decide) (by decide) ?_
  repeat (refine W.seq ?_)
  refine W.block ?_
  refine W.loop_keep (α := Nat × Nat × List Rt) (fun x => 5 - x.1) 2 (fun x => [(0, .own 0 0), (3, .osl 1 0 x.2.2.length 16), (4, .base (.int .i64 (x.1 : Int)))]) (fun x => up (up mt 0 (some (deckC l x.2.1))) 1 (some (rtsC x.2.2))) (fun x => (x.1 ≤ 5 ∧ x.2.2.length ≤ x.1) ∧ (∀ r : Rt, r ∈ x.2.2 → OkR r ∧ r.from_ < 101 + (x.1 : Int)) ∧ x.2.2.Pairwise fun u w => u.from_ < w.from_) (0, at_, (([] : List Rt))) [(0, 0), (1, 12)] .nil (show (0 ≤ 5 ∧ (([] : List Rt)).length ≤ 0) ∧ (∀ r : Rt, r ∈ (([] : List Rt)) → OkR r ∧ r.from_ < 101 + (0 : Int)) ∧ (([] : List Rt)).Pairwise fun u w => u.from_ < w.from_ from ⟨⟨by decide, by decide⟩, fun x hx => (by cases hx), List.Pairwise.nil⟩) (by decide) ?_ ?_ ?_
  · (repeat' (first | exact LookR.nil | refine LookR.cons ?_ ?_)) <;> first | exact .inl ⟨rfl, rfl⟩ | exact .inr ⟨rfl, fun _ h => by cases h⟩ | exact .inl ⟨rfl, by first | rfl | assumption | exact (rtsC_pure _)⟩
  · (repeat' (first | exact all_mt | refine all_up ?_ ?_)) <;> first | exact ⟨rfl, _, rfl, .inr ⟨rfl, rfl⟩⟩ | exact ⟨rfl, _, rfl, .inl rfl⟩ | exact ⟨rfl, _, rfl, .inr ⟨rfl, by first | rfl | assumption | exact (rtsC_pure _)⟩⟩
  rintro ⟨k, a, rs⟩ hIA ihA
  try (dsimp only at hIA)
  try dsimp only [baseT, List.cons_append, List.nil_append]
  obtain ⟨⟨hk, hrk⟩, hrf, hrp⟩ := hIA
  by_cases hc : k < 5
  rotate_left
  · have g1 : decide ((k : Int) < 5) = false := decide_eq_false (by omega)
    repeat (refine W.seq ?_)
    refine W.region 16 18 (by decide) rfl rfl ?_
    refine RW.opd rfl rfl (LO.move rfl rfl) ?_
    refine RW.opd rfl rfl (LO.lss rfl rfl rfl) ?_
    refine RW.nil ?_
    repeat (refine W.seq ?_)
    refine W.cond_f rfl (by first | rfl | assumption) ?_
    refine W.exit ?_
    repeat (refine W.seq ?_)
    refine W.region 67 69 (by decide) rfl rfl ?_
    refine RW.opd rfl rfl (LO.move rfl rfl) ?_
    refine RW.opd rfl rfl (LO.assign rfl rfl) ?_
    refine RW.nil ?_
    repeat (refine W.seq ?_)
    refine W.ret ⟨.inl rfl, _, (up (up mt 0 (some (deckC l a))) 1 (some (rtsC rs))), (RVs.cons (RV.tmp rfl) RVs.nil), (by (repeat' (first | exact all_mt | refine all_up ?_ ?_)) <;> rfl), ?_⟩
    exact ⟨rs, a, ⟨⟨by omega, fun r hr => (hrf r hr).1, hrp⟩, by omega⟩, rfl, rfl⟩
  have g1 : decide ((k : Int) < 5) = true := decide_eq_true (by omega)
  have hkk : (k : Int) + 1 = ((k + 1 : Nat) : Int) := by omega
  obtain ⟨a1, ha1⟩ : ∃ a1, nextAt l a = a1 := ⟨_, rfl⟩
  have n1 := next_any l a 3 (by decide) (by decide) hl
  obtain ⟨e1, he1⟩ : ∃ e1, nextV l a 3 = e1 := ⟨_, rfl⟩
  rw [he1, ha1] at n1
  repeat (refine W.seq ?_)
  refine W.region 16 18 (by decide) rfl rfl ?_
  refine RW.opd rfl rfl (LO.move rfl rfl) ?_
  refine RW.opd rfl rfl (LO.lss rfl rfl rfl) ?_
  refine RW.nil ?_
  repeat (refine W.seq ?_)
  refine W.cond_t rfl (by first | rfl | assumption) ?_
  refine W.skip ?_
  repeat (refine W.seq ?_)
  refine W.block ?_
  repeat (refine W.seq ?_)
  refine W.region 22 25 (by decide) rfl rfl ?_
  refine RW.opd rfl rfl (LO.move rfl rfl) ?_
  refine RW.opd rfl rfl (LO.call1 (fr := []) rfl rfl (n1) fok22 (.own rfl rfl (.cons rfl (.pure rfl) .nil)) rfl rfl rfl (List.cons_ne_nil _ _) (by decide) rfl) ?_
  refine RW.opd rfl rfl (LO.gtr rfl rfl rfl) ?_
  refine RW.nil ?_
  rcases Bool.eq_false_or_eq_true (decide (e1 > 0)) with g2 | g2
  rotate_left
  ·
    repeat (refine W.seq ?_)
    refine W.cond_f rfl (by first | rfl | assumption) ?_
    refine W.skip ?_
    repeat (refine W.seq ?_)
    refine W.region 60 63 (by decide) rfl rfl ?_
    refine RW.opd rfl rfl (LO.move rfl rfl) ?_
    refine RW.opd rfl rfl (LO.add_in rfl rfl rfl ?_) ?_; (· (first | exact IntWalk.i64_in _ (by omega) | assumption))
    refine RW.opd rfl rfl (LO.assign rfl rfl) ?_
    refine RW.nil ?_
    rw [hkk]
    refine WL.renameL [(0, 0), (1, 1)] 2 (by decide) ?_ ?_ (ihA ((k + 1), a1, rs) (show 5 - (k + 1) < 5 - k from by omega) (show ((k + 1) ≤ 5 ∧ rs.length ≤ (k + 1)) ∧ (∀ r : Rt, r ∈ rs → OkR r ∧ r.from_ < 101 + ((k + 1) : Int)) ∧ rs.Pairwise fun u w => u.from_ < w.from_ from ⟨⟨by omega, by omega⟩, fun r hr => (by have := hrf r hr; exact ⟨this.1, by omega⟩), hrp⟩))
    · (repeat' (first | exact LookR.nil | refine LookR.cons ?_ ?_)) <;> first | exact .inl ⟨rfl, rfl⟩ | exact .inr ⟨rfl, fun _ h => by cases h⟩ | exact .inl ⟨rfl, by first | rfl | assumption | exact (rtsC_pure _)⟩
    · (repeat' (first | exact all_mt | refine all_up ?_ ?_)) <;> first | exact ⟨rfl, _, rfl, .inr ⟨rfl, rfl⟩⟩ | exact ⟨rfl, _, rfl, .inl rfl⟩ | exact ⟨rfl, _, rfl, .inr ⟨rfl, by first | rfl | assumption | exact (rtsC_pure _)⟩⟩
  obtain ⟨_, _, hrt, r, a2, ⟨hfr, hga⟩, rfl, rfl⟩ := route_any l a1 (101 + (k : Int)) hl
  obtain ⟨pf, fr, aa⟩ := r
  dsimp only at hfr hga
  obtain ⟨a3, ha3⟩ : ∃ a1, nextAt l a2 = a1 := ⟨_, rfl⟩
  have n3 := next_any l a2 4 (by decide) (by decide) hl
  have b3 := nextV_bd l a2 4 (by decide)
  obtain ⟨j, hj⟩ : ∃ j : Nat, nextV l a2 4 = (j : Int) := ⟨(nextV l a2 4).toNat, by omega⟩
  rw [hj] at b3
  rw [hj, ha3] at n3
  obtain ⟨m, hm, hme⟩ := meds_at (i := j) (by omega)
  rw [rt_lit] at hrt
  have hap : rtsC rs ++ [.base (.bool pf.v6), .base (.int .u64 pf.hi), .base (.int .u64 pf.lo), .base (.int .i64 pf.len), .base (.int .i64 fr), .base (.int .i64 aa.org), .isl (segsC aa.path) aa.path.length, .base (.bool aa.nx.v6), .base (.int .u64 aa.nx.hi), .base (.int .u64 aa.nx.lo), .base (.int .i64 m), .base (.int .i64 aa.pref), .base (.int .i64 aa.otc), .isl aa.cc aa.cn, .isl aa.lc aa.ln, .isl aa.oc aa.on] = rtsC (rs ++ [⟨pf, fr, ⟨aa.org, aa.path, aa.nx, m, aa.pref, aa.otc, aa.cc, aa.cn, aa.lc, aa.ln, aa.oc, aa.on⟩⟩]) := by rw [rtsC_app, rtsC_one]; rfl
  obtain ⟨r2, hr2, hr2o, hr2f⟩ : ∃ r2 : Rt, (⟨pf, fr, ⟨aa.org, aa.path, aa.nx, m, aa.pref, aa.otc, aa.cc, aa.cn, aa.lc, aa.ln, aa.oc, aa.on⟩⟩ : Rt) = r2 ∧ OkR r2 ∧ r2.from_ = 101 + (k : Int) := ⟨_, rfl, ⟨hga.2.2.1, hga.2.2.2, hm.1⟩, hfr⟩
  rw [hr2] at hap
  have hl1 : rs.length + 1 = (rs ++ [r2]).length := by simp
  repeat (refine W.seq ?_)
  refine W.cond_t rfl (by first | rfl | assumption) ?_
  repeat (refine W.seq ?_)
  refine W.region 29 35 (by decide) rfl rfl ?_
  refine RW.opd rfl rfl (LO.move rfl rfl) ?_
  refine RW.opd rfl rfl (LO.move rfl rfl) ?_
  refine RW.opd rfl rfl (LO.add_in rfl rfl rfl ?_) ?_; (· (first | exact IntWalk.i64_in _ (by omega) | assumption))
  refine RW.opd rfl rfl (LO.call1 (fr := []) rfl rfl (hrt) fok10 (.own rfl rfl (.cons rfl (.pure rfl) .nil)) rfl rfl rfl (List.cons_ne_nil _ _) (by decide) rfl) ?_
  refine RW.opd rfl rfl (LO.alloc rfl ty43) ?_
  refine RW.opn rfl rfl (LO.store rfl rfl rfl rfl rfl ty43 rfl (by decide) (Sp.lit rfl)) ?_
  refine RW.nil ?_
  repeat (refine W.seq ?_)
  refine W.region 39 47 (by decide) rfl rfl ?_
  refine RW.opd rfl rfl (LO.buildSlice rfl ty22 ty3 (by decide) (by decide) (.cons rfl rfl rfl rfl (Sp.lit rfl) (.cons rfl rfl rfl rfl (Sp.lit rfl) (.cons rfl rfl rfl rfl (Sp.lit rfl) (.cons rfl rfl rfl rfl (Sp.lit rfl) .nil))))) ?_
  refine RW.opd rfl rfl (LO.move rfl rfl) ?_
  refine RW.opd rfl rfl (LO.call1 (fr := []) rfl rfl (n3) fok22 (.own rfl rfl (.cons rfl (.pure rfl) .nil)) rfl rfl rfl (List.cons_ne_nil _ _) (by decide) rfl) ?_
  refine RW.opd rfl rfl (LO.indexAddr rfl rfl rfl rfl ty22 ty3 ?_) ?_; (· (first | omega | decide | assumption | fail | (simp; done) | (simp; omega)))
  refine RW.opd rfl rfl (LO.load rfl rfl rfl hme ty3 rfl) ?_
  refine RW.opd rfl rfl (LO.fieldAddr rfl rfl ty43 rfl (by decide)) ?_
  refine RW.opd rfl rfl (LO.fieldAddr rfl rfl ty41 rfl (by decide)) ?_
  refine RW.opn rfl rfl (LO.store rfl rfl rfl rfl rfl ty3 rfl (by decide) (Sp.lit rfl)) ?_
  refine RW.nil ?_
  repeat (refine W.seq ?_)
  refine W.region 51 56 (by decide) rfl rfl ?_
  refine RW.opd rfl rfl (LO.move rfl rfl) ?_
  refine RW.opd rfl rfl (LO.load_agg rfl rfl rfl ty43 rfl (Tk.lit rfl)) ?_
  refine RW.opd rfl rfl (LO.buildSlice rfl ty29 ty43 (by decide) (by decide) (.cons rfl rfl rfl rfl (Sp.lit rfl) .nil)) ?_
  refine RW.opd rfl rfl (LO.append rfl rfl (SrcAV.own rfl rfl (Tk.lit rfl)) rfl (rts_tk rfl) ty29 ty29 ty43 (by decide) (by omega) (by omega) (by decide)) ?_
  refine RW.opd rfl rfl (LO.assign rfl rfl) ?_
  refine RW.nil ?_
  rw [hap, hl1]
  repeat (refine W.seq ?_)
  refine W.region 60 63 (by decide) rfl rfl ?_
  refine RW.opd rfl rfl (LO.move rfl rfl) ?_
  refine RW.opd rfl rfl (LO.add_in rfl rfl rfl ?_) ?_; (· (first | exact IntWalk.i64_in _ (by omega) | assumption))
  refine RW.opd rfl rfl (LO.assign rfl rfl) ?_
  refine RW.nil ?_
  rw [hkk]
  refine WL.renameL [(0, 0), (1, 54)] 2 (by decide) ?_ ?_ (ihA ((k + 1), a3, (rs ++ [r2])) (show 5 - (k + 1) < 5 - k from by omega) (show ((k + 1) ≤ 5 ∧ (rs ++ [r2]).length ≤ (k + 1)) ∧ (∀ r : Rt, r ∈ (rs ++ [r2]) → OkR r ∧ r.from_ < 101 + ((k + 1) : Int)) ∧ (rs ++ [r2]).Pairwise fun u w => u.from_ < w.from_ from ⟨⟨by omega, by rw [← hl1]; omega⟩, fun r hr => (by rcases List.mem_append.1 hr with h | h; exact ⟨(hrf r h).1, by have := (hrf r h).2; omega⟩; rw [List.mem_singleton] at h; subst h; exact ⟨hr2o, by omega⟩), List.pairwise_append.2 ⟨hrp, List.pairwise_singleton _ _, fun x hx y hy => (by rw [List.mem_singleton] at hy; subst hy; have := (hrf x hx).2; omega)⟩⟩))
  · (repeat' (first | exact LookR.nil | refine LookR.cons ?_ ?_)) <;> first | exact .inl ⟨rfl, rfl⟩ | exact .inr ⟨rfl, fun _ h => by cases h⟩ | exact .inl ⟨rfl, by first | rfl | assumption | exact rfl | exact (rtsC_pure _)⟩
  · (repeat' (first | exact all_mt | refine all_up ?_ ?_)) <;> first | exact ⟨rfl, _, rfl, .inr ⟨rfl, rfl⟩⟩ | exact ⟨rfl, _, rfl, .inl rfl⟩ | exact ⟨rfl, _, rfl, .inr ⟨rfl, by first | rfl | assumption | exact rfl | exact (rtsC_pure _)⟩⟩
def awA : Rt := ⟨⟨false, 0, 0, 0⟩, 1, ⟨0, [(false, [1, 7])], ⟨false, 0, 0⟩, 0, 0, 0, [], 0, [], 0, [], 0⟩⟩
def awB : Rt := ⟨⟨false, 0, 0, 0⟩, 2, ⟨0, [(false, [2, 8, 9])], ⟨false, 0, 0⟩, 0, 0, 0, [], 0, [], 0, [], 0⟩⟩
set_option maxHeartbeats 2000000 in
theorem awake_any : AFn Try.prog 15 0 [] mt (.base (.bool true)) mt := by
  refine AFn.eq Try.func15 rfl rfl (Nat.le_of_ble_eq_true rfl) ?_
  have okA : OkR awA := ⟨by decide, by decide, by decide⟩
  have okB : OkR awB := ⟨by decide, by decide, by decide⟩
  have h1 := compare_any ⟨3, false, false, false, 0, [], 0, []⟩ awA awB (by decide) okA okB
  have h2 := compare_any ⟨3, false, false, false, 0, [], 0, [(2, 10)]⟩ awA awB (by decide) okA okB
  have e1 : cmpF ⟨3, false, false, false, 0, [], 0, []⟩ awA awB = (-1, 2) := by decide
  have e2 : cmpF ⟨3, false, false, false, 0, [], 0, [(2, 10)]⟩ awA awB = (1, 1) := by decide
  rw [e1] at h1
  rw [e2] at h2
  have h1' := AFn.arg0 (a := .agg [.base (.int .i64 3), .base (.bool false), .base (.bool false), .base (.bool false), .base (.int .i64 0), .nils, .nils]) h1 fun X φ w x h => h.agg_nils rfl fun i c hi => by
    match i with
    | 0 | 1 | 2 | 3 | 4 => exact .inl hi
    | 5 | 6 => exact .inr ⟨rfl, by injection hi with hi; exact hi.symm⟩
    | i + 7 => cases hi
  have h2' := AFn.arg0 (a := .agg [.base (.int .i64 3), .base (.bool false), .base (.bool false), .base (.bool false), .base (.int .i64 0), .nils, .isl [.base (.int .i64 2), .base (.int .i64 10)] 1]) h2 fun X φ w x h => h.agg_nils rfl fun i c hi => by
    match i with
    | 0 | 1 | 2 | 3 | 4 | 6 => exact .inl hi
    | 5 => exact .inr ⟨rfl, by injection hi with hi; exact hi.symm⟩
    | i + 7 => cases hi
  unfold cmpV at h1' h2'
  repeat (refine W.seq ?_)
  refine W.region 0 1 (by decide) rfl rfl ?_
  refine RW.opd rfl rfl (LO.assign rfl rfl) ?_
  refine RW.nil ?_
  repeat (refine W.seq ?_)
  refine W.region 5 12 (by decide) rfl rfl ?_
  refine RW.opd rfl rfl (LO.buildSlice rfl ty22 ty3 (by decide) (by decide) (.cons rfl rfl rfl rfl (Sp.lit rfl) (.cons rfl rfl rfl rfl (Sp.lit rfl) .nil))) ?_
  refine RW.opd rfl rfl (LO.build_st rfl ty71 (.cons rfl rfl rfl rfl (Sp.lit rfl) .nil)) ?_
  refine RW.opd rfl rfl (LO.buildSlice rfl ty36 ty71 (by decide) (by decide) (.cons rfl rfl rfl rfl (Sp.lit rfl) .nil)) ?_
  refine RW.opd rfl rfl (LO.build_st rfl ty41 (.cons rfl rfl rfl rfl (Sp.lit rfl) .nil)) ?_
  refine RW.opd rfl rfl (LO.build_st rfl ty43 (.cons rfl rfl rfl rfl (Sp.lit rfl) (.cons rfl rfl rfl rfl (Sp.lit rfl) .nil))) ?_
  refine RW.opd rfl rfl (LO.alloc rfl ty43) ?_
  refine RW.opn rfl rfl (LO.store rfl rfl rfl rfl rfl ty43 rfl (by decide) (Sp.lit rfl)) ?_
  refine RW.nil ?_
  repeat (refine W.seq ?_)
  refine W.region 16 23 (by decide) rfl rfl ?_
  refine RW.opd rfl rfl (LO.buildSlice rfl ty22 ty3 (by decide) (by decide) (.cons rfl rfl rfl rfl (Sp.lit rfl) (.cons rfl rfl rfl rfl (Sp.lit rfl) (.cons rfl rfl rfl rfl (Sp.lit rfl) .nil)))) ?_
  refine RW.opd rfl rfl (LO.build_st rfl ty71 (.cons rfl rfl rfl rfl (Sp.lit rfl) .nil)) ?_
  refine RW.opd rfl rfl (LO.buildSlice rfl ty36 ty71 (by decide) (by decide) (.cons rfl rfl rfl rfl (Sp.lit rfl) .nil)) ?_
  refine RW.opd rfl rfl (LO.build_st rfl ty41 (.cons rfl rfl rfl rfl (Sp.lit rfl) .nil)) ?_
  refine RW.opd rfl rfl (LO.build_st rfl ty43 (.cons rfl rfl rfl rfl (Sp.lit rfl) (.cons rfl rfl rfl rfl (Sp.lit rfl) .nil))) ?_
  refine RW.opd rfl rfl (LO.alloc rfl ty43) ?_
  refine RW.opn rfl rfl (LO.store rfl rfl rfl rfl rfl ty43 rfl (by decide) (Sp.lit rfl)) ?_
  refine RW.nil ?_
  refine W.frzc (q := 7) (j := 1) (r := 5) rfl rfl (by decide) rfl (ints_tk (l := [1, 7]) rfl) (intsC_pure _) (Sp.lit rfl) ?_
  refine W.frzc (q := 10) (j := 6) (r := 7) rfl rfl (by decide) rfl (Tk.lit rfl) rfl (Sp.lit rfl) ?_
  refine W.frzc (q := 18) (j := 1) (r := 16) rfl rfl (by decide) rfl (ints_tk (l := [2, 8, 9]) rfl) (intsC_pure _) (Sp.lit rfl) ?_
  refine W.frzc (q := 21) (j := 6) (r := 18) rfl rfl (by decide) rfl (Tk.lit rfl) rfl (Sp.lit rfl) ?_
  refine W.nilc (q := 10) (j := 13) rfl rfl (Sp.lit rfl) ?_
  refine W.nilc (q := 10) (j := 14) rfl rfl (Sp.lit rfl) ?_
  refine W.nilc (q := 10) (j := 15) rfl rfl (Sp.lit rfl) ?_
  refine W.nilc (q := 21) (j := 13) rfl rfl (Sp.lit rfl) ?_
  refine W.nilc (q := 21) (j := 14) rfl rfl (Sp.lit rfl) ?_
  refine W.nilc (q := 21) (j := 15) rfl rfl (Sp.lit rfl) ?_
  repeat (refine W.seq ?_)
  refine W.region 27 36 (by decide) rfl rfl ?_
  refine RW.opd rfl rfl (LO.build_st rfl ty27 (.cons rfl rfl rfl rfl (Sp.lit rfl) .nil)) ?_
  refine RW.opd rfl rfl (LO.load_agg rfl rfl rfl ty43 rfl (Tk.lit rfl)) ?_
  refine RW.opd rfl rfl (LO.load_agg rfl rfl rfl ty43 rfl (Tk.lit rfl)) ?_
  refine RW.opd rfl rfl (LO.call0 (fr := []) rfl rfl (h1') fok13 (.cons rfl (.pure rfl) (.cons rfl (.pure rfl) (.cons rfl (.pure rfl) .nil))) rfl) ?_
  refine RW.opd rfl rfl (LO.move rfl rfl) ?_
  refine RW.opd rfl rfl (LO.extract rfl rfl rfl) ?_
  refine RW.opd rfl rfl (LO.extract rfl rfl rfl) ?_
  refine RW.opd rfl rfl (LO.assign rfl rfl) ?_
  refine RW.opd rfl rfl (LO.assign rfl rfl) ?_
  refine RW.nil ?_
  repeat (refine W.seq ?_)
  refine W.region 40 51 (by decide) rfl rfl ?_
  refine RW.opd rfl rfl (LO.build_st rfl ty61 (.cons rfl rfl rfl rfl (Sp.lit rfl) (.cons rfl rfl rfl rfl (Sp.lit rfl) .nil))) ?_
  refine RW.opd rfl rfl (LO.buildSlice rfl ty25 ty61 (by decide) (by decide) (.cons rfl rfl rfl rfl (Sp.lit rfl) .nil)) ?_
  refine RW.opd rfl rfl (LO.build_st rfl ty27 (.cons rfl rfl rfl rfl (Sp.lit rfl) (.cons rfl rfl rfl rfl (Sp.lit rfl) .nil))) ?_
  refine RW.opd rfl rfl (LO.load_agg rfl rfl rfl ty43 rfl (Tk.lit rfl)) ?_
  refine RW.opd rfl rfl (LO.load_agg rfl rfl rfl ty43 rfl (Tk.lit rfl)) ?_
  refine RW.opd rfl rfl (LO.call0 (fr := [41]) rfl rfl (h2') fok13 (.cons rfl (.agg (.cons (.same rfl) (.cons (.same rfl) (.cons (.same rfl) (.cons (.same rfl) (.cons (.same rfl) (.cons (.same rfl) (.cons (.osl (by decide) rfl (Tk.lit rfl) rfl) .nil)))))))) (.cons rfl (.pure rfl) (.cons rfl (.pure rfl) .nil))) rfl) ?_
  refine RW.opd rfl rfl (LO.move rfl rfl) ?_
  refine RW.opd rfl rfl (LO.extract rfl rfl rfl) ?_
  refine RW.opd rfl rfl (LO.extract rfl rfl rfl) ?_
  refine RW.opd rfl rfl (LO.assign rfl rfl) ?_
  refine RW.opd rfl rfl (LO.assign rfl rfl) ?_
  refine RW.nil ?_
  repeat (refine W.seq ?_)
  refine W.region 55 70 (by decide) rfl rfl ?_
  refine RW.opd rfl rfl (LO.move rfl rfl) ?_
  refine RW.opd rfl rfl (LO.eql rfl rfl rfl) ?_
  refine RW.opd rfl rfl (LO.move rfl rfl) ?_
  refine RW.gd rfl rfl rfl ?_ rfl (LO.move rfl rfl) ?_; (· (first | rfl | assumption))
  refine RW.gd rfl rfl rfl ?_ rfl (LO.eql rfl rfl rfl) ?_; (· (first | rfl | assumption))
  refine RW.opd rfl rfl (LO.pick_t rfl rfl ?_ rfl) ?_; (· (first | rfl | assumption))
  refine RW.opd rfl rfl (LO.move rfl rfl) ?_
  refine RW.gd rfl rfl rfl ?_ rfl (LO.move rfl rfl) ?_; (· (first | rfl | assumption))
  refine RW.gd rfl rfl rfl ?_ rfl (LO.eql rfl rfl rfl) ?_; (· (first | rfl | assumption))
  refine RW.opd rfl rfl (LO.pick_t rfl rfl ?_ rfl) ?_; (· (first | rfl | assumption))
  refine RW.opd rfl rfl (LO.move rfl rfl) ?_
  refine RW.gd rfl rfl rfl ?_ rfl (LO.move rfl rfl) ?_; (· (first | rfl | assumption))
  refine RW.gd rfl rfl rfl ?_ rfl (LO.eql rfl rfl rfl) ?_; (· (first | rfl | assumption))
  refine RW.opd rfl rfl (LO.pick_t rfl rfl ?_ rfl) ?_; (· (first | rfl | assumption))
  refine RW.opd rfl rfl (LO.assign rfl rfl) ?_
  refine RW.nil ?_
  repeat (refine W.seq ?_)
  refine W.ret ⟨.inl rfl, _, mt, (RVs.cons (RV.tmp rfl) RVs.nil), (by (repeat' (first | exact all_mt | refine all_up ?_ ?_)) <;> rfl), ?_⟩
  exact ⟨rfl, rfl⟩
end Go.Proofs.Ytgklkocmimjifaa
