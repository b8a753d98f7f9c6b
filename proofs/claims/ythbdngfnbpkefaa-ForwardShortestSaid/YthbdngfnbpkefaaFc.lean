/-
  Failed, cuts of both texts, comparing lists of numbers.
-/
import Derived.Test.YthbdngfnbpkefaaFp
import Derived.Test.YthbdngfnbpkefaaFg
namespace Go.Proofs.Ythbdngfnbpkefaa
open Go.RowKit

theorem bools_tk {l : List Bool} {n : Nat} (h : l.length = n) : Tk (boolsC l) 0 (n * 1) (boolsC l) := by
  have := Tk.all (boolsC l)
  have e : (boolsC l).length = n * 1 := by simp [boolsC, h]
  rwa [e] at this
theorem bs_at {l : List Bool} {x : Int} {b : Bool} (h0 : 0 ≤ x) (h1 : x < l.length) : Sp (boolsC l) (0 + x.toNat * 1) [.base (.bool b)] (boolsC (l.set x.toNat b)) := by
  have := Sp.set (boolsC l) x.toNat (.base (.bool b)) (by simp [boolsC]; omega)
  rw [show boolsC (l.set x.toNat b) = (boolsC l).set x.toNat (.base (.bool b)) from by simp [boolsC, List.map_set]]
  rwa [show 0 + x.toNat * 1 = x.toNat from by omega]
/-- one more link down -/
def failF (f : Fab) (k : Int) : Fab := { f with down := f.down.set k.toNat true }
theorem failed_any (f : Fab) (k : Int) (h0 : 0 ≤ k) (h1 : k < f.down.length) (hb : f.down.length ≤ 1000) : AFn Try.prog 36 0 [.agg (fabC f), .base (.int .i64 k)] mt (.agg (fabC (failF f k))) mt := by
  refine AFn.eq Try.func36 rfl rfl (Nat.le_of_ble_eq_true rfl) ?_
  unfold fabC
  repeat (refine W.seq ?_)
  refine W.region 0 2 (by decide) rfl rfl ?_
  refine RW.opd rfl rfl (LO.box rfl rfl rfl) ?_
  refine RW.opd rfl rfl (LO.alloc rfl ty25) ?_
  refine RW.nil ?_
  repeat (refine W.seq ?_)
  refine W.region 6 11 (by decide) rfl rfl ?_
  refine RW.opd rfl rfl (LO.fieldAddr rfl rfl ty25 rfl (by decide)) ?_
  refine RW.opd rfl rfl (LO.load rfl rfl rfl rfl ty23 rfl) ?_
  refine RW.opd rfl rfl (LO.append_nil rfl rfl (SrcAV.isl rfl rfl ?_) ty23 ty23 ty4 (by decide) ?_ ?_ ?_) ?_; (· (first | rfl | assumption | simp [boolsC])); (· (first | omega | decide | assumption | simp [boolsC] | (simp; done) | (simp; omega))); (· (first | omega | decide | assumption | simp [boolsC] | (simp; done) | (simp; omega))); (· (first | decide | omega))
  refine RW.opd rfl rfl (LO.fieldAddr rfl rfl ty25 rfl (by decide)) ?_
  refine RW.opn rfl rfl (LO.store rfl rfl rfl rfl rfl ty23 rfl (by decide) (Sp.lit rfl)) ?_
  refine RW.nil ?_
  repeat (refine W.seq ?_)
  refine W.region 15 20 (by decide) rfl rfl ?_
  refine RW.opd rfl rfl (LO.fieldAddr rfl rfl ty25 rfl (by decide)) ?_
  refine RW.opd rfl rfl (LO.load rfl rfl rfl rfl ty23 rfl) ?_
  refine RW.opd rfl rfl (LO.move rfl rfl) ?_
  refine RW.opd rfl rfl (LO.indexAddr rfl rfl rfl (Int.toNat_of_nonneg h0).symm ty23 ty4 ?_) ?_; (· (first | omega | decide | assumption | fail | (simp; done) | (simp; omega)))
  refine RW.opn rfl rfl (LO.store rfl rfl rfl rfl rfl ty4 rfl (by decide) (bs_at h0 h1)) ?_
  refine RW.nil ?_
  refine W.frzc (q := 0) (j := 2) (r := 8) rfl rfl (by decide) rfl (bools_tk (by simp)) (boolsC_pure _) (Sp.lit rfl) ?_
  repeat (refine W.seq ?_)
  refine W.region 24 26 (by decide) rfl rfl ?_
  refine RW.opd rfl rfl (LO.load_agg rfl rfl rfl ty25 rfl (Tk.lit rfl)) ?_
  refine RW.opn rfl rfl (LO.store rfl rfl rfl rfl rfl ty25 rfl (by decide) (Sp.lit rfl)) ?_
  refine RW.nil ?_
  repeat (refine W.seq ?_)
  refine W.ret ⟨.inl rfl, _, mt, RVs.cons (RV.cellA rfl rfl ty25 rfl (Tk.lit rfl)) RVs.nil, all_mt, ?_⟩
  exact ⟨by simp [retOf, failF], rfl⟩

/-- a link without which its ends are apart -/
def cutB (f : Fab) (i : Nat) : Bool := match f.links[i]? with
  | none => false
  | some l => worksB f i && decide (gI (distW f (fun j => worksB f j && !((j : Int) == (i : Int))) l.a) l.b < 0)
def cutsK (f : Fab) (k : Nat) : List Int := ((List.range k).filter (cutB f)).map fun (i : Nat) => (i : Int)
def cutsF (f : Fab) : List Int := cutsK f f.links.length
theorem cutsK_succ (f : Fab) (k : Nat) : cutsK f (k + 1) = if cutB f k = true then cutsK f k ++ [(k : Int)] else cutsK f k := by
  unfold cutsK
  rw [List.range_succ, List.filter_append, List.map_append]
  cases h : cutB f k <;> simp [h]
theorem cutsK_len (f : Fab) (k : Nat) : (cutsK f k).length ≤ k := by
  unfold cutsK
  rw [List.length_map]
  exact Nat.le_trans (List.length_filter_le _ _) (by simp)
theorem cuts_any (f : Fab) (hf : FabS f) : AFn Try.prog 39 0 [.agg (fabC f)] mt (intsV (cutsF f)) mt := by
  refine AFn.eq Try.func39 rfl rfl (Nat.le_of_ble_eq_true rfl) ?_
  have hrr : ∀ (to wo : Int), AFn Try.prog 49 0 [.agg (fabC f), .base (.int .i64 to), .base (.int .i64 wo)] mt (.isl (intsC (distW f (fun i => worksB f i && !((i : Int) == wo)) to)) f.dead.length) mt :=
    fun to wo => AFn.frozen (reach_own f hf to wo) (ints_tk (distW_len _ _)) (intsC_pure _)
  have hwk := works_any f
  obtain ⟨hsw, h8, h24⟩ := hf
  repeat (refine W.seq ?_)
  refine W.region 0 2 (by decide) rfl rfl ?_
  refine RW.opd rfl rfl (LO.box rfl rfl rfl) ?_
  refine RW.opd rfl rfl (LO.assign rfl rfl) ?_
  refine RW.nil ?_
  repeat (refine W.seq ?_)
  refine W.region 6 7 (by decide) rfl rfl ?_
  refine RW.opd rfl rfl (LO.assign rfl rfl) ?_
  refine RW.nil ?_
  repeat (refine W.seq ?_)
  refine W.region 11 15 (by decide) rfl rfl ?_
  refine RW.opd rfl rfl (LO.fieldAddr rfl rfl ty25 rfl (by decide)) ?_
  refine RW.opd rfl rfl (LO.load rfl rfl rfl rfl ty22 rfl) ?_
  refine RW.opd rfl rfl (LO.len_isl rfl rfl rfl ty22) ?_
  refine RW.opd rfl rfl (LO.move rfl rfl) ?_
  refine RW.nil ?_
  refine W.name 15 (15 + 1) (t := 3) (sz := 1) rfl (by decide) (by decide) ?_
  repeat (refine W.seq ?_)
  refine W.block ?_
  refine W.rename [(0, 0), (1, 15)] 2 (T' := up (up (up (up (up mt 1 (some (.own 0 0))) 3 (some (.osl 1 0 (([] : List Int)).length 1))) 8 (some (.isl (lnksC f.links) f.links.length))) 9 (some (.base (.int .i64 (f.links.length : Int))))) 10 (some (.base (.int .i64 (0 : Int))))) (H' := up (up mt 0 (some (fabC f))) 1 (some (intsC (([] : List Int))))) (by decide) ?_ ?_ ?_
  · (repeat' (first | exact all_mt | refine all_up ?_ ?_)) <;> first | exact .inl ⟨rfl, rfl⟩ | exact .inr ⟨rfl, fun _ h => by cases h⟩ | exact .inl ⟨rfl, by first | rfl | assumption | exact (intsC_pure _)⟩
  · (repeat' (first | exact all_mt | refine all_up ?_ ?_)) <;> first | exact ⟨rfl, _, rfl, .inr ⟨rfl, rfl⟩⟩ | exact ⟨rfl, _, rfl, .inl rfl⟩ | exact ⟨rfl, _, rfl, .inr ⟨rfl, by first | rfl | assumption | exact (intsC_pure _)⟩⟩
  refine W.loop_ind (α := Nat × List Int) (fun x => f.links.length - x.1) 2 (fun x => up (up (up (up (up mt 1 (some (.own 0 0))) 3 (some (.osl 1 0 x.2.length 1))) 8 (some (.isl (lnksC f.links) f.links.length))) 9 (some (.base (.int .i64 (f.links.length : Int))))) 10 (some (.base (.int .i64 (x.1 : Int))))) (fun x => up (up mt 0 (some (fabC f))) 1 (some (intsC x.2))) (fun x => x.1 ≤ f.links.length ∧ x.2 = cutsK f x.1) (0, (([] : List Int))) (show 0 ≤ f.links.length ∧ (([] : List Int)) = cutsK f 0 from ⟨Nat.zero_le _, rfl⟩) ?_
  rintro ⟨i, o⟩ hIA ihA
  try (dsimp only at hIA)
  try dsimp only
  obtain ⟨hi, ho⟩ := hIA
  have hol : o.length ≤ i := by rw [ho]; exact cutsK_len _ _
  by_cases hc : i < f.links.length
  · have g1 : decide ((i : Int) < (f.links.length : Int)) = true := decide_eq_true (by omega)
    have hl : f.links[i]? = some f.links[i] := by simp [hc]
    have hn := cutsK_succ f i
    have hcb : cutB f i = (worksB f i && decide (gI (distW f (fun j => worksB f j && !((j : Int) == (i : Int))) f.links[i].a) f.links[i].b < 0)) := by unfold cutB; rw [hl]
    rw [← ho] at hn
    repeat (refine W.seq ?_)
    refine W.region 19 20 (by decide) rfl rfl ?_
    refine RW.opd rfl rfl (LO.lss rfl rfl rfl) ?_
    refine RW.nil ?_
    repeat (refine W.seq ?_)
    refine W.cond_t rfl (by first | rfl | assumption) ?_
    refine W.skip ?_
    repeat (refine W.seq ?_)
    refine W.block ?_
    repeat (refine W.seq ?_)
    refine W.region 24 30 (by decide) rfl rfl ?_
    refine RW.opd rfl rfl (LO.move rfl rfl) ?_
    refine RW.opd rfl rfl (LO.indexAddr_isl rfl rfl rfl rfl rfl ty22 ty54 ?_) ?_; (· (first | omega | decide | assumption | fail | (simp; done) | (simp; omega)))
    refine RW.opd rfl rfl (LO.load_imm_agg rfl rfl ty54 rfl (lnksC_tk hc)) ?_
    refine RW.opd rfl rfl (LO.alloc rfl ty54) ?_
    refine RW.opd rfl rfl (LO.assign rfl rfl) ?_
    refine RW.opn rfl rfl (LO.store rfl rfl rfl rfl rfl ty54 rfl (by decide) (Sp.lit rfl)) ?_
    refine RW.nil ?_
    repeat (refine W.seq ?_)
    refine W.region 34 40 (by decide) rfl rfl ?_
    refine RW.opd rfl rfl (LO.load_agg rfl rfl rfl ty25 rfl (Tk.lit rfl)) ?_
    refine RW.opd rfl rfl (LO.fieldAddr rfl rfl ty54 rfl (by decide)) ?_
    refine RW.opd rfl rfl (LO.load rfl rfl rfl rfl ty3 rfl) ?_
    refine RW.opd rfl rfl (LO.move rfl rfl) ?_
    refine RW.opd rfl rfl (LO.call0 (fr := []) rfl rfl (hrr _ _) fok49 (.cons rfl (.pure rfl) (.cons rfl (.pure rfl) (.cons rfl (.pure rfl) .nil))) rfl) ?_
    refine RW.opd rfl rfl (LO.assign rfl rfl) ?_
    refine RW.nil ?_
    cases hwi : worksB f i with
    | false =>
      have hcf : cutB f i = false := by rw [hcb, hwi]; rfl
      rw [if_neg (by rw [hcf]; decide)] at hn
      repeat (refine W.seq ?_)
      refine W.region 44 62 (by decide) rfl rfl ?_
      refine RW.opd rfl rfl (LO.load_agg rfl rfl rfl ty25 rfl (Tk.lit rfl)) ?_
      refine RW.opd rfl rfl (LO.move rfl rfl) ?_
      refine RW.opd rfl rfl (LO.call0 (fr := []) rfl rfl (hwk _) fok22 (.cons rfl (.pure rfl) (.cons rfl (.pure rfl) .nil)) rfl) ?_
      refine RW.opd rfl rfl (LO.move rfl rfl) ?_
      refine RW.sd rfl rfl rfl ?_ rfl ?_; (· (first | rfl | assumption))
      refine RW.sd rfl rfl rfl ?_ rfl ?_; (· (first | rfl | assumption))
      refine RW.sd rfl rfl rfl ?_ rfl ?_; (· (first | rfl | assumption))
      refine RW.sd rfl rfl rfl ?_ rfl ?_; (· (first | rfl | assumption))
      refine RW.sd rfl rfl rfl ?_ rfl ?_; (· (first | rfl | assumption))
      refine RW.opd rfl rfl (LO.pick_f rfl rfl ?_ rfl) ?_; (· (first | rfl | assumption))
      refine RW.opd rfl rfl (LO.move rfl rfl) ?_
      refine RW.sd rfl rfl rfl ?_ rfl ?_; (· (first | rfl | assumption))
      refine RW.sd rfl rfl rfl ?_ rfl ?_; (· (first | rfl | assumption))
      refine RW.sd rfl rfl rfl ?_ rfl ?_; (· (first | rfl | assumption))
      refine RW.sd rfl rfl rfl ?_ rfl ?_; (· (first | rfl | assumption))
      refine RW.sd rfl rfl rfl ?_ rfl ?_; (· (first | rfl | assumption))
      refine RW.sd rfl rfl rfl ?_ rfl ?_; (· (first | rfl | assumption))
      refine RW.opd rfl rfl (LO.pick_f rfl rfl ?_ rfl) ?_; (· (first | rfl | assumption))
      refine RW.nil ?_
      repeat (refine W.seq ?_)
      refine W.cond_f rfl (by first | rfl | assumption) ?_
      refine W.skip ?_
      repeat (refine W.seq ?_)
      refine W.region 75 77 (by decide) rfl rfl ?_
      refine RW.opd rfl rfl (LO.add_in rfl rfl rfl ?_) ?_; (· (first | exact IntWalk.i64_in _ (by omega) | assumption))
      refine RW.opd rfl rfl (LO.move rfl rfl) ?_
      refine RW.nil ?_
      refine WL.rename [(0, 0), (1, 1)] 2 (by decide) ?_ ?_ (ihA ((i + 1), o) (show f.links.length - (i + 1) < f.links.length - i from by omega) (show (i + 1) ≤ f.links.length ∧ o = cutsK f (i + 1) from ⟨by omega, hn.symm⟩))
      · (repeat' (first | exact all_mt | refine all_up ?_ ?_)) <;> first | exact .inl ⟨rfl, rfl⟩ | exact .inr ⟨rfl, fun _ h => by cases h⟩ | exact .inl ⟨rfl, by first | rfl | assumption | exact (intsC_pure _)⟩
      · (repeat' (first | exact all_mt | refine all_up ?_ ?_)) <;> first | exact ⟨rfl, _, rfl, .inr ⟨rfl, rfl⟩⟩ | exact ⟨rfl, _, rfl, .inl rfl⟩ | exact ⟨rfl, _, rfl, .inr ⟨rfl, by first | rfl | assumption | exact (intsC_pure _)⟩⟩
    | true =>
      obtain ⟨x1, x2, x3, x4⟩ := wkF_wf f i _ hl hwi
      have g2 : decide (f.links[i].b < (f.dead.length : Int)) = true := decide_eq_true x4
      have hdl := distW_len (f := f) (fun j => worksB f j && !((j : Int) == (i : Int))) f.links[i].a
      cases e : decide (gI (distW f (fun j => worksB f j && !((j : Int) == (i : Int))) f.links[i].a) f.links[i].b < 0) with
      | true =>
        rw [if_pos (by rw [hcb, hwi, e]; rfl)] at hn
        repeat (refine W.seq ?_)
        refine W.region 44 62 (by decide) rfl rfl ?_
        refine RW.opd rfl rfl (LO.load_agg rfl rfl rfl ty25 rfl (Tk.lit rfl)) ?_
        refine RW.opd rfl rfl (LO.move rfl rfl) ?_
        refine RW.opd rfl rfl (LO.call0 (fr := []) rfl rfl (hwk _) fok22 (.cons rfl (.pure rfl) (.cons rfl (.pure rfl) .nil)) rfl) ?_
        refine RW.opd rfl rfl (LO.move rfl rfl) ?_
        refine RW.gd rfl rfl rfl ?_ rfl (LO.fieldAddr rfl rfl ty54 rfl (by decide)) ?_; (· (first | rfl | assumption))
        refine RW.gd rfl rfl rfl ?_ rfl (LO.load rfl rfl rfl rfl ty3 rfl) ?_; (· (first | rfl | assumption))
        refine RW.gd rfl rfl rfl ?_ rfl (LO.move rfl rfl) ?_; (· (first | rfl | assumption))
        refine RW.gd rfl rfl rfl ?_ rfl (LO.len_isl rfl rfl rfl ty26) ?_; (· (first | rfl | assumption))
        refine RW.gd rfl rfl rfl ?_ rfl (LO.lss rfl rfl rfl) ?_; (· (first | rfl | assumption))
        refine RW.opd rfl rfl (LO.pick_t rfl rfl ?_ rfl) ?_; (· (first | rfl | assumption))
        refine RW.opd rfl rfl (LO.move rfl rfl) ?_
        refine RW.gd rfl rfl rfl ?_ rfl (LO.move rfl rfl) ?_; (· (first | rfl | assumption))
        refine RW.gd rfl rfl rfl ?_ rfl (LO.fieldAddr rfl rfl ty54 rfl (by decide)) ?_; (· (first | rfl | assumption))
        refine RW.gd rfl rfl rfl ?_ rfl (LO.load rfl rfl rfl rfl ty3 rfl) ?_; (· (first | rfl | assumption))
        refine RW.gd rfl rfl rfl ?_ rfl (LO.indexAddr_isl rfl rfl rfl rfl (Int.toNat_of_nonneg x3).symm ty26 ty3 ?_) ?_; (· (first | rfl | assumption)); (· (first | omega | decide | assumption | fail | (simp; done) | (simp; omega)))
        refine RW.gd rfl rfl rfl ?_ rfl (LO.load_imm rfl rfl (gi_at1 x3 (by rw [hdl]; exact x4)) ty3 rfl) ?_; (· (first | rfl | assumption))
        refine RW.gd rfl rfl rfl ?_ rfl (LO.lss rfl rfl rfl) ?_; (· (first | rfl | assumption))
        refine RW.opd rfl rfl (LO.pick_t rfl rfl ?_ rfl) ?_; (· (first | rfl | assumption))
        refine RW.nil ?_
        repeat (refine W.seq ?_)
        refine W.cond_t rfl (by first | rfl | assumption) ?_
        repeat (refine W.seq ?_)
        refine W.region 66 71 (by decide) rfl rfl ?_
        refine RW.opd rfl rfl (LO.move rfl rfl) ?_
        refine RW.opd rfl rfl (LO.move rfl rfl) ?_
        refine RW.opd rfl rfl (LO.buildSlice rfl ty26 ty3 (by decide) (by decide) (.cons rfl rfl rfl rfl (Sp.lit rfl) .nil)) ?_
        refine RW.opd rfl rfl (LO.append rfl rfl (SrcAV.own rfl rfl (Tk.lit rfl)) rfl (ints_tk rfl) ty26 ty26 ty3 (by decide) ?_ ?_ ?_) ?_; (· (first | omega | decide | assumption | fail | (simp; done) | (simp; omega))); (· (first | omega | decide | assumption | fail | (simp; done) | (simp; omega))); (· (first | decide | omega))
        refine RW.opd rfl rfl (LO.assign rfl rfl) ?_
        refine RW.nil ?_
        rw [ints_snoc, show o.length + 1 = (o ++ [(i : Int)]).length from by simp]
        repeat (refine W.seq ?_)
        refine W.region 75 77 (by decide) rfl rfl ?_
        refine RW.opd rfl rfl (LO.add_in rfl rfl rfl ?_) ?_; (· (first | exact IntWalk.i64_in _ (by omega) | assumption))
        refine RW.opd rfl rfl (LO.move rfl rfl) ?_
        refine RW.nil ?_
        refine WL.rename [(0, 0), (1, 69)] 2 (by decide) ?_ ?_ (ihA ((i + 1), (o ++ [(i : Int)])) (show f.links.length - (i + 1) < f.links.length - i from by omega) (show (i + 1) ≤ f.links.length ∧ (o ++ [(i : Int)]) = cutsK f (i + 1) from ⟨by omega, hn.symm⟩))
        · (repeat' (first | exact all_mt | refine all_up ?_ ?_)) <;> first | exact .inl ⟨rfl, rfl⟩ | exact .inr ⟨rfl, fun _ h => by cases h⟩ | exact .inl ⟨rfl, by first | rfl | assumption | exact (intsC_pure _)⟩
        · (repeat' (first | exact all_mt | refine all_up ?_ ?_)) <;> first | exact ⟨rfl, _, rfl, .inr ⟨rfl, rfl⟩⟩ | exact ⟨rfl, _, rfl, .inl rfl⟩ | exact ⟨rfl, _, rfl, .inr ⟨rfl, by first | rfl | assumption | exact (intsC_pure _)⟩⟩
      | false =>
        rw [if_neg (by rw [hcb, hwi, e]; decide)] at hn
        repeat (refine W.seq ?_)
        refine W.region 44 62 (by decide) rfl rfl ?_
        refine RW.opd rfl rfl (LO.load_agg rfl rfl rfl ty25 rfl (Tk.lit rfl)) ?_
        refine RW.opd rfl rfl (LO.move rfl rfl) ?_
        refine RW.opd rfl rfl (LO.call0 (fr := []) rfl rfl (hwk _) fok22 (.cons rfl (.pure rfl) (.cons rfl (.pure rfl) .nil)) rfl) ?_
        refine RW.opd rfl rfl (LO.move rfl rfl) ?_
        refine RW.gd rfl rfl rfl ?_ rfl (LO.fieldAddr rfl rfl ty54 rfl (by decide)) ?_; (· (first | rfl | assumption))
        refine RW.gd rfl rfl rfl ?_ rfl (LO.load rfl rfl rfl rfl ty3 rfl) ?_; (· (first | rfl | assumption))
        refine RW.gd rfl rfl rfl ?_ rfl (LO.move rfl rfl) ?_; (· (first | rfl | assumption))
        refine RW.gd rfl rfl rfl ?_ rfl (LO.len_isl rfl rfl rfl ty26) ?_; (· (first | rfl | assumption))
        refine RW.gd rfl rfl rfl ?_ rfl (LO.lss rfl rfl rfl) ?_; (· (first | rfl | assumption))
        refine RW.opd rfl rfl (LO.pick_t rfl rfl ?_ rfl) ?_; (· (first | rfl | assumption))
        refine RW.opd rfl rfl (LO.move rfl rfl) ?_
        refine RW.gd rfl rfl rfl ?_ rfl (LO.move rfl rfl) ?_; (· (first | rfl | assumption))
        refine RW.gd rfl rfl rfl ?_ rfl (LO.fieldAddr rfl rfl ty54 rfl (by decide)) ?_; (· (first | rfl | assumption))
        refine RW.gd rfl rfl rfl ?_ rfl (LO.load rfl rfl rfl rfl ty3 rfl) ?_; (· (first | rfl | assumption))
        refine RW.gd rfl rfl rfl ?_ rfl (LO.indexAddr_isl rfl rfl rfl rfl (Int.toNat_of_nonneg x3).symm ty26 ty3 ?_) ?_; (· (first | rfl | assumption)); (· (first | omega | decide | assumption | fail | (simp; done) | (simp; omega)))
        refine RW.gd rfl rfl rfl ?_ rfl (LO.load_imm rfl rfl (gi_at1 x3 (by rw [hdl]; exact x4)) ty3 rfl) ?_; (· (first | rfl | assumption))
        refine RW.gd rfl rfl rfl ?_ rfl (LO.lss rfl rfl rfl) ?_; (· (first | rfl | assumption))
        refine RW.opd rfl rfl (LO.pick_t rfl rfl ?_ rfl) ?_; (· (first | rfl | assumption))
        refine RW.nil ?_
        repeat (refine W.seq ?_)
        refine W.cond_f rfl (by first | rfl | assumption) ?_
        refine W.skip ?_
        repeat (refine W.seq ?_)
        refine W.region 75 77 (by decide) rfl rfl ?_
        refine RW.opd rfl rfl (LO.add_in rfl rfl rfl ?_) ?_; (· (first | exact IntWalk.i64_in _ (by omega) | assumption))
        refine RW.opd rfl rfl (LO.move rfl rfl) ?_
        refine RW.nil ?_
        refine WL.rename [(0, 0), (1, 1)] 2 (by decide) ?_ ?_ (ihA ((i + 1), o) (show f.links.length - (i + 1) < f.links.length - i from by omega) (show (i + 1) ≤ f.links.length ∧ o = cutsK f (i + 1) from ⟨by omega, hn.symm⟩))
        · (repeat' (first | exact all_mt | refine all_up ?_ ?_)) <;> first | exact .inl ⟨rfl, rfl⟩ | exact .inr ⟨rfl, fun _ h => by cases h⟩ | exact .inl ⟨rfl, by first | rfl | assumption | exact (intsC_pure _)⟩
        · (repeat' (first | exact all_mt | refine all_up ?_ ?_)) <;> first | exact ⟨rfl, _, rfl, .inr ⟨rfl, rfl⟩⟩ | exact ⟨rfl, _, rfl, .inl rfl⟩ | exact ⟨rfl, _, rfl, .inr ⟨rfl, by first | rfl | assumption | exact (intsC_pure _)⟩⟩
  · have g1 : decide ((i : Int) < (f.links.length : Int)) = false := decide_eq_false (by omega)
    repeat (refine W.seq ?_)
    refine W.region 19 20 (by decide) rfl rfl ?_
    refine RW.opd rfl rfl (LO.lss rfl rfl rfl) ?_
    refine RW.nil ?_
    repeat (refine W.seq ?_)
    refine W.cond_f rfl (by first | rfl | assumption) ?_
    refine W.exit ?_
    obtain rfl : i = f.links.length := by omega
    repeat (refine W.seq ?_)
    refine W.region 81 83 (by decide) rfl rfl ?_
    refine RW.opd rfl rfl (LO.move rfl rfl) ?_
    refine RW.opd rfl rfl (LO.assign rfl rfl) ?_
    refine RW.nil ?_
    refine W.frz1 (t := 2) rfl rfl (ints_tk rfl) (intsC_pure _) ?_
    repeat (refine W.seq ?_)
    refine W.ret ⟨.inl rfl, _, mt, RVs.cons (RV.tmp rfl) (RVs.nil), all_mt, ?_⟩
    exact ⟨by rw [ho]; rfl, rfl⟩
theorem failF_works (f : Fab) {i : Nat} (hd : i < f.down.length) : wkF (failF f i) = fun (j : Nat) => worksB f j && !((j : Int) == (i : Int)) := by
  funext j
  unfold wkF worksB failF
  have ea : ∀ s, aliveB { f with down := f.down.set (i : Int).toNat true } s = aliveB f s := fun s => rfl
  simp only [Int.toNat_natCast, List.length_set]
  by_cases e : j = i
  · subst e
    simp [hd]
  · have e2 : ((j : Int) == (i : Int)) = false := by simp; omega
    have e3 : i ≠ j := fun h => e h.symm
    rw [e2]
    simp [List.getElem?_set_ne e3]
    rfl
theorem dist_fail (f : Fab) {i : Nat} (hd : i < f.down.length) (to : Int) : dist (failF f i) to = distW f (fun j => worksB f j && !((j : Int) == (i : Int))) to := by
  unfold dist
  rw [failF_works f hd]
  rfl
theorem works_lt {f : Fab} {i : Nat} (h : worksB f i = true) : i < f.links.length ∧ i < f.down.length := by
  unfold worksB at h
  simp only [Bool.and_eq_true, decide_eq_true_eq] at h
  omega
theorem cutsX_any (f : Fab) (hf : FabS f) (hdn : f.down.length ≤ 1000) : AFn Try.prog 40 0 [.agg (fabC f)] mt (intsV (cutsF f)) mt := by
  refine AFn.eq Try.func40 rfl rfl (Nat.le_of_ble_eq_true rfl) ?_
  have hwk := worksX_any f
  have hfl := failed_any f
  have hdd : ∀ (k to : Int), AFn Try.prog 34 0 [.agg (fabC (failF f k)), .base (.int .i64 to)] mt (.isl (intsC (dist (failF f k) to)) f.dead.length) mt :=
    fun k to => distancesX_isl (failF f k) ⟨hf.sw, hf.n8, hf.nl⟩ to
  obtain ⟨hsw, h8, h24⟩ := hf
  repeat (refine W.seq ?_)
  refine W.region 0 2 (by decide) rfl rfl ?_
  refine RW.opd rfl rfl (LO.box rfl rfl rfl) ?_
  refine RW.opd rfl rfl (LO.assign rfl rfl) ?_
  refine RW.nil ?_
  repeat (refine W.seq ?_)
  refine W.region 6 7 (by decide) rfl rfl ?_
  refine RW.opd rfl rfl (LO.assign rfl rfl) ?_
  refine RW.nil ?_
  repeat (refine W.seq ?_)
  refine W.region 11 15 (by decide) rfl rfl ?_
  refine RW.opd rfl rfl (LO.fieldAddr rfl rfl ty25 rfl (by decide)) ?_
  refine RW.opd rfl rfl (LO.load rfl rfl rfl rfl ty22 rfl) ?_
  refine RW.opd rfl rfl (LO.len_isl rfl rfl rfl ty22) ?_
  refine RW.opd rfl rfl (LO.move rfl rfl) ?_
  refine RW.nil ?_
  refine W.name 15 (15 + 1) (t := 3) (sz := 1) rfl (by decide) (by decide) ?_
  repeat (refine W.seq ?_)
  refine W.block ?_
  refine W.rename [(0, 0), (1, 15)] 2 (T' := up (up (up (up (up mt 1 (some (.own 0 0))) 3 (some (.osl 1 0 (([] : List Int)).length 1))) 7 (some (.isl (lnksC f.links) f.links.length))) 8 (some (.base (.int .i64 (f.links.length : Int))))) 9 (some (.base (.int .i64 (0 : Int))))) (H' := up (up mt 0 (some (fabC f))) 1 (some (intsC (([] : List Int))))) (by decide) ?_ ?_ ?_
  · (repeat' (first | exact all_mt | refine all_up ?_ ?_)) <;> first | exact .inl ⟨rfl, rfl⟩ | exact .inr ⟨rfl, fun _ h => by cases h⟩ | exact .inl ⟨rfl, by first | rfl | assumption | exact (intsC_pure _)⟩
  · (repeat' (first | exact all_mt | refine all_up ?_ ?_)) <;> first | exact ⟨rfl, _, rfl, .inr ⟨rfl, rfl⟩⟩ | exact ⟨rfl, _, rfl, .inl rfl⟩ | exact ⟨rfl, _, rfl, .inr ⟨rfl, by first | rfl | assumption | exact (intsC_pure _)⟩⟩
  refine W.loop_ind (α := Nat × List Int) (fun x => f.links.length - x.1) 2 (fun x => up (up (up (up (up mt 1 (some (.own 0 0))) 3 (some (.osl 1 0 x.2.length 1))) 7 (some (.isl (lnksC f.links) f.links.length))) 8 (some (.base (.int .i64 (f.links.length : Int))))) 9 (some (.base (.int .i64 (x.1 : Int))))) (fun x => up (up mt 0 (some (fabC f))) 1 (some (intsC x.2))) (fun x => x.1 ≤ f.links.length ∧ x.2 = cutsK f x.1) (0, (([] : List Int))) (show 0 ≤ f.links.length ∧ (([] : List Int)) = cutsK f 0 from ⟨Nat.zero_le _, rfl⟩) ?_
  rintro ⟨i, o⟩ hIA ihA
  try (dsimp only at hIA)
  try dsimp only
  obtain ⟨hi, ho⟩ := hIA
  have hol : o.length ≤ i := by rw [ho]; exact cutsK_len _ _
  by_cases hc : i < f.links.length
  · have g1 : decide ((i : Int) < (f.links.length : Int)) = true := decide_eq_true (by omega)
    have hl : f.links[i]? = some f.links[i] := by simp [hc]
    have hn := cutsK_succ f i
    have hcb : cutB f i = (worksB f i && decide (gI (distW f (fun j => worksB f j && !((j : Int) == (i : Int))) f.links[i].a) f.links[i].b < 0)) := by unfold cutB; rw [hl]
    rw [← ho] at hn
    repeat (refine W.seq ?_)
    refine W.region 19 20 (by decide) rfl rfl ?_
    refine RW.opd rfl rfl (LO.lss rfl rfl rfl) ?_
    refine RW.nil ?_
    repeat (refine W.seq ?_)
    refine W.cond_t rfl (by first | rfl | assumption) ?_
    refine W.skip ?_
    repeat (refine W.seq ?_)
    refine W.block ?_
    repeat (refine W.seq ?_)
    refine W.region 24 30 (by decide) rfl rfl ?_
    refine RW.opd rfl rfl (LO.move rfl rfl) ?_
    refine RW.opd rfl rfl (LO.indexAddr_isl rfl rfl rfl rfl rfl ty22 ty54 ?_) ?_; (· (first | omega | decide | assumption | fail | (simp; done) | (simp; omega)))
    refine RW.opd rfl rfl (LO.load_imm_agg rfl rfl ty54 rfl (lnksC_tk hc)) ?_
    refine RW.opd rfl rfl (LO.alloc rfl ty54) ?_
    refine RW.opd rfl rfl (LO.assign rfl rfl) ?_
    refine RW.opn rfl rfl (LO.store rfl rfl rfl rfl rfl ty54 rfl (by decide) (Sp.lit rfl)) ?_
    refine RW.nil ?_
    cases hwi : worksB f i with
    | false =>
      have hcf : cutB f i = false := by rw [hcb, hwi]; rfl
      rw [if_neg (by rw [hcf]; decide)] at hn
      repeat (refine W.seq ?_)
      refine W.regionD 34 50 (by decide) rfl mixed rfl ?_
      refine RW.opd rfl rfl (LO.load_agg rfl rfl rfl ty25 rfl (Tk.lit rfl)) ?_
      refine RW.opd rfl rfl (LO.move rfl rfl) ?_
      refine RW.opd rfl rfl (LO.call0 (fr := []) rfl rfl (hwk _) fok23 (.cons rfl (.pure rfl) (.cons rfl (.pure rfl) .nil)) rfl) ?_
      refine RW.opd rfl rfl (LO.move rfl rfl) ?_
      refine RW.sd rfl rfl rfl ?_ rfl ?_; (· (first | rfl | assumption))
      refine RW.sd rfl rfl rfl ?_ rfl ?_; (· (first | rfl | assumption))
      refine RW.sd rfl rfl rfl ?_ rfl ?_; (· (first | rfl | assumption))
      refine RW.sd rfl rfl rfl ?_ rfl ?_; (· (first | rfl | assumption))
      refine RW.sd rfl rfl rfl ?_ rfl ?_; (· (first | rfl | assumption))
      refine RW.sd rfl rfl rfl ?_ rfl ?_; (· (first | rfl | assumption))
      refine RW.sd rfl rfl rfl ?_ rfl ?_; (· (first | rfl | assumption))
      refine RW.sd rfl rfl rfl ?_ rfl ?_; (· (first | rfl | assumption))
      refine RW.sd rfl rfl rfl ?_ rfl ?_; (· (first | rfl | assumption))
      refine RW.sd rfl rfl rfl ?_ rfl ?_; (· (first | rfl | assumption))
      refine RW.sd rfl rfl rfl ?_ rfl ?_; (· (first | rfl | assumption))
      refine RW.opd rfl rfl (LO.pick_f rfl rfl ?_ rfl) ?_; (· (first | rfl | assumption))
      refine RW.nil ⟨by kernel_rfl, ?_⟩
      repeat (refine W.seq ?_)
      refine W.cond_f rfl (by first | rfl | assumption) ?_
      refine W.skip ?_
      repeat (refine W.seq ?_)
      refine W.region 63 65 (by decide) rfl rfl ?_
      refine RW.opd rfl rfl (LO.add_in rfl rfl rfl ?_) ?_; (· (first | exact IntWalk.i64_in _ (by omega) | assumption))
      refine RW.opd rfl rfl (LO.move rfl rfl) ?_
      refine RW.nil ?_
      refine WL.rename [(0, 0), (1, 1)] 2 (by decide) ?_ ?_ (ihA ((i + 1), o) (show f.links.length - (i + 1) < f.links.length - i from by omega) (show (i + 1) ≤ f.links.length ∧ o = cutsK f (i + 1) from ⟨by omega, hn.symm⟩))
      · (repeat' (first | exact all_mt | refine all_up ?_ ?_)) <;> first | exact .inl ⟨rfl, rfl⟩ | exact .inr ⟨rfl, fun _ h => by cases h⟩ | exact .inl ⟨rfl, by first | rfl | assumption | exact (intsC_pure _)⟩
      · (repeat' (first | exact all_mt | refine all_up ?_ ?_)) <;> first | exact ⟨rfl, _, rfl, .inr ⟨rfl, rfl⟩⟩ | exact ⟨rfl, _, rfl, .inl rfl⟩ | exact ⟨rfl, _, rfl, .inr ⟨rfl, by first | rfl | assumption | exact (intsC_pure _)⟩⟩
    | true =>
      obtain ⟨x1, x2, x3, x4⟩ := wkF_wf f i _ hl hwi
      obtain ⟨_, x5⟩ := works_lt hwi
      have hdl := dist_len (failF f i) f.links[i].a
      rw [← dist_fail f x5] at hcb
      have hfl1 := hfl (i : Int) (by omega) (by omega) hdn
      cases e : decide (gI (dist (failF f i) f.links[i].a) f.links[i].b < 0) with
      | true =>
        rw [if_pos (by rw [hcb, hwi, e]; rfl)] at hn
        repeat (refine W.seq ?_)
        refine W.regionD 34 50 (by decide) rfl mixed rfl ?_
        refine RW.opd rfl rfl (LO.load_agg rfl rfl rfl ty25 rfl (Tk.lit rfl)) ?_
        refine RW.opd rfl rfl (LO.move rfl rfl) ?_
        refine RW.opd rfl rfl (LO.call0 (fr := []) rfl rfl (hwk _) fok23 (.cons rfl (.pure rfl) (.cons rfl (.pure rfl) .nil)) rfl) ?_
        refine RW.opd rfl rfl (LO.move rfl rfl) ?_
        refine RW.gd rfl rfl rfl ?_ rfl (LO.load_agg rfl rfl rfl ty25 rfl (Tk.lit rfl)) ?_; (· (first | rfl | assumption))
        refine RW.gd rfl rfl rfl ?_ rfl (LO.move rfl rfl) ?_; (· (first | rfl | assumption))
        refine RW.gd rfl rfl rfl ?_ rfl (LO.call0 (fr := []) rfl rfl (hfl1) fok36 (.cons rfl (.pure rfl) (.cons rfl (.pure rfl) .nil)) rfl) ?_; (· (first | rfl | assumption))
        refine RW.gd rfl rfl rfl ?_ rfl (LO.fieldAddr rfl rfl ty54 rfl (by decide)) ?_; (· (first | rfl | assumption))
        refine RW.gd rfl rfl rfl ?_ rfl (LO.load rfl rfl rfl rfl ty3 rfl) ?_; (· (first | rfl | assumption))
        refine RW.gd rfl rfl rfl ?_ rfl (LO.call0 (fr := []) rfl rfl (hdd _ _) fok34 (.cons rfl (.pure rfl) (.cons rfl (.pure rfl) .nil)) rfl) ?_; (· (first | rfl | assumption))
        refine RW.gd rfl rfl rfl ?_ rfl (LO.fieldAddr rfl rfl ty54 rfl (by decide)) ?_; (· (first | rfl | assumption))
        refine RW.gd rfl rfl rfl ?_ rfl (LO.load rfl rfl rfl rfl ty3 rfl) ?_; (· (first | rfl | assumption))
        refine RW.gd rfl rfl rfl ?_ rfl (LO.indexAddr_isl rfl rfl rfl rfl (Int.toNat_of_nonneg x3).symm ty26 ty3 ?_) ?_; (· (first | rfl | assumption)); (· (first | omega | decide | assumption | fail | (simp; done) | (simp; omega)))
        refine RW.gd rfl rfl rfl ?_ rfl (LO.load_imm rfl rfl (gi_at1 x3 (by rw [hdl]; exact x4)) ty3 rfl) ?_; (· (first | rfl | assumption))
        refine RW.gd rfl rfl rfl ?_ rfl (LO.lss rfl rfl rfl) ?_; (· (first | rfl | assumption))
        refine RW.opd rfl rfl (LO.pick_t rfl rfl ?_ rfl) ?_; (· (first | rfl | assumption))
        refine RW.nil ⟨by kernel_rfl, ?_⟩
        repeat (refine W.seq ?_)
        refine W.cond_t rfl (by first | rfl | assumption) ?_
        repeat (refine W.seq ?_)
        refine W.region 54 59 (by decide) rfl rfl ?_
        refine RW.opd rfl rfl (LO.move rfl rfl) ?_
        refine RW.opd rfl rfl (LO.move rfl rfl) ?_
        refine RW.opd rfl rfl (LO.buildSlice rfl ty26 ty3 (by decide) (by decide) (.cons rfl rfl rfl rfl (Sp.lit rfl) .nil)) ?_
        refine RW.opd rfl rfl (LO.append rfl rfl (SrcAV.own rfl rfl (Tk.lit rfl)) rfl (ints_tk rfl) ty26 ty26 ty3 (by decide) ?_ ?_ ?_) ?_; (· (first | omega | decide | assumption | fail | (simp; done) | (simp; omega))); (· (first | omega | decide | assumption | fail | (simp; done) | (simp; omega))); (· (first | decide | omega))
        refine RW.opd rfl rfl (LO.assign rfl rfl) ?_
        refine RW.nil ?_
        rw [ints_snoc, show o.length + 1 = (o ++ [(i : Int)]).length from by simp]
        repeat (refine W.seq ?_)
        refine W.region 63 65 (by decide) rfl rfl ?_
        refine RW.opd rfl rfl (LO.add_in rfl rfl rfl ?_) ?_; (· (first | exact IntWalk.i64_in _ (by omega) | assumption))
        refine RW.opd rfl rfl (LO.move rfl rfl) ?_
        refine RW.nil ?_
        refine WL.rename [(0, 0), (1, 57)] 2 (by decide) ?_ ?_ (ihA ((i + 1), (o ++ [(i : Int)])) (show f.links.length - (i + 1) < f.links.length - i from by omega) (show (i + 1) ≤ f.links.length ∧ (o ++ [(i : Int)]) = cutsK f (i + 1) from ⟨by omega, hn.symm⟩))
        · (repeat' (first | exact all_mt | refine all_up ?_ ?_)) <;> first | exact .inl ⟨rfl, rfl⟩ | exact .inr ⟨rfl, fun _ h => by cases h⟩ | exact .inl ⟨rfl, by first | rfl | assumption | exact (intsC_pure _)⟩
        · (repeat' (first | exact all_mt | refine all_up ?_ ?_)) <;> first | exact ⟨rfl, _, rfl, .inr ⟨rfl, rfl⟩⟩ | exact ⟨rfl, _, rfl, .inl rfl⟩ | exact ⟨rfl, _, rfl, .inr ⟨rfl, by first | rfl | assumption | exact (intsC_pure _)⟩⟩
      | false =>
        rw [if_neg (by rw [hcb, hwi, e]; decide)] at hn
        repeat (refine W.seq ?_)
        refine W.regionD 34 50 (by decide) rfl mixed rfl ?_
        refine RW.opd rfl rfl (LO.load_agg rfl rfl rfl ty25 rfl (Tk.lit rfl)) ?_
        refine RW.opd rfl rfl (LO.move rfl rfl) ?_
        refine RW.opd rfl rfl (LO.call0 (fr := []) rfl rfl (hwk _) fok23 (.cons rfl (.pure rfl) (.cons rfl (.pure rfl) .nil)) rfl) ?_
        refine RW.opd rfl rfl (LO.move rfl rfl) ?_
        refine RW.gd rfl rfl rfl ?_ rfl (LO.load_agg rfl rfl rfl ty25 rfl (Tk.lit rfl)) ?_; (· (first | rfl | assumption))
        refine RW.gd rfl rfl rfl ?_ rfl (LO.move rfl rfl) ?_; (· (first | rfl | assumption))
        refine RW.gd rfl rfl rfl ?_ rfl (LO.call0 (fr := []) rfl rfl (hfl1) fok36 (.cons rfl (.pure rfl) (.cons rfl (.pure rfl) .nil)) rfl) ?_; (· (first | rfl | assumption))
        refine RW.gd rfl rfl rfl ?_ rfl (LO.fieldAddr rfl rfl ty54 rfl (by decide)) ?_; (· (first | rfl | assumption))
        refine RW.gd rfl rfl rfl ?_ rfl (LO.load rfl rfl rfl rfl ty3 rfl) ?_; (· (first | rfl | assumption))
        refine RW.gd rfl rfl rfl ?_ rfl (LO.call0 (fr := []) rfl rfl (hdd _ _) fok34 (.cons rfl (.pure rfl) (.cons rfl (.pure rfl) .nil)) rfl) ?_; (· (first | rfl | assumption))
        refine RW.gd rfl rfl rfl ?_ rfl (LO.fieldAddr rfl rfl ty54 rfl (by decide)) ?_; (· (first | rfl | assumption))
        refine RW.gd rfl rfl rfl ?_ rfl (LO.load rfl rfl rfl rfl ty3 rfl) ?_; (· (first | rfl | assumption))
        refine RW.gd rfl rfl rfl ?_ rfl (LO.indexAddr_isl rfl rfl rfl rfl (Int.toNat_of_nonneg x3).symm ty26 ty3 ?_) ?_; (· (first | rfl | assumption)); (· (first | omega | decide | assumption | fail | (simp; done) | (simp; omega)))
        refine RW.gd rfl rfl rfl ?_ rfl (LO.load_imm rfl rfl (gi_at1 x3 (by rw [hdl]; exact x4)) ty3 rfl) ?_; (· (first | rfl | assumption))
        refine RW.gd rfl rfl rfl ?_ rfl (LO.lss rfl rfl rfl) ?_; (· (first | rfl | assumption))
        refine RW.opd rfl rfl (LO.pick_t rfl rfl ?_ rfl) ?_; (· (first | rfl | assumption))
        refine RW.nil ⟨by kernel_rfl, ?_⟩
        repeat (refine W.seq ?_)
        refine W.cond_f rfl (by first | rfl | assumption) ?_
        refine W.skip ?_
        repeat (refine W.seq ?_)
        refine W.region 63 65 (by decide) rfl rfl ?_
        refine RW.opd rfl rfl (LO.add_in rfl rfl rfl ?_) ?_; (· (first | exact IntWalk.i64_in _ (by omega) | assumption))
        refine RW.opd rfl rfl (LO.move rfl rfl) ?_
        refine RW.nil ?_
        refine WL.rename [(0, 0), (1, 1)] 2 (by decide) ?_ ?_ (ihA ((i + 1), o) (show f.links.length - (i + 1) < f.links.length - i from by omega) (show (i + 1) ≤ f.links.length ∧ o = cutsK f (i + 1) from ⟨by omega, hn.symm⟩))
        · (repeat' (first | exact all_mt | refine all_up ?_ ?_)) <;> first | exact .inl ⟨rfl, rfl⟩ | exact .inr ⟨rfl, fun _ h => by cases h⟩ | exact .inl ⟨rfl, by first | rfl | assumption | exact (intsC_pure _)⟩
        · (repeat' (first | exact all_mt | refine all_up ?_ ?_)) <;> first | exact ⟨rfl, _, rfl, .inr ⟨rfl, rfl⟩⟩ | exact ⟨rfl, _, rfl, .inl rfl⟩ | exact ⟨rfl, _, rfl, .inr ⟨rfl, by first | rfl | assumption | exact (intsC_pure _)⟩⟩
  · have g1 : decide ((i : Int) < (f.links.length : Int)) = false := decide_eq_false (by omega)
    repeat (refine W.seq ?_)
    refine W.region 19 20 (by decide) rfl rfl ?_
    refine RW.opd rfl rfl (LO.lss rfl rfl rfl) ?_
    refine RW.nil ?_
    repeat (refine W.seq ?_)
    refine W.cond_f rfl (by first | rfl | assumption) ?_
    refine W.exit ?_
    obtain rfl : i = f.links.length := by omega
    repeat (refine W.seq ?_)
    refine W.region 69 71 (by decide) rfl rfl ?_
    refine RW.opd rfl rfl (LO.move rfl rfl) ?_
    refine RW.opd rfl rfl (LO.assign rfl rfl) ?_
    refine RW.nil ?_
    refine W.frz1 (t := 2) rfl rfl (ints_tk rfl) (intsC_pure _) ?_
    repeat (refine W.seq ?_)
    refine W.ret ⟨.inl rfl, _, mt, RVs.cons (RV.tmp rfl) (RVs.nil), all_mt, ?_⟩
    exact ⟨by rw [ho]; rfl, rfl⟩
end Go.Proofs.Ythbdngfnbpkefaa
