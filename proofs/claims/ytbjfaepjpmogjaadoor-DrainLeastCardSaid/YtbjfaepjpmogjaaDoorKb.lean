/-
  Which fabrics, loads and items are valid: both texts.
-/
import Derived.Test.YtbjfaepjpmogjaaDoorKa
namespace Go.Proofs.YtbjfaepjpmogjaaDoor
open Go.RowKit

def ldB (f : Fab) (x : Ld) : Bool := decide (0 ≤ x.a) && (decide (x.a < f.sw) && (decide (0 ≤ x.b) && (decide (x.b < f.sw) && (decide (0 ≤ x.r) && decide (x.r ≤ 1073741824)))))
def itB (f : Fab) (x : Itm) : Bool := decide (0 ≤ x.ix) && decide (x.ix < if x.sw then f.sw else (f.links.length : Int))
def validD (f : Fab) (ls : List Ld) (its : List Itm) : Bool := validB f && (decide (ls.length ≤ 16) && (decide (its.length ≤ 8) && (ls.all (ldB f) && (its.all (itB f) && decide its.Nodup))))
theorem validD_ld {f : Fab} {ls : List Ld} {its : List Itm} {i : Nat} (h : i < ls.length) (hb : ldB f ls[i] = false) : validD f ls its = false := by
  have : ls.all (ldB f) = false := by
    rw [List.all_eq_false]
    exact ⟨_, List.getElem_mem h, by rw [hb]; decide⟩
  unfold validD
  rw [this]; simp
theorem validD_it {f : Fab} {ls : List Ld} {its : List Itm} {i : Nat} (h : i < its.length) (hb : itB f its[i] = false) : validD f ls its = false := by
  have : its.all (itB f) = false := by
    rw [List.all_eq_false]
    exact ⟨_, List.getElem_mem h, by rw [hb]; decide⟩
  unfold validD
  rw [this]; simp
theorem nodup_next {l : List Itm} {i : Nat} (h : i < l.length) (hn : (l.take i).Nodup) (hm : l[i] ∉ l.take i) : (l.take (i + 1)).Nodup := by
  rw [List.take_succ_eq_append_getElem h, List.nodup_append]
  exact ⟨hn, by simp, fun a ha b hb => by simp at hb; subst hb; exact fun e => hm (e ▸ ha)⟩
theorem nodup_bad {l : List Itm} {i : Nat} (h : i < l.length) (hm : l[i] ∈ l.take i) : ¬ l.Nodup := fun hn => by
  have h2 : (l.take (i + 1)).Nodup := hn.sublist (List.take_sublist _ _)
  rw [List.take_succ_eq_append_getElem h, List.nodup_append] at h2
  exact h2.2.2 _ hm _ (List.mem_singleton.2 rfl) rfl
theorem validD_dup {f : Fab} {ls : List Ld} {its : List Itm} {i : Nat} (h : i < its.length) (hm : its[i] ∈ its.take i) : validD f ls its = false := by
  have : decide its.Nodup = false := decide_eq_false (nodup_bad h hm)
  unfold validD
  rw [this]; simp
theorem validD_all {f : Fab} {ls : List Ld} {its : List Itm} (h1 : validB f = true) (h2 : ls.length ≤ 16) (h3 : its.length ≤ 8) (h4 : (ls.take ls.length).all (ldB f) = true) (h5 : (its.take its.length).all (itB f) = true) (h6 : (its.take its.length).Nodup) : validD f ls its = true := by
  rw [List.take_length] at h4 h5 h6
  unfold validD
  rw [h1, h4, h5, decide_eq_true h2, decide_eq_true h3, decide_eq_true h6]; rfl

theorem notmem_next {l : List Itm} {v : Itm} {k : Nat} (h : k < l.length) (hn : v ∉ l.take k) (e : ¬ v = l[k]) : v ∉ l.take (k + 1) := by
  rw [List.take_succ_eq_append_getElem h, List.mem_append]
  rintro (h1 | h1)
  · exact hn h1
  · exact e (List.mem_singleton.1 h1)

set_option maxHeartbeats 1000000 in
theorem validD_any (f : Fab) (ls : List Ld) (its : List Itm) (hb : f.links.length ≤ 1000) (hls : ls.length ≤ 1000) (hits : its.length ≤ 1000) : AFn Tryd.prog 24 0 [.agg (fabC f), .isl (ldsC ls) ls.length, .isl (itsC its) its.length] mt (.base (.bool (validD f ls its))) mt := by
  refine AFn.eq Tryd.func24 rfl rfl (Nat.le_of_ble_eq_true rfl) ?_
  have hv := valid_any f hb
  have hct := containsIt_any
  repeat (refine W.seq ?_)
  refine W.region 0 2 (by decide) rfl rfl ?_
  refine RW.opd rfl rfl (LO.box rfl rfl rfl) ?_
  refine RW.opd rfl rfl (LO.assign rfl rfl) ?_
  refine RW.nil ?_
  cases hvb : validB f with
  | false =>
    rw [hvb] at hv
    have n1 : (!false) = true := rfl
    repeat (refine W.seq ?_)
    refine W.region 6 19 (by decide) rfl rfl ?_
    refine RW.opd rfl rfl (LO.load_agg rfl rfl rfl ty28 rfl (Tk.lit rfl)) ?_
    refine RW.opd rfl rfl (LO.call0 (fr := []) rfl rfl (hv) fok41 (.cons rfl (.pure rfl) .nil) rfl) ?_
    refine RW.opd rfl rfl (LO.not rfl rfl) ?_
    refine RW.opd rfl rfl (LO.move rfl rfl) ?_
    refine RW.sd rfl rfl rfl ?_ rfl ?_; (· (first | rfl | assumption))
    refine RW.sd rfl rfl rfl ?_ rfl ?_; (· (first | rfl | assumption))
    refine RW.sd rfl rfl rfl ?_ rfl ?_; (· (first | rfl | assumption))
    refine RW.opd rfl rfl (LO.pick_t rfl rfl ?_ rfl) ?_; (· (first | rfl | assumption))
    refine RW.opd rfl rfl (LO.move rfl rfl) ?_
    refine RW.sd rfl rfl rfl ?_ rfl ?_; (· (first | rfl | assumption))
    refine RW.sd rfl rfl rfl ?_ rfl ?_; (· (first | rfl | assumption))
    refine RW.sd rfl rfl rfl ?_ rfl ?_; (· (first | rfl | assumption))
    refine RW.opd rfl rfl (LO.pick_t rfl rfl ?_ rfl) ?_; (· (first | rfl | assumption))
    refine RW.nil ?_
    repeat (refine W.seq ?_)
    refine W.cond_t rfl (by first | rfl | assumption) ?_
    repeat (refine W.seq ?_)
    refine W.region 23 24 (by decide) rfl rfl ?_
    refine RW.opd rfl rfl (LO.assign rfl rfl) ?_
    refine RW.nil ?_
    repeat (refine W.seq ?_)
    refine W.ret ⟨.inl rfl, _, mt, RVs.cons (RV.tmp rfl) (RVs.nil), all_mt, ?_⟩
    exact ⟨by unfold validD; rw [hvb]; rfl, rfl⟩
  | true =>
    rw [hvb] at hv
    by_cases l1 : ls.length > 16
    · have k1 : decide ((ls.length : Int) > 16) = true := decide_eq_true (by omega)
      repeat (refine W.seq ?_)
      refine W.region 6 19 (by decide) rfl rfl ?_
      refine RW.opd rfl rfl (LO.load_agg rfl rfl rfl ty28 rfl (Tk.lit rfl)) ?_
      refine RW.opd rfl rfl (LO.call0 (fr := []) rfl rfl (hv) fok41 (.cons rfl (.pure rfl) .nil) rfl) ?_
      refine RW.opd rfl rfl (LO.not rfl rfl) ?_
      refine RW.opd rfl rfl (LO.move rfl rfl) ?_
      refine RW.gd rfl rfl rfl ?_ rfl (LO.move rfl rfl) ?_; (· (first | rfl | assumption))
      refine RW.gd rfl rfl rfl ?_ rfl (LO.len_isl rfl rfl rfl ty29) ?_; (· (first | rfl | assumption))
      refine RW.gd rfl rfl rfl ?_ rfl (LO.gtr rfl rfl rfl) ?_; (· (first | rfl | assumption))
      refine RW.opd rfl rfl (LO.pick_f rfl rfl ?_ rfl) ?_; (· (first | rfl | assumption))
      refine RW.opd rfl rfl (LO.move rfl rfl) ?_
      refine RW.sd rfl rfl rfl ?_ rfl ?_; (· (first | rfl | assumption))
      refine RW.sd rfl rfl rfl ?_ rfl ?_; (· (first | rfl | assumption))
      refine RW.sd rfl rfl rfl ?_ rfl ?_; (· (first | rfl | assumption))
      refine RW.opd rfl rfl (LO.pick_t rfl rfl ?_ rfl) ?_; (· (first | rfl | assumption))
      refine RW.nil ?_
      repeat (refine W.seq ?_)
      refine W.cond_t rfl (by first | rfl | assumption) ?_
      repeat (refine W.seq ?_)
      refine W.region 23 24 (by decide) rfl rfl ?_
      refine RW.opd rfl rfl (LO.assign rfl rfl) ?_
      refine RW.nil ?_
      repeat (refine W.seq ?_)
      refine W.ret ⟨.inl rfl, _, mt, RVs.cons (RV.tmp rfl) (RVs.nil), all_mt, ?_⟩
      exact ⟨by unfold validD; rw [decide_eq_false (show ¬ ls.length ≤ 16 by omega)]; simp [retOf], rfl⟩
    · have k1 : decide ((ls.length : Int) > 16) = false := decide_eq_false (by omega)
      by_cases l2 : its.length > 8
      · have k2 : decide ((its.length : Int) > 8) = true := decide_eq_true (by omega)
        repeat (refine W.seq ?_)
        refine W.region 6 19 (by decide) rfl rfl ?_
        refine RW.opd rfl rfl (LO.load_agg rfl rfl rfl ty28 rfl (Tk.lit rfl)) ?_
        refine RW.opd rfl rfl (LO.call0 (fr := []) rfl rfl (hv) fok41 (.cons rfl (.pure rfl) .nil) rfl) ?_
        refine RW.opd rfl rfl (LO.not rfl rfl) ?_
        refine RW.opd rfl rfl (LO.move rfl rfl) ?_
        refine RW.gd rfl rfl rfl ?_ rfl (LO.move rfl rfl) ?_; (· (first | rfl | assumption))
        refine RW.gd rfl rfl rfl ?_ rfl (LO.len_isl rfl rfl rfl ty29) ?_; (· (first | rfl | assumption))
        refine RW.gd rfl rfl rfl ?_ rfl (LO.gtr rfl rfl rfl) ?_; (· (first | rfl | assumption))
        refine RW.opd rfl rfl (LO.pick_f rfl rfl ?_ rfl) ?_; (· (first | rfl | assumption))
        refine RW.opd rfl rfl (LO.move rfl rfl) ?_
        refine RW.gd rfl rfl rfl ?_ rfl (LO.move rfl rfl) ?_; (· (first | rfl | assumption))
        refine RW.gd rfl rfl rfl ?_ rfl (LO.len_isl rfl rfl rfl ty22) ?_; (· (first | rfl | assumption))
        refine RW.gd rfl rfl rfl ?_ rfl (LO.gtr rfl rfl rfl) ?_; (· (first | rfl | assumption))
        refine RW.opd rfl rfl (LO.pick_f rfl rfl ?_ rfl) ?_; (· (first | rfl | assumption))
        refine RW.nil ?_
        repeat (refine W.seq ?_)
        refine W.cond_t rfl (by first | rfl | assumption) ?_
        repeat (refine W.seq ?_)
        refine W.region 23 24 (by decide) rfl rfl ?_
        refine RW.opd rfl rfl (LO.assign rfl rfl) ?_
        refine RW.nil ?_
        repeat (refine W.seq ?_)
        refine W.ret ⟨.inl rfl, _, mt, RVs.cons (RV.tmp rfl) (RVs.nil), all_mt, ?_⟩
        exact ⟨by unfold validD; rw [decide_eq_false (show ¬ its.length ≤ 8 by omega)]; simp [retOf], rfl⟩
      · have k2 : decide ((its.length : Int) > 8) = false := decide_eq_false (by omega)
        repeat (refine W.seq ?_)
        refine W.region 6 19 (by decide) rfl rfl ?_
        refine RW.opd rfl rfl (LO.load_agg rfl rfl rfl ty28 rfl (Tk.lit rfl)) ?_
        refine RW.opd rfl rfl (LO.call0 (fr := []) rfl rfl (hv) fok41 (.cons rfl (.pure rfl) .nil) rfl) ?_
        refine RW.opd rfl rfl (LO.not rfl rfl) ?_
        refine RW.opd rfl rfl (LO.move rfl rfl) ?_
        refine RW.gd rfl rfl rfl ?_ rfl (LO.move rfl rfl) ?_; (· (first | rfl | assumption))
        refine RW.gd rfl rfl rfl ?_ rfl (LO.len_isl rfl rfl rfl ty29) ?_; (· (first | rfl | assumption))
        refine RW.gd rfl rfl rfl ?_ rfl (LO.gtr rfl rfl rfl) ?_; (· (first | rfl | assumption))
        refine RW.opd rfl rfl (LO.pick_f rfl rfl ?_ rfl) ?_; (· (first | rfl | assumption))
        refine RW.opd rfl rfl (LO.move rfl rfl) ?_
        refine RW.gd rfl rfl rfl ?_ rfl (LO.move rfl rfl) ?_; (· (first | rfl | assumption))
        refine RW.gd rfl rfl rfl ?_ rfl (LO.len_isl rfl rfl rfl ty22) ?_; (· (first | rfl | assumption))
        refine RW.gd rfl rfl rfl ?_ rfl (LO.gtr rfl rfl rfl) ?_; (· (first | rfl | assumption))
        refine RW.opd rfl rfl (LO.pick_f rfl rfl ?_ rfl) ?_; (· (first | rfl | assumption))
        refine RW.nil ?_
        repeat (refine W.seq ?_)
        refine W.cond_f rfl (by first | rfl | assumption) ?_
        refine W.skip ?_
        repeat (refine W.seq ?_)
        refine W.region 28 31 (by decide) rfl rfl ?_
        refine RW.opd rfl rfl (LO.move rfl rfl) ?_
        refine RW.opd rfl rfl (LO.len_isl rfl rfl rfl ty29) ?_
        refine RW.opd rfl rfl (LO.move rfl rfl) ?_
        refine RW.nil ?_
        repeat (refine W.seq ?_)
        refine W.block ?_
        refine W.rename [(0, 0)] 1 (T' := up (up (up (up (up mt 2 (some (.isl (itsC its) its.length))) 3 (some (.own 0 0))) 25 (some (.isl (ldsC ls) ls.length))) 26 (some (.base (.int .i64 (ls.length : Int))))) 27 (some (.base (.int .i64 (0 : Int))))) (H' := up mt 0 (some (fabC f))) (by decide) ?_ ?_ ?_
        · (repeat' (first | exact all_mt | refine all_up ?_ ?_)) <;> first | exact .inl ⟨rfl, rfl⟩ | exact .inr ⟨rfl, fun _ h => by cases h⟩ | exact .inl ⟨rfl, by first | rfl | assumption ⟩
        · (repeat' (first | exact all_mt | refine all_up ?_ ?_)) <;> first | exact ⟨rfl, _, rfl, .inr ⟨rfl, rfl⟩⟩ | exact ⟨rfl, _, rfl, .inl rfl⟩ | exact ⟨rfl, _, rfl, .inr ⟨rfl, by first | rfl | assumption ⟩⟩
        refine W.loop_ind (α := Nat) (fun x => ls.length - x) 1 (fun x => up (up (up (up (up mt 2 (some (.isl (itsC its) its.length))) 3 (some (.own 0 0))) 25 (some (.isl (ldsC ls) ls.length))) 26 (some (.base (.int .i64 (ls.length : Int))))) 27 (some (.base (.int .i64 (x : Int))))) (fun x => up mt 0 (some (fabC f))) (fun x => x ≤ ls.length ∧ (ls.take x).all (ldB f) = true) 0 (show 0 ≤ ls.length ∧ (ls.take 0).all (ldB f) = true from ⟨Nat.zero_le _, rfl⟩) ?_
        rintro i hIA ihA
        try (dsimp only at hIA)
        try dsimp only
        obtain ⟨hi, hall⟩ := hIA
        by_cases hc : i < ls.length
        · have g1 : decide ((i : Int) < (ls.length : Int)) = true := decide_eq_true (by omega)
          repeat (refine W.seq ?_)
          refine W.region 35 36 (by decide) rfl rfl ?_
          refine RW.opd rfl rfl (LO.lss rfl rfl rfl) ?_
          refine RW.nil ?_
          repeat (refine W.seq ?_)
          refine W.cond_t rfl (by first | rfl | assumption) ?_
          refine W.skip ?_
          repeat (refine W.seq ?_)
          refine W.block ?_
          repeat (refine W.seq ?_)
          refine W.region 40 44 (by decide) rfl rfl ?_
          refine RW.opd rfl rfl (LO.indexAddr_isl rfl rfl rfl rfl rfl ty29 ty51 ?_) ?_; (· (first | omega | decide | assumption | fail | (simp; done) | (simp; omega)))
          refine RW.opd rfl rfl (LO.load_imm_agg rfl rfl ty51 rfl (lds_tk hc)) ?_
          refine RW.opd rfl rfl (LO.alloc rfl ty51) ?_
          refine RW.opn rfl rfl (LO.store rfl rfl rfl rfl rfl ty51 rfl (by decide) (Sp.lit rfl)) ?_
          refine RW.nil ?_
          by_cases t0 : ls[i].a < 0
          · have ht0 : decide (ls[i].a < 0) = true := decide_eq_true t0
            repeat (refine W.seq ?_)
            refine W.region 48 80 (by decide) rfl rfl ?_
            refine RW.opd rfl rfl (LO.fieldAddr rfl rfl ty51 rfl (by decide)) ?_
            refine RW.opd rfl rfl (LO.load rfl rfl rfl rfl ty3 rfl) ?_
            refine RW.opd rfl rfl (LO.lss rfl rfl rfl) ?_
            refine RW.opd rfl rfl (LO.move rfl rfl) ?_
            refine RW.sd rfl rfl rfl ?_ rfl ?_; (· (first | rfl | assumption))
            refine RW.sd rfl rfl rfl ?_ rfl ?_; (· (first | rfl | assumption))
            refine RW.sd rfl rfl rfl ?_ rfl ?_; (· (first | rfl | assumption))
            refine RW.sd rfl rfl rfl ?_ rfl ?_; (· (first | rfl | assumption))
            refine RW.sd rfl rfl rfl ?_ rfl ?_; (· (first | rfl | assumption))
            refine RW.opd rfl rfl (LO.pick_t rfl rfl ?_ rfl) ?_; (· (first | rfl | assumption))
            refine RW.opd rfl rfl (LO.move rfl rfl) ?_
            refine RW.sd rfl rfl rfl ?_ rfl ?_; (· (first | rfl | assumption))
            refine RW.sd rfl rfl rfl ?_ rfl ?_; (· (first | rfl | assumption))
            refine RW.sd rfl rfl rfl ?_ rfl ?_; (· (first | rfl | assumption))
            refine RW.opd rfl rfl (LO.pick_t rfl rfl ?_ rfl) ?_; (· (first | rfl | assumption))
            refine RW.opd rfl rfl (LO.move rfl rfl) ?_
            refine RW.sd rfl rfl rfl ?_ rfl ?_; (· (first | rfl | assumption))
            refine RW.sd rfl rfl rfl ?_ rfl ?_; (· (first | rfl | assumption))
            refine RW.sd rfl rfl rfl ?_ rfl ?_; (· (first | rfl | assumption))
            refine RW.sd rfl rfl rfl ?_ rfl ?_; (· (first | rfl | assumption))
            refine RW.sd rfl rfl rfl ?_ rfl ?_; (· (first | rfl | assumption))
            refine RW.opd rfl rfl (LO.pick_t rfl rfl ?_ rfl) ?_; (· (first | rfl | assumption))
            refine RW.opd rfl rfl (LO.move rfl rfl) ?_
            refine RW.sd rfl rfl rfl ?_ rfl ?_; (· (first | rfl | assumption))
            refine RW.sd rfl rfl rfl ?_ rfl ?_; (· (first | rfl | assumption))
            refine RW.sd rfl rfl rfl ?_ rfl ?_; (· (first | rfl | assumption))
            refine RW.opd rfl rfl (LO.pick_t rfl rfl ?_ rfl) ?_; (· (first | rfl | assumption))
            refine RW.opd rfl rfl (LO.move rfl rfl) ?_
            refine RW.sd rfl rfl rfl ?_ rfl ?_; (· (first | rfl | assumption))
            refine RW.sd rfl rfl rfl ?_ rfl ?_; (· (first | rfl | assumption))
            refine RW.sd rfl rfl rfl ?_ rfl ?_; (· (first | rfl | assumption))
            refine RW.opd rfl rfl (LO.pick_t rfl rfl ?_ rfl) ?_; (· (first | rfl | assumption))
            refine RW.nil ?_
            repeat (refine W.seq ?_)
            refine W.cond_t rfl (by first | rfl | assumption) ?_
            repeat (refine W.seq ?_)
            refine W.region 84 85 (by decide) rfl rfl ?_
            refine RW.opd rfl rfl (LO.assign rfl rfl) ?_
            refine RW.nil ?_
            repeat (refine W.seq ?_)
            refine W.ret ⟨.inl rfl, _, mt, RVs.cons (RV.tmp rfl) (RVs.nil), all_mt, ?_⟩
            exact ⟨by rw [validD_ld hc (by unfold ldB; simp; omega)]; rfl, rfl⟩
          · have ht0 : decide (ls[i].a < 0) = false := decide_eq_false t0
            by_cases t1 : ls[i].a ≥ f.sw
            · have ht1 : decide (ls[i].a ≥ f.sw) = true := decide_eq_true t1
              repeat (refine W.seq ?_)
              refine W.region 48 80 (by decide) rfl rfl ?_
              refine RW.opd rfl rfl (LO.fieldAddr rfl rfl ty51 rfl (by decide)) ?_
              refine RW.opd rfl rfl (LO.load rfl rfl rfl rfl ty3 rfl) ?_
              refine RW.opd rfl rfl (LO.lss rfl rfl rfl) ?_
              refine RW.opd rfl rfl (LO.move rfl rfl) ?_
              refine RW.gd rfl rfl rfl ?_ rfl (LO.fieldAddr rfl rfl ty51 rfl (by decide)) ?_; (· (first | rfl | assumption))
              refine RW.gd rfl rfl rfl ?_ rfl (LO.load rfl rfl rfl rfl ty3 rfl) ?_; (· (first | rfl | assumption))
              refine RW.gd rfl rfl rfl ?_ rfl (LO.fieldAddr rfl rfl ty28 rfl (by decide)) ?_; (· (first | rfl | assumption))
              refine RW.gd rfl rfl rfl ?_ rfl (LO.load rfl rfl rfl rfl ty3 rfl) ?_; (· (first | rfl | assumption))
              refine RW.gd rfl rfl rfl ?_ rfl (LO.geq rfl rfl rfl) ?_; (· (first | rfl | assumption))
              refine RW.opd rfl rfl (LO.pick_f rfl rfl ?_ rfl) ?_; (· (first | rfl | assumption))
              refine RW.opd rfl rfl (LO.move rfl rfl) ?_
              refine RW.sd rfl rfl rfl ?_ rfl ?_; (· (first | rfl | assumption))
              refine RW.sd rfl rfl rfl ?_ rfl ?_; (· (first | rfl | assumption))
              refine RW.sd rfl rfl rfl ?_ rfl ?_; (· (first | rfl | assumption))
              refine RW.opd rfl rfl (LO.pick_t rfl rfl ?_ rfl) ?_; (· (first | rfl | assumption))
              refine RW.opd rfl rfl (LO.move rfl rfl) ?_
              refine RW.sd rfl rfl rfl ?_ rfl ?_; (· (first | rfl | assumption))
              refine RW.sd rfl rfl rfl ?_ rfl ?_; (· (first | rfl | assumption))
              refine RW.sd rfl rfl rfl ?_ rfl ?_; (· (first | rfl | assumption))
              refine RW.sd rfl rfl rfl ?_ rfl ?_; (· (first | rfl | assumption))
              refine RW.sd rfl rfl rfl ?_ rfl ?_; (· (first | rfl | assumption))
              refine RW.opd rfl rfl (LO.pick_t rfl rfl ?_ rfl) ?_; (· (first | rfl | assumption))
              refine RW.opd rfl rfl (LO.move rfl rfl) ?_
              refine RW.sd rfl rfl rfl ?_ rfl ?_; (· (first | rfl | assumption))
              refine RW.sd rfl rfl rfl ?_ rfl ?_; (· (first | rfl | assumption))
              refine RW.sd rfl rfl rfl ?_ rfl ?_; (· (first | rfl | assumption))
              refine RW.opd rfl rfl (LO.pick_t rfl rfl ?_ rfl) ?_; (· (first | rfl | assumption))
              refine RW.opd rfl rfl (LO.move rfl rfl) ?_
              refine RW.sd rfl rfl rfl ?_ rfl ?_; (· (first | rfl | assumption))
              refine RW.sd rfl rfl rfl ?_ rfl ?_; (· (first | rfl | assumption))
              refine RW.sd rfl rfl rfl ?_ rfl ?_; (· (first | rfl | assumption))
              refine RW.opd rfl rfl (LO.pick_t rfl rfl ?_ rfl) ?_; (· (first | rfl | assumption))
              refine RW.nil ?_
              repeat (refine W.seq ?_)
              refine W.cond_t rfl (by first | rfl | assumption) ?_
              repeat (refine W.seq ?_)
              refine W.region 84 85 (by decide) rfl rfl ?_
              refine RW.opd rfl rfl (LO.assign rfl rfl) ?_
              refine RW.nil ?_
              repeat (refine W.seq ?_)
              refine W.ret ⟨.inl rfl, _, mt, RVs.cons (RV.tmp rfl) (RVs.nil), all_mt, ?_⟩
              exact ⟨by rw [validD_ld hc (by unfold ldB; simp; omega)]; rfl, rfl⟩
            · have ht1 : decide (ls[i].a ≥ f.sw) = false := decide_eq_false t1
              by_cases t2 : ls[i].b < 0
              · have ht2 : decide (ls[i].b < 0) = true := decide_eq_true t2
                repeat (refine W.seq ?_)
                refine W.region 48 80 (by decide) rfl rfl ?_
                refine RW.opd rfl rfl (LO.fieldAddr rfl rfl ty51 rfl (by decide)) ?_
                refine RW.opd rfl rfl (LO.load rfl rfl rfl rfl ty3 rfl) ?_
                refine RW.opd rfl rfl (LO.lss rfl rfl rfl) ?_
                refine RW.opd rfl rfl (LO.move rfl rfl) ?_
                refine RW.gd rfl rfl rfl ?_ rfl (LO.fieldAddr rfl rfl ty51 rfl (by decide)) ?_; (· (first | rfl | assumption))
                refine RW.gd rfl rfl rfl ?_ rfl (LO.load rfl rfl rfl rfl ty3 rfl) ?_; (· (first | rfl | assumption))
                refine RW.gd rfl rfl rfl ?_ rfl (LO.fieldAddr rfl rfl ty28 rfl (by decide)) ?_; (· (first | rfl | assumption))
                refine RW.gd rfl rfl rfl ?_ rfl (LO.load rfl rfl rfl rfl ty3 rfl) ?_; (· (first | rfl | assumption))
                refine RW.gd rfl rfl rfl ?_ rfl (LO.geq rfl rfl rfl) ?_; (· (first | rfl | assumption))
                refine RW.opd rfl rfl (LO.pick_f rfl rfl ?_ rfl) ?_; (· (first | rfl | assumption))
                refine RW.opd rfl rfl (LO.move rfl rfl) ?_
                refine RW.gd rfl rfl rfl ?_ rfl (LO.fieldAddr rfl rfl ty51 rfl (by decide)) ?_; (· (first | rfl | assumption))
                refine RW.gd rfl rfl rfl ?_ rfl (LO.load rfl rfl rfl rfl ty3 rfl) ?_; (· (first | rfl | assumption))
                refine RW.gd rfl rfl rfl ?_ rfl (LO.lss rfl rfl rfl) ?_; (· (first | rfl | assumption))
                refine RW.opd rfl rfl (LO.pick_f rfl rfl ?_ rfl) ?_; (· (first | rfl | assumption))
                refine RW.opd rfl rfl (LO.move rfl rfl) ?_
                refine RW.sd rfl rfl rfl ?_ rfl ?_; (· (first | rfl | assumption))
                refine RW.sd rfl rfl rfl ?_ rfl ?_; (· (first | rfl | assumption))
                refine RW.sd rfl rfl rfl ?_ rfl ?_; (· (first | rfl | assumption))
                refine RW.sd rfl rfl rfl ?_ rfl ?_; (· (first | rfl | assumption))
                refine RW.sd rfl rfl rfl ?_ rfl ?_; (· (first | rfl | assumption))
                refine RW.opd rfl rfl (LO.pick_t rfl rfl ?_ rfl) ?_; (· (first | rfl | assumption))
                refine RW.opd rfl rfl (LO.move rfl rfl) ?_
                refine RW.sd rfl rfl rfl ?_ rfl ?_; (· (first | rfl | assumption))
                refine RW.sd rfl rfl rfl ?_ rfl ?_; (· (first | rfl | assumption))
                refine RW.sd rfl rfl rfl ?_ rfl ?_; (· (first | rfl | assumption))
                refine RW.opd rfl rfl (LO.pick_t rfl rfl ?_ rfl) ?_; (· (first | rfl | assumption))
                refine RW.opd rfl rfl (LO.move rfl rfl) ?_
                refine RW.sd rfl rfl rfl ?_ rfl ?_; (· (first | rfl | assumption))
                refine RW.sd rfl rfl rfl ?_ rfl ?_; (· (first | rfl | assumption))
                refine RW.sd rfl rfl rfl ?_ rfl ?_; (· (first | rfl | assumption))
                refine RW.opd rfl rfl (LO.pick_t rfl rfl ?_ rfl) ?_; (· (first | rfl | assumption))
                refine RW.nil ?_
                repeat (refine W.seq ?_)
                refine W.cond_t rfl (by first | rfl | assumption) ?_
                repeat (refine W.seq ?_)
                refine W.region 84 85 (by decide) rfl rfl ?_
                refine RW.opd rfl rfl (LO.assign rfl rfl) ?_
                refine RW.nil ?_
                repeat (refine W.seq ?_)
                refine W.ret ⟨.inl rfl, _, mt, RVs.cons (RV.tmp rfl) (RVs.nil), all_mt, ?_⟩
                exact ⟨by rw [validD_ld hc (by unfold ldB; simp; omega)]; rfl, rfl⟩
              · have ht2 : decide (ls[i].b < 0) = false := decide_eq_false t2
                by_cases t3 : ls[i].b ≥ f.sw
                · have ht3 : decide (ls[i].b ≥ f.sw) = true := decide_eq_true t3
                  repeat (refine W.seq ?_)
                  refine W.region 48 80 (by decide) rfl rfl ?_
                  refine RW.opd rfl rfl (LO.fieldAddr rfl rfl ty51 rfl (by decide)) ?_
                  refine RW.opd rfl rfl (LO.load rfl rfl rfl rfl ty3 rfl) ?_
                  refine RW.opd rfl rfl (LO.lss rfl rfl rfl) ?_
                  refine RW.opd rfl rfl (LO.move rfl rfl) ?_
                  refine RW.gd rfl rfl rfl ?_ rfl (LO.fieldAddr rfl rfl ty51 rfl (by decide)) ?_; (· (first | rfl | assumption))
                  refine RW.gd rfl rfl rfl ?_ rfl (LO.load rfl rfl rfl rfl ty3 rfl) ?_; (· (first | rfl | assumption))
                  refine RW.gd rfl rfl rfl ?_ rfl (LO.fieldAddr rfl rfl ty28 rfl (by decide)) ?_; (· (first | rfl | assumption))
                  refine RW.gd rfl rfl rfl ?_ rfl (LO.load rfl rfl rfl rfl ty3 rfl) ?_; (· (first | rfl | assumption))
                  refine RW.gd rfl rfl rfl ?_ rfl (LO.geq rfl rfl rfl) ?_; (· (first | rfl | assumption))
                  refine RW.opd rfl rfl (LO.pick_f rfl rfl ?_ rfl) ?_; (· (first | rfl | assumption))
                  refine RW.opd rfl rfl (LO.move rfl rfl) ?_
                  refine RW.gd rfl rfl rfl ?_ rfl (LO.fieldAddr rfl rfl ty51 rfl (by decide)) ?_; (· (first | rfl | assumption))
                  refine RW.gd rfl rfl rfl ?_ rfl (LO.load rfl rfl rfl rfl ty3 rfl) ?_; (· (first | rfl | assumption))
                  refine RW.gd rfl rfl rfl ?_ rfl (LO.lss rfl rfl rfl) ?_; (· (first | rfl | assumption))
                  refine RW.opd rfl rfl (LO.pick_f rfl rfl ?_ rfl) ?_; (· (first | rfl | assumption))
                  refine RW.opd rfl rfl (LO.move rfl rfl) ?_
                  refine RW.gd rfl rfl rfl ?_ rfl (LO.fieldAddr rfl rfl ty51 rfl (by decide)) ?_; (· (first | rfl | assumption))
                  refine RW.gd rfl rfl rfl ?_ rfl (LO.load rfl rfl rfl rfl ty3 rfl) ?_; (· (first | rfl | assumption))
                  refine RW.gd rfl rfl rfl ?_ rfl (LO.fieldAddr rfl rfl ty28 rfl (by decide)) ?_; (· (first | rfl | assumption))
                  refine RW.gd rfl rfl rfl ?_ rfl (LO.load rfl rfl rfl rfl ty3 rfl) ?_; (· (first | rfl | assumption))
                  refine RW.gd rfl rfl rfl ?_ rfl (LO.geq rfl rfl rfl) ?_; (· (first | rfl | assumption))
                  refine RW.opd rfl rfl (LO.pick_f rfl rfl ?_ rfl) ?_; (· (first | rfl | assumption))
                  refine RW.opd rfl rfl (LO.move rfl rfl) ?_
                  refine RW.sd rfl rfl rfl ?_ rfl ?_; (· (first | rfl | assumption))
                  refine RW.sd rfl rfl rfl ?_ rfl ?_; (· (first | rfl | assumption))
                  refine RW.sd rfl rfl rfl ?_ rfl ?_; (· (first | rfl | assumption))
                  refine RW.opd rfl rfl (LO.pick_t rfl rfl ?_ rfl) ?_; (· (first | rfl | assumption))
                  refine RW.opd rfl rfl (LO.move rfl rfl) ?_
                  refine RW.sd rfl rfl rfl ?_ rfl ?_; (· (first | rfl | assumption))
                  refine RW.sd rfl rfl rfl ?_ rfl ?_; (· (first | rfl | assumption))
                  refine RW.sd rfl rfl rfl ?_ rfl ?_; (· (first | rfl | assumption))
                  refine RW.opd rfl rfl (LO.pick_t rfl rfl ?_ rfl) ?_; (· (first | rfl | assumption))
                  refine RW.nil ?_
                  repeat (refine W.seq ?_)
                  refine W.cond_t rfl (by first | rfl | assumption) ?_
                  repeat (refine W.seq ?_)
                  refine W.region 84 85 (by decide) rfl rfl ?_
                  refine RW.opd rfl rfl (LO.assign rfl rfl) ?_
                  refine RW.nil ?_
                  repeat (refine W.seq ?_)
                  refine W.ret ⟨.inl rfl, _, mt, RVs.cons (RV.tmp rfl) (RVs.nil), all_mt, ?_⟩
                  exact ⟨by rw [validD_ld hc (by unfold ldB; simp; omega)]; rfl, rfl⟩
                · have ht3 : decide (ls[i].b ≥ f.sw) = false := decide_eq_false t3
                  by_cases t4 : ls[i].r < 0
                  · have ht4 : decide (ls[i].r < 0) = true := decide_eq_true t4
                    repeat (refine W.seq ?_)
                    refine W.region 48 80 (by decide) rfl rfl ?_
                    refine RW.opd rfl rfl (LO.fieldAddr rfl rfl ty51 rfl (by decide)) ?_
                    refine RW.opd rfl rfl (LO.load rfl rfl rfl rfl ty3 rfl) ?_
                    refine RW.opd rfl rfl (LO.lss rfl rfl rfl) ?_
                    refine RW.opd rfl rfl (LO.move rfl rfl) ?_
                    refine RW.gd rfl rfl rfl ?_ rfl (LO.fieldAddr rfl rfl ty51 rfl (by decide)) ?_; (· (first | rfl | assumption))
                    refine RW.gd rfl rfl rfl ?_ rfl (LO.load rfl rfl rfl rfl ty3 rfl) ?_; (· (first | rfl | assumption))
                    refine RW.gd rfl rfl rfl ?_ rfl (LO.fieldAddr rfl rfl ty28 rfl (by decide)) ?_; (· (first | rfl | assumption))
                    refine RW.gd rfl rfl rfl ?_ rfl (LO.load rfl rfl rfl rfl ty3 rfl) ?_; (· (first | rfl | assumption))
                    refine RW.gd rfl rfl rfl ?_ rfl (LO.geq rfl rfl rfl) ?_; (· (first | rfl | assumption))
                    refine RW.opd rfl rfl (LO.pick_f rfl rfl ?_ rfl) ?_; (· (first | rfl | assumption))
                    refine RW.opd rfl rfl (LO.move rfl rfl) ?_
                    refine RW.gd rfl rfl rfl ?_ rfl (LO.fieldAddr rfl rfl ty51 rfl (by decide)) ?_; (· (first | rfl | assumption))
                    refine RW.gd rfl rfl rfl ?_ rfl (LO.load rfl rfl rfl rfl ty3 rfl) ?_; (· (first | rfl | assumption))
                    refine RW.gd rfl rfl rfl ?_ rfl (LO.lss rfl rfl rfl) ?_; (· (first | rfl | assumption))
                    refine RW.opd rfl rfl (LO.pick_f rfl rfl ?_ rfl) ?_; (· (first | rfl | assumption))
                    refine RW.opd rfl rfl (LO.move rfl rfl) ?_
                    refine RW.gd rfl rfl rfl ?_ rfl (LO.fieldAddr rfl rfl ty51 rfl (by decide)) ?_; (· (first | rfl | assumption))
                    refine RW.gd rfl rfl rfl ?_ rfl (LO.load rfl rfl rfl rfl ty3 rfl) ?_; (· (first | rfl | assumption))
                    refine RW.gd rfl rfl rfl ?_ rfl (LO.fieldAddr rfl rfl ty28 rfl (by decide)) ?_; (· (first | rfl | assumption))
                    refine RW.gd rfl rfl rfl ?_ rfl (LO.load rfl rfl rfl rfl ty3 rfl) ?_; (· (first | rfl | assumption))
                    refine RW.gd rfl rfl rfl ?_ rfl (LO.geq rfl rfl rfl) ?_; (· (first | rfl | assumption))
                    refine RW.opd rfl rfl (LO.pick_f rfl rfl ?_ rfl) ?_; (· (first | rfl | assumption))
                    refine RW.opd rfl rfl (LO.move rfl rfl) ?_
                    refine RW.gd rfl rfl rfl ?_ rfl (LO.fieldAddr rfl rfl ty51 rfl (by decide)) ?_; (· (first | rfl | assumption))
                    refine RW.gd rfl rfl rfl ?_ rfl (LO.load rfl rfl rfl rfl ty3 rfl) ?_; (· (first | rfl | assumption))
                    refine RW.gd rfl rfl rfl ?_ rfl (LO.lss rfl rfl rfl) ?_; (· (first | rfl | assumption))
                    refine RW.opd rfl rfl (LO.pick_f rfl rfl ?_ rfl) ?_; (· (first | rfl | assumption))
                    refine RW.opd rfl rfl (LO.move rfl rfl) ?_
                    refine RW.sd rfl rfl rfl ?_ rfl ?_; (· (first | rfl | assumption))
                    refine RW.sd rfl rfl rfl ?_ rfl ?_; (· (first | rfl | assumption))
                    refine RW.sd rfl rfl rfl ?_ rfl ?_; (· (first | rfl | assumption))
                    refine RW.opd rfl rfl (LO.pick_t rfl rfl ?_ rfl) ?_; (· (first | rfl | assumption))
                    refine RW.nil ?_
                    repeat (refine W.seq ?_)
                    refine W.cond_t rfl (by first | rfl | assumption) ?_
                    repeat (refine W.seq ?_)
                    refine W.region 84 85 (by decide) rfl rfl ?_
                    refine RW.opd rfl rfl (LO.assign rfl rfl) ?_
                    refine RW.nil ?_
                    repeat (refine W.seq ?_)
                    refine W.ret ⟨.inl rfl, _, mt, RVs.cons (RV.tmp rfl) (RVs.nil), all_mt, ?_⟩
                    exact ⟨by rw [validD_ld hc (by unfold ldB; simp; omega)]; rfl, rfl⟩
                  · have ht4 : decide (ls[i].r < 0) = false := decide_eq_false t4
                    by_cases t5 : ls[i].r > 1073741824
                    · have ht5 : decide (ls[i].r > 1073741824) = true := decide_eq_true t5
                      repeat (refine W.seq ?_)
                      refine W.region 48 80 (by decide) rfl rfl ?_
                      refine RW.opd rfl rfl (LO.fieldAddr rfl rfl ty51 rfl (by decide)) ?_
                      refine RW.opd rfl rfl (LO.load rfl rfl rfl rfl ty3 rfl) ?_
                      refine RW.opd rfl rfl (LO.lss rfl rfl rfl) ?_
                      refine RW.opd rfl rfl (LO.move rfl rfl) ?_
                      refine RW.gd rfl rfl rfl ?_ rfl (LO.fieldAddr rfl rfl ty51 rfl (by decide)) ?_; (· (first | rfl | assumption))
                      refine RW.gd rfl rfl rfl ?_ rfl (LO.load rfl rfl rfl rfl ty3 rfl) ?_; (· (first | rfl | assumption))
                      refine RW.gd rfl rfl rfl ?_ rfl (LO.fieldAddr rfl rfl ty28 rfl (by decide)) ?_; (· (first | rfl | assumption))
                      refine RW.gd rfl rfl rfl ?_ rfl (LO.load rfl rfl rfl rfl ty3 rfl) ?_; (· (first | rfl | assumption))
                      refine RW.gd rfl rfl rfl ?_ rfl (LO.geq rfl rfl rfl) ?_; (· (first | rfl | assumption))
                      refine RW.opd rfl rfl (LO.pick_f rfl rfl ?_ rfl) ?_; (· (first | rfl | assumption))
                      refine RW.opd rfl rfl (LO.move rfl rfl) ?_
                      refine RW.gd rfl rfl rfl ?_ rfl (LO.fieldAddr rfl rfl ty51 rfl (by decide)) ?_; (· (first | rfl | assumption))
                      refine RW.gd rfl rfl rfl ?_ rfl (LO.load rfl rfl rfl rfl ty3 rfl) ?_; (· (first | rfl | assumption))
                      refine RW.gd rfl rfl rfl ?_ rfl (LO.lss rfl rfl rfl) ?_; (· (first | rfl | assumption))
                      refine RW.opd rfl rfl (LO.pick_f rfl rfl ?_ rfl) ?_; (· (first | rfl | assumption))
                      refine RW.opd rfl rfl (LO.move rfl rfl) ?_
                      refine RW.gd rfl rfl rfl ?_ rfl (LO.fieldAddr rfl rfl ty51 rfl (by decide)) ?_; (· (first | rfl | assumption))
                      refine RW.gd rfl rfl rfl ?_ rfl (LO.load rfl rfl rfl rfl ty3 rfl) ?_; (· (first | rfl | assumption))
                      refine RW.gd rfl rfl rfl ?_ rfl (LO.fieldAddr rfl rfl ty28 rfl (by decide)) ?_; (· (first | rfl | assumption))
                      refine RW.gd rfl rfl rfl ?_ rfl (LO.load rfl rfl rfl rfl ty3 rfl) ?_; (· (first | rfl | assumption))
                      refine RW.gd rfl rfl rfl ?_ rfl (LO.geq rfl rfl rfl) ?_; (· (first | rfl | assumption))
                      refine RW.opd rfl rfl (LO.pick_f rfl rfl ?_ rfl) ?_; (· (first | rfl | assumption))
                      refine RW.opd rfl rfl (LO.move rfl rfl) ?_
                      refine RW.gd rfl rfl rfl ?_ rfl (LO.fieldAddr rfl rfl ty51 rfl (by decide)) ?_; (· (first | rfl | assumption))
                      refine RW.gd rfl rfl rfl ?_ rfl (LO.load rfl rfl rfl rfl ty3 rfl) ?_; (· (first | rfl | assumption))
                      refine RW.gd rfl rfl rfl ?_ rfl (LO.lss rfl rfl rfl) ?_; (· (first | rfl | assumption))
                      refine RW.opd rfl rfl (LO.pick_f rfl rfl ?_ rfl) ?_; (· (first | rfl | assumption))
                      refine RW.opd rfl rfl (LO.move rfl rfl) ?_
                      refine RW.gd rfl rfl rfl ?_ rfl (LO.fieldAddr rfl rfl ty51 rfl (by decide)) ?_; (· (first | rfl | assumption))
                      refine RW.gd rfl rfl rfl ?_ rfl (LO.load rfl rfl rfl rfl ty3 rfl) ?_; (· (first | rfl | assumption))
                      refine RW.gd rfl rfl rfl ?_ rfl (LO.gtr rfl rfl rfl) ?_; (· (first | rfl | assumption))
                      refine RW.opd rfl rfl (LO.pick_f rfl rfl ?_ rfl) ?_; (· (first | rfl | assumption))
                      refine RW.nil ?_
                      repeat (refine W.seq ?_)
                      refine W.cond_t rfl (by first | rfl | assumption) ?_
                      repeat (refine W.seq ?_)
                      refine W.region 84 85 (by decide) rfl rfl ?_
                      refine RW.opd rfl rfl (LO.assign rfl rfl) ?_
                      refine RW.nil ?_
                      repeat (refine W.seq ?_)
                      refine W.ret ⟨.inl rfl, _, mt, RVs.cons (RV.tmp rfl) (RVs.nil), all_mt, ?_⟩
                      exact ⟨by rw [validD_ld hc (by unfold ldB; simp; omega)]; rfl, rfl⟩
                    · have ht5 : decide (ls[i].r > 1073741824) = false := decide_eq_false t5
                      repeat (refine W.seq ?_)
                      refine W.region 48 80 (by decide) rfl rfl ?_
                      refine RW.opd rfl rfl (LO.fieldAddr rfl rfl ty51 rfl (by decide)) ?_
                      refine RW.opd rfl rfl (LO.load rfl rfl rfl rfl ty3 rfl) ?_
                      refine RW.opd rfl rfl (LO.lss rfl rfl rfl) ?_
                      refine RW.opd rfl rfl (LO.move rfl rfl) ?_
                      refine RW.gd rfl rfl rfl ?_ rfl (LO.fieldAddr rfl rfl ty51 rfl (by decide)) ?_; (· (first | rfl | assumption))
                      refine RW.gd rfl rfl rfl ?_ rfl (LO.load rfl rfl rfl rfl ty3 rfl) ?_; (· (first | rfl | assumption))
                      refine RW.gd rfl rfl rfl ?_ rfl (LO.fieldAddr rfl rfl ty28 rfl (by decide)) ?_; (· (first | rfl | assumption))
                      refine RW.gd rfl rfl rfl ?_ rfl (LO.load rfl rfl rfl rfl ty3 rfl) ?_; (· (first | rfl | assumption))
                      refine RW.gd rfl rfl rfl ?_ rfl (LO.geq rfl rfl rfl) ?_; (· (first | rfl | assumption))
                      refine RW.opd rfl rfl (LO.pick_f rfl rfl ?_ rfl) ?_; (· (first | rfl | assumption))
                      refine RW.opd rfl rfl (LO.move rfl rfl) ?_
                      refine RW.gd rfl rfl rfl ?_ rfl (LO.fieldAddr rfl rfl ty51 rfl (by decide)) ?_; (· (first | rfl | assumption))
                      refine RW.gd rfl rfl rfl ?_ rfl (LO.load rfl rfl rfl rfl ty3 rfl) ?_; (· (first | rfl | assumption))
                      refine RW.gd rfl rfl rfl ?_ rfl (LO.lss rfl rfl rfl) ?_; (· (first | rfl | assumption))
                      refine RW.opd rfl rfl (LO.pick_f rfl rfl ?_ rfl) ?_; (· (first | rfl | assumption))
                      refine RW.opd rfl rfl (LO.move rfl rfl) ?_
                      refine RW.gd rfl rfl rfl ?_ rfl (LO.fieldAddr rfl rfl ty51 rfl (by decide)) ?_; (· (first | rfl | assumption))
                      refine RW.gd rfl rfl rfl ?_ rfl (LO.load rfl rfl rfl rfl ty3 rfl) ?_; (· (first | rfl | assumption))
                      refine RW.gd rfl rfl rfl ?_ rfl (LO.fieldAddr rfl rfl ty28 rfl (by decide)) ?_; (· (first | rfl | assumption))
                      refine RW.gd rfl rfl rfl ?_ rfl (LO.load rfl rfl rfl rfl ty3 rfl) ?_; (· (first | rfl | assumption))
                      refine RW.gd rfl rfl rfl ?_ rfl (LO.geq rfl rfl rfl) ?_; (· (first | rfl | assumption))
                      refine RW.opd rfl rfl (LO.pick_f rfl rfl ?_ rfl) ?_; (· (first | rfl | assumption))
                      refine RW.opd rfl rfl (LO.move rfl rfl) ?_
                      refine RW.gd rfl rfl rfl ?_ rfl (LO.fieldAddr rfl rfl ty51 rfl (by decide)) ?_; (· (first | rfl | assumption))
                      refine RW.gd rfl rfl rfl ?_ rfl (LO.load rfl rfl rfl rfl ty3 rfl) ?_; (· (first | rfl | assumption))
                      refine RW.gd rfl rfl rfl ?_ rfl (LO.lss rfl rfl rfl) ?_; (· (first | rfl | assumption))
                      refine RW.opd rfl rfl (LO.pick_f rfl rfl ?_ rfl) ?_; (· (first | rfl | assumption))
                      refine RW.opd rfl rfl (LO.move rfl rfl) ?_
                      refine RW.gd rfl rfl rfl ?_ rfl (LO.fieldAddr rfl rfl ty51 rfl (by decide)) ?_; (· (first | rfl | assumption))
                      refine RW.gd rfl rfl rfl ?_ rfl (LO.load rfl rfl rfl rfl ty3 rfl) ?_; (· (first | rfl | assumption))
                      refine RW.gd rfl rfl rfl ?_ rfl (LO.gtr rfl rfl rfl) ?_; (· (first | rfl | assumption))
                      refine RW.opd rfl rfl (LO.pick_f rfl rfl ?_ rfl) ?_; (· (first | rfl | assumption))
                      refine RW.nil ?_
                      repeat (refine W.seq ?_)
                      refine W.cond_f rfl (by first | rfl | assumption) ?_
                      refine W.skip ?_
                      repeat (refine W.seq ?_)
                      refine W.region 89 91 (by decide) rfl rfl ?_
                      refine RW.opd rfl rfl (LO.add_in rfl rfl rfl ?_) ?_; (· (first | exact IntWalk.i64_in _ (by omega) | assumption))
                      refine RW.opd rfl rfl (LO.move rfl rfl) ?_
                      refine RW.nil ?_
                      refine WL.rename [(0, 0)] 1 (by decide) ?_ ?_ (ihA (i + 1) (show ls.length - (i + 1) < ls.length - i from by omega) (show (i + 1) ≤ ls.length ∧ (ls.take (i + 1)).all (ldB f) = true from ⟨by omega, by rw [all_take_succ _ hc, hall]; unfold ldB; simp; omega⟩))
                      · (repeat' (first | exact all_mt | refine all_up ?_ ?_)) <;> first | exact .inl ⟨rfl, rfl⟩ | exact .inr ⟨rfl, fun _ h => by cases h⟩ | exact .inl ⟨rfl, by first | rfl | assumption ⟩
                      · (repeat' (first | exact all_mt | refine all_up ?_ ?_)) <;> first | exact ⟨rfl, _, rfl, .inr ⟨rfl, rfl⟩⟩ | exact ⟨rfl, _, rfl, .inl rfl⟩ | exact ⟨rfl, _, rfl, .inr ⟨rfl, by first | rfl | assumption ⟩⟩
        · have g1 : decide ((i : Int) < (ls.length : Int)) = false := decide_eq_false (by omega)
          repeat (refine W.seq ?_)
          refine W.region 35 36 (by decide) rfl rfl ?_
          refine RW.opd rfl rfl (LO.lss rfl rfl rfl) ?_
          refine RW.nil ?_
          repeat (refine W.seq ?_)
          refine W.cond_f rfl (by first | rfl | assumption) ?_
          refine W.exit ?_
          obtain rfl : i = ls.length := by omega
          clear ihA hc g1
          repeat (refine W.seq ?_)
          refine W.region 95 98 (by decide) rfl rfl ?_
          refine RW.opd rfl rfl (LO.move rfl rfl) ?_
          refine RW.opd rfl rfl (LO.len_isl rfl rfl rfl ty22) ?_
          refine RW.opd rfl rfl (LO.move rfl rfl) ?_
          refine RW.nil ?_
          repeat (refine W.seq ?_)
          refine W.block ?_
          refine W.rename [(0, 0)] 1 (T' := up (up (up (up (up mt 2 (some (.isl (itsC its) its.length))) 3 (some (.own 0 0))) 64 (some (.isl (itsC its) its.length))) 65 (some (.base (.int .i64 (its.length : Int))))) 66 (some (.base (.int .i64 (0 : Int))))) (H' := up mt 0 (some (fabC f))) (by decide) ?_ ?_ ?_
          · (repeat' (first | exact all_mt | refine all_up ?_ ?_)) <;> first | exact .inl ⟨rfl, rfl⟩ | exact .inr ⟨rfl, fun _ h => by cases h⟩ | exact .inl ⟨rfl, by first | rfl | assumption ⟩
          · (repeat' (first | exact all_mt | refine all_up ?_ ?_)) <;> first | exact ⟨rfl, _, rfl, .inr ⟨rfl, rfl⟩⟩ | exact ⟨rfl, _, rfl, .inl rfl⟩ | exact ⟨rfl, _, rfl, .inr ⟨rfl, by first | rfl | assumption ⟩⟩
          refine W.loop_ind (α := Nat) (fun x => its.length - x) 1 (fun x => up (up (up (up (up mt 2 (some (.isl (itsC its) its.length))) 3 (some (.own 0 0))) 64 (some (.isl (itsC its) its.length))) 65 (some (.base (.int .i64 (its.length : Int))))) 66 (some (.base (.int .i64 (x : Int))))) (fun x => up mt 0 (some (fabC f))) (fun x => x ≤ its.length ∧ (its.take x).all (itB f) = true ∧ (its.take x).Nodup) 0 (show 0 ≤ its.length ∧ (its.take 0).all (itB f) = true ∧ (its.take 0).Nodup from ⟨Nat.zero_le _, rfl, List.nodup_nil⟩) ?_
          rintro j hIB ihB
          try (dsimp only at hIB)
          try dsimp only
          obtain ⟨hj, hja, hjn⟩ := hIB
          by_cases hc : j < its.length
          · have g1 : decide ((j : Int) < (its.length : Int)) = true := decide_eq_true (by omega)
            repeat (refine W.seq ?_)
            refine W.region 102 103 (by decide) rfl rfl ?_
            refine RW.opd rfl rfl (LO.lss rfl rfl rfl) ?_
            refine RW.nil ?_
            repeat (refine W.seq ?_)
            refine W.cond_t rfl (by first | rfl | assumption) ?_
            refine W.skip ?_
            repeat (refine W.seq ?_)
            refine W.block ?_
            repeat (refine W.seq ?_)
            refine W.region 107 113 (by decide) rfl rfl ?_
            refine RW.opd rfl rfl (LO.move rfl rfl) ?_
            refine RW.opd rfl rfl (LO.indexAddr_isl rfl rfl rfl rfl rfl ty22 ty45 ?_) ?_; (· (first | omega | decide | assumption | fail | (simp; done) | (simp; omega)))
            refine RW.opd rfl rfl (LO.load_imm_agg rfl rfl ty45 rfl (its_tk hc)) ?_
            refine RW.opd rfl rfl (LO.alloc rfl ty45) ?_
            refine RW.opd rfl rfl (LO.assign rfl rfl) ?_
            refine RW.opn rfl rfl (LO.store rfl rfl rfl rfl rfl ty45 rfl (by decide) (Sp.lit rfl)) ?_
            refine RW.nil ?_
            have hIt : ∀ s ix, its[j] = ⟨s, ix⟩ → itB f its[j] = (decide (0 ≤ ix) && decide (ix < if s then f.sw else (f.links.length : Int))) := fun s ix h => by rw [h]; rfl
            have hctj := hct (its.take j) its[j] (by rw [List.length_take]; omega)
            have hltk : (its.take j).length = j := by rw [List.length_take]; omega
            rw [hltk] at hctj
            have hpre := its_pre (l := its) (k := j) hj
            obtain ⟨it, hit⟩ : ∃ it, its[j] = it := ⟨_, rfl⟩
            have hdup : it ∈ its.take j → validD f ls its = false := fun hm => validD_dup hc (by rw [hit]; exact hm)
            have hbad : itB f it = false → validD f ls its = false := fun hm => validD_it hc (by rw [hit]; exact hm)
            have hnx := nodup_next hc hjn
            have hax := all_take_succ (l := its) (itB f) hc
            rw [hit] at hIt hctj hnx hax ⊢
            obtain ⟨s, ix⟩ := it
            have hIt := hIt s ix rfl
            clear hit
            obtain ⟨most, hmost⟩ : ∃ most : Int, (if s then f.sw else (f.links.length : Int)) = most := ⟨_, rfl⟩
            rw [hmost] at hIt
            repeat (refine W.seq ?_)
            refine W.region 117 121 (by decide) rfl rfl ?_
            refine RW.opd rfl rfl (LO.fieldAddr rfl rfl ty28 rfl (by decide)) ?_
            refine RW.opd rfl rfl (LO.load rfl rfl rfl rfl ty25 rfl) ?_
            refine RW.opd rfl rfl (LO.len_isl rfl rfl rfl ty25) ?_
            refine RW.opd rfl rfl (LO.assign rfl rfl) ?_
            refine RW.nil ?_
            cases s
            case' false =>
              obtain rfl : (f.links.length : Int) = most := hmost
              repeat (refine W.seq ?_)
              refine W.region 125 127 (by decide) rfl rfl ?_
              refine RW.opd rfl rfl (LO.fieldAddr rfl rfl ty45 rfl (by decide)) ?_
              refine RW.opd rfl rfl (LO.load rfl rfl rfl rfl ty4 rfl) ?_
              refine RW.nil ?_
              repeat (refine W.seq ?_)
              refine W.cond_f rfl (by first | rfl | assumption) ?_
              refine W.skip ?_
            case' true =>
              obtain rfl : f.sw = most := hmost
              repeat (refine W.seq ?_)
              refine W.region 125 127 (by decide) rfl rfl ?_
              refine RW.opd rfl rfl (LO.fieldAddr rfl rfl ty45 rfl (by decide)) ?_
              refine RW.opd rfl rfl (LO.load rfl rfl rfl rfl ty4 rfl) ?_
              refine RW.nil ?_
              repeat (refine W.seq ?_)
              refine W.cond_t rfl (by first | rfl | assumption) ?_
              repeat (refine W.seq ?_)
              refine W.region 131 134 (by decide) rfl rfl ?_
              refine RW.opd rfl rfl (LO.fieldAddr rfl rfl ty28 rfl (by decide)) ?_
              refine RW.opd rfl rfl (LO.load rfl rfl rfl rfl ty3 rfl) ?_
              refine RW.opd rfl rfl (LO.assign rfl rfl) ?_
              refine RW.nil ?_
            case false =>
              by_cases u0 : ix < 0
              · have hu0 : decide (ix < 0) = true := decide_eq_true u0
                repeat (refine W.seq ?_)
                refine W.regionD 138 154 (by decide) rfl mixed rfl ?_
                refine RW.opd rfl rfl (LO.fieldAddr rfl rfl ty45 rfl (by decide)) ?_
                refine RW.opd rfl rfl (LO.load rfl rfl rfl rfl ty3 rfl) ?_
                refine RW.opd rfl rfl (LO.lss rfl rfl rfl) ?_
                refine RW.opd rfl rfl (LO.move rfl rfl) ?_
                refine RW.sd rfl rfl rfl ?_ rfl ?_; (· (first | rfl | assumption))
                refine RW.sd rfl rfl rfl ?_ rfl ?_; (· (first | rfl | assumption))
                refine RW.sd rfl rfl rfl ?_ rfl ?_; (· (first | rfl | assumption))
                refine RW.sd rfl rfl rfl ?_ rfl ?_; (· (first | rfl | assumption))
                refine RW.opd rfl rfl (LO.pick_t rfl rfl ?_ rfl) ?_; (· (first | rfl | assumption))
                refine RW.opd rfl rfl (LO.move rfl rfl) ?_
                refine RW.sd rfl rfl rfl ?_ rfl ?_; (· (first | rfl | assumption))
                refine RW.sd rfl rfl rfl ?_ rfl ?_; (· (first | rfl | assumption))
                refine RW.sd rfl rfl rfl ?_ rfl ?_; (· (first | rfl | assumption))
                refine RW.sd rfl rfl rfl ?_ rfl ?_; (· (first | rfl | assumption))
                refine RW.sd rfl rfl rfl ?_ rfl ?_; (· (first | rfl | assumption))
                refine RW.opd rfl rfl (LO.pick_t rfl rfl ?_ rfl) ?_; (· (first | rfl | assumption))
                refine RW.nil ⟨by kernel_rfl, ?_⟩
                repeat (refine W.seq ?_)
                refine W.cond_t rfl (by first | rfl | assumption) ?_
                repeat (refine W.seq ?_)
                refine W.region 158 159 (by decide) rfl rfl ?_
                refine RW.opd rfl rfl (LO.assign rfl rfl) ?_
                refine RW.nil ?_
                repeat (refine W.seq ?_)
                refine W.ret ⟨.inl rfl, _, mt, RVs.cons (RV.tmp rfl) (RVs.nil), all_mt, ?_⟩
                exact ⟨by rw [hbad (by rw [hIt]; simp; omega)]; rfl, rfl⟩
              · have hu0 : decide (ix < 0) = false := decide_eq_false u0
                by_cases u1 : ix ≥ (f.links.length : Int)
                · have hu1 : decide (ix ≥ (f.links.length : Int)) = true := decide_eq_true u1
                  repeat (refine W.seq ?_)
                  refine W.regionD 138 154 (by decide) rfl mixed rfl ?_
                  refine RW.opd rfl rfl (LO.fieldAddr rfl rfl ty45 rfl (by decide)) ?_
                  refine RW.opd rfl rfl (LO.load rfl rfl rfl rfl ty3 rfl) ?_
                  refine RW.opd rfl rfl (LO.lss rfl rfl rfl) ?_
                  refine RW.opd rfl rfl (LO.move rfl rfl) ?_
                  refine RW.gd rfl rfl rfl ?_ rfl (LO.fieldAddr rfl rfl ty45 rfl (by decide)) ?_; (· (first | rfl | assumption))
                  refine RW.gd rfl rfl rfl ?_ rfl (LO.load rfl rfl rfl rfl ty3 rfl) ?_; (· (first | rfl | assumption))
                  refine RW.gd rfl rfl rfl ?_ rfl (LO.move rfl rfl) ?_; (· (first | rfl | assumption))
                  refine RW.gd rfl rfl rfl ?_ rfl (LO.geq rfl rfl rfl) ?_; (· (first | rfl | assumption))
                  refine RW.opd rfl rfl (LO.pick_f rfl rfl ?_ rfl) ?_; (· (first | rfl | assumption))
                  refine RW.opd rfl rfl (LO.move rfl rfl) ?_
                  refine RW.sd rfl rfl rfl ?_ rfl ?_; (· (first | rfl | assumption))
                  refine RW.sd rfl rfl rfl ?_ rfl ?_; (· (first | rfl | assumption))
                  refine RW.sd rfl rfl rfl ?_ rfl ?_; (· (first | rfl | assumption))
                  refine RW.sd rfl rfl rfl ?_ rfl ?_; (· (first | rfl | assumption))
                  refine RW.sd rfl rfl rfl ?_ rfl ?_; (· (first | rfl | assumption))
                  refine RW.opd rfl rfl (LO.pick_t rfl rfl ?_ rfl) ?_; (· (first | rfl | assumption))
                  refine RW.nil ⟨by kernel_rfl, ?_⟩
                  repeat (refine W.seq ?_)
                  refine W.cond_t rfl (by first | rfl | assumption) ?_
                  repeat (refine W.seq ?_)
                  refine W.region 158 159 (by decide) rfl rfl ?_
                  refine RW.opd rfl rfl (LO.assign rfl rfl) ?_
                  refine RW.nil ?_
                  repeat (refine W.seq ?_)
                  refine W.ret ⟨.inl rfl, _, mt, RVs.cons (RV.tmp rfl) (RVs.nil), all_mt, ?_⟩
                  exact ⟨by rw [hbad (by rw [hIt]; simp; omega)]; rfl, rfl⟩
                · have hu1 : decide (ix ≥ (f.links.length : Int)) = false := decide_eq_false u1
                  by_cases u2 : (⟨false, ix⟩ : Itm) ∈ its.take j
                  · have hu2 : decide ((⟨false, ix⟩ : Itm) ∈ its.take j) = true := decide_eq_true u2
                    repeat (refine W.seq ?_)
                    refine W.regionD 138 154 (by decide) rfl mixed rfl ?_
                    refine RW.opd rfl rfl (LO.fieldAddr rfl rfl ty45 rfl (by decide)) ?_
                    refine RW.opd rfl rfl (LO.load rfl rfl rfl rfl ty3 rfl) ?_
                    refine RW.opd rfl rfl (LO.lss rfl rfl rfl) ?_
                    refine RW.opd rfl rfl (LO.move rfl rfl) ?_
                    refine RW.gd rfl rfl rfl ?_ rfl (LO.fieldAddr rfl rfl ty45 rfl (by decide)) ?_; (· (first | rfl | assumption))
                    refine RW.gd rfl rfl rfl ?_ rfl (LO.load rfl rfl rfl rfl ty3 rfl) ?_; (· (first | rfl | assumption))
                    refine RW.gd rfl rfl rfl ?_ rfl (LO.move rfl rfl) ?_; (· (first | rfl | assumption))
                    refine RW.gd rfl rfl rfl ?_ rfl (LO.geq rfl rfl rfl) ?_; (· (first | rfl | assumption))
                    refine RW.opd rfl rfl (LO.pick_f rfl rfl ?_ rfl) ?_; (· (first | rfl | assumption))
                    refine RW.opd rfl rfl (LO.move rfl rfl) ?_
                    refine RW.gd rfl rfl rfl ?_ rfl (LO.move rfl rfl) ?_; (· (first | rfl | assumption))
                    refine RW.gd rfl rfl rfl ?_ rfl (LO.move rfl rfl) ?_; (· (first | rfl | assumption))
                    refine RW.gd rfl rfl rfl ?_ rfl (LO.slice_isl rfl rfl rfl Bnd.no (Bnd.at rfl rfl) ?_ ?_ ty22 ty45 hpre) ?_; (· (first | rfl | assumption)); (· (first | omega | decide | assumption | fail | (simp; done) | (simp; omega))); (· (first | omega | decide | assumption | fail | (simp; done) | (simp; omega)))
                    refine RW.gd rfl rfl rfl ?_ rfl (LO.load_agg rfl rfl rfl ty45 rfl (Tk.lit rfl)) ?_; (· (first | rfl | assumption))
                    refine RW.gd rfl rfl rfl ?_ rfl (LO.call0 (fr := []) rfl rfl (hctj) fok42 (.cons rfl (.pure rfl) (.cons rfl (.pure rfl) .nil)) rfl) ?_; (· (first | rfl | assumption))
                    refine RW.opd rfl rfl (LO.pick_f rfl rfl ?_ rfl) ?_; (· (first | rfl | assumption))
                    refine RW.nil ⟨by kernel_rfl, ?_⟩
                    repeat (refine W.seq ?_)
                    refine W.cond_t rfl (by first | rfl | assumption) ?_
                    repeat (refine W.seq ?_)
                    refine W.region 158 159 (by decide) rfl rfl ?_
                    refine RW.opd rfl rfl (LO.assign rfl rfl) ?_
                    refine RW.nil ?_
                    repeat (refine W.seq ?_)
                    refine W.ret ⟨.inl rfl, _, mt, RVs.cons (RV.tmp rfl) (RVs.nil), all_mt, ?_⟩
                    exact ⟨by rw [hdup u2]; rfl, rfl⟩
                  · have hu2 : decide ((⟨false, ix⟩ : Itm) ∈ its.take j) = false := decide_eq_false u2
                    repeat (refine W.seq ?_)
                    refine W.regionD 138 154 (by decide) rfl mixed rfl ?_
                    refine RW.opd rfl rfl (LO.fieldAddr rfl rfl ty45 rfl (by decide)) ?_
                    refine RW.opd rfl rfl (LO.load rfl rfl rfl rfl ty3 rfl) ?_
                    refine RW.opd rfl rfl (LO.lss rfl rfl rfl) ?_
                    refine RW.opd rfl rfl (LO.move rfl rfl) ?_
                    refine RW.gd rfl rfl rfl ?_ rfl (LO.fieldAddr rfl rfl ty45 rfl (by decide)) ?_; (· (first | rfl | assumption))
                    refine RW.gd rfl rfl rfl ?_ rfl (LO.load rfl rfl rfl rfl ty3 rfl) ?_; (· (first | rfl | assumption))
                    refine RW.gd rfl rfl rfl ?_ rfl (LO.move rfl rfl) ?_; (· (first | rfl | assumption))
                    refine RW.gd rfl rfl rfl ?_ rfl (LO.geq rfl rfl rfl) ?_; (· (first | rfl | assumption))
                    refine RW.opd rfl rfl (LO.pick_f rfl rfl ?_ rfl) ?_; (· (first | rfl | assumption))
                    refine RW.opd rfl rfl (LO.move rfl rfl) ?_
                    refine RW.gd rfl rfl rfl ?_ rfl (LO.move rfl rfl) ?_; (· (first | rfl | assumption))
                    refine RW.gd rfl rfl rfl ?_ rfl (LO.move rfl rfl) ?_; (· (first | rfl | assumption))
                    refine RW.gd rfl rfl rfl ?_ rfl (LO.slice_isl rfl rfl rfl Bnd.no (Bnd.at rfl rfl) ?_ ?_ ty22 ty45 hpre) ?_; (· (first | rfl | assumption)); (· (first | omega | decide | assumption | fail | (simp; done) | (simp; omega))); (· (first | omega | decide | assumption | fail | (simp; done) | (simp; omega)))
                    refine RW.gd rfl rfl rfl ?_ rfl (LO.load_agg rfl rfl rfl ty45 rfl (Tk.lit rfl)) ?_; (· (first | rfl | assumption))
                    refine RW.gd rfl rfl rfl ?_ rfl (LO.call0 (fr := []) rfl rfl (hctj) fok42 (.cons rfl (.pure rfl) (.cons rfl (.pure rfl) .nil)) rfl) ?_; (· (first | rfl | assumption))
                    refine RW.opd rfl rfl (LO.pick_f rfl rfl ?_ rfl) ?_; (· (first | rfl | assumption))
                    refine RW.nil ⟨by kernel_rfl, ?_⟩
                    repeat (refine W.seq ?_)
                    refine W.cond_f rfl (by first | rfl | assumption) ?_
                    refine W.skip ?_
                    repeat (refine W.seq ?_)
                    refine W.region 163 165 (by decide) rfl rfl ?_
                    refine RW.opd rfl rfl (LO.add_in rfl rfl rfl ?_) ?_; (· (first | exact IntWalk.i64_in _ (by omega) | assumption))
                    refine RW.opd rfl rfl (LO.move rfl rfl) ?_
                    refine RW.nil ?_
                    refine WL.rename [(0, 0)] 1 (by decide) ?_ ?_ (ihB (j + 1) (show its.length - (j + 1) < its.length - j from by omega) (show (j + 1) ≤ its.length ∧ (its.take (j + 1)).all (itB f) = true ∧ (its.take (j + 1)).Nodup from ⟨by omega, by rw [hax, hja, hIt]; simp; omega, hnx u2⟩))
                    · (repeat' (first | exact all_mt | refine all_up ?_ ?_)) <;> first | exact .inl ⟨rfl, rfl⟩ | exact .inr ⟨rfl, fun _ h => by cases h⟩ | exact .inl ⟨rfl, by first | rfl | assumption ⟩
                    · (repeat' (first | exact all_mt | refine all_up ?_ ?_)) <;> first | exact ⟨rfl, _, rfl, .inr ⟨rfl, rfl⟩⟩ | exact ⟨rfl, _, rfl, .inl rfl⟩ | exact ⟨rfl, _, rfl, .inr ⟨rfl, by first | rfl | assumption ⟩⟩
            case true =>
              by_cases u0 : ix < 0
              · have hu0 : decide (ix < 0) = true := decide_eq_true u0
                repeat (refine W.seq ?_)
                refine W.regionD 138 154 (by decide) rfl mixed rfl ?_
                refine RW.opd rfl rfl (LO.fieldAddr rfl rfl ty45 rfl (by decide)) ?_
                refine RW.opd rfl rfl (LO.load rfl rfl rfl rfl ty3 rfl) ?_
                refine RW.opd rfl rfl (LO.lss rfl rfl rfl) ?_
                refine RW.opd rfl rfl (LO.move rfl rfl) ?_
                refine RW.sd rfl rfl rfl ?_ rfl ?_; (· (first | rfl | assumption))
                refine RW.sd rfl rfl rfl ?_ rfl ?_; (· (first | rfl | assumption))
                refine RW.sd rfl rfl rfl ?_ rfl ?_; (· (first | rfl | assumption))
                refine RW.sd rfl rfl rfl ?_ rfl ?_; (· (first | rfl | assumption))
                refine RW.opd rfl rfl (LO.pick_t rfl rfl ?_ rfl) ?_; (· (first | rfl | assumption))
                refine RW.opd rfl rfl (LO.move rfl rfl) ?_
                refine RW.sd rfl rfl rfl ?_ rfl ?_; (· (first | rfl | assumption))
                refine RW.sd rfl rfl rfl ?_ rfl ?_; (· (first | rfl | assumption))
                refine RW.sd rfl rfl rfl ?_ rfl ?_; (· (first | rfl | assumption))
                refine RW.sd rfl rfl rfl ?_ rfl ?_; (· (first | rfl | assumption))
                refine RW.sd rfl rfl rfl ?_ rfl ?_; (· (first | rfl | assumption))
                refine RW.opd rfl rfl (LO.pick_t rfl rfl ?_ rfl) ?_; (· (first | rfl | assumption))
                refine RW.nil ⟨by kernel_rfl, ?_⟩
                repeat (refine W.seq ?_)
                refine W.cond_t rfl (by first | rfl | assumption) ?_
                repeat (refine W.seq ?_)
                refine W.region 158 159 (by decide) rfl rfl ?_
                refine RW.opd rfl rfl (LO.assign rfl rfl) ?_
                refine RW.nil ?_
                repeat (refine W.seq ?_)
                refine W.ret ⟨.inl rfl, _, mt, RVs.cons (RV.tmp rfl) (RVs.nil), all_mt, ?_⟩
                exact ⟨by rw [hbad (by rw [hIt]; simp; omega)]; rfl, rfl⟩
              · have hu0 : decide (ix < 0) = false := decide_eq_false u0
                by_cases u1 : ix ≥ f.sw
                · have hu1 : decide (ix ≥ f.sw) = true := decide_eq_true u1
                  repeat (refine W.seq ?_)
                  refine W.regionD 138 154 (by decide) rfl mixed rfl ?_
                  refine RW.opd rfl rfl (LO.fieldAddr rfl rfl ty45 rfl (by decide)) ?_
                  refine RW.opd rfl rfl (LO.load rfl rfl rfl rfl ty3 rfl) ?_
                  refine RW.opd rfl rfl (LO.lss rfl rfl rfl) ?_
                  refine RW.opd rfl rfl (LO.move rfl rfl) ?_
                  refine RW.gd rfl rfl rfl ?_ rfl (LO.fieldAddr rfl rfl ty45 rfl (by decide)) ?_; (· (first | rfl | assumption))
                  refine RW.gd rfl rfl rfl ?_ rfl (LO.load rfl rfl rfl rfl ty3 rfl) ?_; (· (first | rfl | assumption))
                  refine RW.gd rfl rfl rfl ?_ rfl (LO.move rfl rfl) ?_; (· (first | rfl | assumption))
                  refine RW.gd rfl rfl rfl ?_ rfl (LO.geq rfl rfl rfl) ?_; (· (first | rfl | assumption))
                  refine RW.opd rfl rfl (LO.pick_f rfl rfl ?_ rfl) ?_; (· (first | rfl | assumption))
                  refine RW.opd rfl rfl (LO.move rfl rfl) ?_
                  refine RW.sd rfl rfl rfl ?_ rfl ?_; (· (first | rfl | assumption))
                  refine RW.sd rfl rfl rfl ?_ rfl ?_; (· (first | rfl | assumption))
                  refine RW.sd rfl rfl rfl ?_ rfl ?_; (· (first | rfl | assumption))
                  refine RW.sd rfl rfl rfl ?_ rfl ?_; (· (first | rfl | assumption))
                  refine RW.sd rfl rfl rfl ?_ rfl ?_; (· (first | rfl | assumption))
                  refine RW.opd rfl rfl (LO.pick_t rfl rfl ?_ rfl) ?_; (· (first | rfl | assumption))
                  refine RW.nil ⟨by kernel_rfl, ?_⟩
                  repeat (refine W.seq ?_)
                  refine W.cond_t rfl (by first | rfl | assumption) ?_
                  repeat (refine W.seq ?_)
                  refine W.region 158 159 (by decide) rfl rfl ?_
                  refine RW.opd rfl rfl (LO.assign rfl rfl) ?_
                  refine RW.nil ?_
                  repeat (refine W.seq ?_)
                  refine W.ret ⟨.inl rfl, _, mt, RVs.cons (RV.tmp rfl) (RVs.nil), all_mt, ?_⟩
                  exact ⟨by rw [hbad (by rw [hIt]; simp; omega)]; rfl, rfl⟩
                · have hu1 : decide (ix ≥ f.sw) = false := decide_eq_false u1
                  by_cases u2 : (⟨true, ix⟩ : Itm) ∈ its.take j
                  · have hu2 : decide ((⟨true, ix⟩ : Itm) ∈ its.take j) = true := decide_eq_true u2
                    repeat (refine W.seq ?_)
                    refine W.regionD 138 154 (by decide) rfl mixed rfl ?_
                    refine RW.opd rfl rfl (LO.fieldAddr rfl rfl ty45 rfl (by decide)) ?_
                    refine RW.opd rfl rfl (LO.load rfl rfl rfl rfl ty3 rfl) ?_
                    refine RW.opd rfl rfl (LO.lss rfl rfl rfl) ?_
                    refine RW.opd rfl rfl (LO.move rfl rfl) ?_
                    refine RW.gd rfl rfl rfl ?_ rfl (LO.fieldAddr rfl rfl ty45 rfl (by decide)) ?_; (· (first | rfl | assumption))
                    refine RW.gd rfl rfl rfl ?_ rfl (LO.load rfl rfl rfl rfl ty3 rfl) ?_; (· (first | rfl | assumption))
                    refine RW.gd rfl rfl rfl ?_ rfl (LO.move rfl rfl) ?_; (· (first | rfl | assumption))
                    refine RW.gd rfl rfl rfl ?_ rfl (LO.geq rfl rfl rfl) ?_; (· (first | rfl | assumption))
                    refine RW.opd rfl rfl (LO.pick_f rfl rfl ?_ rfl) ?_; (· (first | rfl | assumption))
                    refine RW.opd rfl rfl (LO.move rfl rfl) ?_
                    refine RW.gd rfl rfl rfl ?_ rfl (LO.move rfl rfl) ?_; (· (first | rfl | assumption))
                    refine RW.gd rfl rfl rfl ?_ rfl (LO.move rfl rfl) ?_; (· (first | rfl | assumption))
                    refine RW.gd rfl rfl rfl ?_ rfl (LO.slice_isl rfl rfl rfl Bnd.no (Bnd.at rfl rfl) ?_ ?_ ty22 ty45 hpre) ?_; (· (first | rfl | assumption)); (· (first | omega | decide | assumption | fail | (simp; done) | (simp; omega))); (· (first | omega | decide | assumption | fail | (simp; done) | (simp; omega)))
                    refine RW.gd rfl rfl rfl ?_ rfl (LO.load_agg rfl rfl rfl ty45 rfl (Tk.lit rfl)) ?_; (· (first | rfl | assumption))
                    refine RW.gd rfl rfl rfl ?_ rfl (LO.call0 (fr := []) rfl rfl (hctj) fok42 (.cons rfl (.pure rfl) (.cons rfl (.pure rfl) .nil)) rfl) ?_; (· (first | rfl | assumption))
                    refine RW.opd rfl rfl (LO.pick_f rfl rfl ?_ rfl) ?_; (· (first | rfl | assumption))
                    refine RW.nil ⟨by kernel_rfl, ?_⟩
                    repeat (refine W.seq ?_)
                    refine W.cond_t rfl (by first | rfl | assumption) ?_
                    repeat (refine W.seq ?_)
                    refine W.region 158 159 (by decide) rfl rfl ?_
                    refine RW.opd rfl rfl (LO.assign rfl rfl) ?_
                    refine RW.nil ?_
                    repeat (refine W.seq ?_)
                    refine W.ret ⟨.inl rfl, _, mt, RVs.cons (RV.tmp rfl) (RVs.nil), all_mt, ?_⟩
                    exact ⟨by rw [hdup u2]; rfl, rfl⟩
                  · have hu2 : decide ((⟨true, ix⟩ : Itm) ∈ its.take j) = false := decide_eq_false u2
                    repeat (refine W.seq ?_)
                    refine W.regionD 138 154 (by decide) rfl mixed rfl ?_
                    refine RW.opd rfl rfl (LO.fieldAddr rfl rfl ty45 rfl (by decide)) ?_
                    refine RW.opd rfl rfl (LO.load rfl rfl rfl rfl ty3 rfl) ?_
                    refine RW.opd rfl rfl (LO.lss rfl rfl rfl) ?_
                    refine RW.opd rfl rfl (LO.move rfl rfl) ?_
                    refine RW.gd rfl rfl rfl ?_ rfl (LO.fieldAddr rfl rfl ty45 rfl (by decide)) ?_; (· (first | rfl | assumption))
                    refine RW.gd rfl rfl rfl ?_ rfl (LO.load rfl rfl rfl rfl ty3 rfl) ?_; (· (first | rfl | assumption))
                    refine RW.gd rfl rfl rfl ?_ rfl (LO.move rfl rfl) ?_; (· (first | rfl | assumption))
                    refine RW.gd rfl rfl rfl ?_ rfl (LO.geq rfl rfl rfl) ?_; (· (first | rfl | assumption))
                    refine RW.opd rfl rfl (LO.pick_f rfl rfl ?_ rfl) ?_; (· (first | rfl | assumption))
                    refine RW.opd rfl rfl (LO.move rfl rfl) ?_
                    refine RW.gd rfl rfl rfl ?_ rfl (LO.move rfl rfl) ?_; (· (first | rfl | assumption))
                    refine RW.gd rfl rfl rfl ?_ rfl (LO.move rfl rfl) ?_; (· (first | rfl | assumption))
                    refine RW.gd rfl rfl rfl ?_ rfl (LO.slice_isl rfl rfl rfl Bnd.no (Bnd.at rfl rfl) ?_ ?_ ty22 ty45 hpre) ?_; (· (first | rfl | assumption)); (· (first | omega | decide | assumption | fail | (simp; done) | (simp; omega))); (· (first | omega | decide | assumption | fail | (simp; done) | (simp; omega)))
                    refine RW.gd rfl rfl rfl ?_ rfl (LO.load_agg rfl rfl rfl ty45 rfl (Tk.lit rfl)) ?_; (· (first | rfl | assumption))
                    refine RW.gd rfl rfl rfl ?_ rfl (LO.call0 (fr := []) rfl rfl (hctj) fok42 (.cons rfl (.pure rfl) (.cons rfl (.pure rfl) .nil)) rfl) ?_; (· (first | rfl | assumption))
                    refine RW.opd rfl rfl (LO.pick_f rfl rfl ?_ rfl) ?_; (· (first | rfl | assumption))
                    refine RW.nil ⟨by kernel_rfl, ?_⟩
                    repeat (refine W.seq ?_)
                    refine W.cond_f rfl (by first | rfl | assumption) ?_
                    refine W.skip ?_
                    repeat (refine W.seq ?_)
                    refine W.region 163 165 (by decide) rfl rfl ?_
                    refine RW.opd rfl rfl (LO.add_in rfl rfl rfl ?_) ?_; (· (first | exact IntWalk.i64_in _ (by omega) | assumption))
                    refine RW.opd rfl rfl (LO.move rfl rfl) ?_
                    refine RW.nil ?_
                    refine WL.rename [(0, 0)] 1 (by decide) ?_ ?_ (ihB (j + 1) (show its.length - (j + 1) < its.length - j from by omega) (show (j + 1) ≤ its.length ∧ (its.take (j + 1)).all (itB f) = true ∧ (its.take (j + 1)).Nodup from ⟨by omega, by rw [hax, hja, hIt]; simp; omega, hnx u2⟩))
                    · (repeat' (first | exact all_mt | refine all_up ?_ ?_)) <;> first | exact .inl ⟨rfl, rfl⟩ | exact .inr ⟨rfl, fun _ h => by cases h⟩ | exact .inl ⟨rfl, by first | rfl | assumption ⟩
                    · (repeat' (first | exact all_mt | refine all_up ?_ ?_)) <;> first | exact ⟨rfl, _, rfl, .inr ⟨rfl, rfl⟩⟩ | exact ⟨rfl, _, rfl, .inl rfl⟩ | exact ⟨rfl, _, rfl, .inr ⟨rfl, by first | rfl | assumption ⟩⟩
          · have g1 : decide ((j : Int) < (its.length : Int)) = false := decide_eq_false (by omega)
            repeat (refine W.seq ?_)
            refine W.region 102 103 (by decide) rfl rfl ?_
            refine RW.opd rfl rfl (LO.lss rfl rfl rfl) ?_
            refine RW.nil ?_
            repeat (refine W.seq ?_)
            refine W.cond_f rfl (by first | rfl | assumption) ?_
            refine W.exit ?_
            obtain rfl : j = its.length := by omega
            repeat (refine W.seq ?_)
            refine W.region 169 170 (by decide) rfl rfl ?_
            refine RW.opd rfl rfl (LO.assign rfl rfl) ?_
            refine RW.nil ?_
            repeat (refine W.seq ?_)
            refine W.ret ⟨.inl rfl, _, mt, RVs.cons (RV.tmp rfl) (RVs.nil), all_mt, ?_⟩
            exact ⟨by rw [validD_all hvb (by omega) (by omega) hall hja hjn]; rfl, rfl⟩
set_option maxHeartbeats 1000000 in
theorem validDX_any (f : Fab) (ls : List Ld) (its : List Itm) (hb : f.links.length ≤ 1000) (hls : ls.length ≤ 1000) (hits : its.length ≤ 1000) : AFn Tryd.prog 25 0 [.agg (fabC f), .isl (ldsC ls) ls.length, .isl (itsC its) its.length] mt (.base (.bool (validD f ls its))) mt := by
  refine AFn.eq Tryd.func25 rfl rfl (Nat.le_of_ble_eq_true rfl) ?_
  have hv := validX_any f hb
  repeat (refine W.seq ?_)
  refine W.region 0 2 (by decide) rfl rfl ?_
  refine RW.opd rfl rfl (LO.box rfl rfl rfl) ?_
  refine RW.opd rfl rfl (LO.assign rfl rfl) ?_
  refine RW.nil ?_
  cases hvb : validB f with
  | false =>
    rw [hvb] at hv
    have n1 : (!false) = true := rfl
    repeat (refine W.seq ?_)
    refine W.region 6 19 (by decide) rfl rfl ?_
    refine RW.opd rfl rfl (LO.load_agg rfl rfl rfl ty28 rfl (Tk.lit rfl)) ?_
    refine RW.opd rfl rfl (LO.call0 (fr := []) rfl rfl (hv) fok43 (.cons rfl (.pure rfl) .nil) rfl) ?_
    refine RW.opd rfl rfl (LO.not rfl rfl) ?_
    refine RW.opd rfl rfl (LO.move rfl rfl) ?_
    refine RW.sd rfl rfl rfl ?_ rfl ?_; (· (first | rfl | assumption))
    refine RW.sd rfl rfl rfl ?_ rfl ?_; (· (first | rfl | assumption))
    refine RW.sd rfl rfl rfl ?_ rfl ?_; (· (first | rfl | assumption))
    refine RW.opd rfl rfl (LO.pick_t rfl rfl ?_ rfl) ?_; (· (first | rfl | assumption))
    refine RW.opd rfl rfl (LO.move rfl rfl) ?_
    refine RW.sd rfl rfl rfl ?_ rfl ?_; (· (first | rfl | assumption))
    refine RW.sd rfl rfl rfl ?_ rfl ?_; (· (first | rfl | assumption))
    refine RW.sd rfl rfl rfl ?_ rfl ?_; (· (first | rfl | assumption))
    refine RW.opd rfl rfl (LO.pick_t rfl rfl ?_ rfl) ?_; (· (first | rfl | assumption))
    refine RW.nil ?_
    repeat (refine W.seq ?_)
    refine W.cond_t rfl (by first | rfl | assumption) ?_
    repeat (refine W.seq ?_)
    refine W.region 23 24 (by decide) rfl rfl ?_
    refine RW.opd rfl rfl (LO.assign rfl rfl) ?_
    refine RW.nil ?_
    repeat (refine W.seq ?_)
    refine W.ret ⟨.inl rfl, _, mt, RVs.cons (RV.tmp rfl) (RVs.nil), all_mt, ?_⟩
    exact ⟨by unfold validD; rw [hvb]; rfl, rfl⟩
  | true =>
    rw [hvb] at hv
    by_cases l1 : ls.length > 16
    · have k1 : decide ((ls.length : Int) > 16) = true := decide_eq_true (by omega)
      repeat (refine W.seq ?_)
      refine W.region 6 19 (by decide) rfl rfl ?_
      refine RW.opd rfl rfl (LO.load_agg rfl rfl rfl ty28 rfl (Tk.lit rfl)) ?_
      refine RW.opd rfl rfl (LO.call0 (fr := []) rfl rfl (hv) fok43 (.cons rfl (.pure rfl) .nil) rfl) ?_
      refine RW.opd rfl rfl (LO.not rfl rfl) ?_
      refine RW.opd rfl rfl (LO.move rfl rfl) ?_
      refine RW.gd rfl rfl rfl ?_ rfl (LO.move rfl rfl) ?_; (· (first | rfl | assumption))
      refine RW.gd rfl rfl rfl ?_ rfl (LO.len_isl rfl rfl rfl ty29) ?_; (· (first | rfl | assumption))
      refine RW.gd rfl rfl rfl ?_ rfl (LO.gtr rfl rfl rfl) ?_; (· (first | rfl | assumption))
      refine RW.opd rfl rfl (LO.pick_f rfl rfl ?_ rfl) ?_; (· (first | rfl | assumption))
      refine RW.opd rfl rfl (LO.move rfl rfl) ?_
      refine RW.sd rfl rfl rfl ?_ rfl ?_; (· (first | rfl | assumption))
      refine RW.sd rfl rfl rfl ?_ rfl ?_; (· (first | rfl | assumption))
      refine RW.sd rfl rfl rfl ?_ rfl ?_; (· (first | rfl | assumption))
      refine RW.opd rfl rfl (LO.pick_t rfl rfl ?_ rfl) ?_; (· (first | rfl | assumption))
      refine RW.nil ?_
      repeat (refine W.seq ?_)
      refine W.cond_t rfl (by first | rfl | assumption) ?_
      repeat (refine W.seq ?_)
      refine W.region 23 24 (by decide) rfl rfl ?_
      refine RW.opd rfl rfl (LO.assign rfl rfl) ?_
      refine RW.nil ?_
      repeat (refine W.seq ?_)
      refine W.ret ⟨.inl rfl, _, mt, RVs.cons (RV.tmp rfl) (RVs.nil), all_mt, ?_⟩
      exact ⟨by unfold validD; rw [decide_eq_false (show ¬ ls.length ≤ 16 by omega)]; simp [retOf], rfl⟩
    · have k1 : decide ((ls.length : Int) > 16) = false := decide_eq_false (by omega)
      by_cases l2 : its.length > 8
      · have k2 : decide ((its.length : Int) > 8) = true := decide_eq_true (by omega)
        repeat (refine W.seq ?_)
        refine W.region 6 19 (by decide) rfl rfl ?_
        refine RW.opd rfl rfl (LO.load_agg rfl rfl rfl ty28 rfl (Tk.lit rfl)) ?_
        refine RW.opd rfl rfl (LO.call0 (fr := []) rfl rfl (hv) fok43 (.cons rfl (.pure rfl) .nil) rfl) ?_
        refine RW.opd rfl rfl (LO.not rfl rfl) ?_
        refine RW.opd rfl rfl (LO.move rfl rfl) ?_
        refine RW.gd rfl rfl rfl ?_ rfl (LO.move rfl rfl) ?_; (· (first | rfl | assumption))
        refine RW.gd rfl rfl rfl ?_ rfl (LO.len_isl rfl rfl rfl ty29) ?_; (· (first | rfl | assumption))
        refine RW.gd rfl rfl rfl ?_ rfl (LO.gtr rfl rfl rfl) ?_; (· (first | rfl | assumption))
        refine RW.opd rfl rfl (LO.pick_f rfl rfl ?_ rfl) ?_; (· (first | rfl | assumption))
        refine RW.opd rfl rfl (LO.move rfl rfl) ?_
        refine RW.gd rfl rfl rfl ?_ rfl (LO.move rfl rfl) ?_; (· (first | rfl | assumption))
        refine RW.gd rfl rfl rfl ?_ rfl (LO.len_isl rfl rfl rfl ty22) ?_; (· (first | rfl | assumption))
        refine RW.gd rfl rfl rfl ?_ rfl (LO.gtr rfl rfl rfl) ?_; (· (first | rfl | assumption))
        refine RW.opd rfl rfl (LO.pick_f rfl rfl ?_ rfl) ?_; (· (first | rfl | assumption))
        refine RW.nil ?_
        repeat (refine W.seq ?_)
        refine W.cond_t rfl (by first | rfl | assumption) ?_
        repeat (refine W.seq ?_)
        refine W.region 23 24 (by decide) rfl rfl ?_
        refine RW.opd rfl rfl (LO.assign rfl rfl) ?_
        refine RW.nil ?_
        repeat (refine W.seq ?_)
        refine W.ret ⟨.inl rfl, _, mt, RVs.cons (RV.tmp rfl) (RVs.nil), all_mt, ?_⟩
        exact ⟨by unfold validD; rw [decide_eq_false (show ¬ its.length ≤ 8 by omega)]; simp [retOf], rfl⟩
      · have k2 : decide ((its.length : Int) > 8) = false := decide_eq_false (by omega)
        repeat (refine W.seq ?_)
        refine W.region 6 19 (by decide) rfl rfl ?_
        refine RW.opd rfl rfl (LO.load_agg rfl rfl rfl ty28 rfl (Tk.lit rfl)) ?_
        refine RW.opd rfl rfl (LO.call0 (fr := []) rfl rfl (hv) fok43 (.cons rfl (.pure rfl) .nil) rfl) ?_
        refine RW.opd rfl rfl (LO.not rfl rfl) ?_
        refine RW.opd rfl rfl (LO.move rfl rfl) ?_
        refine RW.gd rfl rfl rfl ?_ rfl (LO.move rfl rfl) ?_; (· (first | rfl | assumption))
        refine RW.gd rfl rfl rfl ?_ rfl (LO.len_isl rfl rfl rfl ty29) ?_; (· (first | rfl | assumption))
        refine RW.gd rfl rfl rfl ?_ rfl (LO.gtr rfl rfl rfl) ?_; (· (first | rfl | assumption))
        refine RW.opd rfl rfl (LO.pick_f rfl rfl ?_ rfl) ?_; (· (first | rfl | assumption))
        refine RW.opd rfl rfl (LO.move rfl rfl) ?_
        refine RW.gd rfl rfl rfl ?_ rfl (LO.move rfl rfl) ?_; (· (first | rfl | assumption))
        refine RW.gd rfl rfl rfl ?_ rfl (LO.len_isl rfl rfl rfl ty22) ?_; (· (first | rfl | assumption))
        refine RW.gd rfl rfl rfl ?_ rfl (LO.gtr rfl rfl rfl) ?_; (· (first | rfl | assumption))
        refine RW.opd rfl rfl (LO.pick_f rfl rfl ?_ rfl) ?_; (· (first | rfl | assumption))
        refine RW.nil ?_
        repeat (refine W.seq ?_)
        refine W.cond_f rfl (by first | rfl | assumption) ?_
        refine W.skip ?_
        repeat (refine W.seq ?_)
        refine W.region 28 31 (by decide) rfl rfl ?_
        refine RW.opd rfl rfl (LO.move rfl rfl) ?_
        refine RW.opd rfl rfl (LO.len_isl rfl rfl rfl ty29) ?_
        refine RW.opd rfl rfl (LO.move rfl rfl) ?_
        refine RW.nil ?_
        repeat (refine W.seq ?_)
        refine W.block ?_
        refine W.rename [(0, 0)] 1 (T' := up (up (up (up (up mt 2 (some (.isl (itsC its) its.length))) 3 (some (.own 0 0))) 26 (some (.isl (ldsC ls) ls.length))) 27 (some (.base (.int .i64 (ls.length : Int))))) 28 (some (.base (.int .i64 (0 : Int))))) (H' := up mt 0 (some (fabC f))) (by decide) ?_ ?_ ?_
        · (repeat' (first | exact all_mt | refine all_up ?_ ?_)) <;> first | exact .inl ⟨rfl, rfl⟩ | exact .inr ⟨rfl, fun _ h => by cases h⟩ | exact .inl ⟨rfl, by first | rfl | assumption ⟩
        · (repeat' (first | exact all_mt | refine all_up ?_ ?_)) <;> first | exact ⟨rfl, _, rfl, .inr ⟨rfl, rfl⟩⟩ | exact ⟨rfl, _, rfl, .inl rfl⟩ | exact ⟨rfl, _, rfl, .inr ⟨rfl, by first | rfl | assumption ⟩⟩
        refine W.loop_ind (α := Nat) (fun x => ls.length - x) 1 (fun x => up (up (up (up (up mt 2 (some (.isl (itsC its) its.length))) 3 (some (.own 0 0))) 26 (some (.isl (ldsC ls) ls.length))) 27 (some (.base (.int .i64 (ls.length : Int))))) 28 (some (.base (.int .i64 (x : Int))))) (fun x => up mt 0 (some (fabC f))) (fun x => x ≤ ls.length ∧ (ls.take x).all (ldB f) = true) 0 (show 0 ≤ ls.length ∧ (ls.take 0).all (ldB f) = true from ⟨Nat.zero_le _, rfl⟩) ?_
        rintro i hIA ihA
        try (dsimp only at hIA)
        try dsimp only
        obtain ⟨hi, hall⟩ := hIA
        by_cases hc : i < ls.length
        · have g1 : decide ((i : Int) < (ls.length : Int)) = true := decide_eq_true (by omega)
          repeat (refine W.seq ?_)
          refine W.region 35 36 (by decide) rfl rfl ?_
          refine RW.opd rfl rfl (LO.lss rfl rfl rfl) ?_
          refine RW.nil ?_
          repeat (refine W.seq ?_)
          refine W.cond_t rfl (by first | rfl | assumption) ?_
          refine W.skip ?_
          repeat (refine W.seq ?_)
          refine W.block ?_
          repeat (refine W.seq ?_)
          refine W.region 40 44 (by decide) rfl rfl ?_
          refine RW.opd rfl rfl (LO.indexAddr_isl rfl rfl rfl rfl rfl ty29 ty51 ?_) ?_; (· (first | omega | decide | assumption | fail | (simp; done) | (simp; omega)))
          refine RW.opd rfl rfl (LO.load_imm_agg rfl rfl ty51 rfl (lds_tk hc)) ?_
          refine RW.opd rfl rfl (LO.alloc rfl ty51) ?_
          refine RW.opn rfl rfl (LO.store rfl rfl rfl rfl rfl ty51 rfl (by decide) (Sp.lit rfl)) ?_
          refine RW.nil ?_
          by_cases t0 : ls[i].a < 0
          · have ht0 : decide (ls[i].a < 0) = true := decide_eq_true t0
            repeat (refine W.seq ?_)
            refine W.region 48 80 (by decide) rfl rfl ?_
            refine RW.opd rfl rfl (LO.fieldAddr rfl rfl ty51 rfl (by decide)) ?_
            refine RW.opd rfl rfl (LO.load rfl rfl rfl rfl ty3 rfl) ?_
            refine RW.opd rfl rfl (LO.lss rfl rfl rfl) ?_
            refine RW.opd rfl rfl (LO.move rfl rfl) ?_
            refine RW.sd rfl rfl rfl ?_ rfl ?_; (· (first | rfl | assumption))
            refine RW.sd rfl rfl rfl ?_ rfl ?_; (· (first | rfl | assumption))
            refine RW.sd rfl rfl rfl ?_ rfl ?_; (· (first | rfl | assumption))
            refine RW.sd rfl rfl rfl ?_ rfl ?_; (· (first | rfl | assumption))
            refine RW.sd rfl rfl rfl ?_ rfl ?_; (· (first | rfl | assumption))
            refine RW.opd rfl rfl (LO.pick_t rfl rfl ?_ rfl) ?_; (· (first | rfl | assumption))
            refine RW.opd rfl rfl (LO.move rfl rfl) ?_
            refine RW.sd rfl rfl rfl ?_ rfl ?_; (· (first | rfl | assumption))
            refine RW.sd rfl rfl rfl ?_ rfl ?_; (· (first | rfl | assumption))
            refine RW.sd rfl rfl rfl ?_ rfl ?_; (· (first | rfl | assumption))
            refine RW.opd rfl rfl (LO.pick_t rfl rfl ?_ rfl) ?_; (· (first | rfl | assumption))
            refine RW.opd rfl rfl (LO.move rfl rfl) ?_
            refine RW.sd rfl rfl rfl ?_ rfl ?_; (· (first | rfl | assumption))
            refine RW.sd rfl rfl rfl ?_ rfl ?_; (· (first | rfl | assumption))
            refine RW.sd rfl rfl rfl ?_ rfl ?_; (· (first | rfl | assumption))
            refine RW.sd rfl rfl rfl ?_ rfl ?_; (· (first | rfl | assumption))
            refine RW.sd rfl rfl rfl ?_ rfl ?_; (· (first | rfl | assumption))
            refine RW.opd rfl rfl (LO.pick_t rfl rfl ?_ rfl) ?_; (· (first | rfl | assumption))
            refine RW.opd rfl rfl (LO.move rfl rfl) ?_
            refine RW.sd rfl rfl rfl ?_ rfl ?_; (· (first | rfl | assumption))
            refine RW.sd rfl rfl rfl ?_ rfl ?_; (· (first | rfl | assumption))
            refine RW.sd rfl rfl rfl ?_ rfl ?_; (· (first | rfl | assumption))
            refine RW.opd rfl rfl (LO.pick_t rfl rfl ?_ rfl) ?_; (· (first | rfl | assumption))
            refine RW.opd rfl rfl (LO.move rfl rfl) ?_
            refine RW.sd rfl rfl rfl ?_ rfl ?_; (· (first | rfl | assumption))
            refine RW.sd rfl rfl rfl ?_ rfl ?_; (· (first | rfl | assumption))
            refine RW.sd rfl rfl rfl ?_ rfl ?_; (· (first | rfl | assumption))
            refine RW.opd rfl rfl (LO.pick_t rfl rfl ?_ rfl) ?_; (· (first | rfl | assumption))
            refine RW.nil ?_
            repeat (refine W.seq ?_)
            refine W.cond_t rfl (by first | rfl | assumption) ?_
            repeat (refine W.seq ?_)
            refine W.region 84 85 (by decide) rfl rfl ?_
            refine RW.opd rfl rfl (LO.assign rfl rfl) ?_
            refine RW.nil ?_
            repeat (refine W.seq ?_)
            refine W.ret ⟨.inl rfl, _, mt, RVs.cons (RV.tmp rfl) (RVs.nil), all_mt, ?_⟩
            exact ⟨by rw [validD_ld hc (by unfold ldB; simp; omega)]; rfl, rfl⟩
          · have ht0 : decide (ls[i].a < 0) = false := decide_eq_false t0
            by_cases t1 : ls[i].a ≥ f.sw
            · have ht1 : decide (ls[i].a ≥ f.sw) = true := decide_eq_true t1
              repeat (refine W.seq ?_)
              refine W.region 48 80 (by decide) rfl rfl ?_
              refine RW.opd rfl rfl (LO.fieldAddr rfl rfl ty51 rfl (by decide)) ?_
              refine RW.opd rfl rfl (LO.load rfl rfl rfl rfl ty3 rfl) ?_
              refine RW.opd rfl rfl (LO.lss rfl rfl rfl) ?_
              refine RW.opd rfl rfl (LO.move rfl rfl) ?_
              refine RW.gd rfl rfl rfl ?_ rfl (LO.fieldAddr rfl rfl ty51 rfl (by decide)) ?_; (· (first | rfl | assumption))
              refine RW.gd rfl rfl rfl ?_ rfl (LO.load rfl rfl rfl rfl ty3 rfl) ?_; (· (first | rfl | assumption))
              refine RW.gd rfl rfl rfl ?_ rfl (LO.fieldAddr rfl rfl ty28 rfl (by decide)) ?_; (· (first | rfl | assumption))
              refine RW.gd rfl rfl rfl ?_ rfl (LO.load rfl rfl rfl rfl ty3 rfl) ?_; (· (first | rfl | assumption))
              refine RW.gd rfl rfl rfl ?_ rfl (LO.geq rfl rfl rfl) ?_; (· (first | rfl | assumption))
              refine RW.opd rfl rfl (LO.pick_f rfl rfl ?_ rfl) ?_; (· (first | rfl | assumption))
              refine RW.opd rfl rfl (LO.move rfl rfl) ?_
              refine RW.sd rfl rfl rfl ?_ rfl ?_; (· (first | rfl | assumption))
              refine RW.sd rfl rfl rfl ?_ rfl ?_; (· (first | rfl | assumption))
              refine RW.sd rfl rfl rfl ?_ rfl ?_; (· (first | rfl | assumption))
              refine RW.opd rfl rfl (LO.pick_t rfl rfl ?_ rfl) ?_; (· (first | rfl | assumption))
              refine RW.opd rfl rfl (LO.move rfl rfl) ?_
              refine RW.sd rfl rfl rfl ?_ rfl ?_; (· (first | rfl | assumption))
              refine RW.sd rfl rfl rfl ?_ rfl ?_; (· (first | rfl | assumption))
              refine RW.sd rfl rfl rfl ?_ rfl ?_; (· (first | rfl | assumption))
              refine RW.sd rfl rfl rfl ?_ rfl ?_; (· (first | rfl | assumption))
              refine RW.sd rfl rfl rfl ?_ rfl ?_; (· (first | rfl | assumption))
              refine RW.opd rfl rfl (LO.pick_t rfl rfl ?_ rfl) ?_; (· (first | rfl | assumption))
              refine RW.opd rfl rfl (LO.move rfl rfl) ?_
              refine RW.sd rfl rfl rfl ?_ rfl ?_; (· (first | rfl | assumption))
              refine RW.sd rfl rfl rfl ?_ rfl ?_; (· (first | rfl | assumption))
              refine RW.sd rfl rfl rfl ?_ rfl ?_; (· (first | rfl | assumption))
              refine RW.opd rfl rfl (LO.pick_t rfl rfl ?_ rfl) ?_; (· (first | rfl | assumption))
              refine RW.opd rfl rfl (LO.move rfl rfl) ?_
              refine RW.sd rfl rfl rfl ?_ rfl ?_; (· (first | rfl | assumption))
              refine RW.sd rfl rfl rfl ?_ rfl ?_; (· (first | rfl | assumption))
              refine RW.sd rfl rfl rfl ?_ rfl ?_; (· (first | rfl | assumption))
              refine RW.opd rfl rfl (LO.pick_t rfl rfl ?_ rfl) ?_; (· (first | rfl | assumption))
              refine RW.nil ?_
              repeat (refine W.seq ?_)
              refine W.cond_t rfl (by first | rfl | assumption) ?_
              repeat (refine W.seq ?_)
              refine W.region 84 85 (by decide) rfl rfl ?_
              refine RW.opd rfl rfl (LO.assign rfl rfl) ?_
              refine RW.nil ?_
              repeat (refine W.seq ?_)
              refine W.ret ⟨.inl rfl, _, mt, RVs.cons (RV.tmp rfl) (RVs.nil), all_mt, ?_⟩
              exact ⟨by rw [validD_ld hc (by unfold ldB; simp; omega)]; rfl, rfl⟩
            · have ht1 : decide (ls[i].a ≥ f.sw) = false := decide_eq_false t1
              by_cases t2 : ls[i].b < 0
              · have ht2 : decide (ls[i].b < 0) = true := decide_eq_true t2
                repeat (refine W.seq ?_)
                refine W.region 48 80 (by decide) rfl rfl ?_
                refine RW.opd rfl rfl (LO.fieldAddr rfl rfl ty51 rfl (by decide)) ?_
                refine RW.opd rfl rfl (LO.load rfl rfl rfl rfl ty3 rfl) ?_
                refine RW.opd rfl rfl (LO.lss rfl rfl rfl) ?_
                refine RW.opd rfl rfl (LO.move rfl rfl) ?_
                refine RW.gd rfl rfl rfl ?_ rfl (LO.fieldAddr rfl rfl ty51 rfl (by decide)) ?_; (· (first | rfl | assumption))
                refine RW.gd rfl rfl rfl ?_ rfl (LO.load rfl rfl rfl rfl ty3 rfl) ?_; (· (first | rfl | assumption))
                refine RW.gd rfl rfl rfl ?_ rfl (LO.fieldAddr rfl rfl ty28 rfl (by decide)) ?_; (· (first | rfl | assumption))
                refine RW.gd rfl rfl rfl ?_ rfl (LO.load rfl rfl rfl rfl ty3 rfl) ?_; (· (first | rfl | assumption))
                refine RW.gd rfl rfl rfl ?_ rfl (LO.geq rfl rfl rfl) ?_; (· (first | rfl | assumption))
                refine RW.opd rfl rfl (LO.pick_f rfl rfl ?_ rfl) ?_; (· (first | rfl | assumption))
                refine RW.opd rfl rfl (LO.move rfl rfl) ?_
                refine RW.gd rfl rfl rfl ?_ rfl (LO.fieldAddr rfl rfl ty51 rfl (by decide)) ?_; (· (first | rfl | assumption))
                refine RW.gd rfl rfl rfl ?_ rfl (LO.load rfl rfl rfl rfl ty3 rfl) ?_; (· (first | rfl | assumption))
                refine RW.gd rfl rfl rfl ?_ rfl (LO.lss rfl rfl rfl) ?_; (· (first | rfl | assumption))
                refine RW.opd rfl rfl (LO.pick_f rfl rfl ?_ rfl) ?_; (· (first | rfl | assumption))
                refine RW.opd rfl rfl (LO.move rfl rfl) ?_
                refine RW.sd rfl rfl rfl ?_ rfl ?_; (· (first | rfl | assumption))
                refine RW.sd rfl rfl rfl ?_ rfl ?_; (· (first | rfl | assumption))
                refine RW.sd rfl rfl rfl ?_ rfl ?_; (· (first | rfl | assumption))
                refine RW.sd rfl rfl rfl ?_ rfl ?_; (· (first | rfl | assumption))
                refine RW.sd rfl rfl rfl ?_ rfl ?_; (· (first | rfl | assumption))
                refine RW.opd rfl rfl (LO.pick_t rfl rfl ?_ rfl) ?_; (· (first | rfl | assumption))
                refine RW.opd rfl rfl (LO.move rfl rfl) ?_
                refine RW.sd rfl rfl rfl ?_ rfl ?_; (· (first | rfl | assumption))
                refine RW.sd rfl rfl rfl ?_ rfl ?_; (· (first | rfl | assumption))
                refine RW.sd rfl rfl rfl ?_ rfl ?_; (· (first | rfl | assumption))
                refine RW.opd rfl rfl (LO.pick_t rfl rfl ?_ rfl) ?_; (· (first | rfl | assumption))
                refine RW.opd rfl rfl (LO.move rfl rfl) ?_
                refine RW.sd rfl rfl rfl ?_ rfl ?_; (· (first | rfl | assumption))
                refine RW.sd rfl rfl rfl ?_ rfl ?_; (· (first | rfl | assumption))
                refine RW.sd rfl rfl rfl ?_ rfl ?_; (· (first | rfl | assumption))
                refine RW.opd rfl rfl (LO.pick_t rfl rfl ?_ rfl) ?_; (· (first | rfl | assumption))
                refine RW.nil ?_
                repeat (refine W.seq ?_)
                refine W.cond_t rfl (by first | rfl | assumption) ?_
                repeat (refine W.seq ?_)
                refine W.region 84 85 (by decide) rfl rfl ?_
                refine RW.opd rfl rfl (LO.assign rfl rfl) ?_
                refine RW.nil ?_
                repeat (refine W.seq ?_)
                refine W.ret ⟨.inl rfl, _, mt, RVs.cons (RV.tmp rfl) (RVs.nil), all_mt, ?_⟩
                exact ⟨by rw [validD_ld hc (by unfold ldB; simp; omega)]; rfl, rfl⟩
              · have ht2 : decide (ls[i].b < 0) = false := decide_eq_false t2
                by_cases t3 : ls[i].b ≥ f.sw
                · have ht3 : decide (ls[i].b ≥ f.sw) = true := decide_eq_true t3
                  repeat (refine W.seq ?_)
                  refine W.region 48 80 (by decide) rfl rfl ?_
                  refine RW.opd rfl rfl (LO.fieldAddr rfl rfl ty51 rfl (by decide)) ?_
                  refine RW.opd rfl rfl (LO.load rfl rfl rfl rfl ty3 rfl) ?_
                  refine RW.opd rfl rfl (LO.lss rfl rfl rfl) ?_
                  refine RW.opd rfl rfl (LO.move rfl rfl) ?_
                  refine RW.gd rfl rfl rfl ?_ rfl (LO.fieldAddr rfl rfl ty51 rfl (by decide)) ?_; (· (first | rfl | assumption))
                  refine RW.gd rfl rfl rfl ?_ rfl (LO.load rfl rfl rfl rfl ty3 rfl) ?_; (· (first | rfl | assumption))
                  refine RW.gd rfl rfl rfl ?_ rfl (LO.fieldAddr rfl rfl ty28 rfl (by decide)) ?_; (· (first | rfl | assumption))
                  refine RW.gd rfl rfl rfl ?_ rfl (LO.load rfl rfl rfl rfl ty3 rfl) ?_; (· (first | rfl | assumption))
                  refine RW.gd rfl rfl rfl ?_ rfl (LO.geq rfl rfl rfl) ?_; (· (first | rfl | assumption))
                  refine RW.opd rfl rfl (LO.pick_f rfl rfl ?_ rfl) ?_; (· (first | rfl | assumption))
                  refine RW.opd rfl rfl (LO.move rfl rfl) ?_
                  refine RW.gd rfl rfl rfl ?_ rfl (LO.fieldAddr rfl rfl ty51 rfl (by decide)) ?_; (· (first | rfl | assumption))
                  refine RW.gd rfl rfl rfl ?_ rfl (LO.load rfl rfl rfl rfl ty3 rfl) ?_; (· (first | rfl | assumption))
                  refine RW.gd rfl rfl rfl ?_ rfl (LO.lss rfl rfl rfl) ?_; (· (first | rfl | assumption))
                  refine RW.opd rfl rfl (LO.pick_f rfl rfl ?_ rfl) ?_; (· (first | rfl | assumption))
                  refine RW.opd rfl rfl (LO.move rfl rfl) ?_
                  refine RW.gd rfl rfl rfl ?_ rfl (LO.fieldAddr rfl rfl ty51 rfl (by decide)) ?_; (· (first | rfl | assumption))
                  refine RW.gd rfl rfl rfl ?_ rfl (LO.load rfl rfl rfl rfl ty3 rfl) ?_; (· (first | rfl | assumption))
                  refine RW.gd rfl rfl rfl ?_ rfl (LO.fieldAddr rfl rfl ty28 rfl (by decide)) ?_; (· (first | rfl | assumption))
                  refine RW.gd rfl rfl rfl ?_ rfl (LO.load rfl rfl rfl rfl ty3 rfl) ?_; (· (first | rfl | assumption))
                  refine RW.gd rfl rfl rfl ?_ rfl (LO.geq rfl rfl rfl) ?_; (· (first | rfl | assumption))
                  refine RW.opd rfl rfl (LO.pick_f rfl rfl ?_ rfl) ?_; (· (first | rfl | assumption))
                  refine RW.opd rfl rfl (LO.move rfl rfl) ?_
                  refine RW.sd rfl rfl rfl ?_ rfl ?_; (· (first | rfl | assumption))
                  refine RW.sd rfl rfl rfl ?_ rfl ?_; (· (first | rfl | assumption))
                  refine RW.sd rfl rfl rfl ?_ rfl ?_; (· (first | rfl | assumption))
                  refine RW.opd rfl rfl (LO.pick_t rfl rfl ?_ rfl) ?_; (· (first | rfl | assumption))
                  refine RW.opd rfl rfl (LO.move rfl rfl) ?_
                  refine RW.sd rfl rfl rfl ?_ rfl ?_; (· (first | rfl | assumption))
                  refine RW.sd rfl rfl rfl ?_ rfl ?_; (· (first | rfl | assumption))
                  refine RW.sd rfl rfl rfl ?_ rfl ?_; (· (first | rfl | assumption))
                  refine RW.opd rfl rfl (LO.pick_t rfl rfl ?_ rfl) ?_; (· (first | rfl | assumption))
                  refine RW.nil ?_
                  repeat (refine W.seq ?_)
                  refine W.cond_t rfl (by first | rfl | assumption) ?_
                  repeat (refine W.seq ?_)
                  refine W.region 84 85 (by decide) rfl rfl ?_
                  refine RW.opd rfl rfl (LO.assign rfl rfl) ?_
                  refine RW.nil ?_
                  repeat (refine W.seq ?_)
                  refine W.ret ⟨.inl rfl, _, mt, RVs.cons (RV.tmp rfl) (RVs.nil), all_mt, ?_⟩
                  exact ⟨by rw [validD_ld hc (by unfold ldB; simp; omega)]; rfl, rfl⟩
                · have ht3 : decide (ls[i].b ≥ f.sw) = false := decide_eq_false t3
                  by_cases t4 : ls[i].r < 0
                  · have ht4 : decide (ls[i].r < 0) = true := decide_eq_true t4
                    repeat (refine W.seq ?_)
                    refine W.region 48 80 (by decide) rfl rfl ?_
                    refine RW.opd rfl rfl (LO.fieldAddr rfl rfl ty51 rfl (by decide)) ?_
                    refine RW.opd rfl rfl (LO.load rfl rfl rfl rfl ty3 rfl) ?_
                    refine RW.opd rfl rfl (LO.lss rfl rfl rfl) ?_
                    refine RW.opd rfl rfl (LO.move rfl rfl) ?_
                    refine RW.gd rfl rfl rfl ?_ rfl (LO.fieldAddr rfl rfl ty51 rfl (by decide)) ?_; (· (first | rfl | assumption))
                    refine RW.gd rfl rfl rfl ?_ rfl (LO.load rfl rfl rfl rfl ty3 rfl) ?_; (· (first | rfl | assumption))
                    refine RW.gd rfl rfl rfl ?_ rfl (LO.fieldAddr rfl rfl ty28 rfl (by decide)) ?_; (· (first | rfl | assumption))
                    refine RW.gd rfl rfl rfl ?_ rfl (LO.load rfl rfl rfl rfl ty3 rfl) ?_; (· (first | rfl | assumption))
                    refine RW.gd rfl rfl rfl ?_ rfl (LO.geq rfl rfl rfl) ?_; (· (first | rfl | assumption))
                    refine RW.opd rfl rfl (LO.pick_f rfl rfl ?_ rfl) ?_; (· (first | rfl | assumption))
                    refine RW.opd rfl rfl (LO.move rfl rfl) ?_
                    refine RW.gd rfl rfl rfl ?_ rfl (LO.fieldAddr rfl rfl ty51 rfl (by decide)) ?_; (· (first | rfl | assumption))
                    refine RW.gd rfl rfl rfl ?_ rfl (LO.load rfl rfl rfl rfl ty3 rfl) ?_; (· (first | rfl | assumption))
                    refine RW.gd rfl rfl rfl ?_ rfl (LO.lss rfl rfl rfl) ?_; (· (first | rfl | assumption))
                    refine RW.opd rfl rfl (LO.pick_f rfl rfl ?_ rfl) ?_; (· (first | rfl | assumption))
                    refine RW.opd rfl rfl (LO.move rfl rfl) ?_
                    refine RW.gd rfl rfl rfl ?_ rfl (LO.fieldAddr rfl rfl ty51 rfl (by decide)) ?_; (· (first | rfl | assumption))
                    refine RW.gd rfl rfl rfl ?_ rfl (LO.load rfl rfl rfl rfl ty3 rfl) ?_; (· (first | rfl | assumption))
                    refine RW.gd rfl rfl rfl ?_ rfl (LO.fieldAddr rfl rfl ty28 rfl (by decide)) ?_; (· (first | rfl | assumption))
                    refine RW.gd rfl rfl rfl ?_ rfl (LO.load rfl rfl rfl rfl ty3 rfl) ?_; (· (first | rfl | assumption))
                    refine RW.gd rfl rfl rfl ?_ rfl (LO.geq rfl rfl rfl) ?_; (· (first | rfl | assumption))
                    refine RW.opd rfl rfl (LO.pick_f rfl rfl ?_ rfl) ?_; (· (first | rfl | assumption))
                    refine RW.opd rfl rfl (LO.move rfl rfl) ?_
                    refine RW.gd rfl rfl rfl ?_ rfl (LO.fieldAddr rfl rfl ty51 rfl (by decide)) ?_; (· (first | rfl | assumption))
                    refine RW.gd rfl rfl rfl ?_ rfl (LO.load rfl rfl rfl rfl ty3 rfl) ?_; (· (first | rfl | assumption))
                    refine RW.gd rfl rfl rfl ?_ rfl (LO.lss rfl rfl rfl) ?_; (· (first | rfl | assumption))
                    refine RW.opd rfl rfl (LO.pick_f rfl rfl ?_ rfl) ?_; (· (first | rfl | assumption))
                    refine RW.opd rfl rfl (LO.move rfl rfl) ?_
                    refine RW.sd rfl rfl rfl ?_ rfl ?_; (· (first | rfl | assumption))
                    refine RW.sd rfl rfl rfl ?_ rfl ?_; (· (first | rfl | assumption))
                    refine RW.sd rfl rfl rfl ?_ rfl ?_; (· (first | rfl | assumption))
                    refine RW.opd rfl rfl (LO.pick_t rfl rfl ?_ rfl) ?_; (· (first | rfl | assumption))
                    refine RW.nil ?_
                    repeat (refine W.seq ?_)
                    refine W.cond_t rfl (by first | rfl | assumption) ?_
                    repeat (refine W.seq ?_)
                    refine W.region 84 85 (by decide) rfl rfl ?_
                    refine RW.opd rfl rfl (LO.assign rfl rfl) ?_
                    refine RW.nil ?_
                    repeat (refine W.seq ?_)
                    refine W.ret ⟨.inl rfl, _, mt, RVs.cons (RV.tmp rfl) (RVs.nil), all_mt, ?_⟩
                    exact ⟨by rw [validD_ld hc (by unfold ldB; simp; omega)]; rfl, rfl⟩
                  · have ht4 : decide (ls[i].r < 0) = false := decide_eq_false t4
                    by_cases t5 : ls[i].r > 1073741824
                    · have ht5 : decide (ls[i].r > 1073741824) = true := decide_eq_true t5
                      repeat (refine W.seq ?_)
                      refine W.region 48 80 (by decide) rfl rfl ?_
                      refine RW.opd rfl rfl (LO.fieldAddr rfl rfl ty51 rfl (by decide)) ?_
                      refine RW.opd rfl rfl (LO.load rfl rfl rfl rfl ty3 rfl) ?_
                      refine RW.opd rfl rfl (LO.lss rfl rfl rfl) ?_
                      refine RW.opd rfl rfl (LO.move rfl rfl) ?_
                      refine RW.gd rfl rfl rfl ?_ rfl (LO.fieldAddr rfl rfl ty51 rfl (by decide)) ?_; (· (first | rfl | assumption))
                      refine RW.gd rfl rfl rfl ?_ rfl (LO.load rfl rfl rfl rfl ty3 rfl) ?_; (· (first | rfl | assumption))
                      refine RW.gd rfl rfl rfl ?_ rfl (LO.fieldAddr rfl rfl ty28 rfl (by decide)) ?_; (· (first | rfl | assumption))
                      refine RW.gd rfl rfl rfl ?_ rfl (LO.load rfl rfl rfl rfl ty3 rfl) ?_; (· (first | rfl | assumption))
                      refine RW.gd rfl rfl rfl ?_ rfl (LO.geq rfl rfl rfl) ?_; (· (first | rfl | assumption))
                      refine RW.opd rfl rfl (LO.pick_f rfl rfl ?_ rfl) ?_; (· (first | rfl | assumption))
                      refine RW.opd rfl rfl (LO.move rfl rfl) ?_
                      refine RW.gd rfl rfl rfl ?_ rfl (LO.fieldAddr rfl rfl ty51 rfl (by decide)) ?_; (· (first | rfl | assumption))
                      refine RW.gd rfl rfl rfl ?_ rfl (LO.load rfl rfl rfl rfl ty3 rfl) ?_; (· (first | rfl | assumption))
                      refine RW.gd rfl rfl rfl ?_ rfl (LO.lss rfl rfl rfl) ?_; (· (first | rfl | assumption))
                      refine RW.opd rfl rfl (LO.pick_f rfl rfl ?_ rfl) ?_; (· (first | rfl | assumption))
                      refine RW.opd rfl rfl (LO.move rfl rfl) ?_
                      refine RW.gd rfl rfl rfl ?_ rfl (LO.fieldAddr rfl rfl ty51 rfl (by decide)) ?_; (· (first | rfl | assumption))
                      refine RW.gd rfl rfl rfl ?_ rfl (LO.load rfl rfl rfl rfl ty3 rfl) ?_; (· (first | rfl | assumption))
                      refine RW.gd rfl rfl rfl ?_ rfl (LO.fieldAddr rfl rfl ty28 rfl (by decide)) ?_; (· (first | rfl | assumption))
                      refine RW.gd rfl rfl rfl ?_ rfl (LO.load rfl rfl rfl rfl ty3 rfl) ?_; (· (first | rfl | assumption))
                      refine RW.gd rfl rfl rfl ?_ rfl (LO.geq rfl rfl rfl) ?_; (· (first | rfl | assumption))
                      refine RW.opd rfl rfl (LO.pick_f rfl rfl ?_ rfl) ?_; (· (first | rfl | assumption))
                      refine RW.opd rfl rfl (LO.move rfl rfl) ?_
                      refine RW.gd rfl rfl rfl ?_ rfl (LO.fieldAddr rfl rfl ty51 rfl (by decide)) ?_; (· (first | rfl | assumption))
                      refine RW.gd rfl rfl rfl ?_ rfl (LO.load rfl rfl rfl rfl ty3 rfl) ?_; (· (first | rfl | assumption))
                      refine RW.gd rfl rfl rfl ?_ rfl (LO.lss rfl rfl rfl) ?_; (· (first | rfl | assumption))
                      refine RW.opd rfl rfl (LO.pick_f rfl rfl ?_ rfl) ?_; (· (first | rfl | assumption))
                      refine RW.opd rfl rfl (LO.move rfl rfl) ?_
                      refine RW.gd rfl rfl rfl ?_ rfl (LO.fieldAddr rfl rfl ty51 rfl (by decide)) ?_; (· (first | rfl | assumption))
                      refine RW.gd rfl rfl rfl ?_ rfl (LO.load rfl rfl rfl rfl ty3 rfl) ?_; (· (first | rfl | assumption))
                      refine RW.gd rfl rfl rfl ?_ rfl (LO.gtr rfl rfl rfl) ?_; (· (first | rfl | assumption))
                      refine RW.opd rfl rfl (LO.pick_f rfl rfl ?_ rfl) ?_; (· (first | rfl | assumption))
                      refine RW.nil ?_
                      repeat (refine W.seq ?_)
                      refine W.cond_t rfl (by first | rfl | assumption) ?_
                      repeat (refine W.seq ?_)
                      refine W.region 84 85 (by decide) rfl rfl ?_
                      refine RW.opd rfl rfl (LO.assign rfl rfl) ?_
                      refine RW.nil ?_
                      repeat (refine W.seq ?_)
                      refine W.ret ⟨.inl rfl, _, mt, RVs.cons (RV.tmp rfl) (RVs.nil), all_mt, ?_⟩
                      exact ⟨by rw [validD_ld hc (by unfold ldB; simp; omega)]; rfl, rfl⟩
                    · have ht5 : decide (ls[i].r > 1073741824) = false := decide_eq_false t5
                      repeat (refine W.seq ?_)
                      refine W.region 48 80 (by decide) rfl rfl ?_
                      refine RW.opd rfl rfl (LO.fieldAddr rfl rfl ty51 rfl (by decide)) ?_
                      refine RW.opd rfl rfl (LO.load rfl rfl rfl rfl ty3 rfl) ?_
                      refine RW.opd rfl rfl (LO.lss rfl rfl rfl) ?_
                      refine RW.opd rfl rfl (LO.move rfl rfl) ?_
                      refine RW.gd rfl rfl rfl ?_ rfl (LO.fieldAddr rfl rfl ty51 rfl (by decide)) ?_; (· (first | rfl | assumption))
                      refine RW.gd rfl rfl rfl ?_ rfl (LO.load rfl rfl rfl rfl ty3 rfl) ?_; (· (first | rfl | assumption))
                      refine RW.gd rfl rfl rfl ?_ rfl (LO.fieldAddr rfl rfl ty28 rfl (by decide)) ?_; (· (first | rfl | assumption))
                      refine RW.gd rfl rfl rfl ?_ rfl (LO.load rfl rfl rfl rfl ty3 rfl) ?_; (· (first | rfl | assumption))
                      refine RW.gd rfl rfl rfl ?_ rfl (LO.geq rfl rfl rfl) ?_; (· (first | rfl | assumption))
                      refine RW.opd rfl rfl (LO.pick_f rfl rfl ?_ rfl) ?_; (· (first | rfl | assumption))
                      refine RW.opd rfl rfl (LO.move rfl rfl) ?_
                      refine RW.gd rfl rfl rfl ?_ rfl (LO.fieldAddr rfl rfl ty51 rfl (by decide)) ?_; (· (first | rfl | assumption))
                      refine RW.gd rfl rfl rfl ?_ rfl (LO.load rfl rfl rfl rfl ty3 rfl) ?_; (· (first | rfl | assumption))
                      refine RW.gd rfl rfl rfl ?_ rfl (LO.lss rfl rfl rfl) ?_; (· (first | rfl | assumption))
                      refine RW.opd rfl rfl (LO.pick_f rfl rfl ?_ rfl) ?_; (· (first | rfl | assumption))
                      refine RW.opd rfl rfl (LO.move rfl rfl) ?_
                      refine RW.gd rfl rfl rfl ?_ rfl (LO.fieldAddr rfl rfl ty51 rfl (by decide)) ?_; (· (first | rfl | assumption))
                      refine RW.gd rfl rfl rfl ?_ rfl (LO.load rfl rfl rfl rfl ty3 rfl) ?_; (· (first | rfl | assumption))
                      refine RW.gd rfl rfl rfl ?_ rfl (LO.fieldAddr rfl rfl ty28 rfl (by decide)) ?_; (· (first | rfl | assumption))
                      refine RW.gd rfl rfl rfl ?_ rfl (LO.load rfl rfl rfl rfl ty3 rfl) ?_; (· (first | rfl | assumption))
                      refine RW.gd rfl rfl rfl ?_ rfl (LO.geq rfl rfl rfl) ?_; (· (first | rfl | assumption))
                      refine RW.opd rfl rfl (LO.pick_f rfl rfl ?_ rfl) ?_; (· (first | rfl | assumption))
                      refine RW.opd rfl rfl (LO.move rfl rfl) ?_
                      refine RW.gd rfl rfl rfl ?_ rfl (LO.fieldAddr rfl rfl ty51 rfl (by decide)) ?_; (· (first | rfl | assumption))
                      refine RW.gd rfl rfl rfl ?_ rfl (LO.load rfl rfl rfl rfl ty3 rfl) ?_; (· (first | rfl | assumption))
                      refine RW.gd rfl rfl rfl ?_ rfl (LO.lss rfl rfl rfl) ?_; (· (first | rfl | assumption))
                      refine RW.opd rfl rfl (LO.pick_f rfl rfl ?_ rfl) ?_; (· (first | rfl | assumption))
                      refine RW.opd rfl rfl (LO.move rfl rfl) ?_
                      refine RW.gd rfl rfl rfl ?_ rfl (LO.fieldAddr rfl rfl ty51 rfl (by decide)) ?_; (· (first | rfl | assumption))
                      refine RW.gd rfl rfl rfl ?_ rfl (LO.load rfl rfl rfl rfl ty3 rfl) ?_; (· (first | rfl | assumption))
                      refine RW.gd rfl rfl rfl ?_ rfl (LO.gtr rfl rfl rfl) ?_; (· (first | rfl | assumption))
                      refine RW.opd rfl rfl (LO.pick_f rfl rfl ?_ rfl) ?_; (· (first | rfl | assumption))
                      refine RW.nil ?_
                      repeat (refine W.seq ?_)
                      refine W.cond_f rfl (by first | rfl | assumption) ?_
                      refine W.skip ?_
                      repeat (refine W.seq ?_)
                      refine W.region 89 91 (by decide) rfl rfl ?_
                      refine RW.opd rfl rfl (LO.add_in rfl rfl rfl ?_) ?_; (· (first | exact IntWalk.i64_in _ (by omega) | assumption))
                      refine RW.opd rfl rfl (LO.move rfl rfl) ?_
                      refine RW.nil ?_
                      refine WL.rename [(0, 0)] 1 (by decide) ?_ ?_ (ihA (i + 1) (show ls.length - (i + 1) < ls.length - i from by omega) (show (i + 1) ≤ ls.length ∧ (ls.take (i + 1)).all (ldB f) = true from ⟨by omega, by rw [all_take_succ _ hc, hall]; unfold ldB; simp; omega⟩))
                      · (repeat' (first | exact all_mt | refine all_up ?_ ?_)) <;> first | exact .inl ⟨rfl, rfl⟩ | exact .inr ⟨rfl, fun _ h => by cases h⟩ | exact .inl ⟨rfl, by first | rfl | assumption ⟩
                      · (repeat' (first | exact all_mt | refine all_up ?_ ?_)) <;> first | exact ⟨rfl, _, rfl, .inr ⟨rfl, rfl⟩⟩ | exact ⟨rfl, _, rfl, .inl rfl⟩ | exact ⟨rfl, _, rfl, .inr ⟨rfl, by first | rfl | assumption ⟩⟩
        · have g1 : decide ((i : Int) < (ls.length : Int)) = false := decide_eq_false (by omega)
          repeat (refine W.seq ?_)
          refine W.region 35 36 (by decide) rfl rfl ?_
          refine RW.opd rfl rfl (LO.lss rfl rfl rfl) ?_
          refine RW.nil ?_
          repeat (refine W.seq ?_)
          refine W.cond_f rfl (by first | rfl | assumption) ?_
          refine W.exit ?_
          obtain rfl : i = ls.length := by omega
          clear ihA hc g1
          repeat (refine W.seq ?_)
          refine W.region 95 98 (by decide) rfl rfl ?_
          refine RW.opd rfl rfl (LO.move rfl rfl) ?_
          refine RW.opd rfl rfl (LO.len_isl rfl rfl rfl ty22) ?_
          refine RW.opd rfl rfl (LO.move rfl rfl) ?_
          refine RW.nil ?_
          repeat (refine W.seq ?_)
          refine W.block ?_
          refine W.rename [(0, 0)] 1 (T' := up (up (up (up (up mt 2 (some (.isl (itsC its) its.length))) 3 (some (.own 0 0))) 65 (some (.isl (itsC its) its.length))) 66 (some (.base (.int .i64 (its.length : Int))))) 67 (some (.base (.int .i64 (0 : Int))))) (H' := up mt 0 (some (fabC f))) (by decide) ?_ ?_ ?_
          · (repeat' (first | exact all_mt | refine all_up ?_ ?_)) <;> first | exact .inl ⟨rfl, rfl⟩ | exact .inr ⟨rfl, fun _ h => by cases h⟩ | exact .inl ⟨rfl, by first | rfl | assumption ⟩
          · (repeat' (first | exact all_mt | refine all_up ?_ ?_)) <;> first | exact ⟨rfl, _, rfl, .inr ⟨rfl, rfl⟩⟩ | exact ⟨rfl, _, rfl, .inl rfl⟩ | exact ⟨rfl, _, rfl, .inr ⟨rfl, by first | rfl | assumption ⟩⟩
          refine W.loop_ind (α := Nat) (fun x => its.length - x) 1 (fun x => up (up (up (up (up mt 2 (some (.isl (itsC its) its.length))) 3 (some (.own 0 0))) 65 (some (.isl (itsC its) its.length))) 66 (some (.base (.int .i64 (its.length : Int))))) 67 (some (.base (.int .i64 (x : Int))))) (fun x => up mt 0 (some (fabC f))) (fun x => x ≤ its.length ∧ (its.take x).all (itB f) = true ∧ (its.take x).Nodup) 0 (show 0 ≤ its.length ∧ (its.take 0).all (itB f) = true ∧ (its.take 0).Nodup from ⟨Nat.zero_le _, rfl, List.nodup_nil⟩) ?_
          rintro j hIB ihB
          try (dsimp only at hIB)
          try dsimp only
          obtain ⟨hj, hja, hjn⟩ := hIB
          by_cases hc : j < its.length
          · have g1 : decide ((j : Int) < (its.length : Int)) = true := decide_eq_true (by omega)
            repeat (refine W.seq ?_)
            refine W.region 102 103 (by decide) rfl rfl ?_
            refine RW.opd rfl rfl (LO.lss rfl rfl rfl) ?_
            refine RW.nil ?_
            repeat (refine W.seq ?_)
            refine W.cond_t rfl (by first | rfl | assumption) ?_
            refine W.skip ?_
            repeat (refine W.seq ?_)
            refine W.block ?_
            repeat (refine W.seq ?_)
            refine W.region 107 113 (by decide) rfl rfl ?_
            refine RW.opd rfl rfl (LO.move rfl rfl) ?_
            refine RW.opd rfl rfl (LO.indexAddr_isl rfl rfl rfl rfl rfl ty22 ty45 ?_) ?_; (· (first | omega | decide | assumption | fail | (simp; done) | (simp; omega)))
            refine RW.opd rfl rfl (LO.load_imm_agg rfl rfl ty45 rfl (its_tk hc)) ?_
            refine RW.opd rfl rfl (LO.alloc rfl ty45) ?_
            refine RW.opd rfl rfl (LO.assign rfl rfl) ?_
            refine RW.opn rfl rfl (LO.store rfl rfl rfl rfl rfl ty45 rfl (by decide) (Sp.lit rfl)) ?_
            refine RW.nil ?_
            have hIt : ∀ s ix, its[j] = ⟨s, ix⟩ → itB f its[j] = (decide (0 ≤ ix) && decide (ix < if s then f.sw else (f.links.length : Int))) := fun s ix h => by rw [h]; rfl
            have hltk : (its.take j).length = j := by rw [List.length_take]; omega
            have hpre := its_pre (l := its) (k := j) hj
            obtain ⟨it, hit⟩ : ∃ it, its[j] = it := ⟨_, rfl⟩
            have hdup : it ∈ its.take j → validD f ls its = false := fun hm => validD_dup hc (by rw [hit]; exact hm)
            have hbad : itB f it = false → validD f ls its = false := fun hm => validD_it hc (by rw [hit]; exact hm)
            have hnx := nodup_next hc hjn
            have hax := all_take_succ (l := its) (itB f) hc
            rw [hit] at hIt hnx hax ⊢
            obtain ⟨s, ix⟩ := it
            have hIt := hIt s ix rfl
            clear hit
            by_cases u0 : ix < 0
            · have hu0 : decide (ix < 0) = true := decide_eq_true u0
              repeat (refine W.seq ?_)
              refine W.region 117 144 (by decide) rfl rfl ?_
              refine RW.opd rfl rfl (LO.fieldAddr rfl rfl ty45 rfl (by decide)) ?_
              refine RW.opd rfl rfl (LO.load rfl rfl rfl rfl ty3 rfl) ?_
              refine RW.opd rfl rfl (LO.lss rfl rfl rfl) ?_
              refine RW.opd rfl rfl (LO.move rfl rfl) ?_
              refine RW.sd rfl rfl rfl ?_ rfl ?_; (· (first | rfl | assumption))
              refine RW.sd rfl rfl rfl ?_ rfl ?_; (· (first | rfl | assumption))
              refine RW.sd rfl rfl rfl ?_ rfl ?_; (· (first | rfl | assumption))
              refine RW.ud rfl rfl rfl rfl ?_
              refine RW.ud rfl rfl rfl rfl ?_
              refine RW.ud rfl rfl rfl rfl ?_
              refine RW.ud rfl rfl rfl rfl ?_
              refine RW.ud rfl rfl rfl rfl ?_
              refine RW.sd rfl rfl rfl ?_ rfl ?_; (· (first | rfl | assumption))
              refine RW.opd rfl rfl (LO.pick_t rfl rfl ?_ rfl) ?_; (· (first | rfl | assumption))
              refine RW.opd rfl rfl (LO.move rfl rfl) ?_
              refine RW.sd rfl rfl rfl ?_ rfl ?_; (· (first | rfl | assumption))
              refine RW.sd rfl rfl rfl ?_ rfl ?_; (· (first | rfl | assumption))
              refine RW.sd rfl rfl rfl ?_ rfl ?_; (· (first | rfl | assumption))
              refine RW.sd rfl rfl rfl ?_ rfl ?_; (· (first | rfl | assumption))
              refine RW.ud rfl rfl rfl rfl ?_
              refine RW.ud rfl rfl rfl rfl ?_
              refine RW.ud rfl rfl rfl rfl ?_
              refine RW.ud rfl rfl rfl rfl ?_
              refine RW.ud rfl rfl rfl rfl ?_
              refine RW.ud rfl rfl rfl rfl ?_
              refine RW.sd rfl rfl rfl ?_ rfl ?_; (· (first | rfl | assumption))
              refine RW.opd rfl rfl (LO.pick_t rfl rfl ?_ rfl) ?_; (· (first | rfl | assumption))
              refine RW.nil ?_
              repeat (refine W.seq ?_)
              refine W.cond_t rfl (by first | rfl | assumption) ?_
              repeat (refine W.seq ?_)
              refine W.region 148 149 (by decide) rfl rfl ?_
              refine RW.opd rfl rfl (LO.assign rfl rfl) ?_
              refine RW.nil ?_
              repeat (refine W.seq ?_)
              refine W.ret ⟨.inl rfl, _, mt, RVs.cons (RV.tmp rfl) (RVs.nil), all_mt, ?_⟩
              exact ⟨by rw [hbad (by rw [hIt]; simp; omega)]; rfl, rfl⟩
            · have hu0 : decide (ix < 0) = false := decide_eq_false u0
              cases s
              case false =>
                by_cases u1 : ix ≥ (f.links.length : Int)
                · have hu1 : decide (ix ≥ (f.links.length : Int)) = true := decide_eq_true u1
                  repeat (refine W.seq ?_)
                  refine W.region 117 144 (by decide) rfl rfl ?_
                  refine RW.opd rfl rfl (LO.fieldAddr rfl rfl ty45 rfl (by decide)) ?_
                  refine RW.opd rfl rfl (LO.load rfl rfl rfl rfl ty3 rfl) ?_
                  refine RW.opd rfl rfl (LO.lss rfl rfl rfl) ?_
                  refine RW.opd rfl rfl (LO.move rfl rfl) ?_
                  refine RW.gd rfl rfl rfl ?_ rfl (LO.fieldAddr rfl rfl ty45 rfl (by decide)) ?_; (· (first | rfl | assumption))
                  refine RW.gd rfl rfl rfl ?_ rfl (LO.load rfl rfl rfl rfl ty4 rfl) ?_; (· (first | rfl | assumption))
                  refine RW.gd rfl rfl rfl ?_ rfl (LO.move rfl rfl) ?_; (· (first | rfl | assumption))
                  refine RW.sd rfl rfl rfl ?_ rfl ?_; (· (first | rfl | assumption))
                  refine RW.sd rfl rfl rfl ?_ rfl ?_; (· (first | rfl | assumption))
                  refine RW.sd rfl rfl rfl ?_ rfl ?_; (· (first | rfl | assumption))
                  refine RW.sd rfl rfl rfl ?_ rfl ?_; (· (first | rfl | assumption))
                  refine RW.sd rfl rfl rfl ?_ rfl ?_; (· (first | rfl | assumption))
                  refine RW.gd rfl rfl rfl ?_ rfl (LO.pick_f rfl rfl ?_ rfl) ?_; (· (first | rfl | assumption)); (· (first | rfl | assumption))
                  refine RW.opd rfl rfl (LO.pick_f rfl rfl ?_ rfl) ?_; (· (first | rfl | assumption))
                  refine RW.opd rfl rfl (LO.move rfl rfl) ?_
                  refine RW.gd rfl rfl rfl ?_ rfl (LO.fieldAddr rfl rfl ty45 rfl (by decide)) ?_; (· (first | rfl | assumption))
                  refine RW.gd rfl rfl rfl ?_ rfl (LO.load rfl rfl rfl rfl ty4 rfl) ?_; (· (first | rfl | assumption))
                  refine RW.gd rfl rfl rfl ?_ rfl (LO.not rfl rfl) ?_; (· (first | rfl | assumption))
                  refine RW.gd rfl rfl rfl ?_ rfl (LO.move rfl rfl) ?_; (· (first | rfl | assumption))
                  refine RW.gd rfl rfl rfl ?_ rfl (LO.fieldAddr rfl rfl ty45 rfl (by decide)) ?_; (· (first | rfl | assumption))
                  refine RW.gd rfl rfl rfl ?_ rfl (LO.load rfl rfl rfl rfl ty3 rfl) ?_; (· (first | rfl | assumption))
                  refine RW.gd rfl rfl rfl ?_ rfl (LO.fieldAddr rfl rfl ty28 rfl (by decide)) ?_; (· (first | rfl | assumption))
                  refine RW.gd rfl rfl rfl ?_ rfl (LO.load rfl rfl rfl rfl ty25 rfl) ?_; (· (first | rfl | assumption))
                  refine RW.gd rfl rfl rfl ?_ rfl (LO.len_isl rfl rfl rfl ty25) ?_; (· (first | rfl | assumption))
                  refine RW.gd rfl rfl rfl ?_ rfl (LO.geq rfl rfl rfl) ?_; (· (first | rfl | assumption))
                  refine RW.gd rfl rfl rfl ?_ rfl (LO.pick_t rfl rfl ?_ rfl) ?_; (· (first | rfl | assumption)); (· (first | rfl | assumption))
                  refine RW.opd rfl rfl (LO.pick_f rfl rfl ?_ rfl) ?_; (· (first | rfl | assumption))
                  refine RW.nil ?_
                  repeat (refine W.seq ?_)
                  refine W.cond_t rfl (by first | rfl | assumption) ?_
                  repeat (refine W.seq ?_)
                  refine W.region 148 149 (by decide) rfl rfl ?_
                  refine RW.opd rfl rfl (LO.assign rfl rfl) ?_
                  refine RW.nil ?_
                  repeat (refine W.seq ?_)
                  refine W.ret ⟨.inl rfl, _, mt, RVs.cons (RV.tmp rfl) (RVs.nil), all_mt, ?_⟩
                  exact ⟨by rw [hbad (by rw [hIt]; simp; omega)]; rfl, rfl⟩
                · have hu1 : decide (ix ≥ (f.links.length : Int)) = false := decide_eq_false u1
                  repeat (refine W.seq ?_)
                  refine W.region 117 144 (by decide) rfl rfl ?_
                  refine RW.opd rfl rfl (LO.fieldAddr rfl rfl ty45 rfl (by decide)) ?_
                  refine RW.opd rfl rfl (LO.load rfl rfl rfl rfl ty3 rfl) ?_
                  refine RW.opd rfl rfl (LO.lss rfl rfl rfl) ?_
                  refine RW.opd rfl rfl (LO.move rfl rfl) ?_
                  refine RW.gd rfl rfl rfl ?_ rfl (LO.fieldAddr rfl rfl ty45 rfl (by decide)) ?_; (· (first | rfl | assumption))
                  refine RW.gd rfl rfl rfl ?_ rfl (LO.load rfl rfl rfl rfl ty4 rfl) ?_; (· (first | rfl | assumption))
                  refine RW.gd rfl rfl rfl ?_ rfl (LO.move rfl rfl) ?_; (· (first | rfl | assumption))
                  refine RW.sd rfl rfl rfl ?_ rfl ?_; (· (first | rfl | assumption))
                  refine RW.sd rfl rfl rfl ?_ rfl ?_; (· (first | rfl | assumption))
                  refine RW.sd rfl rfl rfl ?_ rfl ?_; (· (first | rfl | assumption))
                  refine RW.sd rfl rfl rfl ?_ rfl ?_; (· (first | rfl | assumption))
                  refine RW.sd rfl rfl rfl ?_ rfl ?_; (· (first | rfl | assumption))
                  refine RW.gd rfl rfl rfl ?_ rfl (LO.pick_f rfl rfl ?_ rfl) ?_; (· (first | rfl | assumption)); (· (first | rfl | assumption))
                  refine RW.opd rfl rfl (LO.pick_f rfl rfl ?_ rfl) ?_; (· (first | rfl | assumption))
                  refine RW.opd rfl rfl (LO.move rfl rfl) ?_
                  refine RW.gd rfl rfl rfl ?_ rfl (LO.fieldAddr rfl rfl ty45 rfl (by decide)) ?_; (· (first | rfl | assumption))
                  refine RW.gd rfl rfl rfl ?_ rfl (LO.load rfl rfl rfl rfl ty4 rfl) ?_; (· (first | rfl | assumption))
                  refine RW.gd rfl rfl rfl ?_ rfl (LO.not rfl rfl) ?_; (· (first | rfl | assumption))
                  refine RW.gd rfl rfl rfl ?_ rfl (LO.move rfl rfl) ?_; (· (first | rfl | assumption))
                  refine RW.gd rfl rfl rfl ?_ rfl (LO.fieldAddr rfl rfl ty45 rfl (by decide)) ?_; (· (first | rfl | assumption))
                  refine RW.gd rfl rfl rfl ?_ rfl (LO.load rfl rfl rfl rfl ty3 rfl) ?_; (· (first | rfl | assumption))
                  refine RW.gd rfl rfl rfl ?_ rfl (LO.fieldAddr rfl rfl ty28 rfl (by decide)) ?_; (· (first | rfl | assumption))
                  refine RW.gd rfl rfl rfl ?_ rfl (LO.load rfl rfl rfl rfl ty25 rfl) ?_; (· (first | rfl | assumption))
                  refine RW.gd rfl rfl rfl ?_ rfl (LO.len_isl rfl rfl rfl ty25) ?_; (· (first | rfl | assumption))
                  refine RW.gd rfl rfl rfl ?_ rfl (LO.geq rfl rfl rfl) ?_; (· (first | rfl | assumption))
                  refine RW.gd rfl rfl rfl ?_ rfl (LO.pick_t rfl rfl ?_ rfl) ?_; (· (first | rfl | assumption)); (· (first | rfl | assumption))
                  refine RW.opd rfl rfl (LO.pick_f rfl rfl ?_ rfl) ?_; (· (first | rfl | assumption))
                  refine RW.nil ?_
                  repeat (refine W.seq ?_)
                  refine W.cond_f rfl (by first | rfl | assumption) ?_
                  refine W.skip ?_
                  repeat (refine W.seq ?_)
                  refine W.region 153 158 (by decide) rfl rfl ?_
                  refine RW.opd rfl rfl (LO.move rfl rfl) ?_
                  refine RW.opd rfl rfl (LO.move rfl rfl) ?_
                  refine RW.opd rfl rfl (LO.slice_isl rfl rfl rfl Bnd.no (Bnd.at rfl rfl) ?_ ?_ ty22 ty45 hpre) ?_; (· (first | omega | decide | assumption | fail | (simp; done) | (simp; omega))); (· (first | omega | decide | assumption | fail | (simp; done) | (simp; omega)))
                  refine RW.opd rfl rfl (LO.len_isl rfl rfl rfl ty22) ?_
                  refine RW.opd rfl rfl (LO.move rfl rfl) ?_
                  refine RW.nil ?_
                  repeat (refine W.seq ?_)
                  refine W.block ?_
                  refine W.rename [(0, 0), (1, 110)] 2 (T' := up (up (up (up (up (up (up (up (up mt 2 (some (.isl (itsC its) its.length))) 3 (some (.own 0 0))) 65 (some (.isl (itsC its) its.length))) 66 (some (.base (.int .i64 (its.length : Int))))) 67 (some (.base (.int .i64 (j : Int))))) 10 (some (.own 1 0))) 101 (some (.isl (itsC (its.take j)) j))) 102 (some (.base (.int .i64 (j : Int))))) 103 (some (.base (.int .i64 (0 : Int))))) (H' := up (up mt 0 (some (fabC f))) 1 (some (itC (⟨false, ix⟩ : Itm)))) (by decide) ?_ ?_ ?_
                  · (repeat' (first | exact all_mt | refine all_up ?_ ?_)) <;> first | exact .inl ⟨rfl, rfl⟩ | exact .inr ⟨rfl, fun _ h => by cases h⟩ | exact .inl ⟨rfl, by first | rfl | assumption ⟩
                  · (repeat' (first | exact all_mt | refine all_up ?_ ?_)) <;> first | exact ⟨rfl, _, rfl, .inr ⟨rfl, rfl⟩⟩ | exact ⟨rfl, _, rfl, .inl rfl⟩ | exact ⟨rfl, _, rfl, .inr ⟨rfl, by first | rfl | assumption ⟩⟩
                  refine W.loop_ind (α := Nat) (fun x => j - x) 2 (fun x => up (up (up (up (up (up (up (up (up mt 2 (some (.isl (itsC its) its.length))) 3 (some (.own 0 0))) 65 (some (.isl (itsC its) its.length))) 66 (some (.base (.int .i64 (its.length : Int))))) 67 (some (.base (.int .i64 (j : Int))))) 10 (some (.own 1 0))) 101 (some (.isl (itsC (its.take j)) j))) 102 (some (.base (.int .i64 (j : Int))))) 103 (some (.base (.int .i64 (x : Int))))) (fun x => up (up mt 0 (some (fabC f))) 1 (some (itC (⟨false, ix⟩ : Itm)))) (fun x => x ≤ j ∧ (⟨false, ix⟩ : Itm) ∉ its.take x) 0 (show 0 ≤ j ∧ (⟨false, ix⟩ : Itm) ∉ its.take 0 from ⟨Nat.zero_le _, List.not_mem_nil⟩) ?_
                  rintro k hICf ihCf
                  try (dsimp only at hICf)
                  try dsimp only
                  obtain ⟨hk, hkn⟩ := hICf
                  by_cases hck : k < j
                  · have g2 : decide ((k : Int) < (j : Int)) = true := decide_eq_true (by omega)
                    have hck2 : k < (its.take j).length := by omega
                    repeat (refine W.seq ?_)
                    refine W.region 162 163 (by decide) rfl rfl ?_
                    refine RW.opd rfl rfl (LO.lss rfl rfl rfl) ?_
                    refine RW.nil ?_
                    repeat (refine W.seq ?_)
                    refine W.cond_t rfl (by first | rfl | assumption) ?_
                    refine W.skip ?_
                    repeat (refine W.seq ?_)
                    refine W.block ?_
                    repeat (refine W.seq ?_)
                    refine W.region 167 171 (by decide) rfl rfl ?_
                    refine RW.opd rfl rfl (LO.indexAddr_isl rfl rfl rfl rfl rfl ty22 ty45 ?_) ?_; (· (first | omega | decide | assumption | fail | (simp; done) | (simp; omega)))
                    refine RW.opd rfl rfl (LO.load_imm_agg rfl rfl ty45 rfl (its_tk hck2)) ?_
                    refine RW.opd rfl rfl (LO.alloc rfl ty45) ?_
                    refine RW.opn rfl rfl (LO.store rfl rfl rfl rfl rfl ty45 rfl (by decide) (Sp.lit rfl)) ?_
                    refine RW.nil ?_
                    have hgk : (its.take j)[k] = its[k]'(by omega) := by simp
                    by_cases u2 : (⟨false, ix⟩ : Itm) = (its.take j)[k]
                    · have hu2 : decide ((⟨false, ix⟩ : Itm) = (its.take j)[k]) = true := decide_eq_true u2
                      repeat (refine W.seq ?_)
                      refine W.region 175 178 (by decide) rfl rfl ?_
                      refine RW.opd rfl rfl (LO.load_agg rfl rfl rfl ty45 rfl (Tk.lit rfl)) ?_
                      refine RW.opd rfl rfl (LO.load_agg rfl rfl rfl ty45 rfl (Tk.lit rfl)) ?_
                      refine RW.opd rfl rfl (LO.eqIt (⟨false, ix⟩ : Itm) (its.take j)[k] rfl rfl rfl) ?_
                      refine RW.nil ?_
                      repeat (refine W.seq ?_)
                      refine W.cond_t rfl (by first | rfl | assumption) ?_
                      repeat (refine W.seq ?_)
                      refine W.region 182 183 (by decide) rfl rfl ?_
                      refine RW.opd rfl rfl (LO.assign rfl rfl) ?_
                      refine RW.nil ?_
                      repeat (refine W.seq ?_)
                      refine W.ret ⟨.inl rfl, _, mt, RVs.cons (RV.tmp rfl) (RVs.nil), all_mt, ?_⟩
                      exact ⟨by rw [hdup (by rw [u2]; exact List.getElem_mem hck2)]; rfl, rfl⟩
                    · have hu2 : decide ((⟨false, ix⟩ : Itm) = (its.take j)[k]) = false := decide_eq_false u2
                      repeat (refine W.seq ?_)
                      refine W.region 175 178 (by decide) rfl rfl ?_
                      refine RW.opd rfl rfl (LO.load_agg rfl rfl rfl ty45 rfl (Tk.lit rfl)) ?_
                      refine RW.opd rfl rfl (LO.load_agg rfl rfl rfl ty45 rfl (Tk.lit rfl)) ?_
                      refine RW.opd rfl rfl (LO.eqIt (⟨false, ix⟩ : Itm) (its.take j)[k] rfl rfl rfl) ?_
                      refine RW.nil ?_
                      repeat (refine W.seq ?_)
                      refine W.cond_f rfl (by first | rfl | assumption) ?_
                      refine W.skip ?_
                      repeat (refine W.seq ?_)
                      refine W.region 187 189 (by decide) rfl rfl ?_
                      refine RW.opd rfl rfl (LO.add_in rfl rfl rfl ?_) ?_; (· (first | exact IntWalk.i64_in _ (by omega) | assumption))
                      refine RW.opd rfl rfl (LO.move rfl rfl) ?_
                      refine RW.nil ?_
                      refine WL.rename [(0, 0), (1, 1)] 2 (by decide) ?_ ?_ (ihCf (k + 1) (show j - (k + 1) < j - k from by omega) (show (k + 1) ≤ j ∧ (⟨false, ix⟩ : Itm) ∉ its.take (k + 1) from ⟨by omega, notmem_next (by omega) hkn (by rw [← hgk]; exact u2)⟩))
                      · (repeat' (first | exact all_mt | refine all_up ?_ ?_)) <;> first | exact .inl ⟨rfl, rfl⟩ | exact .inr ⟨rfl, fun _ h => by cases h⟩ | exact .inl ⟨rfl, by first | rfl | assumption ⟩
                      · (repeat' (first | exact all_mt | refine all_up ?_ ?_)) <;> first | exact ⟨rfl, _, rfl, .inr ⟨rfl, rfl⟩⟩ | exact ⟨rfl, _, rfl, .inl rfl⟩ | exact ⟨rfl, _, rfl, .inr ⟨rfl, by first | rfl | assumption ⟩⟩
                  · have g2 : decide ((k : Int) < (j : Int)) = false := decide_eq_false (by omega)
                    repeat (refine W.seq ?_)
                    refine W.region 162 163 (by decide) rfl rfl ?_
                    refine RW.opd rfl rfl (LO.lss rfl rfl rfl) ?_
                    refine RW.nil ?_
                    repeat (refine W.seq ?_)
                    refine W.cond_f rfl (by first | rfl | assumption) ?_
                    refine W.exit ?_
                    obtain rfl : j = k := by omega
                    repeat (refine W.seq ?_)
                    refine W.region 193 195 (by decide) rfl rfl ?_
                    refine RW.opd rfl rfl (LO.add_in rfl rfl rfl ?_) ?_; (· (first | exact IntWalk.i64_in _ (by omega) | assumption))
                    refine RW.opd rfl rfl (LO.move rfl rfl) ?_
                    refine RW.nil ?_
                    refine WL.rename [(0, 0)] 1 (by decide) ?_ ?_ (ihB (j + 1) (show its.length - (j + 1) < its.length - j from by omega) (show (j + 1) ≤ its.length ∧ (its.take (j + 1)).all (itB f) = true ∧ (its.take (j + 1)).Nodup from ⟨by omega, by rw [hax, hja, hIt]; simp; omega, hnx hkn⟩))
                    · (repeat' (first | exact all_mt | refine all_up ?_ ?_)) <;> first | exact .inl ⟨rfl, rfl⟩ | exact .inr ⟨rfl, fun _ h => by cases h⟩ | exact .inl ⟨rfl, by first | rfl | assumption ⟩
                    · (repeat' (first | exact all_mt | refine all_up ?_ ?_)) <;> first | exact ⟨rfl, _, rfl, .inr ⟨rfl, rfl⟩⟩ | exact ⟨rfl, _, rfl, .inl rfl⟩ | exact ⟨rfl, _, rfl, .inr ⟨rfl, by first | rfl | assumption ⟩⟩
              case true =>
                by_cases u1 : ix ≥ f.sw
                · have hu1 : decide (ix ≥ f.sw) = true := decide_eq_true u1
                  repeat (refine W.seq ?_)
                  refine W.region 117 144 (by decide) rfl rfl ?_
                  refine RW.opd rfl rfl (LO.fieldAddr rfl rfl ty45 rfl (by decide)) ?_
                  refine RW.opd rfl rfl (LO.load rfl rfl rfl rfl ty3 rfl) ?_
                  refine RW.opd rfl rfl (LO.lss rfl rfl rfl) ?_
                  refine RW.opd rfl rfl (LO.move rfl rfl) ?_
                  refine RW.gd rfl rfl rfl ?_ rfl (LO.fieldAddr rfl rfl ty45 rfl (by decide)) ?_; (· (first | rfl | assumption))
                  refine RW.gd rfl rfl rfl ?_ rfl (LO.load rfl rfl rfl rfl ty4 rfl) ?_; (· (first | rfl | assumption))
                  refine RW.gd rfl rfl rfl ?_ rfl (LO.move rfl rfl) ?_; (· (first | rfl | assumption))
                  refine RW.gd rfl rfl rfl ?_ rfl (LO.fieldAddr rfl rfl ty45 rfl (by decide)) ?_; (· (first | rfl | assumption))
                  refine RW.gd rfl rfl rfl ?_ rfl (LO.load rfl rfl rfl rfl ty3 rfl) ?_; (· (first | rfl | assumption))
                  refine RW.gd rfl rfl rfl ?_ rfl (LO.fieldAddr rfl rfl ty28 rfl (by decide)) ?_; (· (first | rfl | assumption))
                  refine RW.gd rfl rfl rfl ?_ rfl (LO.load rfl rfl rfl rfl ty3 rfl) ?_; (· (first | rfl | assumption))
                  refine RW.gd rfl rfl rfl ?_ rfl (LO.geq rfl rfl rfl) ?_; (· (first | rfl | assumption))
                  refine RW.gd rfl rfl rfl ?_ rfl (LO.pick_t rfl rfl ?_ rfl) ?_; (· (first | rfl | assumption)); (· (first | rfl | assumption))
                  refine RW.opd rfl rfl (LO.pick_f rfl rfl ?_ rfl) ?_; (· (first | rfl | assumption))
                  refine RW.opd rfl rfl (LO.move rfl rfl) ?_
                  refine RW.sd rfl rfl rfl ?_ rfl ?_; (· (first | rfl | assumption))
                  refine RW.sd rfl rfl rfl ?_ rfl ?_; (· (first | rfl | assumption))
                  refine RW.sd rfl rfl rfl ?_ rfl ?_; (· (first | rfl | assumption))
                  refine RW.sd rfl rfl rfl ?_ rfl ?_; (· (first | rfl | assumption))
                  refine RW.ud rfl rfl rfl rfl ?_
                  refine RW.ud rfl rfl rfl rfl ?_
                  refine RW.ud rfl rfl rfl rfl ?_
                  refine RW.ud rfl rfl rfl rfl ?_
                  refine RW.ud rfl rfl rfl rfl ?_
                  refine RW.ud rfl rfl rfl rfl ?_
                  refine RW.sd rfl rfl rfl ?_ rfl ?_; (· (first | rfl | assumption))
                  refine RW.opd rfl rfl (LO.pick_t rfl rfl ?_ rfl) ?_; (· (first | rfl | assumption))
                  refine RW.nil ?_
                  repeat (refine W.seq ?_)
                  refine W.cond_t rfl (by first | rfl | assumption) ?_
                  repeat (refine W.seq ?_)
                  refine W.region 148 149 (by decide) rfl rfl ?_
                  refine RW.opd rfl rfl (LO.assign rfl rfl) ?_
                  refine RW.nil ?_
                  repeat (refine W.seq ?_)
                  refine W.ret ⟨.inl rfl, _, mt, RVs.cons (RV.tmp rfl) (RVs.nil), all_mt, ?_⟩
                  exact ⟨by rw [hbad (by rw [hIt]; simp; omega)]; rfl, rfl⟩
                · have hu1 : decide (ix ≥ f.sw) = false := decide_eq_false u1
                  repeat (refine W.seq ?_)
                  refine W.region 117 144 (by decide) rfl rfl ?_
                  refine RW.opd rfl rfl (LO.fieldAddr rfl rfl ty45 rfl (by decide)) ?_
                  refine RW.opd rfl rfl (LO.load rfl rfl rfl rfl ty3 rfl) ?_
                  refine RW.opd rfl rfl (LO.lss rfl rfl rfl) ?_
                  refine RW.opd rfl rfl (LO.move rfl rfl) ?_
                  refine RW.gd rfl rfl rfl ?_ rfl (LO.fieldAddr rfl rfl ty45 rfl (by decide)) ?_; (· (first | rfl | assumption))
                  refine RW.gd rfl rfl rfl ?_ rfl (LO.load rfl rfl rfl rfl ty4 rfl) ?_; (· (first | rfl | assumption))
                  refine RW.gd rfl rfl rfl ?_ rfl (LO.move rfl rfl) ?_; (· (first | rfl | assumption))
                  refine RW.gd rfl rfl rfl ?_ rfl (LO.fieldAddr rfl rfl ty45 rfl (by decide)) ?_; (· (first | rfl | assumption))
                  refine RW.gd rfl rfl rfl ?_ rfl (LO.load rfl rfl rfl rfl ty3 rfl) ?_; (· (first | rfl | assumption))
                  refine RW.gd rfl rfl rfl ?_ rfl (LO.fieldAddr rfl rfl ty28 rfl (by decide)) ?_; (· (first | rfl | assumption))
                  refine RW.gd rfl rfl rfl ?_ rfl (LO.load rfl rfl rfl rfl ty3 rfl) ?_; (· (first | rfl | assumption))
                  refine RW.gd rfl rfl rfl ?_ rfl (LO.geq rfl rfl rfl) ?_; (· (first | rfl | assumption))
                  refine RW.gd rfl rfl rfl ?_ rfl (LO.pick_t rfl rfl ?_ rfl) ?_; (· (first | rfl | assumption)); (· (first | rfl | assumption))
                  refine RW.opd rfl rfl (LO.pick_f rfl rfl ?_ rfl) ?_; (· (first | rfl | assumption))
                  refine RW.opd rfl rfl (LO.move rfl rfl) ?_
                  refine RW.gd rfl rfl rfl ?_ rfl (LO.fieldAddr rfl rfl ty45 rfl (by decide)) ?_; (· (first | rfl | assumption))
                  refine RW.gd rfl rfl rfl ?_ rfl (LO.load rfl rfl rfl rfl ty4 rfl) ?_; (· (first | rfl | assumption))
                  refine RW.gd rfl rfl rfl ?_ rfl (LO.not rfl rfl) ?_; (· (first | rfl | assumption))
                  refine RW.gd rfl rfl rfl ?_ rfl (LO.move rfl rfl) ?_; (· (first | rfl | assumption))
                  refine RW.sd rfl rfl rfl ?_ rfl ?_; (· (first | rfl | assumption))
                  refine RW.sd rfl rfl rfl ?_ rfl ?_; (· (first | rfl | assumption))
                  refine RW.sd rfl rfl rfl ?_ rfl ?_; (· (first | rfl | assumption))
                  refine RW.sd rfl rfl rfl ?_ rfl ?_; (· (first | rfl | assumption))
                  refine RW.sd rfl rfl rfl ?_ rfl ?_; (· (first | rfl | assumption))
                  refine RW.sd rfl rfl rfl ?_ rfl ?_; (· (first | rfl | assumption))
                  refine RW.gd rfl rfl rfl ?_ rfl (LO.pick_f rfl rfl ?_ rfl) ?_; (· (first | rfl | assumption)); (· (first | rfl | assumption))
                  refine RW.opd rfl rfl (LO.pick_f rfl rfl ?_ rfl) ?_; (· (first | rfl | assumption))
                  refine RW.nil ?_
                  repeat (refine W.seq ?_)
                  refine W.cond_f rfl (by first | rfl | assumption) ?_
                  refine W.skip ?_
                  repeat (refine W.seq ?_)
                  refine W.region 153 158 (by decide) rfl rfl ?_
                  refine RW.opd rfl rfl (LO.move rfl rfl) ?_
                  refine RW.opd rfl rfl (LO.move rfl rfl) ?_
                  refine RW.opd rfl rfl (LO.slice_isl rfl rfl rfl Bnd.no (Bnd.at rfl rfl) ?_ ?_ ty22 ty45 hpre) ?_; (· (first | omega | decide | assumption | fail | (simp; done) | (simp; omega))); (· (first | omega | decide | assumption | fail | (simp; done) | (simp; omega)))
                  refine RW.opd rfl rfl (LO.len_isl rfl rfl rfl ty22) ?_
                  refine RW.opd rfl rfl (LO.move rfl rfl) ?_
                  refine RW.nil ?_
                  repeat (refine W.seq ?_)
                  refine W.block ?_
                  refine W.rename [(0, 0), (1, 110)] 2 (T' := up (up (up (up (up (up (up (up (up mt 2 (some (.isl (itsC its) its.length))) 3 (some (.own 0 0))) 65 (some (.isl (itsC its) its.length))) 66 (some (.base (.int .i64 (its.length : Int))))) 67 (some (.base (.int .i64 (j : Int))))) 10 (some (.own 1 0))) 101 (some (.isl (itsC (its.take j)) j))) 102 (some (.base (.int .i64 (j : Int))))) 103 (some (.base (.int .i64 (0 : Int))))) (H' := up (up mt 0 (some (fabC f))) 1 (some (itC (⟨true, ix⟩ : Itm)))) (by decide) ?_ ?_ ?_
                  · (repeat' (first | exact all_mt | refine all_up ?_ ?_)) <;> first | exact .inl ⟨rfl, rfl⟩ | exact .inr ⟨rfl, fun _ h => by cases h⟩ | exact .inl ⟨rfl, by first | rfl | assumption ⟩
                  · (repeat' (first | exact all_mt | refine all_up ?_ ?_)) <;> first | exact ⟨rfl, _, rfl, .inr ⟨rfl, rfl⟩⟩ | exact ⟨rfl, _, rfl, .inl rfl⟩ | exact ⟨rfl, _, rfl, .inr ⟨rfl, by first | rfl | assumption ⟩⟩
                  refine W.loop_ind (α := Nat) (fun x => j - x) 2 (fun x => up (up (up (up (up (up (up (up (up mt 2 (some (.isl (itsC its) its.length))) 3 (some (.own 0 0))) 65 (some (.isl (itsC its) its.length))) 66 (some (.base (.int .i64 (its.length : Int))))) 67 (some (.base (.int .i64 (j : Int))))) 10 (some (.own 1 0))) 101 (some (.isl (itsC (its.take j)) j))) 102 (some (.base (.int .i64 (j : Int))))) 103 (some (.base (.int .i64 (x : Int))))) (fun x => up (up mt 0 (some (fabC f))) 1 (some (itC (⟨true, ix⟩ : Itm)))) (fun x => x ≤ j ∧ (⟨true, ix⟩ : Itm) ∉ its.take x) 0 (show 0 ≤ j ∧ (⟨true, ix⟩ : Itm) ∉ its.take 0 from ⟨Nat.zero_le _, List.not_mem_nil⟩) ?_
                  rintro k hICt ihCt
                  try (dsimp only at hICt)
                  try dsimp only
                  obtain ⟨hk, hkn⟩ := hICt
                  by_cases hck : k < j
                  · have g2 : decide ((k : Int) < (j : Int)) = true := decide_eq_true (by omega)
                    have hck2 : k < (its.take j).length := by omega
                    repeat (refine W.seq ?_)
                    refine W.region 162 163 (by decide) rfl rfl ?_
                    refine RW.opd rfl rfl (LO.lss rfl rfl rfl) ?_
                    refine RW.nil ?_
                    repeat (refine W.seq ?_)
                    refine W.cond_t rfl (by first | rfl | assumption) ?_
                    refine W.skip ?_
                    repeat (refine W.seq ?_)
                    refine W.block ?_
                    repeat (refine W.seq ?_)
                    refine W.region 167 171 (by decide) rfl rfl ?_
                    refine RW.opd rfl rfl (LO.indexAddr_isl rfl rfl rfl rfl rfl ty22 ty45 ?_) ?_; (· (first | omega | decide | assumption | fail | (simp; done) | (simp; omega)))
                    refine RW.opd rfl rfl (LO.load_imm_agg rfl rfl ty45 rfl (its_tk hck2)) ?_
                    refine RW.opd rfl rfl (LO.alloc rfl ty45) ?_
                    refine RW.opn rfl rfl (LO.store rfl rfl rfl rfl rfl ty45 rfl (by decide) (Sp.lit rfl)) ?_
                    refine RW.nil ?_
                    have hgk : (its.take j)[k] = its[k]'(by omega) := by simp
                    by_cases u2 : (⟨true, ix⟩ : Itm) = (its.take j)[k]
                    · have hu2 : decide ((⟨true, ix⟩ : Itm) = (its.take j)[k]) = true := decide_eq_true u2
                      repeat (refine W.seq ?_)
                      refine W.region 175 178 (by decide) rfl rfl ?_
                      refine RW.opd rfl rfl (LO.load_agg rfl rfl rfl ty45 rfl (Tk.lit rfl)) ?_
                      refine RW.opd rfl rfl (LO.load_agg rfl rfl rfl ty45 rfl (Tk.lit rfl)) ?_
                      refine RW.opd rfl rfl (LO.eqIt (⟨true, ix⟩ : Itm) (its.take j)[k] rfl rfl rfl) ?_
                      refine RW.nil ?_
                      repeat (refine W.seq ?_)
                      refine W.cond_t rfl (by first | rfl | assumption) ?_
                      repeat (refine W.seq ?_)
                      refine W.region 182 183 (by decide) rfl rfl ?_
                      refine RW.opd rfl rfl (LO.assign rfl rfl) ?_
                      refine RW.nil ?_
                      repeat (refine W.seq ?_)
                      refine W.ret ⟨.inl rfl, _, mt, RVs.cons (RV.tmp rfl) (RVs.nil), all_mt, ?_⟩
                      exact ⟨by rw [hdup (by rw [u2]; exact List.getElem_mem hck2)]; rfl, rfl⟩
                    · have hu2 : decide ((⟨true, ix⟩ : Itm) = (its.take j)[k]) = false := decide_eq_false u2
                      repeat (refine W.seq ?_)
                      refine W.region 175 178 (by decide) rfl rfl ?_
                      refine RW.opd rfl rfl (LO.load_agg rfl rfl rfl ty45 rfl (Tk.lit rfl)) ?_
                      refine RW.opd rfl rfl (LO.load_agg rfl rfl rfl ty45 rfl (Tk.lit rfl)) ?_
                      refine RW.opd rfl rfl (LO.eqIt (⟨true, ix⟩ : Itm) (its.take j)[k] rfl rfl rfl) ?_
                      refine RW.nil ?_
                      repeat (refine W.seq ?_)
                      refine W.cond_f rfl (by first | rfl | assumption) ?_
                      refine W.skip ?_
                      repeat (refine W.seq ?_)
                      refine W.region 187 189 (by decide) rfl rfl ?_
                      refine RW.opd rfl rfl (LO.add_in rfl rfl rfl ?_) ?_; (· (first | exact IntWalk.i64_in _ (by omega) | assumption))
                      refine RW.opd rfl rfl (LO.move rfl rfl) ?_
                      refine RW.nil ?_
                      refine WL.rename [(0, 0), (1, 1)] 2 (by decide) ?_ ?_ (ihCt (k + 1) (show j - (k + 1) < j - k from by omega) (show (k + 1) ≤ j ∧ (⟨true, ix⟩ : Itm) ∉ its.take (k + 1) from ⟨by omega, notmem_next (by omega) hkn (by rw [← hgk]; exact u2)⟩))
                      · (repeat' (first | exact all_mt | refine all_up ?_ ?_)) <;> first | exact .inl ⟨rfl, rfl⟩ | exact .inr ⟨rfl, fun _ h => by cases h⟩ | exact .inl ⟨rfl, by first | rfl | assumption ⟩
                      · (repeat' (first | exact all_mt | refine all_up ?_ ?_)) <;> first | exact ⟨rfl, _, rfl, .inr ⟨rfl, rfl⟩⟩ | exact ⟨rfl, _, rfl, .inl rfl⟩ | exact ⟨rfl, _, rfl, .inr ⟨rfl, by first | rfl | assumption ⟩⟩
                  · have g2 : decide ((k : Int) < (j : Int)) = false := decide_eq_false (by omega)
                    repeat (refine W.seq ?_)
                    refine W.region 162 163 (by decide) rfl rfl ?_
                    refine RW.opd rfl rfl (LO.lss rfl rfl rfl) ?_
                    refine RW.nil ?_
                    repeat (refine W.seq ?_)
                    refine W.cond_f rfl (by first | rfl | assumption) ?_
                    refine W.exit ?_
                    obtain rfl : j = k := by omega
                    repeat (refine W.seq ?_)
                    refine W.region 193 195 (by decide) rfl rfl ?_
                    refine RW.opd rfl rfl (LO.add_in rfl rfl rfl ?_) ?_; (· (first | exact IntWalk.i64_in _ (by omega) | assumption))
                    refine RW.opd rfl rfl (LO.move rfl rfl) ?_
                    refine RW.nil ?_
                    refine WL.rename [(0, 0)] 1 (by decide) ?_ ?_ (ihB (j + 1) (show its.length - (j + 1) < its.length - j from by omega) (show (j + 1) ≤ its.length ∧ (its.take (j + 1)).all (itB f) = true ∧ (its.take (j + 1)).Nodup from ⟨by omega, by rw [hax, hja, hIt]; simp; omega, hnx hkn⟩))
                    · (repeat' (first | exact all_mt | refine all_up ?_ ?_)) <;> first | exact .inl ⟨rfl, rfl⟩ | exact .inr ⟨rfl, fun _ h => by cases h⟩ | exact .inl ⟨rfl, by first | rfl | assumption ⟩
                    · (repeat' (first | exact all_mt | refine all_up ?_ ?_)) <;> first | exact ⟨rfl, _, rfl, .inr ⟨rfl, rfl⟩⟩ | exact ⟨rfl, _, rfl, .inl rfl⟩ | exact ⟨rfl, _, rfl, .inr ⟨rfl, by first | rfl | assumption ⟩⟩
          · have g1 : decide ((j : Int) < (its.length : Int)) = false := decide_eq_false (by omega)
            repeat (refine W.seq ?_)
            refine W.region 102 103 (by decide) rfl rfl ?_
            refine RW.opd rfl rfl (LO.lss rfl rfl rfl) ?_
            refine RW.nil ?_
            repeat (refine W.seq ?_)
            refine W.cond_f rfl (by first | rfl | assumption) ?_
            refine W.exit ?_
            obtain rfl : j = its.length := by omega
            repeat (refine W.seq ?_)
            refine W.region 199 200 (by decide) rfl rfl ?_
            refine RW.opd rfl rfl (LO.assign rfl rfl) ?_
            refine RW.nil ?_
            repeat (refine W.seq ?_)
            refine W.ret ⟨.inl rfl, _, mt, RVs.cons (RV.tmp rfl) (RVs.nil), all_mt, ?_⟩
            exact ⟨by rw [validD_all hvb (by omega) (by omega) hall hja hjn]; rfl, rfl⟩
end Go.Proofs.YtbjfaepjpmogjaaDoor
