/-
  FabricFails returns true.
-/
import Derived.Test.YthbdngfnbpkefaaGb
import Derived.Test.YthbdngfnbpkefaaMab
namespace Go.Proofs.Ythbdngfnbpkefaa
open Go.RowKit

/-- one more switch dead -/
def killF (f : Fab) (k : Int) : Fab := { f with dead := f.dead.set k.toNat true }
theorem validB_same {f g : Fab} (hl : g.links = f.links) (hs : g.sw = f.sw) (hd : g.down.length = f.down.length) (he : g.dead.length = f.dead.length) : validB g = validB f := by
  have e : lnkB g = lnkB f := by funext l; unfold lnkB; rw [hs]
  unfold validB sizeB
  rw [hl, hs, hd, he, e]
theorem kill_alive (f : Fab) {k : Nat} (hk : k < f.dead.length) (s : Int) : aliveB (killF f k) s = (aliveB f s && !(s == (k : Int))) := by
  unfold aliveB killF
  simp only [Int.toNat_natCast, List.length_set]
  rcases Int.lt_or_le s 0 with h | h
  · simp [show ¬ 0 ≤ s by omega]
  · obtain ⟨j, rfl⟩ := Int.eq_ofNat_of_zero_le h
    rw [Int.toNat_natCast]
    by_cases e : j = k
    · subst e; simp [hk]
    · have e2 : k ≠ j := fun h => e h.symm
      have e3 : ((j : Int) == (k : Int)) = false := by simp; omega
      simp [List.getElem?_set_ne e2, e3]
theorem kill_works (f : Fab) {k : Nat} (hk : k < f.dead.length) (i : Nat) (h : wkF (killF f k) i = true) : wkF f i = true := by
  unfold wkF worksB at h ⊢
  simp only [kill_alive f hk] at h
  simp only [Bool.and_eq_true] at h ⊢
  obtain ⟨h1, h2, h3, h4, h5⟩ := h
  refine ⟨h1, h2, h3, h4, ?_⟩
  have e : (killF f (k : Int)).links = f.links := rfl
  rw [e] at h5
  cases hl : f.links[(i : Int).toNat]? with
  | none => rw [hl] at h5; cases h5
  | some l =>
    rw [hl] at h5
    simp only [Bool.and_eq_true] at h5 ⊢
    exact ⟨h5.1.1, h5.2.1⟩
/-- g is f with something more that has failed -/
structure Worse (g f : Fab) : Prop where
  links : g.links = f.links
  sw : g.sw = f.sw
  down : g.down.length = f.down.length
  dead : g.dead.length = f.dead.length
  wk : ∀ i, wkF g i = true → wkF f i = true
  al : ∀ s, aliveB g s = true → aliveB f s = true
theorem Worse.edge {f g : Fab} (h : Worse g f) (a b : Int) (he : Edge g (wkF g) a b) : Edge f (wkF f) a b := by
  obtain ⟨i, l, hl, hW, h3⟩ := he
  exact ⟨i, l, by rw [← h.links]; exact hl, h.wk i hW, h3⟩
theorem Worse.s {f g : Fab} (h : Worse g f) (hf : FabS f) : FabS g := ⟨by rw [h.sw, h.dead]; exact hf.sw, by rw [h.dead]; exact hf.n8, by rw [h.links]; exact hf.nl⟩
theorem Worse.val {f g : Fab} (h : Worse g f) (hf : validB f = true) : validB g = true := by rw [validB_same h.links h.sw h.down h.dead]; exact hf
theorem fail_worse (f : Fab) {k : Nat} (hk : k < f.down.length) : Worse (failF f k) f :=
  ⟨rfl, rfl, by simp [failF], rfl, fun i h => by rw [failF_works f hk] at h; simp only [Bool.and_eq_true] at h; exact h.1, fun s h => h⟩
theorem kill_worse (f : Fab) {k : Nat} (hk : k < f.dead.length) : Worse (killF f k) f :=
  ⟨rfl, rfl, rfl, by simp [killF], kill_works f hk, fun s h => by rw [kill_alive f hk] at h; simp only [Bool.and_eq_true] at h; exact h.1⟩
theorem bs_nat {l : List Bool} {k : Nat} {b : Bool} (h : k < l.length) : Sp (boolsC l) (0 + k * 1) [.base (.bool b)] (boolsC (l.set k b)) := by
  have := bs_at (l := l) (x := (k : Int)) (b := b) (by omega) (by omega)
  rwa [Int.toNat_natCast] at this
theorem emod_nat (v : Int) {n : Int} (h : 0 < n) : ∃ k : Nat, v % n = k ∧ (k : Int) < n := by
  obtain ⟨k, hk⟩ := Int.eq_ofNat_of_zero_le (Int.emod_nonneg v (show n ≠ 0 by omega))
  exact ⟨k, hk, by rw [← hk]; exact Int.emod_lt_of_pos v h⟩
theorem fails_law (l : List Int) (which a b : Int) (hl : l.length ≤ 9223372036854775807) : AFn Try.prog 9 0 [.isl (intsC l) l.length, .base (.int .i64 which), .base (.int .i64 a), .base (.int .i64 b)] mt (.base (.bool true)) mt := by
  refine AFn.eq Try.func9 rfl rfl (Nat.le_of_ble_eq_true rfl) ?_
  have hnew := new_any l
  obtain ⟨v, H', hcall, f, a1, ⟨hf, hsw⟩, rfl, rfl⟩ := fabric_any l 0 2 (by decide) (by decide) hl
  have hfl := failed_any f
  have hs1 := hf.sw1
  have hs7 := hf.sw7
  have hdd := hf.dead
  have h24 := hf.nlinks
  have hdn := hf.down
  obtain ⟨sn, hsn, hsl⟩ := emod_nat a (show 0 < f.sw by omega)
  obtain ⟨tn, htn, htl⟩ := emod_nat b (show 0 < f.sw by omega)
  have hm1 := mod_any a f.sw hs1 (by omega)
  have hm2 := mod_any b f.sw hs1 (by omega)
  rw [hsn] at hm1
  rw [htn] at hm2
  repeat (refine W.seq ?_)
  refine W.region 0 1 (by decide) rfl rfl ?_
  refine RW.opd rfl rfl (LO.assign rfl rfl) ?_
  refine RW.nil ?_
  repeat (refine W.seq ?_)
  refine W.region 5 10 (by decide) rfl rfl ?_
  refine RW.opd rfl rfl (LO.move rfl rfl) ?_
  refine RW.opd rfl rfl (LO.callN (fr := []) rfl rfl (hnew) fok16 (.cons rfl (.pure rfl) .nil) rfl (by decide)) ?_
  refine RW.opd rfl rfl (LO.call1 (fr := []) rfl rfl (hcall) fok17 (.own rfl rfl (.cons rfl (.pure rfl) .nil)) rfl rfl rfl (List.cons_ne_nil _ _) (by decide) rfl) ?_
  refine RW.opd rfl rfl (LO.alloc rfl ty25) ?_
  refine RW.opn rfl rfl (LO.store rfl rfl rfl rfl rfl ty25 rfl (by decide) (Sp.lit rfl)) ?_
  refine RW.nil ?_
  repeat (refine W.seq ?_)
  refine W.region 14 17 (by decide) rfl rfl ?_
  refine RW.opd rfl rfl (LO.load_agg rfl rfl rfl ty25 rfl (Tk.lit rfl)) ?_
  refine RW.opd rfl rfl (LO.alloc rfl ty25) ?_
  refine RW.opn rfl rfl (LO.store rfl rfl rfl rfl rfl ty25 rfl (by decide) (Sp.lit rfl)) ?_
  refine RW.nil ?_
  refine W.seqJ (α := Fab) 2 (fun x => up (up (up (up mt 2 (some (.base (.int .i64 a)))) 3 (some (.base (.int .i64 b)))) 9 (some (.own 0 0))) 10 (some (.own 1 0))) (fun x => up (up mt 0 (some (fabC f))) 1 (some (fabC x))) (fun x => Worse x f) ?_ ?_
  rotate_left
  rintro g hIJ
  try (dsimp only at hIJ)
  try dsimp only
  rotate_right
  ·
    have hdec : (0 < f.links.length ∧ (bitV .and .i64 which 1 == 0) = true) ∨ (0 < f.links.length ∧ (bitV .and .i64 which 1 == 0) = false) ∨ f.links.length = 0 := by
      rcases Nat.eq_zero_or_pos f.links.length with h | h
      · exact .inr (.inr h)
      · cases e : (bitV .and .i64 which 1 == 0) with
        | true => exact .inl ⟨h, rfl⟩
        | false => exact .inr (.inl ⟨h, rfl⟩)
    rcases hdec with ⟨e1, e2⟩ | ⟨e1, e2⟩ | e1
    case inl =>
      have g1 : decide ((f.links.length : Int) > 0) = true := decide_eq_true (by omega)
      obtain ⟨kn, hkn, hkl⟩ := emod_nat (IntKind.i64.wrap (which.tdiv 2)) (show 0 < (f.links.length : Int) by omega)
      have hm3 := mod_any (IntKind.i64.wrap (which.tdiv 2)) (f.links.length : Int) (by omega) (by omega)
      rw [hkn] at hm3
      have hfl1 := hfl kn (by omega) (by omega) (by omega)
      obtain ⟨g, hg⟩ : ∃ g, failF f kn = g := ⟨_, rfl⟩
      have hw : Worse g f := by rw [← hg]; exact fail_worse f (by omega)
      rw [hg] at hfl1
      repeat (refine W.seq ?_)
      refine W.region 21 30 (by decide) rfl rfl ?_
      refine RW.opd rfl rfl (LO.fieldAddr rfl rfl ty25 rfl (by decide)) ?_
      refine RW.opd rfl rfl (LO.load rfl rfl rfl rfl ty22 rfl) ?_
      refine RW.opd rfl rfl (LO.len_isl rfl rfl rfl ty22) ?_
      refine RW.opd rfl rfl (LO.gtr rfl rfl rfl) ?_
      refine RW.opd rfl rfl (LO.move rfl rfl) ?_
      refine RW.gd rfl rfl rfl ?_ rfl (LO.move rfl rfl) ?_; (· (first | rfl | assumption))
      refine RW.gd rfl rfl rfl ?_ rfl (LO.and rfl rfl rfl) ?_; (· (first | rfl | assumption))
      refine RW.gd rfl rfl rfl ?_ rfl (LO.eql rfl rfl rfl) ?_; (· (first | rfl | assumption))
      refine RW.opd rfl rfl (LO.pick_t rfl rfl ?_ rfl) ?_; (· (first | rfl | assumption))
      refine RW.nil ?_
      repeat (refine W.seq ?_)
      refine W.cond_t rfl (by first | rfl | assumption) ?_
      repeat (refine W.seq ?_)
      refine W.regionD 34 43 (by decide) rfl mixed rfl ?_
      refine RW.opd rfl rfl (LO.load_agg rfl rfl rfl ty25 rfl (Tk.lit rfl)) ?_
      refine RW.opd rfl rfl (LO.move rfl rfl) ?_
      refine RW.opd rfl rfl (LO.quo rfl rfl rfl ?_) ?_; (· (first | omega | decide | assumption | fail | (simp; done) | (simp; omega)))
      refine RW.opd rfl rfl (LO.fieldAddr rfl rfl ty25 rfl (by decide)) ?_
      refine RW.opd rfl rfl (LO.load rfl rfl rfl rfl ty22 rfl) ?_
      refine RW.opd rfl rfl (LO.len_isl rfl rfl rfl ty22) ?_
      refine RW.opd rfl rfl (LO.call0 (fr := []) rfl rfl (hm3) fok21 (.cons rfl (.pure rfl) (.cons rfl (.pure rfl) .nil)) rfl) ?_
      refine RW.opd rfl rfl (LO.call0 (fr := []) rfl rfl (hfl1) fok36 (.cons rfl (.pure rfl) (.cons rfl (.pure rfl) .nil)) rfl) ?_
      refine RW.opn rfl rfl (LO.store rfl rfl rfl rfl rfl ty25 rfl (by decide) (Sp.lit rfl)) ?_
      refine RW.nil ⟨by kernel_rfl, ?_⟩
      intro yJ KJ hJ
      refine W.rename [(0, 8), (1, 15)] 2 (by decide) ?_ ?_ (hJ g (show Worse g f from hw))
      · (repeat' (first | exact all_mt | refine all_up ?_ ?_)) <;> first | exact .inl ⟨rfl, rfl⟩ | exact .inr ⟨rfl, fun _ h => by cases h⟩ | exact .inl ⟨rfl, by first | rfl | assumption | exact (intsC_pure _) | exact (boolsC_pure _)⟩
      · (repeat' (first | exact all_mt | refine all_up ?_ ?_)) <;> first | exact ⟨rfl, _, rfl, .inr ⟨rfl, rfl⟩⟩ | exact ⟨rfl, _, rfl, .inl rfl⟩ | exact ⟨rfl, _, rfl, .inr ⟨rfl, by first | rfl | assumption | exact (intsC_pure _) | exact (boolsC_pure _)⟩⟩
    case' inr.inl =>
      have g1 : decide ((f.links.length : Int) > 0) = true := decide_eq_true (by omega)
      obtain ⟨kn, hkn, hkl⟩ := emod_nat (IntKind.i64.wrap (which.tdiv 2)) (show 0 < (f.dead.length : Int) by omega)
      have hm3 := mod_any (IntKind.i64.wrap (which.tdiv 2)) (f.dead.length : Int) (by omega) (by omega)
      rw [hkn] at hm3
      have hw := kill_worse f (k := kn) (by omega)
      repeat (refine W.seq ?_)
      refine W.region 21 30 (by decide) rfl rfl ?_
      refine RW.opd rfl rfl (LO.fieldAddr rfl rfl ty25 rfl (by decide)) ?_
      refine RW.opd rfl rfl (LO.load rfl rfl rfl rfl ty22 rfl) ?_
      refine RW.opd rfl rfl (LO.len_isl rfl rfl rfl ty22) ?_
      refine RW.opd rfl rfl (LO.gtr rfl rfl rfl) ?_
      refine RW.opd rfl rfl (LO.move rfl rfl) ?_
      refine RW.gd rfl rfl rfl ?_ rfl (LO.move rfl rfl) ?_; (· (first | rfl | assumption))
      refine RW.gd rfl rfl rfl ?_ rfl (LO.and rfl rfl rfl) ?_; (· (first | rfl | assumption))
      refine RW.gd rfl rfl rfl ?_ rfl (LO.eql rfl rfl rfl) ?_; (· (first | rfl | assumption))
      refine RW.opd rfl rfl (LO.pick_t rfl rfl ?_ rfl) ?_; (· (first | rfl | assumption))
      refine RW.nil ?_
      repeat (refine W.seq ?_)
      refine W.cond_f rfl (by first | rfl | assumption) ?_
      repeat (refine W.seq ?_)
      refine W.region 47 52 (by decide) rfl rfl ?_
      refine RW.opd rfl rfl (LO.fieldAddr rfl rfl ty25 rfl (by decide)) ?_
      refine RW.opd rfl rfl (LO.load rfl rfl rfl rfl ty23 rfl) ?_
      refine RW.opd rfl rfl (LO.append_nil rfl rfl (SrcAV.isl rfl rfl ?_) ty23 ty23 ty4 (by decide) ?_ ?_ ?_) ?_; (· (first | rfl | assumption | simp [boolsC])); (· (first | omega | decide | assumption | simp [boolsC] | (simp; done) | (simp; omega))); (· (first | omega | decide | assumption | simp [boolsC] | (simp; done) | (simp; omega))); (· (first | decide | omega))
      refine RW.opd rfl rfl (LO.fieldAddr rfl rfl ty25 rfl (by decide)) ?_
      refine RW.opn rfl rfl (LO.store rfl rfl rfl rfl rfl ty23 rfl (by decide) (Sp.lit rfl)) ?_
      refine RW.nil ?_
      repeat (refine W.seq ?_)
      refine W.regionD 56 66 (by decide) rfl mixed rfl ?_
      refine RW.opd rfl rfl (LO.fieldAddr rfl rfl ty25 rfl (by decide)) ?_
      refine RW.opd rfl rfl (LO.load rfl rfl rfl rfl ty23 rfl) ?_
      refine RW.opd rfl rfl (LO.move rfl rfl) ?_
      refine RW.opd rfl rfl (LO.quo rfl rfl rfl ?_) ?_; (· (first | omega | decide | assumption | fail | (simp; done) | (simp; omega)))
      refine RW.opd rfl rfl (LO.fieldAddr rfl rfl ty25 rfl (by decide)) ?_
      refine RW.opd rfl rfl (LO.load rfl rfl rfl rfl ty23 rfl) ?_
      refine RW.opd rfl rfl (LO.len rfl rfl ty23) ?_
      refine RW.opd rfl rfl (LO.call0 (fr := []) rfl rfl (hm3) fok21 (.cons rfl (.pure rfl) (.cons rfl (.pure rfl) .nil)) rfl) ?_
      refine RW.opd rfl rfl (LO.indexAddr rfl rfl rfl rfl ty23 ty4 ?_) ?_; (· (first | omega | decide | assumption | fail | (simp; done) | (simp; omega)))
      refine RW.opn rfl rfl (LO.store rfl rfl rfl rfl rfl ty4 rfl (by decide) (bs_nat (by omega))) ?_
      refine RW.nil ⟨by kernel_rfl, ?_⟩
    case' inr.inr =>
      have g1 : decide ((f.links.length : Int) > 0) = false := decide_eq_false (by omega)
      obtain ⟨kn, hkn, hkl⟩ := emod_nat (IntKind.i64.wrap (which.tdiv 2)) (show 0 < (f.dead.length : Int) by omega)
      have hm3 := mod_any (IntKind.i64.wrap (which.tdiv 2)) (f.dead.length : Int) (by omega) (by omega)
      rw [hkn] at hm3
      have hw := kill_worse f (k := kn) (by omega)
      repeat (refine W.seq ?_)
      refine W.region 21 30 (by decide) rfl rfl ?_
      refine RW.opd rfl rfl (LO.fieldAddr rfl rfl ty25 rfl (by decide)) ?_
      refine RW.opd rfl rfl (LO.load rfl rfl rfl rfl ty22 rfl) ?_
      refine RW.opd rfl rfl (LO.len_isl rfl rfl rfl ty22) ?_
      refine RW.opd rfl rfl (LO.gtr rfl rfl rfl) ?_
      refine RW.opd rfl rfl (LO.move rfl rfl) ?_
      refine RW.sd rfl rfl rfl ?_ rfl ?_; (· (first | rfl | assumption))
      refine RW.sd rfl rfl rfl ?_ rfl ?_; (· (first | rfl | assumption))
      refine RW.sd rfl rfl rfl ?_ rfl ?_; (· (first | rfl | assumption))
      refine RW.opd rfl rfl (LO.pick_f rfl rfl ?_ rfl) ?_; (· (first | rfl | assumption))
      refine RW.nil ?_
      repeat (refine W.seq ?_)
      refine W.cond_f rfl (by first | rfl | assumption) ?_
      repeat (refine W.seq ?_)
      refine W.region 47 52 (by decide) rfl rfl ?_
      refine RW.opd rfl rfl (LO.fieldAddr rfl rfl ty25 rfl (by decide)) ?_
      refine RW.opd rfl rfl (LO.load rfl rfl rfl rfl ty23 rfl) ?_
      refine RW.opd rfl rfl (LO.append_nil rfl rfl (SrcAV.isl rfl rfl ?_) ty23 ty23 ty4 (by decide) ?_ ?_ ?_) ?_; (· (first | rfl | assumption | simp [boolsC])); (· (first | omega | decide | assumption | simp [boolsC] | (simp; done) | (simp; omega))); (· (first | omega | decide | assumption | simp [boolsC] | (simp; done) | (simp; omega))); (· (first | decide | omega))
      refine RW.opd rfl rfl (LO.fieldAddr rfl rfl ty25 rfl (by decide)) ?_
      refine RW.opn rfl rfl (LO.store rfl rfl rfl rfl rfl ty23 rfl (by decide) (Sp.lit rfl)) ?_
      refine RW.nil ?_
      repeat (refine W.seq ?_)
      refine W.regionD 56 66 (by decide) rfl mixed rfl ?_
      refine RW.opd rfl rfl (LO.fieldAddr rfl rfl ty25 rfl (by decide)) ?_
      refine RW.opd rfl rfl (LO.load rfl rfl rfl rfl ty23 rfl) ?_
      refine RW.opd rfl rfl (LO.move rfl rfl) ?_
      refine RW.opd rfl rfl (LO.quo rfl rfl rfl ?_) ?_; (· (first | omega | decide | assumption | fail | (simp; done) | (simp; omega)))
      refine RW.opd rfl rfl (LO.fieldAddr rfl rfl ty25 rfl (by decide)) ?_
      refine RW.opd rfl rfl (LO.load rfl rfl rfl rfl ty23 rfl) ?_
      refine RW.opd rfl rfl (LO.len rfl rfl ty23) ?_
      refine RW.opd rfl rfl (LO.call0 (fr := []) rfl rfl (hm3) fok21 (.cons rfl (.pure rfl) (.cons rfl (.pure rfl) .nil)) rfl) ?_
      refine RW.opd rfl rfl (LO.indexAddr rfl rfl rfl rfl ty23 ty4 ?_) ?_; (· (first | omega | decide | assumption | fail | (simp; done) | (simp; omega)))
      refine RW.opn rfl rfl (LO.store rfl rfl rfl rfl rfl ty4 rfl (by decide) (bs_nat (by omega))) ?_
      refine RW.nil ⟨by kernel_rfl, ?_⟩
    case inr.inl | inr.inr =>
      intro yJ KJ hJ
      refine W.frzc (q := 15) (j := 3) (r := 49) rfl rfl (by decide) rfl (bools_tk (by simp)) (boolsC_pure _) (Sp.lit rfl) ?_
      obtain ⟨g, hg⟩ : ∃ g, killF f kn = g := ⟨_, rfl⟩
      have hgc : [AV.base (.int .i64 f.sw), .isl (lnksC f.links) f.links.length, .isl (boolsC f.down) f.down.length, .isl (boolsC (f.dead.set kn true)) f.dead.length] = fabC g := by
        rw [← hg]; simp [fabC, killF]
      rw [hg] at hw
      refine W.rename [(0, 8), (1, 15)] 2 (T' := up (up (up (up mt 2 (some (.base (.int .i64 a)))) 3 (some (.base (.int .i64 b)))) 9 (some (.own 0 0))) 10 (some (.own 1 0))) (H' := up (up mt 0 (some (fabC f))) 1 (some [AV.base (.int .i64 f.sw), .isl (lnksC f.links) f.links.length, .isl (boolsC f.down) f.down.length, .isl (boolsC (f.dead.set kn true)) f.dead.length])) (by decide) ?_ ?_ ?_
      · (repeat' (first | exact all_mt | refine all_up ?_ ?_)) <;> first | exact .inl ⟨rfl, rfl⟩ | exact .inr ⟨rfl, fun _ h => by cases h⟩ | exact .inl ⟨rfl, by first | rfl | assumption | exact (intsC_pure _) | exact (boolsC_pure _)⟩
      · (repeat' (first | exact all_mt | refine all_up ?_ ?_)) <;> first | exact ⟨rfl, _, rfl, .inr ⟨rfl, rfl⟩⟩ | exact ⟨rfl, _, rfl, .inl rfl⟩ | exact ⟨rfl, _, rfl, .inr ⟨rfl, by first | rfl | assumption | exact (intsC_pure _) | exact (boolsC_pure _)⟩⟩
      rw [hgc]
      exact hJ g hw
  ·
    have hw : Worse g f := hIJ
    have hds := distances_isl f hf.fs
    have hdg := distances_isl g (hw.s hf.fs)
    rw [hw.dead] at hdg
    have hfs := flow_any f hf.fs hf.val
    have hfg := flow_any g (hw.s hf.fs) (hw.val hf.val)
    have hmono := flow_mono hf.lk (valid_links (hw.s hf.fs).n8 (hw.val hf.val)) hw.links hw.wk hw.al sn tn
    have hdm : ∀ x : Int, 0 ≤ gI (dist g tn) x → 0 ≤ gI (dist f tn) x ∧ gI (dist f tn) x ≤ gI (dist g tn) x := fun x h => dist_mono hw.edge (hw.al tn) h
    have hlf := dist_len f tn
    have hlg := dist_len g tn
    rw [hw.dead] at hlg
    clear hfl
    have hne : ((f.dead.length : Int) != f.sw) = false := by rw [hdd]; simp
    repeat (refine W.seq ?_)
    refine W.regionD 70 80 (by decide) rfl mixed rfl ?_
    refine RW.opd rfl rfl (LO.move rfl rfl) ?_
    refine RW.opd rfl rfl (LO.fieldAddr rfl rfl ty25 rfl (by decide)) ?_
    refine RW.opd rfl rfl (LO.load rfl rfl rfl rfl ty3 rfl) ?_
    refine RW.opd rfl rfl (LO.call0 (fr := []) rfl rfl (hm1) fok21 (.cons rfl (.pure rfl) (.cons rfl (.pure rfl) .nil)) rfl) ?_
    refine RW.opd rfl rfl (LO.move rfl rfl) ?_
    refine RW.opd rfl rfl (LO.fieldAddr rfl rfl ty25 rfl (by decide)) ?_
    refine RW.opd rfl rfl (LO.load rfl rfl rfl rfl ty3 rfl) ?_
    refine RW.opd rfl rfl (LO.call0 (fr := []) rfl rfl (hm2) fok21 (.cons rfl (.pure rfl) (.cons rfl (.pure rfl) .nil)) rfl) ?_
    refine RW.opd rfl rfl (LO.assign rfl rfl) ?_
    refine RW.opd rfl rfl (LO.assign rfl rfl) ?_
    refine RW.nil ⟨by kernel_rfl, ?_⟩
    repeat (refine W.seq ?_)
    refine W.regionD 84 92 (by decide) rfl mixed rfl ?_
    refine RW.opd rfl rfl (LO.load_agg rfl rfl rfl ty25 rfl (Tk.lit rfl)) ?_
    refine RW.opd rfl rfl (LO.move rfl rfl) ?_
    refine RW.opd rfl rfl (LO.call0 (fr := []) rfl rfl (hds _) fok35 (.cons rfl (.pure rfl) (.cons rfl (.pure rfl) .nil)) rfl) ?_
    refine RW.opd rfl rfl (LO.load_agg rfl rfl rfl ty25 rfl (Tk.lit rfl)) ?_
    refine RW.opd rfl rfl (LO.move rfl rfl) ?_
    refine RW.opd rfl rfl (LO.call0 (fr := []) rfl rfl (hdg _) fok35 (.cons rfl (.pure rfl) (.cons rfl (.pure rfl) .nil)) rfl) ?_
    refine RW.opd rfl rfl (LO.assign rfl rfl) ?_
    refine RW.opd rfl rfl (LO.assign rfl rfl) ?_
    refine RW.nil ⟨by kernel_rfl, ?_⟩
    repeat (refine W.seq ?_)
    refine W.region 96 108 (by decide) rfl rfl ?_
    refine RW.opd rfl rfl (LO.move rfl rfl) ?_
    refine RW.opd rfl rfl (LO.len_isl rfl rfl rfl ty26) ?_
    refine RW.opd rfl rfl (LO.fieldAddr rfl rfl ty25 rfl (by decide)) ?_
    refine RW.opd rfl rfl (LO.load rfl rfl rfl rfl ty3 rfl) ?_
    refine RW.opd rfl rfl (LO.neq rfl rfl rfl) ?_
    refine RW.opd rfl rfl (LO.move rfl rfl) ?_
    refine RW.gd rfl rfl rfl ?_ rfl (LO.move rfl rfl) ?_; (· (first | rfl | assumption))
    refine RW.gd rfl rfl rfl ?_ rfl (LO.len_isl rfl rfl rfl ty26) ?_; (· (first | rfl | assumption))
    refine RW.gd rfl rfl rfl ?_ rfl (LO.fieldAddr rfl rfl ty25 rfl (by decide)) ?_; (· (first | rfl | assumption))
    refine RW.gd rfl rfl rfl ?_ rfl (LO.load rfl rfl rfl rfl ty3 rfl) ?_; (· (first | rfl | assumption))
    refine RW.gd rfl rfl rfl ?_ rfl (LO.neq rfl rfl rfl) ?_; (· (first | rfl | assumption))
    refine RW.opd rfl rfl (LO.pick_f rfl rfl ?_ rfl) ?_; (· (first | rfl | assumption))
    refine RW.nil ?_
    repeat (refine W.seq ?_)
    refine W.cond_f rfl (by first | rfl | assumption) ?_
    refine W.skip ?_
    repeat (refine W.seq ?_)
    refine W.region 117 120 (by decide) rfl rfl ?_
    refine RW.opd rfl rfl (LO.move rfl rfl) ?_
    refine RW.opd rfl rfl (LO.len_isl rfl rfl rfl ty26) ?_
    refine RW.opd rfl rfl (LO.move rfl rfl) ?_
    refine RW.nil ?_
    repeat (refine W.seq ?_)
    refine W.block ?_
    refine W.rename [(0, 0), (1, 1)] 2 (T' := up (up (up (up (up (up (up (up mt 9 (some (.own 0 0))) 10 (some (.own 1 0))) 11 (some (.base (.int .i64 (sn : Int))))) 12 (some (.base (.int .i64 (tn : Int))))) 13 (some (.isl (intsC (dist f tn)) f.dead.length))) 14 (some (.isl (intsC (dist g tn)) f.dead.length))) 77 (some (.base (.int .i64 (f.dead.length : Int))))) 78 (some (.base (.int .i64 (0 : Int))))) (H' := up (up mt 0 (some (fabC f))) 1 (some (fabC g))) (by decide) ?_ ?_ ?_
    · (repeat' (first | exact all_mt | refine all_up ?_ ?_)) <;> first | exact .inl ⟨rfl, rfl⟩ | exact .inr ⟨rfl, fun _ h => by cases h⟩ | exact .inl ⟨rfl, by first | rfl | assumption | exact (intsC_pure _) | exact (boolsC_pure _)⟩
    · (repeat' (first | exact all_mt | refine all_up ?_ ?_)) <;> first | exact ⟨rfl, _, rfl, .inr ⟨rfl, rfl⟩⟩ | exact ⟨rfl, _, rfl, .inl rfl⟩ | exact ⟨rfl, _, rfl, .inr ⟨rfl, by first | rfl | assumption | exact (intsC_pure _) | exact (boolsC_pure _)⟩⟩
    refine W.loop_ind (α := Nat) (fun x => f.dead.length - x) 2 (fun x => up (up (up (up (up (up (up (up mt 9 (some (.own 0 0))) 10 (some (.own 1 0))) 11 (some (.base (.int .i64 (sn : Int))))) 12 (some (.base (.int .i64 (tn : Int))))) 13 (some (.isl (intsC (dist f tn)) f.dead.length))) 14 (some (.isl (intsC (dist g tn)) f.dead.length))) 77 (some (.base (.int .i64 (f.dead.length : Int))))) 78 (some (.base (.int .i64 (x : Int))))) (fun x => up (up mt 0 (some (fabC f))) 1 (some (fabC g))) (fun x => x ≤ f.dead.length) 0 (show 0 ≤ f.dead.length from Nat.zero_le _) ?_
    rintro i hIA ihA
    try (dsimp only at hIA)
    try dsimp only
    by_cases hc : i < f.dead.length
    · have g2 : decide ((i : Int) < (f.dead.length : Int)) = true := decide_eq_true (by omega)
      have hdm1 := hdm i
      repeat (refine W.seq ?_)
      refine W.region 124 125 (by decide) rfl rfl ?_
      refine RW.opd rfl rfl (LO.lss rfl rfl rfl) ?_
      refine RW.nil ?_
      repeat (refine W.seq ?_)
      refine W.cond_t rfl (by first | rfl | assumption) ?_
      refine W.skip ?_
      repeat (refine W.seq ?_)
      refine W.block ?_
      repeat (refine W.seq ?_)
      refine W.region 129 131 (by decide) rfl rfl ?_
      refine RW.opd rfl rfl (LO.move rfl rfl) ?_
      refine RW.opd rfl rfl (LO.assign rfl rfl) ?_
      refine RW.nil ?_
      by_cases h1 : gI (dist g tn) i ≥ 0
      · have k1 : decide (gI (dist g tn) i ≥ 0) = true := decide_eq_true h1
        have k2 : decide (gI (dist f tn) i < 0) = false := decide_eq_false (by omega)
        have k3 : decide (gI (dist f tn) i > gI (dist g tn) i) = false := decide_eq_false (by omega)
        repeat (refine W.seq ?_)
        refine W.regionD 135 158 (by decide) rfl mixed rfl ?_
        refine RW.opd rfl rfl (LO.move rfl rfl) ?_
        refine RW.opd rfl rfl (LO.move rfl rfl) ?_
        refine RW.opd rfl rfl (LO.indexAddr_isl rfl rfl rfl rfl rfl ty26 ty3 ?_) ?_; (· (first | omega | decide | assumption | fail | (simp; done) | (simp; omega)))
        refine RW.opd rfl rfl (LO.load_imm rfl rfl (ni_at1 (k := i) (by omega)) ty3 rfl) ?_
        refine RW.opd rfl rfl (LO.geq rfl rfl rfl) ?_
        refine RW.opd rfl rfl (LO.move rfl rfl) ?_
        refine RW.gd rfl rfl rfl ?_ rfl (LO.move rfl rfl) ?_; (· (first | rfl | assumption))
        refine RW.gd rfl rfl rfl ?_ rfl (LO.move rfl rfl) ?_; (· (first | rfl | assumption))
        refine RW.gd rfl rfl rfl ?_ rfl (LO.indexAddr_isl rfl rfl rfl rfl rfl ty26 ty3 ?_) ?_; (· (first | rfl | assumption)); (· (first | omega | decide | assumption | fail | (simp; done) | (simp; omega)))
        refine RW.gd rfl rfl rfl ?_ rfl (LO.load_imm rfl rfl (ni_at1 (k := i) (by omega)) ty3 rfl) ?_; (· (first | rfl | assumption))
        refine RW.gd rfl rfl rfl ?_ rfl (LO.lss rfl rfl rfl) ?_; (· (first | rfl | assumption))
        refine RW.gd rfl rfl rfl ?_ rfl (LO.move rfl rfl) ?_; (· (first | rfl | assumption))
        refine RW.gd rfl rfl rfl ?_ rfl (LO.move rfl rfl) ?_; (· (first | rfl | assumption))
        refine RW.gd rfl rfl rfl ?_ rfl (LO.move rfl rfl) ?_; (· (first | rfl | assumption))
        refine RW.gd rfl rfl rfl ?_ rfl (LO.indexAddr_isl rfl rfl rfl rfl rfl ty26 ty3 ?_) ?_; (· (first | rfl | assumption)); (· (first | omega | decide | assumption | fail | (simp; done) | (simp; omega)))
        refine RW.gd rfl rfl rfl ?_ rfl (LO.load_imm rfl rfl (ni_at1 (k := i) (by omega)) ty3 rfl) ?_; (· (first | rfl | assumption))
        refine RW.gd rfl rfl rfl ?_ rfl (LO.move rfl rfl) ?_; (· (first | rfl | assumption))
        refine RW.gd rfl rfl rfl ?_ rfl (LO.move rfl rfl) ?_; (· (first | rfl | assumption))
        refine RW.gd rfl rfl rfl ?_ rfl (LO.indexAddr_isl rfl rfl rfl rfl rfl ty26 ty3 ?_) ?_; (· (first | rfl | assumption)); (· (first | omega | decide | assumption | fail | (simp; done) | (simp; omega)))
        refine RW.gd rfl rfl rfl ?_ rfl (LO.load_imm rfl rfl (ni_at1 (k := i) (by omega)) ty3 rfl) ?_; (· (first | rfl | assumption))
        refine RW.gd rfl rfl rfl ?_ rfl (LO.gtr rfl rfl rfl) ?_; (· (first | rfl | assumption))
        refine RW.gd rfl rfl rfl ?_ rfl (LO.pick_f rfl rfl ?_ rfl) ?_; (· (first | rfl | assumption)); (· (first | rfl | assumption))
        refine RW.opd rfl rfl (LO.pick_t rfl rfl ?_ rfl) ?_; (· (first | rfl | assumption))
        refine RW.nil ⟨by kernel_rfl, ?_⟩
        repeat (refine W.seq ?_)
        refine W.cond_f rfl (by first | rfl | assumption) ?_
        refine W.skip ?_
        repeat (refine W.seq ?_)
        refine W.region 167 169 (by decide) rfl rfl ?_
        refine RW.opd rfl rfl (LO.add_in rfl rfl rfl ?_) ?_; (· (first | exact IntWalk.i64_in _ (by omega) | assumption))
        refine RW.opd rfl rfl (LO.move rfl rfl) ?_
        refine RW.nil ?_
        refine WL.rename [(0, 0), (1, 1)] 2 (by decide) ?_ ?_ (ihA (i + 1) (show f.dead.length - (i + 1) < f.dead.length - i from by omega) (show (i + 1) ≤ f.dead.length from by omega))
        · (repeat' (first | exact all_mt | refine all_up ?_ ?_)) <;> first | exact .inl ⟨rfl, rfl⟩ | exact .inr ⟨rfl, fun _ h => by cases h⟩ | exact .inl ⟨rfl, by first | rfl | assumption | exact (intsC_pure _) | exact (boolsC_pure _)⟩
        · (repeat' (first | exact all_mt | refine all_up ?_ ?_)) <;> first | exact ⟨rfl, _, rfl, .inr ⟨rfl, rfl⟩⟩ | exact ⟨rfl, _, rfl, .inl rfl⟩ | exact ⟨rfl, _, rfl, .inr ⟨rfl, by first | rfl | assumption | exact (intsC_pure _) | exact (boolsC_pure _)⟩⟩
      · have k1 : decide (gI (dist g tn) i ≥ 0) = false := decide_eq_false h1
        repeat (refine W.seq ?_)
        refine W.regionD 135 158 (by decide) rfl mixed rfl ?_
        refine RW.opd rfl rfl (LO.move rfl rfl) ?_
        refine RW.opd rfl rfl (LO.move rfl rfl) ?_
        refine RW.opd rfl rfl (LO.indexAddr_isl rfl rfl rfl rfl rfl ty26 ty3 ?_) ?_; (· (first | omega | decide | assumption | fail | (simp; done) | (simp; omega)))
        refine RW.opd rfl rfl (LO.load_imm rfl rfl (ni_at1 (k := i) (by omega)) ty3 rfl) ?_
        refine RW.opd rfl rfl (LO.geq rfl rfl rfl) ?_
        refine RW.opd rfl rfl (LO.move rfl rfl) ?_
        refine RW.sd rfl rfl rfl ?_ rfl ?_; (· (first | rfl | assumption))
        refine RW.sd rfl rfl rfl ?_ rfl ?_; (· (first | rfl | assumption))
        refine RW.sd rfl rfl rfl ?_ rfl ?_; (· (first | rfl | assumption))
        refine RW.sd rfl rfl rfl ?_ rfl ?_; (· (first | rfl | assumption))
        refine RW.sd rfl rfl rfl ?_ rfl ?_; (· (first | rfl | assumption))
        refine RW.sd rfl rfl rfl ?_ rfl ?_; (· (first | rfl | assumption))
        refine RW.ud rfl rfl rfl rfl ?_
        refine RW.ud rfl rfl rfl rfl ?_
        refine RW.ud rfl rfl rfl rfl ?_
        refine RW.ud rfl rfl rfl rfl ?_
        refine RW.ud rfl rfl rfl rfl ?_
        refine RW.ud rfl rfl rfl rfl ?_
        refine RW.ud rfl rfl rfl rfl ?_
        refine RW.ud rfl rfl rfl rfl ?_
        refine RW.ud rfl rfl rfl rfl ?_
        refine RW.sd rfl rfl rfl ?_ rfl ?_; (· (first | rfl | assumption))
        refine RW.opd rfl rfl (LO.pick_f rfl rfl ?_ rfl) ?_; (· (first | rfl | assumption))
        refine RW.nil ⟨by kernel_rfl, ?_⟩
        repeat (refine W.seq ?_)
        refine W.cond_f rfl (by first | rfl | assumption) ?_
        refine W.skip ?_
        repeat (refine W.seq ?_)
        refine W.region 167 169 (by decide) rfl rfl ?_
        refine RW.opd rfl rfl (LO.add_in rfl rfl rfl ?_) ?_; (· (first | exact IntWalk.i64_in _ (by omega) | assumption))
        refine RW.opd rfl rfl (LO.move rfl rfl) ?_
        refine RW.nil ?_
        refine WL.rename [(0, 0), (1, 1)] 2 (by decide) ?_ ?_ (ihA (i + 1) (show f.dead.length - (i + 1) < f.dead.length - i from by omega) (show (i + 1) ≤ f.dead.length from by omega))
        · (repeat' (first | exact all_mt | refine all_up ?_ ?_)) <;> first | exact .inl ⟨rfl, rfl⟩ | exact .inr ⟨rfl, fun _ h => by cases h⟩ | exact .inl ⟨rfl, by first | rfl | assumption | exact (intsC_pure _) | exact (boolsC_pure _)⟩
        · (repeat' (first | exact all_mt | refine all_up ?_ ?_)) <;> first | exact ⟨rfl, _, rfl, .inr ⟨rfl, rfl⟩⟩ | exact ⟨rfl, _, rfl, .inl rfl⟩ | exact ⟨rfl, _, rfl, .inr ⟨rfl, by first | rfl | assumption | exact (intsC_pure _) | exact (boolsC_pure _)⟩⟩
    · have g2 : decide ((i : Int) < (f.dead.length : Int)) = false := decide_eq_false (by omega)
      have hle : decide (flowF g sn tn ≤ flowF f sn tn) = true := decide_eq_true hmono
      repeat (refine W.seq ?_)
      refine W.region 124 125 (by decide) rfl rfl ?_
      refine RW.opd rfl rfl (LO.lss rfl rfl rfl) ?_
      refine RW.nil ?_
      repeat (refine W.seq ?_)
      refine W.cond_f rfl (by first | rfl | assumption) ?_
      refine W.exit ?_
      repeat (refine W.seq ?_)
      refine W.regionD 173 186 (by decide) rfl mixed rfl ?_
      refine RW.opd rfl rfl (LO.load_agg rfl rfl rfl ty25 rfl (Tk.lit rfl)) ?_
      refine RW.opd rfl rfl (LO.move rfl rfl) ?_
      refine RW.opd rfl rfl (LO.move rfl rfl) ?_
      refine RW.opd rfl rfl (LO.call0 (fr := []) rfl rfl (hfg _ _) fok24 (.cons rfl (.pure rfl) (.cons rfl (.pure rfl) (.cons rfl (.pure rfl) .nil))) rfl) ?_
      refine RW.opd rfl rfl (LO.load_agg rfl rfl rfl ty25 rfl (Tk.lit rfl)) ?_
      refine RW.opd rfl rfl (LO.move rfl rfl) ?_
      refine RW.opd rfl rfl (LO.move rfl rfl) ?_
      refine RW.opd rfl rfl (LO.call0 (fr := []) rfl rfl (hfs _ _) fok24 (.cons rfl (.pure rfl) (.cons rfl (.pure rfl) (.cons rfl (.pure rfl) .nil))) rfl) ?_
      refine RW.opd rfl rfl (LO.leq rfl rfl rfl) ?_
      refine RW.opd rfl rfl (LO.move rfl rfl) ?_
      refine RW.gd rfl rfl rfl ?_ rfl (LO.call0 (fr := []) rfl rfl (awake13_any) fok15 .nil rfl) ?_; (· (first | rfl | assumption))
      refine RW.opd rfl rfl (LO.pick_t rfl rfl ?_ rfl) ?_; (· (first | rfl | assumption))
      refine RW.opd rfl rfl (LO.assign rfl rfl) ?_
      refine RW.nil ⟨by kernel_rfl, ?_⟩
      repeat (refine W.seq ?_)
      refine W.ret ⟨.inl rfl, _, mt, RVs.cons (RV.tmp rfl) (RVs.nil), all_mt, ?_⟩
      exact ⟨rfl, rfl⟩
end Go.Proofs.Ythbdngfnbpkefaa
