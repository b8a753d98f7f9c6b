/-
  ForwardShortest returns true.
-/
import Derived.Test.YthbdngfnbpkefaaIc
import Derived.Test.YthbdngfnbpkefaaGf
namespace Go.Proofs.Ythbdngfnbpkefaa
open Go.RowKit

theorem other_cases {l : Lnk} {x : Int} (h : (otherF l x).2 = true) : (x = l.a ∧ (otherF l x).1 = l.b) ∨ (x ≠ l.a ∧ x = l.b ∧ (otherF l x).1 = l.a) := by
  unfold otherF at h ⊢
  by_cases h1 : x = l.a
  · rw [if_pos h1]; exact .inl ⟨h1, rfl⟩
  · rw [if_neg h1] at h ⊢
    by_cases h2 : x = l.b
    · rw [if_pos h2]; exact .inr ⟨h1, h2, rfl⟩
    · rw [if_neg h2] at h; cases h
/-- one step of a way -/
theorem way_step {f : Fab} (he : EndsIn f) {t h x : Int} {w : List Int} {j : Nat} (hw : w.drop j = wayL f (dist f t) h (gI (dist f t) x).toNat x) (hp : 0 < gI (dist f t) x) :
    ∃ (i : Nat) (y : Int) (hi : i < f.links.length), j < w.length ∧ gI w j = i ∧ worksB f i = true ∧ 0 ≤ y ∧ y < f.dead.length ∧ gI (dist f t) y = gI (dist f t) x - 1 ∧ w.drop (j + 1) = wayL f (dist f t) h (gI (dist f t) y).toNat y ∧
      ((x = f.links[i].a ∧ y = f.links[i].b) ∨ (x ≠ f.links[i].a ∧ x = f.links[i].b ∧ y = f.links[i].a)) := by
  obtain ⟨h0, hk, hd, hl⟩ := way_next (h := h) hp rfl
  obtain ⟨i, l, hi, hli, hpq, ho, hwk, _, h5⟩ := stepsK_mem (f := f) (d := dist f t) (at_ := x) (k := f.links.length) (p := (stepsK f (dist f t) x f.links.length)[pickN h (stepsK f (dist f t) x f.links.length).length]) (List.getElem_mem hk)
  have hs : gI (sndL (stepsK f (dist f t) x f.links.length)) (pickN h (stepsK f (dist f t) x f.links.length).length) = (otherF l x).1 := by
    rw [gI_at (by simpa [sndL] using hk)]
    simp [sndL, hpq]
  have hf1 : gI (fstL (stepsK f (dist f t) x f.links.length)) (pickN h (stepsK f (dist f t) x f.links.length).length) = (i : Int) := by
    rw [gI_at (by simpa [fstL] using hk)]
    simp [fstL, hpq]
  rw [hs, hf1] at hl
  rw [hl] at hw
  have hj : j < w.length := by
    rcases Nat.lt_or_ge j w.length with h | h
    · exact h
    · rw [List.drop_eq_nil_of_le h] at hw; cases hw
  have hdr := List.drop_eq_getElem_cons hj
  rw [hdr] at hw
  injection hw with hw1 hw2
  obtain ⟨y1, y2⟩ := he.other hli ho
  have e : f.links[i] = l := by
    have : f.links[i]? = some f.links[i] := by simp [hi]
    rw [this] at hli
    injection hli
  refine ⟨i, (otherF l x).1, hi, hj, by rw [gI_at hj, hw1], hwk, y1, y2, h5, hw2, ?_⟩
  rw [e]
  exact other_cases ho
theorem part_iff {f : Fab} {s t : Nat} : 0 ≤ gI (dist f t) s ↔ (partAt f s = partAt f t ∧ 0 ≤ partAt f s) := by
  constructor
  · intro h
    have h1 := partAt_same h
    refine ⟨h1.symm, ?_⟩
    rcases Int.lt_or_le (partAt f s) 0 with h2 | h2
    · rw [partAt_neg, dist_alive2 h] at h2; cases h2
    · exact h2
  · rintro ⟨h1, h2⟩
    exact partAt_join (by omega) h1.symm
set_option maxHeartbeats 1000000 in
theorem short_law (l : List Int) (frm to hash : Int) (hl : l.length ≤ 9223372036854775807) : AFn Try.prog 6 0 [.isl (intsC l) l.length, .base (.int .i64 frm), .base (.int .i64 to), .base (.int .i64 hash)] mt (.base (.bool true)) mt := by
  refine AFn.eq Try.func6 rfl rfl (Nat.le_of_ble_eq_true rfl) ?_
  have hnew := new_any l
  obtain ⟨v, H', hcall, f, a1, ⟨hf, hsw⟩, rfl, rfl⟩ := fabric_any l 0 2 (by decide) (by decide) hl
  have hs1 := hf.sw1
  have hs7 := hf.sw7
  have hdd := hf.dead
  have h24 := hf.nlinks
  have hend := hf.ends
  have hpX := partsX_any f hf.fs
  rw [parts_eq] at hpX
  have hwk := worksX_any f
  have hdX := distancesX_isl f hf.fs
  obtain ⟨s, hs, hsl⟩ := emod_nat frm (show 0 < f.sw by omega)
  obtain ⟨t, ht, htl⟩ := emod_nat to (show 0 < f.sw by omega)
  have hm1 := mod_any frm f.sw hs1 (by omega)
  have hm2 := mod_any to f.sw hs1 (by omega)
  rw [hs] at hm1
  rw [ht] at hm2
  have hm3 := mod_any hash 70000 (by decide) (by decide)
  generalize hash % 70000 = h at hm3
  have hwy := way_any f hf.fs hend s t h
  have hpl := parts_len f
  have hps : gI (partsF f) s = partAt f s := parts_at (by omega)
  have hpt : gI (partsF f) t = partAt f t := parts_at (by omega)
  have hpi := part_iff (f := f) (s := s) (t := t)
  rw [← hps, ← hpt] at hpi
  by_cases hD : 0 ≤ gI (dist f t) s
  · have hW : AFn Try.prog 26 0 [.agg (fabC f), .base (.int .i64 s), .base (.int .i64 t), .base (.int .i64 h)] mt (.tup [.isl (intsC (wayL f (dist f t) h (gI (dist f t) s).toNat s)) (wayL f (dist f t) h (gI (dist f t) s).toNat s).length, .base (.bool true)]) mt := by
      have := hwy
      unfold wayV wayF at this
      rw [if_pos hD] at this
      exact this
    clear hwy
    have hwl := wayL_len f (dist f t) h (gI (dist f t) s).toNat s
    have hw0 : (wayL f (dist f t) h (gI (dist f t) s).toNat s).drop 0 = wayL f (dist f t) h (gI (dist f t) s).toNat s := rfl
    generalize hww : wayL f (dist f t) h (gI (dist f t) s).toNat s = w at hW hwl
    have hw0 : w.drop 0 = wayL f (dist f t) h (gI (dist f t) s).toNat s := hww.symm
    have hwle : w.length ≤ 8 := by
      have := dist_lt f t s (by omega)
      have := hf.fs.n8
      omega
    have hik : Try.prog.underlying 3 = some (.int .i64) := lay_int ty3
    have hmk : MKey Try.prog 3 (kdOf Try.prog 3) := MKey.of (Go.Maps.int_keyed hik)
    obtain ⟨q1, q2⟩ := hpi.1 hD
    have k1 : (gI (partsF f) s == gI (partsF f) t) = true := by simpa using q1
    have k2 : decide (gI (partsF f) s ≥ 0) = true := decide_eq_true q2
    have k2b : (!(true == decide (gI (partsF f) s ≥ 0))) = false := by rw [k2]; rfl
    repeat (refine W.seq ?_)
    refine W.region 0 1 (by decide) rfl rfl ?_
    refine RW.opd rfl rfl (LO.assign rfl rfl) ?_
    refine RW.nil ?_
    repeat (refine W.seq ?_)
    refine W.region 5 10 (by decide) rfl rfl ?_
    refine RW.opd rfl rfl (LO.move rfl rfl) ?_
    refine RW.opd rfl rfl (LO.callN (fr := []) rfl rfl (hnew) fok16 (.cons rfl (.pure rfl) .nil) rfl (by decide)) ?_
    refine RW.opd rfl rfl (LO.call1 (fr := []) rfl rfl (hcall) fok17 (.own rfl rfl (.cons rfl (.pure rfl) .nil)) rfl rfl rfl (List.cons_ne_nil _ _) (by decide) rfl) ?_
    refine RW.opd rfl rfl (LO.alloc rfl ty25) ?_
    refine RW.opn rfl rfl (LO.store rfl rfl rfl rfl rfl ty25 rfl (by decide) (Sp.lit rfl)) ?_
    refine RW.nil ?_
    repeat (refine W.seq ?_)
    refine W.regionD 14 27 (by decide) rfl mixed rfl ?_
    refine RW.opd rfl rfl (LO.move rfl rfl) ?_
    refine RW.opd rfl rfl (LO.fieldAddr rfl rfl ty25 rfl (by decide)) ?_
    refine RW.opd rfl rfl (LO.load rfl rfl rfl rfl ty3 rfl) ?_
    refine RW.opd rfl rfl (LO.call0 (fr := []) rfl rfl (hm1) fok21 (.cons rfl (.pure rfl) (.cons rfl (.pure rfl) .nil)) rfl) ?_
    refine RW.opd rfl rfl (LO.move rfl rfl) ?_
    refine RW.opd rfl rfl (LO.fieldAddr rfl rfl ty25 rfl (by decide)) ?_
    refine RW.opd rfl rfl (LO.load rfl rfl rfl rfl ty3 rfl) ?_
    refine RW.opd rfl rfl (LO.call0 (fr := []) rfl rfl (hm2) fok21 (.cons rfl (.pure rfl) (.cons rfl (.pure rfl) .nil)) rfl) ?_
    refine RW.opd rfl rfl (LO.move rfl rfl) ?_
    refine RW.opd rfl rfl (LO.call0 (fr := []) rfl rfl (hm3) fok21 (.cons rfl (.pure rfl) (.cons rfl (.pure rfl) .nil)) rfl) ?_
    refine RW.opd rfl rfl (LO.assign rfl rfl) ?_
    refine RW.opd rfl rfl (LO.assign rfl rfl) ?_
    refine RW.opd rfl rfl (LO.assign rfl rfl) ?_
    refine RW.nil ⟨by kernel_rfl, ?_⟩
    repeat (refine W.seq ?_)
    refine W.region 31 41 (by decide) rfl rfl ?_
    refine RW.opd rfl rfl (LO.load_agg rfl rfl rfl ty25 rfl (Tk.lit rfl)) ?_
    refine RW.opd rfl rfl (LO.move rfl rfl) ?_
    refine RW.opd rfl rfl (LO.move rfl rfl) ?_
    refine RW.opd rfl rfl (LO.move rfl rfl) ?_
    refine RW.opd rfl rfl (LO.call0 (fr := []) rfl rfl (hW) fok26 (.cons rfl (.pure rfl) (.cons rfl (.pure rfl) (.cons rfl (.pure rfl) (.cons rfl (.pure rfl) .nil)))) rfl) ?_
    refine RW.opd rfl rfl (LO.move rfl rfl) ?_
    refine RW.opd rfl rfl (LO.extract rfl rfl rfl) ?_
    refine RW.opd rfl rfl (LO.extract rfl rfl rfl) ?_
    refine RW.opd rfl rfl (LO.assign rfl rfl) ?_
    refine RW.opd rfl rfl (LO.assign rfl rfl) ?_
    refine RW.nil ?_
    repeat (refine W.seq ?_)
    refine W.region 45 48 (by decide) rfl rfl ?_
    refine RW.opd rfl rfl (LO.load_agg rfl rfl rfl ty25 rfl (Tk.lit rfl)) ?_
    refine RW.opd rfl rfl (LO.call0 (fr := []) rfl rfl (hpX) fok33 (.cons rfl (.pure rfl) .nil) rfl) ?_
    refine RW.opd rfl rfl (LO.assign rfl rfl) ?_
    refine RW.nil ?_
    repeat (refine W.seq ?_)
    refine W.regionD 52 70 (by decide) rfl mixed rfl ?_
    refine RW.opd rfl rfl (LO.move rfl rfl) ?_
    refine RW.opd rfl rfl (LO.move rfl rfl) ?_
    refine RW.opd rfl rfl (LO.move rfl rfl) ?_
    refine RW.opd rfl rfl (LO.indexAddr_isl rfl rfl rfl rfl rfl ty26 ty3 ?_) ?_; (· (first | omega | decide | assumption | fail | (simp; done) | (simp; omega)))
    refine RW.opd rfl rfl (LO.load_imm rfl rfl (ni_at1 (k := s) (by omega)) ty3 rfl) ?_
    refine RW.opd rfl rfl (LO.move rfl rfl) ?_
    refine RW.opd rfl rfl (LO.move rfl rfl) ?_
    refine RW.opd rfl rfl (LO.indexAddr_isl rfl rfl rfl rfl rfl ty26 ty3 ?_) ?_; (· (first | omega | decide | assumption | fail | (simp; done) | (simp; omega)))
    refine RW.opd rfl rfl (LO.load_imm rfl rfl (ni_at1 (k := t) (by omega)) ty3 rfl) ?_
    refine RW.opd rfl rfl (LO.eql rfl rfl rfl) ?_
    refine RW.opd rfl rfl (LO.move rfl rfl) ?_
    refine RW.gd rfl rfl rfl ?_ rfl (LO.move rfl rfl) ?_; (· (first | rfl | assumption))
    refine RW.gd rfl rfl rfl ?_ rfl (LO.move rfl rfl) ?_; (· (first | rfl | assumption))
    refine RW.gd rfl rfl rfl ?_ rfl (LO.indexAddr_isl rfl rfl rfl rfl rfl ty26 ty3 ?_) ?_; (· (first | rfl | assumption)); (· (first | omega | decide | assumption | fail | (simp; done) | (simp; omega)))
    refine RW.gd rfl rfl rfl ?_ rfl (LO.load_imm rfl rfl (ni_at1 (k := s) (by omega)) ty3 rfl) ?_; (· (first | rfl | assumption))
    refine RW.gd rfl rfl rfl ?_ rfl (LO.geq rfl rfl rfl) ?_; (· (first | rfl | assumption))
    refine RW.opd rfl rfl (LO.pick_t rfl rfl ?_ rfl) ?_; (· (first | rfl | assumption))
    refine RW.opd rfl rfl (LO.neq_bool rfl rfl rfl ty4) ?_
    refine RW.nil ⟨by kernel_rfl, ?_⟩
    repeat (refine W.seq ?_)
    refine W.cond_f rfl (by first | rfl | assumption) ?_
    refine W.skip ?_
    repeat (refine W.seq ?_)
    refine W.region 79 81 (by decide) rfl rfl ?_
    refine RW.opd rfl rfl (LO.move rfl rfl) ?_
    refine RW.opd rfl rfl (LO.not rfl rfl) ?_
    refine RW.nil ?_
    repeat (refine W.seq ?_)
    refine W.cond_f rfl (by first | rfl | assumption) ?_
    refine W.skip ?_
    repeat (refine W.seq ?_)
    refine W.region 96 101 (by decide) rfl rfl ?_
    refine RW.opd rfl rfl (LO.makeMap (kdOf Try.prog 3) rfl) ?_
    refine RW.opd rfl rfl (LO.move rfl rfl) ?_
    refine RW.opn rfl rfl (LO.insert rfl rfl rfl (KV.base _) rfl rfl ty52 hmk (kd_i64 hik (by omega) (by omega)) (m' := setM [(s : Int)]) (by exact setM_at [] _ _) (fun y hy hn => by have := setM_else hik [] (s : Int) y hy hn; rw [setM_nil] at this; exact this)) ?_
    refine RW.opd rfl rfl (LO.move rfl rfl) ?_
    refine RW.opd rfl rfl (LO.assign rfl rfl) ?_
    refine RW.nil ?_
    repeat (refine W.seq ?_)
    refine W.region 105 107 (by decide) rfl rfl ?_
    refine RW.opd rfl rfl (LO.move rfl rfl) ?_
    refine RW.opd rfl rfl (LO.assign rfl rfl) ?_
    refine RW.nil ?_
    repeat (refine W.seq ?_)
    refine W.region 111 114 (by decide) rfl rfl ?_
    refine RW.opd rfl rfl (LO.move rfl rfl) ?_
    refine RW.opd rfl rfl (LO.len_isl rfl rfl rfl ty26) ?_
    refine RW.opd rfl rfl (LO.move rfl rfl) ?_
    refine RW.nil ?_
    repeat (refine W.seq ?_)
    refine W.block ?_
    refine W.rename [(0, 8), (1, 96)] 2 (T' := up (up (up (up (up (up (up (up (up mt 9 (some (.own 0 0))) 10 (some (.base (.int .i64 (s : Int))))) 11 (some (.base (.int .i64 (t : Int))))) 13 (some (.isl (intsC w) w.length))) 16 (some (.mref 1))) 17 (some (.base (.int .i64 ((s : Int)))))) 73 (some (.isl (intsC w) w.length))) 74 (some (.base (.int .i64 (w.length : Int))))) 75 (some (.base (.int .i64 (0 : Int))))) (H' := up (up mt 0 (some (fabC f))) 1 (some ([.mp (kdOf Try.prog 3) (setM [(s : Int)])]))) (by decide) ?_ ?_ ?_
    · (repeat' (first | exact all_mt | refine all_up ?_ ?_)) <;> first | exact .inl ⟨rfl, rfl⟩ | exact .inr ⟨rfl, fun _ h => by cases h⟩ | exact .inl ⟨rfl, by first | rfl | assumption | exact (intsC_pure _)⟩
    · (repeat' (first | exact all_mt | refine all_up ?_ ?_)) <;> first | exact ⟨rfl, _, rfl, .inr ⟨rfl, rfl⟩⟩ | exact ⟨rfl, _, rfl, .inl rfl⟩ | exact ⟨rfl, _, rfl, .inr ⟨rfl, by first | rfl | assumption | exact (intsC_pure _)⟩⟩
    refine W.loop_ind (α := Nat × Int × List Int) (fun x => w.length - x.1) 2 (fun x => up (up (up (up (up (up (up (up (up mt 9 (some (.own 0 0))) 10 (some (.base (.int .i64 (s : Int))))) 11 (some (.base (.int .i64 (t : Int))))) 13 (some (.isl (intsC w) w.length))) 16 (some (.mref 1))) 17 (some (.base (.int .i64 x.2.1)))) 73 (some (.isl (intsC w) w.length))) 74 (some (.base (.int .i64 (w.length : Int))))) 75 (some (.base (.int .i64 (x.1 : Int))))) (fun x => up (up mt 0 (some (fabC f))) 1 (some ([.mp (kdOf Try.prog 3) (setM x.2.2)]))) (fun x => 0 ≤ gI (dist f t) x.2.1 ∧ w.drop x.1 = wayL f (dist f t) h (gI (dist f t) x.2.1).toNat x.2.1 ∧ (gI (dist f t) x.2.1).toNat + x.1 = w.length ∧ ∀ y, y ∈ x.2.2 → gI (dist f t) x.2.1 ≤ gI (dist f t) y) (0, ((s : Int)), [(s : Int)]) (show 0 ≤ gI (dist f t) ((s : Int)) ∧ w.drop 0 = wayL f (dist f t) h (gI (dist f t) ((s : Int))).toNat ((s : Int)) ∧ (gI (dist f t) ((s : Int))).toNat + 0 = w.length ∧ ∀ y, y ∈ [(s : Int)] → gI (dist f t) ((s : Int)) ≤ gI (dist f t) y from ⟨hD, hw0, by rw [hwl]; omega, fun y hy => by simp at hy; rw [hy]; omega⟩) ?_
    rintro ⟨j, x, S⟩ hIA ihA
    try (dsimp only at hIA)
    try dsimp only
    obtain ⟨i1, i2, i3, i4⟩ := hIA
    by_cases hc : j < w.length
    · have g1 : decide ((j : Int) < (w.length : Int)) = true := decide_eq_true (by omega)
      obtain ⟨i, y, hil, _, hij, hwi, y1, y2, hyd, hdr, hab⟩ := way_step hend i2 (by omega)
      have hat : (intsC w)[j * 1]? = some (.base (.int .i64 (i : Int))) := by rw [ni_at1 hc, hij]
      have hny : decide (y ∈ S) = false := decide_eq_false fun hy => by have := i4 y hy; omega
      have hlk := setM_get S .i64 y
      rw [hny] at hlk
      have gw : (!worksB f (i : Int)) = false := by rw [hwi]; rfl
      repeat (refine W.seq ?_)
      refine W.region 118 119 (by decide) rfl rfl ?_
      refine RW.opd rfl rfl (LO.lss rfl rfl rfl) ?_
      refine RW.nil ?_
      repeat (refine W.seq ?_)
      refine W.cond_t rfl (by first | rfl | assumption) ?_
      refine W.skip ?_
      repeat (refine W.seq ?_)
      refine W.block ?_
      repeat (refine W.seq ?_)
      refine W.region 123 126 (by decide) rfl rfl ?_
      refine RW.opd rfl rfl (LO.indexAddr_isl rfl rfl rfl rfl rfl ty26 ty3 ?_) ?_; (· (first | omega | decide | assumption | fail | (simp; done) | (simp; omega)))
      refine RW.opd rfl rfl (LO.load_imm rfl rfl hat ty3 rfl) ?_
      refine RW.opd rfl rfl (LO.assign rfl rfl) ?_
      refine RW.nil ?_
      repeat (refine W.seq ?_)
      refine W.region 130 134 (by decide) rfl rfl ?_
      refine RW.opd rfl rfl (LO.load_agg rfl rfl rfl ty25 rfl (Tk.lit rfl)) ?_
      refine RW.opd rfl rfl (LO.move rfl rfl) ?_
      refine RW.opd rfl rfl (LO.call0 (fr := []) rfl rfl (hwk _) fok23 (.cons rfl (.pure rfl) (.cons rfl (.pure rfl) .nil)) rfl) ?_
      refine RW.opd rfl rfl (LO.not rfl rfl) ?_
      refine RW.nil ?_
      repeat (refine W.seq ?_)
      refine W.cond_f rfl (by first | rfl | assumption) ?_
      refine W.skip ?_
      repeat (refine W.seq ?_)
      refine W.region 143 144 (by decide) rfl rfl ?_
      refine RW.opd rfl rfl (LO.move rfl rfl) ?_
      refine RW.nil ?_
      repeat (refine W.seq ?_)
      refine W.block ?_
      repeat (refine W.seq ?_)
      refine W.region 148 156 (by decide) rfl rfl ?_
      refine RW.opd rfl rfl (LO.fieldAddr rfl rfl ty25 rfl (by decide)) ?_
      refine RW.opd rfl rfl (LO.load rfl rfl rfl rfl ty22 rfl) ?_
      refine RW.opd rfl rfl (LO.move rfl rfl) ?_
      refine RW.opd rfl rfl (LO.indexAddr_isl rfl rfl rfl rfl rfl ty22 ty54 ?_) ?_; (· (first | omega | decide | assumption | fail | (simp; done) | (simp; omega)))
      refine RW.opd rfl rfl (LO.fieldAddr_imm rfl rfl ty54 rfl (by decide)) ?_
      refine RW.opd rfl rfl (LO.load_imm rfl rfl (lnksC_at hil).1 ty3 rfl) ?_
      refine RW.opd rfl rfl (LO.eql rfl rfl rfl) ?_
      refine RW.opd rfl rfl (LO.assign rfl rfl) ?_
      refine RW.nil ?_
      rcases hab with ⟨e1, e2⟩ | ⟨e1, e2, e3⟩
      · have k3 : (x == f.links[i].a) = true := by simpa using e1
        subst e2
        repeat (refine W.seq ?_)
        refine W.cond_t rfl (by first | rfl | assumption) ?_
        repeat (refine W.seq ?_)
        refine W.region 160 167 (by decide) rfl rfl ?_
        refine RW.opd rfl rfl (LO.fieldAddr rfl rfl ty25 rfl (by decide)) ?_
        refine RW.opd rfl rfl (LO.load rfl rfl rfl rfl ty22 rfl) ?_
        refine RW.opd rfl rfl (LO.move rfl rfl) ?_
        refine RW.opd rfl rfl (LO.indexAddr_isl rfl rfl rfl rfl rfl ty22 ty54 ?_) ?_; (· (first | omega | decide | assumption | fail | (simp; done) | (simp; omega)))
        refine RW.opd rfl rfl (LO.fieldAddr_imm rfl rfl ty54 rfl (by decide)) ?_
        refine RW.opd rfl rfl (LO.load_imm rfl rfl (lnksC_at hil).2.1 ty3 rfl) ?_
        refine RW.opd rfl rfl (LO.assign rfl rfl) ?_
        refine RW.nil ?_
        repeat (refine W.seq ?_)
        refine W.region 199 202 (by decide) rfl rfl ?_
        refine RW.opd rfl rfl (LO.move rfl rfl) ?_
        refine RW.opd rfl rfl (LO.move rfl rfl) ?_
        refine RW.opd rfl rfl (LO.lookup rfl rfl rfl (KV.base _) rfl ty52 hmk (kd_i64 hik (by omega) (by omega)) (zero_of (by kernel_rfl)) hlk) ?_
        refine RW.nil ?_
        repeat (refine W.seq ?_)
        refine W.cond_f rfl (by first | rfl | assumption) ?_
        refine W.skip ?_
        repeat (refine W.seq ?_)
        refine W.region 211 214 (by decide) rfl rfl ?_
        refine RW.opd rfl rfl (LO.move rfl rfl) ?_
        refine RW.opd rfl rfl (LO.move rfl rfl) ?_
        refine RW.opn rfl rfl (LO.mapUpdate rfl rfl rfl (KV.base _) rfl rfl ty52 hmk (kd_i64 hik (by omega) (by omega)) (m' := setM (S ++ [f.links[i].b])) (setM_at _ _ _) (setM_else hik _ _)) ?_
        refine RW.nil ?_
        repeat (refine W.seq ?_)
        refine W.region 218 220 (by decide) rfl rfl ?_
        refine RW.opd rfl rfl (LO.add_in rfl rfl rfl ?_) ?_; (· (first | exact IntWalk.i64_in _ (by omega) | assumption))
        refine RW.opd rfl rfl (LO.move rfl rfl) ?_
        refine RW.nil ?_
        refine WL.rename [(0, 0), (1, 1)] 2 (by decide) ?_ ?_ (ihA ((j + 1), (f.links[i].b), (S ++ [f.links[i].b])) (show w.length - (j + 1) < w.length - j from by omega) (show 0 ≤ gI (dist f t) (f.links[i].b) ∧ w.drop (j + 1) = wayL f (dist f t) h (gI (dist f t) (f.links[i].b)).toNat (f.links[i].b) ∧ (gI (dist f t) (f.links[i].b)).toNat + (j + 1) = w.length ∧ ∀ y, y ∈ (S ++ [f.links[i].b]) → gI (dist f t) (f.links[i].b) ≤ gI (dist f t) y from ⟨by omega, hdr, by omega, fun y hy => by rcases List.mem_append.1 hy with hy | hy; (have := i4 y hy; omega); (simp at hy; rw [hy]; omega)⟩))
        · (repeat' (first | exact all_mt | refine all_up ?_ ?_)) <;> first | exact .inl ⟨rfl, rfl⟩ | exact .inr ⟨rfl, fun _ h => by cases h⟩ | exact .inl ⟨rfl, by first | rfl | assumption | exact (intsC_pure _)⟩
        · (repeat' (first | exact all_mt | refine all_up ?_ ?_)) <;> first | exact ⟨rfl, _, rfl, .inr ⟨rfl, rfl⟩⟩ | exact ⟨rfl, _, rfl, .inl rfl⟩ | exact ⟨rfl, _, rfl, .inr ⟨rfl, by first | rfl | assumption | exact (intsC_pure _)⟩⟩
      · have k3 : (x == f.links[i].a) = false := by simpa using e1
        have k4 : (x == f.links[i].b) = true := by simpa using e2
        subst e3
        repeat (refine W.seq ?_)
        refine W.cond_f rfl (by first | rfl | assumption) ?_
        repeat (refine W.seq ?_)
        refine W.region 171 179 (by decide) rfl rfl ?_
        refine RW.opd rfl rfl (LO.fieldAddr rfl rfl ty25 rfl (by decide)) ?_
        refine RW.opd rfl rfl (LO.load rfl rfl rfl rfl ty22 rfl) ?_
        refine RW.opd rfl rfl (LO.move rfl rfl) ?_
        refine RW.opd rfl rfl (LO.indexAddr_isl rfl rfl rfl rfl rfl ty22 ty54 ?_) ?_; (· (first | omega | decide | assumption | fail | (simp; done) | (simp; omega)))
        refine RW.opd rfl rfl (LO.fieldAddr_imm rfl rfl ty54 rfl (by decide)) ?_
        refine RW.opd rfl rfl (LO.load_imm rfl rfl (lnksC_at hil).2.1 ty3 rfl) ?_
        refine RW.opd rfl rfl (LO.eql rfl rfl rfl) ?_
        refine RW.opd rfl rfl (LO.assign rfl rfl) ?_
        refine RW.nil ?_
        repeat (refine W.seq ?_)
        refine W.cond_t rfl (by first | rfl | assumption) ?_
        repeat (refine W.seq ?_)
        refine W.region 183 190 (by decide) rfl rfl ?_
        refine RW.opd rfl rfl (LO.fieldAddr rfl rfl ty25 rfl (by decide)) ?_
        refine RW.opd rfl rfl (LO.load rfl rfl rfl rfl ty22 rfl) ?_
        refine RW.opd rfl rfl (LO.move rfl rfl) ?_
        refine RW.opd rfl rfl (LO.indexAddr_isl rfl rfl rfl rfl rfl ty22 ty54 ?_) ?_; (· (first | omega | decide | assumption | fail | (simp; done) | (simp; omega)))
        refine RW.opd rfl rfl (LO.fieldAddr_imm rfl rfl ty54 rfl (by decide)) ?_
        refine RW.opd rfl rfl (LO.load_imm rfl rfl (lnksC_at hil).1 ty3 rfl) ?_
        refine RW.opd rfl rfl (LO.assign rfl rfl) ?_
        refine RW.nil ?_
        repeat (refine W.seq ?_)
        refine W.region 199 202 (by decide) rfl rfl ?_
        refine RW.opd rfl rfl (LO.move rfl rfl) ?_
        refine RW.opd rfl rfl (LO.move rfl rfl) ?_
        refine RW.opd rfl rfl (LO.lookup rfl rfl rfl (KV.base _) rfl ty52 hmk (kd_i64 hik (by omega) (by omega)) (zero_of (by kernel_rfl)) hlk) ?_
        refine RW.nil ?_
        repeat (refine W.seq ?_)
        refine W.cond_f rfl (by first | rfl | assumption) ?_
        refine W.skip ?_
        repeat (refine W.seq ?_)
        refine W.region 211 214 (by decide) rfl rfl ?_
        refine RW.opd rfl rfl (LO.move rfl rfl) ?_
        refine RW.opd rfl rfl (LO.move rfl rfl) ?_
        refine RW.opn rfl rfl (LO.mapUpdate rfl rfl rfl (KV.base _) rfl rfl ty52 hmk (kd_i64 hik (by omega) (by omega)) (m' := setM (S ++ [f.links[i].a])) (setM_at _ _ _) (setM_else hik _ _)) ?_
        refine RW.nil ?_
        repeat (refine W.seq ?_)
        refine W.region 218 220 (by decide) rfl rfl ?_
        refine RW.opd rfl rfl (LO.add_in rfl rfl rfl ?_) ?_; (· (first | exact IntWalk.i64_in _ (by omega) | assumption))
        refine RW.opd rfl rfl (LO.move rfl rfl) ?_
        refine RW.nil ?_
        refine WL.rename [(0, 0), (1, 1)] 2 (by decide) ?_ ?_ (ihA ((j + 1), (f.links[i].a), (S ++ [f.links[i].a])) (show w.length - (j + 1) < w.length - j from by omega) (show 0 ≤ gI (dist f t) (f.links[i].a) ∧ w.drop (j + 1) = wayL f (dist f t) h (gI (dist f t) (f.links[i].a)).toNat (f.links[i].a) ∧ (gI (dist f t) (f.links[i].a)).toNat + (j + 1) = w.length ∧ ∀ y, y ∈ (S ++ [f.links[i].a]) → gI (dist f t) (f.links[i].a) ≤ gI (dist f t) y from ⟨by omega, hdr, by omega, fun y hy => by rcases List.mem_append.1 hy with hy | hy; (have := i4 y hy; omega); (simp at hy; rw [hy]; omega)⟩))
        · (repeat' (first | exact all_mt | refine all_up ?_ ?_)) <;> first | exact .inl ⟨rfl, rfl⟩ | exact .inr ⟨rfl, fun _ h => by cases h⟩ | exact .inl ⟨rfl, by first | rfl | assumption | exact (intsC_pure _)⟩
        · (repeat' (first | exact all_mt | refine all_up ?_ ?_)) <;> first | exact ⟨rfl, _, rfl, .inr ⟨rfl, rfl⟩⟩ | exact ⟨rfl, _, rfl, .inl rfl⟩ | exact ⟨rfl, _, rfl, .inr ⟨rfl, by first | rfl | assumption | exact (intsC_pure _)⟩⟩
    · have g1 : decide ((j : Int) < (w.length : Int)) = false := decide_eq_false (by omega)
      have hxt : x = t := (dist_ok (dist_alive hD)).zero x (by omega)
      subst hxt
      have k3 : ((t : Int) == (t : Int)) = true := by simp
      have k4 : ((w.length : Int) == gI (dist f t) s) = true := by simp; omega
      have hdl := dist_len f t
      repeat (refine W.seq ?_)
      refine W.region 118 119 (by decide) rfl rfl ?_
      refine RW.opd rfl rfl (LO.lss rfl rfl rfl) ?_
      refine RW.nil ?_
      repeat (refine W.seq ?_)
      refine W.cond_f rfl (by first | rfl | assumption) ?_
      refine W.exit ?_
      repeat (refine W.seq ?_)
      refine W.region 224 242 (by decide) rfl rfl ?_
      refine RW.opd rfl rfl (LO.move rfl rfl) ?_
      refine RW.opd rfl rfl (LO.move rfl rfl) ?_
      refine RW.opd rfl rfl (LO.eql rfl rfl rfl) ?_
      refine RW.opd rfl rfl (LO.move rfl rfl) ?_
      refine RW.gd rfl rfl rfl ?_ rfl (LO.move rfl rfl) ?_; (· (first | rfl | assumption))
      refine RW.gd rfl rfl rfl ?_ rfl (LO.len_isl rfl rfl rfl ty26) ?_; (· (first | rfl | assumption))
      refine RW.gd rfl rfl rfl ?_ rfl (LO.load_agg rfl rfl rfl ty25 rfl (Tk.lit rfl)) ?_; (· (first | rfl | assumption))
      refine RW.gd rfl rfl rfl ?_ rfl (LO.move rfl rfl) ?_; (· (first | rfl | assumption))
      refine RW.gd rfl rfl rfl ?_ rfl (LO.call0 (fr := []) rfl rfl (hdX _) fok34 (.cons rfl (.pure rfl) (.cons rfl (.pure rfl) .nil)) rfl) ?_; (· (first | rfl | assumption))
      refine RW.gd rfl rfl rfl ?_ rfl (LO.move rfl rfl) ?_; (· (first | rfl | assumption))
      refine RW.gd rfl rfl rfl ?_ rfl (LO.indexAddr_isl rfl rfl rfl rfl rfl ty26 ty3 ?_) ?_; (· (first | rfl | assumption)); (· (first | omega | decide | assumption | fail | (simp; done) | (simp; omega)))
      refine RW.gd rfl rfl rfl ?_ rfl (LO.load_imm rfl rfl (ni_at1 (k := s) (by omega)) ty3 rfl) ?_; (· (first | rfl | assumption))
      refine RW.gd rfl rfl rfl ?_ rfl (LO.eql rfl rfl rfl) ?_; (· (first | rfl | assumption))
      refine RW.opd rfl rfl (LO.pick_t rfl rfl ?_ rfl) ?_; (· (first | rfl | assumption))
      refine RW.opd rfl rfl (LO.move rfl rfl) ?_
      refine RW.gd rfl rfl rfl ?_ rfl (LO.call0 (fr := []) rfl rfl (awake14_any) fok32 .nil rfl) ?_; (· (first | rfl | assumption))
      refine RW.opd rfl rfl (LO.pick_t rfl rfl ?_ rfl) ?_; (· (first | rfl | assumption))
      refine RW.opd rfl rfl (LO.assign rfl rfl) ?_
      refine RW.nil ?_
      repeat (refine W.seq ?_)
      refine W.ret ⟨.inl rfl, _, mt, RVs.cons (RV.tmp rfl) (RVs.nil), all_mt, ?_⟩
      exact ⟨rfl, rfl⟩
  · have hW : AFn Try.prog 26 0 [.agg (fabC f), .base (.int .i64 s), .base (.int .i64 t), .base (.int .i64 h)] mt (.tup [.isl (intsC []) 0, .base (.bool false)]) mt := by
      have := hwy
      unfold wayV wayF at this
      rw [if_neg hD] at this
      exact this
    clear hwy
    have hcase : gI (partsF f) s ≠ gI (partsF f) t ∨ (gI (partsF f) s = gI (partsF f) t ∧ ¬ 0 ≤ gI (partsF f) s) := by
      by_cases h1 : gI (partsF f) s = gI (partsF f) t
      · exact .inr ⟨h1, fun h2 => hD (hpi.2 ⟨h1, h2⟩)⟩
      · exact .inl h1
    rcases hcase with h1 | ⟨h1, h2⟩
    case' inl =>
      have k1 : (gI (partsF f) s == gI (partsF f) t) = false := by simpa using h1
    case' inr =>
      have k1 : (gI (partsF f) s == gI (partsF f) t) = true := by simpa using h1
      have k2 : decide (gI (partsF f) s ≥ 0) = false := decide_eq_false h2
      have k3 : (!(false == decide (gI (partsF f) s ≥ 0))) = false := by rw [k2]; rfl
    all_goals
      repeat (refine W.seq ?_)
      refine W.region 0 1 (by decide) rfl rfl ?_
      refine RW.opd rfl rfl (LO.assign rfl rfl) ?_
      refine RW.nil ?_
      repeat (refine W.seq ?_)
      refine W.region 5 10 (by decide) rfl rfl ?_
      refine RW.opd rfl rfl (LO.move rfl rfl) ?_
      refine RW.opd rfl rfl (LO.callN (fr := []) rfl rfl (hnew) fok16 (.cons rfl (.pure rfl) .nil) rfl (by decide)) ?_
      refine RW.opd rfl rfl (LO.call1 (fr := []) rfl rfl (hcall) fok17 (.own rfl rfl (.cons rfl (.pure rfl) .nil)) rfl rfl rfl (List.cons_ne_nil _ _) (by decide) rfl) ?_
      refine RW.opd rfl rfl (LO.alloc rfl ty25) ?_
      refine RW.opn rfl rfl (LO.store rfl rfl rfl rfl rfl ty25 rfl (by decide) (Sp.lit rfl)) ?_
      refine RW.nil ?_
      repeat (refine W.seq ?_)
      refine W.regionD 14 27 (by decide) rfl mixed rfl ?_
      refine RW.opd rfl rfl (LO.move rfl rfl) ?_
      refine RW.opd rfl rfl (LO.fieldAddr rfl rfl ty25 rfl (by decide)) ?_
      refine RW.opd rfl rfl (LO.load rfl rfl rfl rfl ty3 rfl) ?_
      refine RW.opd rfl rfl (LO.call0 (fr := []) rfl rfl (hm1) fok21 (.cons rfl (.pure rfl) (.cons rfl (.pure rfl) .nil)) rfl) ?_
      refine RW.opd rfl rfl (LO.move rfl rfl) ?_
      refine RW.opd rfl rfl (LO.fieldAddr rfl rfl ty25 rfl (by decide)) ?_
      refine RW.opd rfl rfl (LO.load rfl rfl rfl rfl ty3 rfl) ?_
      refine RW.opd rfl rfl (LO.call0 (fr := []) rfl rfl (hm2) fok21 (.cons rfl (.pure rfl) (.cons rfl (.pure rfl) .nil)) rfl) ?_
      refine RW.opd rfl rfl (LO.move rfl rfl) ?_
      refine RW.opd rfl rfl (LO.call0 (fr := []) rfl rfl (hm3) fok21 (.cons rfl (.pure rfl) (.cons rfl (.pure rfl) .nil)) rfl) ?_
      refine RW.opd rfl rfl (LO.assign rfl rfl) ?_
      refine RW.opd rfl rfl (LO.assign rfl rfl) ?_
      refine RW.opd rfl rfl (LO.assign rfl rfl) ?_
      refine RW.nil ⟨by kernel_rfl, ?_⟩
      repeat (refine W.seq ?_)
      refine W.region 31 41 (by decide) rfl rfl ?_
      refine RW.opd rfl rfl (LO.load_agg rfl rfl rfl ty25 rfl (Tk.lit rfl)) ?_
      refine RW.opd rfl rfl (LO.move rfl rfl) ?_
      refine RW.opd rfl rfl (LO.move rfl rfl) ?_
      refine RW.opd rfl rfl (LO.move rfl rfl) ?_
      refine RW.opd rfl rfl (LO.call0 (fr := []) rfl rfl (hW) fok26 (.cons rfl (.pure rfl) (.cons rfl (.pure rfl) (.cons rfl (.pure rfl) (.cons rfl (.pure rfl) .nil)))) rfl) ?_
      refine RW.opd rfl rfl (LO.move rfl rfl) ?_
      refine RW.opd rfl rfl (LO.extract rfl rfl rfl) ?_
      refine RW.opd rfl rfl (LO.extract rfl rfl rfl) ?_
      refine RW.opd rfl rfl (LO.assign rfl rfl) ?_
      refine RW.opd rfl rfl (LO.assign rfl rfl) ?_
      refine RW.nil ?_
      repeat (refine W.seq ?_)
      refine W.region 45 48 (by decide) rfl rfl ?_
      refine RW.opd rfl rfl (LO.load_agg rfl rfl rfl ty25 rfl (Tk.lit rfl)) ?_
      refine RW.opd rfl rfl (LO.call0 (fr := []) rfl rfl (hpX) fok33 (.cons rfl (.pure rfl) .nil) rfl) ?_
      refine RW.opd rfl rfl (LO.assign rfl rfl) ?_
      refine RW.nil ?_
      repeat (refine W.seq ?_)
      refine W.regionD 52 70 (by decide) rfl mixed rfl ?_
      refine RW.opd rfl rfl (LO.move rfl rfl) ?_
      refine RW.opd rfl rfl (LO.move rfl rfl) ?_
      refine RW.opd rfl rfl (LO.move rfl rfl) ?_
      refine RW.opd rfl rfl (LO.indexAddr_isl rfl rfl rfl rfl rfl ty26 ty3 ?_) ?_; (· (first | omega | decide | assumption | fail | (simp; done) | (simp; omega)))
      refine RW.opd rfl rfl (LO.load_imm rfl rfl (ni_at1 (k := s) (by omega)) ty3 rfl) ?_
      refine RW.opd rfl rfl (LO.move rfl rfl) ?_
      refine RW.opd rfl rfl (LO.move rfl rfl) ?_
      refine RW.opd rfl rfl (LO.indexAddr_isl rfl rfl rfl rfl rfl ty26 ty3 ?_) ?_; (· (first | omega | decide | assumption | fail | (simp; done) | (simp; omega)))
      refine RW.opd rfl rfl (LO.load_imm rfl rfl (ni_at1 (k := t) (by omega)) ty3 rfl) ?_
      refine RW.opd rfl rfl (LO.eql rfl rfl rfl) ?_
      refine RW.opd rfl rfl (LO.move rfl rfl) ?_
      first
          | (refine RW.sd rfl rfl rfl ?_ rfl ?_; (· (first | rfl | assumption)))
          | (refine RW.gd rfl rfl rfl ?_ rfl (LO.move rfl rfl) ?_; (· (first | rfl | assumption)))
      first
          | (refine RW.sd rfl rfl rfl ?_ rfl ?_; (· (first | rfl | assumption)))
          | (refine RW.gd rfl rfl rfl ?_ rfl (LO.move rfl rfl) ?_; (· (first | rfl | assumption)))
      first
          | (refine RW.sd rfl rfl rfl ?_ rfl ?_; (· (first | rfl | assumption)))
          | (refine RW.gd rfl rfl rfl ?_ rfl (LO.indexAddr_isl rfl rfl rfl rfl rfl ty26 ty3 ?_) ?_; (· (first | rfl | assumption)); (· (first | omega | decide | assumption | fail | (simp; done) | (simp; omega))))
      first
          | (refine RW.sd rfl rfl rfl ?_ rfl ?_; (· (first | rfl | assumption)))
          | (refine RW.gd rfl rfl rfl ?_ rfl (LO.load_imm rfl rfl (ni_at1 (k := s) (by omega)) ty3 rfl) ?_; (· (first | rfl | assumption)))
      first
          | (refine RW.sd rfl rfl rfl ?_ rfl ?_; (· (first | rfl | assumption)))
          | (refine RW.gd rfl rfl rfl ?_ rfl (LO.geq rfl rfl rfl) ?_; (· (first | rfl | assumption)))
      first
          | (refine RW.opd rfl rfl (LO.pick_t rfl rfl ?_ rfl) ?_; (· (first | rfl | assumption)))
          | (refine RW.opd rfl rfl (LO.pick_f rfl rfl ?_ rfl) ?_; (· (first | rfl | assumption)))
      refine RW.opd rfl rfl (LO.neq_bool rfl rfl rfl ty4) ?_
      refine RW.nil ⟨by kernel_rfl, ?_⟩
      repeat (refine W.seq ?_)
      refine W.cond_f rfl (by first | rfl | assumption) ?_
      refine W.skip ?_
      repeat (refine W.seq ?_)
      refine W.region 79 81 (by decide) rfl rfl ?_
      refine RW.opd rfl rfl (LO.move rfl rfl) ?_
      refine RW.opd rfl rfl (LO.not rfl rfl) ?_
      refine RW.nil ?_
      repeat (refine W.seq ?_)
      refine W.cond_t rfl (by first | rfl | assumption) ?_
      repeat (refine W.seq ?_)
      refine W.region 85 92 (by decide) rfl rfl ?_
      refine RW.opd rfl rfl (LO.move rfl rfl) ?_
      refine RW.opd rfl rfl (LO.len_isl rfl rfl rfl ty26) ?_
      refine RW.opd rfl rfl (LO.eql rfl rfl rfl) ?_
      refine RW.opd rfl rfl (LO.move rfl rfl) ?_
      refine RW.gd rfl rfl rfl ?_ rfl (LO.call0 (fr := []) rfl rfl (awake14_any) fok32 .nil rfl) ?_; (· (first | rfl | assumption))
      refine RW.opd rfl rfl (LO.pick_t rfl rfl ?_ rfl) ?_; (· (first | rfl | assumption))
      refine RW.opd rfl rfl (LO.assign rfl rfl) ?_
      refine RW.nil ?_
      repeat (refine W.seq ?_)
      refine W.ret ⟨.inl rfl, _, mt, RVs.cons (RV.tmp rfl) (RVs.nil), all_mt, ?_⟩
      exact ⟨rfl, rfl⟩
end Go.Proofs.Ythbdngfnbpkefaa
