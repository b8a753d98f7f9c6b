/-
  What is read from packets: the statement's function answers true.
-/
import Derived.Test.YtoijkcnefnmbjaaRe
namespace Go.Proofs.Ytoijkcnefnmbjaa
open Go.RowKit
def GoodP (p : Pk) : Prop := IsB p.bs ∧ p.bs.length ≤ 4000 ∧ GoodA p.s ∧ GoodA p.d
theorem sgn_good {p : Pk} (h : GoodP p) : IsB (sgn p).bs ∧ U64 (sgn p).s.hi ∧ U64 (sgn p).s.lo ∧ U64 (sgn p).d.hi ∧ U64 (sgn p).d.lo := ⟨sgn_isB h.1, by rw [sgn_s]; exact h.2.2.1.1, by rw [sgn_s]; exact h.2.2.1.2, by rw [sgn_d]; exact h.2.2.2.1, by rw [sgn_d]; exact h.2.2.2.2⟩
theorem same_good {p : Pk} (h : GoodP p) : AFn Try.prog 30 0 [.agg (pkC p)] mt (.base (.bool true)) mt := same_any p h.1 h.2.2.1.1 h.2.2.1.2 h.2.2.2.1 h.2.2.2.2
theorem signed_good {p : Pk} (h : GoodP p) : AFn Try.prog 31 0 [.agg (pkC p)] mt (.agg (pkC (sgn p))) mt := signed_any p h.1 (by have := h.2.1; omega) h.2.2.1.1 h.2.2.1.2 h.2.2.2.1 h.2.2.2.2
theorem same_sgn {p : Pk} (h : GoodP p) : AFn Try.prog 30 0 [.agg (pkC (sgn p))] mt (.base (.bool true)) mt := by
  obtain ⟨h1, h2, h3, h4, h5⟩ := sgn_good h
  exact same_any (sgn p) h1 h2 h3 h4 h5
set_option maxHeartbeats 4000000 in
theorem reads_law (raw : Pk) (b : List Int) (l : List Int) (at_ by_ : Int) (hr : GoodA raw.s ∧ GoodA raw.d ∧ IsB raw.bs) (hB : IsB b) (hl : l.length ≤ 9223372036854775807) : AFn Try.prog 5 0 [.agg (pkC raw), .isl (bytesC b) b.length, .isl (intsC l) l.length, .base (.int .i64 at_), .base (.int .i64 by_)] mt (.base (.bool true)) mt := by
  refine AFn.eq Try.func5 rfl rfl (Nat.le_of_ble_eq_true rfl) ?_
  have haw := awake_any
  have hs1 := short_any b
  have hs2 := short_any raw.bs
  unfold intsC
  rw [pk_lit2 raw]
  have hshort : (decide ((b.length : Int) ≤ 600) = false) ∨ (decide ((b.length : Int) ≤ 600) = true ∧ decide ((raw.bs.length : Int) ≤ 600) = false) ∨ (decide ((b.length : Int) ≤ 600) = true ∧ decide ((raw.bs.length : Int) ≤ 600) = true ∧ b.length ≤ 600 ∧ raw.bs.length ≤ 600) := by
    by_cases c1 : (b.length : Int) ≤ 600
    · by_cases c2 : (raw.bs.length : Int) ≤ 600
      · exact .inr (.inr ⟨by simpa using c1, by simpa using c2, by omega, by omega⟩)
      · exact .inr (.inl ⟨by simpa using c1, by simpa using c2⟩)
    · exact .inl (by simpa using c1)
  rcases hshort with e1 | ⟨e1, e2⟩ | ⟨e1, e2, hb6, hr6⟩
  · rw [e1] at hs1
    repeat (refine W.seq ?_)
    refine W.region 0 2 (by decide) rfl rfl ?_
    refine RW.opd rfl rfl (LO.box rfl rfl rfl) ?_
    refine RW.opd rfl rfl (LO.assign rfl rfl) ?_
    refine RW.nil ?_
    repeat (refine W.seq ?_)
    refine W.region 6 15 (by decide) rfl rfl ?_
    refine RW.opd rfl rfl (LO.move rfl rfl) ?_
    refine RW.opd rfl rfl (LO.call0 (fr := []) rfl rfl (hs1) fok9 (.cons rfl (.pure rfl) .nil) rfl) ?_
    refine RW.opd rfl rfl (LO.not rfl rfl) ?_
    refine RW.opd rfl rfl (LO.move rfl rfl) ?_
    refine RW.sd rfl rfl rfl ?_ rfl ?_; (· (first | rfl | assumption))
    refine RW.sd rfl rfl rfl ?_ rfl ?_; (· (first | rfl | assumption))
    refine RW.sd rfl rfl rfl ?_ rfl ?_; (· (first | rfl | assumption))
    refine RW.sd rfl rfl rfl ?_ rfl ?_; (· (first | rfl | assumption))
    refine RW.opd rfl rfl (LO.pick_t rfl rfl ?_ rfl) ?_; (· (first | rfl | assumption))
    refine RW.nil ?_
    repeat (refine W.seq ?_)
    refine W.cond_t rfl (by first | rfl | assumption) ?_
    repeat (refine W.seq ?_)
    refine W.region 19 21 (by decide) rfl rfl ?_
    refine RW.opd rfl rfl (LO.call0 (fr := []) rfl rfl (haw) fok28 .nil rfl) ?_
    refine RW.opd rfl rfl (LO.assign rfl rfl) ?_
    refine RW.nil ?_
    repeat (refine W.seq ?_)
    refine W.ret ⟨.inl rfl, _, mt, (RVs.cons (RV.tmp rfl) RVs.nil), (by (repeat' (first | exact all_mt | refine all_up ?_ ?_)) <;> rfl), ?_⟩
    exact ⟨rfl, rfl⟩
  · rw [e1] at hs1
    rw [e2] at hs2
    repeat (refine W.seq ?_)
    refine W.region 0 2 (by decide) rfl rfl ?_
    refine RW.opd rfl rfl (LO.box rfl rfl rfl) ?_
    refine RW.opd rfl rfl (LO.assign rfl rfl) ?_
    refine RW.nil ?_
    repeat (refine W.seq ?_)
    refine W.region 6 15 (by decide) rfl rfl ?_
    refine RW.opd rfl rfl (LO.move rfl rfl) ?_
    refine RW.opd rfl rfl (LO.call0 (fr := []) rfl rfl (hs1) fok9 (.cons rfl (.pure rfl) .nil) rfl) ?_
    refine RW.opd rfl rfl (LO.not rfl rfl) ?_
    refine RW.opd rfl rfl (LO.move rfl rfl) ?_
    refine RW.gd rfl rfl rfl ?_ rfl (LO.fieldAddr rfl rfl ty27 rfl (by decide)) ?_; (· (first | rfl | assumption))
    refine RW.gd rfl rfl rfl ?_ rfl (LO.load rfl rfl rfl rfl ty25 rfl) ?_; (· (first | rfl | assumption))
    refine RW.gd rfl rfl rfl ?_ rfl (LO.call0 (fr := []) rfl rfl (hs2) fok9 (.cons rfl (.pure rfl) .nil) rfl) ?_; (· (first | rfl | assumption))
    refine RW.gd rfl rfl rfl ?_ rfl (LO.not rfl rfl) ?_; (· (first | rfl | assumption))
    refine RW.opd rfl rfl (LO.pick_f rfl rfl ?_ rfl) ?_; (· (first | rfl | assumption))
    refine RW.nil ?_
    repeat (refine W.seq ?_)
    refine W.cond_t rfl (by first | rfl | assumption) ?_
    repeat (refine W.seq ?_)
    refine W.region 19 21 (by decide) rfl rfl ?_
    refine RW.opd rfl rfl (LO.call0 (fr := []) rfl rfl (haw) fok28 .nil rfl) ?_
    refine RW.opd rfl rfl (LO.assign rfl rfl) ?_
    refine RW.nil ?_
    repeat (refine W.seq ?_)
    refine W.ret ⟨.inl rfl, _, mt, (RVs.cons (RV.tmp rfl) RVs.nil), (by (repeat' (first | exact all_mt | refine all_up ?_ ?_)) <;> rfl), ?_⟩
    exact ⟨rfl, rfl⟩
  rw [e1] at hs1
  rw [e2] at hs2
  have hnew := new_any l
  obtain ⟨_, _, hmade, n, x, y, a1, ⟨hgn, hgx, hgy, hy⟩, rfl, rfl⟩ := made_any l 0 hl
  have henc := encX_any n x y hgn.1.1 hgn.1.2 hgn.2.1 hgn.2.2 hgx.1 hgx.2 hgy.1 hgy.2
  have htn := nbTk hgn
  have hnl : (nbC n).length = 12 := by simp [nbC, adC, bytesC_len, hgn.1.1]
  repeat (refine W.seq ?_)
  refine W.region 0 2 (by decide) rfl rfl ?_
  refine RW.opd rfl rfl (LO.box rfl rfl rfl) ?_
  refine RW.opd rfl rfl (LO.assign rfl rfl) ?_
  refine RW.nil ?_
  repeat (refine W.seq ?_)
  refine W.region 6 15 (by decide) rfl rfl ?_
  refine RW.opd rfl rfl (LO.move rfl rfl) ?_
  refine RW.opd rfl rfl (LO.call0 (fr := []) rfl rfl (hs1) fok9 (.cons rfl (.pure rfl) .nil) rfl) ?_
  refine RW.opd rfl rfl (LO.not rfl rfl) ?_
  refine RW.opd rfl rfl (LO.move rfl rfl) ?_
  refine RW.gd rfl rfl rfl ?_ rfl (LO.fieldAddr rfl rfl ty27 rfl (by decide)) ?_; (· (first | rfl | assumption))
  refine RW.gd rfl rfl rfl ?_ rfl (LO.load rfl rfl rfl rfl ty25 rfl) ?_; (· (first | rfl | assumption))
  refine RW.gd rfl rfl rfl ?_ rfl (LO.call0 (fr := []) rfl rfl (hs2) fok9 (.cons rfl (.pure rfl) .nil) rfl) ?_; (· (first | rfl | assumption))
  refine RW.gd rfl rfl rfl ?_ rfl (LO.not rfl rfl) ?_; (· (first | rfl | assumption))
  refine RW.opd rfl rfl (LO.pick_f rfl rfl ?_ rfl) ?_; (· (first | rfl | assumption))
  refine RW.nil ?_
  repeat (refine W.seq ?_)
  refine W.cond_f rfl (by first | rfl | assumption) ?_
  refine W.skip ?_
  repeat (refine W.seq ?_)
  refine W.region 25 28 (by decide) rfl rfl ?_
  refine RW.opd rfl rfl (LO.move rfl rfl) ?_
  refine RW.opd rfl rfl (LO.callN (fr := []) rfl rfl (hnew) fok11 (.cons rfl (.pure rfl) .nil) rfl (by decide)) ?_
  refine RW.opd rfl rfl (LO.assign rfl rfl) ?_
  refine RW.nil ?_
  repeat (refine W.seq ?_)
  refine W.region 32 44 (by decide) rfl rfl ?_
  refine RW.opd rfl rfl (LO.move rfl rfl) ?_
  refine RW.opd rfl rfl (LO.call1 (fr := []) rfl rfl (hmade) fok23 (.own rfl rfl .nil) rfl rfl rfl (List.cons_ne_nil _ _) (by decide) (made_pure n x y)) ?_
  refine RW.opd rfl rfl (LO.move rfl rfl) ?_
  refine RW.opd rfl rfl (LO.extract rfl rfl rfl) ?_
  refine RW.opd rfl rfl (LO.extract rfl rfl rfl) ?_
  refine RW.opd rfl rfl (LO.extract rfl rfl rfl) ?_
  refine RW.opd rfl rfl (LO.alloc rfl ty52) ?_
  refine RW.opd rfl rfl (LO.alloc rfl ty24) ?_
  refine RW.opd rfl rfl (LO.alloc rfl ty24) ?_
  refine RW.opn rfl rfl (LO.store rfl rfl rfl rfl rfl ty52 hnl (by decide) (Sp.of_all hnl)) ?_
  refine RW.opn rfl rfl (LO.store rfl rfl rfl rfl rfl ty24 rfl (by decide) (Sp.lit rfl)) ?_
  refine RW.opn rfl rfl (LO.store rfl rfl rfl rfl rfl ty24 rfl (by decide) (Sp.lit rfl)) ?_
  refine RW.nil ?_
  unfold adC at henc ⊢
  obtain ⟨q, ec, hq, hqc⟩ : ∃ (q : Pk) (ec : Int), encV n x y = .tup [.agg (pkC q), .base (.int .i64 ec)] ∧ ((ec != 0) = true ∨ ((ec != 0) = false ∧ GoodP q ∧ q.bs.length ≤ 600)) := by
    cases hok : okN n x y with
    | false => exact ⟨zPk, 1, encV_bad hok, .inl rfl⟩
    | true => exact ⟨encN n x y, 0, encV_ok hok, .inr ⟨rfl, ⟨enc_isB hgn x y, by have := (enc_len hgn x y).2; omega, hgx, hgy⟩, by have := (enc_len hgn x y).2; omega⟩⟩
  rw [hq] at henc
  repeat (refine W.seq ?_)
  refine W.region 48 58 (by decide) rfl rfl ?_
  refine RW.opd rfl rfl (LO.load_agg rfl rfl rfl ty52 rfl htn) ?_
  refine RW.opd rfl rfl (LO.load_agg rfl rfl rfl ty24 rfl (Tk.lit rfl)) ?_
  refine RW.opd rfl rfl (LO.load_agg rfl rfl rfl ty24 rfl (Tk.lit rfl)) ?_
  refine RW.opd rfl rfl (LO.call0 (fr := []) rfl rfl (henc) fok25 (.cons rfl (.pure (nbC_pure n)) (.cons rfl (.pure rfl) (.cons rfl (.pure rfl) .nil))) rfl) ?_
  refine RW.opd rfl rfl (LO.move rfl rfl) ?_
  refine RW.opd rfl rfl (LO.extract rfl rfl rfl) ?_
  refine RW.opd rfl rfl (LO.extract rfl rfl rfl) ?_
  refine RW.opd rfl rfl (LO.alloc rfl ty27) ?_
  refine RW.opn rfl rfl (LO.store rfl rfl rfl rfl rfl ty27 rfl (by decide) (Sp.lit rfl)) ?_
  refine RW.opd rfl rfl (LO.assign rfl rfl) ?_
  refine RW.nil ?_
  refine W.seq ?_
  refine W.joinK (α := Pk) 3 (fun x => [(5, .own 0 0), (11, .own 1 0), (15, .own 2 0)]) (fun x => up (up (up mt 0 (some ([.base (.bool raw.s.v6), .base (.int .u64 raw.s.hi), .base (.int .u64 raw.s.lo), .base (.bool raw.d.v6), .base (.int .u64 raw.d.hi), .base (.int .u64 raw.d.lo), .base (.int .i64 raw.p), .base (.int .i64 raw.t), .isl (bytesC raw.bs) raw.bs.length]))) 1 (some (deckC l a1))) 2 (some (pkC x))) (fun x => GoodP x ∧ x.bs.length ≤ 600) (.cons (t := 1) rfl (by first | exact .inl rfl | exact .inr ⟨rfl, fun _ h => by cases h⟩ | (exact .inl (by assumption)) ) (.cons (t := 3) rfl (by first | exact .inl rfl | exact .inr ⟨rfl, fun _ h => by cases h⟩ | (exact .inl (by assumption)) ) (.cons (t := 4) rfl (by first | exact .inl rfl | exact .inr ⟨rfl, fun _ h => by cases h⟩ | (exact .inl (by assumption)) ) .nil))) ?_ ?_
  rotate_left
  rintro p hIJ
  try (dsimp only at hIJ)
  try dsimp only [joinT, baseT, List.cons_append, List.nil_append]
  rotate_right
  · rcases hqc with hq1 | ⟨hq1, hqg⟩
    ·
      repeat (refine W.seq ?_)
      refine W.region 62 64 (by decide) rfl rfl ?_
      refine RW.opd rfl rfl (LO.move rfl rfl) ?_
      refine RW.opd rfl rfl (LO.neq rfl rfl rfl) ?_
      refine RW.nil ?_
      repeat (refine W.seq ?_)
      refine W.cond_t rfl (by first | rfl | assumption) ?_
      repeat (refine W.seq ?_)
      refine W.region 68 73 (by decide) rfl rfl ?_
      refine RW.opd rfl rfl (LO.load_agg rfl rfl rfl ty24 rfl (Tk.lit rfl)) ?_
      refine RW.opd rfl rfl (LO.load_agg rfl rfl rfl ty24 rfl (Tk.lit rfl)) ?_
      refine RW.opd rfl rfl (LO.move rfl rfl) ?_
      refine RW.opd rfl rfl (LO.build_st rfl ty27 (.cons rfl rfl rfl rfl (Sp.lit rfl) (.cons rfl rfl rfl rfl (Sp.lit rfl) (.cons rfl rfl rfl rfl (Sp.lit rfl) (.cons rfl rfl rfl rfl (Sp.lit rfl) (.cons rfl rfl rfl rfl (Sp.lit rfl) .nil)))))) ?_
      refine RW.opn rfl rfl (LO.store rfl rfl rfl rfl rfl ty27 rfl (by decide) (Sp.lit rfl)) ?_
      refine RW.nil ?_
      intro yJ KJ hJ
      refine W.renameJ [(0, 0), (1, 26), (2, 55)] 3 (by decide) ?_ ?_ (hJ ((⟨y, y, 58, 255, b⟩ : Pk)) (show GoodP ((⟨y, y, 58, 255, b⟩ : Pk)) ∧ ((⟨y, y, 58, 255, b⟩ : Pk)).bs.length ≤ 600 from ⟨⟨hB, by show b.length ≤ 4000; omega, hgy, hgy⟩, hb6⟩))
      · (repeat' (first | exact LookR.nil | refine LookR.cons ?_ ?_)) <;> first | exact .inl ⟨rfl, rfl⟩ | exact .inr ⟨rfl, fun _ h => by cases h⟩ | exact .inl ⟨rfl, by first | rfl | assumption ⟩
      · (repeat' (first | exact all_mt | refine all_up ?_ ?_)) <;> first | exact ⟨rfl, _, rfl, .inr ⟨rfl, rfl⟩⟩ | exact ⟨rfl, _, rfl, .inl rfl⟩ | exact ⟨rfl, _, rfl, .inr ⟨rfl, by first | rfl | assumption ⟩⟩
    ·
      repeat (refine W.seq ?_)
      refine W.region 62 64 (by decide) rfl rfl ?_
      refine RW.opd rfl rfl (LO.move rfl rfl) ?_
      refine RW.opd rfl rfl (LO.neq rfl rfl rfl) ?_
      refine RW.nil ?_
      repeat (refine W.seq ?_)
      refine W.cond_f rfl (by first | rfl | assumption) ?_
      refine W.skip ?_
      intro yJ KJ hJ
      refine W.renameJ [(0, 0), (1, 26), (2, 55)] 3 (by decide) ?_ ?_ (hJ q (show GoodP q ∧ q.bs.length ≤ 600 from hqg))
      · (repeat' (first | exact LookR.nil | refine LookR.cons ?_ ?_)) <;> first | exact .inl ⟨rfl, rfl⟩ | exact .inr ⟨rfl, fun _ h => by cases h⟩ | exact .inl ⟨rfl, by first | rfl | assumption ⟩
      · (repeat' (first | exact all_mt | refine all_up ?_ ?_)) <;> first | exact ⟨rfl, _, rfl, .inr ⟨rfl, rfl⟩⟩ | exact ⟨rfl, _, rfl, .inl rfl⟩ | exact ⟨rfl, _, rfl, .inr ⟨rfl, by first | rfl | assumption ⟩⟩
  obtain ⟨hgp, hpl⟩ := hIJ
  have hgp2 := hgp
  obtain ⟨hpB, _, hps, hpd⟩ := hgp2
  rw [pk_lit2 p]
  obtain ⟨L, ⟨hLB, hLl⟩, hspo⟩ := spo_any p.bs at_ by_ hpB (by omega)
  have n1 := next_any l a1 4 (by decide) (by decide) hl
  obtain ⟨e1, he1⟩ : ∃ e1, nextV l a1 4 = e1 := ⟨_, rfl⟩
  obtain ⟨a2, ha2⟩ : ∃ a2, nextAt l a1 = a2 := ⟨_, rfl⟩
  rw [he1, ha2] at n1
  have n2 := next_any l a2 3 (by decide) (by decide) hl
  obtain ⟨e2, he2⟩ : ∃ e2, nextV l a2 3 = e2 := ⟨_, rfl⟩
  obtain ⟨a3, ha3⟩ : ∃ a3, nextAt l a2 = a3 := ⟨_, rfl⟩
  rw [he2, ha3] at n2
  have n3 := next_any l a3 3 (by decide) (by decide) hl
  have b3 := nextV_bd l a3 3 (by decide)
  obtain ⟨w3, hw3⟩ : ∃ w3 : Nat, nextV l a3 3 = (w3 : Int) := ⟨(nextV l a3 3).toNat, by omega⟩
  obtain ⟨a4, ha4⟩ : ∃ a4, nextAt l a3 = a4 := ⟨_, rfl⟩
  rw [hw3] at b3
  rw [hw3, ha4] at n3
  have n4 := next_any l a4 6 (by decide) (by decide) hl
  have b4 := nextV_bd l a4 6 (by decide)
  obtain ⟨e4, he4⟩ : ∃ e4, nextV l a4 6 = e4 := ⟨_, rfl⟩
  obtain ⟨a5, ha5⟩ : ∃ a5, nextAt l a4 = a5 := ⟨_, rfl⟩
  rw [he4] at b4
  rw [he4, ha5] at n4
  have n5 := next_any l a5 8 (by decide) (by decide) hl
  have b5 := nextV_bd l a5 8 (by decide)
  obtain ⟨e5, he5⟩ : ∃ e5, nextV l a5 8 = e5 := ⟨_, rfl⟩
  obtain ⟨a6, ha6⟩ : ∃ a6, nextAt l a5 = a6 := ⟨_, rfl⟩
  rw [he5] at b5
  rw [he5, ha6] at n5
  obtain ⟨k1, hk1, hk2⟩ := emod_nat at_ (show 0 < 3 by decide)
  have hm1 := mod_any at_ 3 (by decide) (by decide)
  rw [show at_ % 3 = (k1 : Int) from hk1] at hm1
  obtain ⟨k3, hk3, hk4⟩ := emod_nat by_ (show 0 < 2 by decide)
  have hm2 := mod_any by_ 2 (by decide) (by decide)
  rw [show by_ % 2 = (k3 : Int) from hk3] at hm2
  obtain ⟨tv, htv⟩ : ∃ tv : Int, ([.base (.int .i64 255), .base (.int .i64 254), .base (.int .i64 64)] : List AV)[0 + k1 * 1]? = some (.base (.int .i64 tv)) := by
    rcases (show k1 = 0 ∨ k1 = 1 ∨ k1 = 2 by omega) with rfl | rfl | rfl <;> exact ⟨_, rfl⟩
  obtain ⟨pv, hpv⟩ : ∃ pv : Int, ([.base (.int .i64 58), .base (.int .i64 17)] : List AV)[0 + k3 * 1]? = some (.base (.int .i64 pv)) := by
    rcases (show k3 = 0 ∨ k3 = 1 by omega) with rfl | rfl <;> exact ⟨_, rfl⟩
  have h8w : (8 : Int) * (w3 : Int) = ((8 * w3 : Nat) : Int) := by omega
  have hT1 : ∀ c d : Int, Tk (bytesC p.bs ++ bytesC [c, d, 1, 2, 3, 4, 5, 6]) 0 ((p.bs.length + 8) * 1) (bytesC (p.bs ++ [c, d, 1, 2, 3, 4, 5, 6])) := fun c d => by
    rw [← bytesC_app]; exact bytes_tk (by simp)
  have hT2 : ∀ c d : Int, Tk (bytesC (p.bs ++ [c, d, 1, 2, 3, 4, 5, 6]) ++ bytesC (List.replicate (8 * w3) 0)) 0 ((p.bs.length + 8 + 8 * w3) * 1) (bytesC (p.bs ++ [c, d, 1, 2, 3, 4, 5, 6] ++ List.replicate (8 * w3) 0)) := fun c d => by
    rw [← bytesC_app]; exact bytes_tk (by simp; omega)
  have hT3 : ∀ c d : Int, Tk (bytesC [c, d, 0, 0] ++ bytesC b) 0 ((4 + b.length) * 1) (bytesC ([c, d, 0, 0] ++ b)) := fun c d => by
    rw [← bytesC_app]; exact bytes_tk (by simp; omega)
  repeat (refine W.seq ?_)
  refine W.regionD 77 89 (by decide) rfl mixed rfl ?_
  refine RW.opd rfl rfl (LO.load_agg rfl rfl rfl ty27 rfl (Tk.lit rfl)) ?_
  refine RW.opd rfl rfl (LO.load_agg rfl rfl rfl ty27 rfl (Tk.lit rfl)) ?_
  refine RW.opd rfl rfl (LO.load_agg rfl rfl rfl ty27 rfl (Tk.lit rfl)) ?_
  refine RW.opd rfl rfl (LO.load_agg rfl rfl rfl ty27 rfl (Tk.lit rfl)) ?_
  refine RW.opd rfl rfl (LO.alloc rfl ty27) ?_
  refine RW.opd rfl rfl (LO.alloc rfl ty27) ?_
  refine RW.opd rfl rfl (LO.alloc rfl ty27) ?_
  refine RW.opd rfl rfl (LO.alloc rfl ty27) ?_
  refine RW.opn rfl rfl (LO.store rfl rfl rfl rfl rfl ty27 rfl (by decide) (Sp.lit rfl)) ?_
  refine RW.opn rfl rfl (LO.store rfl rfl rfl rfl rfl ty27 rfl (by decide) (Sp.lit rfl)) ?_
  refine RW.opn rfl rfl (LO.store rfl rfl rfl rfl rfl ty27 rfl (by decide) (Sp.lit rfl)) ?_
  refine RW.opn rfl rfl (LO.store rfl rfl rfl rfl rfl ty27 rfl (by decide) (Sp.lit rfl)) ?_
  refine RW.nil ⟨by kernel_rfl, ?_⟩
  repeat (refine W.seq ?_)
  refine W.region 93 100 (by decide) rfl rfl ?_
  refine RW.opd rfl rfl (LO.fieldAddr rfl rfl ty27 rfl (by decide)) ?_
  refine RW.opd rfl rfl (LO.load rfl rfl rfl rfl ty25 rfl) ?_
  refine RW.opd rfl rfl (LO.move rfl rfl) ?_
  refine RW.opd rfl rfl (LO.move rfl rfl) ?_
  refine RW.opd rfl rfl (LO.call0 (fr := []) rfl rfl (hspo) fok19 (.cons rfl (.pure rfl) (.cons rfl (.pure rfl) (.cons rfl (.pure rfl) .nil))) rfl) ?_
  refine RW.opd rfl rfl (LO.fieldAddr rfl rfl ty27 rfl (by decide)) ?_
  refine RW.opn rfl rfl (LO.store rfl rfl rfl rfl rfl ty25 rfl (by decide) (Sp.lit rfl)) ?_
  refine RW.nil ?_
  repeat (refine W.seq ?_)
  refine W.region 104 121 (by decide) rfl rfl ?_
  refine RW.opd rfl rfl (LO.fieldAddr rfl rfl ty27 rfl (by decide)) ?_
  refine RW.opd rfl rfl (LO.load rfl rfl rfl rfl ty25 rfl) ?_
  refine RW.opd rfl rfl (LO.append_nil rfl rfl (SrcAV.isl rfl rfl (by simp [bytesC_len])) ty25 ty25 ty5 (by decide) (by omega) (by omega) (by decide)) ?_
  refine RW.opd rfl rfl (LO.move rfl rfl) ?_
  refine RW.opd rfl rfl (LO.call1 (fr := []) rfl rfl (n1) fok29 (.own rfl rfl (.cons rfl (.pure rfl) .nil)) rfl rfl rfl (List.cons_ne_nil _ _) (by decide) rfl) ?_
  refine RW.opd rfl rfl (LO.conv rfl rfl ty3 ty5) ?_
  refine RW.opd rfl rfl (LO.move rfl rfl) ?_
  refine RW.opd rfl rfl (LO.call1 (fr := []) rfl rfl (n2) fok29 (.own rfl rfl (.cons rfl (.pure rfl) .nil)) rfl rfl rfl (List.cons_ne_nil _ _) (by decide) rfl) ?_
  refine RW.opd rfl rfl (LO.conv rfl rfl ty3 ty5) ?_
  refine RW.opd rfl rfl (LO.buildSlice rfl ty25 ty5 (by decide) (by decide) (.cons rfl rfl rfl rfl (Sp.lit rfl) (.cons rfl rfl rfl rfl (Sp.lit rfl) (.cons rfl rfl rfl rfl (Sp.lit rfl) (.cons rfl rfl rfl rfl (Sp.lit rfl) (.cons rfl rfl rfl rfl (Sp.lit rfl) (.cons rfl rfl rfl rfl (Sp.lit rfl) (.cons rfl rfl rfl rfl (Sp.lit rfl) (.cons rfl rfl rfl rfl (Sp.lit rfl) .nil))))))))) ?_
  refine RW.opd rfl rfl (LO.append rfl rfl (SrcAV.own rfl rfl (Tk.lit rfl)) rfl (bytes_tk rfl) ty25 ty25 ty5 (by decide) (by omega) (by omega) (by decide)) ?_
  refine RW.opd rfl rfl (LO.move rfl rfl) ?_
  refine RW.opd rfl rfl (LO.call1 (fr := []) rfl rfl (n3) fok29 (.own rfl rfl (.cons rfl (.pure rfl) .nil)) rfl rfl rfl (List.cons_ne_nil _ _) (by decide) rfl) ?_
  refine RW.opd rfl rfl (LO.mul_in rfl rfl rfl ?_) ?_; (· (first | exact IntWalk.i64_in _ (by omega) | assumption))
  refine RW.opd rfl rfl (LO.append_zerosA rfl rfl (congrArg some (congrArg AV.base (congrArg (Value.int IntKind.i64) h8w))) rfl (hT1 _ _) ty25 ty3 ty5 (by decide) (by omega) (by omega) (by omega) (by decide)) ?_
  refine RW.opd rfl rfl (LO.fieldAddr rfl rfl ty27 rfl (by decide)) ?_
  refine RW.opn rfl rfl (LO.store rfl rfl rfl rfl rfl ty25 rfl (by decide) (Sp.lit rfl)) ?_
  refine RW.nil ?_
  rw [zerosB]
  refine W.frzc (q := 82) (j := 8) (r := 118) rfl rfl (by decide) rfl (hT2 _ _) (bytesC_pure _) (Sp.lit rfl) ?_
  repeat (refine W.seq ?_)
  refine W.regionD 125 139 (by decide) rfl mixed rfl ?_
  refine RW.opd rfl rfl (LO.buildSlice rfl ty28 ty3 (by decide) (by decide) (.cons rfl rfl rfl rfl (Sp.lit rfl) (.cons rfl rfl rfl rfl (Sp.lit rfl) (.cons rfl rfl rfl rfl (Sp.lit rfl) .nil)))) ?_
  refine RW.opd rfl rfl (LO.move rfl rfl) ?_
  refine RW.opd rfl rfl (LO.call0 (fr := []) rfl rfl (hm1) fok17 (.cons rfl (.pure rfl) (.cons rfl (.pure rfl) .nil)) rfl) ?_
  refine RW.opd rfl rfl (LO.indexAddr rfl rfl rfl rfl ty28 ty3 ?_) ?_; (· (first | omega | decide | assumption | fail | (simp; done) | (simp; omega)))
  refine RW.opd rfl rfl (LO.load rfl rfl rfl htv ty3 rfl) ?_
  refine RW.opd rfl rfl (LO.buildSlice rfl ty28 ty3 (by decide) (by decide) (.cons rfl rfl rfl rfl (Sp.lit rfl) (.cons rfl rfl rfl rfl (Sp.lit rfl) .nil))) ?_
  refine RW.opd rfl rfl (LO.move rfl rfl) ?_
  refine RW.opd rfl rfl (LO.call0 (fr := []) rfl rfl (hm2) fok17 (.cons rfl (.pure rfl) (.cons rfl (.pure rfl) .nil)) rfl) ?_
  refine RW.opd rfl rfl (LO.indexAddr rfl rfl rfl rfl ty28 ty3 ?_) ?_; (· (first | omega | decide | assumption | fail | (simp; done) | (simp; omega)))
  refine RW.opd rfl rfl (LO.load rfl rfl rfl hpv ty3 rfl) ?_
  refine RW.opd rfl rfl (LO.fieldAddr rfl rfl ty27 rfl (by decide)) ?_
  refine RW.opn rfl rfl (LO.store rfl rfl rfl rfl rfl ty3 rfl (by decide) (Sp.lit rfl)) ?_
  refine RW.opd rfl rfl (LO.fieldAddr rfl rfl ty27 rfl (by decide)) ?_
  refine RW.opn rfl rfl (LO.store rfl rfl rfl rfl rfl ty3 rfl (by decide) (Sp.lit rfl)) ?_
  refine RW.nil ⟨by kernel_rfl, ?_⟩
  repeat (refine W.seq ?_)
  refine W.region 143 156 (by decide) rfl rfl ?_
  refine RW.opd rfl rfl (LO.move rfl rfl) ?_
  refine RW.opd rfl rfl (LO.call1 (fr := []) rfl rfl (n4) fok29 (.own rfl rfl (.cons rfl (.pure rfl) .nil)) rfl rfl rfl (List.cons_ne_nil _ _) (by decide) rfl) ?_
  refine RW.opd rfl rfl (LO.add_in rfl rfl rfl ?_) ?_; (· (first | exact IntWalk.i64_in _ (by omega) | assumption))
  refine RW.opd rfl rfl (LO.conv rfl rfl ty3 ty5) ?_
  refine RW.opd rfl rfl (LO.move rfl rfl) ?_
  refine RW.opd rfl rfl (LO.call1 (fr := []) rfl rfl (n5) fok29 (.own rfl rfl (.cons rfl (.pure rfl) .nil)) rfl rfl rfl (List.cons_ne_nil _ _) (by decide) rfl) ?_
  refine RW.opd rfl rfl (LO.quo_in rfl rfl rfl ?_ ?_ ?_) ?_; (· (first | omega | decide | assumption | fail | (simp; done) | (simp; omega))); (· (first | omega | decide | assumption | fail | (simp; done) | (simp; omega))); (· (first | exact IntWalk.i64_in _ (by omega) | assumption))
  refine RW.opd rfl rfl (LO.conv rfl rfl ty3 ty5) ?_
  refine RW.opd rfl rfl (LO.buildSlice rfl ty25 ty5 (by decide) (by decide) (.cons rfl rfl rfl rfl (Sp.lit rfl) (.cons rfl rfl rfl rfl (Sp.lit rfl) (.cons rfl rfl rfl rfl (Sp.lit rfl) (.cons rfl rfl rfl rfl (Sp.lit rfl) .nil))))) ?_
  refine RW.opd rfl rfl (LO.move rfl rfl) ?_
  refine RW.opd rfl rfl (LO.append rfl rfl (SrcAV.isl rfl rfl (by simp [bytesC_len])) rfl (Tk.lit rfl) ty25 ty25 ty5 (by decide) (by omega) (by omega) (by decide)) ?_
  refine RW.opd rfl rfl (LO.fieldAddr rfl rfl ty27 rfl (by decide)) ?_
  refine RW.opn rfl rfl (LO.store rfl rfl rfl rfl rfl ty25 rfl (by decide) (Sp.lit rfl)) ?_
  refine RW.nil ?_
  refine W.frzc (q := 84) (j := 8) (r := 153) rfl rfl (by decide) rfl (hT3 _ _) (bytesC_pure _) (Sp.lit rfl) ?_
  have G0 : GoodP raw := ⟨hr.2.2, by omega, hr.1, hr.2.1⟩
  have G2 : GoodP ⟨p.s, p.d, p.p, p.t, L⟩ := ⟨hLB, by show L.length ≤ 4000; omega, hps, hpd⟩
  have hcd : ∀ c d : Int, (0 ≤ c ∧ c ≤ 255) → (0 ≤ d ∧ d ≤ 255) → ∀ m : List Int, IsB m → IsB (c :: d :: m) := fun c d hc hd m hm x hx => by
    rcases List.mem_cons.1 hx with rfl | hx
    · exact hc
    · rcases List.mem_cons.1 hx with rfl | hx
      · exact hd
      · exact hm x hx
  have G3 : ∀ c d : Int, (0 ≤ c ∧ c ≤ 255) → (0 ≤ d ∧ d ≤ 255) → GoodP ⟨p.s, p.d, p.p, p.t, p.bs ++ [c, d, 1, 2, 3, 4, 5, 6] ++ List.replicate (8 * w3) 0⟩ := fun c d hc hd => by
    refine ⟨(hpB.append (hcd c d hc hd _ fun x hx => ?_)).append fun x hx => ?_, ?_, hps, hpd⟩
    · simp only [List.mem_cons, List.not_mem_nil, or_false] at hx
      omega
    · rw [(List.mem_replicate.1 hx).2]; decide
    · show (p.bs ++ [c, d, 1, 2, 3, 4, 5, 6] ++ List.replicate (8 * w3) 0).length ≤ 4000
      simp; omega
  have S3 : ∀ c d : Int, (0 ≤ c ∧ c ≤ 255) → (0 ≤ d ∧ d ≤ 255) → AFn Try.prog 31 0 [.agg [.base (.bool p.s.v6), .base (.int .u64 p.s.hi), .base (.int .u64 p.s.lo), .base (.bool p.d.v6), .base (.int .u64 p.d.hi), .base (.int .u64 p.d.lo), .base (.int .i64 p.p), .base (.int .i64 p.t), .isl (bytesC (p.bs ++ [c, d, 1, 2, 3, 4, 5, 6] ++ List.replicate (8 * w3) 0)) (p.bs.length + 8 + 8 * w3)]] mt (.agg (pkC (sgn ⟨p.s, p.d, p.p, p.t, p.bs ++ [c, d, 1, 2, 3, 4, 5, 6] ++ List.replicate (8 * w3) 0⟩))) mt := fun c d hc hd => by
    have h := signed_good (G3 c d hc hd)
    rw [pk_lit2] at h
    have e : (p.bs ++ [c, d, 1, 2, 3, 4, 5, 6] ++ List.replicate (8 * w3) 0).length = p.bs.length + 8 + 8 * w3 := by simp; omega
    dsimp only at h
    rw [e] at h
    exact h
  have G4 : GoodP ⟨p.s, p.d, pv, tv, p.bs⟩ := ⟨hpB, by show p.bs.length ≤ 4000; omega, hps, hpd⟩
  have G5 : ∀ c d : Int, (0 ≤ c ∧ c ≤ 255) → (0 ≤ d ∧ d ≤ 255) → GoodP ⟨p.s, p.d, p.p, p.t, [c, d, 0, 0] ++ b⟩ := fun c d hc hd => by
    refine ⟨(hcd c d hc hd _ fun x hx => ?_).append hB, by show ([c, d, 0, 0] ++ b).length ≤ 4000; simp; omega, hps, hpd⟩
    simp only [List.mem_cons, List.not_mem_nil, or_false] at hx
    omega
  have S5 : ∀ c d : Int, (0 ≤ c ∧ c ≤ 255) → (0 ≤ d ∧ d ≤ 255) → AFn Try.prog 31 0 [.agg [.base (.bool p.s.v6), .base (.int .u64 p.s.hi), .base (.int .u64 p.s.lo), .base (.bool p.d.v6), .base (.int .u64 p.d.hi), .base (.int .u64 p.d.lo), .base (.int .i64 p.p), .base (.int .i64 p.t), .isl (bytesC ([c, d, 0, 0] ++ b)) (4 + b.length)]] mt (.agg (pkC (sgn ⟨p.s, p.d, p.p, p.t, [c, d, 0, 0] ++ b⟩))) mt := fun c d hc hd => by
    have h := signed_good (G5 c d hc hd)
    rw [pk_lit2] at h
    have e : ([c, d, 0, 0] ++ b).length = 4 + b.length := by simp; omega
    dsimp only at h
    rw [e] at h
    exact h
  repeat (refine W.seq ?_)
  refine W.region 160 194 (by decide) rfl rfl ?_
  refine RW.opd rfl rfl (LO.load_agg rfl rfl rfl ty27 rfl (Tk.lit rfl)) ?_
  refine RW.opd rfl rfl (LO.call0 (fr := []) rfl rfl ((same_good G0)) fok30 (.cons rfl (.pure (pkC_pure raw)) .nil) rfl) ?_
  refine RW.opd rfl rfl (LO.move rfl rfl) ?_
  refine RW.gd rfl rfl rfl ?_ rfl (LO.load_agg rfl rfl rfl ty27 rfl (Tk.lit rfl)) ?_; (· (first | rfl | assumption))
  refine RW.gd rfl rfl rfl ?_ rfl (LO.call0 (fr := []) rfl rfl ((same_good hgp)) fok30 (.cons rfl (.pure (pkC_pure p)) .nil) rfl) ?_; (· (first | rfl | assumption))
  refine RW.opd rfl rfl (LO.pick_t rfl rfl ?_ rfl) ?_; (· (first | rfl | assumption))
  refine RW.opd rfl rfl (LO.move rfl rfl) ?_
  refine RW.gd rfl rfl rfl ?_ rfl (LO.load_agg rfl rfl rfl ty27 rfl (Tk.lit rfl)) ?_; (· (first | rfl | assumption))
  refine RW.gd rfl rfl rfl ?_ rfl (LO.call0 (fr := []) rfl rfl ((same_good G2)) fok30 (.cons rfl (.pure (pkC_pure ⟨p.s, p.d, p.p, p.t, L⟩)) .nil) rfl) ?_; (· (first | rfl | assumption))
  refine RW.opd rfl rfl (LO.pick_t rfl rfl ?_ rfl) ?_; (· (first | rfl | assumption))
  refine RW.opd rfl rfl (LO.move rfl rfl) ?_
  refine RW.gd rfl rfl rfl ?_ rfl (LO.load_agg rfl rfl rfl ty27 rfl (Tk.lit rfl)) ?_; (· (first | rfl | assumption))
  refine RW.gd rfl rfl rfl ?_ rfl (LO.call0 (fr := []) rfl rfl ((signed_good G2)) fok31 (.cons rfl (.pure (pkC_pure ⟨p.s, p.d, p.p, p.t, L⟩)) .nil) rfl) ?_; (· (first | rfl | assumption))
  refine RW.gd rfl rfl rfl ?_ rfl (LO.call0 (fr := []) rfl rfl ((same_sgn G2)) fok30 (.cons rfl (.pure (pkC_pure (sgn ⟨p.s, p.d, p.p, p.t, L⟩))) .nil) rfl) ?_; (· (first | rfl | assumption))
  refine RW.opd rfl rfl (LO.pick_t rfl rfl ?_ rfl) ?_; (· (first | rfl | assumption))
  refine RW.opd rfl rfl (LO.move rfl rfl) ?_
  refine RW.gd rfl rfl rfl ?_ rfl (LO.load_agg rfl rfl rfl ty27 rfl (Tk.lit rfl)) ?_; (· (first | rfl | assumption))
  refine RW.gd rfl rfl rfl ?_ rfl (LO.call0 (fr := []) rfl rfl ((S3 _ _ (u8_bd _) (u8_bd _))) fok31 (.cons rfl (.pure rfl) .nil) rfl) ?_; (· (first | rfl | assumption))
  refine RW.gd rfl rfl rfl ?_ rfl (LO.call0 (fr := []) rfl rfl ((same_sgn (G3 _ _ (u8_bd _) (u8_bd _)))) fok30 (.cons rfl (.pure (pkC_pure (sgn ⟨p.s, p.d, p.p, p.t, p.bs ++ [IntKind.u8.wrap e1, IntKind.u8.wrap e2, 1, 2, 3, 4, 5, 6] ++ List.replicate (8 * w3) 0⟩))) .nil) rfl) ?_; (· (first | rfl | assumption))
  refine RW.opd rfl rfl (LO.pick_t rfl rfl ?_ rfl) ?_; (· (first | rfl | assumption))
  refine RW.opd rfl rfl (LO.move rfl rfl) ?_
  refine RW.gd rfl rfl rfl ?_ rfl (LO.load_agg rfl rfl rfl ty27 rfl (Tk.lit rfl)) ?_; (· (first | rfl | assumption))
  refine RW.gd rfl rfl rfl ?_ rfl (LO.call0 (fr := []) rfl rfl ((signed_good G4)) fok31 (.cons rfl (.pure (pkC_pure ⟨p.s, p.d, pv, tv, p.bs⟩)) .nil) rfl) ?_; (· (first | rfl | assumption))
  refine RW.gd rfl rfl rfl ?_ rfl (LO.call0 (fr := []) rfl rfl ((same_sgn G4)) fok30 (.cons rfl (.pure (pkC_pure (sgn ⟨p.s, p.d, pv, tv, p.bs⟩))) .nil) rfl) ?_; (· (first | rfl | assumption))
  refine RW.opd rfl rfl (LO.pick_t rfl rfl ?_ rfl) ?_; (· (first | rfl | assumption))
  refine RW.opd rfl rfl (LO.move rfl rfl) ?_
  refine RW.gd rfl rfl rfl ?_ rfl (LO.load_agg rfl rfl rfl ty27 rfl (Tk.lit rfl)) ?_; (· (first | rfl | assumption))
  refine RW.gd rfl rfl rfl ?_ rfl (LO.call0 (fr := []) rfl rfl ((S5 _ _ (u8_bd _) (u8_bd _))) fok31 (.cons rfl (.pure rfl) .nil) rfl) ?_; (· (first | rfl | assumption))
  refine RW.gd rfl rfl rfl ?_ rfl (LO.call0 (fr := []) rfl rfl ((same_sgn (G5 _ _ (u8_bd _) (u8_bd _)))) fok30 (.cons rfl (.pure (pkC_pure (sgn ⟨p.s, p.d, p.p, p.t, [IntKind.u8.wrap (133 + e4), IntKind.u8.wrap (e5 / 7), 0, 0] ++ b⟩))) .nil) rfl) ?_; (· (first | rfl | assumption))
  refine RW.opd rfl rfl (LO.pick_t rfl rfl ?_ rfl) ?_; (· (first | rfl | assumption))
  refine RW.opd rfl rfl (LO.move rfl rfl) ?_
  refine RW.gd rfl rfl rfl ?_ rfl (LO.call0 (fr := []) rfl rfl (haw) fok28 .nil rfl) ?_; (· (first | rfl | assumption))
  refine RW.opd rfl rfl (LO.pick_t rfl rfl ?_ rfl) ?_; (· (first | rfl | assumption))
  refine RW.opd rfl rfl (LO.assign rfl rfl) ?_
  refine RW.nil ?_
  repeat (refine W.seq ?_)
  refine W.ret ⟨.inl rfl, _, mt, (RVs.cons (RV.tmp rfl) RVs.nil), (by (repeat' (first | exact all_mt | refine all_up ?_ ?_)) <;> rfl), ?_⟩
  exact ⟨rfl, rfl⟩
end Go.Proofs.Ytoijkcnefnmbjaa
