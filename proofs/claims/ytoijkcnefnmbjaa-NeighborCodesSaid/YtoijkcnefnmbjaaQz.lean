/-
  Which messages are valid, and their packets: the statement's function answers true.
-/
import Derived.Test.YtoijkcnefnmbjaaQy
namespace Go.Proofs.Ytoijkcnefnmbjaa
open Go.RowKit
theorem sp1 {R Z : List AV} (hR : R.length = 12) (hZ : Z.length = 24) : Sp Z (0 * 12) R (R ++ Z.drop 12) := by
  have := Sp.of Z 0 R (by omega)
  simpa [hR] using this
theorem sp2 {R N Z : List AV} (hR : R.length = 12) (hN : N.length = 12) (hZ : Z.length = 24) : Sp (R ++ Z.drop 12) (1 * 12) N (R ++ N) := by
  have h := Sp.of (R ++ Z.drop 12) 12 N (by simp; omega)
  have e1 : (R ++ Z.drop 12).take 12 = R := by rw [List.take_append_of_le_length (by omega), List.take_of_length_le (by omega)]
  have e2 : (R ++ Z.drop 12).drop (12 + N.length) = [] := List.drop_eq_nil_of_le (by rw [List.length_append, List.length_drop]; omega)
  rw [e1, e2, List.append_nil] at h
  exact h
theorem tk2 {R N : List AV} (hR : R.length = 12) (hN : N.length = 12) {i : Nat} (hi : i < 2) : Tk (R ++ N) (0 + i * 12) 12 (if i = 0 then R else N) := by
  match i, hi with
  | 0, _ =>
    refine ⟨hR, fun j c hj => ?_⟩
    simp only [if_true] at hj
    rw [List.getElem?_append_left (by have := (List.getElem?_eq_some_iff.1 hj).1; omega)]
    simpa using hj
  | 1, _ =>
    refine ⟨hN, fun j c hj => ?_⟩
    simp only [Nat.one_ne_zero, if_false] at hj
    rw [List.getElem?_append_right (by omega), show 0 + 1 * 12 + j - R.length = j from by omega]
    exact hj
set_option maxHeartbeats 4000000 in
theorem codes_law (raw : Nb) (a b : Ad) (l : List Int) (hr : GoodN raw) (ha : GoodA a) (hb : GoodA b) (hl : l.length ≤ 9223372036854775807) : AFn Try.prog 4 0 [.agg (nbC raw), .agg (adC a), .agg (adC b), .isl (intsC l) l.length] mt (.base (.bool true)) mt := by
  refine AFn.eq Try.func4 rfl rfl (Nat.le_of_ble_eq_true rfl) ?_
  have hnew := new_any l
  obtain ⟨_, _, hmade, n, u, v, a1, ⟨hgn, hgx, hgy, hy⟩, rfl, rfl⟩ := made_any l 0 hl
  have haw := awake_any
  have htn := nbTk hgn
  have htr := nbTk hr
  have hnl : (nbC n).length = 12 := by simp [nbC, adC, bytesC_len, hgn.1.1]
  have hrl : (nbC raw).length = 12 := by simp [nbC, adC, bytesC_len, hr.1.1]
  have hpl : (nbC raw ++ nbC n).all AV.pure1 = true := by rw [List.all_append, nbC_pure, nbC_pure]; rfl
  unfold intsC
  repeat (refine W.seq ?_)
  refine W.region 0 4 (by decide) rfl rfl ?_
  refine RW.opd rfl rfl (LO.box rfl rfl rfl) ?_
  refine RW.opd rfl rfl (LO.box rfl rfl rfl) ?_
  refine RW.opd rfl rfl (LO.box rfl rfl rfl) ?_
  refine RW.opd rfl rfl (LO.assign rfl rfl) ?_
  refine RW.nil ?_
  repeat (refine W.seq ?_)
  refine W.region 8 21 (by decide) rfl rfl ?_
  refine RW.opd rfl rfl (LO.move rfl rfl) ?_
  refine RW.opd rfl rfl (LO.callN (fr := []) rfl rfl (hnew) fok11 (.cons rfl (.pure rfl) .nil) rfl (by decide)) ?_
  refine RW.opd rfl rfl (LO.call1 (fr := []) rfl rfl (hmade) fok23 (.own rfl rfl .nil) rfl rfl rfl (List.cons_ne_nil _ _) (by decide) (made_pure n u v)) ?_
  refine RW.opd rfl rfl (LO.move rfl rfl) ?_
  refine RW.opd rfl rfl (LO.extract rfl rfl rfl) ?_
  refine RW.opd rfl rfl (LO.extract rfl rfl rfl) ?_
  refine RW.opd rfl rfl (LO.extract rfl rfl rfl) ?_
  refine RW.opd rfl rfl (LO.alloc rfl ty52) ?_
  refine RW.opd rfl rfl (LO.alloc rfl ty24) ?_
  refine RW.opd rfl rfl (LO.alloc rfl ty24) ?_
  refine RW.opn rfl rfl (LO.store rfl rfl rfl rfl rfl ty52 hnl (by decide) (Sp.of_all hnl)) ?_
  refine RW.opn rfl rfl (LO.store rfl rfl rfl rfl rfl ty24 rfl (by decide) (Sp.lit rfl)) ?_
  refine RW.opn rfl rfl (LO.store rfl rfl rfl rfl rfl ty24 rfl (by decide) (Sp.lit rfl)) ?_
  refine RW.nil ?_
  unfold adC
  repeat (refine W.seq ?_)
  refine W.region 25 30 (by decide) rfl rfl ?_
  refine RW.opd rfl rfl (LO.load_agg rfl rfl rfl ty52 rfl (by first | exact htn | exact htr | exact Tk.lit rfl)) ?_
  refine RW.opd rfl rfl (LO.load_agg rfl rfl rfl ty52 rfl (by first | exact htn | exact htr | exact Tk.lit rfl)) ?_
  refine RW.opd rfl rfl (LO.buildSlice rfl ty55 ty52 (by decide) (by decide) (.cons rfl rfl rfl hrl (sp1 hrl rfl) (.cons rfl rfl rfl hnl (sp2 hrl hnl rfl) .nil))) ?_
  refine RW.opd rfl rfl (LO.len rfl rfl ty55) ?_
  refine RW.opd rfl rfl (LO.move rfl rfl) ?_
  refine RW.nil ?_
  repeat (refine W.seq ?_)
  refine W.block ?_
  refine W.loop_keep (α := Nat) (fun x => 2 - x) 5 (fun x => [(5, .own 0 0), (6, .own 1 0), (10, .own 2 0), (11, .own 3 0), (29, .osl 4 0 2 12), (31, .base (.int .i64 (x : Int)))]) (fun x => up (up (up (up (up mt 0 (some (adC a))) 1 (some (adC b))) 2 (some (adC u))) 3 (some (adC v))) 4 (some (nbC raw ++ nbC n))) (fun x => x ≤ 2) 0 [(0, 1), (1, 2), (2, 16), (3, 17), (4, 27)] (.cons (t := 30) rfl (by first | exact .inl rfl | exact .inr ⟨rfl, fun _ h => by cases h⟩ | (exact .inl (by assumption)) ) .nil) (show 0 ≤ 2 from Nat.zero_le _) (by decide) ?_ ?_ ?_
  · (repeat' (first | exact LookR.nil | refine LookR.cons ?_ ?_)) <;> first | exact .inl ⟨rfl, rfl⟩ | exact .inr ⟨rfl, fun _ h => by cases h⟩ | exact .inl ⟨rfl, by first | rfl | assumption ⟩
  · (repeat' (first | exact all_mt | refine all_up ?_ ?_)) <;> first | exact ⟨rfl, _, rfl, .inr ⟨rfl, rfl⟩⟩ | exact ⟨rfl, _, rfl, .inl rfl⟩ | exact ⟨rfl, _, rfl, .inr ⟨rfl, by first | rfl | assumption ⟩⟩
  rintro i hIA ihA
  try (dsimp only at hIA)
  try dsimp only [baseT, List.cons_append, List.nil_append]
  by_cases hc : i < 2
  · have g1 : decide ((i : Int) < 2) = true := decide_eq_true (by omega)
    have ht2 := tk2 hrl hnl hc
    obtain ⟨m, hm, hgm⟩ : ∃ m : Nb, (if i = 0 then nbC raw else nbC n) = nbC m ∧ GoodN m := by
      by_cases c : i = 0
      · exact ⟨raw, if_pos c, hr⟩
      · exact ⟨n, if_neg c, hgn⟩
    rw [hm] at ht2
    have hml : (nbC m).length = 12 := by simp [nbC, adC, bytesC_len, hgm.1.1]
    have htm := nbTk hgm
    repeat (refine W.seq ?_)
    refine W.region 34 35 (by decide) rfl rfl ?_
    refine RW.opd rfl rfl (LO.lss rfl rfl rfl) ?_
    refine RW.nil ?_
    repeat (refine W.seq ?_)
    refine W.cond_t rfl (by first | rfl | assumption) ?_
    refine W.skip ?_
    repeat (refine W.seq ?_)
    refine W.block ?_
    repeat (refine W.seq ?_)
    refine W.region 39 43 (by decide) rfl rfl ?_
    refine RW.opd rfl rfl (LO.indexAddr rfl rfl rfl rfl ty55 ty52 ?_) ?_; (· (first | omega | decide | assumption | fail | (simp; done) | (simp; omega)))
    refine RW.opd rfl rfl (LO.load_agg rfl rfl rfl ty52 rfl ht2) ?_
    refine RW.opd rfl rfl (LO.alloc rfl ty52) ?_
    refine RW.opn rfl rfl (LO.store rfl rfl rfl rfl rfl ty52 hml (by decide) (Sp.of_all hml)) ?_
    refine RW.nil ?_
    unfold adC
    repeat (refine W.seq ?_)
    refine W.region 47 59 (by decide) rfl rfl ?_
    refine RW.opd rfl rfl (LO.load_agg rfl rfl rfl ty24 rfl (Tk.lit rfl)) ?_
    refine RW.opd rfl rfl (LO.load_agg rfl rfl rfl ty24 rfl (Tk.lit rfl)) ?_
    refine RW.opd rfl rfl (LO.build_ar rfl ty56 ty24 (.cons rfl rfl rfl rfl (Sp.lit rfl) (.cons rfl rfl rfl rfl (Sp.lit rfl) .nil))) ?_
    refine RW.opd rfl rfl (LO.load_agg rfl rfl rfl ty24 rfl (Tk.lit rfl)) ?_
    refine RW.opd rfl rfl (LO.load_agg rfl rfl rfl ty24 rfl (Tk.lit rfl)) ?_
    refine RW.opd rfl rfl (LO.build_ar rfl ty56 ty24 (.cons rfl rfl rfl rfl (Sp.lit rfl) (.cons rfl rfl rfl rfl (Sp.lit rfl) .nil))) ?_
    refine RW.opd rfl rfl (LO.load_agg rfl rfl rfl ty24 rfl (Tk.lit rfl)) ?_
    refine RW.opd rfl rfl (LO.load_agg rfl rfl rfl ty24 rfl (Tk.lit rfl)) ?_
    refine RW.opd rfl rfl (LO.build_ar rfl ty56 ty24 (.cons rfl rfl rfl rfl (Sp.lit rfl) (.cons rfl rfl rfl rfl (Sp.lit rfl) .nil))) ?_
    refine RW.opd rfl rfl (LO.buildSlice rfl ty57 ty56 (by decide) (by decide) (.cons rfl rfl rfl rfl (Sp.lit rfl) (.cons rfl rfl rfl rfl (Sp.lit rfl) (.cons rfl rfl rfl rfl (Sp.lit rfl) .nil)))) ?_
    refine RW.opd rfl rfl (LO.len rfl rfl ty57) ?_
    refine RW.opd rfl rfl (LO.move rfl rfl) ?_
    refine RW.nil ?_
    obtain ⟨pr, hpr, hgp⟩ : ∃ pr : Nat → Ad × Ad, (∀ j, j < 3 → Tk (adC a ++ adC b ++ (adC u ++ adC v) ++ (adC v ++ adC a)) (0 + j * 6) 6 (adC (pr j).1 ++ adC (pr j).2)) ∧ ∀ j, GoodA (pr j).1 ∧ GoodA (pr j).2 := by
      refine ⟨fun j => if j = 0 then (a, b) else if j = 1 then (u, v) else (v, a), fun j hj => ?_, fun j => ?_⟩
      · match j, hj with
        | 0, _ => exact Tk.lit rfl
        | 1, _ => exact Tk.lit rfl
        | 2, _ => exact Tk.lit rfl
      · dsimp only
        split
        · exact ⟨ha, hb⟩
        · split
          · exact ⟨hgx, hgy⟩
          · exact ⟨hgy, ha⟩
    have hmp := nbC_pure m
    repeat (refine W.seq ?_)
    refine W.block ?_
    refine W.loop_keep (α := Nat) (fun x => 3 - x) 7 (fun x => [(5, .own 0 0), (6, .own 1 0), (10, .own 2 0), (11, .own 3 0), (29, .osl 4 0 2 12), (13, .own 5 0), (44, .osl 6 0 3 6), (46, .base (.int .i64 (x : Int)))]) (fun x => up (up (up (up (up (up (up mt 0 (some (adC a))) 1 (some (adC b))) 2 (some (adC u))) 3 (some (adC v))) 4 (some (nbC raw ++ nbC n))) 5 (some (nbC m))) 6 (some (adC a ++ adC b ++ (adC u ++ adC v) ++ (adC v ++ adC a)))) (fun x => x ≤ 3) 0 [(0, 0), (1, 1), (2, 2), (3, 3), (4, 4), (5, 41), (6, 56)] (.cons (t := 30) rfl (by first | exact .inl rfl | exact .inr ⟨rfl, fun _ h => by cases h⟩ | (exact .inl (by assumption)) ) (.cons (t := 31) rfl (by first | exact .inl rfl | exact .inr ⟨rfl, fun _ h => by cases h⟩ | (exact .inl (by assumption)) ) (.cons (t := 45) rfl (by first | exact .inl rfl | exact .inr ⟨rfl, fun _ h => by cases h⟩ | (exact .inl (by assumption)) ) .nil))) (show 0 ≤ 3 from Nat.zero_le _) (by decide) ?_ ?_ ?_
    · (repeat' (first | exact LookR.nil | refine LookR.cons ?_ ?_)) <;> first | exact .inl ⟨rfl, rfl⟩ | exact .inr ⟨rfl, fun _ h => by cases h⟩ | exact .inl ⟨rfl, by first | rfl | assumption ⟩
    · (repeat' (first | exact all_mt | refine all_up ?_ ?_)) <;> first | exact ⟨rfl, _, rfl, .inr ⟨rfl, rfl⟩⟩ | exact ⟨rfl, _, rfl, .inl rfl⟩ | exact ⟨rfl, _, rfl, .inr ⟨rfl, by first | rfl | assumption ⟩⟩
    rintro j hIB ihB
    try (dsimp only at hIB)
    try dsimp only [baseT, List.cons_append, List.nil_append]
    by_cases hcj : j < 3
    · have g2 : decide ((j : Int) < 3) = true := decide_eq_true (by omega)
      have ht3 := hpr j hcj
      obtain ⟨hgs, hgd⟩ := hgp j
      obtain ⟨s, hs⟩ : ∃ s, (pr j).1 = s := ⟨_, rfl⟩
      obtain ⟨d, hd⟩ : ∃ d, (pr j).2 = d := ⟨_, rfl⟩
      rw [hs] at ht3 hgs
      rw [hd] at ht3 hgd
      have he1 := enc_any m s d hgm.1.1 hgm.1.2 hgm.2.1 hgm.2.2 hgs.1 hgs.2 hgd.1 hgd.2
      have he2 := encX_any m s d hgm.1.1 hgm.1.2 hgm.2.1 hgm.2.2 hgs.1 hgs.2 hgd.1 hgd.2
      unfold encV at he1 he2
      obtain ⟨Q, hQ⟩ : ∃ Q, (if okN m s d then encN m s d else zPk) = Q := ⟨_, rfl⟩
      obtain ⟨ec, hec⟩ : ∃ ec : Int, (if okN m s d then (0 : Int) else 1) = ec := ⟨_, rfl⟩
      rw [hQ, hec] at he1 he2
      have hqp := pk_pure Q ec
      have hsm := same_self Q
      rw [pk_lit2] at he1 he2 hqp hsm
      unfold adC at he1 he2 ht3
      have hv1 := nvalid_any m hgm.1.1
      have hv2 := nvalidX_any m hgm.1.1
      have hvv : (validN m != validN m) = false := by simp
      have hee : (ec != ec) = false := by simp
      repeat (refine W.seq ?_)
      refine W.region 63 64 (by decide) rfl rfl ?_
      refine RW.opd rfl rfl (LO.lss rfl rfl rfl) ?_
      refine RW.nil ?_
      repeat (refine W.seq ?_)
      refine W.cond_t rfl (by first | rfl | assumption) ?_
      refine W.skip ?_
      repeat (refine W.seq ?_)
      refine W.block ?_
      repeat (refine W.seq ?_)
      refine W.region 68 72 (by decide) rfl rfl ?_
      refine RW.opd rfl rfl (LO.indexAddr rfl rfl rfl rfl ty57 ty56 ?_) ?_; (· (first | omega | decide | assumption | fail | (simp; done) | (simp; omega)))
      refine RW.opd rfl rfl (LO.load_agg rfl rfl rfl ty56 rfl ht3) ?_
      refine RW.opd rfl rfl (LO.alloc rfl ty56) ?_
      refine RW.opn rfl rfl (LO.store rfl rfl rfl rfl rfl ty56 rfl (by decide) (Sp.lit rfl)) ?_
      refine RW.nil ?_
      repeat (refine W.seq ?_)
      refine W.region 76 88 (by decide) rfl rfl ?_
      refine RW.opd rfl rfl (LO.load_agg rfl rfl rfl ty52 rfl (by first | exact htm | exact Tk.lit rfl)) ?_
      refine RW.opd rfl rfl (LO.indexAddr_ar rfl rfl rfl rfl ty56 ty24 ?_) ?_; (· (first | omega | decide | assumption | fail | (simp; done) | (simp; omega)))
      refine RW.opd rfl rfl (LO.load_agg rfl rfl rfl ty24 rfl (Tk.lit rfl)) ?_
      refine RW.opd rfl rfl (LO.indexAddr_ar rfl rfl rfl rfl ty56 ty24 ?_) ?_; (· (first | omega | decide | assumption | fail | (simp; done) | (simp; omega)))
      refine RW.opd rfl rfl (LO.load_agg rfl rfl rfl ty24 rfl (Tk.lit rfl)) ?_
      refine RW.opd rfl rfl (LO.call0 (fr := []) rfl rfl (he1) fok24 (.cons rfl (.pure (nbC_pure m)) (.cons rfl (.pure rfl) (.cons rfl (.pure rfl) .nil))) rfl) ?_
      refine RW.opd rfl rfl (LO.move rfl rfl) ?_
      refine RW.opd rfl rfl (LO.extract rfl rfl rfl) ?_
      refine RW.opd rfl rfl (LO.extract rfl rfl rfl) ?_
      refine RW.opd rfl rfl (LO.alloc rfl ty27) ?_
      refine RW.opn rfl rfl (LO.store rfl rfl rfl rfl rfl ty27 rfl (by decide) (Sp.lit rfl)) ?_
      refine RW.opd rfl rfl (LO.assign rfl rfl) ?_
      refine RW.nil ?_
      repeat (refine W.seq ?_)
      refine W.region 92 104 (by decide) rfl rfl ?_
      refine RW.opd rfl rfl (LO.load_agg rfl rfl rfl ty52 rfl (by first | exact htm | exact Tk.lit rfl)) ?_
      refine RW.opd rfl rfl (LO.indexAddr_ar rfl rfl rfl rfl ty56 ty24 ?_) ?_; (· (first | omega | decide | assumption | fail | (simp; done) | (simp; omega)))
      refine RW.opd rfl rfl (LO.load_agg rfl rfl rfl ty24 rfl (Tk.lit rfl)) ?_
      refine RW.opd rfl rfl (LO.indexAddr_ar rfl rfl rfl rfl ty56 ty24 ?_) ?_; (· (first | omega | decide | assumption | fail | (simp; done) | (simp; omega)))
      refine RW.opd rfl rfl (LO.load_agg rfl rfl rfl ty24 rfl (Tk.lit rfl)) ?_
      refine RW.opd rfl rfl (LO.call0 (fr := []) rfl rfl (he2) fok25 (.cons rfl (.pure (nbC_pure m)) (.cons rfl (.pure rfl) (.cons rfl (.pure rfl) .nil))) rfl) ?_
      refine RW.opd rfl rfl (LO.move rfl rfl) ?_
      refine RW.opd rfl rfl (LO.extract rfl rfl rfl) ?_
      refine RW.opd rfl rfl (LO.extract rfl rfl rfl) ?_
      refine RW.opd rfl rfl (LO.alloc rfl ty27) ?_
      refine RW.opn rfl rfl (LO.store rfl rfl rfl rfl rfl ty27 rfl (by decide) (Sp.lit rfl)) ?_
      refine RW.opd rfl rfl (LO.assign rfl rfl) ?_
      refine RW.nil ?_
      repeat (refine W.seq ?_)
      refine W.regionD 108 124 (by decide) rfl mixed rfl ?_
      refine RW.opd rfl rfl (LO.load_agg rfl rfl rfl ty52 rfl (by first | exact htm | exact Tk.lit rfl)) ?_
      refine RW.opd rfl rfl (LO.call0 (fr := []) rfl rfl (hv1) fok26 (.cons rfl (.pure (nbC_pure m)) .nil) rfl) ?_
      refine RW.opd rfl rfl (LO.load_agg rfl rfl rfl ty52 rfl (by first | exact htm | exact Tk.lit rfl)) ?_
      refine RW.opd rfl rfl (LO.call0 (fr := []) rfl rfl (hv2) fok27 (.cons rfl (.pure (nbC_pure m)) .nil) rfl) ?_
      refine RW.opd rfl rfl (LO.neq_bool rfl rfl rfl ty4) ?_
      refine RW.opd rfl rfl (LO.move rfl rfl) ?_
      refine RW.gd rfl rfl rfl ?_ rfl (LO.load_agg rfl rfl rfl ty27 rfl (Tk.lit rfl)) ?_; (· (first | rfl | assumption))
      refine RW.gd rfl rfl rfl ?_ rfl (LO.load_agg rfl rfl rfl ty27 rfl (Tk.lit rfl)) ?_; (· (first | rfl | assumption))
      refine RW.gd rfl rfl rfl ?_ rfl (LO.call0 (fr := []) rfl rfl (hsm) fok22 (.cons rfl (.pure rfl) (.cons rfl (.pure rfl) .nil)) rfl) ?_; (· (first | rfl | assumption))
      refine RW.gd rfl rfl rfl ?_ rfl (LO.not rfl rfl) ?_; (· (first | rfl | assumption))
      refine RW.opd rfl rfl (LO.pick_f rfl rfl ?_ rfl) ?_; (· (first | rfl | assumption))
      refine RW.opd rfl rfl (LO.move rfl rfl) ?_
      refine RW.gd rfl rfl rfl ?_ rfl (LO.move rfl rfl) ?_; (· (first | rfl | assumption))
      refine RW.gd rfl rfl rfl ?_ rfl (LO.move rfl rfl) ?_; (· (first | rfl | assumption))
      refine RW.gd rfl rfl rfl ?_ rfl (LO.neq rfl rfl rfl) ?_; (· (first | rfl | assumption))
      refine RW.opd rfl rfl (LO.pick_f rfl rfl ?_ rfl) ?_; (· (first | rfl | assumption))
      refine RW.nil ⟨by kernel_rfl, ?_⟩
      repeat (refine W.seq ?_)
      refine W.cond_f rfl (by first | rfl | assumption) ?_
      refine W.skip ?_
      repeat (refine W.seq ?_)
      refine W.region 133 135 (by decide) rfl rfl ?_
      refine RW.opd rfl rfl (LO.add_in rfl rfl rfl ?_) ?_; (· (first | exact IntWalk.i64_in _ (by omega) | assumption))
      refine RW.opd rfl rfl (LO.move rfl rfl) ?_
      refine RW.nil ?_
      refine WL.renameL [(0, 0), (1, 1), (2, 2), (3, 3), (4, 4), (5, 5), (6, 6)] 7 (by decide) ?_ ?_ (ihB (j + 1) (show 3 - (j + 1) < 3 - j from by omega) (show (j + 1) ≤ 3 from by omega))
      · (repeat' (first | exact LookR.nil | refine LookR.cons ?_ ?_)) <;> first | exact .inl ⟨rfl, rfl⟩ | exact .inr ⟨rfl, fun _ h => by cases h⟩ | exact .inl ⟨rfl, by first | rfl | assumption | exact rfl⟩
      · (repeat' (first | exact all_mt | refine all_up ?_ ?_)) <;> first | exact ⟨rfl, _, rfl, .inr ⟨rfl, rfl⟩⟩ | exact ⟨rfl, _, rfl, .inl rfl⟩ | exact ⟨rfl, _, rfl, .inr ⟨rfl, by first | rfl | assumption | exact rfl⟩⟩
    · have g2 : decide ((j : Int) < 3) = false := decide_eq_false (by omega)
      repeat (refine W.seq ?_)
      refine W.region 63 64 (by decide) rfl rfl ?_
      refine RW.opd rfl rfl (LO.lss rfl rfl rfl) ?_
      refine RW.nil ?_
      repeat (refine W.seq ?_)
      refine W.cond_f rfl (by first | rfl | assumption) ?_
      refine W.exit ?_
      repeat (refine W.seq ?_)
      refine W.region 139 141 (by decide) rfl rfl ?_
      refine RW.opd rfl rfl (LO.add_in rfl rfl rfl ?_) ?_; (· (first | exact IntWalk.i64_in _ (by omega) | assumption))
      refine RW.opd rfl rfl (LO.move rfl rfl) ?_
      refine RW.nil ?_
      refine WL.renameL [(0, 0), (1, 1), (2, 2), (3, 3), (4, 4)] 5 (by decide) ?_ ?_ (ihA (i + 1) (show 2 - (i + 1) < 2 - i from by omega) (show (i + 1) ≤ 2 from by omega))
      · (repeat' (first | exact LookR.nil | refine LookR.cons ?_ ?_)) <;> first | exact .inl ⟨rfl, rfl⟩ | exact .inr ⟨rfl, fun _ h => by cases h⟩ | exact .inl ⟨rfl, by first | rfl | assumption | exact rfl⟩
      · (repeat' (first | exact all_mt | refine all_up ?_ ?_)) <;> first | exact ⟨rfl, _, rfl, .inr ⟨rfl, rfl⟩⟩ | exact ⟨rfl, _, rfl, .inl rfl⟩ | exact ⟨rfl, _, rfl, .inr ⟨rfl, by first | rfl | assumption | exact rfl⟩⟩
  · have g1 : decide ((i : Int) < 2) = false := decide_eq_false (by omega)
    repeat (refine W.seq ?_)
    refine W.region 34 35 (by decide) rfl rfl ?_
    refine RW.opd rfl rfl (LO.lss rfl rfl rfl) ?_
    refine RW.nil ?_
    repeat (refine W.seq ?_)
    refine W.cond_f rfl (by first | rfl | assumption) ?_
    refine W.exit ?_
    repeat (refine W.seq ?_)
    refine W.region 145 147 (by decide) rfl rfl ?_
    refine RW.opd rfl rfl (LO.call0 (fr := []) rfl rfl (haw) fok28 .nil rfl) ?_
    refine RW.opd rfl rfl (LO.assign rfl rfl) ?_
    refine RW.nil ?_
    repeat (refine W.seq ?_)
    refine W.ret ⟨.inl rfl, _, mt, (RVs.cons (RV.tmp rfl) RVs.nil), (by (repeat' (first | exact all_mt | refine all_up ?_ ?_)) <;> rfl), ?_⟩
    exact ⟨rfl, rfl⟩
end Go.Proofs.Ytoijkcnefnmbjaa
