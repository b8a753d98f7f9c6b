/-
  Which packets are valid, their bytes, and which bytes are read: the statement's function answers true.
-/
import Derived.Test.YtoijkcnefnmbjaaCf
import Derived.Test.YtoijkcnefnmbjaaQy
namespace Go.Proofs.Ytoijkcnefnmbjaa
open Go.RowKit
theorem IsB.cons {x : Int} {l : List Int} (hx : 0 ≤ x ∧ x ≤ 255) (h : IsB l) : IsB (x :: l) := fun y hy => by
  rcases List.mem_cons.1 hy with rfl | hy
  · exact hx
  · exact h y hy
theorem IsB.nil : IsB [] := fun x hx => by cases hx
theorem encL2_isB {p : Pk} (hB : IsB p.bs) : IsB (encL2 p) := by
  unfold encL2
  cases hv : vpk p
  · exact IsB.nil
  · rw [if_pos rfl]
    obtain ⟨_, _, _, h5, h6, _⟩ := valid_parts hv
    unfold encB
    split
    · exact ((((IsB.cons (by decide) (IsB.cons (by decide) (IsB.cons (by decide) (IsB.cons (by decide) IsB.nil)))).append (putL_isB _)).append (IsB.cons h5 (IsB.cons h6 IsB.nil))).append ((addrL_isB _).append (addrL_isB _))).append hB
    · exact (((hdB_isB h5 h6).set 10 (u8_bd _)).set 11 (u8_bd _)).append hB
theorem encL2_len (p : Pk) (h : p.bs.length ≤ 2000) : (encL2 p).length ≤ 3000 := by
  have h1 := adl_len p.s
  have h2 := adl_len p.d
  unfold encL2
  split
  · unfold encB
    split
    · simp [putL]; omega
    · have h3 := hdB_len p
      simp [hdS]; omega
  · simp
theorem rd_same (X : List Int) : ∃ Q : Pk, ∃ e : Int, rdV (dcP X) (dcE X) = .tup [.agg (pkC Q), .base (.int .i64 e)] := ⟨_, _, rfl⟩
set_option maxHeartbeats 8000000 in
theorem pcodes_law (raw : Pk) (b : List Int) (l : List Int) (at_ by_ : Int) (hr : GoodA raw.s ∧ GoodA raw.d ∧ IsB raw.bs) (hB : IsB b) (hl : l.length ≤ 9223372036854775807) : AFn Try.prog 3 0 [.agg (pkC raw), .isl (bytesC b) b.length, .isl (intsC l) l.length, .base (.int .i64 at_), .base (.int .i64 by_)] mt (.base (.bool true)) mt := by
  refine AFn.eq Try.func3 rfl rfl (Nat.le_of_ble_eq_true rfl) ?_
  have haw := pawake_any
  have hs1 := short_any b
  have hs2 := short_any raw.bs
  unfold intsC
  rw [pk_lit2 raw]
  have hshort : (decide ((b.length : Int) ≤ 600) = false) ∨ (decide ((b.length : Int) ≤ 600) = true ∧ decide ((raw.bs.length : Int) ≤ 600) = false) ∨ (decide ((b.length : Int) ≤ 600) = true ∧ decide ((raw.bs.length : Int) ≤ 600) = true ∧ b.length ≤ 600 ∧ raw.bs.length ≤ 600) := by
    by_cases c1 : (b.length : Int) ≤ 600
    · by_cases c2 : (raw.bs.length : Int) ≤ 600
      · exact .inr (.inr ⟨by simpa using c1, by simpa using c2, by omega, by omega⟩)
      · exact .inr (.inl ⟨by simpa using c1, by simpa using c2⟩)
    · exact .inl (by simpa using c1)
  rcases hshort with e1 | ⟨e1, e2⟩ | ⟨e1, e2, hb6, hr6⟩
  · rw [e1] at hs1
    repeat (refine W.seq ?_)
    refine W.region 0 2 (by decide) rfl rfl ?_
    refine RW.opd rfl rfl (LO.box rfl rfl rfl) ?_
    refine RW.opd rfl rfl (LO.assign rfl rfl) ?_
    refine RW.nil ?_
    repeat (refine W.seq ?_)
    refine W.region 6 15 (by decide) rfl rfl ?_
    refine RW.opd rfl rfl (LO.move rfl rfl) ?_
    refine RW.opd rfl rfl (LO.call0 (fr := []) rfl rfl (hs1) fok9 (.cons rfl (.pure rfl) .nil) rfl) ?_
    refine RW.opd rfl rfl (LO.not rfl rfl) ?_
    refine RW.opd rfl rfl (LO.move rfl rfl) ?_
    refine RW.sd rfl rfl rfl ?_ rfl ?_; (· (first | rfl | assumption))
    refine RW.sd rfl rfl rfl ?_ rfl ?_; (· (first | rfl | assumption))
    refine RW.sd rfl rfl rfl ?_ rfl ?_; (· (first | rfl | assumption))
    refine RW.sd rfl rfl rfl ?_ rfl ?_; (· (first | rfl | assumption))
    refine RW.opd rfl rfl (LO.pick_t rfl rfl ?_ rfl) ?_; (· (first | rfl | assumption))
    refine RW.nil ?_
    repeat (refine W.seq ?_)
    refine W.cond_t rfl (by first | rfl | assumption) ?_
    repeat (refine W.seq ?_)
    refine W.region 19 21 (by decide) rfl rfl ?_
    refine RW.opd rfl rfl (LO.call0 (fr := []) rfl rfl (haw) fok10 .nil rfl) ?_
    refine RW.opd rfl rfl (LO.assign rfl rfl) ?_
    refine RW.nil ?_
    repeat (refine W.seq ?_)
    refine W.ret ⟨.inl rfl, _, mt, (RVs.cons (RV.tmp rfl) RVs.nil), (by (repeat' (first | exact all_mt | refine all_up ?_ ?_)) <;> rfl), ?_⟩
    exact ⟨rfl, rfl⟩
  · rw [e1] at hs1
    rw [e2] at hs2
    repeat (refine W.seq ?_)
    refine W.region 0 2 (by decide) rfl rfl ?_
    refine RW.opd rfl rfl (LO.box rfl rfl rfl) ?_
    refine RW.opd rfl rfl (LO.assign rfl rfl) ?_
    refine RW.nil ?_
    repeat (refine W.seq ?_)
    refine W.region 6 15 (by decide) rfl rfl ?_
    refine RW.opd rfl rfl (LO.move rfl rfl) ?_
    refine RW.opd rfl rfl (LO.call0 (fr := []) rfl rfl (hs1) fok9 (.cons rfl (.pure rfl) .nil) rfl) ?_
    refine RW.opd rfl rfl (LO.not rfl rfl) ?_
    refine RW.opd rfl rfl (LO.move rfl rfl) ?_
    refine RW.gd rfl rfl rfl ?_ rfl (LO.fieldAddr rfl rfl ty27 rfl (by decide)) ?_; (· (first | rfl | assumption))
    refine RW.gd rfl rfl rfl ?_ rfl (LO.load rfl rfl rfl rfl ty25 rfl) ?_; (· (first | rfl | assumption))
    refine RW.gd rfl rfl rfl ?_ rfl (LO.call0 (fr := []) rfl rfl (hs2) fok9 (.cons rfl (.pure rfl) .nil) rfl) ?_; (· (first | rfl | assumption))
    refine RW.gd rfl rfl rfl ?_ rfl (LO.not rfl rfl) ?_; (· (first | rfl | assumption))
    refine RW.opd rfl rfl (LO.pick_f rfl rfl ?_ rfl) ?_; (· (first | rfl | assumption))
    refine RW.nil ?_
    repeat (refine W.seq ?_)
    refine W.cond_t rfl (by first | rfl | assumption) ?_
    repeat (refine W.seq ?_)
    refine W.region 19 21 (by decide) rfl rfl ?_
    refine RW.opd rfl rfl (LO.call0 (fr := []) rfl rfl (haw) fok10 .nil rfl) ?_
    refine RW.opd rfl rfl (LO.assign rfl rfl) ?_
    refine RW.nil ?_
    repeat (refine W.seq ?_)
    refine W.ret ⟨.inl rfl, _, mt, (RVs.cons (RV.tmp rfl) RVs.nil), (by (repeat' (first | exact all_mt | refine all_up ?_ ?_)) <;> rfl), ?_⟩
    exact ⟨rfl, rfl⟩
  rw [e1] at hs1
  rw [e2] at hs2
  have hnew := new_any l
  obtain ⟨_, _, hmade, p, a1, ⟨hpB, hpl, hps, hpd⟩, rfl, rfl⟩ := pmade_any l 0 hl
  have henc := renc_any p hps.1 hps.2 hpd.1 hpd.2 hpB
  have hC := encL2_isB hpB
  have hCl := encL2_len p hpl
  unfold ecV at henc
  obtain ⟨C, hCe⟩ : ∃ C, encL2 p = C := ⟨_, rfl⟩
  rw [hCe] at henc hC hCl
  repeat (refine W.seq ?_)
  refine W.region 0 2 (by decide) rfl rfl ?_
  refine RW.opd rfl rfl (LO.box rfl rfl rfl) ?_
  refine RW.opd rfl rfl (LO.assign rfl rfl) ?_
  refine RW.nil ?_
  repeat (refine W.seq ?_)
  refine W.region 6 15 (by decide) rfl rfl ?_
  refine RW.opd rfl rfl (LO.move rfl rfl) ?_
  refine RW.opd rfl rfl (LO.call0 (fr := []) rfl rfl (hs1) fok9 (.cons rfl (.pure rfl) .nil) rfl) ?_
  refine RW.opd rfl rfl (LO.not rfl rfl) ?_
  refine RW.opd rfl rfl (LO.move rfl rfl) ?_
  refine RW.gd rfl rfl rfl ?_ rfl (LO.fieldAddr rfl rfl ty27 rfl (by decide)) ?_; (· (first | rfl | assumption))
  refine RW.gd rfl rfl rfl ?_ rfl (LO.load rfl rfl rfl rfl ty25 rfl) ?_; (· (first | rfl | assumption))
  refine RW.gd rfl rfl rfl ?_ rfl (LO.call0 (fr := []) rfl rfl (hs2) fok9 (.cons rfl (.pure rfl) .nil) rfl) ?_; (· (first | rfl | assumption))
  refine RW.gd rfl rfl rfl ?_ rfl (LO.not rfl rfl) ?_; (· (first | rfl | assumption))
  refine RW.opd rfl rfl (LO.pick_f rfl rfl ?_ rfl) ?_; (· (first | rfl | assumption))
  refine RW.nil ?_
  repeat (refine W.seq ?_)
  refine W.cond_f rfl (by first | rfl | assumption) ?_
  refine W.skip ?_
  repeat (refine W.seq ?_)
  refine W.region 25 28 (by decide) rfl rfl ?_
  refine RW.opd rfl rfl (LO.move rfl rfl) ?_
  refine RW.opd rfl rfl (LO.callN (fr := []) rfl rfl (hnew) fok11 (.cons rfl (.pure rfl) .nil) rfl (by decide)) ?_
  refine RW.opd rfl rfl (LO.assign rfl rfl) ?_
  refine RW.nil ?_
  repeat (refine W.seq ?_)
  refine W.region 32 36 (by decide) rfl rfl ?_
  refine RW.opd rfl rfl (LO.move rfl rfl) ?_
  refine RW.opd rfl rfl (LO.call1 (fr := []) rfl rfl (hmade) fok12 (.own rfl rfl .nil) rfl rfl rfl (List.cons_ne_nil _ _) (by decide) rfl) ?_
  refine RW.opd rfl rfl (LO.alloc rfl ty27) ?_
  refine RW.opn rfl rfl (LO.store rfl rfl rfl rfl rfl ty27 rfl (by decide) (Sp.lit rfl)) ?_
  refine RW.nil ?_
  repeat (refine W.seq ?_)
  refine W.region 40 47 (by decide) rfl rfl ?_
  refine RW.opd rfl rfl (LO.load_agg rfl rfl rfl ty27 rfl (Tk.lit rfl)) ?_
  refine RW.opd rfl rfl (LO.call0 (fr := []) rfl rfl (henc) fok13 (.cons rfl (.pure (pkC_pure p)) .nil) rfl) ?_
  refine RW.opd rfl rfl (LO.move rfl rfl) ?_
  refine RW.opd rfl rfl (LO.extract rfl rfl rfl) ?_
  refine RW.opd rfl rfl (LO.extract rfl rfl rfl) ?_
  refine RW.opd rfl rfl (LO.assign rfl rfl) ?_
  refine RW.opd rfl rfl (LO.assign rfl rfl) ?_
  refine RW.nil ?_
  rw [pk_lit2 p]
  repeat (refine W.seq ?_)
  refine W.region 51 56 (by decide) rfl rfl ?_
  refine RW.opd rfl rfl (LO.load_agg rfl rfl rfl ty27 rfl (Tk.lit rfl)) ?_
  refine RW.opd rfl rfl (LO.load_agg rfl rfl rfl ty27 rfl (Tk.lit rfl)) ?_
  refine RW.opd rfl rfl (LO.buildSlice rfl ty37 ty27 (by decide) (by decide) (.cons rfl rfl rfl rfl (Sp.lit rfl) (.cons rfl rfl rfl rfl (Sp.lit rfl) .nil))) ?_
  refine RW.opd rfl rfl (LO.len rfl rfl ty37) ?_
  refine RW.opd rfl rfl (LO.move rfl rfl) ?_
  refine RW.nil ?_
  repeat (refine W.seq ?_)
  refine W.block ?_
  have hel : ∀ i : Nat, i < 2 → ∃ m : Pk, (IsB m.bs ∧ m.bs.length ≤ 2000 ∧ GoodA m.s ∧ GoodA m.d) ∧ Tk (pkC raw ++ pkC p) (0 + i * 9) 9 (pkC m) := fun i hi => by
    rcases (show i = 0 ∨ i = 1 by omega) with rfl | rfl
    · exact ⟨raw, ⟨hr.2.2, by omega, hr.1, hr.2.1⟩, Tk.lit rfl⟩
    · exact ⟨p, ⟨hpB, hpl, hps, hpd⟩, Tk.lit rfl⟩
  refine W.loop_keep (α := Nat) (fun x => 2 - x) 1 (fun x => [(50, .osl 0 0 2 9), (52, .base (.int .i64 (x : Int)))]) (fun x => up mt 0 (some (pkC raw ++ pkC p))) (fun x => x ≤ 2) 0 [(0, 53)] (.cons (t := 1) rfl (by first | exact .inl rfl | exact .inr ⟨rfl, fun _ h => by cases h⟩ | (exact .inl (by assumption)) ) (.cons (t := 3) rfl (by first | exact .inl rfl | exact .inr ⟨rfl, fun _ h => by cases h⟩ | (exact .inl (by assumption)) ) (.cons (t := 4) rfl (by first | exact .inl rfl | exact .inr ⟨rfl, fun _ h => by cases h⟩ | (exact .inl (by assumption)) ) (.cons (t := 13) rfl (by first | exact .inl rfl | exact .inr ⟨rfl, fun _ h => by cases h⟩ | (exact .inl (by assumption)) ) (.cons (t := 51) rfl (by first | exact .inl rfl | exact .inr ⟨rfl, fun _ h => by cases h⟩ | (exact .inl (by assumption)) ) .nil))))) (show 0 ≤ 2 from Nat.zero_le _) (by decide) ?_ ?_ ?_
  · (repeat' (first | exact LookR.nil | refine LookR.cons ?_ ?_)) <;> first | exact .inl ⟨rfl, rfl⟩ | exact .inr ⟨rfl, fun _ h => by cases h⟩ | exact .inl ⟨rfl, by first | rfl | assumption ⟩
  · (repeat' (first | exact all_mt | refine all_up ?_ ?_)) <;> first | exact ⟨rfl, _, rfl, .inr ⟨rfl, rfl⟩⟩ | exact ⟨rfl, _, rfl, .inl rfl⟩ | exact ⟨rfl, _, rfl, .inr ⟨rfl, by first | rfl | assumption ⟩⟩
  rintro i hIA ihA
  try (dsimp only at hIA)
  try dsimp only [baseT, List.cons_append, List.nil_append]
  by_cases hc : i < 2
  · have g1 : decide ((i : Int) < 2) = true := decide_eq_true (by omega)
    obtain ⟨m, ⟨m1, m2, m3, m4⟩, hmt⟩ := hel i hc
    have hp1 := penc_any m m3.1 m3.2 m4.1 m4.2 m1
    have hr1 := renc_any m m3.1 m3.2 m4.1 m4.2 m1
    have hv1 := pvalid_any m
    have hv2 := rpvalid_any m
    have hpu := ecV_pure m
    unfold ecV at hp1 hr1 hpu
    obtain ⟨D, hD⟩ : ∃ D, encL2 m = D := ⟨_, rfl⟩
    obtain ⟨ec, hec⟩ : ∃ ec, encE m = ec := ⟨_, rfl⟩
    obtain ⟨vm, hvm⟩ : ∃ vm, vpk m = vm := ⟨_, rfl⟩
    rw [hD, hec] at hp1 hr1 hpu
    rw [hvm] at hv1 hv2
    have k1 : (!(vm == vm)) = false := by simp
    have k2 : (!((strOfNums D).toList == (strOfNums D).toList)) = false := by simp
    have k3 : (ec != ec) = false := by simp
    have hii : (i : Int) + 1 = ((i + 1 : Nat) : Int) := by omega
    repeat (refine W.seq ?_)
    refine W.region 60 61 (by decide) rfl rfl ?_
    refine RW.opd rfl rfl (LO.lss rfl rfl rfl) ?_
    refine RW.nil ?_
    repeat (refine W.seq ?_)
    refine W.cond_t rfl (by first | rfl | assumption) ?_
    refine W.skip ?_
    repeat (refine W.seq ?_)
    refine W.block ?_
    repeat (refine W.seq ?_)
    refine W.region 65 69 (by decide) rfl rfl ?_
    refine RW.opd rfl rfl (LO.indexAddr rfl rfl rfl rfl ty37 ty27 ?_) ?_; (· (first | omega | decide | assumption | fail | (simp; done) | (simp; omega)))
    refine RW.opd rfl rfl (LO.load_agg rfl rfl rfl ty27 rfl hmt) ?_
    refine RW.opd rfl rfl (LO.alloc rfl ty27) ?_
    refine RW.opn rfl rfl (LO.store rfl rfl rfl rfl rfl ty27 rfl (by decide) (Sp.lit rfl)) ?_
    refine RW.nil ?_
    repeat (refine W.seq ?_)
    refine W.region 73 80 (by decide) rfl rfl ?_
    refine RW.opd rfl rfl (LO.load_agg rfl rfl rfl ty27 rfl (Tk.lit rfl)) ?_
    refine RW.opd rfl rfl (LO.call0 (fr := []) rfl rfl (hp1) fok14 (.cons rfl (.pure (pkC_pure m)) .nil) rfl) ?_
    refine RW.opd rfl rfl (LO.move rfl rfl) ?_
    refine RW.opd rfl rfl (LO.extract rfl rfl rfl) ?_
    refine RW.opd rfl rfl (LO.extract rfl rfl rfl) ?_
    refine RW.opd rfl rfl (LO.assign rfl rfl) ?_
    refine RW.opd rfl rfl (LO.assign rfl rfl) ?_
    refine RW.nil ?_
    repeat (refine W.seq ?_)
    refine W.region 84 91 (by decide) rfl rfl ?_
    refine RW.opd rfl rfl (LO.load_agg rfl rfl rfl ty27 rfl (Tk.lit rfl)) ?_
    refine RW.opd rfl rfl (LO.call0 (fr := []) rfl rfl (hr1) fok13 (.cons rfl (.pure (pkC_pure m)) .nil) rfl) ?_
    refine RW.opd rfl rfl (LO.move rfl rfl) ?_
    refine RW.opd rfl rfl (LO.extract rfl rfl rfl) ?_
    refine RW.opd rfl rfl (LO.extract rfl rfl rfl) ?_
    refine RW.opd rfl rfl (LO.assign rfl rfl) ?_
    refine RW.opd rfl rfl (LO.assign rfl rfl) ?_
    refine RW.nil ?_
    repeat (refine W.seq ?_)
    refine W.regionD 95 112 (by decide) rfl mixed rfl ?_
    refine RW.opd rfl rfl (LO.load_agg rfl rfl rfl ty27 rfl (Tk.lit rfl)) ?_
    refine RW.opd rfl rfl (LO.call0 (fr := []) rfl rfl (hv1) fok15 (.cons rfl (.pure (pkC_pure m)) .nil) rfl) ?_
    refine RW.opd rfl rfl (LO.load_agg rfl rfl rfl ty27 rfl (Tk.lit rfl)) ?_
    refine RW.opd rfl rfl (LO.call0 (fr := []) rfl rfl (hv2) fok16 (.cons rfl (.pure (pkC_pure m)) .nil) rfl) ?_
    refine RW.opd rfl rfl (LO.neq_bool rfl rfl rfl ty4) ?_
    refine RW.opd rfl rfl (LO.move rfl rfl) ?_
    refine RW.gd rfl rfl rfl ?_ rfl (LO.move rfl rfl) ?_; (· (first | rfl | assumption))
    refine RW.gd rfl rfl rfl ?_ rfl (LO.str (xs := D) rfl rfl Try.underlying25 Try.underlying5 Try.underlying9) ?_; (· (first | rfl | assumption))
    refine RW.gd rfl rfl rfl ?_ rfl (LO.move rfl rfl) ?_; (· (first | rfl | assumption))
    refine RW.gd rfl rfl rfl ?_ rfl (LO.str (xs := D) rfl rfl Try.underlying25 Try.underlying5 Try.underlying9) ?_; (· (first | rfl | assumption))
    refine RW.gd rfl rfl rfl ?_ rfl (LO.neq_str rfl rfl rfl) ?_; (· (first | rfl | assumption))
    refine RW.opd rfl rfl (LO.pick_f rfl rfl ?_ rfl) ?_; (· (first | rfl | assumption))
    refine RW.opd rfl rfl (LO.move rfl rfl) ?_
    refine RW.gd rfl rfl rfl ?_ rfl (LO.move rfl rfl) ?_; (· (first | rfl | assumption))
    refine RW.gd rfl rfl rfl ?_ rfl (LO.move rfl rfl) ?_; (· (first | rfl | assumption))
    refine RW.gd rfl rfl rfl ?_ rfl (LO.neq rfl rfl rfl) ?_; (· (first | rfl | assumption))
    refine RW.opd rfl rfl (LO.pick_f rfl rfl ?_ rfl) ?_; (· (first | rfl | assumption))
    refine RW.nil ⟨by kernel_rfl, ?_⟩
    repeat (refine W.seq ?_)
    refine W.cond_f rfl (by first | rfl | assumption) ?_
    refine W.skip ?_
    repeat (refine W.seq ?_)
    refine W.region 121 123 (by decide) rfl rfl ?_
    refine RW.opd rfl rfl (LO.add_in rfl rfl rfl ?_) ?_; (· (first | exact IntWalk.i64_in _ (by omega) | assumption))
    refine RW.opd rfl rfl (LO.move rfl rfl) ?_
    refine RW.nil ?_
    rw [hii]
    refine WL.renameL [(0, 0)] 1 (by decide) ?_ ?_ (ihA (i + 1) (show 2 - (i + 1) < 2 - i from by omega) (show (i + 1) ≤ 2 from (show i + 1 ≤ 2 by omega)))
    · (repeat' (first | exact LookR.nil | refine LookR.cons ?_ ?_)) <;> first | exact .inl ⟨rfl, rfl⟩ | exact .inr ⟨rfl, fun _ h => by cases h⟩ | exact .inl ⟨rfl, by first | rfl | assumption ⟩
    · (repeat' (first | exact all_mt | refine all_up ?_ ?_)) <;> first | exact ⟨rfl, _, rfl, .inr ⟨rfl, rfl⟩⟩ | exact ⟨rfl, _, rfl, .inl rfl⟩ | exact ⟨rfl, _, rfl, .inr ⟨rfl, by first | rfl | assumption ⟩⟩
  have g1 : decide ((i : Int) < 2) = false := decide_eq_false (by omega)
  repeat (refine W.seq ?_)
  refine W.region 60 61 (by decide) rfl rfl ?_
  refine RW.opd rfl rfl (LO.lss rfl rfl rfl) ?_
  refine RW.nil ?_
  repeat (refine W.seq ?_)
  refine W.cond_f rfl (by first | rfl | assumption) ?_
  refine W.exit ?_
  obtain ⟨k1, hk1, hk1b⟩ := emod_nat by_ (show 0 < 4 by decide)
  have hm1 := mod_any by_ 4 (by decide) (by decide)
  rw [show by_ % 4 = (k1 : Int) from hk1] at hm1
  obtain ⟨k2, hk2, hk2b⟩ := emod_nat at_ (show 0 < 3 by decide)
  have hm2 := mod_any at_ 3 (by decide) (by decide)
  rw [show at_ % 3 = (k2 : Int) from hk2] at hm2
  obtain ⟨k3, hk3, hk3b⟩ := emod_nat (IntKind.i64.wrap (at_.tdiv 3)) (show 0 < 2 by decide)
  have hm3 := mod_any (IntKind.i64.wrap (at_.tdiv 3)) 2 (by decide) (by decide)
  rw [show IntKind.i64.wrap (at_.tdiv 3) % 2 = (k3 : Int) from hk3] at hm3
  obtain ⟨k4, hk4, hk4b⟩ := emod_nat at_ (show 0 < 20 by decide)
  have hm4 := mod_any at_ 20 (by decide) (by decide)
  rw [show at_ % 20 = (k4 : Int) from hk4] at hm4
  obtain ⟨k5, hk5, hk5b⟩ := emod_nat at_ (show 0 < C.length + 1 by omega)
  have hm5 := mod_any at_ ((C.length : Int) + 1) (by omega) (by omega)
  rw [show at_ % ((C.length : Int) + 1) = (k5 : Int) from hk5] at hm5
  obtain ⟨L1, ⟨hL1B, hL1l⟩, hsp1⟩ := spo_any C at_ by_ hC (by omega)
  obtain ⟨L2, ⟨hL2B, hL2l⟩, hsp2⟩ := spo_any C (k4 : Int) by_ hC (by omega)
  have hTH : ∀ c3 c6 c7 c23 : Int, Tk (bytesC [70, 0, 0, c3, 0, 0, c6, c7, 9, 6, 0, 0, 10, 0, 0, 1, 10, 0, 0, 2, 1, 1, 1, c23]) 0 (24 * 1) (bytesC [70, 0, 0, c3, 0, 0, c6, c7, 9, 6, 0, 0, 10, 0, 0, 1, 10, 0, 0, 2, 1, 1, 1, c23]) := fun c3 c6 c7 c23 => bytes_tk rfl
  repeat (refine W.seq ?_)
  refine W.region 127 145 (by decide) rfl rfl ?_
  refine RW.opd rfl rfl (LO.move rfl rfl) ?_
  refine RW.opd rfl rfl (LO.call0 (fr := []) rfl rfl (hm1) fok17 (.cons rfl (.pure rfl) (.cons rfl (.pure rfl) .nil)) rfl) ?_
  refine RW.opd rfl rfl (LO.add_in rfl rfl rfl ?_) ?_; (· (first | exact IntWalk.i64_in _ (by omega) | assumption))
  refine RW.opd rfl rfl (LO.conv rfl rfl ty3 ty5) ?_
  refine RW.opd rfl rfl (LO.move rfl rfl) ?_
  refine RW.opd rfl rfl (LO.call0 (fr := []) rfl rfl (hm2) fok17 (.cons rfl (.pure rfl) (.cons rfl (.pure rfl) .nil)) rfl) ?_
  refine RW.opd rfl rfl (LO.mul_in rfl rfl rfl ?_) ?_; (· (first | exact IntWalk.i64_in _ (by omega) | assumption))
  refine RW.opd rfl rfl (LO.conv rfl rfl ty3 ty5) ?_
  refine RW.opd rfl rfl (LO.move rfl rfl) ?_
  refine RW.opd rfl rfl (LO.quo rfl rfl rfl (by decide)) ?_
  refine RW.opd rfl rfl (LO.call0 (fr := []) rfl rfl (hm3) fok17 (.cons rfl (.pure rfl) (.cons rfl (.pure rfl) .nil)) rfl) ?_
  refine RW.opd rfl rfl (LO.conv rfl rfl ty3 ty5) ?_
  refine RW.opd rfl rfl (LO.move rfl rfl) ?_
  refine RW.opd rfl rfl (LO.conv rfl rfl ty3 ty5) ?_
  refine RW.opd rfl rfl (LO.buildSlice rfl ty25 ty5 (by decide) (by decide) (.cons rfl rfl rfl rfl (Sp.lit rfl) (.cons rfl rfl rfl rfl (Sp.lit rfl) (.cons rfl rfl rfl rfl (Sp.lit rfl) (.cons rfl rfl rfl rfl (Sp.lit rfl) (.cons rfl rfl rfl rfl (Sp.lit rfl) (.cons rfl rfl rfl rfl (Sp.lit rfl) (.cons rfl rfl rfl rfl (Sp.lit rfl) (.cons rfl rfl rfl rfl (Sp.lit rfl) (.cons rfl rfl rfl rfl (Sp.lit rfl) (.cons rfl rfl rfl rfl (Sp.lit rfl) (.cons rfl rfl rfl rfl (Sp.lit rfl) (.cons rfl rfl rfl rfl (Sp.lit rfl) (.cons rfl rfl rfl rfl (Sp.lit rfl) (.cons rfl rfl rfl rfl (Sp.lit rfl) (.cons rfl rfl rfl rfl (Sp.lit rfl) (.cons rfl rfl rfl rfl (Sp.lit rfl) (.cons rfl rfl rfl rfl (Sp.lit rfl) (.cons rfl rfl rfl rfl (Sp.lit rfl) (.cons rfl rfl rfl rfl (Sp.lit rfl) (.cons rfl rfl rfl rfl (Sp.lit rfl) (.cons rfl rfl rfl rfl (Sp.lit rfl) (.cons rfl rfl rfl rfl (Sp.lit rfl) (.cons rfl rfl rfl rfl (Sp.lit rfl) (.cons rfl rfl rfl rfl (Sp.lit rfl) .nil))))))))))))))))))))))))) ?_
  refine RW.opd rfl rfl (LO.move rfl rfl) ?_
  refine RW.opd rfl rfl (LO.append rfl rfl (SrcAV.isl rfl rfl (by simp [bytesC_len])) rfl (hTH (IntKind.u8.wrap (24 + (k1 : Int))) (IntKind.u8.wrap ((k2 : Int) * 32)) (IntKind.u8.wrap (k3 : Int)) (IntKind.u8.wrap by_)) ty25 ty25 ty5 (by decide) (by omega) (by omega) (by decide)) ?_
  refine RW.opd rfl rfl (LO.assign rfl rfl) ?_
  refine RW.nil ?_
  rw [← bytesC_app]
  obtain ⟨X0, hX0, hX0l, hX0B⟩ : ∃ X0, [70, 0, 0, IntKind.u8.wrap (24 + (k1 : Int)), 0, 0, IntKind.u8.wrap ((k2 : Int) * 32), IntKind.u8.wrap (k3 : Int), 9, 6, 0, 0, 10, 0, 0, 1, 10, 0, 0, 2, 1, 1, 1, IntKind.u8.wrap by_] ++ b = X0 ∧ X0.length = 24 + b.length ∧ IsB X0 := by
    refine ⟨_, rfl, by rw [List.length_append]; rfl, IsB.append (fun x hx => ?_) hB⟩
    have w1 := u8_bd (24 + (k1 : Int))
    have w2 := u8_bd ((k2 : Int) * 32)
    have w3 := u8_bd (k3 : Int)
    have w4 := u8_bd by_
    simp only [List.mem_cons, List.not_mem_nil, or_false] at hx
    omega
  rw [hX0]
  have hX24 : (X0.take 24).length = 24 := by rw [List.length_take]; omega
  have hsum := sumX_any (X0.take 24) (hX0B.take 24) (by omega)
  have hsb := sumL_bd (hX0B.take 24)
  rw [hX24] at hsum
  obtain ⟨S, hS⟩ : ∃ S, sumL (X0.take 24) = S := ⟨_, rfl⟩
  rw [hS] at hsum hsb
  repeat (refine W.seq ?_)
  refine W.region 149 153 (by decide) rfl rfl ?_
  refine RW.opd rfl rfl (LO.move rfl rfl) ?_
  refine RW.opd rfl rfl (LO.slice rfl rfl Bnd.no (Bnd.at rfl rfl) ?_ ?_ ty25 ty5) ?_; (· (first | omega | decide | assumption | (exact Nat.le_add_right _ _) | (simp; done) | (simp; omega))); (· (first | omega | decide | assumption | (exact Nat.le_add_right _ _) | (simp; done) | (simp; omega)))
  refine RW.opd rfl rfl (LO.callB (fr := [143]) rfl rfl (hsum) fok18 (.cons rfl (.one (.osl (by decide) rfl (by_take (k := 24) (by omega)) (bytesC_pure _))) .nil)) ?_
  refine RW.opd rfl rfl (LO.assign rfl rfl) ?_
  refine RW.nil ?_
  repeat (refine W.seq ?_)
  refine W.region 157 168 (by decide) rfl rfl ?_
  refine RW.opd rfl rfl (LO.move rfl rfl) ?_
  refine RW.opd rfl rfl (LO.move rfl rfl) ?_
  refine RW.opd rfl rfl (LO.move rfl rfl) ?_
  refine RW.opd rfl rfl (LO.shr rfl rfl rfl ?_) ?_; (· (first | omega | decide | assumption | fail | (simp; done) | (simp; omega)))
  refine RW.opd rfl rfl (LO.conv rfl rfl ty40 ty5) ?_
  refine RW.opd rfl rfl (LO.move rfl rfl) ?_
  refine RW.opd rfl rfl (LO.conv rfl rfl ty40 ty5) ?_
  refine RW.opd rfl rfl (LO.indexAddr rfl rfl rfl rfl ty25 ty5 ?_) ?_; (· (first | omega | decide | assumption | fail | (simp; done) | (simp; omega)))
  refine RW.opn rfl rfl (LO.store rfl rfl rfl rfl rfl ty5 rfl (by decide) (by_sp (l := X0) (k := 10) (by omega))) ?_
  refine RW.opd rfl rfl (LO.indexAddr rfl rfl rfl rfl ty25 ty5 ?_) ?_; (· (first | omega | decide | assumption | fail | (simp; done) | (simp; omega)))
  refine RW.opn rfl rfl (LO.store rfl rfl rfl rfl rfl ty5 rfl (by decide) (by_sp (l := X0.set 10 _) (k := 11) (by simp; omega))) ?_
  refine RW.nil ?_
  rw [hi16]
  obtain ⟨X, hX, hXl, hXB⟩ : ∃ X, (X0.set 10 (hi8 S)).set 11 (IntKind.u8.wrap S) = X ∧ X.length = 24 + b.length ∧ IsB X := ⟨_, rfl, by simp [hX0l], (hX0B.set 10 (u8_bd _)).set 11 (u8_bd _)⟩
  rw [hX]
  have hCbl : (C ++ b).length = C.length + b.length := List.length_append
  have hk5l : (C.take k5).length = k5 := by rw [List.length_take]; exact Nat.min_eq_left (by omega)
  repeat (refine W.seq ?_)
  refine W.region 172 198 (by decide) rfl rfl ?_
  refine RW.opd rfl rfl (LO.move rfl rfl) ?_
  refine RW.opd rfl rfl (LO.move rfl rfl) ?_
  refine RW.opd rfl rfl (LO.move rfl rfl) ?_
  refine RW.opd rfl rfl (LO.move rfl rfl) ?_
  refine RW.opd rfl rfl (LO.move rfl rfl) ?_
  refine RW.opd rfl rfl (LO.call0 (fr := []) rfl rfl (hsp1) fok19 (.cons rfl (.pure rfl) (.cons rfl (.pure rfl) (.cons rfl (.pure rfl) .nil))) rfl) ?_
  refine RW.opd rfl rfl (LO.move rfl rfl) ?_
  refine RW.opd rfl rfl (LO.move rfl rfl) ?_
  refine RW.opd rfl rfl (LO.call0 (fr := []) rfl rfl (hm4) fok17 (.cons rfl (.pure rfl) (.cons rfl (.pure rfl) .nil)) rfl) ?_
  refine RW.opd rfl rfl (LO.move rfl rfl) ?_
  refine RW.opd rfl rfl (LO.call0 (fr := []) rfl rfl (hsp2) fok19 (.cons rfl (.pure rfl) (.cons rfl (.pure rfl) (.cons rfl (.pure rfl) .nil))) rfl) ?_
  refine RW.opd rfl rfl (LO.move rfl rfl) ?_
  refine RW.opd rfl rfl (LO.append_nil rfl rfl (SrcAV.isl rfl rfl (by simp [bytesC_len])) ty25 ty25 ty5 (by decide) (by omega) (by omega) (by decide)) ?_
  refine RW.opd rfl rfl (LO.move rfl rfl) ?_
  refine RW.opd rfl rfl (LO.append rfl rfl (SrcAV.isl rfl rfl (by simp [bytesC_len])) rfl (bytes_tk rfl) ty25 ty25 ty5 (by decide) (by omega) (by omega) (by decide)) ?_
  refine RW.opd rfl rfl (LO.move rfl rfl) ?_
  refine RW.opd rfl rfl (LO.move rfl rfl) ?_
  refine RW.opd rfl rfl (LO.move rfl rfl) ?_
  refine RW.opd rfl rfl (LO.move rfl rfl) ?_
  refine RW.opd rfl rfl (LO.len_isl rfl rfl rfl ty25) ?_
  refine RW.opd rfl rfl (LO.add_in rfl rfl rfl ?_) ?_; (· (first | exact IntWalk.i64_in _ (by omega) | assumption))
  refine RW.opd rfl rfl (LO.call0 (fr := []) rfl rfl (hm5) fok17 (.cons rfl (.pure rfl) (.cons rfl (.pure rfl) .nil)) rfl) ?_
  refine RW.opd rfl rfl (LO.slice_isl rfl rfl rfl Bnd.no (Bnd.at rfl rfl) ?_ ?_ ty25 ty5 (by_take (l := C) (k := k5) (by omega))) ?_; (· (first | omega | decide | assumption | fail | (simp; done) | (simp; omega))); (· (first | omega | decide | assumption | fail | (simp; done) | (simp; omega)))
  refine RW.opd rfl rfl (LO.buildSlice rfl ty44 ty25 (by decide) (by decide) (.cons rfl rfl rfl rfl (Sp.lit rfl) (.cons rfl rfl rfl rfl (Sp.lit rfl) (.cons rfl rfl rfl rfl (Sp.lit rfl) (.cons rfl rfl rfl rfl (Sp.lit rfl) (.cons rfl rfl rfl rfl (Sp.lit rfl) (.cons rfl rfl rfl rfl (Sp.lit rfl) (.cons rfl rfl rfl rfl (Sp.lit rfl) .nil)))))))) ?_
  refine RW.opd rfl rfl (LO.len rfl rfl ty44) ?_
  refine RW.opd rfl rfl (LO.move rfl rfl) ?_
  refine RW.nil ?_
  refine W.frzc (q := 195) (j := 4) (r := 186) rfl rfl (by decide) rfl (by_tk2 rfl) (bytesC_pure _) (Sp.lit rfl) ?_
  refine W.frzc (q := 195) (j := 5) (r := 143) rfl rfl (by decide) rfl (bytes_tk hXl) (bytesC_pure _) (Sp.lit rfl) ?_
  have hel2 : ∀ i : Nat, i < 7 → ∃ Y : List Int, (IsB Y ∧ Y.length ≤ 1000000) ∧ ([.isl (bytesC b) b.length, .isl (bytesC C) C.length, .isl (bytesC L1) L1.length, .isl (bytesC L2) L2.length, .isl (bytesC (C ++ b)) (C.length + b.length), .isl (bytesC X) (24 + b.length), .isl (bytesC (C.take k5)) k5] : List AV)[0 + i * 1]? = some (.isl (bytesC Y) Y.length) := fun i hi => by
    rcases (show i = 0 ∨ i = 1 ∨ i = 2 ∨ i = 3 ∨ i = 4 ∨ i = 5 ∨ i = 6 by omega) with rfl | rfl | rfl | rfl | rfl | rfl | rfl
    · exact ⟨b, ⟨hB, by omega⟩, rfl⟩
    · exact ⟨C, ⟨hC, by omega⟩, rfl⟩
    · exact ⟨L1, ⟨hL1B, by omega⟩, rfl⟩
    · exact ⟨L2, ⟨hL2B, by omega⟩, rfl⟩
    · exact ⟨C ++ b, ⟨hC.append hB, by omega⟩, by rw [hCbl]; rfl⟩
    · exact ⟨X, ⟨hXB, by omega⟩, by rw [hXl]; rfl⟩
    · exact ⟨C.take k5, ⟨hC.take _, by omega⟩, by rw [hk5l]; rfl⟩
  repeat (refine W.seq ?_)
  refine W.block ?_
  refine W.loop_keep (α := Nat) (fun x => 7 - x) 1 (fun x => [(136, .osl 0 0 7 1), (138, .base (.int .i64 (x : Int)))]) (fun x => up mt 0 (some ([.isl (bytesC b) b.length, .isl (bytesC C) C.length, .isl (bytesC L1) L1.length, .isl (bytesC L2) L2.length, .isl (bytesC (C ++ b)) (C.length + b.length), .isl (bytesC X) (24 + b.length), .isl (bytesC (C.take k5)) k5]))) (fun x => x ≤ 7) 0 [(0, 195)] (.cons (t := 137) rfl (by first | exact .inl rfl | exact .inr ⟨rfl, fun _ h => by cases h⟩ | (exact .inl (by assumption)) ) .nil) (show 0 ≤ 7 from Nat.zero_le _) (by decide) ?_ ?_ ?_
  · (repeat' (first | exact LookR.nil | refine LookR.cons ?_ ?_)) <;> first | exact .inl ⟨rfl, rfl⟩ | exact .inr ⟨rfl, fun _ h => by cases h⟩ | exact .inl ⟨rfl, by first | rfl | assumption ⟩
  · (repeat' (first | exact all_mt | refine all_up ?_ ?_)) <;> first | exact ⟨rfl, _, rfl, .inr ⟨rfl, rfl⟩⟩ | exact ⟨rfl, _, rfl, .inl rfl⟩ | exact ⟨rfl, _, rfl, .inr ⟨rfl, by first | rfl | assumption ⟩⟩
  rintro i hIB ihB
  try (dsimp only at hIB)
  try dsimp only [baseT, List.cons_append, List.nil_append]
  by_cases hc : i < 7
  · have g1 : decide ((i : Int) < 7) = true := decide_eq_true (by omega)
    obtain ⟨Y, ⟨hYB, hYl⟩, hYe⟩ := hel2 i hc
    have hd1 := pdec_any Y hYB hYl
    have hd2 := rdec_any Y hYB hYl
    obtain ⟨Q, ec, hQ⟩ := rd_same Y
    rw [hQ] at hd1 hd2
    have hsm := same_self Q
    have k3 : (ec != ec) = false := by simp
    have hii : (i : Int) + 1 = ((i + 1 : Nat) : Int) := by omega
    repeat (refine W.seq ?_)
    refine W.region 202 203 (by decide) rfl rfl ?_
    refine RW.opd rfl rfl (LO.lss rfl rfl rfl) ?_
    refine RW.nil ?_
    repeat (refine W.seq ?_)
    refine W.cond_t rfl (by first | rfl | assumption) ?_
    refine W.skip ?_
    repeat (refine W.seq ?_)
    refine W.block ?_
    repeat (refine W.seq ?_)
    refine W.region 207 210 (by decide) rfl rfl ?_
    refine RW.opd rfl rfl (LO.indexAddr rfl rfl rfl rfl ty44 ty25 ?_) ?_; (· (first | omega | decide | assumption | fail | (simp; done) | (simp; omega)))
    refine RW.opd rfl rfl (LO.load rfl rfl rfl hYe ty25 rfl) ?_
    refine RW.opd rfl rfl (LO.assign rfl rfl) ?_
    refine RW.nil ?_
    repeat (refine W.seq ?_)
    refine W.region 214 222 (by decide) rfl rfl ?_
    refine RW.opd rfl rfl (LO.move rfl rfl) ?_
    refine RW.opd rfl rfl (LO.call0 (fr := []) rfl rfl (hd1) fok20 (.cons rfl (.pure rfl) .nil) rfl) ?_
    refine RW.opd rfl rfl (LO.move rfl rfl) ?_
    refine RW.opd rfl rfl (LO.extract rfl rfl rfl) ?_
    refine RW.opd rfl rfl (LO.extract rfl rfl rfl) ?_
    refine RW.opd rfl rfl (LO.alloc rfl ty27) ?_
    refine RW.opn rfl rfl (LO.store rfl rfl rfl rfl rfl ty27 rfl (by decide) (Sp.lit rfl)) ?_
    refine RW.opd rfl rfl (LO.assign rfl rfl) ?_
    refine RW.nil ?_
    repeat (refine W.seq ?_)
    refine W.region 226 234 (by decide) rfl rfl ?_
    refine RW.opd rfl rfl (LO.move rfl rfl) ?_
    refine RW.opd rfl rfl (LO.call0 (fr := []) rfl rfl (hd2) fok21 (.cons rfl (.pure rfl) .nil) rfl) ?_
    refine RW.opd rfl rfl (LO.move rfl rfl) ?_
    refine RW.opd rfl rfl (LO.extract rfl rfl rfl) ?_
    refine RW.opd rfl rfl (LO.extract rfl rfl rfl) ?_
    refine RW.opd rfl rfl (LO.alloc rfl ty27) ?_
    refine RW.opn rfl rfl (LO.store rfl rfl rfl rfl rfl ty27 rfl (by decide) (Sp.lit rfl)) ?_
    refine RW.opd rfl rfl (LO.assign rfl rfl) ?_
    refine RW.nil ?_
    repeat (refine W.seq ?_)
    refine W.region 238 247 (by decide) rfl rfl ?_
    refine RW.opd rfl rfl (LO.load_agg rfl rfl rfl ty27 rfl (Tk.lit rfl)) ?_
    refine RW.opd rfl rfl (LO.load_agg rfl rfl rfl ty27 rfl (Tk.lit rfl)) ?_
    refine RW.opd rfl rfl (LO.call0 (fr := []) rfl rfl (hsm) fok22 (.cons rfl (.pure (pkC_pure Q)) (.cons rfl (.pure (pkC_pure Q)) .nil)) rfl) ?_
    refine RW.opd rfl rfl (LO.not rfl rfl) ?_
    refine RW.opd rfl rfl (LO.move rfl rfl) ?_
    refine RW.gd rfl rfl rfl ?_ rfl (LO.move rfl rfl) ?_; (· (first | rfl | assumption))
    refine RW.gd rfl rfl rfl ?_ rfl (LO.move rfl rfl) ?_; (· (first | rfl | assumption))
    refine RW.gd rfl rfl rfl ?_ rfl (LO.neq rfl rfl rfl) ?_; (· (first | rfl | assumption))
    refine RW.opd rfl rfl (LO.pick_f rfl rfl ?_ rfl) ?_; (· (first | rfl | assumption))
    refine RW.nil ?_
    repeat (refine W.seq ?_)
    refine W.cond_f rfl (by first | rfl | assumption) ?_
    refine W.skip ?_
    repeat (refine W.seq ?_)
    refine W.region 256 258 (by decide) rfl rfl ?_
    refine RW.opd rfl rfl (LO.add_in rfl rfl rfl ?_) ?_; (· (first | exact IntWalk.i64_in _ (by omega) | assumption))
    refine RW.opd rfl rfl (LO.move rfl rfl) ?_
    refine RW.nil ?_
    rw [hii]
    refine WL.renameL [(0, 0)] 1 (by decide) ?_ ?_ (ihB (i + 1) (show 7 - (i + 1) < 7 - i from by omega) (show (i + 1) ≤ 7 from (show i + 1 ≤ 7 by omega)))
    · (repeat' (first | exact LookR.nil | refine LookR.cons ?_ ?_)) <;> first | exact .inl ⟨rfl, rfl⟩ | exact .inr ⟨rfl, fun _ h => by cases h⟩ | exact .inl ⟨rfl, by first | rfl | assumption ⟩
    · (repeat' (first | exact all_mt | refine all_up ?_ ?_)) <;> first | exact ⟨rfl, _, rfl, .inr ⟨rfl, rfl⟩⟩ | exact ⟨rfl, _, rfl, .inl rfl⟩ | exact ⟨rfl, _, rfl, .inr ⟨rfl, by first | rfl | assumption ⟩⟩
  have g1 : decide ((i : Int) < 7) = false := decide_eq_false (by omega)
  repeat (refine W.seq ?_)
  refine W.region 202 203 (by decide) rfl rfl ?_
  refine RW.opd rfl rfl (LO.lss rfl rfl rfl) ?_
  refine RW.nil ?_
  repeat (refine W.seq ?_)
  refine W.cond_f rfl (by first | rfl | assumption) ?_
  refine W.exit ?_
  repeat (refine W.seq ?_)
  refine W.region 262 264 (by decide) rfl rfl ?_
  refine RW.opd rfl rfl (LO.call0 (fr := []) rfl rfl (haw) fok10 .nil rfl) ?_
  refine RW.opd rfl rfl (LO.assign rfl rfl) ?_
  refine RW.nil ?_
  repeat (refine W.seq ?_)
  refine W.ret ⟨.inl rfl, _, mt, (RVs.cons (RV.tmp rfl) RVs.nil), (by (repeat' (first | exact all_mt | refine all_up ?_ ?_)) <;> rfl), ?_⟩
  exact ⟨rfl, rfl⟩
end Go.Proofs.Ytoijkcnefnmbjaa
