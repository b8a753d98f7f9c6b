/-
  ForwardLoads returns true.
-/
import Derived.Test.YthbdngfnbpkefaaIe
namespace Go.Proofs.Ythbdngfnbpkefaa
open Go.RowKit
theorem small_set {l : List Int} {n : Int} {i : Nat} (h : i < l.length) : (((l.take i).map (· % n)) ++ List.replicate (l.length - i) 0).set i (gI l i % n) = ((l.take (i + 1)).map (· % n)) ++ List.replicate (l.length - (i + 1)) 0 := by
  obtain ⟨m, hm⟩ : ∃ m, l.length - i = m + 1 := ⟨l.length - i - 1, by omega⟩
  have e : (l.take (i + 1)).map (· % n) = (l.take i).map (· % n) ++ [l[i] % n] := by
    have e2 : l.take (i + 1) = l.take i ++ [l[i]] := by rw [List.take_add_one]; simp [h]
    rw [e2, List.map_append]; rfl
  rw [show l.length - (i + 1) = m from by omega, hm, List.replicate_succ, List.set_append_right _ _ (by simp; omega), e, gI_at h]
  rw [show i - ((l.take i).map (· % n)).length = 0 from by simp; omega]
  simp
theorem ints_tk3 {l : List Int} (h : 3 ≤ l.length) : Tk (intsC l) (0 * 1) ((3 - 0) * 1) (intsC (l.take 3)) := by
  refine ⟨by simp [intsC]; omega, fun j c hj => ?_⟩
  simp only [intsC, List.map_take, List.getElem?_take] at hj
  split at hj
  · rw [Nat.zero_mul, Nat.zero_add]; exact hj
  · cases hj
set_option maxHeartbeats 2000000 in
theorem loads_law (l : List Int) (ways : List (List Int)) (am : List Int) (hl : l.length ≤ 9223372036854775807) (hwl : ways.length ≤ 9223372036854775807 ∧ ∀ x ∈ ways, x.length ≤ 9223372036854775807) (hal : am.length ≤ 9223372036854775807) :
    AFn Try.prog 14 0 [.isl (intsC l) l.length, .isl (listsC ways) ways.length, .isl (intsC am) am.length] mt (.base (.bool true)) mt := by
  refine AFn.eq Try.func14 rfl rfl (Nat.le_of_ble_eq_true rfl) ?_
  have hnew := new_any l
  obtain ⟨v, H', hcall, f, a1, ⟨hf, hsw⟩, rfl, rfl⟩ := fabric_any l 0 3 (by decide) (by decide) hl
  have hwx := wayX_any f hf.fs hf.ends
  have hs1 := hf.sw1
  have hs7 := hf.sw7
  have hnl := hf.nlinks
  have hnx := fun at_ n (h1 : (1 : Int) ≤ n) h2 => next_any l at_ n h1 h2 hl
  have hlo := fun ws as_ hw hws => loads_any f (by omega) ws as_ hw hws
  have hlx := fun ws as_ hw hws => loadsX_any f (by omega) ws as_ hw hws
  have hin : ∀ ws as_, AFn Try.prog 28 0 [intsV (loadsF f ws as_), intsV (loadsF f ws as_)] mt (.base (.bool true)) mt := fun ws as_ => by
    have hlen : (loadsF f ws as_).length ≤ 1000 := by unfold loadsF; rw [loadsK_len]; omega
    have := ints14_any (loadsF f ws as_) (loadsF f ws as_) hlen
    rwa [decide_eq_true rfl] at this
  repeat (refine W.seq ?_)
  refine W.region 0 1 (by decide) rfl rfl ?_
  refine RW.opd rfl rfl (LO.assign rfl rfl) ?_
  refine RW.nil ?_
  have hcase : (ways.length ≤ 40 ∧ am.length ≤ 60) ∨ 40 < ways.length ∨ (ways.length ≤ 40 ∧ 60 < am.length) := by omega
  rcases hcase with ⟨c1, c2⟩ | c1 | ⟨c1, c2⟩
  rotate_left
  · have g1 : decide ((ways.length : Int) > 40) = true := decide_eq_true (by omega)
    repeat (refine W.seq ?_)
    refine W.region 5 13 (by decide) rfl rfl ?_
    refine RW.opd rfl rfl (LO.move rfl rfl) ?_
    refine RW.opd rfl rfl (LO.len_isl rfl rfl rfl ty60) ?_
    refine RW.opd rfl rfl (LO.gtr rfl rfl rfl) ?_
    refine RW.opd rfl rfl (LO.move rfl rfl) ?_
    refine RW.sd rfl rfl rfl ?_ rfl ?_; (· (first | rfl | assumption))
    refine RW.sd rfl rfl rfl ?_ rfl ?_; (· (first | rfl | assumption))
    refine RW.sd rfl rfl rfl ?_ rfl ?_; (· (first | rfl | assumption))
    refine RW.opd rfl rfl (LO.pick_t rfl rfl ?_ rfl) ?_; (· (first | rfl | assumption))
    refine RW.nil ?_
    repeat (refine W.seq ?_)
    refine W.cond_t rfl (by first | rfl | assumption) ?_
    repeat (refine W.seq ?_)
    refine W.region 17 19 (by decide) rfl rfl ?_
    refine RW.opd rfl rfl (LO.call0 (fr := []) rfl rfl (awake14_any) fok32 .nil rfl) ?_
    refine RW.opd rfl rfl (LO.assign rfl rfl) ?_
    refine RW.nil ?_
    repeat (refine W.seq ?_)
    refine W.ret ⟨.inl rfl, _, mt, RVs.cons (RV.tmp rfl) (RVs.nil), all_mt, ?_⟩
    exact ⟨rfl, rfl⟩
  · have g1 : decide ((ways.length : Int) > 40) = false := decide_eq_false (by omega)
    have g2 : decide ((am.length : Int) > 60) = true := decide_eq_true (by omega)
    repeat (refine W.seq ?_)
    refine W.region 5 13 (by decide) rfl rfl ?_
    refine RW.opd rfl rfl (LO.move rfl rfl) ?_
    refine RW.opd rfl rfl (LO.len_isl rfl rfl rfl ty60) ?_
    refine RW.opd rfl rfl (LO.gtr rfl rfl rfl) ?_
    refine RW.opd rfl rfl (LO.move rfl rfl) ?_
    refine RW.gd rfl rfl rfl ?_ rfl (LO.move rfl rfl) ?_; (· (first | rfl | assumption))
    refine RW.gd rfl rfl rfl ?_ rfl (LO.len_isl rfl rfl rfl ty26) ?_; (· (first | rfl | assumption))
    refine RW.gd rfl rfl rfl ?_ rfl (LO.gtr rfl rfl rfl) ?_; (· (first | rfl | assumption))
    refine RW.opd rfl rfl (LO.pick_f rfl rfl ?_ rfl) ?_; (· (first | rfl | assumption))
    refine RW.nil ?_
    repeat (refine W.seq ?_)
    refine W.cond_t rfl (by first | rfl | assumption) ?_
    repeat (refine W.seq ?_)
    refine W.region 17 19 (by decide) rfl rfl ?_
    refine RW.opd rfl rfl (LO.call0 (fr := []) rfl rfl (awake14_any) fok32 .nil rfl) ?_
    refine RW.opd rfl rfl (LO.assign rfl rfl) ?_
    refine RW.nil ?_
    repeat (refine W.seq ?_)
    refine W.ret ⟨.inl rfl, _, mt, RVs.cons (RV.tmp rfl) (RVs.nil), all_mt, ?_⟩
    exact ⟨rfl, rfl⟩
  · have g1 : decide ((ways.length : Int) > 40) = false := decide_eq_false (by omega)
    have g2 : decide ((am.length : Int) > 60) = false := decide_eq_false (by omega)
    repeat (refine W.seq ?_)
    refine W.region 5 13 (by decide) rfl rfl ?_
    refine RW.opd rfl rfl (LO.move rfl rfl) ?_
    refine RW.opd rfl rfl (LO.len_isl rfl rfl rfl ty60) ?_
    refine RW.opd rfl rfl (LO.gtr rfl rfl rfl) ?_
    refine RW.opd rfl rfl (LO.move rfl rfl) ?_
    refine RW.gd rfl rfl rfl ?_ rfl (LO.move rfl rfl) ?_; (· (first | rfl | assumption))
    refine RW.gd rfl rfl rfl ?_ rfl (LO.len_isl rfl rfl rfl ty26) ?_; (· (first | rfl | assumption))
    refine RW.gd rfl rfl rfl ?_ rfl (LO.gtr rfl rfl rfl) ?_; (· (first | rfl | assumption))
    refine RW.opd rfl rfl (LO.pick_f rfl rfl ?_ rfl) ?_; (· (first | rfl | assumption))
    refine RW.nil ?_
    repeat (refine W.seq ?_)
    refine W.cond_f rfl (by first | rfl | assumption) ?_
    refine W.skip ?_
    repeat (refine W.seq ?_)
    refine W.region 23 26 (by decide) rfl rfl ?_
    refine RW.opd rfl rfl (LO.move rfl rfl) ?_
    refine RW.opd rfl rfl (LO.callN (fr := []) rfl rfl (hnew) fok16 (.cons rfl (.pure rfl) .nil) rfl (by decide)) ?_
    refine RW.opd rfl rfl (LO.assign rfl rfl) ?_
    refine RW.nil ?_
    repeat (refine W.seq ?_)
    refine W.region 30 34 (by decide) rfl rfl ?_
    refine RW.opd rfl rfl (LO.move rfl rfl) ?_
    refine RW.opd rfl rfl (LO.call1 (fr := []) rfl rfl (hcall) fok17 (.own rfl rfl (.cons rfl (.pure rfl) .nil)) rfl rfl rfl (List.cons_ne_nil _ _) (by decide) rfl) ?_
    refine RW.opd rfl rfl (LO.alloc rfl ty25) ?_
    refine RW.opn rfl rfl (LO.store rfl rfl rfl rfl rfl ty25 rfl (by decide) (Sp.lit rfl)) ?_
    refine RW.nil ?_
    repeat (refine W.seq ?_)
    refine W.region 38 39 (by decide) rfl rfl ?_
    refine RW.opd rfl rfl (LO.assign rfl rfl) ?_
    refine RW.nil ?_
    repeat (refine W.seq ?_)
    refine W.region 43 44 (by decide) rfl rfl ?_
    refine RW.opd rfl rfl (LO.assign rfl rfl) ?_
    refine RW.nil ?_
    repeat (refine W.seq ?_)
    refine W.region 48 49 (by decide) rfl rfl ?_
    refine RW.opd rfl rfl (LO.move rfl rfl) ?_
    refine RW.nil ?_
    refine W.name 49 (49 + 1) (t := 9) (sz := 1) rfl (by decide) (by decide) ?_
    refine W.name (49 + 1) (49 + 2) (t := 10) (sz := 1) rfl (by decide) (by decide) ?_
    repeat (refine W.seq ?_)
    refine W.block ?_
    refine W.loop_keep (α := Nat × Nat × List (List Int) × List Int) (fun x => 6 - x.1) 4 (fun x => [(7, .own 0 0), (8, .own 1 0), (9, .osl 2 0 x.2.2.1.length 1), (10, .osl 3 0 x.2.2.2.length 1), (31, .base (.int .i64 (x.1 : Int)))]) (fun x => up (up (up (up mt 0 (some (deckC l x.2.1))) 1 (some (fabC f))) 2 (some (listsC x.2.2.1))) 3 (some (intsC x.2.2.2))) (fun x => x.1 ≤ 6 ∧ x.2.2.1.length = x.1 ∧ x.2.2.2.length = x.1 ∧ ∀ z ∈ x.2.2.1, z.length ≤ 8) (0, a1, (([] : List (List Int))), (([] : List Int))) [(0, 24), (1, 32), (2, 49), (3, (49 + 1))] (.cons (t := 1) rfl (by first | exact .inl rfl | exact .inr ⟨rfl, fun _ h => by cases h⟩ | (exact .inl (by assumption)) | exact .inl (intsC_pure _) | exact .inl (listsC_pure _)) (.cons (t := 2) rfl (by first | exact .inl rfl | exact .inr ⟨rfl, fun _ h => by cases h⟩ | (exact .inl (by assumption)) | exact .inl (intsC_pure _) | exact .inl (listsC_pure _)) .nil)) (show 0 ≤ 6 ∧ (([] : List (List Int))).length = 0 ∧ (([] : List Int)).length = 0 ∧ ∀ z ∈ (([] : List (List Int))), z.length ≤ 8 from ⟨Nat.zero_le _, rfl, rfl, fun w h => by cases h⟩) (by decide) ?_ ?_ ?_
    · (repeat' (first | exact LookR.nil | refine LookR.cons ?_ ?_)) <;> first | exact .inl ⟨rfl, rfl⟩ | exact .inr ⟨rfl, fun _ h => by cases h⟩ | exact .inl ⟨rfl, by first | rfl | assumption | exact (intsC_pure _) | exact (listsC_pure _)⟩
    · (repeat' (first | exact all_mt | refine all_up ?_ ?_)) <;> first | exact ⟨rfl, _, rfl, .inr ⟨rfl, rfl⟩⟩ | exact ⟨rfl, _, rfl, .inl rfl⟩ | exact ⟨rfl, _, rfl, .inr ⟨rfl, by first | rfl | assumption | exact (intsC_pure _) | exact (listsC_pure _)⟩⟩
    rintro ⟨k, q, ws, as_⟩ hIA ihA
    try (dsimp only at hIA)
    try dsimp only [baseT, List.cons_append, List.nil_append]
    obtain ⟨hk, hw, ha, hw8⟩ := hIA
    by_cases hc : k < 6
    · have g3 : decide ((k : Int) < 6) = true := decide_eq_true (by omega)
      repeat (refine W.seq ?_)
      refine W.region 53 54 (by decide) rfl rfl ?_
      refine RW.opd rfl rfl (LO.lss rfl rfl rfl) ?_
      refine RW.nil ?_
      repeat (refine W.seq ?_)
      refine W.cond_t rfl (by first | rfl | assumption) ?_
      refine W.skip ?_
      repeat (refine W.seq ?_)
      refine W.block ?_
      repeat (refine W.seq ?_)
      refine W.regionD 58 75 (by decide) rfl mixed rfl ?_
      refine RW.opd rfl rfl (LO.load_agg rfl rfl rfl ty25 rfl (Tk.lit rfl)) ?_
      refine RW.opd rfl rfl (LO.move rfl rfl) ?_
      refine RW.opd rfl rfl (LO.fieldAddr rfl rfl ty25 rfl (by decide)) ?_
      refine RW.opd rfl rfl (LO.load rfl rfl rfl rfl ty3 rfl) ?_
      refine RW.opd rfl rfl (LO.call1 (fr := []) rfl rfl (hnx q f.sw hs1 (by omega)) fok41 (.own rfl rfl (.cons rfl (.pure rfl) .nil)) rfl rfl rfl (List.cons_ne_nil _ _) (by decide) rfl) ?_
      refine RW.opd rfl rfl (LO.move rfl rfl) ?_
      refine RW.opd rfl rfl (LO.fieldAddr rfl rfl ty25 rfl (by decide)) ?_
      refine RW.opd rfl rfl (LO.load rfl rfl rfl rfl ty3 rfl) ?_
      refine RW.opd rfl rfl (LO.call1 (fr := []) rfl rfl (hnx _ f.sw hs1 (by omega)) fok41 (.own rfl rfl (.cons rfl (.pure rfl) .nil)) rfl rfl rfl (List.cons_ne_nil _ _) (by decide) rfl) ?_
      refine RW.opd rfl rfl (LO.move rfl rfl) ?_
      refine RW.opd rfl rfl (LO.call1 (fr := []) rfl rfl (hnx _ 99 (by decide) (by decide)) fok41 (.own rfl rfl (.cons rfl (.pure rfl) .nil)) rfl rfl rfl (List.cons_ne_nil _ _) (by decide) rfl) ?_
      refine RW.opd rfl rfl (LO.call0 (fr := []) rfl rfl (hwx _ _ _) fok27 (.cons rfl (.pure rfl) (.cons rfl (.pure rfl) (.cons rfl (.pure rfl) (.cons rfl (.pure rfl) .nil)))) rfl) ?_
      refine RW.opd rfl rfl (LO.move rfl rfl) ?_
      refine RW.opd rfl rfl (LO.extract rfl rfl rfl) ?_
      refine RW.opd rfl rfl (LO.extract rfl rfl rfl) ?_
      refine RW.opd rfl rfl (LO.assign rfl rfl) ?_
      refine RW.opd rfl rfl (LO.assign rfl rfl) ?_
      refine RW.nil ⟨by kernel_rfl, ?_⟩
      obtain ⟨w, hwe⟩ : ∃ w, (wayF f (nextV l q f.sw) (nextV l (nextAt l q) f.sw) (nextV l (nextAt l (nextAt l q)) 99)).getD [] = w := ⟨_, rfl⟩
      have hwl8 := wayF_len hf.fs (nextV l q f.sw) (nextV l (nextAt l q) f.sw) (nextV l (nextAt l (nextAt l q)) 99)
      rw [hwe] at hwl8 ⊢
      obtain ⟨q2, hq2⟩ : ∃ q2, nextAt l (nextAt l (nextAt l q)) = q2 := ⟨_, rfl⟩
      rw [hq2]
      repeat (refine W.seq ?_)
      refine W.region 79 90 (by decide) rfl rfl ?_
      refine RW.opd rfl rfl (LO.move rfl rfl) ?_
      refine RW.opd rfl rfl (LO.move rfl rfl) ?_
      refine RW.opd rfl rfl (LO.buildSlice rfl ty60 ty26 (by decide) (by decide) (.cons rfl rfl rfl rfl (Sp.lit rfl) .nil)) ?_
      refine RW.opd rfl rfl (LO.append rfl rfl (SrcAV.own rfl rfl (Tk.lit rfl)) rfl (lists_tk rfl) ty60 ty60 ty26 (by decide) ?_ ?_ ?_) ?_; (· (first | omega | decide | assumption | fail | (simp; done) | (simp; omega))); (· (first | omega | decide | assumption | fail | (simp; done) | (simp; omega))); (· (first | decide | omega))
      refine RW.opd rfl rfl (LO.move rfl rfl) ?_
      refine RW.opd rfl rfl (LO.move rfl rfl) ?_
      refine RW.opd rfl rfl (LO.call1 (fr := []) rfl rfl (hnx q2 50 (by decide) (by decide)) fok41 (.own rfl rfl (.cons rfl (.pure rfl) .nil)) rfl rfl rfl (List.cons_ne_nil _ _) (by decide) rfl) ?_
      refine RW.opd rfl rfl (LO.buildSlice rfl ty26 ty3 (by decide) (by decide) (.cons rfl rfl rfl rfl (Sp.lit rfl) .nil)) ?_
      refine RW.opd rfl rfl (LO.append rfl rfl (SrcAV.own rfl rfl (Tk.lit rfl)) rfl (ints_tk rfl) ty26 ty26 ty3 (by decide) ?_ ?_ ?_) ?_; (· (first | omega | decide | assumption | fail | (simp; done) | (simp; omega))); (· (first | omega | decide | assumption | fail | (simp; done) | (simp; omega))); (· (first | decide | omega))
      refine RW.opd rfl rfl (LO.assign rfl rfl) ?_
      refine RW.opd rfl rfl (LO.assign rfl rfl) ?_
      refine RW.nil ?_
      obtain ⟨vn, hvn⟩ : ∃ vn, nextV l q2 50 = vn := ⟨_, rfl⟩
      rw [hvn]
      rw [show listsC ws ++ [intsV w] = listsC (ws ++ [w]) from by simp [listsC, intsV], show intsC as_ ++ [AV.base (.int .i64 vn)] = intsC (as_ ++ [vn]) from by simp [intsC], show ws.length + 1 = (ws ++ [w]).length from by simp, show as_.length + 1 = (as_ ++ [vn]).length from by simp]
      repeat (refine W.seq ?_)
      refine W.region 94 96 (by decide) rfl rfl ?_
      refine RW.opd rfl rfl (LO.add_in rfl rfl rfl ?_) ?_; (· (first | exact IntWalk.i64_in _ (by omega) | assumption))
      refine RW.opd rfl rfl (LO.move rfl rfl) ?_
      refine RW.nil ?_
      refine WL.renameL [(0, 0), (1, 1), (2, 82), (3, 87)] 4 (by decide) ?_ ?_ (ihA ((k + 1), (nextAt l q2), (ws ++ [w]), (as_ ++ [vn])) (show 6 - (k + 1) < 6 - k from by omega) (show (k + 1) ≤ 6 ∧ (ws ++ [w]).length = (k + 1) ∧ (as_ ++ [vn]).length = (k + 1) ∧ ∀ z ∈ (ws ++ [w]), z.length ≤ 8 from ⟨by omega, by simp [hw], by simp [ha], fun x hx => by rcases List.mem_append.1 hx with h | h; exact hw8 x h; simp at h; subst h; exact hwl8⟩))
      · (repeat' (first | exact LookR.nil | refine LookR.cons ?_ ?_)) <;> first | exact .inl ⟨rfl, rfl⟩ | exact .inr ⟨rfl, fun _ h => by cases h⟩ | exact .inl ⟨rfl, by first | rfl | assumption | exact (intsC_pure _) | exact (listsC_pure _)⟩
      · (repeat' (first | exact all_mt | refine all_up ?_ ?_)) <;> first | exact ⟨rfl, _, rfl, .inr ⟨rfl, rfl⟩⟩ | exact ⟨rfl, _, rfl, .inl rfl⟩ | exact ⟨rfl, _, rfl, .inr ⟨rfl, by first | rfl | assumption | exact (intsC_pure _) | exact (listsC_pure _)⟩⟩
    · have g3 : decide ((k : Int) < 6) = false := decide_eq_false (by omega)
      repeat (refine W.seq ?_)
      refine W.region 53 54 (by decide) rfl rfl ?_
      refine RW.opd rfl rfl (LO.lss rfl rfl rfl) ?_
      refine RW.nil ?_
      repeat (refine W.seq ?_)
      refine W.cond_f rfl (by first | rfl | assumption) ?_
      refine W.exit ?_
      have hla := fun h1 => hlo ws as_ h1 (fun w hw => by have := hw8 w hw; omega)
      have hlb := fun h1 => hlx ws as_ h1 (fun w hw => by have := hw8 w hw; omega)
      have hlc := fun h1 => hlo ws (as_.take 3) h1 (fun w hw => by have := hw8 w hw; omega)
      have hld := fun h1 => hlx ws (as_.take 3) h1 (fun w hw => by have := hw8 w hw; omega)
      rw [show (as_.take 3).length = 3 - 0 from by simp; omega] at hlc hld
      refine W.frz1 (t := 9) rfl rfl (lists_tk rfl) (listsC_pure _) ?_
      refine W.frz1 (t := 10) rfl rfl (ints_tk rfl) (intsC_pure _) ?_
      repeat (refine W.seq ?_)
      refine W.region 100 103 (by decide) rfl rfl ?_
      refine RW.opd rfl rfl (LO.move rfl rfl) ?_
      refine RW.opd rfl rfl (LO.len_isl rfl rfl rfl ty60) ?_
      refine RW.opd rfl rfl (LO.move rfl rfl) ?_
      refine RW.nil ?_
      repeat (refine W.seq ?_)
      refine W.block ?_
      refine W.loop_keep (α := Nat) (fun x => ways.length - x) 1 (fun x => [(8, .own 0 0), (60, .base (.int .i64 (x : Int)))]) (fun x => up mt 0 (some (fabC f))) (fun x => x ≤ ways.length) 0 [(0, 1)] (.cons (t := 1) rfl (by first | exact .inl rfl | exact .inr ⟨rfl, fun _ h => by cases h⟩ | (exact .inl (by assumption)) | exact .inl (intsC_pure _) | exact .inl (listsC_pure _)) (.cons (t := 2) rfl (by first | exact .inl rfl | exact .inr ⟨rfl, fun _ h => by cases h⟩ | (exact .inl (by assumption)) | exact .inl (intsC_pure _) | exact .inl (listsC_pure _)) (.cons (t := 9) rfl (by first | exact .inl rfl | exact .inr ⟨rfl, fun _ h => by cases h⟩ | (exact .inl (by assumption)) | exact .inl (intsC_pure _) | exact .inl (listsC_pure _)) (.cons (t := 10) rfl (by first | exact .inl rfl | exact .inr ⟨rfl, fun _ h => by cases h⟩ | (exact .inl (by assumption)) | exact .inl (intsC_pure _) | exact .inl (listsC_pure _)) (.cons (t := 58) rfl (by first | exact .inl rfl | exact .inr ⟨rfl, fun _ h => by cases h⟩ | (exact .inl (by assumption)) | exact .inl (intsC_pure _) | exact .inl (listsC_pure _)) (.cons (t := 59) rfl (by first | exact .inl rfl | exact .inr ⟨rfl, fun _ h => by cases h⟩ | (exact .inl (by assumption)) | exact .inl (intsC_pure _) | exact .inl (listsC_pure _)) .nil)))))) (show 0 ≤ ways.length from Nat.zero_le _) (by decide) ?_ ?_ ?_
      · (repeat' (first | exact LookR.nil | refine LookR.cons ?_ ?_)) <;> first | exact .inl ⟨rfl, rfl⟩ | exact .inr ⟨rfl, fun _ h => by cases h⟩ | exact .inl ⟨rfl, by first | rfl | assumption | exact (intsC_pure _) | exact (listsC_pure _)⟩
      · (repeat' (first | exact all_mt | refine all_up ?_ ?_)) <;> first | exact ⟨rfl, _, rfl, .inr ⟨rfl, rfl⟩⟩ | exact ⟨rfl, _, rfl, .inl rfl⟩ | exact ⟨rfl, _, rfl, .inr ⟨rfl, by first | rfl | assumption | exact (intsC_pure _) | exact (listsC_pure _)⟩⟩
      rintro i hIB ihB
      try (dsimp only at hIB)
      try dsimp only [baseT, List.cons_append, List.nil_append]
      by_cases hi : i < ways.length
      · have g4 : decide ((i : Int) < (ways.length : Int)) = true := decide_eq_true (by omega)
        repeat (refine W.seq ?_)
        refine W.region 107 108 (by decide) rfl rfl ?_
        refine RW.opd rfl rfl (LO.lss rfl rfl rfl) ?_
        refine RW.nil ?_
        repeat (refine W.seq ?_)
        refine W.cond_t rfl (by first | rfl | assumption) ?_
        refine W.skip ?_
        repeat (refine W.seq ?_)
        refine W.block ?_
        repeat (refine W.seq ?_)
        refine W.region 112 115 (by decide) rfl rfl ?_
        refine RW.opd rfl rfl (LO.indexAddr_isl rfl rfl rfl rfl rfl ty60 ty26 ?_) ?_; (· (first | omega | decide | assumption | fail | (simp; done) | (simp; omega)))
        refine RW.opd rfl rfl (LO.load_imm rfl rfl (lists_at hi) ty26 rfl) ?_
        refine RW.opd rfl rfl (LO.assign rfl rfl) ?_
        refine RW.nil ?_
        by_cases h60 : ways[i].length > 60
        · have g5 : decide ((ways[i].length : Int) > 60) = true := decide_eq_true (by omega)
          repeat (refine W.seq ?_)
          refine W.region 119 122 (by decide) rfl rfl ?_
          refine RW.opd rfl rfl (LO.move rfl rfl) ?_
          refine RW.opd rfl rfl (LO.len_isl rfl rfl rfl ty26) ?_
          refine RW.opd rfl rfl (LO.gtr rfl rfl rfl) ?_
          refine RW.nil ?_
          repeat (refine W.seq ?_)
          refine W.cond_t rfl (by first | rfl | assumption) ?_
          repeat (refine W.seq ?_)
          refine W.region 126 128 (by decide) rfl rfl ?_
          refine RW.opd rfl rfl (LO.call0 (fr := []) rfl rfl (awake14_any) fok32 .nil rfl) ?_
          refine RW.opd rfl rfl (LO.assign rfl rfl) ?_
          refine RW.nil ?_
          repeat (refine W.seq ?_)
          refine W.ret ⟨.inl rfl, _, mt, RVs.cons (RV.tmp rfl) (RVs.nil), all_mt, ?_⟩
          exact ⟨rfl, rfl⟩
        · have g5 : decide ((ways[i].length : Int) > 60) = false := decide_eq_false (by omega)
          repeat (refine W.seq ?_)
          refine W.region 119 122 (by decide) rfl rfl ?_
          refine RW.opd rfl rfl (LO.move rfl rfl) ?_
          refine RW.opd rfl rfl (LO.len_isl rfl rfl rfl ty26) ?_
          refine RW.opd rfl rfl (LO.gtr rfl rfl rfl) ?_
          refine RW.nil ?_
          repeat (refine W.seq ?_)
          refine W.cond_f rfl (by first | rfl | assumption) ?_
          refine W.skip ?_
          repeat (refine W.seq ?_)
          refine W.region 132 134 (by decide) rfl rfl ?_
          refine RW.opd rfl rfl (LO.add_in rfl rfl rfl ?_) ?_; (· (first | exact IntWalk.i64_in _ (by omega) | assumption))
          refine RW.opd rfl rfl (LO.move rfl rfl) ?_
          refine RW.nil ?_
          refine WL.renameL [(0, 0)] 1 (by decide) ?_ ?_ (ihB (i + 1) (show ways.length - (i + 1) < ways.length - i from by omega) (show (i + 1) ≤ ways.length from by omega))
          · (repeat' (first | exact LookR.nil | refine LookR.cons ?_ ?_)) <;> first | exact .inl ⟨rfl, rfl⟩ | exact .inr ⟨rfl, fun _ h => by cases h⟩ | exact .inl ⟨rfl, by first | rfl | assumption | exact (intsC_pure _) | exact (listsC_pure _)⟩
          · (repeat' (first | exact all_mt | refine all_up ?_ ?_)) <;> first | exact ⟨rfl, _, rfl, .inr ⟨rfl, rfl⟩⟩ | exact ⟨rfl, _, rfl, .inl rfl⟩ | exact ⟨rfl, _, rfl, .inr ⟨rfl, by first | rfl | assumption | exact (intsC_pure _) | exact (listsC_pure _)⟩⟩
      · have g4 : decide ((i : Int) < (ways.length : Int)) = false := decide_eq_false (by omega)
        repeat (refine W.seq ?_)
        refine W.region 107 108 (by decide) rfl rfl ?_
        refine RW.opd rfl rfl (LO.lss rfl rfl rfl) ?_
        refine RW.nil ?_
        repeat (refine W.seq ?_)
        refine W.cond_f rfl (by first | rfl | assumption) ?_
        refine W.exit ?_
        clear ihB ihA
        repeat (refine W.seq ?_)
        refine W.region 138 142 (by decide) rfl rfl ?_
        refine RW.opd rfl rfl (LO.move rfl rfl) ?_
        refine RW.opd rfl rfl (LO.len_isl rfl rfl rfl ty26) ?_
        refine RW.opd rfl rfl (LO.makeSlice rfl rfl rfl rfl rfl ty26 ty3 (by decide) ?_ ?_ ?_) ?_; (· (first | omega | decide | assumption | fail | (simp; done) | (simp; omega))); (· (first | omega | decide | assumption | fail | (simp; done) | (simp; omega))); (· (first | omega | decide | assumption | fail | (simp; done) | (simp; omega)))
        refine RW.opd rfl rfl (LO.assign rfl rfl) ?_
        refine RW.nil ?_
        rw [zeros_ints]
        repeat (refine W.seq ?_)
        refine W.region 146 149 (by decide) rfl rfl ?_
        refine RW.opd rfl rfl (LO.move rfl rfl) ?_
        refine RW.opd rfl rfl (LO.len_isl rfl rfl rfl ty26) ?_
        refine RW.opd rfl rfl (LO.move rfl rfl) ?_
        refine RW.nil ?_
        repeat (refine W.seq ?_)
        refine W.block ?_
        refine W.loop_keep (α := Nat) (fun x => am.length - x) 2 (fun x => [(8, .own 0 0), (15, .osl 1 0 am.length 1), (74, .base (.int .i64 (x : Int)))]) (fun x => up (up mt 0 (some (fabC f))) 1 (some (intsC (((am.take x).map (· % 1000)) ++ List.replicate (am.length - x) 0)))) (fun x => x ≤ am.length) 0 [(0, 0), (1, 140)] (.cons (t := 1) rfl (by first | exact .inl rfl | exact .inr ⟨rfl, fun _ h => by cases h⟩ | (exact .inl (by assumption)) | exact .inl (intsC_pure _) | exact .inl (listsC_pure _)) (.cons (t := 9) rfl (by first | exact .inl rfl | exact .inr ⟨rfl, fun _ h => by cases h⟩ | (exact .inl (by assumption)) | exact .inl (intsC_pure _) | exact .inl (listsC_pure _)) (.cons (t := 10) rfl (by first | exact .inl rfl | exact .inr ⟨rfl, fun _ h => by cases h⟩ | (exact .inl (by assumption)) | exact .inl (intsC_pure _) | exact .inl (listsC_pure _)) (.cons (t := 72) rfl (by first | exact .inl rfl | exact .inr ⟨rfl, fun _ h => by cases h⟩ | (exact .inl (by assumption)) | exact .inl (intsC_pure _) | exact .inl (listsC_pure _)) (.cons (t := 73) rfl (by first | exact .inl rfl | exact .inr ⟨rfl, fun _ h => by cases h⟩ | (exact .inl (by assumption)) | exact .inl (intsC_pure _) | exact .inl (listsC_pure _)) .nil))))) (show 0 ≤ am.length from Nat.zero_le _) (by decide) ?_ ?_ ?_
        · (repeat' (first | exact LookR.nil | refine LookR.cons ?_ ?_)) <;> first | exact .inl ⟨rfl, rfl⟩ | exact .inr ⟨rfl, fun _ h => by cases h⟩ | exact .inl ⟨rfl, by first | rfl | assumption | exact (intsC_pure _) | exact (listsC_pure _)⟩
        · (repeat' (first | exact all_mt | refine all_up ?_ ?_)) <;> first | exact ⟨rfl, _, rfl, .inr ⟨rfl, rfl⟩⟩ | exact ⟨rfl, _, rfl, .inl rfl⟩ | exact ⟨rfl, _, rfl, .inr ⟨rfl, by first | rfl | assumption | exact (intsC_pure _) | exact (listsC_pure _)⟩⟩
        rintro i hID ihD
        try (dsimp only at hID)
        try dsimp only [baseT, List.cons_append, List.nil_append]
        have hsl : (((am.take i).map (· % 1000)) ++ List.replicate (am.length - i) 0).length = am.length := by simp; omega
        by_cases hi : i < am.length
        · have g4 : decide ((i : Int) < (am.length : Int)) = true := decide_eq_true (by omega)
          have hss := small_set (n := 1000) hi
          repeat (refine W.seq ?_)
          refine W.region 153 154 (by decide) rfl rfl ?_
          refine RW.opd rfl rfl (LO.lss rfl rfl rfl) ?_
          refine RW.nil ?_
          repeat (refine W.seq ?_)
          refine W.cond_t rfl (by first | rfl | assumption) ?_
          refine W.skip ?_
          repeat (refine W.seq ?_)
          refine W.block ?_
          repeat (refine W.seq ?_)
          refine W.region 158 163 (by decide) rfl rfl ?_
          refine RW.opd rfl rfl (LO.move rfl rfl) ?_
          refine RW.opd rfl rfl (LO.indexAddr_isl rfl rfl rfl rfl rfl ty26 ty3 ?_) ?_; (· (first | omega | decide | assumption | fail | (simp; done) | (simp; omega)))
          refine RW.opd rfl rfl (LO.load_imm rfl rfl (ni_at1 (k := i) hi) ty3 rfl) ?_
          refine RW.opd rfl rfl (LO.assign rfl rfl) ?_
          refine RW.opd rfl rfl (LO.assign rfl rfl) ?_
          refine RW.nil ?_
          repeat (refine W.seq ?_)
          refine W.region 167 173 (by decide) rfl rfl ?_
          refine RW.opd rfl rfl (LO.move rfl rfl) ?_
          refine RW.opd rfl rfl (LO.move rfl rfl) ?_
          refine RW.opd rfl rfl (LO.move rfl rfl) ?_
          refine RW.opd rfl rfl (LO.call0 (fr := []) rfl rfl (mod_any _ 1000 (by decide) (by decide)) fok21 (.cons rfl (.pure rfl) (.cons rfl (.pure rfl) .nil)) rfl) ?_
          refine RW.opd rfl rfl (LO.indexAddr rfl rfl rfl rfl ty26 ty3 ?_) ?_; (· (first | omega | decide | assumption | fail | (simp; done) | (simp; omega)))
          refine RW.opn rfl rfl (LO.store rfl rfl rfl rfl rfl ty3 rfl (by decide) (ns_at (k := i) (by omega))) ?_
          refine RW.nil ?_
          rw [hss]
          repeat (refine W.seq ?_)
          refine W.region 177 179 (by decide) rfl rfl ?_
          refine RW.opd rfl rfl (LO.add_in rfl rfl rfl ?_) ?_; (· (first | exact IntWalk.i64_in _ (by omega) | assumption))
          refine RW.opd rfl rfl (LO.move rfl rfl) ?_
          refine RW.nil ?_
          refine WL.renameL [(0, 0), (1, 1)] 2 (by decide) ?_ ?_ (ihD (i + 1) (show am.length - (i + 1) < am.length - i from by omega) (show (i + 1) ≤ am.length from by omega))
          · (repeat' (first | exact LookR.nil | refine LookR.cons ?_ ?_)) <;> first | exact .inl ⟨rfl, rfl⟩ | exact .inr ⟨rfl, fun _ h => by cases h⟩ | exact .inl ⟨rfl, by first | rfl | assumption | exact (intsC_pure _) | exact (listsC_pure _)⟩
          · (repeat' (first | exact all_mt | refine all_up ?_ ?_)) <;> first | exact ⟨rfl, _, rfl, .inr ⟨rfl, rfl⟩⟩ | exact ⟨rfl, _, rfl, .inl rfl⟩ | exact ⟨rfl, _, rfl, .inr ⟨rfl, by first | rfl | assumption | exact (intsC_pure _) | exact (listsC_pure _)⟩⟩
        · have g4 : decide ((i : Int) < (am.length : Int)) = false := decide_eq_false (by omega)
          repeat (refine W.seq ?_)
          refine W.region 153 154 (by decide) rfl rfl ?_
          refine RW.opd rfl rfl (LO.lss rfl rfl rfl) ?_
          refine RW.nil ?_
          repeat (refine W.seq ?_)
          refine W.cond_f rfl (by first | rfl | assumption) ?_
          refine W.exit ?_
          clear ihD
          obtain rfl : i = am.length := by omega
          rw [List.take_length, Nat.sub_self, List.replicate_zero, List.append_nil]
          refine W.frz1 (t := 15) rfl rfl (ints_tk (by simp)) (intsC_pure _) ?_
          obtain ⟨sm, hsm⟩ : ∃ sm, am.map (· % 1000) = sm := ⟨_, rfl⟩
          have hsml : sm.length = am.length := by rw [← hsm]; simp
          rw [hsm]
          have hle := hlo ways sm (by omega) hwl.2
          have hlf := hlx ways sm (by omega) hwl.2
          rw [hsml] at hle hlf
          have hla := hla (by omega)
          have hlb := hlb (by omega)
          have hlc := hlc (by omega)
          have hld := hld (by omega)
          repeat (refine W.seq ?_)
          refine W.regionD 183 220 (by decide) rfl mixed rfl ?_
          refine RW.opd rfl rfl (LO.load_agg rfl rfl rfl ty25 rfl (Tk.lit rfl)) ?_
          refine RW.opd rfl rfl (LO.move rfl rfl) ?_
          refine RW.opd rfl rfl (LO.move rfl rfl) ?_
          refine RW.opd rfl rfl (LO.call0 (fr := []) rfl rfl (hla) fok42 (.cons rfl (.pure rfl) (.cons rfl (.pure rfl) (.cons rfl (.pure rfl) .nil))) rfl) ?_
          refine RW.opd rfl rfl (LO.load_agg rfl rfl rfl ty25 rfl (Tk.lit rfl)) ?_
          refine RW.opd rfl rfl (LO.move rfl rfl) ?_
          refine RW.opd rfl rfl (LO.move rfl rfl) ?_
          refine RW.opd rfl rfl (LO.call0 (fr := []) rfl rfl (hlb) fok43 (.cons rfl (.pure rfl) (.cons rfl (.pure rfl) (.cons rfl (.pure rfl) .nil))) rfl) ?_
          refine RW.opd rfl rfl (LO.call0 (fr := []) rfl rfl (hin _ _) fok28 (.cons rfl (.pure rfl) (.cons rfl (.pure rfl) .nil)) rfl) ?_
          refine RW.opd rfl rfl (LO.move rfl rfl) ?_
          refine RW.gd rfl rfl rfl ?_ rfl (LO.load_agg rfl rfl rfl ty25 rfl (Tk.lit rfl)) ?_; (· (first | rfl | assumption))
          refine RW.gd rfl rfl rfl ?_ rfl (LO.move rfl rfl) ?_; (· (first | rfl | assumption))
          refine RW.gd rfl rfl rfl ?_ rfl (LO.move rfl rfl) ?_; (· (first | rfl | assumption))
          refine RW.gd rfl rfl rfl ?_ rfl (LO.call0 (fr := []) rfl rfl (hle) fok42 (.cons rfl (.pure rfl) (.cons rfl (.pure rfl) (.cons rfl (.pure rfl) .nil))) rfl) ?_; (· (first | rfl | assumption))
          refine RW.gd rfl rfl rfl ?_ rfl (LO.load_agg rfl rfl rfl ty25 rfl (Tk.lit rfl)) ?_; (· (first | rfl | assumption))
          refine RW.gd rfl rfl rfl ?_ rfl (LO.move rfl rfl) ?_; (· (first | rfl | assumption))
          refine RW.gd rfl rfl rfl ?_ rfl (LO.move rfl rfl) ?_; (· (first | rfl | assumption))
          refine RW.gd rfl rfl rfl ?_ rfl (LO.call0 (fr := []) rfl rfl (hlf) fok43 (.cons rfl (.pure rfl) (.cons rfl (.pure rfl) (.cons rfl (.pure rfl) .nil))) rfl) ?_; (· (first | rfl | assumption))
          refine RW.gd rfl rfl rfl ?_ rfl (LO.call0 (fr := []) rfl rfl (hin _ _) fok28 (.cons rfl (.pure rfl) (.cons rfl (.pure rfl) .nil)) rfl) ?_; (· (first | rfl | assumption))
          refine RW.opd rfl rfl (LO.pick_t rfl rfl ?_ rfl) ?_; (· (first | rfl | assumption))
          refine RW.opd rfl rfl (LO.move rfl rfl) ?_
          refine RW.gd rfl rfl rfl ?_ rfl (LO.load_agg rfl rfl rfl ty25 rfl (Tk.lit rfl)) ?_; (· (first | rfl | assumption))
          refine RW.gd rfl rfl rfl ?_ rfl (LO.move rfl rfl) ?_; (· (first | rfl | assumption))
          refine RW.gd rfl rfl rfl ?_ rfl (LO.move rfl rfl) ?_; (· (first | rfl | assumption))
          refine RW.gd rfl rfl rfl ?_ rfl (LO.slice_isl rfl rfl rfl Bnd.no (Bnd.at rfl rfl) ?_ ?_ ty26 ty3 (ints_tk3 (by omega))) ?_; (· (first | rfl | assumption)); (· (first | omega | decide | assumption | fail | (simp; done) | (simp; omega))); (· (first | omega | decide | assumption | fail | (simp; done) | (simp; omega)))
          refine RW.gd rfl rfl rfl ?_ rfl (LO.call0 (fr := []) rfl rfl (hlc) fok42 (.cons rfl (.pure rfl) (.cons rfl (.pure rfl) (.cons rfl (.pure rfl) .nil))) rfl) ?_; (· (first | rfl | assumption))
          refine RW.gd rfl rfl rfl ?_ rfl (LO.load_agg rfl rfl rfl ty25 rfl (Tk.lit rfl)) ?_; (· (first | rfl | assumption))
          refine RW.gd rfl rfl rfl ?_ rfl (LO.move rfl rfl) ?_; (· (first | rfl | assumption))
          refine RW.gd rfl rfl rfl ?_ rfl (LO.move rfl rfl) ?_; (· (first | rfl | assumption))
          refine RW.gd rfl rfl rfl ?_ rfl (LO.slice_isl rfl rfl rfl Bnd.no (Bnd.at rfl rfl) ?_ ?_ ty26 ty3 (ints_tk3 (by omega))) ?_; (· (first | rfl | assumption)); (· (first | omega | decide | assumption | fail | (simp; done) | (simp; omega))); (· (first | omega | decide | assumption | fail | (simp; done) | (simp; omega)))
          refine RW.gd rfl rfl rfl ?_ rfl (LO.call0 (fr := []) rfl rfl (hld) fok43 (.cons rfl (.pure rfl) (.cons rfl (.pure rfl) (.cons rfl (.pure rfl) .nil))) rfl) ?_; (· (first | rfl | assumption))
          refine RW.gd rfl rfl rfl ?_ rfl (LO.call0 (fr := []) rfl rfl (hin _ _) fok28 (.cons rfl (.pure rfl) (.cons rfl (.pure rfl) .nil)) rfl) ?_; (· (first | rfl | assumption))
          refine RW.opd rfl rfl (LO.pick_t rfl rfl ?_ rfl) ?_; (· (first | rfl | assumption))
          refine RW.opd rfl rfl (LO.move rfl rfl) ?_
          refine RW.gd rfl rfl rfl ?_ rfl (LO.call0 (fr := []) rfl rfl (awake14_any) fok32 .nil rfl) ?_; (· (first | rfl | assumption))
          refine RW.opd rfl rfl (LO.pick_t rfl rfl ?_ rfl) ?_; (· (first | rfl | assumption))
          refine RW.opd rfl rfl (LO.assign rfl rfl) ?_
          refine RW.nil ⟨by kernel_rfl, ?_⟩
          repeat (refine W.seq ?_)
          refine W.ret ⟨.inl rfl, _, mt, RVs.cons (RV.tmp rfl) (RVs.nil), all_mt, ?_⟩
          exact ⟨rfl, rfl⟩
end Go.Proofs.Ythbdngfnbpkefaa
