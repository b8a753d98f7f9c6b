/-
  DrainSafe returns true.
-/
import Derived.Test.YtbjfaepjpmogjaaDoorKr
import Derived.Test.YtbjfaepjpmogjaaDoorMac
namespace Go.Proofs.YtbjfaepjpmogjaaDoor
open Go.RowKit

def ones (n : Nat) : List Value := List.replicate n (.int .i64 1)
theorem ones_set (n : Nat) : (ones n ++ [Value.int .i64 0]).set n (Value.int .i64 1) = ones (n + 1) := by
  unfold ones
  rw [List.set_append_right _ _ (by simp)]
  simp [List.replicate_succ']
theorem keys_new {W : List Itm} {y : Itm} (h : y ∉ W) : itK y ∉ W.map itK := fun hm => by
  obtain ⟨z, hz, e⟩ := List.mem_map.1 hm
  exact h (itK_inj e ▸ hz)
theorem keys_one {W : List Itm} (hn : W.Nodup) {y : Itm} (h : y ∈ W) : lkp (W.map itK) (ones W.length) (itK y) = some (.int .i64 1) := by
  obtain ⟨i, hi, e⟩ := List.getElem_of_mem h
  have hn2 : (W.map itK).Nodup := by
    rw [List.nodup_iff_pairwise_ne] at hn ⊢
    exact hn.map _ fun a b hne he => hne (itK_inj he)
  exact lkp_at (i := i) hn2 (by rw [List.getElem?_map, List.getElem?_eq_getElem hi, e]; rfl) (by unfold ones; simp [hi])
theorem flat_take_succ {L : List (List Itm)} {i : Nat} (h : i < L.length) : (L.take (i + 1)).flatten = (L.take i).flatten ++ L[i] := by
  rw [List.take_succ_eq_append_getElem h, List.flatten_append]; simp
theorem flat_pre {L : List (List Itm)} {i j : Nat} (h : i < L.length) (hj : j < L[i].length) : ∃ q, L.flatten = ((L.take i).flatten ++ L[i].take j) ++ L[i][j] :: q := by
  refine ⟨L[i].drop (j + 1) ++ (L.drop (i + 1)).flatten, ?_⟩
  have e : L[i] = L[i].take j ++ L[i][j] :: L[i].drop (j + 1) := by rw [← List.drop_eq_getElem_cons hj, List.take_append_drop]
  have e2 : L = L.take i ++ L[i] :: L.drop (i + 1) := by rw [← List.drop_eq_getElem_cons h, List.take_append_drop]
  have e3 : L.flatten = (L.take i).flatten ++ (L[i] ++ (L.drop (i + 1)).flatten) := by
    have := congrArg List.flatten e2
    rwa [List.flatten_append, List.flatten_cons] at this
  have e4 : L[i] ++ (L.drop (i + 1)).flatten = (L[i].take j ++ L[i][j] :: L[i].drop (j + 1)) ++ (L.drop (i + 1)).flatten := by rw [← e]
  rw [e3, e4]
  simp only [List.append_assoc, List.cons_append]
theorem flat_new {L : List (List Itm)} (hn : L.flatten.Nodup) {i j : Nat} (h : i < L.length) (hj : j < L[i].length) : L[i][j] ∉ (L.take i).flatten ++ L[i].take j := fun hm => by
  obtain ⟨q, hq⟩ := flat_pre h hj
  rw [hq, List.nodup_append] at hn
  exact hn.2.2 _ hm _ (List.mem_cons_self ..) rfl
set_option maxHeartbeats 2000000 in
set_option maxRecDepth 20000 in
theorem safe_law (l : List Int) (hl : l.length ≤ 9223372036854775807) : AFn Tryd.prog 4 0 [.isl (intsC l) l.length] mt (.base (.bool true)) mt := by
  refine AFn.eq Tryd.func4 rfl rfl (Nat.le_of_ble_eq_true rfl) ?_
  have hnew := new_any l
  obtain ⟨v, H', hsc, f, ls, its, a1, hok, rfl, rfl⟩ := scene_any l 0 hl
  have hval := hok.val
  obtain ⟨_, _, h8, hin, hnd, hib⟩ := validD_all2 hval
  have h24 := hok.fab.nl
  have hni := hok.nit
  have hnl := hok.nls
  have hrd := rounds_any f ls its (by omega) (by omega) (by omega)
  have haw := awake_any
  have hpow : (2 : Nat) ^ its.length ≤ 256 := Nat.le_trans (Nat.pow_le_pow_right (n := 2) (by decide) h8) (by decide)
  have hpos : 1 ≤ (2 : Nat) ^ its.length := Nat.two_pow_pos _
  have hrf : roundsF f ls its = if rr (safeB f ls its) (2 ^ its.length - 1) < 9 then ((divs (safeB f ls its) (2 ^ its.length - 1)).map (chF its), 0) else ([], 40) := if_pos hval
  have htop := chF_top its
  have hsh0 : IntKind.i64.wrap (1 * 2 ^ (min (its.length : Int).toNat IntKind.i64.bits)) = ((2 ^ its.length : Nat) : Int) := by
    rw [Int.toNat_natCast]
    exact shl_tabJ ⟨its.length, by omega⟩
  repeat (refine W.seq ?_)
  refine W.region 0 1 (by decide) rfl rfl ?_
  refine RW.opd rfl rfl (LO.assign rfl rfl) ?_
  refine RW.nil ?_
  repeat (refine W.seq ?_)
  refine W.region 5 16 (by decide) rfl rfl ?_
  refine RW.opd rfl rfl (LO.move rfl rfl) ?_
  refine RW.opd rfl rfl (LO.callN (fr := []) rfl rfl (hnew) fok10 (.cons rfl (.pure rfl) .nil) rfl (by decide)) ?_
  refine RW.opd rfl rfl (LO.call1 (fr := []) rfl rfl (hsc) fok9 (.own rfl rfl .nil) rfl rfl rfl (List.cons_ne_nil _ _) (by decide) rfl) ?_
  refine RW.opd rfl rfl (LO.move rfl rfl) ?_
  refine RW.opd rfl rfl (LO.extract rfl rfl rfl) ?_
  refine RW.opd rfl rfl (LO.extract rfl rfl rfl) ?_
  refine RW.opd rfl rfl (LO.extract rfl rfl rfl) ?_
  refine RW.opd rfl rfl (LO.alloc rfl ty28) ?_
  refine RW.opn rfl rfl (LO.store rfl rfl rfl rfl rfl ty28 rfl (by decide) (Sp.lit rfl)) ?_
  refine RW.opd rfl rfl (LO.assign rfl rfl) ?_
  refine RW.opd rfl rfl (LO.assign rfl rfl) ?_
  refine RW.nil ?_
  by_cases h9 : rr (safeB f ls its) (2 ^ its.length - 1) < 9
  · rw [if_pos h9] at hrf
    have hperm := rounds_perm hnd h8 h9
    have hdv := (divs_ok (safeB f ls its) _ (show 2 ^ its.length - 1 < 256 by omega) h9).1
    have hdl := divs_len2 (safe := safeB f ls its) (s := 2 ^ its.length - 1)
    have hgood : ∀ c ∈ (divs (safeB f ls its) (2 ^ its.length - 1)).map (chF its), c.length ≠ 0 ∧ c.length ≤ 8 ∧ safeE f ls c = 0 := fun c hc => by
      obtain ⟨t, ht, rfl⟩ := List.mem_map.1 hc
      obtain ⟨t1, t2, t3, t4⟩ := hdv t ht
      refine ⟨chF_some hnd t2 fun k hk => ?_, by have := chF_len its t; omega, by unfold safeB at t1; simpa using t1⟩
      have := t4 k hk
      rw [Nat.testBit_two_pow_sub_one] at this
      simpa using this
    rw [hrf] at hrd
    obtain ⟨L, hL⟩ : ∃ L, (divs (safeB f ls its) (2 ^ its.length - 1)).map (chF its) = L := ⟨_, rfl⟩
    have hLl : L.length ≤ 8 := by rw [← hL, List.length_map, hdl]; omega
    rw [hL] at hrd hperm hgood
    clear hL hdv hdl hrf hsh0 htop
    have hnf : L.flatten.Nodup := hperm.nodup_iff.2 hnd
    have hmem : ∀ y ∈ L.flatten, y ∈ its := fun y hy => hperm.mem_iff.1 hy
    have hkd : ∀ y ∈ its, kdOf Tryd.prog 45 (itK y) := fun y hy => kd_it (by
      have h1 := hin y hy
      have h2 := hok.fab.dead
      have h3 := hok.fab.down
      have h4 := hok.fab.sw5
      refine ⟨h1.1, ?_⟩
      have h5 := h1.2
      split at h5 <;> omega)
    repeat (refine W.seq ?_)
    refine W.region 20 29 (by decide) rfl rfl ?_
    refine RW.opd rfl rfl (LO.load_agg rfl rfl rfl ty28 rfl (Tk.lit rfl)) ?_
    refine RW.opd rfl rfl (LO.move rfl rfl) ?_
    refine RW.opd rfl rfl (LO.move rfl rfl) ?_
    refine RW.opd rfl rfl (LO.call0 (fr := []) rfl rfl (hrd) fok11 (.cons rfl (.pure rfl) (.cons rfl (.pure rfl) (.cons rfl (.pure rfl) .nil))) rfl) ?_
    refine RW.opd rfl rfl (LO.move rfl rfl) ?_
    refine RW.opd rfl rfl (LO.extract rfl rfl rfl) ?_
    refine RW.opd rfl rfl (LO.extract rfl rfl rfl) ?_
    refine RW.opd rfl rfl (LO.assign rfl rfl) ?_
    refine RW.opd rfl rfl (LO.assign rfl rfl) ?_
    refine RW.nil ?_
    repeat (refine W.seq ?_)
    refine W.region 33 35 (by decide) rfl rfl ?_
    refine RW.opd rfl rfl (LO.move rfl rfl) ?_
    refine RW.opd rfl rfl (LO.neq rfl rfl rfl) ?_
    refine RW.nil ?_
    repeat (refine W.seq ?_)
    refine W.cond_f rfl (by first | rfl | assumption) ?_
    refine W.skip ?_
    repeat (refine W.seq ?_)
    refine W.region 151 153 (by decide) rfl rfl ?_
    refine RW.opd rfl rfl (LO.makeMapL (kdOf Tryd.prog 45) rfl) ?_
    refine RW.opd rfl rfl (LO.assign rfl rfl) ?_
    refine RW.nil ?_
    repeat (refine W.seq ?_)
    refine W.region 157 160 (by decide) rfl rfl ?_
    refine RW.opd rfl rfl (LO.move rfl rfl) ?_
    refine RW.opd rfl rfl (LO.len_isl rfl rfl rfl ty34) ?_
    refine RW.opd rfl rfl (LO.move rfl rfl) ?_
    refine RW.nil ?_
    repeat (refine W.seq ?_)
    refine W.block ?_
    refine W.rename [(0, 12), (1, 151)] 2 (T' := up (up (up (up (up (up (up mt 3 (some (.own 0 0))) 4 (some (.isl (ldsC ls) ls.length))) 5 (some (.isl (itsC its) its.length))) 12 (some (.mref 1))) 77 (some (.isl (gsC L) L.length))) 78 (some (.base (.int .i64 (L.length : Int))))) 79 (some (.base (.int .i64 (0 : Int))))) (H' := up (up mt 0 (some (fabC f))) 1 (some (mlC (kdOf Tryd.prog 45) ((([] : List Itm)).map itK) (ones (([] : List Itm)).length)))) (by decide) ?_ ?_ ?_
    · (repeat' (first | exact all_mt | refine all_up ?_ ?_)) <;> first | exact .inl ⟨rfl, rfl⟩ | exact .inr ⟨rfl, fun _ h => by cases h⟩ | exact .inl ⟨rfl, by first | rfl | assumption ⟩
    · (repeat' (first | exact all_mt | refine all_up ?_ ?_)) <;> first | exact ⟨rfl, _, rfl, .inr ⟨rfl, rfl⟩⟩ | exact ⟨rfl, _, rfl, .inl rfl⟩ | exact ⟨rfl, _, rfl, .inr ⟨rfl, by first | rfl | assumption ⟩⟩
    refine W.loop_ind (α := Nat × List Itm) (fun x => L.length - x.1) 2 (fun x => up (up (up (up (up (up (up mt 3 (some (.own 0 0))) 4 (some (.isl (ldsC ls) ls.length))) 5 (some (.isl (itsC its) its.length))) 12 (some (.mref 1))) 77 (some (.isl (gsC L) L.length))) 78 (some (.base (.int .i64 (L.length : Int))))) 79 (some (.base (.int .i64 (x.1 : Int))))) (fun x => up (up mt 0 (some (fabC f))) 1 (some (mlC (kdOf Tryd.prog 45) (x.2.map itK) (ones x.2.length)))) (fun x => x.1 ≤ L.length ∧ x.2 = (L.take x.1).flatten) (0, (([] : List Itm))) (show 0 ≤ L.length ∧ (([] : List Itm)) = (L.take 0).flatten from ⟨Nat.zero_le _, rfl⟩) ?_
    rintro ⟨i, Q⟩ hID ihD
    try (dsimp only at hID)
    try dsimp only
    obtain ⟨hi, hQ⟩ := hID
    by_cases hc : i < L.length
    · have g1 : decide ((i : Int) < (L.length : Int)) = true := decide_eq_true (by omega)
      obtain ⟨c1, c2, c3⟩ := hgood _ (List.getElem_mem hc)
      have hsf := safeX_any f ls L[i] (by omega) (by omega) (by omega)
      rw [c3] at hsf
      have k1 : ((L[i].length : Int) == 0) = false := by simpa using fun h => c1 (by simp [h])
      repeat (refine W.seq ?_)
      refine W.region 164 165 (by decide) rfl rfl ?_
      refine RW.opd rfl rfl (LO.lss rfl rfl rfl) ?_
      refine RW.nil ?_
      repeat (refine W.seq ?_)
      refine W.cond_t rfl (by first | rfl | assumption) ?_
      refine W.skip ?_
      repeat (refine W.seq ?_)
      refine W.block ?_
      repeat (refine W.seq ?_)
      refine W.region 169 172 (by decide) rfl rfl ?_
      refine RW.opd rfl rfl (LO.indexAddr_isl rfl rfl rfl rfl rfl ty34 ty22 ?_) ?_; (· (first | omega | decide | assumption | fail | (simp; done) | (simp; omega)))
      refine RW.opd rfl rfl (LO.load_imm rfl rfl (gs_at hc) ty22 rfl) ?_
      refine RW.opd rfl rfl (LO.assign rfl rfl) ?_
      refine RW.nil ?_
      repeat (refine W.seq ?_)
      refine W.region 176 186 (by decide) rfl rfl ?_
      refine RW.opd rfl rfl (LO.move rfl rfl) ?_
      refine RW.opd rfl rfl (LO.len_isl rfl rfl rfl ty22) ?_
      refine RW.opd rfl rfl (LO.eql rfl rfl rfl) ?_
      refine RW.opd rfl rfl (LO.move rfl rfl) ?_
      refine RW.gd rfl rfl rfl ?_ rfl (LO.load_agg rfl rfl rfl ty28 rfl (Tk.lit rfl)) ?_; (· (first | rfl | assumption))
      refine RW.gd rfl rfl rfl ?_ rfl (LO.move rfl rfl) ?_; (· (first | rfl | assumption))
      refine RW.gd rfl rfl rfl ?_ rfl (LO.move rfl rfl) ?_; (· (first | rfl | assumption))
      refine RW.gd rfl rfl rfl ?_ rfl (LO.call0 (fr := []) rfl rfl (hsf) fok17 (.cons rfl (.pure rfl) (.cons rfl (.pure rfl) (.cons rfl (.pure rfl) .nil))) rfl) ?_; (· (first | rfl | assumption))
      refine RW.gd rfl rfl rfl ?_ rfl (LO.neq rfl rfl rfl) ?_; (· (first | rfl | assumption))
      refine RW.opd rfl rfl (LO.pick_f rfl rfl ?_ rfl) ?_; (· (first | rfl | assumption))
      refine RW.nil ?_
      repeat (refine W.seq ?_)
      refine W.cond_f rfl (by first | rfl | assumption) ?_
      refine W.skip ?_
      repeat (refine W.seq ?_)
      refine W.region 195 198 (by decide) rfl rfl ?_
      refine RW.opd rfl rfl (LO.move rfl rfl) ?_
      refine RW.opd rfl rfl (LO.len_isl rfl rfl rfl ty22) ?_
      refine RW.opd rfl rfl (LO.move rfl rfl) ?_
      refine RW.nil ?_
      repeat (refine W.seq ?_)
      refine W.block ?_
      refine W.rename [(0, 0), (1, 1)] 2 (T' := up (up (up (up (up (up (up (up (up (up mt 3 (some (.own 0 0))) 4 (some (.isl (ldsC ls) ls.length))) 5 (some (.isl (itsC its) its.length))) 12 (some (.mref 1))) 77 (some (.isl (gsC L) L.length))) 78 (some (.base (.int .i64 (L.length : Int))))) 79 (some (.base (.int .i64 (i : Int))))) 93 (some (.isl (itsC L[i]) L[i].length))) 94 (some (.base (.int .i64 (L[i].length : Int))))) 95 (some (.base (.int .i64 (0 : Int))))) (H' := up (up mt 0 (some (fabC f))) 1 (some (mlC (kdOf Tryd.prog 45) (Q.map itK) (ones Q.length)))) (by decide) ?_ ?_ ?_
      · (repeat' (first | exact all_mt | refine all_up ?_ ?_)) <;> first | exact .inl ⟨rfl, rfl⟩ | exact .inr ⟨rfl, fun _ h => by cases h⟩ | exact .inl ⟨rfl, by first | rfl | assumption ⟩
      · (repeat' (first | exact all_mt | refine all_up ?_ ?_)) <;> first | exact ⟨rfl, _, rfl, .inr ⟨rfl, rfl⟩⟩ | exact ⟨rfl, _, rfl, .inl rfl⟩ | exact ⟨rfl, _, rfl, .inr ⟨rfl, by first | rfl | assumption ⟩⟩
      refine W.loop_ind (α := Nat × List Itm) (fun x => L[i].length - x.1) 2 (fun x => up (up (up (up (up (up (up (up (up (up mt 3 (some (.own 0 0))) 4 (some (.isl (ldsC ls) ls.length))) 5 (some (.isl (itsC its) its.length))) 12 (some (.mref 1))) 77 (some (.isl (gsC L) L.length))) 78 (some (.base (.int .i64 (L.length : Int))))) 79 (some (.base (.int .i64 (i : Int))))) 93 (some (.isl (itsC L[i]) L[i].length))) 94 (some (.base (.int .i64 (L[i].length : Int))))) 95 (some (.base (.int .i64 (x.1 : Int))))) (fun x => up (up mt 0 (some (fabC f))) 1 (some (mlC (kdOf Tryd.prog 45) (x.2.map itK) (ones x.2.length)))) (fun x => x.1 ≤ L[i].length ∧ x.2 = (L.take i).flatten ++ L[i].take x.1) (0, Q) (show 0 ≤ L[i].length ∧ Q = (L.take i).flatten ++ L[i].take 0 from ⟨Nat.zero_le _, by rw [List.take_zero, List.append_nil]; exact hQ⟩) ?_
      rintro ⟨j, Z⟩ hIE ihE
      try (dsimp only at hIE)
      try dsimp only
      obtain ⟨hj, hW⟩ := hIE
      by_cases hc2 : j < L[i].length
      · have g2 : decide ((j : Int) < (L[i].length : Int)) = true := decide_eq_true (by omega)
        have hnw : L[i][j] ∉ Z := by rw [hW]; exact flat_new hnf hc hc2
        have hyi : L[i][j] ∈ its := hmem _ (List.mem_flatten.2 ⟨L[i], List.getElem_mem hc, List.getElem_mem hc2⟩)
        have hkdy := hkd _ hyi
        have hWn : Z ++ [L[i][j]] = (L.take i).flatten ++ L[i].take (j + 1) := by rw [hW, List.append_assoc, List.take_succ_eq_append_getElem hc2]
        have hks : (Z.map itK).length = Z.length := by simp
        have hst : (ones Z.length ++ [Value.int .i64 0]).set (Z.map itK).length (Value.int .i64 (0 + 1)) = ones (Z ++ [L[i][j]]).length := by
          rw [hks, List.length_append]; exact ones_set _
        have hkm : Z.map itK ++ [itK L[i][j]] = (Z ++ [L[i][j]]).map itK := by simp
        repeat (refine W.seq ?_)
        refine W.region 202 203 (by decide) rfl rfl ?_
        refine RW.opd rfl rfl (LO.lss rfl rfl rfl) ?_
        refine RW.nil ?_
        repeat (refine W.seq ?_)
        refine W.cond_t rfl (by first | rfl | assumption) ?_
        refine W.skip ?_
        repeat (refine W.seq ?_)
        refine W.block ?_
        repeat (refine W.seq ?_)
        refine W.region 207 211 (by decide) rfl rfl ?_
        refine RW.opd rfl rfl (LO.indexAddr_isl rfl rfl rfl rfl rfl ty22 ty45 ?_) ?_; (· (first | omega | decide | assumption | fail | (simp; done) | (simp; omega)))
        refine RW.opd rfl rfl (LO.load_imm_agg rfl rfl ty45 rfl (its_tk hc2)) ?_
        refine RW.opd rfl rfl (LO.alloc rfl ty45) ?_
        refine RW.opn rfl rfl (LO.store rfl rfl rfl rfl rfl ty45 rfl (by decide) (Sp.lit rfl)) ?_
        refine RW.nil ?_
        have hlen1 : (ones Z.length).length = (Z.map itK).length := by simp [ones]
        repeat (refine W.seq ?_)
        refine W.regionT (pre := [_, _]) (mid := [_]) (post := [_, _]) 1 2 4 215 222 rfl rfl rfl (by decide) rfl mixed rfl ?_
        refine RW.opd rfl rfl (LO.move rfl rfl) ?_
        refine RW.opd rfl rfl (LO.load_agg rfl rfl rfl ty45 rfl (Tk.lit rfl)) ?_
        refine RW.nil ⟨rfl, .base (.int .i64 0), mlC (kdOf Tryd.prog 45) (Z.map itK ++ [itK L[i][j]]) (ones Z.length ++ [.int .i64 0]), fun H2 hH2 => hH2.elim (fun h2 => LO.lookupL rfl rfl rfl (kv_it L[i][j]) (h2.trans rfl) ty47 mk_it hkdy (zero_of (u := .int .i64 0) (by kernel_rfl)) (by rw [lkp_none (keys_new hnw)]; rfl)) (fun h2 => LO.lookupL rfl rfl rfl (kv_it L[i][j]) h2 ty47 mk_it hkdy (zero_of (u := .int .i64 0) (by kernel_rfl)) (by rw [lkp_new (keys_new hnw) hlen1]; rfl)), ?_⟩
        refine RW.opd rfl rfl (LO.add_in rfl rfl rfl ?_) ?_; (· (first | exact IntWalk.i64_in _ (by omega) | assumption))
        refine RW.nil ⟨rfl, _, _, _, _, LO.mapEntryL rfl rfl rfl (kv_it L[i][j]) rfl ty47 mk_it hkdy (zero_of (u := .int .i64 0) (by kernel_rfl)) (keys_new hnw), rfl, rfl, ?_⟩
        refine RW.opd rfl rfl (LO.extract rfl rfl rfl) ?_
        refine RW.opn rfl rfl (LO.entryStoreL rfl rfl rfl rfl rfl (by simp)) ?_
        refine RW.nil ⟨by kernel_rfl, ?_⟩
        rw [hst, hkm]
        repeat (refine W.seq ?_)
        refine W.region 226 228 (by decide) rfl rfl ?_
        refine RW.opd rfl rfl (LO.add_in rfl rfl rfl ?_) ?_; (· (first | exact IntWalk.i64_in _ (by omega) | assumption))
        refine RW.opd rfl rfl (LO.move rfl rfl) ?_
        refine RW.nil ?_
        refine WL.rename [(0, 0), (1, 1)] 2 (by decide) ?_ ?_ (ihE ((j + 1), (Z ++ [L[i][j]])) (show L[i].length - (j + 1) < L[i].length - j from by omega) (show (j + 1) ≤ L[i].length ∧ (Z ++ [L[i][j]]) = (L.take i).flatten ++ L[i].take (j + 1) from ⟨by omega, hWn⟩))
        · (repeat' (first | exact all_mt | refine all_up ?_ ?_)) <;> first | exact .inl ⟨rfl, rfl⟩ | exact .inr ⟨rfl, fun _ h => by cases h⟩ | exact .inl ⟨rfl, by first | rfl | assumption ⟩
        · (repeat' (first | exact all_mt | refine all_up ?_ ?_)) <;> first | exact ⟨rfl, _, rfl, .inr ⟨rfl, rfl⟩⟩ | exact ⟨rfl, _, rfl, .inl rfl⟩ | exact ⟨rfl, _, rfl, .inr ⟨rfl, by first | rfl | assumption ⟩⟩
      · have g2 : decide ((j : Int) < (L[i].length : Int)) = false := decide_eq_false (by omega)
        obtain rfl : j = L[i].length := by omega
        have hWn : Z = (L.take (i + 1)).flatten := by rw [hW, List.take_length, flat_take_succ hc]
        repeat (refine W.seq ?_)
        refine W.region 202 203 (by decide) rfl rfl ?_
        refine RW.opd rfl rfl (LO.lss rfl rfl rfl) ?_
        refine RW.nil ?_
        repeat (refine W.seq ?_)
        refine W.cond_f rfl (by first | rfl | assumption) ?_
        refine W.exit ?_
        repeat (refine W.seq ?_)
        refine W.region 232 234 (by decide) rfl rfl ?_
        refine RW.opd rfl rfl (LO.add_in rfl rfl rfl ?_) ?_; (· (first | exact IntWalk.i64_in _ (by omega) | assumption))
        refine RW.opd rfl rfl (LO.move rfl rfl) ?_
        refine RW.nil ?_
        refine WL.rename [(0, 0), (1, 1)] 2 (by decide) ?_ ?_ (ihD ((i + 1), Z) (show L.length - (i + 1) < L.length - i from by omega) (show (i + 1) ≤ L.length ∧ Z = (L.take (i + 1)).flatten from ⟨by omega, hWn⟩))
        · (repeat' (first | exact all_mt | refine all_up ?_ ?_)) <;> first | exact .inl ⟨rfl, rfl⟩ | exact .inr ⟨rfl, fun _ h => by cases h⟩ | exact .inl ⟨rfl, by first | rfl | assumption ⟩
        · (repeat' (first | exact all_mt | refine all_up ?_ ?_)) <;> first | exact ⟨rfl, _, rfl, .inr ⟨rfl, rfl⟩⟩ | exact ⟨rfl, _, rfl, .inl rfl⟩ | exact ⟨rfl, _, rfl, .inr ⟨rfl, by first | rfl | assumption ⟩⟩
    · have g1 : decide ((i : Int) < (L.length : Int)) = false := decide_eq_false (by omega)
      obtain rfl : i = L.length := by omega
      rw [List.take_length] at hQ
      subst hQ
      have hfl : L.flatten.length = its.length := hperm.length_eq
      repeat (refine W.seq ?_)
      refine W.region 164 165 (by decide) rfl rfl ?_
      refine RW.opd rfl rfl (LO.lss rfl rfl rfl) ?_
      refine RW.nil ?_
      repeat (refine W.seq ?_)
      refine W.cond_f rfl (by first | rfl | assumption) ?_
      refine W.exit ?_
      repeat (refine W.seq ?_)
      refine W.region 238 241 (by decide) rfl rfl ?_
      refine RW.opd rfl rfl (LO.move rfl rfl) ?_
      refine RW.opd rfl rfl (LO.len_isl rfl rfl rfl ty22) ?_
      refine RW.opd rfl rfl (LO.move rfl rfl) ?_
      refine RW.nil ?_
      repeat (refine W.seq ?_)
      refine W.block ?_
      refine W.rename [(0, 0), (1, 1)] 2 (T' := up (up (up (up (up mt 5 (some (.isl (itsC its) its.length))) 12 (some (.mref 1))) 107 (some (.isl (itsC its) its.length))) 108 (some (.base (.int .i64 (its.length : Int))))) 109 (some (.base (.int .i64 (0 : Int))))) (H' := up (up mt 0 (some (fabC f))) 1 (some (mlC (kdOf Tryd.prog 45) (L.flatten.map itK) (ones L.flatten.length)))) (by decide) ?_ ?_ ?_
      · (repeat' (first | exact all_mt | refine all_up ?_ ?_)) <;> first | exact .inl ⟨rfl, rfl⟩ | exact .inr ⟨rfl, fun _ h => by cases h⟩ | exact .inl ⟨rfl, by first | rfl | assumption ⟩
      · (repeat' (first | exact all_mt | refine all_up ?_ ?_)) <;> first | exact ⟨rfl, _, rfl, .inr ⟨rfl, rfl⟩⟩ | exact ⟨rfl, _, rfl, .inl rfl⟩ | exact ⟨rfl, _, rfl, .inr ⟨rfl, by first | rfl | assumption ⟩⟩
      refine W.loop_ind (α := Nat) (fun x => its.length - x) 2 (fun x => up (up (up (up (up mt 5 (some (.isl (itsC its) its.length))) 12 (some (.mref 1))) 107 (some (.isl (itsC its) its.length))) 108 (some (.base (.int .i64 (its.length : Int))))) 109 (some (.base (.int .i64 (x : Int))))) (fun x => up (up mt 0 (some (fabC f))) 1 (some (mlC (kdOf Tryd.prog 45) (L.flatten.map itK) (ones L.flatten.length)))) (fun x => x ≤ its.length) 0 (show 0 ≤ its.length from Nat.zero_le _) ?_
      rintro i hIG ihG
      try (dsimp only at hIG)
      try dsimp only
      have hi : i ≤ its.length := hIG
      by_cases hc : i < its.length
      · have g1 : decide ((i : Int) < (its.length : Int)) = true := decide_eq_true (by omega)
        have hkdy := hkd _ (List.getElem_mem hc)
        have hone := keys_one hnf (hperm.mem_iff.2 (List.getElem_mem hc))
        repeat (refine W.seq ?_)
        refine W.region 245 246 (by decide) rfl rfl ?_
        refine RW.opd rfl rfl (LO.lss rfl rfl rfl) ?_
        refine RW.nil ?_
        repeat (refine W.seq ?_)
        refine W.cond_t rfl (by first | rfl | assumption) ?_
        refine W.skip ?_
        repeat (refine W.seq ?_)
        refine W.block ?_
        repeat (refine W.seq ?_)
        refine W.region 250 254 (by decide) rfl rfl ?_
        refine RW.opd rfl rfl (LO.indexAddr_isl rfl rfl rfl rfl rfl ty22 ty45 ?_) ?_; (· (first | omega | decide | assumption | fail | (simp; done) | (simp; omega)))
        refine RW.opd rfl rfl (LO.load_imm_agg rfl rfl ty45 rfl (its_tk hc)) ?_
        refine RW.opd rfl rfl (LO.alloc rfl ty45) ?_
        refine RW.opn rfl rfl (LO.store rfl rfl rfl rfl rfl ty45 rfl (by decide) (Sp.lit rfl)) ?_
        refine RW.nil ?_
        repeat (refine W.seq ?_)
        refine W.region 258 262 (by decide) rfl rfl ?_
        refine RW.opd rfl rfl (LO.move rfl rfl) ?_
        refine RW.opd rfl rfl (LO.load_agg rfl rfl rfl ty45 rfl (Tk.lit rfl)) ?_
        refine RW.opd rfl rfl (LO.lookupL rfl rfl rfl (kv_it its[i]) rfl ty47 mk_it hkdy (zero_of (u := .int .i64 0) (by kernel_rfl)) (v := .int .i64 1) (by rw [hone]; rfl)) ?_
        refine RW.opd rfl rfl (LO.neq rfl rfl rfl) ?_
        refine RW.nil ?_
        repeat (refine W.seq ?_)
        refine W.cond_f rfl (by first | rfl | assumption) ?_
        refine W.skip ?_
        repeat (refine W.seq ?_)
        refine W.region 271 273 (by decide) rfl rfl ?_
        refine RW.opd rfl rfl (LO.add_in rfl rfl rfl ?_) ?_; (· (first | exact IntWalk.i64_in _ (by omega) | assumption))
        refine RW.opd rfl rfl (LO.move rfl rfl) ?_
        refine RW.nil ?_
        refine WL.rename [(0, 0), (1, 1)] 2 (by decide) ?_ ?_ (ihG (i + 1) (show its.length - (i + 1) < its.length - i from by omega) (show (i + 1) ≤ its.length from by omega))
        · (repeat' (first | exact all_mt | refine all_up ?_ ?_)) <;> first | exact .inl ⟨rfl, rfl⟩ | exact .inr ⟨rfl, fun _ h => by cases h⟩ | exact .inl ⟨rfl, by first | rfl | assumption ⟩
        · (repeat' (first | exact all_mt | refine all_up ?_ ?_)) <;> first | exact ⟨rfl, _, rfl, .inr ⟨rfl, rfl⟩⟩ | exact ⟨rfl, _, rfl, .inl rfl⟩ | exact ⟨rfl, _, rfl, .inr ⟨rfl, by first | rfl | assumption ⟩⟩
      · have g1 : decide ((i : Int) < (its.length : Int)) = false := decide_eq_false (by omega)
        have k2 : (((L.flatten.map itK).length : Int) == (its.length : Int)) = true := by rw [List.length_map, hfl]; simp
        repeat (refine W.seq ?_)
        refine W.region 245 246 (by decide) rfl rfl ?_
        refine RW.opd rfl rfl (LO.lss rfl rfl rfl) ?_
        refine RW.nil ?_
        repeat (refine W.seq ?_)
        refine W.cond_f rfl (by first | rfl | assumption) ?_
        refine W.exit ?_
        repeat (refine W.seq ?_)
        refine W.region 277 286 (by decide) rfl rfl ?_
        refine RW.opd rfl rfl (LO.move rfl rfl) ?_
        refine RW.opd rfl rfl (LO.lenL rfl rfl rfl ty47) ?_
        refine RW.opd rfl rfl (LO.move rfl rfl) ?_
        refine RW.opd rfl rfl (LO.len_isl rfl rfl rfl ty22) ?_
        refine RW.opd rfl rfl (LO.eql rfl rfl rfl) ?_
        refine RW.opd rfl rfl (LO.move rfl rfl) ?_
        refine RW.gd rfl rfl rfl ?_ rfl (LO.call0 (fr := []) rfl rfl (haw) fok8 .nil rfl) ?_; (· (first | rfl | assumption))
        refine RW.opd rfl rfl (LO.pick_t rfl rfl ?_ rfl) ?_; (· (first | rfl | assumption))
        refine RW.opd rfl rfl (LO.assign rfl rfl) ?_
        refine RW.nil ?_
        repeat (refine W.seq ?_)
        refine W.ret ⟨.inl rfl, _, mt, RVs.cons (RV.tmp rfl) (RVs.nil), all_mt, ?_⟩
        exact ⟨rfl, rfl⟩
  · rw [if_neg h9] at hrf
    rw [hrf] at hrd
    have hbad : ¬ (2 ^ its.length - 1 = 0 ∨ safeB f ls its (2 ^ its.length - 1) = true) := fun h => h9 (rr_full (by omega) h)
    have hunsafe : (safeE f ls its == 0) = false := by
      cases hz : (safeE f ls its == 0) with
      | false => rfl
      | true => exact absurd (.inr (by unfold safeB; rw [htop]; exact hz)) hbad
    have hsf := safeX_any f ls its (by omega) (by omega) (by omega)
    obtain ⟨N, hN⟩ : ∃ N, 2 ^ its.length = N := ⟨_, rfl⟩
    rw [hN] at hsh0 hpow
    repeat (refine W.seq ?_)
    refine W.region 20 29 (by decide) rfl rfl ?_
    refine RW.opd rfl rfl (LO.load_agg rfl rfl rfl ty28 rfl (Tk.lit rfl)) ?_
    refine RW.opd rfl rfl (LO.move rfl rfl) ?_
    refine RW.opd rfl rfl (LO.move rfl rfl) ?_
    refine RW.opd rfl rfl (LO.call0 (fr := []) rfl rfl (hrd) fok11 (.cons rfl (.pure rfl) (.cons rfl (.pure rfl) (.cons rfl (.pure rfl) .nil))) rfl) ?_
    refine RW.opd rfl rfl (LO.move rfl rfl) ?_
    refine RW.opd rfl rfl (LO.extract rfl rfl rfl) ?_
    refine RW.opd rfl rfl (LO.extract rfl rfl rfl) ?_
    refine RW.opd rfl rfl (LO.assign rfl rfl) ?_
    refine RW.opd rfl rfl (LO.assign rfl rfl) ?_
    refine RW.nil ?_
    repeat (refine W.seq ?_)
    refine W.region 33 35 (by decide) rfl rfl ?_
    refine RW.opd rfl rfl (LO.move rfl rfl) ?_
    refine RW.opd rfl rfl (LO.neq rfl rfl rfl) ?_
    refine RW.nil ?_
    repeat (refine W.seq ?_)
    refine W.cond_t rfl (by first | rfl | assumption) ?_
    repeat (refine W.seq ?_)
    refine W.region 39 41 (by decide) rfl rfl ?_
    refine RW.opd rfl rfl (LO.move rfl rfl) ?_
    refine RW.opd rfl rfl (LO.neq rfl rfl rfl) ?_
    refine RW.nil ?_
    repeat (refine W.seq ?_)
    refine W.cond_f rfl (by first | rfl | assumption) ?_
    refine W.skip ?_
    repeat (refine W.seq ?_)
    refine W.region 50 51 (by decide) rfl rfl ?_
    refine RW.opd rfl rfl (LO.assign rfl rfl) ?_
    refine RW.nil ?_
    repeat (refine W.seq ?_)
    refine W.block ?_
    refine W.rename [(0, 12)] 1 (T' := up (up (up (up mt 3 (some (.own 0 0))) 4 (some (.isl (ldsC ls) ls.length))) 5 (some (.isl (itsC its) its.length))) 8 (some (.base (.int .i64 (1 : Int))))) (H' := up mt 0 (some (fabC f))) (by decide) ?_ ?_ ?_
    · (repeat' (first | exact all_mt | refine all_up ?_ ?_)) <;> first | exact .inl ⟨rfl, rfl⟩ | exact .inr ⟨rfl, fun _ h => by cases h⟩ | exact .inl ⟨rfl, by first | rfl | assumption ⟩
    · (repeat' (first | exact all_mt | refine all_up ?_ ?_)) <;> first | exact ⟨rfl, _, rfl, .inr ⟨rfl, rfl⟩⟩ | exact ⟨rfl, _, rfl, .inl rfl⟩ | exact ⟨rfl, _, rfl, .inr ⟨rfl, by first | rfl | assumption ⟩⟩
    refine W.loop_ind (α := Nat) (fun x => N - x) 1 (fun x => up (up (up (up mt 3 (some (.own 0 0))) 4 (some (.isl (ldsC ls) ls.length))) 5 (some (.isl (itsC its) its.length))) 8 (some (.base (.int .i64 (x : Int))))) (fun x => up mt 0 (some (fabC f))) (fun x => 1 ≤ x ∧ x ≤ N) 1 (show 1 ≤ 1 ∧ 1 ≤ N from ⟨Nat.le_refl _, by omega⟩) ?_
    rintro s hIA ihA
    try (dsimp only at hIA)
    try dsimp only
    obtain ⟨hs1, hsN⟩ := hIA
    by_cases hc : s < N
    · have g1 : decide ((s : Int) < (N : Int)) = true := decide_eq_true (by omega)
      repeat (refine W.seq ?_)
      refine W.region 55 61 (by decide) rfl rfl ?_
      refine RW.opd rfl rfl (LO.move rfl rfl) ?_
      refine RW.opd rfl rfl (LO.move rfl rfl) ?_
      refine RW.opd rfl rfl (LO.len_isl rfl rfl rfl ty22) ?_
      refine RW.opd rfl rfl (LO.conv_in rfl rfl ty3 ty43 ?_) ?_; (· (first | exact IntWalk.u64_in _ (by omega) | assumption))
      refine RW.opd rfl rfl (LO.shl rfl rfl rfl ?_) ?_; (· (first | omega | decide | assumption | fail | (simp; done) | (simp; omega)))
      rw [hsh0]
      refine RW.opd rfl rfl (LO.lss rfl rfl rfl) ?_
      refine RW.nil ?_
      repeat (refine W.seq ?_)
      refine W.cond_t rfl (by first | rfl | assumption) ?_
      refine W.skip ?_
      repeat (refine W.seq ?_)
      refine W.block ?_
      repeat (refine W.seq ?_)
      refine W.region 65 66 (by decide) rfl rfl ?_
      refine RW.opd rfl rfl (LO.assign rfl rfl) ?_
      refine RW.nil ?_
      refine W.name 66 (66 + 1) (t := 9) (sz := 2) rfl (by decide) (by decide) ?_
      repeat (refine W.seq ?_)
      refine W.region 70 73 (by decide) rfl rfl ?_
      refine RW.opd rfl rfl (LO.move rfl rfl) ?_
      refine RW.opd rfl rfl (LO.len_isl rfl rfl rfl ty22) ?_
      refine RW.opd rfl rfl (LO.move rfl rfl) ?_
      refine RW.nil ?_
      repeat (refine W.seq ?_)
      refine W.block ?_
      refine W.rename [(0, 0), (1, 66)] 2 (T' := up (up (up (up (up (up (up (up mt 3 (some (.own 0 0))) 4 (some (.isl (ldsC ls) ls.length))) 5 (some (.isl (itsC its) its.length))) 8 (some (.base (.int .i64 (s : Int))))) 9 (some (.osl 1 0 (([] : List Itm)).length 2))) 45 (some (.isl (itsC its) its.length))) 46 (some (.base (.int .i64 (its.length : Int))))) 47 (some (.base (.int .i64 (0 : Int))))) (H' := up (up mt 0 (some (fabC f))) 1 (some (itsC (([] : List Itm))))) (by decide) ?_ ?_ ?_
      · (repeat' (first | exact all_mt | refine all_up ?_ ?_)) <;> first | exact .inl ⟨rfl, rfl⟩ | exact .inr ⟨rfl, fun _ h => by cases h⟩ | exact .inl ⟨rfl, by first | rfl | assumption | exact (its_pure _)⟩
      · (repeat' (first | exact all_mt | refine all_up ?_ ?_)) <;> first | exact ⟨rfl, _, rfl, .inr ⟨rfl, rfl⟩⟩ | exact ⟨rfl, _, rfl, .inl rfl⟩ | exact ⟨rfl, _, rfl, .inr ⟨rfl, by first | rfl | assumption | exact (its_pure _)⟩⟩
      refine W.loop_ind (α := Nat × List Itm) (fun x => its.length - x.1) 2 (fun x => up (up (up (up (up (up (up (up mt 3 (some (.own 0 0))) 4 (some (.isl (ldsC ls) ls.length))) 5 (some (.isl (itsC its) its.length))) 8 (some (.base (.int .i64 (s : Int))))) 9 (some (.osl 1 0 x.2.length 2))) 45 (some (.isl (itsC its) its.length))) 46 (some (.base (.int .i64 (its.length : Int))))) 47 (some (.base (.int .i64 (x.1 : Int))))) (fun x => up (up mt 0 (some (fabC f))) 1 (some (itsC x.2))) (fun x => x.1 ≤ its.length ∧ x.2 = chK its s x.1) (0, (([] : List Itm))) (show 0 ≤ its.length ∧ (([] : List Itm)) = chK its s 0 from ⟨Nat.zero_le _, rfl⟩) ?_
      rintro ⟨k, c⟩ hIB ihB
      try (dsimp only at hIB)
      try dsimp only
      obtain ⟨hk, hcc⟩ := hIB
      have hcl := chK_len its s k
      rw [← hcc] at hcl
      by_cases hc2 : k < its.length
      · have g2 : decide ((k : Int) < (its.length : Int)) = true := decide_eq_true (by omega)
        have hnx := chK_succ (s := s) hc2
        rw [← hcc] at hnx
        have hbt := bitI (s := s) (by omega) (k := k) (by omega)
        repeat (refine W.seq ?_)
        refine W.region 77 78 (by decide) rfl rfl ?_
        refine RW.opd rfl rfl (LO.lss rfl rfl rfl) ?_
        refine RW.nil ?_
        repeat (refine W.seq ?_)
        refine W.cond_t rfl (by first | rfl | assumption) ?_
        refine W.skip ?_
        repeat (refine W.seq ?_)
        refine W.block ?_
        repeat (refine W.seq ?_)
        refine W.region 82 88 (by decide) rfl rfl ?_
        refine RW.opd rfl rfl (LO.move rfl rfl) ?_
        refine RW.opd rfl rfl (LO.indexAddr_isl rfl rfl rfl rfl rfl ty22 ty45 ?_) ?_; (· (first | omega | decide | assumption | fail | (simp; done) | (simp; omega)))
        refine RW.opd rfl rfl (LO.load_imm_agg rfl rfl ty45 rfl (its_tk hc2)) ?_
        refine RW.opd rfl rfl (LO.alloc rfl ty45) ?_
        refine RW.opd rfl rfl (LO.assign rfl rfl) ?_
        refine RW.opn rfl rfl (LO.store rfl rfl rfl rfl rfl ty45 rfl (by decide) (Sp.lit rfl)) ?_
        refine RW.nil ?_
        cases tb : s.testBit k with
        | false =>
          have g2 : (bitV .and .i64 ((s : Int).fdiv (2 ^ (min (k : Int).toNat IntKind.i64.bits))) 1 == 1) = false := by rw [hbt, tb]; rfl
          rw [tb, if_neg (by decide), List.append_nil] at hnx
          repeat (refine W.seq ?_)
          refine W.region 92 98 (by decide) rfl rfl ?_
          refine RW.opd rfl rfl (LO.move rfl rfl) ?_
          refine RW.opd rfl rfl (LO.move rfl rfl) ?_
          refine RW.opd rfl rfl (LO.conv_in rfl rfl ty3 ty43 ?_) ?_; (· (first | exact IntWalk.u64_in _ (by omega) | assumption))
          refine RW.opd rfl rfl (LO.shr rfl rfl rfl ?_) ?_; (· (first | omega | decide | assumption | fail | (simp; done) | (simp; omega)))
          refine RW.opd rfl rfl (LO.and rfl rfl rfl) ?_
          refine RW.opd rfl rfl (LO.eql rfl rfl rfl) ?_
          refine RW.nil ?_
          repeat (refine W.seq ?_)
          refine W.cond_f rfl (by first | rfl | assumption) ?_
          refine W.skip ?_
          repeat (refine W.seq ?_)
          refine W.region 111 113 (by decide) rfl rfl ?_
          refine RW.opd rfl rfl (LO.add_in rfl rfl rfl ?_) ?_; (· (first | exact IntWalk.i64_in _ (by omega) | assumption))
          refine RW.opd rfl rfl (LO.move rfl rfl) ?_
          refine RW.nil ?_
          refine WL.rename [(0, 0), (1, 1)] 2 (by decide) ?_ ?_ (ihB ((k + 1), c) (show its.length - (k + 1) < its.length - k from by omega) (show (k + 1) ≤ its.length ∧ c = chK its s (k + 1) from ⟨by omega, hnx.symm⟩))
          · (repeat' (first | exact all_mt | refine all_up ?_ ?_)) <;> first | exact .inl ⟨rfl, rfl⟩ | exact .inr ⟨rfl, fun _ h => by cases h⟩ | exact .inl ⟨rfl, by first | rfl | assumption | exact (its_pure _)⟩
          · (repeat' (first | exact all_mt | refine all_up ?_ ?_)) <;> first | exact ⟨rfl, _, rfl, .inr ⟨rfl, rfl⟩⟩ | exact ⟨rfl, _, rfl, .inl rfl⟩ | exact ⟨rfl, _, rfl, .inr ⟨rfl, by first | rfl | assumption | exact (its_pure _)⟩⟩
        | true =>
          have g2 : (bitV .and .i64 ((s : Int).fdiv (2 ^ (min (k : Int).toNat IntKind.i64.bits))) 1 == 1) = true := by rw [hbt, tb]; rfl
          rw [tb, if_pos rfl] at hnx
          repeat (refine W.seq ?_)
          refine W.region 92 98 (by decide) rfl rfl ?_
          refine RW.opd rfl rfl (LO.move rfl rfl) ?_
          refine RW.opd rfl rfl (LO.move rfl rfl) ?_
          refine RW.opd rfl rfl (LO.conv_in rfl rfl ty3 ty43 ?_) ?_; (· (first | exact IntWalk.u64_in _ (by omega) | assumption))
          refine RW.opd rfl rfl (LO.shr rfl rfl rfl ?_) ?_; (· (first | omega | decide | assumption | fail | (simp; done) | (simp; omega)))
          refine RW.opd rfl rfl (LO.and rfl rfl rfl) ?_
          refine RW.opd rfl rfl (LO.eql rfl rfl rfl) ?_
          refine RW.nil ?_
          repeat (refine W.seq ?_)
          refine W.cond_t rfl (by first | rfl | assumption) ?_
          repeat (refine W.seq ?_)
          refine W.region 102 107 (by decide) rfl rfl ?_
          refine RW.opd rfl rfl (LO.move rfl rfl) ?_
          refine RW.opd rfl rfl (LO.load_agg rfl rfl rfl ty45 rfl (Tk.lit rfl)) ?_
          refine RW.opd rfl rfl (LO.buildSlice rfl ty22 ty45 (by decide) (by decide) (.cons rfl rfl rfl rfl (Sp.lit rfl) .nil)) ?_
          refine RW.opd rfl rfl (LO.append rfl rfl (SrcAV.own rfl rfl (Tk.lit rfl)) rfl (its_all rfl) ty22 ty22 ty45 (by decide) ?_ ?_ ?_) ?_; (· (first | omega | decide | assumption | fail | (simp; done) | (simp; omega))); (· (first | omega | decide | assumption | fail | (simp; done) | (simp; omega))); (· (first | decide | omega))
          refine RW.opd rfl rfl (LO.assign rfl rfl) ?_
          refine RW.nil ?_
          repeat (refine W.seq ?_)
          refine W.region 111 113 (by decide) rfl rfl ?_
          refine RW.opd rfl rfl (LO.add_in rfl rfl rfl ?_) ?_; (· (first | exact IntWalk.i64_in _ (by omega) | assumption))
          refine RW.opd rfl rfl (LO.move rfl rfl) ?_
          refine RW.nil ?_
          rw [show itsC c ++ [AV.base (.bool its[k].sw), AV.base (.int .i64 its[k].ix)] = itsC (c ++ [its[k]]) from its_snoc _ _, show c.length + 1 = (c ++ [its[k]]).length from by simp]
          refine WL.rename [(0, 0), (1, 105)] 2 (by decide) ?_ ?_ (ihB ((k + 1), (c ++ [its[k]])) (show its.length - (k + 1) < its.length - k from by omega) (show (k + 1) ≤ its.length ∧ (c ++ [its[k]]) = chK its s (k + 1) from ⟨by omega, hnx.symm⟩))
          · (repeat' (first | exact all_mt | refine all_up ?_ ?_)) <;> first | exact .inl ⟨rfl, rfl⟩ | exact .inr ⟨rfl, fun _ h => by cases h⟩ | exact .inl ⟨rfl, by first | rfl | assumption | exact (its_pure _)⟩
          · (repeat' (first | exact all_mt | refine all_up ?_ ?_)) <;> first | exact ⟨rfl, _, rfl, .inr ⟨rfl, rfl⟩⟩ | exact ⟨rfl, _, rfl, .inl rfl⟩ | exact ⟨rfl, _, rfl, .inr ⟨rfl, by first | rfl | assumption | exact (its_pure _)⟩⟩
      · have g2 : decide ((k : Int) < (its.length : Int)) = false := decide_eq_false (by omega)
        obtain rfl : k = its.length := by omega
        repeat (refine W.seq ?_)
        refine W.region 77 78 (by decide) rfl rfl ?_
        refine RW.opd rfl rfl (LO.lss rfl rfl rfl) ?_
        refine RW.nil ?_
        repeat (refine W.seq ?_)
        refine W.cond_f rfl (by first | rfl | assumption) ?_
        refine W.exit ?_
        by_cases hfl : c.length = its.length
        · have k1 : ((c.length : Int) == (its.length : Int)) = true := by rw [hfl]; simp
          have hci : c = its := by
            have h1 : c = chF its s := hcc
            rw [h1]; exact chF_full (by rw [← h1]; exact hfl)
          subst hci
          repeat (refine W.seq ?_)
          refine W.region 117 129 (by decide) rfl rfl ?_
          refine RW.opd rfl rfl (LO.move rfl rfl) ?_
          refine RW.opd rfl rfl (LO.len rfl rfl ty22) ?_
          refine RW.opd rfl rfl (LO.move rfl rfl) ?_
          refine RW.opd rfl rfl (LO.len_isl rfl rfl rfl ty22) ?_
          refine RW.opd rfl rfl (LO.eql rfl rfl rfl) ?_
          refine RW.opd rfl rfl (LO.move rfl rfl) ?_
          refine RW.gd rfl rfl rfl ?_ rfl (LO.load_agg rfl rfl rfl ty28 rfl (Tk.lit rfl)) ?_; (· (first | rfl | assumption))
          refine RW.gd rfl rfl rfl ?_ rfl (LO.move rfl rfl) ?_; (· (first | rfl | assumption))
          refine RW.gd rfl rfl rfl ?_ rfl (LO.move rfl rfl) ?_; (· (first | rfl | assumption))
          refine RW.gd rfl rfl rfl ?_ rfl (LO.call0 (fr := [1]) rfl rfl (hsf) fok17 (.cons rfl (.pure rfl) (.cons rfl (.pure rfl) (.cons rfl (.one (.osl (by decide) rfl (its_all rfl) (its_pure _))) .nil))) rfl) ?_; (· (first | rfl | assumption))
          refine RW.gd rfl rfl rfl ?_ rfl (LO.eql rfl rfl rfl) ?_; (· (first | rfl | assumption))
          refine RW.opd rfl rfl (LO.pick_t rfl rfl ?_ rfl) ?_; (· (first | rfl | assumption))
          refine RW.nil ?_
          repeat (refine W.seq ?_)
          refine W.cond_f rfl (by first | rfl | assumption) ?_
          refine W.skip ?_
          repeat (refine W.seq ?_)
          refine W.region 138 141 (by decide) rfl rfl ?_
          refine RW.opd rfl rfl (LO.move rfl rfl) ?_
          refine RW.opd rfl rfl (LO.add_in rfl rfl rfl ?_) ?_; (· (first | exact IntWalk.i64_in _ (by omega) | assumption))
          refine RW.opd rfl rfl (LO.assign rfl rfl) ?_
          refine RW.nil ?_
          refine WL.rename [(0, 0)] 1 (by decide) ?_ ?_ (ihA (s + 1) (show N - (s + 1) < N - s from by omega) (show 1 ≤ (s + 1) ∧ (s + 1) ≤ N from ⟨by omega, by omega⟩))
          · (repeat' (first | exact all_mt | refine all_up ?_ ?_)) <;> first | exact .inl ⟨rfl, rfl⟩ | exact .inr ⟨rfl, fun _ h => by cases h⟩ | exact .inl ⟨rfl, by first | rfl | assumption ⟩
          · (repeat' (first | exact all_mt | refine all_up ?_ ?_)) <;> first | exact ⟨rfl, _, rfl, .inr ⟨rfl, rfl⟩⟩ | exact ⟨rfl, _, rfl, .inl rfl⟩ | exact ⟨rfl, _, rfl, .inr ⟨rfl, by first | rfl | assumption ⟩⟩
        · have k1 : ((c.length : Int) == (its.length : Int)) = false := by simp; omega
          repeat (refine W.seq ?_)
          refine W.region 117 129 (by decide) rfl rfl ?_
          refine RW.opd rfl rfl (LO.move rfl rfl) ?_
          refine RW.opd rfl rfl (LO.len rfl rfl ty22) ?_
          refine RW.opd rfl rfl (LO.move rfl rfl) ?_
          refine RW.opd rfl rfl (LO.len_isl rfl rfl rfl ty22) ?_
          refine RW.opd rfl rfl (LO.eql rfl rfl rfl) ?_
          refine RW.opd rfl rfl (LO.move rfl rfl) ?_
          refine RW.sd rfl rfl rfl ?_ rfl ?_; (· (first | rfl | assumption))
          refine RW.sd rfl rfl rfl ?_ rfl ?_; (· (first | rfl | assumption))
          refine RW.sd rfl rfl rfl ?_ rfl ?_; (· (first | rfl | assumption))
          refine RW.sd rfl rfl rfl ?_ rfl ?_; (· (first | rfl | assumption))
          refine RW.sd rfl rfl rfl ?_ rfl ?_; (· (first | rfl | assumption))
          refine RW.opd rfl rfl (LO.pick_f rfl rfl ?_ rfl) ?_; (· (first | rfl | assumption))
          refine RW.nil ?_
          repeat (refine W.seq ?_)
          refine W.cond_f rfl (by first | rfl | assumption) ?_
          refine W.skip ?_
          repeat (refine W.seq ?_)
          refine W.region 138 141 (by decide) rfl rfl ?_
          refine RW.opd rfl rfl (LO.move rfl rfl) ?_
          refine RW.opd rfl rfl (LO.add_in rfl rfl rfl ?_) ?_; (· (first | exact IntWalk.i64_in _ (by omega) | assumption))
          refine RW.opd rfl rfl (LO.assign rfl rfl) ?_
          refine RW.nil ?_
          refine WL.rename [(0, 0)] 1 (by decide) ?_ ?_ (ihA (s + 1) (show N - (s + 1) < N - s from by omega) (show 1 ≤ (s + 1) ∧ (s + 1) ≤ N from ⟨by omega, by omega⟩))
          · (repeat' (first | exact all_mt | refine all_up ?_ ?_)) <;> first | exact .inl ⟨rfl, rfl⟩ | exact .inr ⟨rfl, fun _ h => by cases h⟩ | exact .inl ⟨rfl, by first | rfl | assumption ⟩
          · (repeat' (first | exact all_mt | refine all_up ?_ ?_)) <;> first | exact ⟨rfl, _, rfl, .inr ⟨rfl, rfl⟩⟩ | exact ⟨rfl, _, rfl, .inl rfl⟩ | exact ⟨rfl, _, rfl, .inr ⟨rfl, by first | rfl | assumption ⟩⟩
    · have g1 : decide ((s : Int) < (N : Int)) = false := decide_eq_false (by omega)
      repeat (refine W.seq ?_)
      refine W.region 55 61 (by decide) rfl rfl ?_
      refine RW.opd rfl rfl (LO.move rfl rfl) ?_
      refine RW.opd rfl rfl (LO.move rfl rfl) ?_
      refine RW.opd rfl rfl (LO.len_isl rfl rfl rfl ty22) ?_
      refine RW.opd rfl rfl (LO.conv_in rfl rfl ty3 ty43 ?_) ?_; (· (first | exact IntWalk.u64_in _ (by omega) | assumption))
      refine RW.opd rfl rfl (LO.shl rfl rfl rfl ?_) ?_; (· (first | omega | decide | assumption | fail | (simp; done) | (simp; omega)))
      rw [hsh0]
      refine RW.opd rfl rfl (LO.lss rfl rfl rfl) ?_
      refine RW.nil ?_
      repeat (refine W.seq ?_)
      refine W.cond_f rfl (by first | rfl | assumption) ?_
      refine W.exit ?_
      repeat (refine W.seq ?_)
      refine W.region 145 147 (by decide) rfl rfl ?_
      refine RW.opd rfl rfl (LO.call0 (fr := []) rfl rfl (haw) fok8 .nil rfl) ?_
      refine RW.opd rfl rfl (LO.assign rfl rfl) ?_
      refine RW.nil ?_
      repeat (refine W.seq ?_)
      refine W.ret ⟨.inl rfl, _, mt, RVs.cons (RV.tmp rfl) (RVs.nil), all_mt, ?_⟩
      exact ⟨rfl, rfl⟩
end Go.Proofs.YtbjfaepjpmogjaaDoor
