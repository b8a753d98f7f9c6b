/-
  The document's check lets a right database pass.
-/
import Derived.Test.YtcidmiacfjdepaaDoorJf
import Derived.Test.YtcidmiacfjdepaaDoorMab
namespace Go.Proofs.YtcidmiacfjdepaaDoor
open Go.RowKit

theorem u64_four (n : Fin 15) : validA (fourA (n.val : Int)).v6 (fourA (n.val : Int)).hi (fourA (n.val : Int)).lo = true ∧ U64 (fourA (n.val : Int)).hi ∧ U64 (fourA (n.val : Int)).lo := by
  have := n.2
  unfold validA fourA U64
  simp
  omega
theorem u64_six (n : Fin 15) : validA (sixA (n.val : Int)).v6 (sixA (n.val : Int)).hi (sixA (n.val : Int)).lo = true ∧ U64 (sixA (n.val : Int)).hi ∧ U64 (sixA (n.val : Int)).lo := by
  have := n.2
  unfold validA sixA U64
  simp
  omega
theorem LO.eql_ad_b {o : Oper} {E : Operand → Option AV} {H : Hp} {f : Nat} {ty : TypeId} {x y : Operand} {r : Bool} (a b : Ad) (h : eqA a b = r) (ho : o.op = .binOp .eql 25 x y ty) (hx : E x = some (.agg (adC a))) (hy : E y = some (.agg (adC b))) : LO Tryd.prog o E H f [] [] (.base (.bool r)) H := h ▸ LO.eql_ad a b ho hx hy
set_option maxHeartbeats 2000000 in
theorem outside_any (d : Db) (hd : DbOk d) : AFn Tryd.prog 45 0 [.agg (dbC d)] mt (.base (.bool false)) mt := by
  refine AFn.eq Tryd.func45 rfl rfl (Nat.le_of_ble_eq_true rfl) ?_
  have h4 := hd.ns
  have h32 := hd.nm
  have hmem := hd.mem
  have e4 := hd.l4
  have e6 := hd.l6
  have hall := all_any d (by omega) (by omega)
  obtain ⟨A, hA⟩ : ∃ A, A = d.servers ++ d.members := ⟨_, rfl⟩
  rw [← hA] at hall hmem
  have hAl : A.length ≤ 2000 := by rw [hA, List.length_append]; omega
  clear hd hA
  obtain ⟨l4, l6, sv, mb⟩ := d
  dsimp only at e4 e6
  subst e4 e6
  have hlast := last_any lan4 24 rfl (by decide) (by unfold U64; decide) (by unfold U64; decide) (by decide)
  refine Wq (Wr 0 2 (by decide) rfl rfl (Od rfl rfl (Bx rfl rfl rfl) (Od rfl rfl (As rfl rfl) (Nl (Wq (Wq (Wr 6 10 (by decide) rfl rfl (Od rfl rfl (La rfl rfl rfl ty30 rfl (Tk.lit rfl)) (Od rfl rfl (C0 (fr := []) rfl rfl (hall) fok47 (.cons rfl (.pure rfl) .nil) rfl) (Od rfl rfl (Ln rfl rfl rfl ty28) (Od rfl rfl (Mv rfl rfl) (Nl (Wb (W.rename [(0, 0)] 1 (T' := up (up (up (up mt 1 (some (.own 0 0))) 8 (some (.isl (memsC A) A.length))) 9 (some (.base (.int .i64 (A.length : Int))))) 10 (some (.base (.int .i64 (0 : Int))))) (H' := up mt 0 (some (dbC ⟨lan4, lan6, sv, mb⟩))) (by decide) ?_ ?_ ?_))))))))))))))
  · (repeat' (first | exact all_mt | refine all_up ?_ ?_)) <;> first | exact .inl ⟨rfl, rfl⟩ | exact .inr ⟨rfl, fun _ h => by cases h⟩ | exact .inl ⟨rfl, by first | rfl | assumption ⟩
  · (repeat' (first | exact all_mt | refine all_up ?_ ?_)) <;> first | exact ⟨rfl, _, rfl, .inr ⟨rfl, rfl⟩⟩ | exact ⟨rfl, _, rfl, .inl rfl⟩ | exact ⟨rfl, _, rfl, .inr ⟨rfl, by first | rfl | assumption ⟩⟩
  refine W.loop_ind (α := Nat) (fun x => A.length - x) 1 (fun x => up (up (up (up mt 1 (some (.own 0 0))) 8 (some (.isl (memsC A) A.length))) 9 (some (.base (.int .i64 (A.length : Int))))) 10 (some (.base (.int .i64 (x : Int))))) (fun x => up mt 0 (some (dbC ⟨lan4, lan6, sv, mb⟩))) (fun x => x ≤ A.length) 0 (show 0 ≤ A.length from Nat.zero_le _) ?_
  rintro i hIA ihA
  try (dsimp only at hIA)
  try dsimp only
  by_cases hc : i < A.length
  · have g1 : decide ((i : Int) < (A.length : Int)) = true := decide_eq_true (by omega)
    have hm := hmem _ (List.getElem_mem hc)
    refine Wq (Wr 14 15 (by decide) rfl rfl (Od rfl rfl (Ls rfl rfl rfl) (Nl (Wq (Wt rfl (by first|rfl|assumption) (Wk (Wq (Wb (Wq (Wr 19 23 (by decide) rfl rfl (Od rfl rfl (Ii rfl rfl rfl rfl rfl ty28 ty76 (by first|omega|decide|assumption|(simp;done)|(simp;omega))) (Od rfl rfl (Lg rfl rfl ty76 rfl (mems_tk hc)) (Od rfl rfl (Al rfl ty76) (On rfl rfl (Sr rfl rfl rfl rfl rfl ty76 rfl (by decide) (Sp.lit rfl)) (Nl ?_)))))))))))))))
    generalize A[i] = m at *
    have hnp := hm.np
    have hps := hm.ports
    refine Wq (Wr 27 31 (by decide) rfl rfl (Od rfl rfl (Fa rfl rfl ty76 rfl (by decide)) (Od rfl rfl (Ld rfl rfl rfl rfl ty74 rfl) (Od rfl rfl (Ln rfl rfl rfl ty74) (Od rfl rfl (Mv rfl rfl) (Nl ?_))))))
    generalize m.ports = ps at *
    refine Wb (W.rename [(0, 0)] 1 (T' := up (up (up (up (up (up (up mt 1 (some (.own 0 0))) 8 (some (.isl (memsC A) A.length))) 9 (some (.base (.int .i64 (A.length : Int))))) 10 (some (.base (.int .i64 (i : Int))))) 15 (some (.isl (prtsC ps) ps.length))) 16 (some (.base (.int .i64 (ps.length : Int))))) 17 (some (.base (.int .i64 (0 : Int))))) (H' := up mt 0 (some (dbC ⟨lan4, lan6, sv, mb⟩))) (by decide) ?_ ?_ ?_)
    · (repeat' (first | exact all_mt | refine all_up ?_ ?_)) <;> first | exact .inl ⟨rfl, rfl⟩ | exact .inr ⟨rfl, fun _ h => by cases h⟩ | exact .inl ⟨rfl, by first | rfl | assumption ⟩
    · (repeat' (first | exact all_mt | refine all_up ?_ ?_)) <;> first | exact ⟨rfl, _, rfl, .inr ⟨rfl, rfl⟩⟩ | exact ⟨rfl, _, rfl, .inl rfl⟩ | exact ⟨rfl, _, rfl, .inr ⟨rfl, by first | rfl | assumption ⟩⟩
    refine W.loop_ind (α := Nat) (fun x => ps.length - x) 1 (fun x => up (up (up (up (up (up (up mt 1 (some (.own 0 0))) 8 (some (.isl (memsC A) A.length))) 9 (some (.base (.int .i64 (A.length : Int))))) 10 (some (.base (.int .i64 (i : Int))))) 15 (some (.isl (prtsC ps) ps.length))) 16 (some (.base (.int .i64 (ps.length : Int))))) 17 (some (.base (.int .i64 (x : Int))))) (fun x => up mt 0 (some (dbC ⟨lan4, lan6, sv, mb⟩))) (fun x => x ≤ ps.length) 0 (show 0 ≤ ps.length from Nat.zero_le _) ?_
    rintro j hIB ihB
    try (dsimp only at hIB)
    try dsimp only
    by_cases hc2 : j < ps.length
    · have g2 : decide ((j : Int) < (ps.length : Int)) = true := decide_eq_true (by omega)
      have hp := hps _ (List.getElem_mem hc2)
      refine Wq (Wr 35 36 (by decide) rfl rfl (Od rfl rfl (Ls rfl rfl rfl) (Nl (Wq (Wt rfl (by first|rfl|assumption) (Wk (Wq (Wb (Wq (Wr 40 44 (by decide) rfl rfl (Od rfl rfl (Ii rfl rfl rfl rfl rfl ty74 ty83 (by first|omega|decide|assumption|(simp;done)|(simp;omega))) (Od rfl rfl (Lg rfl rfl ty83 rfl (prts_tk hc2)) (Od rfl rfl (Al rfl ty83) (On rfl rfl (Sr rfl rfl rfl rfl rfl ty83 rfl (by decide) (Sp.lit rfl)) (Nl ?_)))))))))))))))
      generalize ps[j] = p at *
      have z4 := zero_any p.v4
      have z6 := zero_any p.v6
      obtain ⟨id, sw, sp, macs, v4, v6⟩ := p
      have a4 := hp.a4
      have a6 := hp.a6
      clear hp
      dsimp only at a4 a6 z4 z6
      refine Wq (W.joinK (α := Unit) 2 (fun x => [(1, .own 0 0), (6, .own 1 0)]) (fun x => up (up mt 0 (some (dbC ⟨lan4, lan6, sv, mb⟩))) 1 (some (prtC ⟨id, sw, sp, macs, v4, v6⟩))) (fun x => True) (.cons (t := 8) rfl (by first | exact .inl rfl | exact .inr ⟨rfl, fun _ h => by cases h⟩ | (exact .inl (by assumption)) ) (.cons (t := 9) rfl (by first | exact .inl rfl | exact .inr ⟨rfl, fun _ h => by cases h⟩ | (exact .inl (by assumption)) ) (.cons (t := 10) rfl (by first | exact .inl rfl | exact .inr ⟨rfl, fun _ h => by cases h⟩ | (exact .inl (by assumption)) ) (.cons (t := 15) rfl (by first | exact .inl rfl | exact .inr ⟨rfl, fun _ h => by cases h⟩ | (exact .inl (by assumption)) ) (.cons (t := 16) rfl (by first | exact .inl rfl | exact .inr ⟨rfl, fun _ h => by cases h⟩ | (exact .inl (by assumption)) ) (.cons (t := 17) rfl (by first | exact .inl rfl | exact .inr ⟨rfl, fun _ h => by cases h⟩ | (exact .inl (by assumption)) ) .nil)))))) ?_ ?_)
      rotate_left
      rintro q hIJ
      try (dsimp only at hIJ)
      try dsimp only [joinT, baseT, List.cons_append, List.nil_append]
      rotate_right
      ·
        rcases a4 with e | ⟨n, e⟩
        ·
          subst e
          rw [show zeroA ⟨false, 0, 0⟩ = true from rfl] at z4
          refine Wq (Wd 48 76 (by decide) rfl mixed rfl (Od rfl rfl (Fa rfl rfl ty83 rfl (by decide)) (Od rfl rfl (La rfl rfl rfl ty25 rfl (Tk.lit rfl)) (Od rfl rfl (C0 (fr := []) rfl rfl (z4) fok76 (.cons rfl (.pure rfl) .nil) rfl) (Od rfl rfl (Nt rfl rfl) (Od rfl rfl (Mv rfl rfl) (Sd rfl rfl rfl (by first|rfl|assumption) rfl (Sd rfl rfl rfl (by first|rfl|assumption) rfl (Sd rfl rfl rfl (by first|rfl|assumption) rfl (Sd rfl rfl rfl (by first|rfl|assumption) rfl (Sd rfl rfl rfl (by first|rfl|assumption) rfl (Sd rfl rfl rfl (by first|rfl|assumption) rfl (Sd rfl rfl rfl (by first|rfl|assumption) rfl (Ud rfl rfl rfl rfl (Ud rfl rfl rfl rfl (Ud rfl rfl rfl rfl (Ud rfl rfl rfl rfl (Ud rfl rfl rfl rfl (Ud rfl rfl rfl rfl (Sd rfl rfl rfl (by first|rfl|assumption) rfl (Sd rfl rfl rfl (by first|rfl|assumption) rfl (Ud rfl rfl rfl rfl (Ud rfl rfl rfl rfl (Ud rfl rfl rfl rfl (Ud rfl rfl rfl rfl (Ud rfl rfl rfl rfl (Ud rfl rfl rfl rfl (Sd rfl rfl rfl (by first|rfl|assumption) rfl (Od rfl rfl (Pf0 rfl rfl (by first|rfl|assumption) rfl) (Nl ⟨by kernel_rfl, (Wf rfl (by first|rfl|assumption) (Wk ?_))⟩))))))))))))))))))))))))))))))
          intro yJ KJ hJ
          refine W.renameJ [(0, 0), (1, 42)] 2 (by decide) ?_ ?_ (hJ (()) (show True from trivial))
          · (repeat' (first | exact LookR.nil | refine LookR.cons ?_ ?_)) <;> first | exact .inl ⟨rfl, rfl⟩ | exact .inr ⟨rfl, fun _ h => by cases h⟩ | exact .inl ⟨rfl, by first | rfl | assumption ⟩
          · (repeat' (first | exact all_mt | refine all_up ?_ ?_)) <;> first | exact ⟨rfl, _, rfl, .inr ⟨rfl, rfl⟩⟩ | exact ⟨rfl, _, rfl, .inl rfl⟩ | exact ⟨rfl, _, rfl, .inr ⟨rfl, by first | rfl | assumption ⟩⟩
        ·
          subst e
          obtain ⟨u1, u2, u3⟩ := u64_four n
          have hct := containsX_any lan4 (fourA (n.val : Int)) 24 rfl u1 u2 u3 (by show (24 : Int) ≤ 32; decide)
          rw [(four_in n).1] at hct
          have hz : zeroA (fourA (n.val : Int)) = false := by have := n.2; unfold zeroA eqA fourA; simp; omega
          rw [hz] at z4
          clear hz u1
          refine Wq (Wd 48 76 (by decide) rfl mixed rfl (Od rfl rfl (Fa rfl rfl ty83 rfl (by decide)) (Od rfl rfl (La rfl rfl rfl ty25 rfl (Tk.lit rfl)) (Od rfl rfl (C0 (fr := []) rfl rfl (z4) fok76 (.cons rfl (.pure rfl) .nil) rfl) (Od rfl rfl (Nt rfl rfl) (Od rfl rfl (Mv rfl rfl) (Gd rfl rfl rfl (by first|rfl|assumption) rfl (Fa rfl rfl ty30 rfl (by decide)) (Gd rfl rfl rfl (by first|rfl|assumption) rfl (La rfl rfl rfl ty27 rfl (Tk.lit rfl)) (Gd rfl rfl rfl (by first|rfl|assumption) rfl (Fa rfl rfl ty83 rfl (by decide)) (Gd rfl rfl rfl (by first|rfl|assumption) rfl (La rfl rfl rfl ty25 rfl (Tk.lit rfl)) (Gd rfl rfl rfl (by first|rfl|assumption) rfl (C0 (fr := []) rfl rfl (hct) fok77 (.cons rfl (.pure rfl) (.cons rfl (.pure rfl) .nil)) rfl) (Gd rfl rfl rfl (by first|rfl|assumption) rfl (Nt rfl rfl) (Gd rfl rfl rfl (by first|rfl|assumption) rfl (Mv rfl rfl) (Gd rfl rfl rfl (by first|rfl|assumption) rfl (Fa rfl rfl ty83 rfl (by decide)) (Gd rfl rfl rfl (by first|rfl|assumption) rfl (La rfl rfl rfl ty25 rfl (Tk.lit rfl)) (Gd rfl rfl rfl (by first|rfl|assumption) rfl (Fa rfl rfl ty30 rfl (by decide)) (Gd rfl rfl rfl (by first|rfl|assumption) rfl (Fa rfl rfl ty27 rfl (by decide)) (Gd rfl rfl rfl (by first|rfl|assumption) rfl (La rfl rfl rfl ty25 rfl (Tk.lit rfl)) (Gd rfl rfl rfl (by first|rfl|assumption) rfl (LO.eql_ad_b (fourA (n.val : Int)) lan4.ad (four_in n).2.1 rfl rfl rfl) (Gd rfl rfl rfl (by first|rfl|assumption) rfl (Pf0 rfl rfl (by first|rfl|assumption) rfl) (Gd rfl rfl rfl (by first|rfl|assumption) rfl (Mv rfl rfl) (Gd rfl rfl rfl (by first|rfl|assumption) rfl (Fa rfl rfl ty83 rfl (by decide)) (Gd rfl rfl rfl (by first|rfl|assumption) rfl (La rfl rfl rfl ty25 rfl (Tk.lit rfl)) (Gd rfl rfl rfl (by first|rfl|assumption) rfl (Fa rfl rfl ty30 rfl (by decide)) (Gd rfl rfl rfl (by first|rfl|assumption) rfl (La rfl rfl rfl ty27 rfl (Tk.lit rfl)) (Gd rfl rfl rfl (by first|rfl|assumption) rfl (C0 (fr := []) rfl rfl (hlast) fok78 (.cons rfl (.pure rfl) .nil) rfl) (Gd rfl rfl rfl (by first|rfl|assumption) rfl (LO.eql_ad_b (fourA (n.val : Int)) (mkAd .or lan4.ad 24) (four_in n).2.2 rfl rfl rfl) (Gd rfl rfl rfl (by first|rfl|assumption) rfl (Pf0 rfl rfl (by first|rfl|assumption) rfl) (Od rfl rfl (Pt rfl rfl (by first|rfl|assumption) rfl) (Nl ⟨by kernel_rfl, (Wf rfl (by first|rfl|assumption) (Wk ?_))⟩))))))))))))))))))))))))))))))
          intro yJ KJ hJ
          refine W.renameJ [(0, 0), (1, 42)] 2 (by decide) ?_ ?_ (hJ (()) (show True from trivial))
          · (repeat' (first | exact LookR.nil | refine LookR.cons ?_ ?_)) <;> first | exact .inl ⟨rfl, rfl⟩ | exact .inr ⟨rfl, fun _ h => by cases h⟩ | exact .inl ⟨rfl, by first | rfl | assumption ⟩
          · (repeat' (first | exact all_mt | refine all_up ?_ ?_)) <;> first | exact ⟨rfl, _, rfl, .inr ⟨rfl, rfl⟩⟩ | exact ⟨rfl, _, rfl, .inl rfl⟩ | exact ⟨rfl, _, rfl, .inr ⟨rfl, by first | rfl | assumption ⟩⟩
      rcases a6 with e | ⟨n, e⟩
      ·
        subst e
        rw [show zeroA ⟨false, 0, 0⟩ = true from rfl] at z6
        refine Wq (Wr 85 105 (by decide) rfl rfl (Od rfl rfl (Fa rfl rfl ty83 rfl (by decide)) (Od rfl rfl (La rfl rfl rfl ty25 rfl (Tk.lit rfl)) (Od rfl rfl (C0 (fr := []) rfl rfl (z6) fok76 (.cons rfl (.pure rfl) .nil) rfl) (Od rfl rfl (Nt rfl rfl) (Od rfl rfl (Mv rfl rfl) (Sd rfl rfl rfl (by first|rfl|assumption) rfl (Sd rfl rfl rfl (by first|rfl|assumption) rfl (Sd rfl rfl rfl (by first|rfl|assumption) rfl (Sd rfl rfl rfl (by first|rfl|assumption) rfl (Sd rfl rfl rfl (by first|rfl|assumption) rfl (Sd rfl rfl rfl (by first|rfl|assumption) rfl (Sd rfl rfl rfl (by first|rfl|assumption) rfl (Ud rfl rfl rfl rfl (Ud rfl rfl rfl rfl (Ud rfl rfl rfl rfl (Ud rfl rfl rfl rfl (Ud rfl rfl rfl rfl (Ud rfl rfl rfl rfl (Sd rfl rfl rfl (by first|rfl|assumption) rfl (Od rfl rfl (Pf0 rfl rfl (by first|rfl|assumption) rfl) (Nl (Wf rfl (by first|rfl|assumption) (Wk (Wr 114 116 (by decide) rfl rfl (Od rfl rfl (Ad0 rfl rfl rfl (by (first | exact IntWalk.i64_in _ (by omega) | assumption))) (Od rfl rfl (Mv rfl rfl) (Nl (WL.rename [(0, 0)] 1 (by decide) ?_ ?_ (ihB (j + 1) (show ps.length - (j + 1) < ps.length - j from by omega) (show (j + 1) ≤ ps.length from by omega)))))))))))))))))))))))))))))))
        · (repeat' (first | exact all_mt | refine all_up ?_ ?_)) <;> first | exact .inl ⟨rfl, rfl⟩ | exact .inr ⟨rfl, fun _ h => by cases h⟩ | exact .inl ⟨rfl, by first | rfl | assumption ⟩
        · (repeat' (first | exact all_mt | refine all_up ?_ ?_)) <;> first | exact ⟨rfl, _, rfl, .inr ⟨rfl, rfl⟩⟩ | exact ⟨rfl, _, rfl, .inl rfl⟩ | exact ⟨rfl, _, rfl, .inr ⟨rfl, by first | rfl | assumption ⟩⟩
      ·
        subst e
        obtain ⟨u1, u2, u3⟩ := u64_six n
        have hct := containsX_any lan6 (sixA (n.val : Int)) 64 rfl u1 u2 u3 (by show (64 : Int) ≤ 128; decide)
        rw [(six_in n).1] at hct
        have hz : zeroA (sixA (n.val : Int)) = false := rfl
        rw [hz] at z6
        clear hz u1
        refine Wq (Wr 85 105 (by decide) rfl rfl (Od rfl rfl (Fa rfl rfl ty83 rfl (by decide)) (Od rfl rfl (La rfl rfl rfl ty25 rfl (Tk.lit rfl)) (Od rfl rfl (C0 (fr := []) rfl rfl (z6) fok76 (.cons rfl (.pure rfl) .nil) rfl) (Od rfl rfl (Nt rfl rfl) (Od rfl rfl (Mv rfl rfl) (Gd rfl rfl rfl (by first|rfl|assumption) rfl (Fa rfl rfl ty30 rfl (by decide)) (Gd rfl rfl rfl (by first|rfl|assumption) rfl (La rfl rfl rfl ty27 rfl (Tk.lit rfl)) (Gd rfl rfl rfl (by first|rfl|assumption) rfl (Fa rfl rfl ty83 rfl (by decide)) (Gd rfl rfl rfl (by first|rfl|assumption) rfl (La rfl rfl rfl ty25 rfl (Tk.lit rfl)) (Gd rfl rfl rfl (by first|rfl|assumption) rfl (C0 (fr := []) rfl rfl (hct) fok77 (.cons rfl (.pure rfl) (.cons rfl (.pure rfl) .nil)) rfl) (Gd rfl rfl rfl (by first|rfl|assumption) rfl (Nt rfl rfl) (Gd rfl rfl rfl (by first|rfl|assumption) rfl (Mv rfl rfl) (Gd rfl rfl rfl (by first|rfl|assumption) rfl (Fa rfl rfl ty83 rfl (by decide)) (Gd rfl rfl rfl (by first|rfl|assumption) rfl (La rfl rfl rfl ty25 rfl (Tk.lit rfl)) (Gd rfl rfl rfl (by first|rfl|assumption) rfl (Fa rfl rfl ty30 rfl (by decide)) (Gd rfl rfl rfl (by first|rfl|assumption) rfl (Fa rfl rfl ty27 rfl (by decide)) (Gd rfl rfl rfl (by first|rfl|assumption) rfl (La rfl rfl rfl ty25 rfl (Tk.lit rfl)) (Gd rfl rfl rfl (by first|rfl|assumption) rfl (LO.eql_ad_b (sixA (n.val : Int)) lan6.ad (six_in n).2 rfl rfl rfl) (Gd rfl rfl rfl (by first|rfl|assumption) rfl (Pf0 rfl rfl (by first|rfl|assumption) rfl) (Od rfl rfl (Pt rfl rfl (by first|rfl|assumption) rfl) (Nl (Wf rfl (by first|rfl|assumption) (Wk (Wr 114 116 (by decide) rfl rfl (Od rfl rfl (Ad0 rfl rfl rfl (by (first | exact IntWalk.i64_in _ (by omega) | assumption))) (Od rfl rfl (Mv rfl rfl) (Nl (WL.rename [(0, 0)] 1 (by decide) ?_ ?_ (ihB (j + 1) (show ps.length - (j + 1) < ps.length - j from by omega) (show (j + 1) ≤ ps.length from by omega)))))))))))))))))))))))))))))))
        · (repeat' (first | exact all_mt | refine all_up ?_ ?_)) <;> first | exact .inl ⟨rfl, rfl⟩ | exact .inr ⟨rfl, fun _ h => by cases h⟩ | exact .inl ⟨rfl, by first | rfl | assumption ⟩
        · (repeat' (first | exact all_mt | refine all_up ?_ ?_)) <;> first | exact ⟨rfl, _, rfl, .inr ⟨rfl, rfl⟩⟩ | exact ⟨rfl, _, rfl, .inl rfl⟩ | exact ⟨rfl, _, rfl, .inr ⟨rfl, by first | rfl | assumption ⟩⟩
    · have g2 : decide ((j : Int) < (ps.length : Int)) = false := decide_eq_false (by omega)
      refine Wq (Wr 35 36 (by decide) rfl rfl (Od rfl rfl (Ls rfl rfl rfl) (Nl (Wq (Wf rfl (by first|rfl|assumption) (Wx ?_))))))
      clear ihB
      refine Wr 120 122 (by decide) rfl rfl (Od rfl rfl (Ad0 rfl rfl rfl (by (first | exact IntWalk.i64_in _ (by omega) | assumption))) (Od rfl rfl (Mv rfl rfl) (Nl (WL.rename [(0, 0)] 1 (by decide) ?_ ?_ (ihA (i + 1) (show A.length - (i + 1) < A.length - i from by omega) (show (i + 1) ≤ A.length from by omega))))))
      · (repeat' (first | exact all_mt | refine all_up ?_ ?_)) <;> first | exact .inl ⟨rfl, rfl⟩ | exact .inr ⟨rfl, fun _ h => by cases h⟩ | exact .inl ⟨rfl, by first | rfl | assumption ⟩
      · (repeat' (first | exact all_mt | refine all_up ?_ ?_)) <;> first | exact ⟨rfl, _, rfl, .inr ⟨rfl, rfl⟩⟩ | exact ⟨rfl, _, rfl, .inl rfl⟩ | exact ⟨rfl, _, rfl, .inr ⟨rfl, by first | rfl | assumption ⟩⟩
  · have g1 : decide ((i : Int) < (A.length : Int)) = false := decide_eq_false (by omega)
    refine Wq (Wr 14 15 (by decide) rfl rfl (Od rfl rfl (Ls rfl rfl rfl) (Nl (Wq (Wf rfl (by first|rfl|assumption) (Wx (Wq (Wr 126 127 (by decide) rfl rfl (Od rfl rfl (As rfl rfl) (Nl (W.ret ⟨.inl rfl, _, mt, RVs.cons (RV.tmp rfl) (RVs.nil), all_mt, ?_⟩)))))))))))
    exact ⟨rfl, rfl⟩
theorem dbck_any (d : Db) (hd : DbOk d) (ho : Once d) : AFn Tryd.prog 25 0 [.agg (dbC d)] mt (.base (.int .i64 0)) mt := by
  refine AFn.eq Tryd.func25 rfl rfl (Nat.le_of_ble_eq_true rfl) ?_
  have c1 := many_any d hd
  have c2 := wrong_any d hd
  have c3 := outside_any d hd
  have c4 := twice_any d ho
  refine Wq (Wr 0 2 (by decide) rfl rfl (Od rfl rfl (Bx rfl rfl rfl) (Od rfl rfl (As rfl rfl) (Nl (Wq (Wb (Wq (Wr 6 9 (by decide) rfl rfl (Od rfl rfl (La rfl rfl rfl ty30 rfl (Tk.lit rfl)) (Od rfl rfl (C0 (fr := []) rfl rfl (c1) fok43 (.cons rfl (.pure rfl) .nil) rfl) (Od rfl rfl (As rfl rfl) (Nl (Wf rfl (by first|rfl|assumption) (Wq (Wr 18 21 (by decide) rfl rfl (Od rfl rfl (La rfl rfl rfl ty30 rfl (Tk.lit rfl)) (Od rfl rfl (C0 (fr := []) rfl rfl (c2) fok44 (.cons rfl (.pure rfl) .nil) rfl) (Od rfl rfl (As rfl rfl) (Nl (Wf rfl (by first|rfl|assumption) (Wq (Wr 30 33 (by decide) rfl rfl (Od rfl rfl (La rfl rfl rfl ty30 rfl (Tk.lit rfl)) (Od rfl rfl (C0 (fr := []) rfl rfl (c3) fok45 (.cons rfl (.pure rfl) .nil) rfl) (Od rfl rfl (As rfl rfl) (Nl (Wf rfl (by first|rfl|assumption) (Wq (Wr 42 45 (by decide) rfl rfl (Od rfl rfl (La rfl rfl rfl ty30 rfl (Tk.lit rfl)) (Od rfl rfl (C0 (fr := []) rfl rfl (c4) fok46 (.cons rfl (.pure rfl) .nil) rfl) (Od rfl rfl (As rfl rfl) (Nl (Wf rfl (by first|rfl|assumption) (Wk (Wq (Wr 54 55 (by decide) rfl rfl (Od rfl rfl (As rfl rfl) (Nl (W.ret ⟨.inl rfl, _, mt, RVs.cons (RV.tmp rfl) (RVs.nil), all_mt, ?_⟩))))))))))))))))))))))))))))))))))))))))
  exact ⟨rfl, rfl⟩
end Go.Proofs.YtcidmiacfjdepaaDoor
