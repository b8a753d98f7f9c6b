/-
  The document's rules of the ports.
-/
import Derived.Test.YtcidmiacfjdepaaDoorJh
import Derived.Test.YtcidmiacfjdepaaDoorMab
namespace Go.Proofs.YtcidmiacfjdepaaDoor
open Go.RowKit

structure Rl where
  port : Int
  asn : Int
  sw : Int
  macs : List (List Int)
  v4 : List Ad
  v6 : List Ad
  rate : Int
  burst : Int
def adsC (l : List Ad) : List AV := l.flatMap adC
def ruleC (r : Rl) : List AV := [.base (.int .i64 r.port), .base (.int .i64 r.asn), .base (.int .i64 r.sw), .isl (macsC r.macs) r.macs.length, .isl (adsC r.v4) r.v4.length, .isl (adsC r.v6) r.v6.length, .base (.int .i64 r.rate), .base (.int .i64 r.burst)]
def rulesC (l : List Rl) : List AV := l.flatMap ruleC
theorem rulesC_pure (l : List Rl) : (rulesC l).all AV.pure1 = true := flatPure (fun _ => rfl) l
theorem rules_all {l : List Rl} {n : Nat} (h : l.length = n) : Tk (rulesC l) 0 (n * 8) (rulesC l) := flatAll (c := ruleC) (fun _ => rfl) h
theorem rules_tk {l : List Rl} {k : Nat} (h : k < l.length) : Tk (rulesC l) (k * 8) 8 (ruleC l[k]) := flatTk (c := ruleC) (fun _ => rfl) h
theorem adsC_pure (l : List Ad) : (adsC l).all AV.pure1 = true := flatPure (fun _ => rfl) l
theorem ads_all {l : List Ad} {n : Nat} (h : l.length = n) : Tk (adsC l) 0 (n * 3) (adsC l) := flatAll (c := adC) (fun _ => rfl) h
theorem ads_tk {l : List Ad} {k : Nat} (h : k < l.length) : Tk (adsC l) (k * 3) 3 (adC l[k]) := flatTk (c := adC) (fun _ => rfl) h
def ad1 (a : Ad) : List Ad := if zeroA a = true then [] else [a]
def ruleOf (g : Int → Int) (rate burst : Int) (p : Prt) : Rl := ⟨p.id, g p.id, p.sw, p.macs, ad1 p.v4, ad1 p.v6, rate, burst⟩
set_option maxHeartbeats 1000000 in
theorem rules_any (d : Db) (hd : DbOk d) (ho : Once d) (hp : portsOf d = allP d) (hl : (allP d).length ≤ 1000) (rate burst : Int) (hr : 0 ≤ rate ∧ rate ≤ burst ∧ burst ≤ 1048576) :
    ∃ g : Int → Int, AFn Tryd.prog 8 0 [.agg (dbC d), .base (.int .i64 rate), .base (.int .i64 burst)] mt (.tup [.isl (rulesC ((allP d).map (ruleOf g rate burst))) ((allP d).map (ruleOf g rate burst)).length, .base (.int .i64 0)]) mt := by
  obtain ⟨g, gb, hg⟩ := owner_ex d hd
  refine ⟨g, AFn.eq Tryd.func8 rfl rfl (Nat.le_of_ble_eq_true rfl) ?_⟩
  have hck := dbck_any d hd ho
  have hpo := ports_any d hd (by rw [hp]; exact hl)
  rw [hp] at hpo
  generalize allP d = ps at *
  obtain ⟨rs, hrs⟩ : ∃ rs, rs = ps.map (ruleOf g rate burst) := ⟨_, rfl⟩
  rw [← hrs]
  have hrl : rs.length = ps.length := by rw [hrs, List.length_map]
  have k1 : decide (burst < 0) = false := decide_eq_false (by omega)
  have k2 : decide (burst > 1048576) = false := decide_eq_false (by omega)
  have k3 : decide (rate < 0) = false := decide_eq_false (by omega)
  have k4 : decide (rate > burst) = false := decide_eq_false (by omega)
  clear hp ho
  refine Wq (Wr 0 3 (by decide) rfl rfl (Od rfl rfl (Bx rfl rfl rfl) (Od rfl rfl (As rfl rfl) (Od rfl rfl (As rfl rfl) (Nl (Wq (Wq (Wr 7 10 (by decide) rfl rfl (Od rfl rfl (La rfl rfl rfl ty30 rfl (Tk.lit rfl)) (Od rfl rfl (C0 (fr := []) rfl rfl (hck) fok25 (.cons rfl (.pure rfl) .nil) rfl) (Od rfl rfl (As rfl rfl) (Nl (Wq (Wr 14 16 (by decide) rfl rfl (Od rfl rfl (Mv rfl rfl) (Od rfl rfl (Ne0 rfl rfl rfl) (Nl (Wf rfl (by first|rfl|assumption) (Wk (Wq (Wq (Wr 27 42 (by decide) rfl rfl (Od rfl rfl (Mv rfl rfl) (Od rfl rfl (Ls rfl rfl rfl) (Od rfl rfl (Mv rfl rfl) (Gd rfl rfl rfl (by first|rfl|assumption) rfl (Mv rfl rfl) (Gd rfl rfl rfl (by first|rfl|assumption) rfl (Gt0 rfl rfl rfl) (Od rfl rfl (Pf0 rfl rfl (by first|rfl|assumption) rfl) (Od rfl rfl (Mv rfl rfl) (Gd rfl rfl rfl (by first|rfl|assumption) rfl (Mv rfl rfl) (Gd rfl rfl rfl (by first|rfl|assumption) rfl (Ls rfl rfl rfl) (Od rfl rfl (Pf0 rfl rfl (by first|rfl|assumption) rfl) (Od rfl rfl (Mv rfl rfl) (Gd rfl rfl rfl (by first|rfl|assumption) rfl (Mv rfl rfl) (Gd rfl rfl rfl (by first|rfl|assumption) rfl (Mv rfl rfl) (Gd rfl rfl rfl (by first|rfl|assumption) rfl (Gt0 rfl rfl rfl) (Od rfl rfl (Pf0 rfl rfl (by first|rfl|assumption) rfl) (Nl (Wf rfl (by first|rfl|assumption) (Wk (Wq (Wr 52 53 (by decide) rfl rfl (Od rfl rfl (As rfl rfl) (Nl (W.name 53 (53 + 1) (t := 9) (sz := 8) rfl (by decide) (by decide) (Wq (Wq (Wr 57 61 (by decide) rfl rfl (Od rfl rfl (La rfl rfl rfl ty30 rfl (Tk.lit rfl)) (Od rfl rfl (C0 (fr := []) rfl rfl (hpo) fok26 (.cons rfl (.pure rfl) .nil) rfl) (Od rfl rfl (Ln rfl rfl rfl ty74) (Od rfl rfl (Mv rfl rfl) (Nl (Wb (W.rename [(0, 0), (1, 53)] 2 (T' := up (up (up (up (up (up (up mt 1 (some (.base (.int .i64 rate)))) 2 (some (.base (.int .i64 burst)))) 3 (some (.own 0 0))) 9 (some (.osl 1 0 0 8))) 36 (some (.isl (prtsC ps) ps.length))) 37 (some (.base (.int .i64 (ps.length : Int))))) 38 (some (.base (.int .i64 (0 : Int))))) (H' := up (up mt 0 (some (dbC d))) 1 (some (rulesC (rs.take 0)))) (by decide) ?_ ?_ ?_)))))))))))))))))))))))))))))))))))))))))))))))))))))))
  · (repeat' (first | exact all_mt | refine all_up ?_ ?_)) <;> first | exact .inl ⟨rfl, rfl⟩ | exact .inr ⟨rfl, fun _ h => by cases h⟩ | exact .inl ⟨rfl, by first | rfl | assumption | exact (rulesC_pure _)⟩
  · (repeat' (first | exact all_mt | refine all_up ?_ ?_)) <;> first | exact ⟨rfl, _, rfl, .inr ⟨rfl, rfl⟩⟩ | exact ⟨rfl, _, rfl, .inl rfl⟩ | exact ⟨rfl, _, rfl, .inr ⟨rfl, by first | rfl | assumption | exact (rulesC_pure _)⟩⟩
  refine W.loop_ind (α := Nat) (fun x => ps.length - x) 2 (fun x => up (up (up (up (up (up (up mt 1 (some (.base (.int .i64 rate)))) 2 (some (.base (.int .i64 burst)))) 3 (some (.own 0 0))) 9 (some (.osl 1 0 x 8))) 36 (some (.isl (prtsC ps) ps.length))) 37 (some (.base (.int .i64 (ps.length : Int))))) 38 (some (.base (.int .i64 (x : Int))))) (fun x => up (up mt 0 (some (dbC d))) 1 (some (rulesC (rs.take x)))) (fun x => x ≤ ps.length) 0 (show 0 ≤ ps.length from Nat.zero_le _) ?_
  rintro i hIA ihA
  try (dsimp only at hIA)
  try dsimp only
  by_cases hc : i < ps.length
  · have g1 : decide ((i : Int) < (ps.length : Int)) = true := decide_eq_true (by omega)
    have hri : rs.take (i + 1) = rs.take i ++ [ruleOf g rate burst ps[i]] := by
      rw [hrs, List.take_succ_eq_append_getElem (by simpa using hc)]
      simp
    have hti : (rs.take i).length = i := by rw [List.length_take]; omega
    refine Wq (Wr 65 66 (by decide) rfl rfl (Od rfl rfl (Ls rfl rfl rfl) (Nl (Wq (Wt rfl (by first|rfl|assumption) (Wk (Wq (Wb (Wq (Wr 70 74 (by decide) rfl rfl (Od rfl rfl (Ii rfl rfl rfl rfl rfl ty74 ty83 (by first|omega|decide|assumption|(simp;done)|(simp;omega))) (Od rfl rfl (Lg rfl rfl ty83 rfl (prts_tk hc)) (Od rfl rfl (Al rfl ty83) (On rfl rfl (Sr rfl rfl rfl rfl rfl ty83 rfl (by decide) (Sp.lit rfl)) (Nl ?_)))))))))))))))
    generalize ps[i] = p at *
    have hgi := hg p.id
    obtain ⟨id, sw, sp, macs, v4, v6⟩ := p
    dsimp only at hgi
    refine Wq (Wr 78 87 (by decide) rfl rfl (Od rfl rfl (La rfl rfl rfl ty30 rfl (Tk.lit rfl)) (Od rfl rfl (Fa rfl rfl ty83 rfl (by decide)) (Od rfl rfl (Ld rfl rfl rfl rfl ty3 rfl) (Od rfl rfl (C0 (fr := []) rfl rfl (hgi) fok27 (.cons rfl (.pure rfl) (.cons rfl (.pure rfl) .nil)) rfl) (Od rfl rfl (Mv rfl rfl) (Od rfl rfl (Ex rfl rfl rfl) (Od rfl rfl (Ex rfl rfl rfl) (Od rfl rfl (As rfl rfl) (Od rfl rfl (As rfl rfl) (Nl (Wq (Wr 91 103 (by decide) rfl rfl (Od rfl rfl (Fa rfl rfl ty83 rfl (by decide)) (Od rfl rfl (Ld rfl rfl rfl rfl ty3 rfl) (Od rfl rfl (Mv rfl rfl) (Od rfl rfl (Fa rfl rfl ty83 rfl (by decide)) (Od rfl rfl (Ld rfl rfl rfl rfl ty3 rfl) (Od rfl rfl (Fa rfl rfl ty83 rfl (by decide)) (Od rfl rfl (Ld rfl rfl rfl rfl ty40 rfl) (Od rfl rfl (Mv rfl rfl) (Od rfl rfl (Mv rfl rfl) (Od rfl rfl (Bs rfl ty43 (.cons rfl rfl rfl rfl (Sp.lit rfl) (.cons rfl rfl rfl rfl (Sp.lit rfl) (.cons rfl rfl rfl rfl (Sp.lit rfl) (.cons rfl rfl rfl rfl (Sp.lit rfl) (.cons rfl rfl rfl rfl (Sp.lit rfl) (.cons rfl rfl rfl rfl (Sp.lit rfl) .nil))))))) (Od rfl rfl (Al rfl ty43) (On rfl rfl (Sr rfl rfl rfl rfl rfl ty43 rfl (by decide) (Sp.lit rfl)) (Nl (Wq (W.joinK (α := List Ad) 4 (fun x => [(1, .base (.int .i64 rate)), (2, .base (.int .i64 burst)), (3, .own 0 0), (9, .osl 1 0 i 8), (11, .own 2 0), (14, .own 3 0)]) (fun x => up (up (up (up mt 0 (some (dbC d))) 1 (some (rulesC (rs.take i)))) 2 (some (prtC ⟨id, sw, sp, macs, v4, v6⟩))) 3 (some ([.base (.int .i64 id), .base (.int .i64 (g id)), .base (.int .i64 sw), .isl (macsC macs) macs.length, .isl (adsC x) x.length, .nils, .base (.int .i64 rate), .base (.int .i64 burst)]))) (fun x => x = ad1 v4) (.cons (t := 36) rfl (by first | exact .inl rfl | exact .inr ⟨rfl, fun _ h => by cases h⟩ | (exact .inl (by assumption)) | exact .inl (rulesC_pure _)) (.cons (t := 37) rfl (by first | exact .inl rfl | exact .inr ⟨rfl, fun _ h => by cases h⟩ | (exact .inl (by assumption)) | exact .inl (rulesC_pure _)) (.cons (t := 38) rfl (by first | exact .inl rfl | exact .inr ⟨rfl, fun _ h => by cases h⟩ | (exact .inl (by assumption)) | exact .inl (rulesC_pure _)) .nil))) ?_ ?_))))))))))))))))))))))))))))
    rotate_left
    rintro L hIF
    try (dsimp only at hIF)
    try dsimp only [joinT, baseT, List.cons_append, List.nil_append]
    rotate_right
    ·
      by_cases hz : zeroA v4 = true
      · have gz : (!eqA v4 ⟨false, 0, 0⟩) = false := by rw [show eqA v4 ⟨false, 0, 0⟩ = true from hz]; rfl
        refine Wq (Wr 107 111 (by decide) rfl rfl (Od rfl rfl (Fa rfl rfl ty83 rfl (by decide)) (Od rfl rfl (La rfl rfl rfl ty25 rfl (Tk.lit rfl)) (Od rfl rfl (Bs rfl ty25 .nil) (Od rfl rfl (LO.neq_ad v4 ⟨false, 0, 0⟩ rfl rfl rfl) (Nl (Wf rfl (by first|rfl|assumption) (Wk ?_))))))))
        intro yJ KJ hJ
        refine W.nilc (q := 101) (j := 4) rfl rfl (Sp.lit rfl) (W.renameJ [(0, 0), (1, 1), (2, 72), (3, 101)] 4 (by decide) ?_ ?_ (hJ (([] : List Ad)) (show (([] : List Ad)) = ad1 v4 from by unfold ad1; rw [if_pos hz])))
        · (repeat' (first | exact LookR.nil | refine LookR.cons ?_ ?_)) <;> first | exact .inl ⟨rfl, rfl⟩ | exact .inr ⟨rfl, fun _ h => by cases h⟩ | exact .inl ⟨rfl, by first | rfl | assumption | exact (rulesC_pure _)⟩
        · (repeat' (first | exact all_mt | refine all_up ?_ ?_)) <;> first | exact ⟨rfl, _, rfl, .inr ⟨rfl, rfl⟩⟩ | exact ⟨rfl, _, rfl, .inl rfl⟩ | exact ⟨rfl, _, rfl, .inr ⟨rfl, by first | rfl | assumption | exact (rulesC_pure _)⟩⟩
      · have gz : (!eqA v4 ⟨false, 0, 0⟩) = true := by rw [show eqA v4 ⟨false, 0, 0⟩ = false from by simpa [zeroA] using hz]; rfl
        refine Wq (Wr 107 111 (by decide) rfl rfl (Od rfl rfl (Fa rfl rfl ty83 rfl (by decide)) (Od rfl rfl (La rfl rfl rfl ty25 rfl (Tk.lit rfl)) (Od rfl rfl (Bs rfl ty25 .nil) (Od rfl rfl (LO.neq_ad v4 ⟨false, 0, 0⟩ rfl rfl rfl) (Nl (Wt rfl (by first|rfl|assumption) (Wr 115 120 (by decide) rfl rfl (Od rfl rfl (Fa rfl rfl ty83 rfl (by decide)) (Od rfl rfl (La rfl rfl rfl ty25 rfl (Tk.lit rfl)) (Od rfl rfl (LO.buildSlice rfl ty41 ty25 (by decide) (by decide) (.cons rfl rfl rfl rfl (Sp.lit rfl) .nil)) (Od rfl rfl (Fa rfl rfl ty43 rfl (by decide)) (On rfl rfl (Sr rfl rfl rfl rfl rfl ty41 rfl (by decide) (Sp.lit rfl)) (Nl ?_))))))))))))))
        intro yJ KJ hJ
        refine W.frzc (q := 101) (j := 4) (r := 117) rfl rfl (by decide) rfl (Tk.lit rfl) rfl (Sp.lit rfl) (W.renameJ [(0, 0), (1, 1), (2, 72), (3, 101)] 4 (by decide) ?_ ?_ (hJ [v4] (show [v4] = ad1 v4 from by unfold ad1; rw [if_neg hz])))
        · (repeat' (first | exact LookR.nil | refine LookR.cons ?_ ?_)) <;> first | exact .inl ⟨rfl, rfl⟩ | exact .inr ⟨rfl, fun _ h => by cases h⟩ | exact .inl ⟨rfl, by first | rfl | assumption | exact (rulesC_pure _)⟩
        · (repeat' (first | exact all_mt | refine all_up ?_ ?_)) <;> first | exact ⟨rfl, _, rfl, .inr ⟨rfl, rfl⟩⟩ | exact ⟨rfl, _, rfl, .inl rfl⟩ | exact ⟨rfl, _, rfl, .inr ⟨rfl, by first | rfl | assumption | exact (rulesC_pure _)⟩⟩
    refine Wq (W.joinK (α := List Ad) 3 (fun x => [(1, .base (.int .i64 rate)), (2, .base (.int .i64 burst)), (3, .own 0 0), (9, .osl 1 0 i 8), (14, .own 2 0)]) (fun x => up (up (up mt 0 (some (dbC d))) 1 (some (rulesC (rs.take i)))) 2 (some (ruleC ⟨id, g id, sw, macs, L, x, rate, burst⟩))) (fun x => x = ad1 v6) (.cons (t := 36) rfl (by first | exact .inl rfl | exact .inr ⟨rfl, fun _ h => by cases h⟩ | (exact .inl (by assumption)) | exact .inl (rulesC_pure _)) (.cons (t := 37) rfl (by first | exact .inl rfl | exact .inr ⟨rfl, fun _ h => by cases h⟩ | (exact .inl (by assumption)) | exact .inl (rulesC_pure _)) (.cons (t := 38) rfl (by first | exact .inl rfl | exact .inr ⟨rfl, fun _ h => by cases h⟩ | (exact .inl (by assumption)) | exact .inl (rulesC_pure _)) .nil))) ?_ ?_)
    rotate_left
    rintro M hIG
    try (dsimp only at hIG)
    try dsimp only [joinT, baseT, List.cons_append, List.nil_append]
    rotate_right
    ·
      by_cases hz : zeroA v6 = true
      · have gz : (!eqA v6 ⟨false, 0, 0⟩) = false := by rw [show eqA v6 ⟨false, 0, 0⟩ = true from hz]; rfl
        refine Wq (Wr 124 128 (by decide) rfl rfl (Od rfl rfl (Fa rfl rfl ty83 rfl (by decide)) (Od rfl rfl (La rfl rfl rfl ty25 rfl (Tk.lit rfl)) (Od rfl rfl (Bs rfl ty25 .nil) (Od rfl rfl (LO.neq_ad v6 ⟨false, 0, 0⟩ rfl rfl rfl) (Nl (Wf rfl (by first|rfl|assumption) (Wk ?_))))))))
        intro yJ KJ hJ
        refine W.nilc (q := 3) (j := 5) rfl rfl (Sp.lit rfl) (W.renameJ [(0, 0), (1, 1), (2, 3)] 3 (by decide) ?_ ?_ (hJ (([] : List Ad)) (show (([] : List Ad)) = ad1 v6 from by unfold ad1; rw [if_pos hz])))
        · (repeat' (first | exact LookR.nil | refine LookR.cons ?_ ?_)) <;> first | exact .inl ⟨rfl, rfl⟩ | exact .inr ⟨rfl, fun _ h => by cases h⟩ | exact .inl ⟨rfl, by first | rfl | assumption | exact (rulesC_pure _)⟩
        · (repeat' (first | exact all_mt | refine all_up ?_ ?_)) <;> first | exact ⟨rfl, _, rfl, .inr ⟨rfl, rfl⟩⟩ | exact ⟨rfl, _, rfl, .inl rfl⟩ | exact ⟨rfl, _, rfl, .inr ⟨rfl, by first | rfl | assumption | exact (rulesC_pure _)⟩⟩
      · have gz : (!eqA v6 ⟨false, 0, 0⟩) = true := by rw [show eqA v6 ⟨false, 0, 0⟩ = false from by simpa [zeroA] using hz]; rfl
        refine Wq (Wr 124 128 (by decide) rfl rfl (Od rfl rfl (Fa rfl rfl ty83 rfl (by decide)) (Od rfl rfl (La rfl rfl rfl ty25 rfl (Tk.lit rfl)) (Od rfl rfl (Bs rfl ty25 .nil) (Od rfl rfl (LO.neq_ad v6 ⟨false, 0, 0⟩ rfl rfl rfl) (Nl (Wt rfl (by first|rfl|assumption) (Wr 132 137 (by decide) rfl rfl (Od rfl rfl (Fa rfl rfl ty83 rfl (by decide)) (Od rfl rfl (La rfl rfl rfl ty25 rfl (Tk.lit rfl)) (Od rfl rfl (LO.buildSlice rfl ty41 ty25 (by decide) (by decide) (.cons rfl rfl rfl rfl (Sp.lit rfl) .nil)) (Od rfl rfl (Fa rfl rfl ty43 rfl (by decide)) (On rfl rfl (Sr rfl rfl rfl rfl rfl ty41 rfl (by decide) (Sp.lit rfl)) (Nl ?_))))))))))))))
        intro yJ KJ hJ
        refine W.frzc (q := 3) (j := 5) (r := 134) rfl rfl (by decide) rfl (Tk.lit rfl) rfl (Sp.lit rfl) (W.renameJ [(0, 0), (1, 1), (2, 3)] 3 (by decide) ?_ ?_ (hJ [v6] (show [v6] = ad1 v6 from by unfold ad1; rw [if_neg hz])))
        · (repeat' (first | exact LookR.nil | refine LookR.cons ?_ ?_)) <;> first | exact .inl ⟨rfl, rfl⟩ | exact .inr ⟨rfl, fun _ h => by cases h⟩ | exact .inl ⟨rfl, by first | rfl | assumption | exact (rulesC_pure _)⟩
        · (repeat' (first | exact all_mt | refine all_up ?_ ?_)) <;> first | exact ⟨rfl, _, rfl, .inr ⟨rfl, rfl⟩⟩ | exact ⟨rfl, _, rfl, .inl rfl⟩ | exact ⟨rfl, _, rfl, .inr ⟨rfl, by first | rfl | assumption | exact (rulesC_pure _)⟩⟩
    have hL := ‹L = _›
    have hM := ‹M = _›
    refine Wr 141 146 (by decide) rfl rfl (Od rfl rfl (Mv rfl rfl) (Od rfl rfl (La rfl rfl rfl ty43 rfl (Tk.lit rfl)) (Od rfl rfl (LO.buildSlice rfl ty34 ty43 (by decide) (by decide) (.cons rfl rfl rfl rfl (Sp.lit rfl) .nil)) (Od rfl rfl (LO.append rfl rfl (SrcAV.own rfl rfl (Tk.lit rfl)) rfl (rules_all hti) ty34 ty34 ty43 (by decide) (by first|omega|decide|assumption|(simp;done)|(simp;omega)) (by first|omega|decide|assumption|(simp;done)|(simp;omega)) (by first | decide | omega)) (Od rfl rfl (As rfl rfl) (Nl ?_))))))
    rw [show rulesC (rs.take i) ++ [.base (.int .i64 id), .base (.int .i64 (g id)), .base (.int .i64 sw), .isl (macsC macs) macs.length, .isl (adsC L) L.length, .isl (adsC M) M.length, .base (.int .i64 rate), .base (.int .i64 burst)] = rulesC (rs.take (i + 1)) from by rw [hri, hL, hM]; simp [rulesC, ruleC, ruleOf]]
    refine Wr 150 152 (by decide) rfl rfl (Od rfl rfl (Ad0 rfl rfl rfl (by (first | exact IntWalk.i64_in _ (by omega) | assumption))) (Od rfl rfl (Mv rfl rfl) (Nl (WL.rename [(0, 0), (1, 144)] 2 (by decide) ?_ ?_ (ihA (i + 1) (show ps.length - (i + 1) < ps.length - i from by omega) (show (i + 1) ≤ ps.length from by omega))))))
    · (repeat' (first | exact all_mt | refine all_up ?_ ?_)) <;> first | exact .inl ⟨rfl, rfl⟩ | exact .inr ⟨rfl, fun _ h => by cases h⟩ | exact .inl ⟨rfl, by first | rfl | assumption | exact (rulesC_pure _)⟩
    · (repeat' (first | exact all_mt | refine all_up ?_ ?_)) <;> first | exact ⟨rfl, _, rfl, .inr ⟨rfl, rfl⟩⟩ | exact ⟨rfl, _, rfl, .inl rfl⟩ | exact ⟨rfl, _, rfl, .inr ⟨rfl, by first | rfl | assumption | exact (rulesC_pure _)⟩⟩
  · have g1 : decide ((i : Int) < (ps.length : Int)) = false := decide_eq_false (by omega)
    refine Wq (Wr 65 66 (by decide) rfl rfl (Od rfl rfl (Ls rfl rfl rfl) (Nl (Wq (Wf rfl (by first|rfl|assumption) (Wx ?_))))))
    clear ihA
    obtain rfl : i = ps.length := by omega
    rw [← hrl, List.take_length]
    refine Wq (Wr 156 159 (by decide) rfl rfl (Od rfl rfl (Mv rfl rfl) (Od rfl rfl (As rfl rfl) (Od rfl rfl (As rfl rfl) (Nl (W.frz1 (t := 6) rfl rfl (rules_all rfl) (rulesC_pure _) ?_))))))
    refine W.ret ⟨.inl rfl, _, mt, (RVs.cons (RV.tmp rfl) (RVs.cons (RV.tmp rfl) RVs.nil)), (by (repeat' (first | exact all_mt | refine all_up ?_ ?_)) <;> rfl), ?_⟩
    exact ⟨rfl, rfl⟩
end Go.Proofs.YtcidmiacfjdepaaDoor
