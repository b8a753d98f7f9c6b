/-
  Frames as a port may send them.
-/
import Derived.Test.YtcidmiacfjdepaaDoorJy
import Derived.Test.YtcidmiacfjdepaaDoorMab
namespace Go.Proofs.YtcidmiacfjdepaaDoor
open Go.RowKit

set_option maxHeartbeats 8000000 in
theorem frame_any (l : List Int) (at_ : Nat) (r : Rl) (rs : List Rl) (hr : RlOk r) (hrs : ∀ x, x ∈ rs → RlOk x) (hn1 : 1 ≤ rs.length) (hn2 : rs.length ≤ 1000) (hl : l.length ≤ 9223372036854775807) :
    ∃ v H', AFn Tryd.prog 33 1 [.own 0 0, .agg (ruleC r), .isl (rulesC rs) rs.length] (up mt 0 (some (deckC l at_))) v H' ∧
      ∃ (g : Fr) (at' : Nat), FrX g ∧ v = .agg (frC g) ∧ H' = up mt 0 (some (deckC l at')) := by
  refine AFn.ex Tryd.func33 rfl rfl (Nat.le_of_ble_eq_true rfl) ?_
  have hrn := hr.nm
  have hm0 := hr.macs _ (List.getElem_mem (show 0 < r.macs.length by omega))
  have tR := macs_tk (fun m hm => (hr.macs m hm).1) (show 0 < r.macs.length by omega)
  generalize r.macs[0]'(by omega) = m at hm0 tR
  obtain ⟨m6, mB⟩ := hm0
  obtain ⟨m0, m1, m2, m3, m4, m5, rfl⟩ := six_of m6
  obtain ⟨j, hj, hjb⟩ := nat_of (nextV_bd l at_ (rs.length : Int) (by omega))
  have n1 := next_any l at_ (rs.length : Int) (by omega) (by omega) hl
  rw [hj] at n1
  generalize nextAt l at_ = a1 at *
  have hjl : j < rs.length := by omega
  have tj := rules_tk hjl
  have hto := hrs _ (List.getElem_mem hjl)
  generalize rs[j] = to at *
  have htn := hto.nm
  obtain ⟨i, hi, hib⟩ := nat_of (nextV_bd l a1 (to.macs.length : Int) (by omega))
  have n2 := next_any l a1 (to.macs.length : Int) (by omega) (by omega) hl
  rw [hi] at n2
  generalize nextAt l a1 = a2 at *
  have hil : i < to.macs.length := by omega
  have ti := macs_tk (fun m hm => (hto.macs m hm).1) hil
  have hmi := hto.macs _ (List.getElem_mem hil)
  generalize to.macs[i] = w at hmi ti
  obtain ⟨w6, wB⟩ := hmi
  obtain ⟨w0, w1, w2, w3, w4, w5, rfl⟩ := six_of w6
  clear hj hi
  have n4 := next_any l a2 2 (by decide) (by decide) hl
  generalize nextV l a2 2 = e4 at *
  generalize nextAt l a2 = a3 at *
  refine Wq (Wr 1 3 (by decide) rfl rfl (Od rfl rfl (Bx rfl rfl rfl) (Od rfl rfl (Al rfl ty55) (Nl (Wq (Wr 7 14 (by decide) rfl rfl (Od rfl rfl (Fa rfl rfl ty43 rfl (by decide)) (Od rfl rfl (Ld rfl rfl rfl rfl ty40 rfl) (Od rfl rfl (Ii rfl rfl rfl rfl rfl ty40 ty50 (by first|omega|decide|assumption|(simp;done)|(simp;omega))) (Od rfl rfl (Lg rfl rfl ty50 rfl tR) (Od rfl rfl (Bs rfl ty55 (.cons rfl rfl rfl rfl (Sp.lit rfl) (.cons rfl rfl rfl rfl (Sp.lit rfl) .nil))) (Od rfl rfl (Al rfl ty55) (On rfl rfl (Sr rfl rfl rfl rfl rfl ty55 rfl (by decide) (Sp.lit rfl)) (Nl (W.nilc (q := 12) (j := 14) rfl rfl (Sp.lit rfl) (Wq (Wr 18 27 (by decide) rfl rfl (Od rfl rfl (Mv rfl rfl) (Od rfl rfl (Mv rfl rfl) (Od rfl rfl (Mv rfl rfl) (Od rfl rfl (Ln rfl rfl rfl ty34) (Od rfl rfl (C1 (fr := []) rfl rfl (n1) fok23 (.own rfl rfl (.cons rfl (.pure rfl) .nil)) rfl rfl rfl (Cn _ _) (by decide) rfl) (Od rfl rfl (Ii rfl rfl rfl rfl rfl ty34 ty43 (by first|omega|decide|assumption|(simp;done)|(simp;omega))) (Od rfl rfl (Lg rfl rfl ty43 rfl tj) (Od rfl rfl (Al rfl ty43) (On rfl rfl (Sr rfl rfl rfl rfl rfl ty43 rfl (by decide) (Sp.lit rfl)) (Nl (Wq (Wd 31 42 (by decide) rfl mixed rfl (Od rfl rfl (Fa rfl rfl ty43 rfl (by decide)) (Od rfl rfl (Ld rfl rfl rfl rfl ty40 rfl) (Od rfl rfl (Mv rfl rfl) (Od rfl rfl (Fa rfl rfl ty43 rfl (by decide)) (Od rfl rfl (Ld rfl rfl rfl rfl ty40 rfl) (Od rfl rfl (Ln rfl rfl rfl ty40) (Od rfl rfl (C1 (fr := []) rfl rfl (n2) fok23 (.own rfl rfl (.cons rfl (.pure rfl) .nil)) rfl rfl rfl (Cn _ _) (by decide) rfl) (Od rfl rfl (Ii rfl rfl rfl rfl rfl ty40 ty50 (by first|omega|decide|assumption|(simp;done)|(simp;omega))) (Od rfl rfl (Lg rfl rfl ty50 rfl ti) (Od rfl rfl (Fa rfl rfl ty55 rfl (by decide)) (On rfl rfl (Sr rfl rfl rfl rfl rfl ty50 rfl (by decide) (Sp.lit rfl)) (Nl ⟨by kernel_rfl, (Wq (W.joinK (α := List Int × Nat) 5 (fun x => [(0, .own 0 0), (4, .own 1 0), (6, .own 2 0), (7, .own 3 0), (8, .own 4 0)]) (fun x => up (up (up (up (up mt 0 (some (deckC l x.2))) 1 (some (ruleC r))) 2 (some ([.base (.int .u8 0), .base (.int .u8 0), .base (.int .u8 0), .base (.int .u8 0), .base (.int .u8 0), .base (.int .u8 0), .base (.int .u8 0), .base (.int .u8 0), .base (.int .u8 0), .base (.int .u8 0), .base (.int .u8 0), .base (.int .u8 0), .base (.int .i64 0), .base (.int .i64 0), .nils]))) 3 (some (frC ⟨[w0, w1, w2, w3, w4, w5], x.1, 0, 2048, []⟩))) 4 (some (ruleC to))) (fun x => x.1.length = 6 ∧ IsB x.1) .nil ?_ ?_))⟩)))))))))))))))))))))))))))))))))))))))))
  rotate_left
  rintro ⟨ss, b⟩ hIJ
  try (dsimp only at hIJ)
  try dsimp only [joinT, baseT, List.cons_append, List.nil_append]
  rotate_right
  ·
    by_cases h1 : 1 < r.macs.length
    case' neg =>
      have k1 : decide ((r.macs.length : Int) > 1) = false := decide_eq_false (by omega)
      refine Wq (Wr 46 55 (by decide) rfl rfl (Od rfl rfl (Fa rfl rfl ty43 rfl (by decide)) (Od rfl rfl (Ld rfl rfl rfl rfl ty40 rfl) (Od rfl rfl (Ln rfl rfl rfl ty40) (Od rfl rfl (Gt0 rfl rfl rfl) (Od rfl rfl (Mv rfl rfl) (Sd rfl rfl rfl (by first|rfl|assumption) rfl (Sd rfl rfl rfl (by first|rfl|assumption) rfl (Sd rfl rfl rfl (by first|rfl|assumption) rfl (Od rfl rfl (Pf0 rfl rfl (by first|rfl|assumption) rfl) (Nl (Wf rfl (by first|rfl|assumption) (Wk ?_)))))))))))))
      intro yJ KJ hJ
      refine W.renameJ [(0, 0), (1, 1), (2, 2), (3, 12), (4, 25)] 5 (by decide) ?_ ?_ (hJ ([m0, m1, m2, m3, m4, m5], a2) (show [m0, m1, m2, m3, m4, m5].length = 6 ∧ IsB [m0, m1, m2, m3, m4, m5] from ⟨rfl, mB⟩))
      · (repeat' (first | exact LookR.nil | refine LookR.cons ?_ ?_)) <;> first | exact .inl ⟨rfl, rfl⟩ | exact .inr ⟨rfl, fun _ h => by cases h⟩ | exact .inl ⟨rfl, by first | rfl | assumption ⟩
      · (repeat' (first | exact all_mt | refine all_up ?_ ?_)) <;> first | exact ⟨rfl, _, rfl, .inr ⟨rfl, rfl⟩⟩ | exact ⟨rfl, _, rfl, .inl rfl⟩ | exact ⟨rfl, _, rfl, .inr ⟨rfl, by first | rfl | assumption ⟩⟩
    case' pos =>
      have k1 : decide ((r.macs.length : Int) > 1) = true := decide_eq_true (by omega)
      cases k2 : (e4 == 1)
      ·
        refine Wq (Wr 46 55 (by decide) rfl rfl (Od rfl rfl (Fa rfl rfl ty43 rfl (by decide)) (Od rfl rfl (Ld rfl rfl rfl rfl ty40 rfl) (Od rfl rfl (Ln rfl rfl rfl ty40) (Od rfl rfl (Gt0 rfl rfl rfl) (Od rfl rfl (Mv rfl rfl) (Gd rfl rfl rfl (by first|rfl|assumption) rfl (Mv rfl rfl) (Gd rfl rfl rfl (by first|rfl|assumption) rfl (C1 (fr := []) rfl rfl (n4) fok23 (.own rfl rfl (.cons rfl (.pure rfl) .nil)) rfl rfl rfl (Cn _ _) (by decide) rfl) (Gd rfl rfl rfl (by first|rfl|assumption) rfl (Eq0 rfl rfl rfl) (Od rfl rfl (Pt rfl rfl (by first|rfl|assumption) rfl) (Nl (Wf rfl (by first|rfl|assumption) (Wk ?_)))))))))))))
        intro yJ KJ hJ
        refine W.renameJ [(0, 0), (1, 1), (2, 2), (3, 12), (4, 25)] 5 (by decide) ?_ ?_ (hJ ([m0, m1, m2, m3, m4, m5], a3) (show [m0, m1, m2, m3, m4, m5].length = 6 ∧ IsB [m0, m1, m2, m3, m4, m5] from ⟨rfl, mB⟩))
        · (repeat' (first | exact LookR.nil | refine LookR.cons ?_ ?_)) <;> first | exact .inl ⟨rfl, rfl⟩ | exact .inr ⟨rfl, fun _ h => by cases h⟩ | exact .inl ⟨rfl, by first | rfl | assumption ⟩
        · (repeat' (first | exact all_mt | refine all_up ?_ ?_)) <;> first | exact ⟨rfl, _, rfl, .inr ⟨rfl, rfl⟩⟩ | exact ⟨rfl, _, rfl, .inl rfl⟩ | exact ⟨rfl, _, rfl, .inr ⟨rfl, by first | rfl | assumption ⟩⟩
      ·
        have t1 := macs_tk (fun m hm => (hr.macs m hm).1) h1
        have hm1 := hr.macs _ (List.getElem_mem h1)
        generalize r.macs[1] = z at hm1 t1
        obtain ⟨z6, zB⟩ := hm1
        obtain ⟨z0, z1, z2, z3, z4, z5, rfl⟩ := six_of z6
        refine Wq (Wr 46 55 (by decide) rfl rfl (Od rfl rfl (Fa rfl rfl ty43 rfl (by decide)) (Od rfl rfl (Ld rfl rfl rfl rfl ty40 rfl) (Od rfl rfl (Ln rfl rfl rfl ty40) (Od rfl rfl (Gt0 rfl rfl rfl) (Od rfl rfl (Mv rfl rfl) (Gd rfl rfl rfl (by first|rfl|assumption) rfl (Mv rfl rfl) (Gd rfl rfl rfl (by first|rfl|assumption) rfl (C1 (fr := []) rfl rfl (n4) fok23 (.own rfl rfl (.cons rfl (.pure rfl) .nil)) rfl rfl rfl (Cn _ _) (by decide) rfl) (Gd rfl rfl rfl (by first|rfl|assumption) rfl (Eq0 rfl rfl rfl) (Od rfl rfl (Pt rfl rfl (by first|rfl|assumption) rfl) (Nl (Wt rfl (by first|rfl|assumption) (Wr 59 65 (by decide) rfl rfl (Od rfl rfl (Fa rfl rfl ty43 rfl (by decide)) (Od rfl rfl (Ld rfl rfl rfl rfl ty40 rfl) (Od rfl rfl (Ii rfl rfl rfl rfl rfl ty40 ty50 (by first|omega|decide|assumption|(simp;done)|(simp;omega))) (Od rfl rfl (Lg rfl rfl ty50 rfl t1) (Od rfl rfl (Fa rfl rfl ty55 rfl (by decide)) (On rfl rfl (Sr rfl rfl rfl rfl rfl ty50 rfl (by decide) (Sp.lit rfl)) (Nl ?_))))))))))))))))))))
        intro yJ KJ hJ
        refine W.renameJ [(0, 0), (1, 1), (2, 2), (3, 12), (4, 25)] 5 (by decide) ?_ ?_ (hJ ([z0, z1, z2, z3, z4, z5], a3) (show [z0, z1, z2, z3, z4, z5].length = 6 ∧ IsB [z0, z1, z2, z3, z4, z5] from ⟨rfl, zB⟩))
        · (repeat' (first | exact LookR.nil | refine LookR.cons ?_ ?_)) <;> first | exact .inl ⟨rfl, rfl⟩ | exact .inr ⟨rfl, fun _ h => by cases h⟩ | exact .inl ⟨rfl, by first | rfl | assumption ⟩
        · (repeat' (first | exact all_mt | refine all_up ?_ ?_)) <;> first | exact ⟨rfl, _, rfl, .inr ⟨rfl, rfl⟩⟩ | exact ⟨rfl, _, rfl, .inl rfl⟩ | exact ⟨rfl, _, rfl, .inr ⟨rfl, by first | rfl | assumption ⟩⟩
  obtain ⟨s6, sB⟩ := hIJ
  obtain ⟨s0, s1, s2, s3, s4, s5, rfl⟩ := six_of s6
  have n5 := next_any l b 5 (by decide) (by decide) hl
  generalize nextV l b 5 = e at *
  generalize nextAt l b = b1 at *
  have hf0 : FrG ⟨[w0, w1, w2, w3, w4, w5], [s0, s1, s2, s3, s4, s5], 0, 2048, []⟩ := .mk6 ⟨rfl, wB⟩ ⟨rfl, sB⟩ ⟨fun x hx => by simp at hx, by simp⟩
  refine Wq (W.joinK (α := Fr × Nat) 3 (fun x => [(0, .own 0 0), (6, .own 1 0), (7, .own 2 0)]) (fun x => up (up (up mt 0 (some (deckC l x.2))) 1 (some ([.base (.int .u8 0), .base (.int .u8 0), .base (.int .u8 0), .base (.int .u8 0), .base (.int .u8 0), .base (.int .u8 0), .base (.int .u8 0), .base (.int .u8 0), .base (.int .u8 0), .base (.int .u8 0), .base (.int .u8 0), .base (.int .u8 0), .base (.int .i64 0), .base (.int .i64 0), .nils]))) 2 (some (frC x.1))) (fun x => FrG x.1) .nil ?_ ?_)
  rotate_left
  rintro ⟨g, c⟩ hIK
  try (dsimp only at hIK)
  try dsimp only [joinT, baseT, List.cons_append, List.nil_append]
  rotate_right
  ·
    cases k0 : (e == 0)
    case' false =>
      cases k1 : (e == 1)
      case' false =>
        cases k2 : (e == 2)
        case' false =>
          cases k3 : (e == 3)
          case' false =>
            have n1 := next_any l b1 9 (by decide) (by decide) hl
            have c1b := nextV_bd l b1 9 (by decide)
            generalize nextV l b1 9 = x1 at *
            generalize nextAt l b1 = c1 at *
            have n4 := next_any l c1 9 (by decide) (by decide) hl
            have c4b := nextV_bd l c1 9 (by decide)
            generalize nextV l c1 9 = x2 at *
            generalize nextAt l c1 = c2 at *
            obtain ⟨q, hq, hqb⟩ := nat_of (nextV_bd l c2 3 (by decide))
            have n8 := next_any l c2 3 (by decide) (by decide) hl
            rw [hq] at n8
            generalize nextAt l c2 = c3 at *
            have hsl : ([.base (.int .i64 6), .base (.int .i64 58), .base (.int .i64 17)] : List AV)[0 + q * 1]? = some (.base (.int .i64 (if q = 0 then 6 else if q = 1 then 58 else 17))) := by
              match q, hqb with
              | 0, _ => rfl
              | 1, _ => rfl
              | 2, _ => rfl
              | k + 3, h => omega
            generalize (if q = 0 then (6 : Int) else if q = 1 then 58 else 17) = pr at *
            obtain ⟨_, _, hby, L, c4, ⟨LB, Ll⟩, rfl, rfl⟩ := dbytes_any l c3 20 (by decide) hl
            have u1 := (sixA_ok (n := x1) (by omega) (by omega)).2
            have u2 := (sixA_ok (n := x2) (by omega) (by omega)).2
            have hre := renc_any ⟨sixA x1, sixA x2, pr, 64, L⟩ u1.1 u1.2 u2.1 u2.2 LB
            obtain ⟨oB, oL⟩ := encL2_ok ⟨sixA x1, sixA x2, pr, 64, L⟩ LB
            dsimp only at oL
            unfold ecV at hre
            generalize encL2 ⟨sixA x1, sixA x2, pr, 64, L⟩ = B at *
            generalize encE ⟨sixA x1, sixA x2, pr, 64, L⟩ = be at *
            refine Wq (Wr 69 71 (by decide) rfl rfl (Od rfl rfl (Mv rfl rfl) (Od rfl rfl (C1 (fr := []) rfl rfl (n5) fok23 (.own rfl rfl (.cons rfl (.pure rfl) .nil)) rfl rfl rfl (Cn _ _) (by decide) rfl) (Nl (Wb (Wq (Wr 75 77 (by decide) rfl rfl (Od rfl rfl (Eq0 rfl rfl rfl) (Od rfl rfl (As rfl rfl) (Nl (Wf rfl (by first|rfl|assumption) (Wq (Wq (Wr 104 106 (by decide) rfl rfl (Od rfl rfl (Eq0 rfl rfl rfl) (Od rfl rfl (As rfl rfl) (Nl (Wf rfl (by first|rfl|assumption) (Wr 110 112 (by decide) rfl rfl (Od rfl rfl (Eq0 rfl rfl rfl) (Od rfl rfl (As rfl rfl) (Nl (Wf rfl (by first|rfl|assumption) (Wq (Wr 124 126 (by decide) rfl rfl (Od rfl rfl (Eq0 rfl rfl rfl) (Od rfl rfl (As rfl rfl) (Nl (Wf rfl (by first|rfl|assumption) (Wq (Wr 138 140 (by decide) rfl rfl (Od rfl rfl (Fa rfl rfl ty55 rfl (by decide)) (On rfl rfl (Sr rfl rfl rfl rfl rfl ty3 rfl (by decide) (Sp.lit rfl)) (Nl (Wd 144 164 (by decide) rfl mixed rfl (Od rfl rfl (Mv rfl rfl) (Od rfl rfl (C1 (fr := []) rfl rfl (n1) fok23 (.own rfl rfl (.cons rfl (.pure rfl) .nil)) rfl rfl rfl (Cn _ _) (by decide) rfl) (Od rfl rfl (C0 (fr := []) rfl rfl (sixM_any x1 (by omega) (by omega)) fok42 (.cons rfl (.pure rfl) .nil) rfl) (Od rfl rfl (Mv rfl rfl) (Od rfl rfl (C1 (fr := []) rfl rfl (n4) fok23 (.own rfl rfl (.cons rfl (.pure rfl) .nil)) rfl rfl rfl (Cn _ _) (by decide) rfl) (Od rfl rfl (C0 (fr := []) rfl rfl (sixM_any x2 (by omega) (by omega)) fok42 (.cons rfl (.pure rfl) .nil) rfl) (Od rfl rfl (LO.buildSlice rfl ty22 ty3 (by decide) (by decide) (.cons rfl rfl rfl rfl (Sp.lit rfl) (.cons rfl rfl rfl rfl (Sp.lit rfl) (.cons rfl rfl rfl rfl (Sp.lit rfl) .nil)))) (Od rfl rfl (Mv rfl rfl) (Od rfl rfl (C1 (fr := []) rfl rfl (n8) fok23 (.own rfl rfl (.cons rfl (.pure rfl) .nil)) rfl rfl rfl (Cn _ _) (by decide) rfl) (Od rfl rfl (Ia rfl rfl rfl rfl ty22 ty3 (by first|omega|decide|assumption|(simp;done)|(simp;omega))) (Od rfl rfl (Ld rfl rfl rfl hsl ty3 rfl) (Od rfl rfl (Mv rfl rfl) (Od rfl rfl (C1 (fr := []) rfl rfl (hby) fok54 (.own rfl rfl (.cons rfl (.pure rfl) .nil)) rfl rfl rfl (Cn _ _) (by decide) rfl) (Od rfl rfl (Bs rfl ty99 (.cons rfl rfl rfl rfl (Sp.lit rfl) (.cons rfl rfl rfl rfl (Sp.lit rfl) (.cons rfl rfl rfl rfl (Sp.lit rfl) (.cons rfl rfl rfl rfl (Sp.lit rfl) (.cons rfl rfl rfl rfl (Sp.lit rfl) .nil)))))) (Od rfl rfl (C0 (fr := []) rfl rfl (hre) fok52 (.cons rfl (.pure rfl) .nil) rfl) (Od rfl rfl (Mv rfl rfl) (Od rfl rfl (Ex rfl rfl rfl) (Od rfl rfl (Ex rfl rfl rfl) (Od rfl rfl (Fa rfl rfl ty55 rfl (by decide)) (On rfl rfl (Sr rfl rfl rfl rfl rfl ty46 rfl (by decide) (Sp.lit rfl)) (Nl ⟨by kernel_rfl, ?_⟩))))))))))))))))))))))))))))))))))))))))))))))))))))))))
            intro yJ KJ hJ
            refine W.renameJ [(0, 0), (1, 2), (2, 3)] 3 (by decide) ?_ ?_ (hJ (((⟨[w0, w1, w2, w3, w4, w5], [s0, s1, s2, s3, s4, s5], 0, 34525, B⟩ : Fr)), c4) (show FrG ((⟨[w0, w1, w2, w3, w4, w5], [s0, s1, s2, s3, s4, s5], 0, 34525, B⟩ : Fr)) from .mk6 ⟨rfl, wB⟩ ⟨rfl, sB⟩ ⟨oB, by omega⟩))
            · (repeat' (first | exact LookR.nil | refine LookR.cons ?_ ?_)) <;> first | exact .inl ⟨rfl, rfl⟩ | exact .inr ⟨rfl, fun _ h => by cases h⟩ | exact .inl ⟨rfl, by first | rfl | assumption ⟩
            · (repeat' (first | exact all_mt | refine all_up ?_ ?_)) <;> first | exact ⟨rfl, _, rfl, .inr ⟨rfl, rfl⟩⟩ | exact ⟨rfl, _, rfl, .inl rfl⟩ | exact ⟨rfl, _, rfl, .inr ⟨rfl, by first | rfl | assumption ⟩⟩
          case' true =>
            obtain ⟨_, _, hM, g2, c2, hg2, rfl, rfl⟩ := nbM_any l b1 r to _ hr hto hf0 hl
            refine Wq (Wr 69 71 (by decide) rfl rfl (Od rfl rfl (Mv rfl rfl) (Od rfl rfl (C1 (fr := []) rfl rfl (n5) fok23 (.own rfl rfl (.cons rfl (.pure rfl) .nil)) rfl rfl rfl (Cn _ _) (by decide) rfl) (Nl (Wb (Wq (Wr 75 77 (by decide) rfl rfl (Od rfl rfl (Eq0 rfl rfl rfl) (Od rfl rfl (As rfl rfl) (Nl (Wf rfl (by first|rfl|assumption) (Wq (Wq (Wr 104 106 (by decide) rfl rfl (Od rfl rfl (Eq0 rfl rfl rfl) (Od rfl rfl (As rfl rfl) (Nl (Wf rfl (by first|rfl|assumption) (Wr 110 112 (by decide) rfl rfl (Od rfl rfl (Eq0 rfl rfl rfl) (Od rfl rfl (As rfl rfl) (Nl (Wf rfl (by first|rfl|assumption) (Wq (Wr 124 126 (by decide) rfl rfl (Od rfl rfl (Eq0 rfl rfl rfl) (Od rfl rfl (As rfl rfl) (Nl (Wt rfl (by first|rfl|assumption) (Wr 130 134 (by decide) rfl rfl (Od rfl rfl (Mv rfl rfl) (Od rfl rfl (La rfl rfl rfl ty43 rfl (Tk.lit rfl)) (Od rfl rfl (La rfl rfl rfl ty43 rfl (Tk.lit rfl)) (Od rfl rfl (LO.call2 (fr := []) (q0 := 0) (q1 := 3) rfl rfl hM fok56 (.own 0 rfl rfl (.cons rfl (.pure rfl) (.cons rfl (.pure rfl) (.own 1 rfl rfl .nil)))) (by decide) (by decide) (by decide) rfl rfl rfl (fr_pure _) rfl (fr_pure _) (Cn _ _) (Cn _ _) rfl) (Nl ?_)))))))))))))))))))))))))))))))))))
            intro yJ KJ hJ
            refine W.renameJ [(0, 0), (1, 2), (2, 3)] 3 (by decide) ?_ ?_ (hJ (g2, c2) (show FrG g2 from hg2))
            · (repeat' (first | exact LookR.nil | refine LookR.cons ?_ ?_)) <;> first | exact .inl ⟨rfl, rfl⟩ | exact .inr ⟨rfl, fun _ h => by cases h⟩ | exact .inl ⟨rfl, by first | rfl | assumption | exact (fr_pure _)⟩
            · (repeat' (first | exact all_mt | refine all_up ?_ ?_)) <;> first | exact ⟨rfl, _, rfl, .inr ⟨rfl, rfl⟩⟩ | exact ⟨rfl, _, rfl, .inl rfl⟩ | exact ⟨rfl, _, rfl, .inr ⟨rfl, by first | rfl | assumption | exact (fr_pure _)⟩⟩
        case' true =>
          obtain ⟨_, _, hM, g2, c2, hg2, rfl, rfl⟩ := arpM_any l b1 r to _ hr hto hf0 hl
          refine Wq (Wr 69 71 (by decide) rfl rfl (Od rfl rfl (Mv rfl rfl) (Od rfl rfl (C1 (fr := []) rfl rfl (n5) fok23 (.own rfl rfl (.cons rfl (.pure rfl) .nil)) rfl rfl rfl (Cn _ _) (by decide) rfl) (Nl (Wb (Wq (Wr 75 77 (by decide) rfl rfl (Od rfl rfl (Eq0 rfl rfl rfl) (Od rfl rfl (As rfl rfl) (Nl (Wf rfl (by first|rfl|assumption) (Wq (Wq (Wr 104 106 (by decide) rfl rfl (Od rfl rfl (Eq0 rfl rfl rfl) (Od rfl rfl (As rfl rfl) (Nl (Wf rfl (by first|rfl|assumption) (Wr 110 112 (by decide) rfl rfl (Od rfl rfl (Eq0 rfl rfl rfl) (Od rfl rfl (As rfl rfl) (Nl (Wt rfl (by first|rfl|assumption) (Wr 116 120 (by decide) rfl rfl (Od rfl rfl (Mv rfl rfl) (Od rfl rfl (La rfl rfl rfl ty43 rfl (Tk.lit rfl)) (Od rfl rfl (La rfl rfl rfl ty43 rfl (Tk.lit rfl)) (Od rfl rfl (LO.call2 (fr := []) (q0 := 0) (q1 := 3) rfl rfl hM fok55 (.own 0 rfl rfl (.cons rfl (.pure rfl) (.cons rfl (.pure rfl) (.own 1 rfl rfl .nil)))) (by decide) (by decide) (by decide) rfl rfl rfl (fr_pure _) rfl (fr_pure _) (Cn _ _) (Cn _ _) rfl) (Nl ?_)))))))))))))))))))))))))))))
          intro yJ KJ hJ
          refine W.renameJ [(0, 0), (1, 2), (2, 3)] 3 (by decide) ?_ ?_ (hJ (g2, c2) (show FrG g2 from hg2))
          · (repeat' (first | exact LookR.nil | refine LookR.cons ?_ ?_)) <;> first | exact .inl ⟨rfl, rfl⟩ | exact .inr ⟨rfl, fun _ h => by cases h⟩ | exact .inl ⟨rfl, by first | rfl | assumption | exact (fr_pure _)⟩
          · (repeat' (first | exact all_mt | refine all_up ?_ ?_)) <;> first | exact ⟨rfl, _, rfl, .inr ⟨rfl, rfl⟩⟩ | exact ⟨rfl, _, rfl, .inl rfl⟩ | exact ⟨rfl, _, rfl, .inr ⟨rfl, by first | rfl | assumption | exact (fr_pure _)⟩⟩
      case' true =>
        obtain ⟨_, _, hM, g2, c2, hg2, rfl, rfl⟩ := arpM_any l b1 r to _ hr hto hf0 hl
        refine Wq (Wr 69 71 (by decide) rfl rfl (Od rfl rfl (Mv rfl rfl) (Od rfl rfl (C1 (fr := []) rfl rfl (n5) fok23 (.own rfl rfl (.cons rfl (.pure rfl) .nil)) rfl rfl rfl (Cn _ _) (by decide) rfl) (Nl (Wb (Wq (Wr 75 77 (by decide) rfl rfl (Od rfl rfl (Eq0 rfl rfl rfl) (Od rfl rfl (As rfl rfl) (Nl (Wf rfl (by first|rfl|assumption) (Wq (Wq (Wr 104 106 (by decide) rfl rfl (Od rfl rfl (Eq0 rfl rfl rfl) (Od rfl rfl (As rfl rfl) (Nl (Wt rfl (by first|rfl|assumption) (Wk (Wt rfl (by first|rfl|assumption) (Wr 116 120 (by decide) rfl rfl (Od rfl rfl (Mv rfl rfl) (Od rfl rfl (La rfl rfl rfl ty43 rfl (Tk.lit rfl)) (Od rfl rfl (La rfl rfl rfl ty43 rfl (Tk.lit rfl)) (Od rfl rfl (LO.call2 (fr := []) (q0 := 0) (q1 := 3) rfl rfl hM fok55 (.own 0 rfl rfl (.cons rfl (.pure rfl) (.cons rfl (.pure rfl) (.own 1 rfl rfl .nil)))) (by decide) (by decide) (by decide) rfl rfl rfl (fr_pure _) rfl (fr_pure _) (Cn _ _) (Cn _ _) rfl) (Nl ?_))))))))))))))))))))))))))
        intro yJ KJ hJ
        refine W.renameJ [(0, 0), (1, 2), (2, 3)] 3 (by decide) ?_ ?_ (hJ (g2, c2) (show FrG g2 from hg2))
        · (repeat' (first | exact LookR.nil | refine LookR.cons ?_ ?_)) <;> first | exact .inl ⟨rfl, rfl⟩ | exact .inr ⟨rfl, fun _ h => by cases h⟩ | exact .inl ⟨rfl, by first | rfl | assumption | exact (fr_pure _)⟩
        · (repeat' (first | exact all_mt | refine all_up ?_ ?_)) <;> first | exact ⟨rfl, _, rfl, .inr ⟨rfl, rfl⟩⟩ | exact ⟨rfl, _, rfl, .inl rfl⟩ | exact ⟨rfl, _, rfl, .inr ⟨rfl, by first | rfl | assumption | exact (fr_pure _)⟩⟩
    case' true =>
      have n1 := next_any l b1 9 (by decide) (by decide) hl
      have c1b := nextV_bd l b1 9 (by decide)
      generalize nextV l b1 9 = x1 at *
      generalize nextAt l b1 = c1 at *
      obtain ⟨_, _, h4, x2, c2, hx2, rfl, rfl⟩ := dfour_any l c1 hl
      obtain ⟨q, hq, hqb⟩ := nat_of (nextV_bd l c2 3 (by decide))
      have n8 := next_any l c2 3 (by decide) (by decide) hl
      rw [hq] at n8
      generalize nextAt l c2 = c3 at *
      have hsl : ([.base (.int .i64 1), .base (.int .i64 6), .base (.int .i64 17)] : List AV)[0 + q * 1]? = some (.base (.int .i64 (if q = 0 then 1 else if q = 1 then 6 else 17))) := by
        match q, hqb with
        | 0, _ => rfl
        | 1, _ => rfl
        | 2, _ => rfl
        | k + 3, h => omega
      generalize (if q = 0 then (1 : Int) else if q = 1 then 6 else 17) = pr at *
      obtain ⟨_, _, hby, L, c4, ⟨LB, Ll⟩, rfl, rfl⟩ := dbytes_any l c3 20 (by decide) hl
      have u1 := (fourA_ok (n := x1) (by omega) (by omega)).2
      have hre := renc_any ⟨fourA x1, x2, pr, 64, L⟩ u1.1 u1.2 hx2.2.1 hx2.2.2 LB
      obtain ⟨oB, oL⟩ := encL2_ok ⟨fourA x1, x2, pr, 64, L⟩ LB
      dsimp only at oL
      unfold ecV at hre
      generalize encL2 ⟨fourA x1, x2, pr, 64, L⟩ = B at *
      generalize encE ⟨fourA x1, x2, pr, 64, L⟩ = be at *
      refine Wq (Wr 69 71 (by decide) rfl rfl (Od rfl rfl (Mv rfl rfl) (Od rfl rfl (C1 (fr := []) rfl rfl (n5) fok23 (.own rfl rfl (.cons rfl (.pure rfl) .nil)) rfl rfl rfl (Cn _ _) (by decide) rfl) (Nl (Wb (Wq (Wr 75 77 (by decide) rfl rfl (Od rfl rfl (Eq0 rfl rfl rfl) (Od rfl rfl (As rfl rfl) (Nl (Wt rfl (by first|rfl|assumption) (Wd 81 100 (by decide) rfl mixed rfl (Od rfl rfl (Mv rfl rfl) (Od rfl rfl (C1 (fr := []) rfl rfl (n1) fok23 (.own rfl rfl (.cons rfl (.pure rfl) .nil)) rfl rfl rfl (Cn _ _) (by decide) rfl) (Od rfl rfl (C0 (fr := []) rfl rfl (fourM_any x1 (by omega) (by omega)) fok41 (.cons rfl (.pure rfl) .nil) rfl) (Od rfl rfl (Mv rfl rfl) (Od rfl rfl (C1 (fr := []) rfl rfl (h4) fok53 (.own rfl rfl .nil) rfl rfl rfl (Cn _ _) (by decide) rfl) (Od rfl rfl (LO.buildSlice rfl ty22 ty3 (by decide) (by decide) (.cons rfl rfl rfl rfl (Sp.lit rfl) (.cons rfl rfl rfl rfl (Sp.lit rfl) (.cons rfl rfl rfl rfl (Sp.lit rfl) .nil)))) (Od rfl rfl (Mv rfl rfl) (Od rfl rfl (C1 (fr := []) rfl rfl (n8) fok23 (.own rfl rfl (.cons rfl (.pure rfl) .nil)) rfl rfl rfl (Cn _ _) (by decide) rfl) (Od rfl rfl (Ia rfl rfl rfl rfl ty22 ty3 (by first|omega|decide|assumption|(simp;done)|(simp;omega))) (Od rfl rfl (Ld rfl rfl rfl hsl ty3 rfl) (Od rfl rfl (Mv rfl rfl) (Od rfl rfl (C1 (fr := []) rfl rfl (hby) fok54 (.own rfl rfl (.cons rfl (.pure rfl) .nil)) rfl rfl rfl (Cn _ _) (by decide) rfl) (Od rfl rfl (Bs rfl ty99 (.cons rfl rfl rfl rfl (Sp.lit rfl) (.cons rfl rfl rfl rfl (Sp.lit rfl) (.cons rfl rfl rfl rfl (Sp.lit rfl) (.cons rfl rfl rfl rfl (Sp.lit rfl) (.cons rfl rfl rfl rfl (Sp.lit rfl) .nil)))))) (Od rfl rfl (C0 (fr := []) rfl rfl (hre) fok52 (.cons rfl (.pure rfl) .nil) rfl) (Od rfl rfl (Mv rfl rfl) (Od rfl rfl (Ex rfl rfl rfl) (Od rfl rfl (Ex rfl rfl rfl) (Od rfl rfl (Fa rfl rfl ty55 rfl (by decide)) (On rfl rfl (Sr rfl rfl rfl rfl rfl ty46 rfl (by decide) (Sp.lit rfl)) (Nl ⟨by kernel_rfl, ?_⟩))))))))))))))))))))))))))))))))
      intro yJ KJ hJ
      refine W.renameJ [(0, 0), (1, 2), (2, 3)] 3 (by decide) ?_ ?_ (hJ (((⟨[w0, w1, w2, w3, w4, w5], [s0, s1, s2, s3, s4, s5], 0, 2048, B⟩ : Fr)), c4) (show FrG ((⟨[w0, w1, w2, w3, w4, w5], [s0, s1, s2, s3, s4, s5], 0, 2048, B⟩ : Fr)) from .mk6 ⟨rfl, wB⟩ ⟨rfl, sB⟩ ⟨oB, by omega⟩))
      · (repeat' (first | exact LookR.nil | refine LookR.cons ?_ ?_)) <;> first | exact .inl ⟨rfl, rfl⟩ | exact .inr ⟨rfl, fun _ h => by cases h⟩ | exact .inl ⟨rfl, by first | rfl | assumption ⟩
      · (repeat' (first | exact all_mt | refine all_up ?_ ?_)) <;> first | exact ⟨rfl, _, rfl, .inr ⟨rfl, rfl⟩⟩ | exact ⟨rfl, _, rfl, .inl rfl⟩ | exact ⟨rfl, _, rfl, .inr ⟨rfl, by first | rfl | assumption ⟩⟩
  have g6 := hIK.ok.d6
  have t6 := hIK.ok.s6
  obtain ⟨_, _, hodd, g2, c2, hg2, rfl, rfl⟩ := oddM_any l c g hIK hl
  obtain ⟨gd, gs, gv, gt, gx⟩ := g
  dsimp only at g6 t6
  obtain ⟨u0, u1, u2, u3, u4, u5, rfl⟩ := six_of g6
  obtain ⟨y0, y1, y2, y3, y4, y5, rfl⟩ := six_of t6
  have p6 := hg2.ok.d6
  have q6 := hg2.ok.s6
  obtain ⟨pd, ps, pv, pt, px⟩ := g2
  dsimp only at p6 q6
  obtain ⟨p0, p1, p2, p3, p4, p5, rfl⟩ := six_of p6
  obtain ⟨q0, q1, q2, q3, q4, q5, rfl⟩ := six_of q6
  refine Wq (Wr 168 172 (by decide) rfl rfl (Od rfl rfl (Mv rfl rfl) (Od rfl rfl (La rfl rfl rfl ty55 rfl (Tk.lit rfl)) (Od rfl rfl (C1 (fr := []) rfl rfl (hodd) fok57 (.own rfl rfl (.cons rfl (.pure rfl) .nil)) rfl rfl rfl (Cn _ _) (by decide) rfl) (On rfl rfl (Sr rfl rfl rfl rfl rfl ty55 rfl (by decide) (Sp.lit rfl)) (Nl ?_))))))
  refine W.ret ⟨.inl rfl, _, up mt 0 (some (deckC l c2)), (RVs.cons (RV.cellA rfl rfl ty55 rfl (Tk.lit rfl)) RVs.nil), (by (repeat' (first | exact all_mt | refine all_up ?_ ?_)) <;> rfl), ?_⟩
  exact ⟨_, c2, hg2, rfl, rfl⟩
end Go.Proofs.YtcidmiacfjdepaaDoor
