/-
  The setting: the tables of a database, one of its rules, a frame. ResolveNobody: its law.
-/
import Derived.Test.YtcidmiacfjdepaaDoorJz
import Derived.Test.YtcidmiacfjdepaaDoorJt
import Derived.Test.YtcidmiacfjdepaaDoorMab
namespace Go.Proofs.YtcidmiacfjdepaaDoor
open Go.RowKit

theorem DbFine.rok {l : List Int} {d : Db} (h : DbFine l d) (g : Int → Int) (rate burst : Int) : ∀ r, r ∈ (allP d).map (ruleOf g rate burst) → RlOk r := fun r hr => by
  obtain ⟨p, hp, rfl⟩ := List.mem_map.1 hr
  obtain ⟨i, hi, rfl⟩ := List.getElem_of_mem hp
  have hl := h.len
  have hg := h.good i hi
  have ho := hg.ok (by omega) (by omega)
  obtain ⟨e1, e2⟩ := v4_ok hg (by omega) (by omega)
  generalize (allP d)[i] = p at *
  have h1 := ad1_len p.v4
  have h2 := ad1_len p.v6
  have hnm := ho.nm
  refine ⟨⟨hnm.1, by dsimp only [ruleOf]; omega⟩, fun m hm => ⟨(ho.macs m hm).1, (ho.macs m hm).2.1⟩, by dsimp only [ruleOf]; omega, fun a ha => ?_, by dsimp only [ruleOf]; omega, fun a ha => ?_⟩
  · dsimp only [ruleOf] at ha
    unfold ad1 at ha
    split at ha
    · simp at ha
    · simp at ha; rw [ha]; exact ⟨e1, e2⟩
  · dsimp only [ruleOf] at ha
    unfold ad1 at ha
    split at ha
    · simp at ha
    · rename_i hz
      simp at ha
      rw [ha]
      rcases hg.a with ⟨_, e⟩ | ⟨_, e⟩ | ⟨_, e⟩
      · rw [e] at hz; exact absurd rfl hz
      · rw [e]; exact sixA_ok (by omega) (by omega)
      · rw [e]; exact sixA_ok (by omega) (by omega)
set_option maxHeartbeats 4000000 in
theorem setting_any (l : List Int) (hl : l.length ≤ 9223372036854775807) :
    ∃ v H', AFn Tryd.prog 16 0 [.isl (l.map fun z => .base (.int .i64 z)) l.length] mt v H' ∧
      ∃ (d : Db) (g : Int → Int) (bs : List Bd) (j : Nat) (f : Fr) (hj : j < (allP d).length), (DbFine l d ∧ List.Perm bs (bdsOf (allP d)) ∧ MacOk bs ∧ FrX f) ∧
        v = .tup [.isl (rulesC ((allP d).map (ruleOf g 2 3))) ((allP d).map (ruleOf g 2 3)).length, .isl (bdsC bs) bs.length, .agg (ruleC (ruleOf g 2 3 (allP d)[j])), .agg (frC f)] ∧ H' = mt := by
  refine AFn.ex Tryd.func16 rfl rfl (Nat.le_of_ble_eq_true rfl) ?_
  have hnew := new_any l
  obtain ⟨vd, Hd, hdb, d, a1, hmade, rfl, rfl⟩ := database_any l 0 hl
  have hfine := hmade.fine
  have hlen := hfine.len
  obtain ⟨g, hru⟩ := rules_any d hfine.ok hfine.once hfine.ports (by omega) 2 3 (by decide)
  obtain ⟨vb, Hb, hbi, bs, ⟨hperm, hmo⟩, rfl, rfl⟩ := bindings_any d hfine.ok hfine.ports (by omega) (fun p hp => by
    obtain ⟨i, hi, rfl⟩ := List.getElem_of_mem hp
    exact (hfine.good i hi).ok (by omega) (by omega))
  have hrl : ((allP d).map (ruleOf g 2 3)).length = (allP d).length := List.length_map _
  obtain ⟨j, hj, hjb⟩ := nat_of (nextV_bd l a1 (((allP d).map (ruleOf g 2 3)).length : Int) (by omega))
  have n4 := next_any l a1 (((allP d).map (ruleOf g 2 3)).length : Int) (by omega) (by omega) hl
  rw [hj] at n4
  have hj2 : j < (allP d).length := by omega
  have tJ := rules_tk (l := (allP d).map (ruleOf g 2 3)) (k := j) (by omega)
  rw [List.getElem_map] at tJ
  have hrok := hfine.rok g 2 3
  have hone : RlOk (ruleOf g 2 3 (allP d)[j]) := hrok _ (List.mem_map.2 ⟨_, List.getElem_mem hj2, rfl⟩)
  obtain ⟨_, _, hfr, f, a3, hfx, rfl, rfl⟩ := frame_any l (nextAt l a1) (ruleOf g 2 3 (allP d)[j]) ((allP d).map (ruleOf g 2 3)) hone hrok (by omega) (by omega) hl
  have p6 := hfx.ok.d6
  have q6 := hfx.ok.s6
  have hex : ∃ (dd : Db) (gg : Int → Int) (bb : List Bd) (i : Nat) (ff : Fr) (hi : i < (allP dd).length), (DbFine l dd ∧ List.Perm bb (bdsOf (allP dd)) ∧ MacOk bb ∧ FrX ff) ∧
        AV.tup [.isl (rulesC ((allP d).map (ruleOf g 2 3))) ((allP d).map (ruleOf g 2 3)).length, .isl (bdsC bs) bs.length, .agg (ruleC (ruleOf g 2 3 (allP d)[j])), .agg (frC f)] = .tup [.isl (rulesC ((allP dd).map (ruleOf gg 2 3))) ((allP dd).map (ruleOf gg 2 3)).length, .isl (bdsC bb) bb.length, .agg (ruleC (ruleOf gg 2 3 (allP dd)[i])), .agg (frC ff)] :=
    ⟨d, g, bs, j, f, hj2, ⟨hfine, hperm, hmo, hfx⟩, rfl⟩
  obtain ⟨fd, fs, fv, ft, fx⟩ := f
  dsimp only at p6 q6
  obtain ⟨p0, p1, p2, p3, p4, p5, rfl⟩ := six_of p6
  obtain ⟨q0, q1, q2, q3, q4, q5, rfl⟩ := six_of q6
  generalize (allP d)[j] = P at *
  generalize hgr : (allP d).map (ruleOf g 2 3) = rs at *
  have hj3 : j < rs.length := by omega
  clear hfine hmade hrok hone hj
  refine Wq (Wr 0 4 (by decide) rfl rfl (Od rfl rfl (As rfl rfl) (Od rfl rfl (As rfl rfl) (Od rfl rfl (Al rfl ty43) (Od rfl rfl (Al rfl ty55) (Nl (Wq (Wr 8 11 (by decide) rfl rfl (Od rfl rfl (Mv rfl rfl) (Od rfl rfl (LO.callN (fr := []) rfl rfl (hnew) fok6 (.cons rfl (.pure rfl) .nil) rfl (by decide)) (Od rfl rfl (As rfl rfl) (Nl (Wq (Wr 15 19 (by decide) rfl rfl (Od rfl rfl (Mv rfl rfl) (Od rfl rfl (C1 (fr := []) rfl rfl (hdb) fok7 (.own rfl rfl .nil) rfl rfl rfl (Cn _ _) (by decide) rfl) (Od rfl rfl (Al rfl ty30) (On rfl rfl (Sr rfl rfl rfl rfl rfl ty30 rfl (by decide) (Sp.lit rfl)) (Nl (Wq (Wr 23 30 (by decide) rfl rfl (Od rfl rfl (La rfl rfl rfl ty30 rfl (Tk.lit rfl)) (Od rfl rfl (C0 (fr := []) rfl rfl (hru) fok8 (.cons rfl (.pure rfl) (.cons rfl (.pure rfl) (.cons rfl (.pure rfl) .nil))) rfl) (Od rfl rfl (Mv rfl rfl) (Od rfl rfl (Ex rfl rfl rfl) (Od rfl rfl (Ex rfl rfl rfl) (Od rfl rfl (As rfl rfl) (Od rfl rfl (As rfl rfl) (Nl (Wq (Wr 34 43 (by decide) rfl rfl (Od rfl rfl (Mv rfl rfl) (Od rfl rfl (Mv rfl rfl) (Od rfl rfl (Mv rfl rfl) (Od rfl rfl (Ln rfl rfl rfl ty34) (Od rfl rfl (C1 (fr := []) rfl rfl (n4) fok23 (.own rfl rfl (.cons rfl (.pure rfl) .nil)) rfl rfl rfl (Cn _ _) (by decide) rfl) (Od rfl rfl (Ii rfl rfl rfl rfl rfl ty34 ty43 (by first|omega|decide|assumption|(simp;done)|(simp;omega))) (Od rfl rfl (Lg rfl rfl ty43 rfl tJ) (Od rfl rfl (Al rfl ty43) (On rfl rfl (Sr rfl rfl rfl rfl rfl ty43 rfl (by decide) (Sp.lit rfl)) (Nl (Wq (Wd 47 59 (by decide) rfl mixed rfl (Od rfl rfl (Mv rfl rfl) (Od rfl rfl (La rfl rfl rfl ty30 rfl (Tk.lit rfl)) (Od rfl rfl (C0 (fr := []) rfl rfl (hbi) fok9 (.cons rfl (.pure rfl) .nil) rfl) (Od rfl rfl (La rfl rfl rfl ty43 rfl (Tk.lit rfl)) (Od rfl rfl (Mv rfl rfl) (Od rfl rfl (La rfl rfl rfl ty43 rfl (Tk.lit rfl)) (Od rfl rfl (Mv rfl rfl) (Od rfl rfl (C1 (fr := []) rfl rfl (hfr) fok33 (.own rfl rfl (.cons rfl (.pure rfl) (.cons rfl (.pure rfl) .nil))) rfl rfl rfl (Cn _ _) (by decide) rfl) (Od rfl rfl (As rfl rfl) (Od rfl rfl (As rfl rfl) (On rfl rfl (Sr rfl rfl rfl rfl rfl ty43 rfl (by decide) (Sp.lit rfl)) (On rfl rfl (Sr rfl rfl rfl rfl rfl ty55 rfl (by decide) (Sp.lit rfl)) (Nl ⟨by kernel_rfl, ?_⟩))))))))))))))))))))))))))))))))))))))))))))))))))))))))
  refine W.ret ⟨.inl rfl, _, mt, (RVs.cons (RV.tmp rfl) (RVs.cons (RV.tmp rfl) (RVs.cons (RV.cellA rfl rfl ty43 rfl (Tk.lit rfl)) (RVs.cons (RV.cellA rfl rfl ty55 rfl (Tk.lit rfl)) RVs.nil)))), (by (repeat' (first | exact all_mt | refine all_up ?_ ?_)) <;> rfl), ?_⟩
  obtain ⟨dd, gg, bb, i, ff, hi, h1, h2⟩ := hex
  exact ⟨dd, gg, bb, i, ff, hi, h1, h2, rfl⟩
/-- two frames that are the same -/
theorem same_refl (f : Fr) (hf : FrOk f) : AFn Tryd.prog 17 0 [.agg (frC f), .agg (frC f)] mt (.base (.bool true)) mt := by
  refine AFn.eq Tryd.func17 rfl rfl (Nat.le_of_ble_eq_true rfl) ?_
  obtain ⟨fd, fs, fv, ft, fx⟩ := f
  have p6 := hf.d6
  have q6 := hf.s6
  dsimp only at p6 q6
  obtain ⟨p0, p1, p2, p3, p4, p5, rfl⟩ := six_of p6
  obtain ⟨q0, q1, q2, q3, q4, q5, rfl⟩ := six_of q6
  have k1 : decide (([p0, p1, p2, p3, p4, p5] : List Int) = [p0, p1, p2, p3, p4, p5]) = true := decide_eq_true rfl
  have k2 : decide (([q0, q1, q2, q3, q4, q5] : List Int) = [q0, q1, q2, q3, q4, q5]) = true := decide_eq_true rfl
  have k3 : (fv == fv) = true := by simp
  have k4 : (ft == ft) = true := by simp
  have k5 : ((strOfNums fx).toList == (strOfNums fx).toList) = true := by simp
  refine Wq (Wr 0 3 (by decide) rfl rfl (Od rfl rfl (Bx rfl rfl rfl) (Od rfl rfl (Bx rfl rfl rfl) (Od rfl rfl (As rfl rfl) (Nl (Wq (Wr 7 43 (by decide) rfl rfl (Od rfl rfl (Fa rfl rfl ty55 rfl (by decide)) (Od rfl rfl (La rfl rfl rfl ty50 rfl (Tk.lit rfl)) (Od rfl rfl (Fa rfl rfl ty55 rfl (by decide)) (Od rfl rfl (La rfl rfl rfl ty50 rfl (Tk.lit rfl)) (Od rfl rfl (LO.eql_mac [p0, p1, p2, p3, p4, p5] [p0, p1, p2, p3, p4, p5] rfl rfl rfl rfl rfl) (Od rfl rfl (Mv rfl rfl) (Gd rfl rfl rfl (by first|rfl|assumption) rfl (Fa rfl rfl ty55 rfl (by decide)) (Gd rfl rfl rfl (by first|rfl|assumption) rfl (La rfl rfl rfl ty50 rfl (Tk.lit rfl)) (Gd rfl rfl rfl (by first|rfl|assumption) rfl (Fa rfl rfl ty55 rfl (by decide)) (Gd rfl rfl rfl (by first|rfl|assumption) rfl (La rfl rfl rfl ty50 rfl (Tk.lit rfl)) (Gd rfl rfl rfl (by first|rfl|assumption) rfl (LO.eql_mac [q0, q1, q2, q3, q4, q5] [q0, q1, q2, q3, q4, q5] rfl rfl rfl rfl rfl) (Od rfl rfl (Pt rfl rfl (by first|rfl|assumption) rfl) (Od rfl rfl (Mv rfl rfl) (Gd rfl rfl rfl (by first|rfl|assumption) rfl (Fa rfl rfl ty55 rfl (by decide)) (Gd rfl rfl rfl (by first|rfl|assumption) rfl (Ld rfl rfl rfl rfl ty3 rfl) (Gd rfl rfl rfl (by first|rfl|assumption) rfl (Fa rfl rfl ty55 rfl (by decide)) (Gd rfl rfl rfl (by first|rfl|assumption) rfl (Ld rfl rfl rfl rfl ty3 rfl) (Gd rfl rfl rfl (by first|rfl|assumption) rfl (Eq0 rfl rfl rfl) (Od rfl rfl (Pt rfl rfl (by first|rfl|assumption) rfl) (Od rfl rfl (Mv rfl rfl) (Gd rfl rfl rfl (by first|rfl|assumption) rfl (Fa rfl rfl ty55 rfl (by decide)) (Gd rfl rfl rfl (by first|rfl|assumption) rfl (Ld rfl rfl rfl rfl ty3 rfl) (Gd rfl rfl rfl (by first|rfl|assumption) rfl (Fa rfl rfl ty55 rfl (by decide)) (Gd rfl rfl rfl (by first|rfl|assumption) rfl (Ld rfl rfl rfl rfl ty3 rfl) (Gd rfl rfl rfl (by first|rfl|assumption) rfl (Eq0 rfl rfl rfl) (Od rfl rfl (Pt rfl rfl (by first|rfl|assumption) rfl) (Od rfl rfl (Mv rfl rfl) (Gd rfl rfl rfl (by first|rfl|assumption) rfl (Fa rfl rfl ty55 rfl (by decide)) (Gd rfl rfl rfl (by first|rfl|assumption) rfl (Ld rfl rfl rfl rfl ty46 rfl) (Gd rfl rfl rfl (by first|rfl|assumption) rfl (LO.str (xs := fx) rfl rfl Tryd.underlying46 Tryd.underlying5 Tryd.underlying9) (Gd rfl rfl rfl (by first|rfl|assumption) rfl (Fa rfl rfl ty55 rfl (by decide)) (Gd rfl rfl rfl (by first|rfl|assumption) rfl (Ld rfl rfl rfl rfl ty46 rfl) (Gd rfl rfl rfl (by first|rfl|assumption) rfl (LO.str (xs := fx) rfl rfl Tryd.underlying46 Tryd.underlying5 Tryd.underlying9) (Gd rfl rfl rfl (by first|rfl|assumption) rfl (LO.eql_str rfl rfl rfl) (Od rfl rfl (Pt rfl rfl (by first|rfl|assumption) rfl) (Od rfl rfl (As rfl rfl) (Nl (W.ret ⟨.inl rfl, _, mt, RVs.cons (RV.tmp rfl) (RVs.nil), all_mt, ?_⟩)))))))))))))))))))))))))))))))))))))))))))))
  exact ⟨by rw [k5]; rfl, rfl⟩
def zFrN : List AV := [.base (.int .u8 0), .base (.int .u8 0), .base (.int .u8 0), .base (.int .u8 0), .base (.int .u8 0), .base (.int .u8 0), .base (.int .u8 0), .base (.int .u8 0), .base (.int .u8 0), .base (.int .u8 0), .base (.int .u8 0), .base (.int .u8 0), .base (.int .i64 0), .base (.int .i64 0)]
theorem same_zero : AFn Tryd.prog 17 0 [.agg (frC zFr), .agg (zFrN ++ [.nils])] mt (.base (.bool true)) mt :=
  AFn.arg1x (b' := .agg (zFrN ++ [.isl [] 0])) (same_refl zFr ⟨rfl, rfl, fun x hx => by simp [zFr] at hx, by simp [zFr]⟩) fun _ _ _ _ h => h.agg_nil
end Go.Proofs.YtcidmiacfjdepaaDoor
namespace Go.Proofs.YtcidmiacfjdepaaDoor
open Go.RowKit

end Go.Proofs.YtcidmiacfjdepaaDoor
