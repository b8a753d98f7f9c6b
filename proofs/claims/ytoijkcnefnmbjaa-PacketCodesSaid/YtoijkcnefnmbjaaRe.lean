/-
  Bytes that are changed.
-/
import Derived.Test.YtoijkcnefnmbjaaRd
import Derived.Test.YtoijkcnefnmbjaaMab
namespace Go.Proofs.Ytoijkcnefnmbjaa
open Go.RowKit
theorem decX_any (p : Pk) (hB : IsB p.bs) (s1 : U64 p.s.hi) (s2 : U64 p.s.lo) (d1 : U64 p.d.hi) (d2 : U64 p.d.lo) : AFn Try.prog 57 0 [.agg (pkC p)] mt (decV p) mt := by
  by_cases hE : chkE p = 0
  · by_cases hsz : p.bs.length < 4 + fixN (gB p.bs 0)
    · exact decX_short p hB s1 s2 d1 d2 hE hsz
    · exact decX_ok p hB s1 s2 d1 d2 hE hsz
  · cases hv : vpk p with
    | false => exact decX_bad1 p hv
    | true =>
      by_cases hk : chkE p = 5 ∧ (!p.s.v6) = false ∧ (p.p != 58) = false
      · exact decX_bad3 p hB s1 s2 d1 d2 hv hk.1 hk.2.1 hk.2.2
      · exact decX_bad2 p hB s1 s2 d1 d2 hv hE hk
theorem same_any (p : Pk) (hB : IsB p.bs) (s1 : U64 p.s.hi) (s2 : U64 p.s.lo) (d1 : U64 p.d.hi) (d2 : U64 p.d.lo) : AFn Try.prog 30 0 [.agg (pkC p)] mt (.base (.bool true)) mt :=
  same_of p hB s1 s2 d1 d2 (decX_any p hB s1 s2 d1 d2)
theorem short_any (l : List Int) : AFn Try.prog 9 0 [.isl (bytesC l) l.length] mt (.base (.bool (decide ((l.length : Int) ≤ 600)))) mt := by
  refine AFn.eq Try.func9 rfl rfl (Nat.le_of_ble_eq_true rfl) ?_
  repeat (refine W.seq ?_)
  refine W.region 0 1 (by decide) rfl rfl ?_
  refine RW.opd rfl rfl (LO.assign rfl rfl) ?_
  refine RW.nil ?_
  repeat (refine W.seq ?_)
  refine W.region 5 9 (by decide) rfl rfl ?_
  refine RW.opd rfl rfl (LO.move rfl rfl) ?_
  refine RW.opd rfl rfl (LO.len_isl rfl rfl rfl ty25) ?_
  refine RW.opd rfl rfl (LO.leq rfl rfl rfl) ?_
  refine RW.opd rfl rfl (LO.assign rfl rfl) ?_
  refine RW.nil ?_
  repeat (refine W.seq ?_)
  refine W.ret ⟨.inl rfl, _, mt, RVs.cons (RV.tmp rfl) (RVs.nil), all_mt, ?_⟩
  exact ⟨rfl, rfl⟩
theorem bytesC_1 (x : Int) : bytesC [x] = [.base (.int .u8 x)] := rfl
theorem by_take {l : List Int} {k : Nat} (hk : k ≤ l.length) : Tk (bytesC l) 0 (k * 1) (bytesC (l.take k)) := by
  refine ⟨by rw [bytesC_len, List.length_take]; omega, fun j c hj => ?_⟩
  simp only [bytesC, List.map_take, List.getElem?_take] at hj
  split at hj
  · rw [Nat.zero_add]; exact hj
  · cases hj
theorem by_from {l : List Int} {k m : Nat} (h : l.length = k + m) : Tk (bytesC l) (0 + k * 1) (m * 1) (bytesC (l.drop k)) := by
  rw [Nat.zero_add]
  have := by_drop (l := l) (k := k) (n := k + m) h
  rwa [Nat.add_sub_cancel_left] at this
set_option maxHeartbeats 2000000 in
theorem spo_any (l : List Int) (a b : Int) (hB : IsB l) (hl : l.length ≤ 100000) : ∃ L : List Int, (IsB L ∧ L.length ≤ l.length + 1) ∧ AFn Try.prog 19 0 [.isl (bytesC l) l.length, .base (.int .i64 a), .base (.int .i64 b)] mt (.isl (bytesC L) L.length) mt := by
  obtain ⟨v, hv⟩ : ∃ v, IntKind.u8.wrap b = v := ⟨_, rfl⟩
  have hvb : 0 ≤ v ∧ v ≤ 255 := by rw [← hv]; exact u8_bd _
  by_cases h0 : l.length = 0
  · have hnil : l = [] := List.eq_nil_of_length_eq_zero h0
    subst hnil
    refine ⟨[v], ⟨fun x hx => by rw [List.mem_singleton] at hx; subst hx; exact hvb, by simp⟩, ?_⟩
    refine AFn.eq Try.func19 rfl rfl (Nat.le_of_ble_eq_true rfl) ?_
    repeat (refine W.seq ?_)
    refine W.region 0 1 (by decide) rfl rfl ?_
    refine RW.opd rfl rfl (LO.assign rfl rfl) ?_
    refine RW.nil ?_
    repeat (refine W.seq ?_)
    refine W.region 5 8 (by decide) rfl rfl ?_
    refine RW.opd rfl rfl (LO.move rfl rfl) ?_
    refine RW.opd rfl rfl (LO.append_nil rfl rfl (SrcAV.isl rfl rfl rfl) ty25 ty25 ty5 (by decide) (by decide) (by decide) (by decide)) ?_
    refine RW.opd rfl rfl (LO.assign rfl rfl) ?_
    refine RW.nil ?_
    repeat (refine W.seq ?_)
    refine W.region 12 15 (by decide) rfl rfl ?_
    refine RW.opd rfl rfl (LO.move rfl rfl) ?_
    refine RW.opd rfl rfl (LO.len rfl rfl ty25) ?_
    refine RW.opd rfl rfl (LO.eql rfl rfl rfl) ?_
    refine RW.nil ?_
    repeat (refine W.seq ?_)
    refine W.cond_t rfl (by first | rfl | assumption) ?_
    repeat (refine W.seq ?_)
    refine W.region 19 23 (by decide) rfl rfl ?_
    refine RW.opd rfl rfl (LO.move rfl rfl) ?_
    refine RW.opd rfl rfl (LO.conv rfl rfl ty3 ty5) ?_
    refine RW.opd rfl rfl (LO.buildSlice rfl ty25 ty5 (by decide) (by decide) (.cons rfl rfl rfl rfl (Sp.lit rfl) .nil)) ?_
    refine RW.opd rfl rfl (LO.assign rfl rfl) ?_
    refine RW.nil ?_
    rw [hv]
    refine W.frz1 (t := 6) rfl rfl (bytes_tk (l := [v]) rfl) (bytesC_pure _) ?_
    repeat (refine W.seq ?_)
    refine W.ret ⟨.inl rfl, _, mt, (RVs.cons (RV.tmp rfl) RVs.nil), (by (repeat' (first | exact all_mt | refine all_up ?_ ?_)) <;> rfl), ?_⟩
    exact ⟨rfl, rfl⟩
  · obtain ⟨k, hk1, hk2⟩ := emod_nat a (show 0 < l.length by omega)
    have hm1 := mod_any a l.length (by omega) (by omega)
    rw [hk1] at hm1
    have g0 : ((l.length : Int) == 0) = false := by rw [beq_eq_false_iff_ne]; omega
    obtain ⟨q, hq1, hq2⟩ := emod_nat (IntKind.i64.wrap (b.tdiv 256)) (show 0 < 4 by decide)
    have hm2 := mod_any (IntKind.i64.wrap (b.tdiv 256)) 4 (by decide) (by decide)
    rw [show IntKind.i64.wrap (b.tdiv 256) % 4 = (q : Int) from hq1] at hm2
    have hkt : (l.take k).length = k := by rw [List.length_take]; exact Nat.min_eq_left (by omega)
    have hkd : (l.drop k).length = l.length - k := by simp
    have hkd1 : (l.drop (k + 1)).length = l.length - (k + 1) := by simp
    rcases (show q = 0 ∨ q = 1 ∨ q = 2 ∨ q = 3 by omega) with rfl | rfl | rfl | rfl
    · refine ⟨l.set k v, ⟨hB.set k hvb, by simp⟩, ?_⟩
      refine AFn.eq Try.func19 rfl rfl (Nat.le_of_ble_eq_true rfl) ?_
      repeat (refine W.seq ?_)
      refine W.region 0 1 (by decide) rfl rfl ?_
      refine RW.opd rfl rfl (LO.assign rfl rfl) ?_
      refine RW.nil ?_
      repeat (refine W.seq ?_)
      refine W.region 5 8 (by decide) rfl rfl ?_
      refine RW.opd rfl rfl (LO.move rfl rfl) ?_
      refine RW.opd rfl rfl (LO.append_nil rfl rfl (SrcAV.isl rfl rfl (by simp [bytesC_len])) ty25 ty25 ty5 (by decide) (by omega) (by omega) (by decide)) ?_
      refine RW.opd rfl rfl (LO.assign rfl rfl) ?_
      refine RW.nil ?_
      repeat (refine W.seq ?_)
      refine W.region 12 15 (by decide) rfl rfl ?_
      refine RW.opd rfl rfl (LO.move rfl rfl) ?_
      refine RW.opd rfl rfl (LO.len rfl rfl ty25) ?_
      refine RW.opd rfl rfl (LO.eql rfl rfl rfl) ?_
      refine RW.nil ?_
      repeat (refine W.seq ?_)
      refine W.cond_f rfl (by first | rfl | assumption) ?_
      refine W.skip ?_
      repeat (refine W.seq ?_)
      refine W.region 27 32 (by decide) rfl rfl ?_
      refine RW.opd rfl rfl (LO.move rfl rfl) ?_
      refine RW.opd rfl rfl (LO.move rfl rfl) ?_
      refine RW.opd rfl rfl (LO.len rfl rfl ty25) ?_
      refine RW.opd rfl rfl (LO.call0 (fr := []) rfl rfl (hm1) fok17 (.cons rfl (.pure rfl) (.cons rfl (.pure rfl) .nil)) rfl) ?_
      refine RW.opd rfl rfl (LO.assign rfl rfl) ?_
      refine RW.nil ?_
      repeat (refine W.seq ?_)
      refine W.region 36 39 (by decide) rfl rfl ?_
      refine RW.opd rfl rfl (LO.move rfl rfl) ?_
      refine RW.opd rfl rfl (LO.quo rfl rfl rfl (by decide)) ?_
      refine RW.opd rfl rfl (LO.call0 (fr := []) rfl rfl (hm2) fok17 (.cons rfl (.pure rfl) (.cons rfl (.pure rfl) .nil)) rfl) ?_
      refine RW.nil ?_
      repeat (refine W.seq ?_)
      refine W.block ?_
      repeat (refine W.seq ?_)
      refine W.region 43 45 (by decide) rfl rfl ?_
      refine RW.opd rfl rfl (LO.eql rfl rfl rfl) ?_
      refine RW.opd rfl rfl (LO.assign rfl rfl) ?_
      refine RW.nil ?_
      repeat (refine W.seq ?_)
      refine W.cond_t rfl (rfl) ?_
      repeat (refine W.seq ?_)
      refine W.region 49 55 (by decide) rfl rfl ?_
      refine RW.opd rfl rfl (LO.move rfl rfl) ?_
      refine RW.opd rfl rfl (LO.move rfl rfl) ?_
      refine RW.opd rfl rfl (LO.move rfl rfl) ?_
      refine RW.opd rfl rfl (LO.conv rfl rfl ty3 ty5) ?_
      refine RW.opd rfl rfl (LO.indexAddr rfl rfl rfl rfl ty25 ty5 ?_) ?_; (· (first | omega | decide | assumption | fail | (simp; done) | (simp; omega)))
      refine RW.opn rfl rfl (LO.store rfl rfl rfl rfl rfl ty5 rfl (by decide) (by_sp (by first | omega | (simp; omega)))) ?_
      refine RW.nil ?_
      rw [hv]
      repeat (refine W.seq ?_)
      refine W.region 109 111 (by decide) rfl rfl ?_
      refine RW.opd rfl rfl (LO.move rfl rfl) ?_
      refine RW.opd rfl rfl (LO.assign rfl rfl) ?_
      refine RW.nil ?_
      have hsl : (l.set k v).length = l.length := by simp
      refine W.frz1 (t := 6) rfl rfl (bytes_tk (l := l.set k v) hsl) (bytesC_pure _) ?_
      repeat (refine W.seq ?_)
      refine W.ret ⟨.inl rfl, _, mt, (RVs.cons (RV.tmp rfl) RVs.nil), (by (repeat' (first | exact all_mt | refine all_up ?_ ?_)) <;> rfl), ?_⟩
      exact ⟨by rw [hsl]; rfl, rfl⟩
    · refine ⟨l.take k ++ l.drop (k + 1), ⟨(hB.take k).append (hB.drop (k + 1)), by simp; omega⟩, ?_⟩
      refine AFn.eq Try.func19 rfl rfl (Nat.le_of_ble_eq_true rfl) ?_
      repeat (refine W.seq ?_)
      refine W.region 0 1 (by decide) rfl rfl ?_
      refine RW.opd rfl rfl (LO.assign rfl rfl) ?_
      refine RW.nil ?_
      repeat (refine W.seq ?_)
      refine W.region 5 8 (by decide) rfl rfl ?_
      refine RW.opd rfl rfl (LO.move rfl rfl) ?_
      refine RW.opd rfl rfl (LO.append_nil rfl rfl (SrcAV.isl rfl rfl (by simp [bytesC_len])) ty25 ty25 ty5 (by decide) (by omega) (by omega) (by decide)) ?_
      refine RW.opd rfl rfl (LO.assign rfl rfl) ?_
      refine RW.nil ?_
      repeat (refine W.seq ?_)
      refine W.region 12 15 (by decide) rfl rfl ?_
      refine RW.opd rfl rfl (LO.move rfl rfl) ?_
      refine RW.opd rfl rfl (LO.len rfl rfl ty25) ?_
      refine RW.opd rfl rfl (LO.eql rfl rfl rfl) ?_
      refine RW.nil ?_
      repeat (refine W.seq ?_)
      refine W.cond_f rfl (by first | rfl | assumption) ?_
      refine W.skip ?_
      repeat (refine W.seq ?_)
      refine W.region 27 32 (by decide) rfl rfl ?_
      refine RW.opd rfl rfl (LO.move rfl rfl) ?_
      refine RW.opd rfl rfl (LO.move rfl rfl) ?_
      refine RW.opd rfl rfl (LO.len rfl rfl ty25) ?_
      refine RW.opd rfl rfl (LO.call0 (fr := []) rfl rfl (hm1) fok17 (.cons rfl (.pure rfl) (.cons rfl (.pure rfl) .nil)) rfl) ?_
      refine RW.opd rfl rfl (LO.assign rfl rfl) ?_
      refine RW.nil ?_
      repeat (refine W.seq ?_)
      refine W.region 36 39 (by decide) rfl rfl ?_
      refine RW.opd rfl rfl (LO.move rfl rfl) ?_
      refine RW.opd rfl rfl (LO.quo rfl rfl rfl (by decide)) ?_
      refine RW.opd rfl rfl (LO.call0 (fr := []) rfl rfl (hm2) fok17 (.cons rfl (.pure rfl) (.cons rfl (.pure rfl) .nil)) rfl) ?_
      refine RW.nil ?_
      repeat (refine W.seq ?_)
      refine W.block ?_
      repeat (refine W.seq ?_)
      refine W.region 43 45 (by decide) rfl rfl ?_
      refine RW.opd rfl rfl (LO.eql rfl rfl rfl) ?_
      refine RW.opd rfl rfl (LO.assign rfl rfl) ?_
      refine RW.nil ?_
      repeat (refine W.seq ?_)
      refine W.cond_f rfl (rfl) ?_
      repeat (refine W.seq ?_)
      refine W.region 59 61 (by decide) rfl rfl ?_
      refine RW.opd rfl rfl (LO.eql rfl rfl rfl) ?_
      refine RW.opd rfl rfl (LO.assign rfl rfl) ?_
      refine RW.nil ?_
      repeat (refine W.seq ?_)
      refine W.cond_t rfl (rfl) ?_
      have hka : (k : Int) + 1 = ((k + 1 : Nat) : Int) := by omega
      repeat (refine W.seq ?_)
      refine W.regionD 65 74 (by decide) rfl mixed rfl ?_
      refine RW.opd rfl rfl (LO.move rfl rfl) ?_
      refine RW.opd rfl rfl (LO.move rfl rfl) ?_
      refine RW.opd rfl rfl (LO.slice rfl rfl Bnd.no (Bnd.at rfl rfl) ?_ ?_ ty25 ty5) ?_; (· (first | omega | decide | assumption | fail | (simp; done) | (simp; omega))); (· (first | omega | decide | assumption | fail | (simp; done) | (simp; omega)))
      refine RW.opd rfl rfl (LO.move rfl rfl) ?_
      refine RW.opd rfl rfl (LO.move rfl rfl) ?_
      refine RW.opd rfl rfl (LO.add_in rfl rfl rfl ?_) ?_; (· (first | exact IntWalk.i64_in _ (by omega) | assumption))
      refine RW.opd rfl rfl (LO.slice rfl rfl (Bnd.at rfl rfl) Bnd.no ?_ ?_ ty25 ty5) ?_; (· (first | omega | decide | assumption | fail | (simp; done) | (simp; omega))); (· (first | omega | decide | assumption | fail | (simp; done) | (simp; omega)))
      refine RW.opd rfl rfl (LO.append rfl rfl (SrcAV.own rfl rfl (by_from (l := l) (k := k + 1) (m := l.length - (k + 1)) (by omega))) rfl (by_take (by omega)) ty25 ty25 ty5 (by decide) (by omega) (by omega) (by decide)) ?_
      refine RW.opd rfl rfl (LO.assign rfl rfl) ?_
      refine RW.nil ⟨by kernel_rfl, ?_⟩
      refine W.frz1 (t := 6) rfl rfl (cs := bytesC (l.take k) ++ bytesC (l.drop (k + 1))) (by rw [← bytesC_app]; exact bytes_tk (l := l.take k ++ l.drop (k + 1)) (by rw [List.length_append, hkt, hkd1]; rfl)) (bytesC_pure _) ?_
      repeat (refine W.seq ?_)
      refine W.ret ⟨.inl rfl, _, mt, (RVs.cons (RV.tmp rfl) RVs.nil), (by (repeat' (first | exact all_mt | refine all_up ?_ ?_)) <;> rfl), ?_⟩
      exact ⟨by rw [List.length_append, hkt, hkd1]; rfl, rfl⟩
    · refine ⟨l.take k ++ [v] ++ l.drop k, ⟨((hB.take k).append (fun x hx => by rw [List.mem_singleton] at hx; subst hx; exact hvb)).append (hB.drop k), by simp; omega⟩, ?_⟩
      refine AFn.eq Try.func19 rfl rfl (Nat.le_of_ble_eq_true rfl) ?_
      repeat (refine W.seq ?_)
      refine W.region 0 1 (by decide) rfl rfl ?_
      refine RW.opd rfl rfl (LO.assign rfl rfl) ?_
      refine RW.nil ?_
      repeat (refine W.seq ?_)
      refine W.region 5 8 (by decide) rfl rfl ?_
      refine RW.opd rfl rfl (LO.move rfl rfl) ?_
      refine RW.opd rfl rfl (LO.append_nil rfl rfl (SrcAV.isl rfl rfl (by simp [bytesC_len])) ty25 ty25 ty5 (by decide) (by omega) (by omega) (by decide)) ?_
      refine RW.opd rfl rfl (LO.assign rfl rfl) ?_
      refine RW.nil ?_
      repeat (refine W.seq ?_)
      refine W.region 12 15 (by decide) rfl rfl ?_
      refine RW.opd rfl rfl (LO.move rfl rfl) ?_
      refine RW.opd rfl rfl (LO.len rfl rfl ty25) ?_
      refine RW.opd rfl rfl (LO.eql rfl rfl rfl) ?_
      refine RW.nil ?_
      repeat (refine W.seq ?_)
      refine W.cond_f rfl (by first | rfl | assumption) ?_
      refine W.skip ?_
      repeat (refine W.seq ?_)
      refine W.region 27 32 (by decide) rfl rfl ?_
      refine RW.opd rfl rfl (LO.move rfl rfl) ?_
      refine RW.opd rfl rfl (LO.move rfl rfl) ?_
      refine RW.opd rfl rfl (LO.len rfl rfl ty25) ?_
      refine RW.opd rfl rfl (LO.call0 (fr := []) rfl rfl (hm1) fok17 (.cons rfl (.pure rfl) (.cons rfl (.pure rfl) .nil)) rfl) ?_
      refine RW.opd rfl rfl (LO.assign rfl rfl) ?_
      refine RW.nil ?_
      repeat (refine W.seq ?_)
      refine W.region 36 39 (by decide) rfl rfl ?_
      refine RW.opd rfl rfl (LO.move rfl rfl) ?_
      refine RW.opd rfl rfl (LO.quo rfl rfl rfl (by decide)) ?_
      refine RW.opd rfl rfl (LO.call0 (fr := []) rfl rfl (hm2) fok17 (.cons rfl (.pure rfl) (.cons rfl (.pure rfl) .nil)) rfl) ?_
      refine RW.nil ?_
      repeat (refine W.seq ?_)
      refine W.block ?_
      repeat (refine W.seq ?_)
      refine W.region 43 45 (by decide) rfl rfl ?_
      refine RW.opd rfl rfl (LO.eql rfl rfl rfl) ?_
      refine RW.opd rfl rfl (LO.assign rfl rfl) ?_
      refine RW.nil ?_
      repeat (refine W.seq ?_)
      refine W.cond_f rfl (rfl) ?_
      repeat (refine W.seq ?_)
      refine W.region 59 61 (by decide) rfl rfl ?_
      refine RW.opd rfl rfl (LO.eql rfl rfl rfl) ?_
      refine RW.opd rfl rfl (LO.assign rfl rfl) ?_
      refine RW.nil ?_
      repeat (refine W.seq ?_)
      refine W.cond_f rfl (rfl) ?_
      repeat (refine W.seq ?_)
      refine W.region 78 80 (by decide) rfl rfl ?_
      refine RW.opd rfl rfl (LO.eql rfl rfl rfl) ?_
      refine RW.opd rfl rfl (LO.assign rfl rfl) ?_
      refine RW.nil ?_
      repeat (refine W.seq ?_)
      refine W.cond_t rfl (rfl) ?_
      repeat (refine W.seq ?_)
      refine W.regionD 84 97 (by decide) rfl mixed rfl ?_
      refine RW.opd rfl rfl (LO.move rfl rfl) ?_
      refine RW.opd rfl rfl (LO.move rfl rfl) ?_
      refine RW.opd rfl rfl (LO.slice rfl rfl Bnd.no (Bnd.at rfl rfl) ?_ ?_ ty25 ty5) ?_; (· (first | omega | decide | assumption | fail | (simp; done) | (simp; omega))); (· (first | omega | decide | assumption | fail | (simp; done) | (simp; omega)))
      refine RW.opd rfl rfl (LO.append_nil rfl rfl (SrcAV.own rfl rfl (by_take (by omega))) ty25 ty25 ty5 (by decide) (by omega) (by omega) (by decide)) ?_
      refine RW.opd rfl rfl (LO.move rfl rfl) ?_
      refine RW.opd rfl rfl (LO.conv rfl rfl ty3 ty5) ?_
      refine RW.opd rfl rfl (LO.buildSlice rfl ty25 ty5 (by decide) (by decide) (.cons rfl rfl rfl rfl (Sp.lit rfl) .nil)) ?_
      refine RW.opd rfl rfl (LO.append rfl rfl (SrcAV.own rfl rfl (Tk.lit rfl)) rfl (bytes_tk (l := l.take k) (by omega)) ty25 ty25 ty5 (by decide) (by omega) (by omega) (by decide)) ?_
      refine RW.opd rfl rfl (LO.move rfl rfl) ?_
      refine RW.opd rfl rfl (LO.move rfl rfl) ?_
      refine RW.opd rfl rfl (LO.slice rfl rfl (Bnd.at rfl rfl) Bnd.no ?_ ?_ ty25 ty5) ?_; (· (first | omega | decide | assumption | fail | (simp; done) | (simp; omega))); (· (first | omega | decide | assumption | fail | (simp; done) | (simp; omega)))
      refine RW.opd rfl rfl (LO.append rfl rfl (SrcAV.own rfl rfl (by_from (l := l) (k := k) (m := l.length - k) (by omega))) rfl (by rw [← bytesC_1, ← bytesC_app]; exact bytes_tk (l := l.take k ++ [IntKind.u8.wrap b]) (by rw [List.length_append, hkt]; simp)) ty25 ty25 ty5 (by decide) (by omega) (by omega) (by decide)) ?_
      refine RW.opd rfl rfl (LO.assign rfl rfl) ?_
      refine RW.nil ⟨by kernel_rfl, ?_⟩
      rw [hv]
      refine W.frz1 (t := 6) rfl rfl (cs := bytesC (l.take k ++ [v]) ++ bytesC (l.drop k)) (by rw [← bytesC_app]; exact bytes_tk (l := l.take k ++ [v] ++ l.drop k) (by rw [List.length_append, List.length_append, hkt, hkd]; rfl)) (bytesC_pure _) ?_
      repeat (refine W.seq ?_)
      refine W.ret ⟨.inl rfl, _, mt, (RVs.cons (RV.tmp rfl) RVs.nil), (by (repeat' (first | exact all_mt | refine all_up ?_ ?_)) <;> rfl), ?_⟩
      exact ⟨by rw [List.length_append, List.length_append, hkt, hkd]; rfl, rfl⟩
    · refine ⟨l.take k, ⟨hB.take k, by omega⟩, ?_⟩
      refine AFn.eq Try.func19 rfl rfl (Nat.le_of_ble_eq_true rfl) ?_
      repeat (refine W.seq ?_)
      refine W.region 0 1 (by decide) rfl rfl ?_
      refine RW.opd rfl rfl (LO.assign rfl rfl) ?_
      refine RW.nil ?_
      repeat (refine W.seq ?_)
      refine W.region 5 8 (by decide) rfl rfl ?_
      refine RW.opd rfl rfl (LO.move rfl rfl) ?_
      refine RW.opd rfl rfl (LO.append_nil rfl rfl (SrcAV.isl rfl rfl (by simp [bytesC_len])) ty25 ty25 ty5 (by decide) (by omega) (by omega) (by decide)) ?_
      refine RW.opd rfl rfl (LO.assign rfl rfl) ?_
      refine RW.nil ?_
      repeat (refine W.seq ?_)
      refine W.region 12 15 (by decide) rfl rfl ?_
      refine RW.opd rfl rfl (LO.move rfl rfl) ?_
      refine RW.opd rfl rfl (LO.len rfl rfl ty25) ?_
      refine RW.opd rfl rfl (LO.eql rfl rfl rfl) ?_
      refine RW.nil ?_
      repeat (refine W.seq ?_)
      refine W.cond_f rfl (by first | rfl | assumption) ?_
      refine W.skip ?_
      repeat (refine W.seq ?_)
      refine W.region 27 32 (by decide) rfl rfl ?_
      refine RW.opd rfl rfl (LO.move rfl rfl) ?_
      refine RW.opd rfl rfl (LO.move rfl rfl) ?_
      refine RW.opd rfl rfl (LO.len rfl rfl ty25) ?_
      refine RW.opd rfl rfl (LO.call0 (fr := []) rfl rfl (hm1) fok17 (.cons rfl (.pure rfl) (.cons rfl (.pure rfl) .nil)) rfl) ?_
      refine RW.opd rfl rfl (LO.assign rfl rfl) ?_
      refine RW.nil ?_
      repeat (refine W.seq ?_)
      refine W.region 36 39 (by decide) rfl rfl ?_
      refine RW.opd rfl rfl (LO.move rfl rfl) ?_
      refine RW.opd rfl rfl (LO.quo rfl rfl rfl (by decide)) ?_
      refine RW.opd rfl rfl (LO.call0 (fr := []) rfl rfl (hm2) fok17 (.cons rfl (.pure rfl) (.cons rfl (.pure rfl) .nil)) rfl) ?_
      refine RW.nil ?_
      repeat (refine W.seq ?_)
      refine W.block ?_
      repeat (refine W.seq ?_)
      refine W.region 43 45 (by decide) rfl rfl ?_
      refine RW.opd rfl rfl (LO.eql rfl rfl rfl) ?_
      refine RW.opd rfl rfl (LO.assign rfl rfl) ?_
      refine RW.nil ?_
      repeat (refine W.seq ?_)
      refine W.cond_f rfl (rfl) ?_
      repeat (refine W.seq ?_)
      refine W.region 59 61 (by decide) rfl rfl ?_
      refine RW.opd rfl rfl (LO.eql rfl rfl rfl) ?_
      refine RW.opd rfl rfl (LO.assign rfl rfl) ?_
      refine RW.nil ?_
      repeat (refine W.seq ?_)
      refine W.cond_f rfl (rfl) ?_
      repeat (refine W.seq ?_)
      refine W.region 78 80 (by decide) rfl rfl ?_
      refine RW.opd rfl rfl (LO.eql rfl rfl rfl) ?_
      refine RW.opd rfl rfl (LO.assign rfl rfl) ?_
      refine RW.nil ?_
      repeat (refine W.seq ?_)
      refine W.cond_f rfl (rfl) ?_
      repeat (refine W.seq ?_)
      refine W.region 101 105 (by decide) rfl rfl ?_
      refine RW.opd rfl rfl (LO.move rfl rfl) ?_
      refine RW.opd rfl rfl (LO.move rfl rfl) ?_
      refine RW.opd rfl rfl (LO.slice rfl rfl Bnd.no (Bnd.at rfl rfl) ?_ ?_ ty25 ty5) ?_; (· (first | omega | decide | assumption | fail | (simp; done) | (simp; omega))); (· (first | omega | decide | assumption | fail | (simp; done) | (simp; omega)))
      refine RW.opd rfl rfl (LO.assign rfl rfl) ?_
      refine RW.nil ?_
      refine W.frz1 (t := 6) rfl rfl (by_take (by omega)) (bytesC_pure _) ?_
      repeat (refine W.seq ?_)
      refine W.ret ⟨.inl rfl, _, mt, (RVs.cons (RV.tmp rfl) RVs.nil), (by (repeat' (first | exact all_mt | refine all_up ?_ ?_)) <;> rfl), ?_⟩
      exact ⟨by rw [hkt]; rfl, rfl⟩
end Go.Proofs.Ytoijkcnefnmbjaa
