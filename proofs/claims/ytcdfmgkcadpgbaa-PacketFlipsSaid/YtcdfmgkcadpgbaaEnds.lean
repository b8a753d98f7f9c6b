/-
  The two addresses of a packet, read.
-/
import Derived.Test.YtcdfmgkcadpgbaaGet
namespace Go.Proofs.Ytcdfmgkcadpgbaa
open Go.RowKit

theorem Reads.take {w : World} {B n : Nat} {A : Option Addr} {bs : List Int} (h : Reads w B 1 A n (bytesV bs)) {k : Nat} (hk : k ≤ n) : Reads w B 1 A k (bytesV (bs.take k)) := by
  have hl := h.1
  rw [bytesV_len] at hl
  refine ⟨by rw [bytesV_len, List.length_take]; omega, fun hp => ?_⟩
  obtain ⟨b, off, e, hb, hc⟩ := h.2 (by omega)
  refine ⟨b, off, e, hb, fun j u hu => hc j u ?_⟩
  simp only [bytesV, List.map_take, List.getElem?_take] at hu
  split at hu
  · exact hu
  · cases hu
theorem Reads.from {w : World} {B n b off : Nat} {bs : List Int} (h : Reads w B 1 (some ⟨b, off, none⟩) n (bytesV bs)) {k : Nat} (hk : k < n) : Reads w B 1 (some ⟨b, off + k, none⟩) (n - k) (bytesV (bs.drop k)) := by
  have hl := h.1
  rw [bytesV_len] at hl
  refine ⟨by rw [bytesV_len, List.length_drop]; omega, fun hp => ?_⟩
  obtain ⟨b', off', e, hb, hc⟩ := h.2 (by omega)
  injection e with e
  injection e with e1 e2
  subst e1 e2
  refine ⟨b, off + k, rfl, hb, fun j u hu => ?_⟩
  rw [Nat.add_assoc]
  refine hc (k + j) u ?_
  simp only [bytesV, List.map_drop, List.getElem?_drop] at hu
  exact hu

theorem results_two {fn : Func} {q u : Tmp} (h : fn.results = #[.cell q 32, .cell u 32]) {tmps : Array Value} {w : World} {k m : Nat} {a0 a1 a2 b0 b1 b2 : Value}
    (hs : tmps.getD q undef = .pointer (some ⟨k, 0, none⟩)) (hb : Blk w k 32 #[a0, a1, a2]) (hu : tmps.getD u undef = .pointer (some ⟨m, 0, none⟩)) (hb2 : Blk w m 32 #[b0, b1, b2]) :
    (results fn tmps).run Try.prog w = .ok (.tuple #[.agg #[a0, a1, a2], .agg #[b0, b1, b2]]) w := by
  have hl := run_loadVar_row (P := Try.prog) w k 32 32 #[a0, a1, a2] (0, 0) _ hb Try.underlying32 rfl (by kernel_rfl)
  have hl2 := run_loadVar_row (P := Try.prog) w m 32 32 #[b0, b1, b2] (0, 0) _ hb2 Try.underlying32 rfl (by kernel_rfl)
  have hs' : tmps[q]?.getD undef = .pointer (some ⟨k, 0, none⟩) := by simpa using hs
  have hu' : tmps[u]?.getD undef = .pointer (some ⟨m, 0, none⟩) := by simpa using hu
  simp [results, h, hs', hu', asAddr, hl, hl2, Sem.run_bind, Result.andThen]

/-- what reading two addresses leaves -/
def EndsPost (n : Nat) (bs : List Int) (w : World) (e : Ending) (w' : World) : Prop :=
  e = .returned (.tuple #[.agg #[.bool (decide (n / 2 = 16)), .int .u64 (fb (bs.take (n / 2))).1, .int .u64 (fb (bs.take (n / 2))).2], .agg #[.bool (decide (n / 2 = 16)), .int .u64 (fb (bs.drop (n / 2))).1, .int .u64 (fb (bs.drop (n / 2))).2]]) ∧ Ext w w'
def set3 (w : World) (k : Nat) (x y z : Value) : World := ((w.setCell ⟨k, 0, none⟩ x).setCell ⟨k, 1, none⟩ y).setCell ⟨k, 2, none⟩ z
theorem ends_end {n : Nat} {bs : List Int} {w w3 : World} {k0 k1 : Nat} {a : Act} {x1 x2 x3 y1 y2 y3 d1 d2 d3 : Value} (j0 : Blk w3 k0 32 #[x1, x2, x3]) (j1 : Blk w3 k1 32 #[d1, d2, d3]) (hE : Ext w w3) (hk0 : w.heap.size ≤ k0) (hk1 : w.heap.size ≤ k1) (hne : ¬ k1 = k0)
    (hs : a.tmps.getD 2 undef = .pointer (some ⟨k0, 0, none⟩)) (hu : a.tmps.getD 3 undef = .pointer (some ⟨k1, 0, none⟩)) (hdf : a.defers = [])
    (hv : (.tuple #[.agg #[x1, x2, x3], .agg #[y1, y2, y3]] : Value) = .tuple #[.agg #[.bool (decide (n / 2 = 16)), .int .u64 (fb (bs.take (n / 2))).1, .int .u64 (fb (bs.take (n / 2))).2], .agg #[.bool (decide (n / 2 = 16)), .int .u64 (fb (bs.drop (n / 2))).1, .int .u64 (fb (bs.drop (n / 2))).2]]) :
    bodyPost Try.prog Try.f44 (EndsPost n bs w) .ret a (set3 (set3 (set3 w3 k1 y1 y2 y3) k0 x1 x2 x3) k1 y1 y2 y3).drew := by
  have e1 := j1.set3 y1 y2 y3
  have e0 := ((j0.far (p := ⟨k1, 0, none⟩) (fun e => hne e.symm) y1).far (p := ⟨k1, 1, none⟩) (fun e => hne e.symm) y2).far (p := ⟨k1, 2, none⟩) (fun e => hne e.symm) y3
  have g0 := e0.set3 x1 x2 x3
  have g1 := ((e1.far (p := ⟨k0, 0, none⟩) hne x1).far (p := ⟨k0, 1, none⟩) hne x2).far (p := ⟨k0, 2, none⟩) hne x3
  have l1 := g1.set3 y1 y2 y3
  have l0 := ((g0.far (p := ⟨k1, 0, none⟩) (fun e => hne e.symm) y1).far (p := ⟨k1, 1, none⟩) (fun e => hne e.symm) y2).far (p := ⟨k1, 2, none⟩) (fun e => hne e.symm) y3
  have hE1 : Ext w (set3 w3 k1 y1 y2 y3) := hE.keep ((((Keep.refl (· = k1) w3).setCell (p := ⟨k1, 0, none⟩) (.inr rfl) y1).setCell (p := ⟨k1, 1, none⟩) (.inr rfl) y2).setCell (p := ⟨k1, 2, none⟩) (.inr rfl) y3) hk1
  have hE2 : Ext w (set3 (set3 w3 k1 y1 y2 y3) k0 x1 x2 x3) := hE1.keep ((((Keep.refl (· = k0) _).setCell (p := ⟨k0, 0, none⟩) (.inr rfl) x1).setCell (p := ⟨k0, 1, none⟩) (.inr rfl) x2).setCell (p := ⟨k0, 2, none⟩) (.inr rfl) x3) hk0
  have hE3 : Ext w (set3 (set3 (set3 w3 k1 y1 y2 y3) k0 x1 x2 x3) k1 y1 y2 y3) := hE2.keep ((((Keep.refl (· = k1) _).setCell (p := ⟨k1, 0, none⟩) (.inr rfl) y1).setCell (p := ⟨k1, 1, none⟩) (.inr rfl) y2).setCell (p := ⟨k1, 2, none⟩) (.inr rfl) y3) hk1
  refine bodyPost_ret (results_two rfl hs l0.drew hu l1.drew) hdf ⟨by rw [hv], hE3.drew⟩

set_option maxHeartbeats 2000000 in
theorem ends_any (b off n c : Nat) (bs : List Int) (w : World) (hB : IsB bs) (hr : Reads w w.heap.size 1 (some ⟨b, off, none⟩) n (bytesV bs)) (hn : n = 8 ∨ n = 32) (hc : n ≤ c) :
    Calls Try.prog 44 #[.slice (some ⟨b, off, none⟩) n c] w (EndsPost n bs w) := by
  rcases hn with rfl | rfl
  · have k0 : Blk ((w.alloc (.cells #[.bool false, .int .u64 0, .int .u64 0] 32)).alloc (.cells #[.bool false, .int .u64 0, .int .u64 0] 32)) w.heap.size 32 #[.bool false, .int .u64 0, .int .u64 0] := (Blk.new _ _ _).alloc _
    have k1 : Blk ((w.alloc (.cells #[.bool false, .int .u64 0, .int .u64 0] 32)).alloc (.cells #[.bool false, .int .u64 0, .int .u64 0] 32)) (w.heap.size + 1) 32 #[.bool false, .int .u64 0, .int .u64 0] := by
      have := Blk.new (w.alloc (.cells #[.bool false, .int .u64 0, .int .u64 0] 32)) 32 #[.bool false, .int .u64 0, .int .u64 0]
      simpa using this
    have hE0 : Ext w ((w.alloc (.cells #[.bool false, .int .u64 0, .int .u64 0] 32)).alloc (.cells #[.bool false, .int .u64 0, .int .u64 0] 32)) := ((Ext.refl w).alloc _).alloc _
    have hc1 : (8 : Int) ≤ (c : Int) := by omega
    have hc2 : ¬ c = 4 := by omega
    have r0 := (hr.below hE0).take (k := 4) (by omega)
    go_enter Try.func44, Try.ntmps44
    go_wp2_with fail
    refine (afrom_any _ 4 _ w.heap.size (bs.take 4) _ (fun y hy => hB y (List.mem_of_mem_take hy)) (by simp; omega) r0 (by omega)).mono ?_
    rintro e w2 ⟨rfl, hb2⟩
    have k0' := k0.below hb2 k0.lt
    have k1' := k1.below hb2 k1.lt
    have hE2 := hE0.trans hb2
    have hr2 := (hr.below hE2).from (k := 4) (by omega)
    have hsz : w.heap.size + 1 < w2.heap.size := k1'.lt
    clear k0 k1 hE0 hb2 r0
    have a0 : w2.cell? ⟨w.heap.size, 0, none⟩ = some (.bool false) := k0'.cell 0
    have a1 : w2.cell? ⟨w.heap.size, 1, none⟩ = some (.int .u64 0) := k0'.cell 1
    have a2 : w2.cell? ⟨w.heap.size, 2, none⟩ = some (.int .u64 0) := k0'.cell 2
    have f0 := k0'.frozen
    obtain ⟨x, Hx⟩ : ∃ x, Hid (fb (bs.take 4) = x) := ⟨_, rfl⟩
    simp only [Hx.out]
    go_wp2_with fail
    refine (afrom_any _ 4 _ w.heap.size (bs.drop 4) _ (fun y hy => hB y (List.mem_of_mem_drop hy)) (by simp; omega) (((hr2.setCell (p := ⟨w.heap.size, 0, none⟩) (Nat.le_refl _) _).setCell (p := ⟨w.heap.size, 1, none⟩) (Nat.le_refl _) _).setCell (p := ⟨w.heap.size, 2, none⟩) (Nat.le_refl _) _) (by omega)).mono ?_
    rintro e w3 ⟨rfl, hb3⟩
    have hne : ¬ w.heap.size + 1 = w.heap.size := by omega
    have j0 := (k0'.set3 (.bool false) (.int .u64 x.1) (.int .u64 x.2)).below hb3 (by simp; omega)
    have j1 := (((k1'.far (p := ⟨w.heap.size, 0, none⟩) hne (.bool false)).far (p := ⟨w.heap.size, 1, none⟩) hne (.int .u64 x.1)).far (p := ⟨w.heap.size, 2, none⟩) hne (.int .u64 x.2)).below hb3 (by simp; omega)
    have hE3 : Ext w w3 := Below.trans ((((Keep.refl (· = w.heap.size) w2).setCell (p := ⟨w.heap.size, 0, none⟩) (.inr rfl) _).setCell (p := ⟨w.heap.size, 1, none⟩) (.inr rfl) _).setCell (p := ⟨w.heap.size, 2, none⟩) (.inr rfl) _ |> fun h => hE2.keep h (Nat.le_refl _)) (hb3.mono (by simp; omega))
    clear hb3 k0' k1' hr2 hr hE2 a0 a1 a2 f0
    have a0 := j0.cell 0
    have a1 := j0.cell 1
    have a2 := j0.cell 2
    have f0 := j0.frozen
    have b0 := j1.cell 0
    have b1 := j1.cell 1
    have b2 := j1.cell 2
    have f1 := j1.frozen
    obtain ⟨y, Hy⟩ : ∃ y, Hid (fb (bs.drop 4) = y) := ⟨_, rfl⟩
    simp only [Hy.out]
    have HJ0 := Lib.hid j0
    have HJ1 := Lib.hid j1
    have HE := Lib.hid hE3
    clear j0 j1 hE3
    go_wp2_with fail
    go_region
    all_goals (go_wp2_with fail)
    exact ends_end HJ0.out HJ1.out HE.out (Nat.le_refl _) (Nat.le_succ _) hne rfl rfl rfl (by rw [← Hx.out, ← Hy.out]; rfl)
  · have k0 : Blk ((w.alloc (.cells #[.bool false, .int .u64 0, .int .u64 0] 32)).alloc (.cells #[.bool false, .int .u64 0, .int .u64 0] 32)) w.heap.size 32 #[.bool false, .int .u64 0, .int .u64 0] := (Blk.new _ _ _).alloc _
    have k1 : Blk ((w.alloc (.cells #[.bool false, .int .u64 0, .int .u64 0] 32)).alloc (.cells #[.bool false, .int .u64 0, .int .u64 0] 32)) (w.heap.size + 1) 32 #[.bool false, .int .u64 0, .int .u64 0] := by
      have := Blk.new (w.alloc (.cells #[.bool false, .int .u64 0, .int .u64 0] 32)) 32 #[.bool false, .int .u64 0, .int .u64 0]
      simpa using this
    have hE0 : Ext w ((w.alloc (.cells #[.bool false, .int .u64 0, .int .u64 0] 32)).alloc (.cells #[.bool false, .int .u64 0, .int .u64 0] 32)) := ((Ext.refl w).alloc _).alloc _
    have hc1 : (32 : Int) ≤ (c : Int) := by omega
    have hc2 : ¬ c = 16 := by omega
    have r0 := (hr.below hE0).take (k := 16) (by omega)
    go_enter Try.func44, Try.ntmps44
    go_wp2_with fail
    refine (afrom_any _ 16 _ w.heap.size (bs.take 16) _ (fun y hy => hB y (List.mem_of_mem_take hy)) (by simp; omega) r0 (by omega)).mono ?_
    rintro e w2 ⟨rfl, hb2⟩
    have k0' := k0.below hb2 k0.lt
    have k1' := k1.below hb2 k1.lt
    have hE2 := hE0.trans hb2
    have hr2 := (hr.below hE2).from (k := 16) (by omega)
    have hsz : w.heap.size + 1 < w2.heap.size := k1'.lt
    clear k0 k1 hE0 hb2 r0
    have a0 : w2.cell? ⟨w.heap.size, 0, none⟩ = some (.bool false) := k0'.cell 0
    have a1 : w2.cell? ⟨w.heap.size, 1, none⟩ = some (.int .u64 0) := k0'.cell 1
    have a2 : w2.cell? ⟨w.heap.size, 2, none⟩ = some (.int .u64 0) := k0'.cell 2
    have f0 := k0'.frozen
    obtain ⟨x, Hx⟩ : ∃ x, Hid (fb (bs.take 16) = x) := ⟨_, rfl⟩
    simp only [Hx.out]
    go_wp2_with fail
    refine (afrom_any _ 16 _ w.heap.size (bs.drop 16) _ (fun y hy => hB y (List.mem_of_mem_drop hy)) (by simp; omega) (((hr2.setCell (p := ⟨w.heap.size, 0, none⟩) (Nat.le_refl _) _).setCell (p := ⟨w.heap.size, 1, none⟩) (Nat.le_refl _) _).setCell (p := ⟨w.heap.size, 2, none⟩) (Nat.le_refl _) _) (by omega)).mono ?_
    rintro e w3 ⟨rfl, hb3⟩
    have hne : ¬ w.heap.size + 1 = w.heap.size := by omega
    have j0 := (k0'.set3 (.bool true) (.int .u64 x.1) (.int .u64 x.2)).below hb3 (by simp; omega)
    have j1 := (((k1'.far (p := ⟨w.heap.size, 0, none⟩) hne (.bool true)).far (p := ⟨w.heap.size, 1, none⟩) hne (.int .u64 x.1)).far (p := ⟨w.heap.size, 2, none⟩) hne (.int .u64 x.2)).below hb3 (by simp; omega)
    have hE3 : Ext w w3 := Below.trans ((((Keep.refl (· = w.heap.size) w2).setCell (p := ⟨w.heap.size, 0, none⟩) (.inr rfl) _).setCell (p := ⟨w.heap.size, 1, none⟩) (.inr rfl) _).setCell (p := ⟨w.heap.size, 2, none⟩) (.inr rfl) _ |> fun h => hE2.keep h (Nat.le_refl _)) (hb3.mono (by simp; omega))
    clear hb3 k0' k1' hr2 hr hE2 a0 a1 a2 f0
    have a0 := j0.cell 0
    have a1 := j0.cell 1
    have a2 := j0.cell 2
    have f0 := j0.frozen
    have b0 := j1.cell 0
    have b1 := j1.cell 1
    have b2 := j1.cell 2
    have f1 := j1.frozen
    obtain ⟨y, Hy⟩ : ∃ y, Hid (fb (bs.drop 16) = y) := ⟨_, rfl⟩
    simp only [Hy.out]
    have HJ0 := Lib.hid j0
    have HJ1 := Lib.hid j1
    have HE := Lib.hid hE3
    clear j0 j1 hE3
    go_wp2_with fail
    go_region
    all_goals (go_wp2_with fail)
    exact ends_end HJ0.out HJ1.out HE.out (Nat.le_refl _) (Nat.le_succ _) hne rfl rfl rfl (by rw [← Hx.out, ← Hy.out]; rfl)

end Go.Proofs.Ytcdfmgkcadpgbaa
