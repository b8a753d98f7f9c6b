/-
  Packets: copies of bytes, a hop, and when two packets are the same.
-/
import Derived.Test.YtcdfmgkcadpgbaaI
import Derived.Test.YtcdfmgkcadpgbaaK
import Derived.Laws.BytesArg
namespace Go.Proofs.Ytcdfmgkcadpgbaa
open Go.RowKit

/-- v is a slice that reads as the bytes bs -/
def PData (w : World) (v : Value) (bs : List Int) : Prop := ∃ A c, v = .slice A bs.length c ∧ Reads w w.heap.size 1 A bs.length (bytesV bs)
theorem PData.ext {w w' : World} {v : Value} {bs : List Int} (h : PData w v bs) (e : Ext w w') : PData w' v bs := by
  obtain ⟨A, c, hv, hr⟩ := h
  exact ⟨A, c, hv, hr.ext e⟩
theorem PData.of_own {w : World} {base : Nat} {v : Value} {bs : List Int} (h : w.ownsRow base 5 1 v bs.length (bytesV bs)) : PData w v bs := by
  rcases h.2 with ⟨rfl, hn⟩ | ⟨g, cap, cur, rfl, _⟩
  · refine ⟨none, 0, by rw [hn], ?_⟩
    have : bs = [] := List.eq_nil_of_length_eq_zero hn
    subst this
    exact Reads.none_
  · exact ⟨_, _, rfl, Reads.of_own h⟩
theorem str_any {w : World} {B c : Nat} {A : Option Addr} {bs : List Int} (h : Reads w B 1 A bs.length (bytesV bs)) : (convert 22 9 (.slice A bs.length c)).run Try.prog w = .ok (.string (strOfNums bs)) w := by
  rcases Nat.eq_zero_or_pos bs.length with h0 | h0
  · have : bs = [] := List.eq_nil_of_length_eq_zero h0
    subst this
    rcases A with _ | ⟨b, off, s⟩
    · exact run_convert_bytes_nil (P := Try.prog) w 22 5 Try.underlying22 Try.underlying5 _ _ _ Try.underlying9
    · rw [run_convert_bytes_string w _ _ 5 _ _ _ Try.underlying22 Try.underlying5 Try.underlying9]
      refine (run_bytesToString (P := Try.prog) w ⟨b, off, s⟩ 0 c [] ?_).trans rfl
      rfl
  · obtain ⟨b, off, rfl, _, hc⟩ := h.2 h0
    refine run_convert_bytes_arg (P := Try.prog) w 22 5 Try.underlying22 Try.underlying5 b off _ c bs rfl (fun i hi => ?_) _ Try.underlying9
    refine hc i _ ?_
    simp only [bytesV, List.getElem?_map]
    rw [List.getElem?_eq_getElem hi]
    simp [List.getD, hi]

theorem own_empty (w : World) (t : TypeId) : (w.alloc (.cells #[] t)).ownsRow w.heap.size t 1 (.slice (some ⟨w.heap.size, 0, none⟩) 0 0) 0 (bytesV []) :=
  ⟨rfl, .inr ⟨w.heap.size, 0, #[], rfl, Nat.le_refl _, heap_alloc_new w _, Nat.le_refl _, by unfold maxLen; omega, rfl, rfl⟩⟩
set_option maxHeartbeats 1000000 in
theorem clone_any (bs : List Int) (v : Value) (w : World) (hl : bs.length ≤ 1500) (h : PData w v bs) :
    Calls Try.prog 31 #[v] w fun e w' => ∃ v', e = .returned v' ∧ w'.ownsRow w.heap.size 5 1 v' bs.length (bytesV bs) ∧ Ext w w' := by
  obtain ⟨A, c, rfl, hr⟩ := h
  have hnil := fun w n => Lib.run_eql_slice_nil (P := Try.prog) w 22 5 A n c 0 0 Try.underlying22
  rcases A with _ | a
  · have h0 : bs.length = 0 := by
      rcases Nat.eq_zero_or_pos bs.length with h0 | h0
      · exact h0
      · obtain ⟨b, off, h, _⟩ := hr.2 h0; cases h
    have : bs = [] := List.eq_nil_of_length_eq_zero h0
    subst this
    go_enter Try.func31, Try.ntmps31
    go_wp2
    go_ret
    exact ⟨_, rfl, World.ownsRow_nil _ _ _ _, Ext.refl _⟩
  · go_enter Try.func31, Try.ntmps31
    go_wp2_with (at_builtin; refine app_u8 rfl _ _ rfl w.heap.size (.slice (some ⟨w.heap.size, 0, none⟩) 0 0) 0 [] rfl (own_empty w 5) w.heap.size (some a) bs.length c bs rfl (hr.alloc (Nat.le_refl _) _) (by omega) (by simp) ?_; intro v6 w6 hown6 hg6 hb6)
    simp only [List.nil_append, Nat.zero_add] at hown6
    go_ret
    exact ⟨_, rfl, hown6, ((Ext.refl w).alloc _).grown hg6 (by simp) (by intro k hk; injection hk with hk; exact Nat.le_of_eq hk)⟩

/-- the TTL behind a hop -/
def hopT (t : Int) : Int := if t ≤ 1 then t else t - 1
theorem own_slice {w : World} {base e size n : Nat} {v : Value} {xs : List Value} (h : w.ownsRow base e size v n xs) : ∃ A n c, v = .slice A n c := by
  rcases h.2 with ⟨e, _⟩ | ⟨k, cap, c, e, _⟩
  · exact ⟨_, _, _, e⟩
  · exact ⟨_, _, _, e⟩
/-- a packet result in a cell, beside a temporary -/
theorem results_pk {fn : Func} {q u : Tmp} (h : fn.results = #[.cell q 34, .tmp u]) {tmps : Array Value} {w : World} {k : Nat} {s d : Ad} {p t : Int} {v y : Value}
    (hs : tmps.getD q undef = .pointer (some ⟨k, 0, none⟩)) (hb : Blk w k 34 (pkC s d p t v)) (hu : tmps.getD u undef = y) :
    (results fn tmps).run Try.prog w = .ok (.tuple #[pkV s d p t v, y]) w := by
  have hl := run_loadVar_row (P := Try.prog) w k 34 34 (pkC s d p t v) (0, 0) _ hb Try.underlying34 rfl (by kernel_rfl)
  rw [results_cell_tmp h, hu, hs]
  simp [asAddr, hl, Result.andThen, pkV, pkC]

theorem own_apart {w w' : World} {base n k : Nat} {t : TypeId} {cs : Array Value} {v : Value} {xs : List Value} (h : w.ownsRow base 5 1 v n xs) (hk : Keep (· = k) w w') (hb : Blk w k t cs) (ht : 5 ≠ t) : w'.ownsRow base 5 1 v n xs :=
  own_keep h hk fun j hj e => own_blk_ne h hb ht (by rw [hj, e])
theorem Ext.keep {w w1 w2 : World} {k : Nat} (h : Ext w w1) (hk : Keep (· = k) w1 w2) (hw : w.heap.size ≤ k) : Ext w w2 :=
  ⟨hk.os.trans h.os, hk.tape.trans h.tape, hk.output.trans h.output, Nat.le_trans h.size hk.size, fun i hi => (hk.block i (Nat.lt_of_lt_of_le hi h.size) (by omega)).trans (h.block i hi)⟩

/-- what a hop leaves -/
def HopPost (s d : Ad) (p t : Int) (bs : List Int) (w : World) (e : Ending) (w' : World) : Prop :=
  ∃ v', e = .returned (.tuple #[pkV s d p (hopT t) v', .bool (decide (1 < t))]) ∧ w'.ownsRow w.heap.size 5 1 v' bs.length (bytesV bs) ∧ Ext w w'
/-- the end of a hop: data and TTL replaced in block k0, then all of it laid into block k1 -/
theorem hop_end {fn : Func} (hfn : fn.results = #[.cell 2 34, .tmp 3]) {w w1 w2 : World} {k0 k1 : Nat} {s d : Ad} {p t t2 : Int} {bs : List Int} {A A1 : Option Addr} {n c n1 c1 : Nat} {b : Bool} {a : Act}
    (h0 : Blk w1 k0 34 (pkC s d p t (.slice A n c))) (h1 : Blk w1 k1 34 zero9) (hw : Ext w w1) (hk0 : w.heap.size ≤ k0) (hk1 : w.heap.size ≤ k1) (h01 : ¬ k1 = k0)
    (hk : Keep (· = k0) w1 w2) (hown : w1.ownsRow w.heap.size 5 1 (.slice A1 n1 c1) bs.length (bytesV bs)) (ht : t2 = hopT t) (hb : b = decide (1 < t))
    (hs : a.tmps.getD 2 undef = .pointer (some ⟨k1, 0, none⟩)) (hy : a.tmps.getD 3 undef = .bool b) (hdf : a.defers = []) :
    bodyPost Try.prog fn (HopPost s d p t bs w) .ret a
      (set9 w2 k1 (.bool s.v6) (.int .u64 s.hi) (.int .u64 s.lo) (.bool d.v6) (.int .u64 d.hi) (.int .u64 d.lo) (.int .i64 p) (.int .i64 t2) (.slice A1 n1 c1)) := by
  have hk2 := keep_set9 (w := w2) (k := k1) (X := (· = k1)) rfl (.bool s.v6) (.int .u64 s.hi) (.int .u64 s.lo) (.bool d.v6) (.int .u64 d.hi) (.int .u64 d.lo) (.int .i64 p) (.int .i64 t2) (.slice A1 n1 c1)
  have h1' := h1.kept hk h01
  have hb9 := Blk.set9 h1' (.bool s.v6) (.int .u64 s.hi) (.int .u64 s.lo) (.bool d.v6) (.int .u64 d.hi) (.int .u64 d.lo) (.int .i64 p) (.int .i64 t2) (.slice A1 n1 c1)
  refine bodyPost_ret (results_pk (s := s) (d := d) (p := p) (t := t2) hfn hs hb9 hy) hdf ⟨_, ?_, own_apart (own_apart hown hk h0 (by decide)) hk2 h1' (by decide), (hw.keep hk hk0).keep hk2 hk1⟩
  rw [ht, hb]

set_option maxHeartbeats 2000000 in
theorem hop_any (s d : Ad) (p t : Int) (bs : List Int) (v : Value) (w : World) (hl : bs.length ≤ 1500) (ht : -9223372036854775808 ≤ t ∧ t ≤ 9223372036854775807) (h : PData w v bs) :
    Calls Try.prog 15 #[pkV s d p t v] w (HopPost s d p t bs w) := by
  obtain ⟨A, c, rfl, hr⟩ := id h
  have hp1 := h.ext (((Ext.refl w).alloc (.cells (pkC s d p t (.slice A bs.length c)) 34)).alloc (.cells zero9 34))
  have hk0 : Blk ((w.alloc (.cells (pkC s d p t (.slice A bs.length c)) 34)).alloc (.cells zero9 34)) w.heap.size 34 (pkC s d p t (.slice A bs.length c)) := (Blk.new _ _ _).alloc _
  have hk1 : Blk ((w.alloc (.cells (pkC s d p t (.slice A bs.length c)) 34)).alloc (.cells zero9 34)) (w.heap.size + 1) 34 zero9 := by
    have := Blk.new (w.alloc (.cells (pkC s d p t (.slice A bs.length c)) 34)) 34 zero9
    simpa using this
  have he0 : Ext w ((w.alloc (.cells (pkC s d p t (.slice A bs.length c)) 34)).alloc (.cells zero9 34)) := ((Ext.refl w).alloc _).alloc _
  have hfn : Try.f15.results = #[.cell 2 34, .tmp 3] := rfl
  unfold pkV
  go_enter Try.func15, Try.ntmps15
  go_wp2_with fail
  refine (clone_any bs _ _ hl hp1).mono ?_
  rintro e w1 ⟨v1, rfl, hd1, he1⟩
  have hk0' := hk0.below he1 hk0.lt
  have hk1' := hk1.below he1 hk1.lt
  have he2 := he0.trans he1
  have hd2 := own_base (base' := w.heap.size) hd1 (by simp; omega)
  clear hp1 hk0 hk1 he0 he1 hd1
  obtain ⟨A1, n1, c1, rfl⟩ := own_slice hd2
  obtain ⟨a0, a1, a2, a3, a4, a5, a6, a7, a8, af⟩ := pk_cells hk0'
  obtain ⟨e0, e1, e2, e3, e4, e5, e6, e7, e8, ef⟩ := pk_cells (s := ⟨false, 0, 0⟩) (d := ⟨false, 0, 0⟩) (p := 0) (t := 0) (v := .slice none 0 0) hk1'
  have HD := Lib.hid hd2
  have H0 := Lib.hid hk0'
  have H1 := Lib.hid hk1'
  have HE := Lib.hid he2
  have HF := Lib.hid hfn
  clear hd2 hk0' hk1' h hr he2 hfn
  have n01 : ¬ w.heap.size + 1 = w.heap.size := by omega
  by_cases hc : t ≤ 1
  · have hc4 : decide (t ≤ 1) = true := by simpa using hc
    go_wp2_with fail
    exact hop_end HF.out H0.out H1.out HE.out (Nat.le_refl _) (Nat.le_succ _) n01 (keep_one (p := ⟨w.heap.size, 8, none⟩) _) HD.out (by unfold hopT; rw [if_pos (by omega)]) (decide_eq_false (by omega)).symm rfl rfl rfl
  · have hc4 : decide (t ≤ 1) = false := by simpa using hc
    go_wp2_with fail
    exact hop_end HF.out H0.out H1.out HE.out (Nat.le_refl _) (Nat.le_succ _) n01 (((Keep.refl (· = w.heap.size) w1).setCell (p := ⟨w.heap.size, 8, none⟩) (.inr rfl) _).setCell (p := ⟨w.heap.size, 7, none⟩) (.inr rfl) _) HD.out (by unfold hopT; rw [if_neg (by omega)]) (decide_eq_true (by omega)).symm rfl rfl rfl

theorem rhop_ext {w w0 w1 : World} (h : Ext w w0) (hg : w0.grownBy w1 none) : Ext w w1 := h.grown hg h.size (by intro k hk; cases hk)
set_option maxHeartbeats 2000000 in
theorem rhop_any (s d : Ad) (p t : Int) (bs : List Int) (v : Value) (w : World) (hl : bs.length ≤ 1500) (ht : -9223372036854775808 ≤ t ∧ t ≤ 9223372036854775807) (h : PData w v bs) :
    Calls Try.prog 16 #[pkV s d p t v] w (HopPost s d p t bs w) := by
  obtain ⟨A, c, rfl, hr⟩ := id h
  have hp1 := h.ext (((Ext.refl w).alloc (.cells (pkC s d p t (.slice A bs.length c)) 34)).alloc (.cells zero9 34))
  have hk0 : Blk ((w.alloc (.cells (pkC s d p t (.slice A bs.length c)) 34)).alloc (.cells zero9 34)) w.heap.size 34 (pkC s d p t (.slice A bs.length c)) := (Blk.new _ _ _).alloc _
  have hk1 : Blk ((w.alloc (.cells (pkC s d p t (.slice A bs.length c)) 34)).alloc (.cells zero9 34)) (w.heap.size + 1) 34 zero9 := by
    have := Blk.new (w.alloc (.cells (pkC s d p t (.slice A bs.length c)) 34)) 34 zero9
    simpa using this
  have he0 : Ext w ((w.alloc (.cells (pkC s d p t (.slice A bs.length c)) 34)).alloc (.cells zero9 34)) := ((Ext.refl w).alloc _).alloc _
  have hfn : Try.f16.results = #[.cell 2 34, .tmp 3] := rfl
  have HF := Lib.hid hfn
  clear hfn
  have n01 : ¬ w.heap.size + 1 = w.heap.size := by omega
  unfold pkV
  by_cases hc : t ≤ 1
  · have hc4 : decide (t ≤ 1) = true := by simpa using hc
    go_enter Try.func16, Try.ntmps16
    go_wp2_with (at_builtin; refine app_u8 rfl _ _ rfl w.heap.size (.slice none 0 0) 0 [] rfl (World.ownsRow_nil _ _ _ _) w.heap.size A bs.length c bs rfl ((hr.alloc (Nat.le_refl _) _).alloc (by simp) _) (by omega) (by simp; omega) ?_; intro v1 w1 hd2 he1 hb1; simp only [List.nil_append, Nat.zero_add] at hd2; have hk0' := hk0.grown he1 (by intro e; cases e); have hk1' := hk1.grown he1 (by intro e; cases e); have he2 := rhop_ext he0 he1; obtain ⟨A1, n1, c1, rfl⟩ := own_slice hd2; clear hp1 hk0 hk1 he0 he1 hb1; obtain ⟨a0, a1, a2, a3, a4, a5, a6, a7, a8, af⟩ := pk_cells hk0'; obtain ⟨e0, e1, e2, e3, e4, e5, e6, e7, e8, ef⟩ := pk_cells (s := ⟨false, 0, 0⟩) (d := ⟨false, 0, 0⟩) (p := 0) (t := 0) (v := .slice none 0 0) hk1'; have HD := Lib.hid hd2; have H0 := Lib.hid hk0'; have H1 := Lib.hid hk1'; have HE := Lib.hid he2; clear hd2 hk0' hk1' h hr he2)
    exact hop_end HF.out H0.out H1.out HE.out (Nat.le_refl _) (Nat.le_succ _) n01 (keep_one (p := ⟨w.heap.size, 8, none⟩) _) HD.out (by unfold hopT; rw [if_pos (by omega)]) (decide_eq_false (by omega)).symm rfl rfl rfl
  · have hc4 : decide (t ≤ 1) = false := by simpa using hc
    go_enter Try.func16, Try.ntmps16
    go_wp2_with (at_builtin; refine app_u8 rfl _ _ rfl w.heap.size (.slice none 0 0) 0 [] rfl (World.ownsRow_nil _ _ _ _) w.heap.size A bs.length c bs rfl ((hr.alloc (Nat.le_refl _) _).alloc (by simp) _) (by omega) (by simp; omega) ?_; intro v1 w1 hd2 he1 hb1; simp only [List.nil_append, Nat.zero_add] at hd2; have hk0' := hk0.grown he1 (by intro e; cases e); have hk1' := hk1.grown he1 (by intro e; cases e); have he2 := rhop_ext he0 he1; obtain ⟨A1, n1, c1, rfl⟩ := own_slice hd2; clear hp1 hk0 hk1 he0 he1 hb1; obtain ⟨a0, a1, a2, a3, a4, a5, a6, a7, a8, af⟩ := pk_cells hk0'; obtain ⟨e0, e1, e2, e3, e4, e5, e6, e7, e8, ef⟩ := pk_cells (s := ⟨false, 0, 0⟩) (d := ⟨false, 0, 0⟩) (p := 0) (t := 0) (v := .slice none 0 0) hk1'; have HD := Lib.hid hd2; have H0 := Lib.hid hk0'; have H1 := Lib.hid hk1'; have HE := Lib.hid he2; clear hd2 hk0' hk1' h hr he2)
    exact hop_end HF.out H0.out H1.out HE.out (Nat.le_refl _) (Nat.le_succ _) n01 (((Keep.refl (· = w.heap.size) w1).setCell (p := ⟨w.heap.size, 8, none⟩) (.inr rfl) _).setCell (p := ⟨w.heap.size, 7, none⟩) (.inr rfl) _) HD.out (by unfold hopT; rw [if_neg (by omega)]) (decide_eq_true (by omega)).symm rfl rfl rfl

/-- two packets with the same fields and the same bytes -/
theorem same_true (s d : Ad) (p t : Int) (bs : List Int) (v v' : Value) (w : World) (h : PData w v bs) (h' : PData w v' bs) :
    Calls Try.prog 17 #[pkV s d p t v, pkV s d p t v'] w fun e w' => e = .returned (.bool true) ∧ Ext w w' := by
  obtain ⟨A, c, rfl, hr⟩ := h
  obtain ⟨A', c', rfl, hr'⟩ := h'
  have k1 := fun o o' => str_any (c := c) ((hr.alloc (Nat.le_refl _) o).alloc (by simp) o')
  have k2 := fun o o' => str_any (c := c') ((hr'.alloc (Nat.le_refl _) o).alloc (by simp) o')
  clear hr hr'
  unfold pkV
  go_enter Try.func17, Try.ntmps17
  go_wp2_with fail
  go_ret
  exact ⟨rfl, ((Ext.refl w).alloc _).alloc _⟩

end Go.Proofs.Ytcdfmgkcadpgbaa
