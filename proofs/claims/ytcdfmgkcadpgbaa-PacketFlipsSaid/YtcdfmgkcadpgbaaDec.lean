/-
  A packet, read.
-/
import Derived.Test.YtcdfmgkcadpgbaaFour
import Derived.Deep.CutBlock
namespace Go.Proofs.Ytcdfmgkcadpgbaa
open Go.RowKit

def DecPost (bs : List Int) (w : World) (e : Ending) (w' : World) : Prop :=
  if codeD bs = 0 then ∃ v, e = .returned (.tuple #[pkV (rdP bs).s (rdP bs).d (rdP bs).p (rdP bs).t v, .int .i64 0]) ∧ w'.ownsRow w.heap.size 5 1 v (rdP bs).bs.length (bytesV (rdP bs).bs) ∧ Ext w w'
  else e = .returned (.tuple #[pkZ, .int .i64 (codeD bs)]) ∧ Ext w w'

theorem own_len {w : World} {base n : Nat} {v : Value} {bs : List Int} (h : w.ownsRow base 5 1 v n (bytesV bs)) : n = bs.length := by
  have := h.1
  rw [bytesV_len] at this
  omega
theorem four_all (b off n c : Nat) (bs : List Int) (w : World) (hB : IsB bs) (hr : Reads w w.heap.size 1 (some ⟨b, off, none⟩) n (bytesV bs)) (hc : n ≤ c) :
    Calls Try.prog 38 #[.slice (some ⟨b, off, none⟩) n c] w (FourPost n bs w) := by
  rcases Nat.lt_or_ge n 20 with h | h
  · exact four_short _ _ _ _ _ h
  · exact four_any _ _ _ _ _ _ hB hr hc h

/-- what the two readers leave: a code, and the packet if the code is 0 -/
def RdPost (C : Int) (r : Rd) (w : World) (e : Ending) (w' : World) : Prop :=
  Ext w w' ∧ ∃ (s d : Ad) (p t : Int) (A : Option Addr) (n c : Nat), e = .returned (.tuple #[pkV s d p t (.slice A n c), .int .i64 C]) ∧
    (C = 0 → (s = r.s ∧ d = r.d ∧ p = r.p ∧ t = r.t) ∧ n = r.bs.length ∧ w'.ownsRow w.heap.size 5 1 (.slice A n c) r.bs.length (bytesV r.bs))
theorem own_pd {w : World} {base : Nat} {v : Value} {bs : List Int} (h : w.ownsRow base 5 1 v bs.length (bytesV bs)) : ∃ A c, v = .slice A bs.length c := by
  obtain ⟨A, c, e, _⟩ := PData.of_own h
  exact ⟨A, c, e⟩
theorem four_rd (b off n c : Nat) (bs : List Int) (w : World) (hB : IsB bs) (hr : Reads w w.heap.size 1 (some ⟨b, off, none⟩) n (bytesV bs)) (hc : n ≤ c) :
    Calls Try.prog 38 #[.slice (some ⟨b, off, none⟩) n c] w (RdPost (code4 n bs) (rd4 bs) w) := by
  refine (four_all b off n c bs w hB hr hc).mono ?_
  intro e w' h
  unfold FourPost at h
  by_cases h0 : code4 n bs = 0
  · rw [if_pos h0] at h
    obtain ⟨v, rfl, hown, hE⟩ := h
    have hl := own_len hown
    rw [hl] at hown
    obtain ⟨A, c', rfl⟩ := own_pd hown
    rw [h0]
    exact ⟨hE, _, _, _, _, A, _, c', rfl, fun _ => ⟨⟨rfl, rfl, rfl, rfl⟩, rfl, hown⟩⟩
  · rw [if_neg h0] at h
    obtain ⟨rfl, hE⟩ := h
    exact ⟨hE, _, _, _, _, _, _, _, rfl, fun h => absurd h h0⟩
theorem six_rd (b off n c : Nat) (bs : List Int) (w : World) (hB : IsB bs) (hr : Reads w w.heap.size 1 (some ⟨b, off, none⟩) n (bytesV bs)) (hc : n ≤ c) :
    Calls Try.prog 39 #[.slice (some ⟨b, off, none⟩) n c] w (RdPost (code6 n bs) (rd6 bs) w) := by
  rcases Nat.lt_or_ge n 40 with h | h
  · refine (six_short _ n c w h).mono ?_
    rintro e w' ⟨rfl, hE⟩
    have hc6 : code6 n bs = 4 := if_pos (.inl h)
    rw [hc6]
    exact ⟨hE, _, _, _, _, _, _, _, rfl, fun h => absurd h (by decide)⟩
  · have g4 := hB.at 4
    have g5 := hB.at 5
    by_cases hx : (n : Int) < 40 + (gB bs 4 * 256 + gB bs 5)
    · refine (six_cut b off n c bs w hB hr hc h hx).mono ?_
      rintro e w' ⟨rfl, hE⟩
      have hc6 : code6 n bs = 4 := if_pos (.inr hx)
      rw [hc6]
      exact ⟨hE, _, _, _, _, _, _, _, rfl, fun h => absurd h (by decide)⟩
    · obtain ⟨m, hm⟩ : ∃ m : Nat, gB bs 4 * 256 + gB bs 5 = (m : Int) := ⟨(gB bs 4 * 256 + gB bs 5).toNat, by omega⟩
      refine (six_ok b off n c m bs w hB hr hc hm (by omega)).mono ?_
      rintro e w' ⟨v, rfl, hown, hE⟩
      have hl := own_len hown
      have hown' : w'.ownsRow w.heap.size 5 1 v ((bs.drop 40).take m).length (bytesV ((bs.drop 40).take m)) := by rw [← hl]; exact hown
      clear hown
      have hown := hown'
      obtain ⟨A, c', rfl⟩ := own_pd hown
      have hc6 : code6 n bs = 0 := if_neg (by omega)
      have hd : (rd6 bs).bs = (bs.drop 40).take m := by unfold rd6; rw [hm]; rfl
      rw [hc6]
      exact ⟨hE, _, _, _, _, A, _, c', rfl, fun _ => ⟨⟨rfl, rfl, rfl, rfl⟩, by rw [hd], by rw [hd]; exact hown⟩⟩

set_option maxHeartbeats 2000000 in
theorem dec_nil (A : Option Addr) (c : Nat) (w : World) :
    Calls Try.prog 27 #[.slice A 0 c] w (DecPost [] w) := by
  have hbl : Blk (w.alloc (.cells pkZC 34)) w.heap.size 34 pkZC := Blk.new _ _ _
  go_enter Try.func27, Try.ntmps27
  go_wp2_with fail
  exact bodyPost_ret (results_pk rfl rfl hbl rfl) rfl ⟨rfl, (Ext.refl w).alloc _⟩

theorem dec_good {bs : List Int} {w w1 : World} {r : Rd} {A : Option Addr} {c : Nat} {a : Act} (hr : rdP bs = r) (hc : codeR bs = 0) (hv : r.valid = true) (hb : Blk w1 w.heap.size 34 pkZC) (hown : w1.ownsRow (w.heap.size + 1) 5 1 (.slice A r.bs.length c) r.bs.length (bytesV r.bs)) (hE : Ext w w1)
    (hs : a.tmps.getD 2 undef = .pointer (some ⟨w.heap.size, 0, none⟩)) (hu : a.tmps.getD 3 undef = .int .i64 0) (hd : a.defers = []) :
    bodyPost Try.prog Try.f27 (DecPost bs w) .ret a
      (set9 w1 w.heap.size (.bool r.s.v6) (.int .u64 r.s.hi) (.int .u64 r.s.lo) (.bool r.d.v6) (.int .u64 r.d.hi) (.int .u64 r.d.lo) (.int .i64 r.p) (.int .i64 r.t) (.slice A r.bs.length c)) := by
  subst hr
  have h0 : codeD bs = 0 := by unfold codeD; rw [if_pos hc, if_pos hv]
  exact bodyPost_ret (results_pk (s := (rdP bs).s) (d := (rdP bs).d) (p := (rdP bs).p) (t := (rdP bs).t) rfl hs (Blk.set9 hb _ _ _ _ _ _ _ _ _) hu) hd (by
    unfold DecPost
    rw [if_pos h0]
    exact ⟨_, rfl, own_base (own_apart hown (keep_set9 (X := (· = w.heap.size)) rfl _ _ _ _ _ _ _ _ _) hb (by decide)) (Nat.le_succ _), Ext.keep hE (keep_set9 (X := (· = w.heap.size)) rfl _ _ _ _ _ _ _ _ _) (Nat.le_refl _)⟩)
theorem dec_bad {bs : List Int} {w w1 : World} {a : Act} {c : Int} (hs : a.tmps.getD 2 undef = .pointer (some ⟨w.heap.size, 0, none⟩)) (hu : a.tmps.getD 3 undef = .int .i64 c) (hd : a.defers = []) (h0 : c ≠ 0) (hc : codeD bs = c) (hE : Ext w w1) (hb : Blk w1 w.heap.size 34 pkZC) :
    bodyPost Try.prog Try.f27 (DecPost bs w) .ret a (set9 w1 w.heap.size (.bool false) (.int .u64 0) (.int .u64 0) (.bool false) (.int .u64 0) (.int .u64 0) (.int .i64 0) (.int .i64 0) (.slice none 0 0)) := by
  subst hc
  exact bodyPost_ret (results_pk (s := ⟨false, 0, 0⟩) (d := ⟨false, 0, 0⟩) (p := 0) (t := 0) rfl hs (Blk.set9 hb _ _ _ _ _ _ _ _ _) hu) hd (by
    unfold DecPost
    rw [if_neg h0]
    exact ⟨rfl, Ext.keep hE (keep_set9 (X := (· = w.heap.size)) rfl _ _ _ _ _ _ _ _ _) (Nat.le_refl _)⟩)

def DecAt (w : World) (C : Int) (r : Rd) (v5 : Value) (wx : World) : Prop :=
  v5 = .int .i64 C ∧ Blk wx w.heap.size 34 pkZC ∧ Ext w wx ∧ ∃ (s d : Ad) (p t : Int) (A : Option Addr) (n c : Nat), Blk wx (w.heap.size + 1) 34 (pkC s d p t (.slice A n c)) ∧
    (C = 0 → (s = r.s ∧ d = r.d ∧ p = r.p ∧ t = r.t) ∧ n = r.bs.length ∧ wx.ownsRow (w.heap.size + 1) 5 1 (.slice A n c) r.bs.length (bytesV r.bs))

theorem decAt_of {w w1 w2 : World} {C : Int} {r : Rd} {s d : Ad} {p t : Int} {A : Option Addr} {n c : Nat} (hz : Blk w1 w.heap.size 34 pkZC) (hb : Blk w1 (w.heap.size + 1) 34 pkZC) (hE : Ext w w1) (h2 : Ext w1 w2)
    (hc : C = 0 → (s = r.s ∧ d = r.d ∧ p = r.p ∧ t = r.t) ∧ n = r.bs.length ∧ w2.ownsRow w1.heap.size 5 1 (.slice A n c) r.bs.length (bytesV r.bs)) :
    DecAt w C r (.int .i64 C) (set9 w2 (w.heap.size + 1) (.bool s.v6) (.int .u64 s.hi) (.int .u64 s.lo) (.bool d.v6) (.int .u64 d.hi) (.int .u64 d.lo) (.int .i64 p) (.int .i64 t) (.slice A n c)) := by
  have hb2 := hb.below h2 hb.lt
  have hz2 := hz.below h2 hz.lt
  have hk := keep_set9 (w := w2) (k := w.heap.size + 1) (X := (· = w.heap.size + 1)) rfl (.bool s.v6) (.int .u64 s.hi) (.int .u64 s.lo) (.bool d.v6) (.int .u64 d.hi) (.int .u64 d.lo) (.int .i64 p) (.int .i64 t) (.slice A n c)
  refine ⟨rfl, hz2.kept hk (by omega), Ext.keep (hE.trans h2) hk (Nat.le_succ _), s, d, p, t, A, n, c, Blk.set9 hb2 _ _ _ _ _ _ _ _ _, fun h => ?_⟩
  obtain ⟨h3, h4, h5⟩ := hc h
  exact ⟨h3, h4, own_base (own_apart h5 hk hb2 (by decide)) (Nat.le_of_lt hb.lt)⟩

set_option maxRecDepth 100000 in
set_option maxHeartbeats 4000000 in
theorem dec_any (b off n c : Nat) (bs : List Int) (w : World) (hB : IsB bs) (hr : Reads w w.heap.size 1 (some ⟨b, off, none⟩) n (bytesV bs)) (hc : n ≤ c) (hn : 0 < n) :
    Calls Try.prog 27 #[.slice (some ⟨b, off, none⟩) n c] w (DecPost bs w) := by
  have hn0 : (0 : Int) < (n : Int) := by omega
  have hne : ((n : Int) == 0) = false := by simp; omega
  have hl : bs.length = n := by have := hr.1; rw [bytesV_len] at this; omega
  have hb0 : Blk ((w.alloc (.cells pkZC 34)).alloc (.cells pkZC 34)) w.heap.size 34 pkZC := (Blk.new _ _ _).alloc _
  have hb1 : Blk ((w.alloc (.cells pkZC 34)).alloc (.cells pkZC 34)) (w.heap.size + 1) 34 pkZC := by
    have := Blk.new (w.alloc (.cells pkZC 34)) 34 pkZC
    rwa [World.size_alloc] at this
  have hE0 : Ext w ((w.alloc (.cells pkZC 34)).alloc (.cells pkZC 34)) := ((Ext.refl w).alloc _).alloc _
  have c0 : w.cell? ⟨b, off, none⟩ = some (.int .u8 (gB bs 0)) := by
    obtain ⟨b', off', e, _, hcell⟩ := hr.2 hn
    injection e with e
    injection e with e1 e2
    subst e1 e2
    simpa using hcell 0 _ (bytesV_get bs 0 (by omega))
  have hbl : b < w.heap.size := World.block_lt_of_cell? w _ c0
  have g0 := hB.at 0
  have hcode : Hid (codeR bs = if gB bs 0 / 16 = 4 then code4 n bs else if gB bs 0 / 16 = 6 then code6 n bs else 5) := by unfold Hid codeR; rw [if_neg (by omega), hl]
  have hrd : Hid (rdP bs = if gB bs 0 / 16 = 4 then rd4 bs else rd6 bs) := rfl
  have HL := Lib.hid hl
  clear hl
  go_enter Try.func27, Try.ntmps27
  go_upto_block 0 with fail
  obtain ⟨w1, hw1⟩ : ∃ w1, w1 = (w.alloc (.cells pkZC 34)).alloc (.cells pkZC 34) := ⟨_, rfl⟩
  have hw2 : (w.alloc (.cells #[.bool false, .int .u64 0, .int .u64 0, .bool false, .int .u64 0, .int .u64 0, .int .i64 0, .int .i64 0, .slice none 0 0] 34)).alloc (.cells #[.bool false, .int .u64 0, .int .u64 0, .bool false, .int .u64 0, .int .u64 0, .int .i64 0, .int .i64 0, .slice none 0 0] 34) = w1 := hw1.symm
  rw [hw2]
  rw [← hw1] at hb0 hb1 hE0
  clear hw1 hw2 c0 hbl hne hn0
  obtain ⟨C, HC⟩ : ∃ C, Hid (codeR bs = C) := ⟨_, rfl⟩
  obtain ⟨r, HR⟩ : ∃ r, Hid (rdP bs = r) := ⟨_, rfl⟩
  obtain ⟨X, HX⟩ : ∃ X, Hid (gB bs 0 / 16 = X) := ⟨_, rfl⟩
  rw [HX.out]
  rw [HX.out] at hcode hrd
  have hC0 := HC.out.symm.trans hcode.out
  have hR0 := HR.out.symm.trans hrd.out
  clear hcode hrd g0
  have HC0 := Lib.hid hC0
  have HR0 := Lib.hid hR0
  clear hC0 hR0
  go_cut [5] (fun v5 wx => DecAt w C r v5 wx)
  case first =>
    have hlt := hb1.lt
    by_cases k4 : X = 4
    · subst k4
      have hC : C = code4 n bs := by have := HC0.out; rwa [if_pos rfl] at this
      have hR : r = rd4 bs := by have := HR0.out; rwa [if_pos rfl] at this
      have HC1 := Lib.hid hC
      have HR1 := Lib.hid hR
      clear hC hR HC0 HR0
      go_wp2_with fail
      refine (four_rd b off n c bs _ hB (hr.ext hE0) hc).mono ?_
      rintro e w2 ⟨hE2, s, d, p, t, A, n', c', rfl, hcr⟩
      obtain ⟨a0, a1, a2, a3, a4, a5, a6, a7, a8, af⟩ := pk_cells (s := ⟨false, 0, 0⟩) (d := ⟨false, 0, 0⟩) (p := 0) (t := 0) (v := .slice none 0 0) (hb1.below hE2 hlt)
      have HB := Lib.hid hcr
      have H0 := Lib.hid hb0
      have H1 := Lib.hid hb1
      have HE := Lib.hid hE0
      have HE2 := Lib.hid hE2
      clear hcr hb0 hb1 hE0 hE2 hr hB
      unfold pkV
      go_wp2_with fail
      go_meet
      rw [HC1.out, HR1.out]
      exact decAt_of H0.out H1.out HE.out HE2.out HB.out
    · by_cases k6 : X = 6
      · subst k6
        have hC : C = code6 n bs := by have := HC0.out; rwa [if_neg (by decide), if_pos rfl] at this
        have hR : r = rd6 bs := by have := HR0.out; rwa [if_neg (by decide)] at this
        have HC1 := Lib.hid hC
        have HR1 := Lib.hid hR
        clear hC hR HC0 HR0 k4
        go_wp2_with fail
        refine (six_rd b off n c bs _ hB (hr.ext hE0) hc).mono ?_
        rintro e w2 ⟨hE2, s, d, p, t, A, n', c', rfl, hcr⟩
        obtain ⟨a0, a1, a2, a3, a4, a5, a6, a7, a8, af⟩ := pk_cells (s := ⟨false, 0, 0⟩) (d := ⟨false, 0, 0⟩) (p := 0) (t := 0) (v := .slice none 0 0) (hb1.below hE2 hlt)
        have HB := Lib.hid hcr
        have H0 := Lib.hid hb0
        have H1 := Lib.hid hb1
        have HE := Lib.hid hE0
        have HE2 := Lib.hid hE2
        clear hcr hb0 hb1 hE0 hE2 hr hB
        unfold pkV
        go_wp2_with fail
        go_meet
        rw [HC1.out, HR1.out]
        exact decAt_of H0.out H1.out HE.out HE2.out HB.out
      · have hC : C = 5 := by have := HC0.out; rwa [if_neg k4, if_neg k6] at this
        have HC1 := Lib.hid hC
        have e4 : (X == 4) = false := by simpa using k4
        have e6 : (X == 6) = false := by simpa using k6
        clear hC HC0 HR0 hr hB
        have H0 := Lib.hid hb0
        have H1 := Lib.hid hb1
        have HE := Lib.hid hE0
        clear hb0 hb1 hE0
        go_wp2_with fail
        go_meet
        rw [HC1.out]
        exact ⟨rfl, H0.out, HE.out, ⟨false, 0, 0⟩, ⟨false, 0, 0⟩, 0, 0, none, 0, 0, H1.out, fun h => absurd h (by decide)⟩
  case rest =>
    obtain ⟨rfl, hz, hE, s, d, p, t, A, n', c', hb, hcr⟩ := hcut
    obtain ⟨wo, rfl⟩ : ∃ wo : World, wo = wc := ⟨_, rfl⟩
    clear hb0 hb1 hE0 hr hB HC0 HR0 HX
    by_cases h0 : C = 0
    · subst h0
      obtain ⟨⟨rfl, rfl, rfl, rfl⟩, rfl, hown⟩ := hcr rfl
      clear hcr
      obtain ⟨a0, a1, a2, a3, a4, a5, a6, a7, a8, af⟩ := pk_cells hb
      have hlb := hb.lt
      have hlz := hz.lt
      have HB := Lib.hid hb
      have HZ := Lib.hid hz
      have HE := Lib.hid hE
      have HO := Lib.hid hown
      clear hb hz hE hown
      go_wp2_with fail
      refine (pvalid_any r.s r.d r.p r.t _ _ _ _).mono ?_
      rintro e w3 ⟨rfl, hE3⟩
      clear a0 a1 a2 a3 a4 a5 a6 a7 a8 af
      have hb3 := HB.out.below hE3 hlb
      have hz3 := HZ.out.below hE3 hlz
      have hown3 := own_ext HO.out hE3
      have hE4 := HE.out.trans hE3
      obtain ⟨a0, a1, a2, a3, a4, a5, a6, a7, a8, af⟩ := pk_cells hb3
      obtain ⟨d0, d1, d2, d3, d4, d5, d6, d7, d8, df⟩ := pk_cells (s := ⟨false, 0, 0⟩) (d := ⟨false, 0, 0⟩) (p := 0) (t := 0) (v := .slice none 0 0) hz3
      clear HB HZ HE HO hE3 hlb hlz
      have HB := Lib.hid hb3
      have HZ := Lib.hid hz3
      have HE := Lib.hid hE4
      have HO := Lib.hid hown3
      clear hb3 hz3 hE4 hown3
      by_cases hval : r.valid = true
      · have hv1 : validP r.s r.d r.p r.t r.bs.length = true := hval
        rw [hv1]
        have HV := Lib.hid hval
        clear hv1 hval
        go_wp2_with fail
        exact dec_good HR.out HC.out HV.out HZ.out HO.out HE.out rfl rfl rfl
      · have hv1 : validP r.s r.d r.p r.t r.bs.length = false := by simpa [Rd.valid] using hval
        rw [hv1]
        have hD : codeD bs = 3 := by unfold codeD; rw [if_pos HC.out, HR.out, if_neg hval]
        have HD := Lib.hid hD
        clear hv1 hval hD
        go_wp2_with fail
        exact dec_bad (c := 3) rfl rfl rfl (by decide) HD.out HE.out HZ.out
    · have e0 : (C == 0) = false := by simpa using h0
      have e1 : (C != 0) = true := by simpa using h0
      have hD : codeD bs = C := by unfold codeD; rw [HC.out, if_neg h0]
      have HD := Lib.hid hD
      obtain ⟨d0, d1, d2, d3, d4, d5, d6, d7, d8, df⟩ := pk_cells (s := ⟨false, 0, 0⟩) (d := ⟨false, 0, 0⟩) (p := 0) (t := 0) (v := .slice none 0 0) hz
      have HB := Lib.hid hb
      have HZ := Lib.hid hz
      have HE := Lib.hid hE
      clear hb hz hE hcr hD
      go_wp2_with fail
      exact dec_bad rfl rfl rfl h0 HD.out HE.out HZ.out

end Go.Proofs.Ytcdfmgkcadpgbaa
